/-
  A law of ranges holds at every input that the statement speaks of, under the conditions that its card names. Part I1.
-/
import Derived.Test.YtfdhicohflnjnaaGreatDoorH1
set_option linter.all false
namespace Go.Ab
open Go
set_option maxRecDepth 100000
def tb0:G4:=[]
theorem tk0:aqq dv tb0:=ah
def tb1:G4:=aqT tb0 [
 (F.poly_Valid,[.agg [I 1,.sl 4 [[.sl 1 [[I 1]],B true,.sl 1 [[U 1]],I 0],[.sl 1 [[I 2]],B false,.sl 1 [[U 1]],I 0]]]],B true),
 (F.dyadic_Cmp,[.agg [B false,.sl 1 [],I 0],.agg [B false,.sl 1 [[U 1]],I 0]],I (-1)),
 (F.interval_Valid,[.agg [B false,.sl 1 [],I 0,B false,.sl 1 [[U 1]],I 0,B false]],B true),
 (F.natural_Shl,[.sl 1 [],I 60],.tup [.sl 1 [],I 0]),
 (F.dyadic_Make,[B false,.sl 1 [],I (-60)],.tup [.agg [B false,.sl 1 [],I 0],I 0]),
 (F.round_round,[.agg [B false,.sl 1 [],I 0],I 60,B false],.tup [.agg [B false,.sl 1 [],I 0],I 0]),
 (F.natural_Shl,[.sl 1 [[U 1]],I 59],.tup [.sl 1 [[U 0],[U 134217728]],I 0]),
 (F.natural_Shr,[.sl 1 [[U 0],[U 134217728]],I 59],.tup [.sl 1 [[U 1]],I 0]),
 (F.dyadic_Make,[B false,.sl 1 [[U 0],[U 134217728]],I (-59)],.tup [.agg [B false,.sl 1 [[U 1]],I 0],I 0]),
 (F.round_cut,[.agg [.sl 1 [[U 1]],I 0,B false],I 60,B true],.tup [.agg [B false,.sl 1 [[U 1]],I 0],I 0]),
 (F.round_round,[.agg [B false,.sl 1 [[U 1]],I 0],I 60,B true],.tup [.agg [B false,.sl 1 [[U 1]],I 0],I 0]),
 (F.interval_end,[.agg [B false,.sl 1 [[U 1]],I 0],I 1,I 60,B true],.tup [.agg [B false,.sl 1 [[U 1]],I 0],I 0])]
theorem tk1:aqq dv tb1:=aqm (n:=150) tk0 (by kernel_rfl)
def tb2:G4:=aqT tb1 [
 (F.interval_Power,[.agg [B false,.sl 1 [],I 0,B false,.sl 1 [[U 1]],I 0,B false],I 1,I 60],.agg [B false,.sl 1 [],I 0,B false,.sl 1 [[U 1]],I 0,B false]),
 (F.dyadic_Top,[.agg [B true,.sl 1 [[U 1]],I 0]],I 1),
 (F.natural_Shl,[.sl 1 [[U 1]],I 0],.tup [.sl 1 [[U 1]],I 0]),
 (F.dyadic_Cmp,[.agg [B true,.sl 1 [[U 1]],I 0],.agg [B true,.sl 1 [[U 1]],I 0]],I 0),
 (F.interval_Valid,[.agg [B true,.sl 1 [[U 1]],I 0,B true,.sl 1 [[U 1]],I 0,B false]],B true),
 (F.round_fault,[I 60,.sl 3 [[B true,.sl 1 [[U 1]],I 0],[B false,.sl 1 [],I 0]]],I 0),
 (F.round_fault,[I 60,.sl 3 [[B true,.sl 1 [[U 1]],I 0],[B false,.sl 1 [[U 1]],I 0]]],I 0),
 (F.natural_Mul,[.sl 1 [[U 1]],.sl 1 [[U 1]]],.tup [.sl 1 [[U 1]],I 0]),
 (F.round_signed,[B true,.agg [.sl 1 [[U 1]],I 0,B false],I 60,B false],.tup [.agg [B true,.sl 1 [[U 1]],I 0],I 0]),
 (F.round_cut,[.agg [.sl 1 [[U 1]],I 0,B false],I 60,B false],.tup [.agg [B false,.sl 1 [[U 1]],I 0],I 0]),
 (F.round_signed,[B true,.agg [.sl 1 [[U 1]],I 0,B false],I 60,B true],.tup [.agg [B true,.sl 1 [[U 1]],I 0],I 0]),
 (F.dyadic_Cmp,[.agg [B true,.sl 1 [[U 1]],I 0],.agg [B false,.sl 1 [],I 0]],I (-1))]
theorem tk2:aqq dv tb2:=aqm (n:=150) tk1 (by kernel_rfl)
def tb3:G4:=aqT tb2 [
 (F.dyadic_Cmp,[.agg [B false,.sl 1 [],I 0],.agg [B true,.sl 1 [[U 1]],I 0]],I 1),
 (F.interval_four,[.agg [B true,.sl 1 [[U 1]],I 0,B true,.sl 1 [[U 1]],I 0,B false],.agg [B false,.sl 1 [],I 0,B false,.sl 1 [[U 1]],I 0,B false],I 60,.fn F.round_MulDown [] [],.fn F.round_MulUp [] []],.agg [B true,.sl 1 [[U 1]],I 0,B false,.sl 1 [],I 0,B false]),
 (F.interval_Valid,[.agg [B false,.sl 1 [],I 0,B false,.sl 1 [],I 0,B false]],B true),
 (F.interval_Valid,[.agg [B true,.sl 1 [[U 1]],I 0,B false,.sl 1 [],I 0,B false]],B true),
 (F.round_fault,[I 60,.sl 3 [[B false,.sl 1 [],I 0],[B true,.sl 1 [[U 1]],I 0]]],I 0),
 (F.round_round,[.agg [B true,.sl 1 [[U 1]],I 0],I 60,B false],.tup [.agg [B true,.sl 1 [[U 1]],I 0],I 0]),
 (F.round_round,[.agg [B false,.sl 1 [],I 0],I 60,B true],.tup [.agg [B false,.sl 1 [],I 0],I 0]),
 (F.interval_Add,[.agg [B false,.sl 1 [],I 0,B false,.sl 1 [],I 0,B false],.agg [B true,.sl 1 [[U 1]],I 0,B false,.sl 1 [],I 0,B false],I 60],.agg [B true,.sl 1 [[U 1]],I 0,B false,.sl 1 [],I 0,B false]),
 (F.interval_Sign,[.agg [B false,.sl 1 [],I 0,B false,.sl 1 [[U 1]],I 0,B false]],I 0),
 (F.interval_Mag,[.agg [B false,.sl 1 [],I 0,B false,.sl 1 [[U 1]],I 0,B false]],.tup [.agg [B false,.sl 1 [[U 1]],I 0],B true]),
 (F.interval_power,[.agg [B false,.sl 1 [],I 0],I 2,I 60,.fn F.round_Down [] [],.fn F.round_MulDown [] []],.tup [.agg [B false,.sl 1 [],I 0],I 0]),
 (F.round_fault,[I 60,.sl 3 [[B false,.sl 1 [[U 1]],I 0],[B false,.sl 1 [[U 1]],I 0]]],I 0)]
theorem tk3:aqq dv tb3:=aqm (n:=150) tk2 (by kernel_rfl)
def tb4:G4:=aqT tb3 [
 (F.interval_end,[.agg [B false,.sl 1 [[U 1]],I 0],I 2,I 60,B true],.tup [.agg [B false,.sl 1 [[U 1]],I 0],I 0]),
 (F.interval_Power,[.agg [B false,.sl 1 [],I 0,B false,.sl 1 [[U 1]],I 0,B false],I 2,I 60],.agg [B false,.sl 1 [],I 0,B false,.sl 1 [[U 1]],I 0,B false]),
 (F.dyadic_Top,[.agg [B false,.sl 1 [[U 1]],I 0]],I 1),
 (F.dyadic_Cmp,[.agg [B false,.sl 1 [[U 1]],I 0],.agg [B false,.sl 1 [[U 1]],I 0]],I 0),
 (F.interval_Valid,[.agg [B false,.sl 1 [[U 1]],I 0,B false,.sl 1 [[U 1]],I 0,B false]],B true),
 (F.round_fault,[I 60,.sl 3 [[B false,.sl 1 [[U 1]],I 0],[B false,.sl 1 [],I 0]]],I 0),
 (F.dyadic_Cmp,[.agg [B false,.sl 1 [[U 1]],I 0],.agg [B false,.sl 1 [],I 0]],I 1),
 (F.interval_four,[.agg [B false,.sl 1 [[U 1]],I 0,B false,.sl 1 [[U 1]],I 0,B false],.agg [B false,.sl 1 [],I 0,B false,.sl 1 [[U 1]],I 0,B false],I 60,.fn F.round_MulDown [] [],.fn F.round_MulUp [] []],.agg [B false,.sl 1 [],I 0,B false,.sl 1 [[U 1]],I 0,B false]),
 (F.round_fault,[I 60,.sl 3 [[B false,.sl 1 [],I 0],[B false,.sl 1 [[U 1]],I 0]]],I 0),
 (F.interval_Add,[.agg [B true,.sl 1 [[U 1]],I 0,B false,.sl 1 [],I 0,B false],.agg [B false,.sl 1 [],I 0,B false,.sl 1 [[U 1]],I 0,B false],I 60],.agg [B true,.sl 1 [[U 1]],I 0,B false,.sl 1 [[U 1]],I 0,B false]),
 (F.bound_Naive,[.agg [I 1,.sl 4 [[.sl 1 [[I 1]],B true,.sl 1 [[U 1]],I 0],[.sl 1 [[I 2]],B false,.sl 1 [[U 1]],I 0]]],.sl 7 [[B false,.sl 1 [],I 0,B false,.sl 1 [[U 1]],I 0,B false]],I 60],.agg [B true,.sl 1 [[U 1]],I 0,B false,.sl 1 [[U 1]],I 0,B false]),
 (F.bound_gridOf,[.agg [I 1,.sl 4 [[.sl 1 [[I 1]],B true,.sl 1 [[U 1]],I 0],[.sl 1 [[I 2]],B false,.sl 1 [[U 1]],I 0]]],I 60],.tup [.obx [.osl 1 [[I 2]],.osl 7 [[B false,.sl 1 [],I 0,B false,.sl 1 [],I 0,B false],[B true,.sl 1 [[U 1]],I 0,B true,.sl 1 [[U 1]],I 0,B false],[B false,.sl 1 [[U 1]],I 0,B false,.sl 1 [[U 1]],I 0,B false]],I 60],B true])]
theorem tk4:aqq dv tb4:=aqm (n:=150) tk3 (by kernel_rfl)
def tb5:G4:=aqT tb4 [
 (F.round_round,[.agg [B false,.sl 1 [[U 1]],I 0],I 60,B false],.tup [.agg [B false,.sl 1 [[U 1]],I 0],I 0]),
 (F.interval_Add,[.agg [B false,.sl 1 [[U 1]],I 0,B false,.sl 1 [[U 1]],I 0,B false],.agg [B false,.sl 1 [],I 0,B false,.sl 1 [],I 0,B false],I 60],.agg [B false,.sl 1 [[U 1]],I 0,B false,.sl 1 [[U 1]],I 0,B false]),
 (F.interval_four,[.agg [B false,.sl 1 [],I 0,B false,.sl 1 [],I 0,B false],.agg [B false,.sl 1 [[U 1]],I 0,B false,.sl 1 [[U 1]],I 0,B false],I 60,.fn F.round_MulDown [] [],.fn F.round_MulUp [] []],.agg [B false,.sl 1 [],I 0,B false,.sl 1 [],I 0,B false]),
 (F.round_round,[.agg [B true,.sl 1 [[U 1]],I 0],I 60,B true],.tup [.agg [B true,.sl 1 [[U 1]],I 0],I 0]),
 (F.interval_Add,[.agg [B true,.sl 1 [[U 1]],I 0,B true,.sl 1 [[U 1]],I 0,B false],.agg [B false,.sl 1 [],I 0,B false,.sl 1 [],I 0,B false],I 60],.agg [B true,.sl 1 [[U 1]],I 0,B true,.sl 1 [[U 1]],I 0,B false]),
 (F.interval_four,[.agg [B false,.sl 1 [],I 0,B false,.sl 1 [],I 0,B false],.agg [B true,.sl 1 [[U 1]],I 0,B true,.sl 1 [[U 1]],I 0,B false],I 60,.fn F.round_MulDown [] [],.fn F.round_MulUp [] []],.agg [B false,.sl 1 [],I 0,B false,.sl 1 [],I 0,B false]),
 (F.interval_Add,[.agg [B false,.sl 1 [],I 0,B false,.sl 1 [],I 0,B false],.agg [B false,.sl 1 [],I 0,B false,.sl 1 [],I 0,B false],I 60],.agg [B false,.sl 1 [],I 0,B false,.sl 1 [],I 0,B false]),
 (F.natural_Shr,[.sl 1 [[U 1]],I 0],.tup [.sl 1 [[U 1]],I 0]),
 (F.interval_four,[.agg [B false,.sl 1 [[U 1]],I 0,B false,.sl 1 [[U 1]],I 0,B false],.agg [B false,.sl 1 [[U 1]],I 0,B false,.sl 1 [[U 1]],I 0,B false],I 60,.fn F.round_MulDown [] [],.fn F.round_MulUp [] []],.agg [B false,.sl 1 [[U 1]],I 0,B false,.sl 1 [[U 1]],I 0,B false]),
 (F.interval_four,[.agg [B true,.sl 1 [[U 1]],I 0,B true,.sl 1 [[U 1]],I 0,B false],.agg [B false,.sl 1 [[U 1]],I 0,B false,.sl 1 [[U 1]],I 0,B false],I 60,.fn F.round_MulDown [] [],.fn F.round_MulUp [] []],.agg [B true,.sl 1 [[U 1]],I 0,B true,.sl 1 [[U 1]],I 0,B false]),
 (F.natural_Shr,[.sl 1 [[U 2]],I 1],.tup [.sl 1 [[U 1]],I 0]),
 (F.dyadic_Top,[.agg [B false,.sl 1 [[U 1]],I 1]],I 2)]
theorem tk5:aqq dv tb5:=aqm (n:=150) tk4 (by kernel_rfl)
def tb6:G4:=aqT tb5 [
 (F.dyadic_Cmp,[.agg [B false,.sl 1 [[U 1]],I 1],.agg [B false,.sl 1 [[U 1]],I 1]],I 0),
 (F.interval_Valid,[.agg [B false,.sl 1 [[U 1]],I 1,B false,.sl 1 [[U 1]],I 1,B false]],B true),
 (F.round_fault,[I 60,.sl 3 [[B false,.sl 1 [[U 1]],I 0],[B false,.sl 1 [[U 1]],I 1]]],I 0),
 (F.dyadic_Make,[B false,.sl 1 [[U 0],[U 134217728]],I (-58)],.tup [.agg [B false,.sl 1 [[U 1]],I 1],I 0]),
 (F.round_cut,[.agg [.sl 1 [[U 1]],I 1,B false],I 60,B false],.tup [.agg [B false,.sl 1 [[U 1]],I 1],I 0]),
 (F.round_cut,[.agg [.sl 1 [[U 1]],I 1,B false],I 60,B true],.tup [.agg [B false,.sl 1 [[U 1]],I 1],I 0]),
 (F.interval_four,[.agg [B false,.sl 1 [[U 1]],I 0,B false,.sl 1 [[U 1]],I 0,B false],.agg [B false,.sl 1 [[U 1]],I 1,B false,.sl 1 [[U 1]],I 1,B false],I 60,.fn F.round_MulDown [] [],.fn F.round_MulUp [] []],.agg [B false,.sl 1 [[U 1]],I 1,B false,.sl 1 [[U 1]],I 1,B false]),
 (F.interval_Sign,[.agg [B false,.sl 1 [[U 1]],I 0,B false,.sl 1 [[U 1]],I 0,B false]],I 1),
 (F.round_fault,[I 60,.sl 3 [[B false,.sl 1 [[U 1]],I 1],[B false,.sl 1 [[U 1]],I 0]]],I 0),
 (F.dyadic_Bits,[.agg [B false,.sl 1 [[U 1]],I 0]],I 1),
 (F.dyadic_Bits,[.agg [B false,.sl 1 [[U 1]],I 1]],I 1),
 (F.natural_Shl,[.sl 1 [[U 1]],I 63],.tup [.sl 1 [[U 0],[U 2147483648]],I 0])]
theorem tk6:aqq dv tb6:=aqm (n:=150) tk5 (by kernel_rfl)
def tb7:G4:=aqT tb6 [
 (F.natural_divide,[.sl 1 [[U 0],[U 2147483648]],.sl 1 [[U 1]]],.tup [.sl 1 [[U 0],[U 2147483648]],.sl 1 [[U 0]]]),
 (F.natural_DivMod,[.sl 1 [[U 0],[U 2147483648]],.sl 1 [[U 1]]],.tup [.sl 1 [[U 0],[U 2147483648]],.sl 1 [],I 0]),
 (F.natural_Shr,[.sl 1 [[U 0],[U 2147483648]],I 4],.tup [.sl 1 [[U 0],[U 134217728]],I 0]),
 (F.natural_Shl,[.sl 1 [[U 0],[U 134217728]],I 4],.tup [.sl 1 [[U 0],[U 2147483648]],I 0]),
 (F.round_shr,[.sl 1 [[U 0],[U 2147483648]],I 4],.tup [.sl 1 [[U 0],[U 134217728]],B false]),
 (F.round_signed,[B false,.agg [.sl 1 [[U 0],[U 2147483648]],I (-62),B false],I 60,B false],.tup [.agg [B false,.sl 1 [[U 1]],I 1],I 0]),
 (F.round_signed,[B false,.agg [.sl 1 [[U 0],[U 2147483648]],I (-62),B false],I 60,B true],.tup [.agg [B false,.sl 1 [[U 1]],I 1],I 0]),
 (F.interval_four,[.agg [B false,.sl 1 [[U 1]],I 1,B false,.sl 1 [[U 1]],I 1,B false],.agg [B false,.sl 1 [[U 1]],I 0,B false,.sl 1 [[U 1]],I 0,B false],I 60,.fn F.round_DivDown [] [],.fn F.round_DivUp [] []],.agg [B false,.sl 1 [[U 1]],I 1,B false,.sl 1 [[U 1]],I 1,B false]),
 (F.interval_Sign,[.agg [B false,.sl 1 [[U 1]],I 1,B false,.sl 1 [[U 1]],I 1,B false]],I 1),
 (F.round_fault,[I 60,.sl 3 [[B true,.sl 1 [[U 1]],I 0],[B false,.sl 1 [[U 1]],I 1]]],I 0),
 (F.dyadic_Bits,[.agg [B true,.sl 1 [[U 1]],I 0]],I 1),
 (F.dyadic_Make,[B false,.sl 1 [[U 0],[U 134217728]],I (-60)],.tup [.agg [B false,.sl 1 [[U 1]],I (-1)],I 0])]
theorem tk7:aqq dv tb7:=aqm (n:=150) tk6 (by kernel_rfl)
def tb8:G4:=aqT tb7 [
 (F.round_signed,[B true,.agg [.sl 1 [[U 0],[U 2147483648]],I (-64),B false],I 60,B false],.tup [.agg [B true,.sl 1 [[U 1]],I (-1)],I 0]),
 (F.round_signed,[B true,.agg [.sl 1 [[U 0],[U 2147483648]],I (-64),B false],I 60,B true],.tup [.agg [B true,.sl 1 [[U 1]],I (-1)],I 0]),
 (F.dyadic_Top,[.agg [B true,.sl 1 [[U 1]],I (-1)]],I 0),
 (F.dyadic_Cmp,[.agg [B true,.sl 1 [[U 1]],I (-1)],.agg [B true,.sl 1 [[U 1]],I (-1)]],I 0),
 (F.interval_four,[.agg [B true,.sl 1 [[U 1]],I 0,B true,.sl 1 [[U 1]],I 0,B false],.agg [B false,.sl 1 [[U 1]],I 1,B false,.sl 1 [[U 1]],I 1,B false],I 60,.fn F.round_DivDown [] [],.fn F.round_DivUp [] []],.agg [B true,.sl 1 [[U 1]],I (-1),B true,.sl 1 [[U 1]],I (-1),B false]),
 (F.interval_four,[.agg [B false,.sl 1 [[U 1]],I 1,B false,.sl 1 [[U 1]],I 1,B false],.agg [B false,.sl 1 [[U 1]],I 0,B false,.sl 1 [[U 1]],I 0,B false],I 60,.fn F.round_MulDown [] [],.fn F.round_MulUp [] []],.agg [B false,.sl 1 [[U 1]],I 1,B false,.sl 1 [[U 1]],I 1,B false]),
 (F.round_fault,[I 60,.sl 3 [[B false,.sl 1 [[U 1]],I 1],[B false,.sl 1 [[U 1]],I 1]]],I 0),
 (F.round_signed,[B false,.agg [.sl 1 [[U 0],[U 2147483648]],I (-63),B false],I 60,B false],.tup [.agg [B false,.sl 1 [[U 1]],I 0],I 0]),
 (F.round_signed,[B false,.agg [.sl 1 [[U 0],[U 2147483648]],I (-63),B false],I 60,B true],.tup [.agg [B false,.sl 1 [[U 1]],I 0],I 0]),
 (F.interval_four,[.agg [B false,.sl 1 [[U 1]],I 1,B false,.sl 1 [[U 1]],I 1,B false],.agg [B false,.sl 1 [[U 1]],I 1,B false,.sl 1 [[U 1]],I 1,B false],I 60,.fn F.round_DivDown [] [],.fn F.round_DivUp [] []],.agg [B false,.sl 1 [[U 1]],I 0,B false,.sl 1 [[U 1]],I 0,B false]),
 (F.interval_four,[.agg [B false,.sl 1 [[U 1]],I 0,B false,.sl 1 [[U 1]],I 0,B false],.agg [B false,.sl 1 [[U 1]],I 0,B false,.sl 1 [[U 1]],I 0,B false],I 60,.fn F.round_DivDown [] [],.fn F.round_DivUp [] []],.agg [B false,.sl 1 [[U 1]],I 0,B false,.sl 1 [[U 1]],I 0,B false]),
 (F.interval_Valid,[.agg [B true,.sl 1 [[U 1]],I (-1),B true,.sl 1 [[U 1]],I (-1),B false]],B true)]
theorem tk8:aqq dv tb8:=aqm (n:=150) tk7 (by kernel_rfl)
def tb9:G4:=aqT tb8 [
 (F.round_fault,[I 60,.sl 3 [[B false,.sl 1 [[U 1]],I 0],[B true,.sl 1 [[U 1]],I (-1)]]],I 0),
 (F.natural_Shl,[.sl 1 [[U 1]],I 67],.tup [.sl 1 [[U 0],[U 0],[U 8]],I 0]),
 (F.natural_Shl,[.sl 1 [[U 1]],I 66],.tup [.sl 1 [[U 0],[U 0],[U 4]],I 0]),
 (F.natural_Sub,[.sl 1 [[U 0],[U 0],[U 8]],.sl 1 [[U 0],[U 0],[U 4]]],.tup [.sl 1 [[U 0],[U 0],[U 4]],I 0]),
 (F.natural_Shr,[.sl 1 [[U 0],[U 0],[U 4]],I 7],.tup [.sl 1 [[U 0],[U 134217728]],I 0]),
 (F.natural_Shl,[.sl 1 [[U 0],[U 134217728]],I 7],.tup [.sl 1 [[U 0],[U 0],[U 4]],I 0]),
 (F.round_shr,[.sl 1 [[U 0],[U 0],[U 4]],I 7],.tup [.sl 1 [[U 0],[U 134217728]],B false]),
 (F.round_signed,[B false,.agg [.sl 1 [[U 0],[U 0],[U 4]],I (-67),B false],I 60,B false],.tup [.agg [B false,.sl 1 [[U 1]],I (-1)],I 0]),
 (F.round_add,[.agg [B false,.sl 1 [[U 1]],I 0],.agg [B true,.sl 1 [[U 1]],I (-1)],I 60,B false],.tup [.agg [B false,.sl 1 [[U 1]],I (-1)],I 0]),
 (F.round_signed,[B false,.agg [.sl 1 [[U 0],[U 0],[U 4]],I (-67),B false],I 60,B true],.tup [.agg [B false,.sl 1 [[U 1]],I (-1)],I 0]),
 (F.round_add,[.agg [B false,.sl 1 [[U 1]],I 0],.agg [B true,.sl 1 [[U 1]],I (-1)],I 60,B true],.tup [.agg [B false,.sl 1 [[U 1]],I (-1)],I 0]),
 (F.round_fault,[I 60,.sl 3 [[B true,.sl 1 [[U 1]],I (-1)],[B false,.sl 1 [],I 0]]],I 0)]
theorem tk9:aqq dv tb9:=aqm (n:=150) tk8 (by kernel_rfl)
def auK:G4:=aqT tb9 [
 (F.round_cut,[.agg [.sl 1 [[U 1]],I (-1),B false],I 60,B true],.tup [.agg [B false,.sl 1 [[U 1]],I (-1)],I 0]),
 (F.round_signed,[B true,.agg [.sl 1 [[U 1]],I (-1),B false],I 60,B false],.tup [.agg [B true,.sl 1 [[U 1]],I (-1)],I 0]),
 (F.round_round,[.agg [B true,.sl 1 [[U 1]],I (-1)],I 60,B false],.tup [.agg [B true,.sl 1 [[U 1]],I (-1)],I 0]),
 (F.round_cut,[.agg [.sl 1 [[U 1]],I (-1),B false],I 60,B false],.tup [.agg [B false,.sl 1 [[U 1]],I (-1)],I 0]),
 (F.round_signed,[B true,.agg [.sl 1 [[U 1]],I (-1),B false],I 60,B true],.tup [.agg [B true,.sl 1 [[U 1]],I (-1)],I 0]),
 (F.round_round,[.agg [B true,.sl 1 [[U 1]],I (-1)],I 60,B true],.tup [.agg [B true,.sl 1 [[U 1]],I (-1)],I 0]),
 (F.interval_Add,[.agg [B true,.sl 1 [[U 1]],I (-1),B true,.sl 1 [[U 1]],I (-1),B false],.agg [B false,.sl 1 [],I 0,B false,.sl 1 [],I 0,B false],I 60],.agg [B true,.sl 1 [[U 1]],I (-1),B true,.sl 1 [[U 1]],I (-1),B false]),
 (F.dyadic_Top,[.agg [B false,.sl 1 [[U 1]],I (-1)]],I 0),
 (F.dyadic_Cmp,[.agg [B false,.sl 1 [[U 1]],I (-1)],.agg [B false,.sl 1 [[U 1]],I (-1)]],I 0),
 (F.interval_Valid,[.agg [B false,.sl 1 [[U 1]],I (-1),B false,.sl 1 [[U 1]],I (-1),B false]],B true),
 (F.round_fault,[I 60,.sl 3 [[B false,.sl 1 [[U 1]],I (-1)],[B true,.sl 1 [[U 1]],I (-1)]]],I 0),
 (F.natural_Sub,[.sl 1 [[U 0],[U 0],[U 8]],.sl 1 [[U 0],[U 0],[U 8]]],.tup [.sl 1 [],I 0])]
theorem avl:aqq dv auK:=aqm (n:=150) tk9 (by kernel_rfl)
def auL:G4:=aqT auK [
 (F.round_add,[.agg [B false,.sl 1 [[U 1]],I (-1)],.agg [B true,.sl 1 [[U 1]],I (-1)],I 60,B false],.tup [.agg [B false,.sl 1 [],I 0],I 0]),
 (F.round_add,[.agg [B false,.sl 1 [[U 1]],I (-1)],.agg [B true,.sl 1 [[U 1]],I (-1)],I 60,B true],.tup [.agg [B false,.sl 1 [],I 0],I 0]),
 (F.interval_Hull,[.agg [B false,.sl 1 [],I 0,B false,.sl 1 [],I 0,B false],.agg [B false,.sl 1 [],I 0,B false,.sl 1 [],I 0,B false]],.agg [B false,.sl 1 [],I 0,B false,.sl 1 [],I 0,B false]),
 (F.dyadic_Cmp,[.agg [B false,.sl 1 [],I 0],.agg [B true,.sl 1 [[U 1]],I (-1)]],I 1),
 (F.dyadic_Cmp,[.agg [B true,.sl 1 [[U 1]],I (-1)],.agg [B false,.sl 1 [],I 0]],I (-1)),
 (F.interval_Valid,[.agg [B true,.sl 1 [[U 1]],I (-1),B false,.sl 1 [],I 0,B false]],B true),
 (F.interval_Hull,[.agg [B true,.sl 1 [[U 1]],I (-1),B false,.sl 1 [],I 0,B false],.agg [B false,.sl 1 [],I 0,B false,.sl 1 [],I 0,B false]],.agg [B true,.sl 1 [[U 1]],I (-1),B false,.sl 1 [],I 0,B false]),
 (F.bound_Bernstein,[.agg [I 1,.sl 4 [[.sl 1 [[I 1]],B true,.sl 1 [[U 1]],I 0],[.sl 1 [[I 2]],B false,.sl 1 [[U 1]],I 0]]],.sl 7 [[B false,.sl 1 [],I 0,B false,.sl 1 [[U 1]],I 0,B false]],I 60],.agg [B true,.sl 1 [[U 1]],I (-1),B false,.sl 1 [],I 0,B false]),
 (F.dyadic_Cmp,[.agg [B true,.sl 1 [[U 1]],I 0],.agg [B false,.sl 1 [[U 1]],I 0]],I (-1)),
 (F.interval_Valid,[.agg [B true,.sl 1 [[U 1]],I 0,B false,.sl 1 [[U 1]],I 0,B false]],B true),
 (F.dyadic_Cmp,[.agg [B true,.sl 1 [[U 1]],I 0],.agg [B true,.sl 1 [[U 1]],I (-1)]],I (-1)),
 (F.bound_Best,[.agg [I 1,.sl 4 [[.sl 1 [[I 1]],B true,.sl 1 [[U 1]],I 0],[.sl 1 [[I 2]],B false,.sl 1 [[U 1]],I 0]]],.sl 7 [[B false,.sl 1 [],I 0,B false,.sl 1 [[U 1]],I 0,B false]],I 60],.agg [B true,.sl 1 [[U 1]],I (-1),B false,.sl 1 [],I 0,B false])]
theorem avm:aqq dv auL:=aqm (n:=150) avl (by kernel_rfl)
def avn:G4:=aqT auL [
 (F.r02_Cmp,[.agg [B true,.sl 1 [[U 1]],I 0],.agg [B true,.sl 1 [[U 1]],I (-1)]],I (-1)),
 (F.r05_Inside,[.agg [B true,.sl 1 [[U 1]],I (-1),B false,.sl 1 [],I 0,B false],.agg [B true,.sl 1 [[U 1]],I 0,B false,.sl 1 [[U 1]],I 0,B false]],B true),
 (F.r02_Cmp,[.agg [B true,.sl 1 [[U 1]],I (-1)],.agg [B true,.sl 1 [[U 1]],I (-2)]],I (-1)),
 (F.r05_Inside,[.agg [B true,.sl 1 [[U 1]],I (-2),B false,.sl 1 [],I 0,B false],.agg [B true,.sl 1 [[U 1]],I (-1),B false,.sl 1 [],I 0,B false]],B true),
 (F.l24_awake,[],B true)]
theorem avo:aqq dv avn:=aqm (n:=150) avm (by kernel_rfl)
theorem aw0:R F.l24_awake [] []=some (B true,[]):=KA avo (by kernel_rfl)
end Go.Ab
