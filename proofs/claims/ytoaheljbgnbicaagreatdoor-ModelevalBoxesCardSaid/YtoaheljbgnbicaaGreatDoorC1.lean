/-
  A law of tapes on models holds at every input that the statement speaks of, under the conditions that its card names. Part C1.
-/
import Derived.Test.YtoaheljbgnbicaaGreatDoorProg
import Derived.KernelRfl
import Derived.Test.YtoaheljbgnbicaaGreatDoorB1
open Nat renaming add_zero → av1, le_refl → avt, lt_of_le_of_lt → awl, mul_assoc → avT, mul_comm → avM, pow_add → avG, pow_succ → awb, two_pow_pos → avJ, zero_add → avs
open List renaming cons_append → avS, length_cons → av2, replicate → avr
set_option linter.all false
namespace Go.Ab
open Go
open Go.Proofs
set_option maxRecDepth 100000
set_option maxHeartbeats 4000000
abbrev F.l27_ModelevalBoxes:FuncId:=3
abbrev F.l27_awake:FuncId:=5
abbrev F.l27_great:FuncId:=6
abbrev F.slices_ContainsFunc_api_Interval_api_Interval_:FuncId:=7
abbrev F.l27_wide:FuncId:=8
abbrev F.modeleval_Box:FuncId:=9
abbrev F.modeleval_At:FuncId:=10
abbrev F.modeleval_Of:FuncId:=11
abbrev F.model_ValidSpace:FuncId:=12
abbrev F.l27_one:FuncId:=13
abbrev F.model_Bound:FuncId:=14
abbrev F.model_Eval:FuncId:=15
abbrev F.l27_same:FuncId:=16
abbrev F.model_Const:FuncId:=17
abbrev F.l27_num:FuncId:=18
abbrev F.model_Var:FuncId:=19
abbrev F.modeleval_Run:FuncId:=22
abbrev F.r23_Same:FuncId:=23
abbrev F.l27_square:FuncId:=24
abbrev F.slices_ContainsFunc_api_Model_api_Model_:FuncId:=25
abbrev F.l27_great_1:FuncId:=26
abbrev F.slices_ContainsFunc_api_Term_api_Term_:FuncId:=27
abbrev F.l27_great_1_1:FuncId:=28
abbrev F.slices_IndexFunc_api_Interval_api_Interval_:FuncId:=29
abbrev F.modeleval_each_api_Model_api_Interval_:FuncId:=30
abbrev F.modeleval_Box_1:FuncId:=31
abbrev F.modeleval_At_1:FuncId:=32
abbrev F.modeleval_each_api_Interval_api_Model_:FuncId:=33
abbrev F.modeleval_Of_1:FuncId:=34
abbrev F.dyadic_Int:FuncId:=35
abbrev F.model_ValidSpace_1:FuncId:=36
abbrev F.interval_Inside:FuncId:=37
abbrev F.l27_number:FuncId:=38
abbrev F.model_every:FuncId:=39
abbrev F.interval_Whole:FuncId:=40
abbrev F.interval_Add:FuncId:=41
abbrev F.model_ranged:FuncId:=42
abbrev F.slices_EqualFunc_api_Interval_Sapi_Interval_api_Interval_api_Interval_:FuncId:=43
abbrev F.interval_Valid:FuncId:=44
abbrev F.model_none:FuncId:=45
abbrev F.interval_Mid:FuncId:=46
abbrev F.poly_Const:FuncId:=47
abbrev F.model_made:FuncId:=48
abbrev F.interval_Sub:FuncId:=49
abbrev F.interval_Point:FuncId:=50
abbrev F.poly_Var:FuncId:=51
abbrev F.model_whole:FuncId:=52
abbrev F.r23_Compare:FuncId:=53
abbrev F.modeleval_valid:FuncId:=55
abbrev F.slices_Clone_api_Model_api_Model_:FuncId:=56
abbrev F.ratio_Enclose:FuncId:=57
abbrev F.modelfun_Apply:FuncId:=58
abbrev F.r23_number:FuncId:=59
abbrev F.slices_IndexFunc_api_Model_api_Model_:FuncId:=60
abbrev F.slices_IndexFunc_api_Term_api_Term_:FuncId:=61
abbrev F.dyadic_canonical:FuncId:=62
abbrev F.dyadic_Cmp:FuncId:=63
abbrev F.slices_Equal_uint32_uint32_:FuncId:=64
abbrev F.model_every_1:FuncId:=65
abbrev F.model_Valid:FuncId:=66
abbrev F.interval_known:FuncId:=67
abbrev F.interval_permitted:FuncId:=68
abbrev F.round_AddDown:FuncId:=69
abbrev F.round_AddUp:FuncId:=70
abbrev F.interval_made:FuncId:=71
abbrev F.bound_Best:FuncId:=72
abbrev F.interval_Valid_1:FuncId:=73
abbrev F.dyadic_Valid:FuncId:=74
abbrev F.dyadic_Scale:FuncId:=75
abbrev F.interval_Has:FuncId:=76
abbrev F.poly_empty:FuncId:=77
abbrev F.poly_collector_add:FuncId:=78
abbrev F.poly_collector_done:FuncId:=79
abbrev F.model_cut:FuncId:=80
abbrev F.interval_Neg:FuncId:=81
abbrev F.r23_sum:FuncId:=82
abbrev F.tape_Valid:FuncId:=86
abbrev F.ratio_Valid:FuncId:=87
abbrev F.round_DivDown:FuncId:=88
abbrev F.round_DivUp:FuncId:=89
abbrev F.model_Add:FuncId:=90
abbrev F.model_Sub:FuncId:=91
abbrev F.model_Mul:FuncId:=92
abbrev F.modelfun_Divide:FuncId:=93
abbrev F.model_Neg:FuncId:=94
abbrev F.modelfun_Power:FuncId:=95
abbrev F.modelfun_Exp:FuncId:=96
abbrev F.modelfun_Log:FuncId:=97
abbrev F.modelfun_Sin:FuncId:=98
abbrev F.modelfun_Cos:FuncId:=99
abbrev F.modelfun_Sqrt:FuncId:=100
abbrev F.modelfun_whole:FuncId:=101
abbrev F.dyadic_trimmed:FuncId:=102
abbrev F.dyadic_low:FuncId:=103
abbrev F.natural_Shr:FuncId:=104
abbrev F.slices_Clip_uint32_uint32_:FuncId:=105
abbrev F.slices_Clone_uint32_uint32_:FuncId:=106
abbrev F.dyadic_Sign:FuncId:=107
abbrev F.dyadic_compare:FuncId:=108
abbrev F.poly_Valid:FuncId:=109
abbrev F.poly_Degree:FuncId:=110
abbrev F.model_Valid_1:FuncId:=111
abbrev F.round_Is:FuncId:=112
abbrev F.round_add:FuncId:=113
abbrev F.bound_fits:FuncId:=114
abbrev F.bound_whole:FuncId:=115
abbrev F.interval_Meet:FuncId:=116
abbrev F.bound_Naive:FuncId:=117
abbrev F.bound_Bernstein:FuncId:=118
abbrev F.dyadic_inRange:FuncId:=119
abbrev F.dyadic_exponent:FuncId:=120
abbrev F.dyadic_checked:FuncId:=121
abbrev F.slices_BinarySearchFunc_api_Term_api_Term_Sint_:FuncId:=122
abbrev F.poly_collector_add_1:FuncId:=123
abbrev F.poly_order:FuncId:=124
abbrev F.slices_Insert_api_Term_api_Term_:FuncId:=125
abbrev F.slices_Clone_int_int_:FuncId:=126
abbrev F.poly_copied:FuncId:=127
abbrev F.dyadic_Add:FuncId:=128
abbrev F.slices_Delete_api_Term_api_Term_:FuncId:=129
abbrev F.poly_Split:FuncId:=130
abbrev F.poly_Round:FuncId:=131
abbrev F.dyadic_Neg:FuncId:=132
abbrev F.tape_proper:FuncId:=139
abbrev F.slices_ContainsFunc_int_int_:FuncId:=140
abbrev F.tape_Valid_1:FuncId:=141
abbrev F.round_div:FuncId:=144
abbrev F.poly_Add:FuncId:=145
abbrev F.poly_Sub:FuncId:=146
abbrev F.poly_Mul:FuncId:=147
abbrev F.model_sum:FuncId:=148
abbrev F.interval_Mul:FuncId:=149
abbrev F.interval_Div:FuncId:=155
abbrev F.bits_TrailingZeros32:FuncId:=166
abbrev F.natural_long:FuncId:=167
abbrev F.natural_done:FuncId:=168
abbrev F.natural_shr:FuncId:=169
abbrev F.dyadic_Top:FuncId:=170
abbrev F.natural_Cmp:FuncId:=171
abbrev F.dyadic_shifted:FuncId:=172
abbrev F.poly_Valid_1:FuncId:=173
abbrev F.poly_degree:FuncId:=174
abbrev F.round_fault:FuncId:=175
abbrev F.dyadic_Bits:FuncId:=176
abbrev F.round_round:FuncId:=177
abbrev F.round_sum:FuncId:=178
abbrev F.round_signed:FuncId:=179
abbrev F.bound_domain:FuncId:=180
abbrev F.interval_more:FuncId:=181
abbrev F.interval_less:FuncId:=182
abbrev F.bound_power:FuncId:=183
abbrev F.bound_Linear:FuncId:=184
abbrev F.bound_line:FuncId:=185
abbrev F.bound_gridOf:FuncId:=186
abbrev F.bound_grid_unit:FuncId:=187
abbrev F.bound_grid_bernstein:FuncId:=188
abbrev F.interval_Hull:FuncId:=189
abbrev F.dyadic_size:FuncId:=190
abbrev F.cmp_Compare_int_:FuncId:=191
abbrev F.slices_Compare_int_int_:FuncId:=192
abbrev F.slices_overlaps_api_Term_:FuncId:=193
abbrev F.slices_rotateRight_api_Term_:FuncId:=194
abbrev F.dyadic_sum:FuncId:=195
abbrev F.round_Near:FuncId:=196
abbrev F.dyadic_Sub:FuncId:=197
abbrev F.tape_operands:FuncId:=201
abbrev F.slices_IndexFunc_int_int_:FuncId:=202
abbrev F.natural_DivMod:FuncId:=203
abbrev F.round_shl:FuncId:=204
abbrev F.natural_Bits:FuncId:=205
abbrev F.poly_pair:FuncId:=206
abbrev F.slices_Concat_api_Term_api_Term_:FuncId:=207
abbrev F.dyadic_Mul:FuncId:=208
abbrev F.interval_four:FuncId:=209
abbrev F.round_MulDown:FuncId:=210
abbrev F.round_MulUp:FuncId:=211
abbrev F.interval_Sign:FuncId:=212
abbrev F.interval_Power:FuncId:=221
abbrev F.slices_ContainsFunc_Suint32_Suint32_:FuncId:=227
abbrev F.natural_long_1:FuncId:=228
abbrev F.natural_trim:FuncId:=229
abbrev F.natural_Shl:FuncId:=230
abbrev F.round_precise:FuncId:=231
abbrev F.round_of:FuncId:=232
abbrev F.round_shr:FuncId:=233
abbrev F.natural_Add:FuncId:=234
abbrev F.natural_Sub:FuncId:=235
abbrev F.round_cut:FuncId:=236
abbrev F.bound_domain_1:FuncId:=237
abbrev F.slices_Index_int_int_:FuncId:=238
abbrev F.slices_Repeat_api_Interval_api_Interval_:FuncId:=239
abbrev F.bound_grid_step:FuncId:=240
abbrev F.bound_grid_lines:FuncId:=241
abbrev F.bound_grid_unit_1:FuncId:=242
abbrev F.bound_grid_add:FuncId:=243
abbrev F.bound_grid_mul:FuncId:=244
abbrev F.bound_grid_bernstein_1:FuncId:=245
abbrev F.cmp_isNaN_int_:FuncId:=246
abbrev F.round_Down:FuncId:=248
abbrev F.round_Up:FuncId:=249
abbrev F.natural_divide:FuncId:=250
abbrev F.bits_Len32:FuncId:=251
abbrev F.slices_Grow_api_Term_api_Term_:FuncId:=252
abbrev F.natural_Mul:FuncId:=253
abbrev F.round_mul:FuncId:=254
abbrev F.dyadic_Abs:FuncId:=256
abbrev F.interval_Abs:FuncId:=266
abbrev F.interval_end:FuncId:=267
abbrev F.slices_IndexFunc_Suint32_Suint32_:FuncId:=270
abbrev F.natural_shl:FuncId:=271
abbrev F.natural_add:FuncId:=272
abbrev F.natural_sub:FuncId:=273
abbrev F.dyadic_Make:FuncId:=274
abbrev F.bits_Mul:FuncId:=275
abbrev F.natural_short:FuncId:=277
abbrev F.bits_LeadingZeros32:FuncId:=278
abbrev F.natural_guess:FuncId:=279
abbrev F.natural_take:FuncId:=280
abbrev F.bits_Add32:FuncId:=281
abbrev F.natural_mul:FuncId:=282
abbrev F.interval_Mig:FuncId:=287
abbrev F.interval_Mag:FuncId:=288
abbrev F.interval_power:FuncId:=289
abbrev F.bits_Sub32:FuncId:=295
abbrev F.bits_Mul32:FuncId:=296
abbrev F.bits_Mul64:FuncId:=297
abbrev F.bits_Div32:FuncId:=298
abbrev F.natural_digit:FuncId:=299
def aL:List Sh:=[.o 0 [],.o 2 [],.o 0 []]
@[go_sem] theorem avf:aL=[.o 0 [],.o 2 [],.o 0 []]:=θ _
def aC:List Sh:=[.o 0 [],.o 2 [],.o 0 [],.o 0 [],.o 2 [],.o 0 [],.o 0 []]
@[go_sem] theorem avg:aC=[.o 0 [],.o 2 [],.o 0 [],.o 0 [],.o 2 [],.o 0 [],.o 0 []]:=θ _
noncomputable section
def g0(f:Func)(l:dQ):Cmd:=gK Tryz.prog [] f l 0 []
def g1(H:List (Nat×Nat))(f:Func)(l:dQ)(k:Nat)(L:List Cmd):Cmd:=gK Tryz.prog H f l k L
def p7:dQ:=[[1,2,3,4],[1,2,3,4,17],[8],[1,2,3,4,39],[8],[1,2,3,4,9,10,11],[2,3,2,7,6,7],[1,2,3,4,9,10,11,52],[8],[1,2,3,4,9,10,11,84],[8],[2,3,4,9,10,11,85,86,87],[3,4,11],[2,3,4,9,10,11,85,86,87],[4],[2,3,4,9,10,11,85,86,87,88],[2,3,4,9,10,11,85,86,87],[2,3,4,9,10,11,12,13,85,86,87],[2,3,4,9,10,11,85,86,87,112],[3,6,13,17],[8],[2,3,4,9,10,11,85,86,87],[4,11,114,115,116],[],[4,11,114,115,116],[4],[4,11,114,115,116,117],[4,11,114,115,116],[4,11,14,15,114,115,116],[4,11,114,115,116,129],[3,6],[8],[4,11,114,115,116],[8]]
def ft:Cmd:=ap (g1 [] Tryz.f3 p7 1 [])
def fw:Cmd:=ap (g1 [] Tryz.f3 p7 2 [])
@[go_sem] def GW(a b:Cmd):Cmd:=ap (g1 [] Tryz.f3 p7 0 [a,b])
def ed:Cmd:=GW ft fw
def dj:FD:=⟨4,[[]],[.t 8],ed⟩
def Wv:Cmd:=ap (g1 [(17,0)] Tryz.f5 [[],[1],[1,2],[7777777,1,2],[3],[0,3,1,3,3,4,0,5,1,5,0,6,1,6],[3,4],[7777777,3,4],[0],[]] 0 [])
def TQ:FD:=⟨0,[[]],[.t 0],Wv⟩
def Fl:Cmd:=ap (g0 Tryz.f6 [[2,3,4],[2,52],[6],[6]])
def yK:FD:=⟨3,[[]],[.t 6],Fl⟩
def mQ:Cmd:=ap (g0 Tryz.f7 [[0,1],[4]])
def fW:FD:=⟨2,[[]],[.t 4],mQ⟩
def GX:Cmd:=ap (g0 Tryz.f8 [[1],[2]])
def Bu:FD:=⟨1,[[]],[.t 2],GX⟩
def EF:Cmd:=ap (g0 Tryz.f9 [[1,2],[4]])
def xp:FD:=⟨2,[[.o 8 aC]],[.t 4],EF⟩
def FP:Cmd:=ap (g0 Tryz.f10 [[1,3,5],[6]])
def yL:FD:=⟨3,[[.o 8 aC]],[.t 6],FP⟩
def FQ:Cmd:=ap (g0 Tryz.f11 [[1,2],[4]])
def yM:FD:=⟨2,[[.o 10 [.o 0 [],.o 5 [],.o 0 [],.o 2 [],.o 0 [],.o 0 [],.o 2 [],.o 0 [],.o 0 []]]],[.t 4],FQ⟩
def fj:Cmd:=ap (g0 Tryz.f12 [[1],[1,3],[1,3,36],[2],[2]])
def dL:FD:=⟨1,[[]],[.t 2],fj⟩
def QK:Cmd:=ap (g0 Tryz.f13 [[2,3],[4]])
def GY:FD:=⟨2,[[]],[.t 4],QK⟩
def Cb:Cmd:=ap (g0 Tryz.f14 [[2,3,4],[2,3,4,9],[4],[4],[6,8,6,10]])
def ve:FD:=⟨2,[aC],[.cell 4 7 true],Cb⟩
def yN:Cmd:=ap (g0 Tryz.f15 [[2,3,4,6],[2,3,4,6,18],[6],[6],[5,7,5,9]])
def sj:FD:=⟨3,[aC],[.cell 6 7 true],yN⟩
def Na:Cmd:=ap (g0 Tryz.f16 [[2,3],[4]])
def Fn:FD:=⟨2,[[]],[.t 4],Na⟩
def sk:Cmd:=ap (g0 Tryz.f17 [[2,3,4],[2,3,4,19],[4],[2,3,4,5],[2,3,4,5,6,7],[4],[0,5,1,5,3,5,5,7,0,8,1,8]])
def mC:FD:=⟨2,[[.o 0 [],.o 5 [.o 2 [],.o 0 [],.o 2 [],.o 0 []],.o 0 [],.o 2 [],.o 0 [],.o 0 [],.o 2 [],.o 0 [],.o 0 []]],[.cell 4 9 true],sk⟩
def Nb:dQ:=[[0,2],[0,2,3],[0,2,3],[0,2,3,12],[2],[0,2,3],[0,2,3],[2,3,25],[0,2,3,16],[0,2,3],[0,2,3],[],[2,3],[2]]
def TR:Cmd:=ap (g1 [] Tryz.f18 Nb 1 [])
@[go_sem] def abD(a:Cmd):Cmd:=ap (g1 [] Tryz.f18 Nb 0 [a])
def abE:Cmd:=abD TR
def ZL:FD:=⟨1,[aL],[.cell 2 3 true],abE⟩
def wI:Cmd:=ap (g0 Tryz.f19 [[1,2,4],[2,4,5,6],[2,4,5,21],[4],[4],[0,1]])
def p8:FD:=⟨2,[[.o 0 [],.o 5 [.o 2 [],.o 0 [],.o 2 [],.o 0 []],.o 0 [],.o 2 [],.o 0 [],.o 0 [],.o 2 [],.o 0 [],.o 0 []]],[.cell 4 9 true],wI⟩
def xr:dQ:=[[2,3,4],[2,3,4,17],[6],[3,4,7],[3,4,7,21,22,23],[4,7],[3,4,7,21,22,23],[3,4,47,59,83,2152],[3,4,7,21,22,23,24],[3,4,7,21,22,23],[3,4,7,9,21,22,23],[3,4,7,9,21,22,23,28],[3,4,7,21,22,23],[3,4,7,9,21,22,23,28,48],[3,4,7,21,22,23],[1000009,0,1,6],[3,4,7,9,21,22,23,28,60],[3,4,7,9,21,22,23,28,60],[3,4,7,9,21,22,23,28,60],[3,4,7,9,21,22,23,60],[3,4,7,21,22,23],[1000018,0],[3,4,7,21,22,23],[1000018,0],[3,4,7,21,22,23],[4,7,10],[7,10,86,87,88],[10],[7,10,86,87,88],[4,47,59,83,98,2152],[7,10,86,87,88,89],[7,10,86,87,88],[7,10,12,86,87,88],[7,10,86,87,88],[7,10,86,87,88],[6]]
def II:Cmd:=ap (g1 [(46,0),(58,0),(82,0)] Tryz.f22 xr 1 [])
def IJ:Cmd:=ap (g1 [(46,0),(58,0),(82,0)] Tryz.f22 xr 2 [])
@[go_sem] def Nc(a b:Cmd):Cmd:=ap (g1 [(46,0),(58,0),(82,0)] Tryz.f22 xr 0 [a,b])
def Nd:Cmd:=Nc II IJ
def Lu:FD:=⟨3,[[.o 10 [.o 0 [],.o 5 [],.o 0 [],.o 2 [],.o 0 [],.o 0 [],.o 2 [],.o 0 [],.o 0 []]]],[.t 6],Nd⟩
def K3:dQ:=[[2,3],[2,3,21],[4],[2,3,5],[],[2,3,5],[2,3],[2,3,5,26],[2,3,5],[2,3,5,6,7],[1,10,4,10,6,10,9,10,1,11,4,11,6,11,9,11,10,11,6,12,9,12],[2,3,5,61],[4],[2,3,5],[4]]
def lF:Cmd:=ap (g1 [] Tryz.f23 K3 1 [])
@[go_sem] def ZM(a:Cmd):Cmd:=ap (g1 [] Tryz.f23 K3 0 [a])
def CS:Cmd:=ZM lF
def wJ:FD:=⟨2,[[]],[.t 4],CS⟩
def TS:Cmd:=ap (g0 Tryz.f24 [[0],[0,1],[0]])
def RF:FD:=⟨0,[[.o 8 aC,.o 0 [],.o 0 []]],[.cell 0 3 true],TS⟩
def p9:Cmd:=ap (g0 Tryz.f25 [[0,1],[4]])
def iN:FD:=⟨2,[[]],[.t 4],p9⟩
def wW:Cmd:=ap (g0 Tryz.f26 [[1],[2]])
def qf:FD:=⟨1,[[]],[.t 2],wW⟩
def rp:Cmd:=ap (g0 Tryz.f27 [[0,1],[4]])
def jg:FD:=⟨2,[[]],[.t 4],rp⟩
def yO:Cmd:=ap (g0 Tryz.f28 [[1],[2]])
def ru:FD:=⟨1,[[]],[.t 2],yO⟩
def gM:dQ:=[[0,1],[0,1,7,8],[],[0,1,7,8],[1000],[0,1,7,8,9],[0,1,7,8],[0,1,5,7,8],[0,1,5,7,8,16],[4],[0,1,7,8],[4]]
def mR:Cmd:=ap (g1 [] Tryz.f29 gM 1 [])
@[go_sem] def oJ(a:Cmd):Cmd:=ap (g1 [] Tryz.f29 gM 0 [a])
def oL:Cmd:=oJ mR
def gN:FD:=⟨2,[[]],[.t 4],oL⟩
def jh:dQ:=[[1,2,3],[1,2,12],[6],[1,2,7],[2,7,13,14,15],[7],[2,7,13,14,15],[24,1000,1001],[2,7,13,14,15,16],[2,7,13,14,15],[2,7,9,13,14,15],[2,7,13,14,15],[2,7,13,14,15],[6]]
def aT:Cmd:=ap (g1 [] Tryz.f30 jh 1 [])
@[go_sem] def ry(a:Cmd):Cmd:=ap (g1 [] Tryz.f30 jh 0 [a])
def cM:Cmd:=ry aT
def bU:FD:=⟨3,[[.o 8 aC]],[.t 6],cM⟩
def CA:Cmd:=ap (g0 Tryz.f31 [[1,2,3],[3]])
def ut:FD:=⟨2,[aC],[.cell 3 7 true],CA⟩
def Dy:Cmd:=ap (g0 Tryz.f32 [[1,2,3,4],[4]])
def v9:FD:=⟨3,[aC],[.cell 4 7 true],Dy⟩
def ji:dQ:=[[1,2,3],[1,2,12],[6],[1,2,7],[2,7,13,14,15],[7],[2,7,13,14,15],[24,1000],[2,7,13,14,15,16],[2,7,13,14,15],[2,7,9,13,14,15],[2,7,13,14,15],[2,7,13,14,15],[6]]
def bk:Cmd:=ap (g1 [] Tryz.f33 ji 1 [])
@[go_sem] def rz(a:Cmd):Cmd:=ap (g1 [] Tryz.f33 ji 0 [a])
def fy:Cmd:=rz bk
def dm:FD:=⟨3,[[.o 10 [.o 0 [],.o 5 [],.o 0 [],.o 2 [],.o 0 [],.o 0 [],.o 2 [],.o 0 [],.o 0 []]]],[.t 6],fy⟩
def Dz:Cmd:=ap (g0 Tryz.f34 [[1,2,3],[3]])
def we:FD:=⟨2,[[.o 0 [],.o 5 [.o 2 [],.o 0 [],.o 2 [],.o 0 []],.o 0 [],.o 2 [],.o 0 [],.o 0 [],.o 2 [],.o 0 [],.o 0 []]],[.cell 3 9 true],Dz⟩
def DA:Cmd:=ap (g0 Tryz.f35 [[0,2],[0,2,3],[0,2,3,7],[0,2,3],[2]])
def wX:FD:=⟨1,[aL],[.cell 2 3 true],DA⟩
def yQ:Cmd:=ap (g0 Tryz.f36 [[1,2],[3]])
def agc:FD:=⟨2,[[]],[.t 3],yQ⟩
def fI:Cmd:=ap (g0 Tryz.f37 [[2,3],[2,3,12],[4],[4]])
def ef:FD:=⟨2,[[]],[.t 4],fI⟩
def IK:Cmd:=ap (g0 Tryz.f38 [[2,3],[4]])
def Cc:FD:=⟨2,[[]],[.t 4],IK⟩
def Cd:Cmd:=ap (g0 Tryz.f39 [[1,2],[4]])
def vf:FD:=⟨2,[[]],[.t 4],Cd⟩
def DB:Cmd:=ap (g0 Tryz.f40 [[0],[0]])
def wh:FD:=⟨0,[aC],[.cell 0 7 true],DB⟩
def vg:Cmd:=ap (g0 Tryz.f41 [[2,3,4,6],[2,3,4,6,20],[6],[2,3,4,6,7,8],[6,7,8,9,10],[6]])
def oM:FD:=⟨3,[aC],[.cell 6 7 true],vg⟩
def Am:Cmd:=ap (g0 Tryz.f42 [[1,2,3,6],[1,2,3,6,10],[6],[6]])
def tE:FD:=⟨3,[aC],[.cell 6 7 true],Am⟩
def de:dQ:=[[0,1,2],[0,1,2,14],[6],[1,2,15,16,17],[],[1,2,15,16,17],[],[1,2,15,16,17,18],[1,2,15,16,17],[1,2,7,8,15,16,17],[1,2,8,9,15,16,17],[1,2,15,16,17,30],[6],[1,2,15,16,17],[6]]
def aE:Cmd:=ap (g1 [] Tryz.f43 de 1 [])
@[go_sem] def gh(a:Cmd):Cmd:=ap (g1 [] Tryz.f43 de 0 [a])
def bT:Cmd:=gh aE
def bw:FD:=⟨3,[[]],[.t 6],bT⟩
def kj:Cmd:=ap (g0 Tryz.f44 [[1],[1,5],[1,3],[2],[2]])
def gU:FD:=⟨1,[[]],[.t 2],kj⟩
def IL:Cmd:=ap (g0 Tryz.f45 [[1,2],[2],[1,4]])
def Ce:FD:=⟨1,[[.o 0 [],.o 5 [.o 2 [],.o 0 [],.o 2 [],.o 0 []],.o 0 [],.o 2 [],.o 0 [],.o 0 [],.o 2 [],.o 0 [],.o 0 []]],[.cell 2 9 true],IL⟩
def kl:Cmd:=ap (g0 Tryz.f46 [[1,2,4],[1,2,4,16],[4],[2,4,5,6],[2,4,5,28],[4],[2,4,6,7],[2,4,7,43],[4],[4]])
def ig:FD:=⟨2,[aL],[.cell 4 3 true],kl⟩
def DC:Cmd:=ap (g0 Tryz.f47 [[0,3,4],[0,3,4],[0,3,4,7],[4,5],[0,3,4,15],[4,5],[0,3,4,6],[0,3,4,6,25],[4,6],[1000004,0,2,3],[4,5]])
def wY:FD:=⟨2,[[.o 0 [],.o 5 [.o 2 [],.o 0 [],.o 2 [],.o 0 []]],[]],[.cell 4 2 true,.t 5],DC⟩
def yR:Cmd:=ap (g0 Tryz.f48 [[2,4,5,7,8],[4,5,7,8,13],[8],[4,7,8,9,10,11],[4,7,8,9,10,24],[8],[8],[0,5]])
def sn:FD:=⟨4,[[.o 0 [],.o 5 [.o 2 [],.o 0 [],.o 2 [],.o 0 []],.o 0 [],.o 2 [],.o 0 [],.o 0 [],.o 2 [],.o 0 [],.o 0 []]],[.cell 8 9 true],yR⟩
def FR:Cmd:=ap (g0 Tryz.f49 [[2,3,4,6],[6],[0,2]])
def yS:FD:=⟨3,[aC],[.cell 6 7 true],FR⟩
def DD:Cmd:=ap (g0 Tryz.f50 [[1,2],[1,2,5],[2],[2]])
def wj:FD:=⟨1,[aC],[.cell 2 7 true],DD⟩
def yT:Cmd:=ap (g0 Tryz.f51 [[0,1,4],[0,1,4,22],[4,5],[0,1,4,6],[0,4,6],[4,6,7],[4,7],[4,5]])
def sT:FD:=⟨2,[[.o 0 [],.o 5 [.o 2 [],.o 0 [],.o 2 [],.o 0 []]],[]],[.cell 4 2 true,.t 5],yT⟩
def HG:Cmd:=ap (g0 Tryz.f52 [[0,2],[2]])
def An:FD:=⟨1,[aC],[.cell 2 7 true],HG⟩
def FS:dQ:=[[0,1],[0,1,5,6],[0,1,5,6,14],[4],[0,1,17],[4],[0,1,7],[],[0,1,7],[],[0,1,7,21],[0,1,7],[0,1,7,32],[],[4],[0,1,7,41],[],[4],[0,1,7],[4]]
def ko:Cmd:=ap (g1 [] Tryz.f53 FS 1 [])
@[go_sem] def RG(a:Cmd):Cmd:=ap (g1 [] Tryz.f53 FS 0 [a])
def so:Cmd:=RG ko
def mD:FD:=⟨2,[[]],[.t 4],so⟩
def Kv:Cmd:=ap (g0 Tryz.f55 [[2,3,4],[6]])
def IM:FD:=⟨3,[[]],[.t 6],Kv⟩
def vj:Cmd:=ap (g0 Tryz.f56 [[0],[0,4],[2],[2]])
def uu:FD:=⟨1,[[]],[.t 2],vj⟩
def Lv:Cmd:=ap (g0 Tryz.f58 [[1,2,5,8,9,10],[2,5,8,9,10,11],[5,10],[2,5,8,9,10,11,12],[10],[2,5,8,9,10,11,18],[10],[2,5,8,9,10,11,24],[10],[2,5,8,9,10,11,30],[10],[2,5,8,10,11,36],[10],[2,5,8,10,11,41],[10],[5,8,10,11,47],[10],[5,8,10,11,52],[10],[5,8,10,11,57],[10],[5,8,10,11,62],[10],[5,8,10,67],[10],[10]])
def Kw:FD:=⟨5,[[.o 0 [],.o 5 [.o 2 [],.o 0 [],.o 2 [],.o 0 []],.o 0 [],.o 2 [],.o 0 [],.o 0 [],.o 2 [],.o 0 [],.o 0 []]],[.cell 10 9 true],Lv⟩
def agj:dQ:=[[2,3],[2,3,26],[4],[2,3,5],[],[2,3,5],[2,3],[2,3,5,31],[2,3,5],[2,3,5,44],[],[4],[2,3,5],[4]]
def lg:Cmd:=ap (g1 [] Tryz.f59 agj 1 [])
@[go_sem] def TT(a:Cmd):Cmd:=ap (g1 [] Tryz.f59 agj 0 [a])
def uv:Cmd:=TT lg
def nU:FD:=⟨2,[[]],[.t 4],uv⟩
def ju:dQ:=[[0,1],[0,1,7,8],[],[0,1,7,8],[1000],[0,1,7,8,9],[0,1,7,8],[0,1,5,7,8],[0,1,5,7,8,16],[4],[0,1,7,8],[4]]
def qh:Cmd:=ap (g1 [] Tryz.f60 ju 1 [])
@[go_sem] def sq(a:Cmd):Cmd:=ap (g1 [] Tryz.f60 ju 0 [a])
def su:Cmd:=sq qh
def jv:FD:=⟨2,[[]],[.t 4],su⟩
def jZ:dQ:=[[0,1],[0,1,7,8],[],[0,1,7,8],[1000],[0,1,7,8,9],[0,1,7,8],[0,1,5,7,8],[0,1,5,7,8,16],[4],[0,1,7,8],[4]]
def rA:Cmd:=ap (g1 [] Tryz.f61 jZ 1 [])
@[go_sem] def ud(a:Cmd):Cmd:=ap (g1 [] Tryz.f61 jZ 0 [a])
def ue:Cmd:=ud rA
def j5:FD:=⟨2,[[]],[.t 4],ue⟩
def uw:Cmd:=ap (g0 Tryz.f62 [[0,1,2,6],[0,1,2,6],[0,1,2,6,14],[6],[0,1,2,6,7],[0,2,6,7,8],[6]])
def nG:FD:=⟨3,[aL],[.cell 6 3 true],uw⟩
def mS:Cmd:=ap (g0 Tryz.f63 [[2,3],[2,3,14],[4],[2,3,5,6],[1,2],[2,3,5],[2,3,5,6,19],[4],[2,3,5,23],[4],[2,3,5,27],[4],[4]])
def jP:FD:=⟨2,[[]],[.t 4],mS⟩
def oO:dQ:=[[0,1],[0,1,10],[4],[0,1,12,13],[],[0,1,12,13],[],[0,1,12,13,14],[0,1,12,13],[0,1,5,12,13],[0,1,12,13,24],[],[4],[0,1,12,13],[4]]
def cW:Cmd:=ap (g1 [] Tryz.f64 oO 1 [])
@[go_sem] def zS(a:Cmd):Cmd:=ap (g1 [] Tryz.f64 oO 0 [a])
def jW:Cmd:=zS cW
def fM:FD:=⟨2,[[]],[.t 4],jW⟩
def EG:Cmd:=ap (g0 Tryz.f65 [[1,2],[3]])
def xt:FD:=⟨2,[[]],[.t 3],EG⟩
def lG:Cmd:=ap (g0 Tryz.f66 [[2,3],[2,3,36],[21,23],[4],[4]])
def iT:FD:=⟨2,[[]],[.t 4],lG⟩
def CB:dQ:=[[0],[5,6,7],[],[5,6,7],[],[5,6,7,8],[5,6,7],[4,5,6,7],[5,6,7,17],[2],[5,6,7],[2]]
def iq:Cmd:=ap (g1 [] Tryz.f67 CB 1 [])
@[go_sem] def Lw(a:Cmd):Cmd:=ap (g1 [] Tryz.f67 CB 0 [a])
def xu:Cmd:=Lw iq
def pI:FD:=⟨1,[[]],[.t 2],xu⟩
def rB:Cmd:=ap (g0 Tryz.f68 [[0],[2]])
def lh:FD:=⟨1,[[]],[.t 2],rB⟩
def EH:Cmd:=ap (g0 Tryz.f69 [[2,3,4,6],[6,7]])
def xw:FD:=⟨3,[aL,[]],[.cell 6 3 true,.t 7],EH⟩
def HI:Cmd:=ap (g0 Tryz.f70 [[2,3,4,6],[6,7]])
def Ao:FD:=⟨3,[aL,[]],[.cell 6 3 true,.t 7],HI⟩
def tF:Cmd:=ap (g0 Tryz.f71 [[1,3,4,6,8],[4,6,8,14],[8],[8]])
def mT:FD:=⟨4,[aC],[.cell 8 7 true],tF⟩
def yU:Cmd:=ap (g0 Tryz.f72 [[1,2,3,6],[1,2,3,6,13],[6],[6,7,8],[3,4,0,12,3,12,4,12,7,12,8,12],[6,7,28],[6],[6]])
def sv:FD:=⟨3,[aC],[.cell 6 7 true],yU⟩
def kQ:Cmd:=ap (g0 Tryz.f73 [[1],[2]])
def it:FD:=⟨1,[[]],[.t 2],kQ⟩
def kq:Cmd:=ap (g0 Tryz.f74 [[1],[1,6],[2],[2]])
def ij:FD:=⟨1,[[]],[.t 2],kq⟩
def FT:Cmd:=ap (g0 Tryz.f75 [[1,2,4],[1,2,4,13],[4,5],[4,5]])
def yV:FD:=⟨2,[aL,[]],[.cell 4 3 true,.t 5],FT⟩
def mE:Cmd:=ap (g0 Tryz.f76 [[2,3],[2,3,12],[4],[4]])
def jy:FD:=⟨2,[[]],[.t 4],mE⟩
def TU:Cmd:=ap (g0 Tryz.f77 [[0],[2]])
def HJ:FD:=⟨1,[[]],[.t 2],TU⟩
def jz:Cmd:=ap (g1 [(83,1),(35,0)] Tryz.f78 [[0,1,5],[0,1,5,14],[0,1,5,6,7],[0,1,5,6,26],[],[1000013,33,5,8,8,9,5,10,5,12],[0,6,8,9],[4,14,8,14,9,14,10,14],[],[0,6,8,67],[],[0,6,8,73],[],[],[]] 0 [])
def fX:FD:=⟨3,[],[],jz⟩
def iU:Cmd:=ap (g0 Tryz.f79 [[0,2],[0,2],[0,2,4],[2,3],[4,5],[0,2,15],[2,3],[2,3]])
def fH:FD:=⟨1,[[.o 0 [],.o 5 [.o 2 [],.o 0 [],.o 2 [],.o 0 []]],[]],[.cell 2 2 true,.t 3],iU⟩
def Fo:Cmd:=ap (g0 Tryz.f80 [[2,3,4,5],[2,4,5,7,8],[2,4,5,8,9,10],[2,4,5,8,9,27],[4,5,6],[1,2],[2,4,5,8,9],[4,5,6],[0,6,6,7,6,9,6,11,0,12,6,14,12,14,0,15]])
def yW:FD:=⟨2,[[.o 0 [],.o 5 [.o 2 [],.o 0 [],.o 2 [],.o 0 []]],aC,[]],[.cell 4 2 true,.cell 5 7 true,.t 6],Fo⟩
def Ap:Cmd:=ap (g0 Tryz.f81 [[1,2],[1,2,6],[2],[2],[2,4]])
def tG:FD:=⟨1,[aC],[.cell 2 7 true],Ap⟩
def Nf:dQ:=[[0],[0,3],[0,3,4],[3],[0,3,4],[],[0,3,4,8],[0,3,4],[0,3,4],[0,3,4],[2]]
def yX:Cmd:=ap (g1 [] Tryz.f82 Nf 1 [])
@[go_sem] def abF(a:Cmd):Cmd:=ap (g1 [] Tryz.f82 Nf 0 [a])
def QM:Cmd:=abF yX
def GZ:FD:=⟨1,[[]],[.t 2],QM⟩
def HK:dQ:=[[1],[1,24],[2],[1,26,27,28],[1],[1,26,27,28],[1],[1,26,27,28,29],[1,26,27,28],[1,3,4,26,27,28],[1,26,27,28,39],[2],[1,26,27,28],[2]]
def Ng:Cmd:=ap (g1 [] Tryz.f86 HK 1 [])
@[go_sem] def TV(a:Cmd):Cmd:=ap (g1 [] Tryz.f86 HK 0 [a])
def TW:Cmd:=TV Ng
def RH:FD:=⟨1,[[]],[.t 2],TW⟩
def EI:Cmd:=ap (g0 Tryz.f88 [[2,3,4,6],[6,7]])
def xx:FD:=⟨3,[aL,[]],[.cell 6 3 true,.t 7],EI⟩
def HL:Cmd:=ap (g0 Tryz.f89 [[2,3,4,6],[6,7]])
def Aq:FD:=⟨3,[aL,[]],[.cell 6 3 true,.t 7],HL⟩
def Ww:Cmd:=ap (g0 Tryz.f90 [[3,4,5,6],[3,4,5,6,14],[6],[3,4,5,6,7,8],[6],[0,9,1,9]])
def TY:FD:=⟨3,[[.o 0 [],.o 5 [.o 2 [],.o 0 [],.o 2 [],.o 0 []],.o 0 [],.o 2 [],.o 0 [],.o 0 [],.o 2 [],.o 0 [],.o 0 []]],[.cell 6 9 true],Ww⟩
def Fq:Cmd:=ap (g0 Tryz.f91 [[3,4,5,6],[3,4,5,6,14],[6],[3,4,5,6,7,8],[6],[0,9,1,9]])
def yY:FD:=⟨3,[[.o 0 [],.o 5 [.o 2 [],.o 0 [],.o 2 [],.o 0 []],.o 0 [],.o 2 [],.o 0 [],.o 0 [],.o 2 [],.o 0 [],.o 0 []]],[.cell 6 9 true],Fq⟩
def Fr:Cmd:=ap (g1 [(62,0)] Tryz.f92 [[3,4,5,6],[3,4,5,6,17],[6],[3,4,5,6,7],[3,4,5,6,7,8,9],[3,4,5,6,7,8,9,10,11],[5,7,5,9,1,12,3,12,5,12,7,12,9,12,11,12,1,13,3,13,5,13,7,13,9,13,11,13,12,13],[6],[0,8,1,8,8,9,8,11,0,13,1,13,8,15,13,15,8,17,13,17,0,19,1,19,0,20,1,20,0,21,1,21]] 0 [])
def y5:FD:=⟨3,[[.o 0 [],.o 5 [.o 2 [],.o 0 [],.o 2 [],.o 0 []],.o 0 [],.o 2 [],.o 0 [],.o 0 [],.o 2 [],.o 0 [],.o 0 []]],[.cell 6 9 true],Fr⟩
def CC:dQ:=[[0],[0,3],[0,3],[0,3],[],[0,3,15],[0,3],[0,3],[2]]
def j6:Cmd:=ap (g1 [] Tryz.f102 CC 1 [])
@[go_sem] def Lx(a:Cmd):Cmd:=ap (g1 [] Tryz.f102 CC 0 [a])
def DE:Cmd:=Lx j6
def wk:FD:=⟨1,[[.o 2 []]],[.t 2],DE⟩
def HM:dQ:=[[0],[0,3],[3,6,7,8],[3],[3,6,7,8],[],[3,6,7,8,9],[3,6,7,8],[3,5,6,7,8],[3,5,6,7,8,13],[2],[3,6,7,8],[3,6,7,8],[2]]
def tH:Cmd:=ap (g1 [] Tryz.f103 HM 1 [])
@[go_sem] def TZ(a:Cmd):Cmd:=ap (g1 [] Tryz.f103 HM 0 [a])
def IN:Cmd:=TZ tH
def Cf:FD:=⟨1,[[]],[.t 2],IN⟩
def wZ:Cmd:=ap (g0 Tryz.f104 [[0,1],[0,1],[0,1,6],[4,5],[0,1,10],[4,5],[4,5]])
def qi:FD:=⟨2,[[.o 2 []],[]],[.t 4,.t 5],wZ⟩
def qj:Cmd:=ap (g0 Tryz.f105 [[0],[2]])
def jX:FD:=⟨1,[[.o 2 []]],[.t 2],qj⟩
def pC:Cmd:=ap (g0 Tryz.f106 [[0],[0,4],[2],[2]])
def jA:FD:=⟨1,[[.o 2 []]],[.t 2],pC⟩
def sx:Cmd:=ap (g0 Tryz.f107 [[1],[],[1,3],[2],[13],[2],[2]])
def mF:FD:=⟨1,[[]],[.t 2],sx⟩
def rC:Cmd:=ap (g0 Tryz.f108 [[2,3],[2,3,5,6],[1,2],[2,3],[2,3,5,6,12],[4],[2,3,16],[4],[2,3,7],[4],[6,8,6,10]])
def lN:FD:=⟨2,[[]],[.t 4],rC⟩
def HN:dQ:=[[1],[1,18],[2],[1,20,21,22],[],[1,20,21,22],[1],[1,20,21,22,23],[1,20,21,22],[1,3,4,20,21,22],[1,3,4,20,21,22,45],[2],[1,3,4,20,21,22,54],[2],[1,20,21,22,69],[],[2],[1,20,21,22],[2]]
def ej:Cmd:=ap (g1 [] Tryz.f109 HN 1 [])
@[go_sem] def T0(a:Cmd):Cmd:=ap (g1 [] Tryz.f109 HN 0 [a])
def qk:Cmd:=T0 ej
def lH:FD:=⟨1,[[]],[.t 2],qk⟩
def w9:Cmd:=ap (g0 Tryz.f110 [[1],[1,11],[2],[2]])
def qp:FD:=⟨1,[[]],[.t 2],w9⟩
def EJ:Cmd:=ap (g0 Tryz.f111 [[1,2],[3]])
def xz:FD:=⟨2,[[]],[.t 3],EJ⟩
def CT:Cmd:=ap (g0 Tryz.f112 [[1,2],[4]])
def wK:FD:=⟨2,[[]],[.t 4],CT⟩
def wL:Cmd:=ap (g0 Tryz.f113 [[2,3,4,5,8],[2,3,4,5,8,10],[2,3,4,5,8,10,19],[8,9],[2,3,4,5,8],[2,3,4,5,8,22],[8,9],[2,3,4,5,8,33],[8,9],[2,3,4,5,8,48],[1,2],[2,3,4,5,8],[2,3,4,8,11,12],[2,3,4,8,11,12,66],[8,9],[8,9]])
def mU:FD:=⟨4,[aL,[]],[.cell 8 3 true,.t 9],wL⟩
def y6:Cmd:=ap (g0 Tryz.f114 [[1,2,3],[6]])
def sy:FD:=⟨3,[[]],[.t 6],y6⟩
def HO:Cmd:=ap (g0 Tryz.f115 [[0],[0]])
def Ar:FD:=⟨0,[aC],[.cell 0 7 true],HO⟩
def jB:Cmd:=ap (g0 Tryz.f116 [[2,3,4],[2,3,4],[2,3,4,7],[4,5],[2,3,4,17],[4,5],[2,3,4,21],[4,5],[4,6],[4,6,4,8,1,11,3,11,4,11,6,11,8,11,9,11],[4,6,41],[4,5],[4,5]])
def gj:FD:=⟨2,[aC,[]],[.cell 4 7 true,.t 5],jB⟩
def As:dQ:=[[1,2,3,6],[1,2,3,6,17],[6],[1,2,3,6,7],[1,2,6,7,22,23,24],[6,7],[1,2,6,7,22,23,24],[3,6,7],[1,2,6,7,22,23,24,25],[1,2,6,7,22,23,24],[1,2,6,7,9,22,23,24],[1,2,6,7,9,10,22,23,24],[1,2,6,7,10,22,23,24,32,33,34],[1,2,6,7,10,22,23,24],[1,2,6,7,10,22,23,24,32,33,34],[3,6,7,9,10],[1,2,6,7,10,22,23,24,32,33,34,35],[1,2,6,7,10,22,23,24,32,33,34],[1,2,6,7,10,11,12,22,23,24,32,33,34],[1,2,6,7,10,11,12,22,23,24,32,33,34,40],[1,2,6,7,10,22,23,24,32,33,34],[0,7],[1,2,6,7,10,22,23,24,32,33,34],[1,2,6,7,22,23,24],[1,2,6,7,22,23,24],[6]]
def gk:Cmd:=ap (g1 [] Tryz.f117 As 1 [])
@[go_sem] def Ly(a:Cmd):Cmd:=ap (g1 [] Tryz.f117 As 2 [a])
def kr:Cmd:=Ly gk
@[go_sem] def RI(a b:Cmd):Cmd:=ap (g1 [] Tryz.f117 As 0 [a,b])
def Cg:Cmd:=RI gk kr
def agi:FD:=⟨3,[aC],[.cell 6 7 true],Cg⟩
def uz:dQ:=[[1,2,3,6],[1,2,3,6,19],[6],[1,2,3,6,7,8],[1,2,3,6,7,31],[6],[],[1,6,9,10],[1,6,9,50],[6],[1,6,9,56,57],[6,9],[1,6,9,56,57],[6,2368],[1,6,9,56,57,58],[1,6,9,56,57],[1,6,9,11,56,57],[1,6,9,11,56,57],[1,6,9,56,57],[1,6,9,56,57],[6,9,12],[6,12,80,81,82],[6,12],[6,12,80,81,82],[6,12,2368],[6,12,80,81,82,83],[6,12,80,81,82],[6,12,14,80,81,82],[6,12,80,81,82],[6,12,80,81,82],[6]]
def l8:Cmd:=ap (g1 [] Tryz.f118 uz 1 [])
def l9:Cmd:=ap (g1 [] Tryz.f118 uz 2 [])
@[go_sem] def Kx(a b:Cmd):Cmd:=ap (g1 [] Tryz.f118 uz 0 [a,b])
def jJ:Cmd:=Kx l8 l9
def go:FD:=⟨3,[aC],[.cell 6 7 true],jJ⟩
def kt:Cmd:=ap (g0 Tryz.f119 [[1],[1,3],[2]])
def gV:FD:=⟨1,[[]],[.t 2],kt⟩
def wl:Cmd:=ap (g0 Tryz.f120 [[0],[2]])
def oQ:FD:=⟨1,[[]],[.t 2],wl⟩
def xA:Cmd:=ap (g0 Tryz.f121 [[1,2],[1,2,6],[2,3],[2,3]])
def pJ:FD:=⟨1,[aL,[]],[.cell 2 3 true,.t 3],xA⟩
def fN:dQ:=[[0,1,2],[0,1,2,8],[0,1,2,8,9,10],[0,1,2,8,9],[0,1,2,8,9,10],[],[0,1,2,8,9,10,17],[0,1,2,8,9,10],[0,1,2,8,9,10,11],[0,1,2,8,9,10,11,31],[0,1,2,8,9,10],[0,1,2,8,9,10],[6,7]]
def bN:Cmd:=ap (g1 [] Tryz.f122 fN 1 [])
@[go_sem] def mG(a:Cmd):Cmd:=ap (g1 [] Tryz.f122 fN 0 [a])
def fY:Cmd:=mG bN
def dw:FD:=⟨3,[[],[]],[.t 6,.t 7],fY⟩
def wM:Cmd:=ap (g0 Tryz.f123 [[1,2],[4]])
def nN:FD:=⟨2,[[]],[.t 4],wM⟩
def DF:Cmd:=ap (g0 Tryz.f124 [[0,1],[0,1,5],[0,1,5,12],[4],[4]])
def xc:FD:=⟨2,[[]],[.t 4],DF⟩
def dq:Cmd:=ap (g0 Tryz.f125 [[0,1,2],[0,1,2],[0,1,2,7],[0,1,2,7,16],[6],[0,1,2,7,8],[0,1,2,7,8,22],[6],[0,1,2,7,8,31],[0,1,2,7,9],[0,1,7,9],[9],[],[6],[0,1,2,7,8],[0,1,2,7,8,68],[0,1,2],[],[0],[7777777,200000],[6],[0,1,7],[0],[6]])
def bC:FD:=⟨3,[[]],[.t 6],dq⟩
def vU:Cmd:=ap (g0 Tryz.f126 [[0],[0,4],[2],[2]])
def mV:FD:=⟨1,[[]],[.t 2],vU⟩
def HP:Cmd:=ap (g0 Tryz.f127 [[1,2],[1,2],[2]])
def At:FD:=⟨1,[aL],[.cell 2 3 true],HP⟩
def y7:Cmd:=ap (g0 Tryz.f128 [[2,3,4],[2,3,4,13],[4,5],[4,5]])
def sz:FD:=⟨2,[aL,[]],[.cell 4 3 true,.t 5],y7⟩
def lO:Cmd:=ap (g1 [(31,2)] Tryz.f129 [[0,1,2],[0,1,2],[0,1,2,16],[6],[0,1,2,7],[0,7],[],[0],[7777777,100000,200000],[6]] 0 [])
def gF:FD:=⟨3,[[]],[.t 6],lO⟩
def HQ:dQ:=[[1,2,4,5],[1,2,4,5,12],[4,5],[1,2,4,5,6,7],[2,4],[1,4,5,6,7,22,23,24],[4,5,6,7],[1,4,5,6,7,22,23,24],[2,4,5,2136,2160],[1,4,5,6,7,22,23,24,25],[1,4,5,6,7,22,23,24],[1,4,5,6,7,9,22,23,24],[1,4,5,6,7,9,22,23,24,32],[1,4,5,6,7,22,23,24],[1,4,5,6,7,22,23,24],[1,4,5,6,7,22,23,24],[7777777,6,7],[4,5],[7,8]]
def lj:Cmd:=ap (g1 [] Tryz.f130 HQ 1 [])
@[go_sem] def T1(a:Cmd):Cmd:=ap (g1 [] Tryz.f130 HQ 0 [a])
def DG:Cmd:=T1 lj
def xd:FD:=⟨2,[[.o 0 [],.o 5 [.o 2 [],.o 0 [],.o 2 [],.o 0 []]],[.o 0 [],.o 5 [.o 2 [],.o 0 [],.o 2 [],.o 0 []]]],[.cell 4 2 true,.cell 5 2 true],DG⟩
def HR:dQ:=[[1,2,4,5],[1,2,4,5],[1,2,4,5,14],[4,5,6],[1,2,4,5,20],[4,5,6],[1,2,4,5,7,8],[2,4],[1,4,5,7,8,36,37,38],[4,5,7,8],[1,4,5,7,8,36,37,38],[2,4,5,2248,2272],[1,4,5,7,8,36,37,38,39],[1,4,5,7,8,36,37,38],[1,4,5,7,8,10,36,37,38],[1,4,5,7,8,10,11,12,36,37,38],[1,4,5,7,8,10,11,36,37,38,50],[4,5,6],[1,4,5,7,8,10,11,12,13,36,37,38],[1,4,5,7,8,10,11,13,36,37,38,61],[4,5,6],[1,4,5,7,8,10,11,13,36,37,38,67],[1,4,5,7,8,10,13,36,37,38],[1,4,5,7,8,10,13,36,37,38,76],[1,4,5,7,8,36,37,38],[1,4,5,7,8,36,37,38],[7777777,7,8],[4,5,6],[7,8]]
def eZ:Cmd:=ap (g1 [] Tryz.f131 HR 1 [])
@[go_sem] def T2(a:Cmd):Cmd:=ap (g1 [] Tryz.f131 HR 0 [a])
def uA:Cmd:=T2 eZ
def nV:FD:=⟨2,[[.o 0 [],.o 5 [.o 2 [],.o 0 [],.o 2 [],.o 0 []]],[.o 0 [],.o 5 [.o 2 [],.o 0 [],.o 2 [],.o 0 []]],[]],[.cell 4 2 true,.cell 5 2 true,.t 6],uA⟩
def y8:Cmd:=ap (g0 Tryz.f132 [[1,2],[1,2,11],[2],[2],[1,5,5,7]])
def sA:FD:=⟨1,[aL],[.cell 2 3 true],y8⟩
def RJ:Cmd:=ap (g0 Tryz.f139 [[1,2],[1,2,5],[1,2,5,6],[1,2,5,6],[1,2,5,6],[1,2,5,6,12],[4],[1,2,5,6,15],[1,2,5,6,21],[4],[1,2,5,6],[1,2,5,6,26],[1,2,5,6,34],[4],[1,2,5,6],[1,2,5,6,37],[1,2,5,6,46],[4],[1,2,5,6],[1,2,6,49],[6,58],[4],[6],[4]])
def OM:FD:=⟨2,[[]],[.t 4],RJ⟩
def y9:Cmd:=ap (g0 Tryz.f140 [[0,1],[4]])
def nK:FD:=⟨2,[[]],[.t 4],y9⟩
def ON:Cmd:=ap (g0 Tryz.f141 [[0,1],[3]])
def Nh:FD:=⟨2,[[]],[.t 3],ON⟩
def wN:Cmd:=ap (g0 Tryz.f144 [[2,3,4,5,8],[2,3,4,5,8,10],[2,3,4,5,8,10,21],[8,9],[2,3,4,5,8],[2,3,4,5,8,24],[8,9],[2,3,4,5,8,30],[8,9],[2,3,4,5,8,11],[3,5],[2,3,4,5,8,11,12,13],[3,5],[8,9],[1,14,3,14,7,14,11,14]])
def qt:FD:=⟨4,[aL,[]],[.cell 8 3 true,.t 9],wN⟩
def K4:dQ:=[[2,3,4],[2,3,4,12],[4,5],[2,3,4,6],[4,6,22,23,24],[4,6],[4,6,22,23,24],[4,2128],[4,6,22,23,24,25],[4,6,22,23,24],[4,6,8,22,23,24],[4,6,22,23,24],[4,6,22,23,24],[4,5]]
def sB:Cmd:=ap (g1 [] Tryz.f145 K4 1 [])
@[go_sem] def ZN(a:Cmd):Cmd:=ap (g1 [] Tryz.f145 K4 0 [a])
def G0:Cmd:=ZN sB
def Bv:FD:=⟨2,[[.o 0 [],.o 5 [.o 2 [],.o 0 [],.o 2 [],.o 0 []]],[]],[.cell 4 2 true,.t 5],G0⟩
def K5:dQ:=[[2,3,4],[2,3,4,12],[4,5],[2,3,4,6],[2,4,6,18,19,20],[2,4,6],[2,4,6,18,19,20],[2,3,4,6],[2,4,6,18,19,20,21],[2,4,6,18,19,20],[2,4,6,8,18,19,20],[2,4,6,18,19,20],[1000009,26,1,6,3,6,1,8],[2,4,6,18,19,20],[4,5]]
def nX:Cmd:=ap (g1 [] Tryz.f146 K5 1 [])
@[go_sem] def ZO(a:Cmd):Cmd:=ap (g1 [] Tryz.f146 K5 0 [a])
def G1:Cmd:=ZO nX
def Bw:FD:=⟨2,[[.o 0 [],.o 5 [.o 2 [],.o 0 [],.o 2 [],.o 0 []]],[]],[.cell 4 2 true,.t 5],G1⟩
def Bx:dQ:=[[2,3,4],[2,3,4],[2,3,4,16],[4,5],[2,3,4,22],[12,13],[4,5],[2,3,4,6],[3,4,6,46,47,48],[4,6],[3,4,6,46,47,48],[2,3,4,2352],[3,4,6,46,47,48,49],[3,4,6,46,47,48],[3,4,6,8,46,47,48],[3,4,6,8,46,47,48,53,54,55],[3,4,6,46,47,48],[3,4,6,8,46,47,48,53,54,55],[2,3,4,8,2352],[3,4,6,8,46,47,48,53,54,55,56],[3,4,6,8,46,47,48,53,54,55],[3,4,6,8,10,46,47,48,53,54,55],[3,4,6,8,10,11,12,46,47,48,53,54,55],[3,4,6,8,10,11,46,47,48,53,54,55,68],[4,5],[3,4,6,8,10,11,13,46,47,48,53,54,55],[3,4,6,8,11,13,46,47,48,53,54,55,74,75,76],[3,4,6,8,11,13,46,47,48,53,54,55],[3,4,6,8,11,13,46,47,48,53,54,55,74,75,76],[2,3,4,8,10,11,2352,2576],[3,4,6,8,11,13,46,47,48,53,54,55,74,75,76,77],[3,4,6,8,11,13,46,47,48,53,54,55,74,75,76],[3,4,6,8,11,13,14,15,46,47,48,53,54,55,74,75,76],[3,4,6,8,11,13,46,47,48,53,54,55,74,75,76],[3,4,6,8,11,13,46,47,48,53,54,55,74,75,76],[3,4,6,8,46,47,48,53,54,55],[3,4,6,8,46,47,48,53,54,55],[3,4,6,46,47,48],[4,5]]
def jQ:Cmd:=ap (g1 [] Tryz.f147 Bx 1 [])
@[go_sem] def RK(a:Cmd):Cmd:=ap (g1 [] Tryz.f147 Bx 2 [a])
def jR:Cmd:=RK jQ
@[go_sem] def RL(a b:Cmd):Cmd:=ap (g1 [] Tryz.f147 Bx 3 [a,b])
def sC:Cmd:=RL jQ jR
@[go_sem] def ZP(a b c:Cmd):Cmd:=ap (g1 [] Tryz.f147 Bx 0 [a,b,c])
def vo:Cmd:=ZP jQ jR sC
def px:FD:=⟨2,[[.o 0 [],.o 5 [.o 2 [],.o 0 [],.o 2 [],.o 0 []]],[]],[.cell 4 2 true,.t 5],vo⟩
def IP:dQ:=[[0,2,4,6],[0,4,6,9,10,11],[4,6],[0,4,6,9,10,11],[4,6],[0,4,6,9,10,11,12],[0,4,6,9,10,11],[0,4,6,8,9,10,11],[0,4,6,9,10,11],[0,4,6,9,10,11],[6]]
def mH:Cmd:=ap (g1 [] Tryz.f148 IP 1 [])
@[go_sem] def Wx(a:Cmd):Cmd:=ap (g1 [] Tryz.f148 IP 0 [a])
def K6:Cmd:=Wx mH
def DH:FD:=⟨3,[aC],[.cell 6 7 true],K6⟩
def vz:Cmd:=ap (g0 Tryz.f149 [[2,3,4,6],[2,3,4,6,16],[6],[6]])
def oR:FD:=⟨3,[aC],[.cell 6 7 true],vz⟩
def qu:Cmd:=ap (g0 Tryz.f155 [[2,3,4,6],[2,3,4,6,21],[6],[6]])
def lk:FD:=⟨3,[aC],[.cell 6 7 true],qu⟩
def FU:Cmd:=ap (g0 Tryz.f167 [[0],[2]])
def ze:FD:=⟨1,[[]],[.t 2],FU⟩
def Au:Cmd:=ap (g0 Tryz.f168 [[0],[0],[0,8],[2,3],[2,3]])
def tJ:FD:=⟨1,[[.o 2 []],[]],[.t 2,.t 3],Au⟩
def FV:dQ:=[[0,1],[0,1],[0,1,15],[4],[0,1],[0,1,5],[0,1,5,23,24,25],[5],[0,1,5,23,24,25],[22],[0,1,5,23,24,25,26],[0,1,5,23,24,25],[0,1,5,6,7,23,24,25],[0,1,5,6,8,23,24,25],[0,1,5,6,8,23,24,25,36],[0,1,5,6,8,23,24,25],[0,1,5,23,24,25],[0,1,5,23,24,25],[4]]
def mW:Cmd:=ap (g1 [] Tryz.f169 FV 1 [])
@[go_sem] def RM(a:Cmd):Cmd:=ap (g1 [] Tryz.f169 FV 0 [a])
def Ch:Cmd:=RM mW
def vA:FD:=⟨2,[[.o 2 []]],[.t 4],Ch⟩
def zf:Cmd:=ap (g0 Tryz.f170 [[1],[1,11],[2],[2],[2,4]])
def sD:FD:=⟨1,[[]],[.t 2],zf⟩
def FW:dQ:=[[0,1],[0,1],[0,1,14],[19],[4],[4],[0,1,5],[],[0,1,5],[],[0,1,5,24],[0,1,5],[0,1,5],[0,1,5,27],[],[4],[0,1,5,37],[],[4],[0,1,5],[4]]
def iP:Cmd:=ap (g1 [] Tryz.f171 FW 1 [])
@[go_sem] def RN(a:Cmd):Cmd:=ap (g1 [] Tryz.f171 FW 0 [a])
def HS:Cmd:=RN iP
def qw:FD:=⟨2,[[]],[.t 4],HS⟩
def DI:Cmd:=ap (g0 Tryz.f172 [[0,1],[5],[4]])
def wm:FD:=⟨2,[[.o 2 []]],[.t 4],DI⟩
def Av:Cmd:=ap (g0 Tryz.f173 [[0],[2]])
def tK:FD:=⟨1,[[]],[.t 2],Av⟩
def FX:dQ:=[[0],[0,3],[3,6,7,8],[3],[3,6,7,8],[],[3,6,7,8,9],[3,6,7,8],[3,5,6,7,8],[3,6,7,8],[3,6,7,8],[2]]
def rD:Cmd:=ap (g1 [] Tryz.f174 FX 1 [])
@[go_sem] def RP(a:Cmd):Cmd:=ap (g1 [] Tryz.f174 FX 0 [a])
def HT:Cmd:=RP rD
def Aw:FD:=⟨1,[[]],[.t 2],HT⟩
def FY:dQ:=[[0,1],[0,7,8,9],[0],[0,7,8,9],[],[0,7,8,9,10],[0,7,8,9],[0,6,7,8,9],[0,7,8,9,15],[4],[0,7,8,9],[19],[4],[4]]
def mX:Cmd:=ap (g1 [] Tryz.f175 FY 1 [])
@[go_sem] def RQ(a:Cmd):Cmd:=ap (g1 [] Tryz.f175 FY 0 [a])
def xe:Cmd:=RQ mX
def qx:FD:=⟨2,[[]],[.t 4],xe⟩
def Ci:Cmd:=ap (g0 Tryz.f176 [[1],[1,5],[2],[2]])
def vB:FD:=⟨1,[[]],[.t 2],Ci⟩
def Cj:Cmd:=ap (g0 Tryz.f177 [[1,2,3,6],[1,2,3,6,8],[1,2,3,6,8,14],[6,7],[6,7],[1,3]])
def vC:FD:=⟨3,[aL,[]],[.cell 6 3 true,.t 7],Cj⟩
def K7:Cmd:=ap (g0 Tryz.f178 [[2,3,4,6],[3,4,6,8],[1,3],[3,4,6,8,31],[1,2],[3,4,6,8],[3,4,6,8,9],[3,4,6,8,9],[3,4,6,8,9,11],[3,4,6,8,9,11,46],[3,4,6,8,9,10,11],[3,4,6,8,9,10,11],[6,8,9,10,11,68],[6,8,11,12],[6,7],[6,8,9,10,11,79],[6,8,9,10,11],[6,8,9,10,11,89],[6,8,14],[6,7],[6,8,11,16],[6,7]])
def uB:FD:=⟨3,[[.o 2 [],.o 0 [],.o 0 []],[]],[.cell 6 3 true,.t 7],K7⟩
def vD:Cmd:=ap (g0 Tryz.f179 [[0,2,3,5,8],[0,8,10,11],[8,10,11,25],[8,10,11],[8,9]])
def oS:FD:=⟨4,[aL,[]],[.cell 8 3 true,.t 9],vD⟩
def vE:Cmd:=ap (g0 Tryz.f180 [[1,2],[4]])
def oT:FD:=⟨2,[[]],[.t 4],vE⟩
def zg:Cmd:=ap (g0 Tryz.f181 [[2,3,4],[2,3,4,8],[4],[4]])
def rF:FD:=⟨2,[aL],[.cell 4 3 true],zg⟩
def zi:Cmd:=ap (g0 Tryz.f182 [[2,3,4],[2,3,4,8],[4],[4]])
def rG:FD:=⟨2,[aL],[.cell 4 3 true],zi⟩
def Ck:Cmd:=ap (g0 Tryz.f183 [[1,2,3,6],[1,2,3,6,8],[6],[6],[2,3]])
def vF:FD:=⟨3,[aC],[.cell 6 7 true],Ck⟩
def EK:dQ:=[[1],[1,14],[2,3],[1,4],[4,20,21,22],[4],[4,20,21,22],[1,18],[4,20,21,22,23],[4,20,21,22],[4,6,20,21,22],[4,20,21,22],[3,6],[4,20,21,22],[2,3]]
def lP:Cmd:=ap (g1 [] Tryz.f184 EK 1 [])
@[go_sem] def agu(a:Cmd):Cmd:=ap (g1 [] Tryz.f184 EK 0 [a])
def vG:Cmd:=agu lP
def oV:FD:=⟨1,[[.o 4 aL],[]],[.t 2,.t 3],vG⟩
def qy:Cmd:=ap (g0 Tryz.f185 [[3,4,5,6,8],[3,4,5,8,9,10],[1,4,3,4,1,5,3,5,4,5,3,6],[3,4,5,8,9,10,23],[3,4,5,8,9,10],[3,4,5,8,10,11,12],[3,4,8,11,12,13,14],[3,4,8,11,13,43],[8],[3,4,8,12,13,15],[8,12,14,15,16],[8,15,16,64],[8],[8]])
def gx:FD:=⟨4,[aC],[.cell 8 7 true],qy⟩
def ll:dQ:=[[1,2],[2,6],[2,6,26,27,28],[2,6],[2,6,26,27,28],[2,21,24,2624],[2,6,26,27,28,29],[2,6,26,27,28],[2,6,8,26,27,28],[2,6,26,27,28,33,34,35],[2,6,26,27,28],[2,6,26,27,28,33,34,35],[2,8,21,24,2624],[2,6,26,27,28,33,34,35,36],[2,6,26,27,28,33,34,35],[2,6,9,10,26,27,28,33,34,35],[2,6,26,27,28,33,34,35],[],[2,6,26,27,28,33,34,35],[2,6,26,27,28],[2,6,11],[2,6,11,60,61,62],[2,6,11],[2,6,11,60,61,62],[2,21,24,2624],[2,6,11,60,61,62,63],[2,6,11,60,61,62],[2,6,11,13,60,61,62],[2,6,11,60,61,62],[2,6,11,60,61,62,71],[4,5],[2,6,11,60,61,62],[2,6],[6,82,83,84],[6],[6,82,83,84],[2,21,24,2624],[6,82,83,84,85],[6,82,83,84],[6,15,82,83,84],[6,15,16,82,83,84],[6,15,16,82,83,84,89,90,91],[6,15,16,82,83,84],[6,15,16,82,83,84,89,90,91],[2,15,21,24,2624],[6,15,16,82,83,84,89,90,91,92],[6,15,16,82,83,84,89,90,91],[6,15,16,17,18,82,83,84,89,90,91],[6,15,16,82,83,84,89,90,91],[6,15,16,82,83,84,89,90,91],[6,82,83,84],[3,7],[6,82,83,84],[4,5]]
def jK:Cmd:=ap (g1 [] Tryz.f186 ll 1 [])
@[go_sem] def Ky(a:Cmd):Cmd:=ap (g1 [] Tryz.f186 ll 2 [a])
def lQ:Cmd:=Ky jK
def gW:Cmd:=ap (g1 [] Tryz.f186 ll 3 [])
def lR:Cmd:=ap (g1 [] Tryz.f186 ll 4 [])
@[go_sem] def Kz(a b c d:Cmd):Cmd:=ap (g1 [] Tryz.f186 ll 5 [a,b,c,d])
def pK:Cmd:=Kz jK lQ gW lR
@[go_sem] def OP(a b c d e:Cmd):Cmd:=ap (g1 [] Tryz.f186 ll 0 [a,b,c,d,e])
def FZ:Cmd:=OP jK lQ gW lR pK
def zj:FD:=⟨2,[[],[]],[.t 4,.t 5],FZ⟩
def CD:Cmd:=ap (g0 Tryz.f187 [[1,3,5],[1,3,5,6],[1,3,6,7],[2,3,2,4,2,7,1,9,2,9,3,9,4,9,7,9,8,9],[1,3,6,7,8],[]])
def uC:FD:=⟨3,[],[],CD⟩
def wO:Cmd:=ap (g0 Tryz.f188 [[1,2],[1,2,4],[]])
def nO:FD:=⟨2,[],[],wO⟩
def zk:Cmd:=ap (g0 Tryz.f189 [[2,3,4],[2,3,4,9],[4],[4],[4,6,4,8]])
def rH:FD:=⟨2,[aC],[.cell 4 7 true],zk⟩
def HU:Cmd:=ap (g0 Tryz.f190 [[0],[2]])
def Ax:FD:=⟨1,[[]],[.t 2],HU⟩
def oW:Cmd:=ap (g0 Tryz.f191 [[0,1],[0,1,5],[0,1,5,6],[0,1,6,11],[12],[4],[4],[0,1,13],[4],[0,1,16],[4],[19],[4],[4]])
def j7:FD:=⟨2,[[]],[.t 4],oW⟩
def sE:dQ:=[[0,1],[0,1,9,10,11],[0,1],[0,1,9,10,11],[],[0,1,9,10,11,12],[0,1,9,10,11],[0,1,5,6,9,10,11],[0,1,5,6,9,10,11,19],[4],[0,1,6,7,9,10,11],[0,1,8,9,10,11],[0,1,8,9,10,11,28],[4],[0,1,9,10,11],[35],[4],[4]]
def eW:Cmd:=ap (g1 [] Tryz.f192 sE 1 [])
@[go_sem] def CU(a:Cmd):Cmd:=ap (g1 [] Tryz.f192 sE 0 [a])
def me:Cmd:=CU eW
def iK:FD:=⟨2,[[]],[.t 4],me⟩
def zo:Cmd:=ap (g0 Tryz.f195 [[2,3,4],[2,3,4,24],[2,3,4,28],[2,4],[4,5],[2,3,4,6],[2,3,4,6,7,8],[1,2],[2,3,4,6,63],[4,5],[2,3,4,6,9,10],[6,8,6,10],[2,3,4,6,9,10,83],[2,4,6,11],[4,5],[2,3,4,6,9,10,101],[2,4,6,9,10],[2,4,6,13],[4,5]])
def lI:FD:=⟨2,[aL,[]],[.cell 4 3 true,.t 5],zo⟩
def jC:Cmd:=ap (g0 Tryz.f196 [[1,2,4],[1,2,4,6,7],[1,2,4,6,7,20],[4,5],[2,4,6,7,8],[2,4,6,7,8,30],[4,5],[2,4,6,8,9],[4,6,8,9,11],[4,6,8,47],[4,6,8],[4,6,8,47,48],[4,5],[4,6,8,51],[4,5],[4,6,8,70],[4,5],[4,5]])
def gy:FD:=⟨2,[aL,[]],[.cell 4 3 true,.t 5],jC⟩
def zp:Cmd:=ap (g0 Tryz.f197 [[2,3,4],[2,3,4,13],[4,5],[4,5],[0,2]])
def sF:FD:=⟨2,[aL,[]],[.cell 4 3 true,.t 5],zp⟩
def Ni:Cmd:=ap (g0 Tryz.f201 [[0],[3],[],[3,4],[2],[3,6],[3,6],[3,6],[3,6],[2],[3,11],[3,11],[3,11],[3,11],[3,11],[3,11],[11],[2],[2]])
def Lz:FD:=⟨1,[[]],[.t 2],Ni⟩
def qz:dQ:=[[0,1],[0,1,7,8],[],[0,1,7,8],[1000],[0,1,7,8,9],[0,1,7,8],[0,1,5,7,8],[0,1,5,7,8,16],[4],[0,1,7,8],[4]]
def zu:Cmd:=ap (g1 [] Tryz.f202 qz 1 [])
@[go_sem] def BN(a:Cmd):Cmd:=ap (g1 [] Tryz.f202 qz 0 [a])
def BO:Cmd:=BN zu
def qA:FD:=⟨2,[[]],[.t 4],BO⟩
def DJ:Cmd:=ap (g0 Tryz.f203 [[0,1],[0,1],[0,1,9],[4,5,6],[0,1,14],[4,5,6],[7,8],[4,5,6]])
def wn:FD:=⟨2,[[.o 2 []],[.o 2 []],[]],[.t 4,.t 5,.t 6],DJ⟩
def K8:Cmd:=ap (g0 Tryz.f204 [[0,1],[5],[4]])
def DK:FD:=⟨2,[[.o 2 []]],[.t 4],K8⟩
def Ay:Cmd:=ap (g0 Tryz.f205 [[0],[0],[0,7],[2],[2]])
def tL:FD:=⟨1,[[]],[.t 2],Ay⟩
def By:Cmd:=ap (g0 Tryz.f206 [[2,3],[4]])
def uD:FD:=⟨2,[[]],[.t 4],By⟩
def gG:dQ:=[[0],[0,3],[0,3,9,10,11],[0,3],[0,3,9,10,11],[],[0,3,9,10,11,12],[0,3,9,10,11],[0,3,5,9,10,11],[0,3,9,10,11],[0,3,9,10,11,20],[0,3,9,10,11],[0,3,9,10,11],[0,6],[6,25,26,27],[6],[6,25,26,27],[33,2192],[6,25,26,27,28],[6,25,26,27],[6,8,25,26,27],[6,25,26,27],[6,25,26,27],[2]]
def fT:Cmd:=ap (g1 [] Tryz.f207 gG 1 [])
def kC:Cmd:=ap (g1 [] Tryz.f207 gG 2 [])
@[go_sem] def wo(a b:Cmd):Cmd:=ap (g1 [] Tryz.f207 gG 0 [a,b])
def lS:Cmd:=wo fT kC
def gH:FD:=⟨1,[[.o 5 [.o 2 [],.o 0 [],.o 2 [],.o 0 []]]],[.t 2],lS⟩
def kR:Cmd:=ap (g0 Tryz.f208 [[2,3,4],[2,3,4,15],[4,5],[2,3,4,26],[4,5],[2,3,4,36],[2,4],[4,5],[2,3,4,6],[4,5]])
def iL:FD:=⟨2,[aL,[]],[.cell 4 3 true,.t 5],kR⟩
def DL:dQ:=[[2,3,4,5,6,10],[2,3,4,10,11],[2,3,4,10,11,12],[2,3,4,10,12,40,41],[10,12],[2,3,4,10,12,40,41],[10,12],[2,3,4,10,12,40,41,42],[2,3,4,10,12,40,41],[2,3,4,10,12,13,14,40,41],[2,3,4,10,12,13,14,15,16,40,41],[2,3,4,10,12,13,15,16,17,18,40,41],[2,3,4,10,12,13,15,17,40,41,70],[10],[2,3,4,10,12,13,15,17,40,41,80],[2,3,4,10,12,13,17,40,41],[2,3,4,10,12,17,40,41,91],[2,3,4,10,12,40,41],[2,3,4,10,12,40,41],[10]]
def bD:Cmd:=ap (g1 [] Tryz.f209 DL 1 [])
@[go_sem] def Nj(a:Cmd):Cmd:=ap (g1 [] Tryz.f209 DL 0 [a])
def EL:Cmd:=Nj bD
def xB:FD:=⟨5,[aC],[.cell 10 7 true],EL⟩
def EM:Cmd:=ap (g0 Tryz.f210 [[2,3,4,6],[6,7]])
def xC:FD:=⟨3,[aL,[]],[.cell 6 3 true,.t 7],EM⟩
def HV:Cmd:=ap (g0 Tryz.f211 [[2,3,4,6],[6,7]])
def Az:FD:=⟨3,[aL,[]],[.cell 6 3 true,.t 7],HV⟩
def tM:Cmd:=ap (g0 Tryz.f212 [[1],[],[1,3],[2],[1,8],[2],[13],[2],[2]])
def mY:FD:=⟨1,[[]],[.t 2],tM⟩
def iQ:Cmd:=ap (g0 Tryz.f221 [[1,2,3,6],[1,2,3,6,27],[6],[1,2,3,6,30],[6],[1,2,3,6,35],[1,2,3,6],[1,2,3,6,7,8],[6,7,8,9,10],[6]])
def fJ:FD:=⟨3,[aC],[.cell 6 7 true],iQ⟩
def tj:Cmd:=ap (g0 Tryz.f227 [[0,1],[4]])
def jS:FD:=⟨2,[[]],[.t 4],tj⟩
def DM:Cmd:=ap (g0 Tryz.f228 [[0],[2]])
def wr:FD:=⟨1,[[]],[.t 2],DM⟩
def EN:dQ:=[[0],[0,3],[0,3],[0,3],[],[0,3,15],[0,3],[0,3],[2]]
def lT:Cmd:=ap (g1 [] Tryz.f229 EN 1 [])
@[go_sem] def OQ(a:Cmd):Cmd:=ap (g1 [] Tryz.f229 EN 0 [a])
def F0:Cmd:=OQ lT
def zz:FD:=⟨1,[[.o 2 []]],[.t 2],F0⟩
def sG:Cmd:=ap (g0 Tryz.f230 [[0,1],[0,1],[0,1,6],[4,5],[0,1,10],[4,5],[4,5]])
def mI:FD:=⟨2,[[.o 2 []],[]],[.t 4,.t 5],sG⟩
def zA:Cmd:=ap (g0 Tryz.f231 [[0],[2]])
def rI:FD:=⟨1,[[]],[.t 2],zA⟩
def Nk:Cmd:=ap (g0 Tryz.f232 [[1,2],[2]])
def Ft:FD:=⟨1,[[.o 2 [],.o 0 [],.o 0 []]],[.cell 2 3 true],Nk⟩
def Fu:Cmd:=ap (g0 Tryz.f233 [[0,1],[0,1,11],[0,1],[0,1,6],[4,5]])
def zB:FD:=⟨2,[[.o 2 []],[]],[.t 4,.t 5],Fu⟩
def Cm:Cmd:=ap (g0 Tryz.f234 [[0,1],[0,1,9],[4,5],[4,5]])
def vH:FD:=⟨2,[[.o 2 []],[]],[.t 4,.t 5],Cm⟩
def xf:Cmd:=ap (g0 Tryz.f235 [[0,1],[0,1],[0,1,6],[4,5],[0,1,11],[4,5],[4,5]])
def qB:FD:=⟨2,[[.o 2 []],[]],[.t 4,.t 5],xf⟩
def K9:Cmd:=ap (g0 Tryz.f236 [[1,2,3,6],[1,2,3,6,8],[1,4],[1,2,3,6,8,10],[],[1,2,3,6,8,10,29],[1,2,6,8,9,10],[1,2,6,8,10,11,12],[1,2,6,8,9,10],[1,2,6,8,9,55],[1,2,6,8,9],[1,2,6,8,9,66],[1,6,67],[6,7],[1,6,9],[6,8,9],[6,7]])
def uE:FD:=⟨3,[aL,[]],[.cell 6 3 true,.t 7],K9⟩
def xD:Cmd:=ap (g0 Tryz.f237 [[1],[2]])
def pM:FD:=⟨1,[[]],[.t 2],xD⟩
def uF:dQ:=[[0,1],[0,1,7,8],[],[0,1,7,8],[],[0,1,7,8,9],[0,1,7,8],[0,1,5,7,8],[0,1,5,7,8,16],[4],[0,1,7,8],[4]]
def dY:Cmd:=ap (g1 [] Tryz.f238 uF 1 [])
@[go_sem] def Eo(a:Cmd):Cmd:=ap (g1 [] Tryz.f238 uF 0 [a])
def vV:Cmd:=Eo dY
def mZ:FD:=⟨2,[[]],[.t 4],vV⟩
def iO:dQ:=[[0,1],[0,1,10],[0,1],[0,5,6],[0,6,26],[0,6],[0,7],[7,8],[7],[7,8],[30],[7,8,37],[7,8],[7,8],[],[4]]
def cT:Cmd:=ap (g1 [] Tryz.f239 iO 1 [])
@[go_sem] def qC(a:Cmd):Cmd:=ap (g1 [] Tryz.f239 iO 0 [a])
def iV:Cmd:=qC cT
def eH:FD:=⟨2,[[]],[.t 4],iV⟩
def BP:dQ:=[[0,1],[0,1,5],[5,13,14,15],[5],[5,13,14,15],[1000],[5,13,14,15,16],[5,13,14,15],[5,7,13,14,15],[5,13,14,15],[5,13,14,15],[4]]
def jD:Cmd:=ap (g1 [] Tryz.f240 BP 1 [])
@[go_sem] def KA(a:Cmd):Cmd:=ap (g1 [] Tryz.f240 BP 0 [a])
def CE:Cmd:=KA jD
def uG:FD:=⟨2,[[]],[.t 4],CE⟩
def zW:dQ:=[[0,1,2,6],[0,1,2,6,15,16],[],[0,1,2,6,15,16],[1000,1001,1002,1003,1004],[0,1,2,6,15,16,17],[0,1,2,6,15,16],[0,1,2,6,7,15,16],[0,1,2,6,7,15,16,31],[],[0,1,2,6,15,16],[0,1,2,6,15,16]]
def qD:Cmd:=ap (g1 [] Tryz.f241 zW 1 [])
@[go_sem] def IQ(a:Cmd):Cmd:=ap (g1 [] Tryz.f241 zW 0 [a])
def uH:Cmd:=IQ qD
def nH:FD:=⟨3,[],[],uH⟩
def mf:dQ:=[[0,1,2,3,4,5,13,14],[0,1,2,3,5],[0,1,2,3,4,5,13,14],[1000,1001,1002,1003,1004],[0,1,2,3,4,5,13,14,15],[0,1,2,3,4,5,13,14],[0,1,2,3,4,5,8,13,14],[0,1,2,3,4,5,8,9,13,14],[0,1,2,3,4,5,13,14],[0,1,2,3,4,5,8,9,13,14],[1000,1001,1002,1003,1004],[0,1,2,3,4,5,8,9,13,14,21],[0,1,2,3,4,5,8,9,13,14],[0,1,2,3,4,5,8,9,10,13,14],[0,1,2,3,4,5,8,9,13,14],[0,24,3,24,5,24,6,24,9,24,12,24,0,25,3,25],[0,1,2,3,4,5,8,9,13,14],[0,1,2,3,4,5,13,14],[0,1,2,3,5,11],[0,1,2,3,5,11,12],[],[0,1,2,3,5,11,12],[11,1000,1001,1002,1003,1004],[0,1,2,3,5,11,12,61],[0,1,2,3,5,11,12],[0,1,2,3,5,11,12],[0,1,2,3,5,11,12],[0,22,3,22],[0,1,2,3,5,11,12]]
def iD:Cmd:=ap (g1 [] Tryz.f242 mf 1 [])
def iF:Cmd:=ap (g1 [] Tryz.f242 mf 2 [])
@[go_sem] def Fv(a b:Cmd):Cmd:=ap (g1 [] Tryz.f242 mf 3 [a,b])
def kH:Cmd:=Fv iD iF
@[go_sem] def H8(a b c:Cmd):Cmd:=ap (g1 [] Tryz.f242 mf 0 [a,b,c])
def zX:Cmd:=H8 iD iF kH
def rJ:FD:=⟨6,[],[],zX⟩
def DN:Cmd:=ap (g0 Tryz.f243 [[0,4,5,6],[6],[]])
def ws:FD:=⟨3,[aC],[.cell 6 7 true],DN⟩
def DO:Cmd:=ap (g0 Tryz.f244 [[0,4,5,6],[6],[]])
def wt:FD:=⟨3,[aC],[.cell 6 7 true],DO⟩
def jf:dQ:=[[0,1,2,3,6],[0,1,2,3,6,7],[0,1,2,3],[0,1,2,3,6,7],[6,1000,1001,1002,1003],[0,1,2,3,6,7,14],[0,1,2,3,6,7],[0,1,2,3,6,7],[0,6,1,6,0,7,1,7,6,12,7,12,8,12,10,12,11,12,6,15,7,15,8,15,10,15,11,15],[0,1,2,3,6,7],[0,25,3,25],[0,1,2,3,6,7],[0,1,2,3,8],[],[0,1,2,3,8],[1000,1001,1002,1003],[0,1,2,3,8,63],[0,1,2,3,8],[0,1,2,3,8,9],[0,1,2,3,8],[0,1,2,3,8,9],[1000,1001,1002,1003],[0,1,2,3,8,9,69],[0,1,2,3,8,9],[0,1,2,3,8,9],[0,33,3,33],[0,1,2,3,8,9],[0,1,2,3,8]]
def fk:Cmd:=ap (g1 [] Tryz.f245 jf 1 [])
@[go_sem] def BQ(a:Cmd):Cmd:=ap (g1 [] Tryz.f245 jf 2 [a])
def il:Cmd:=BQ fk
def io:Cmd:=ap (g1 [] Tryz.f245 jf 3 [])
@[go_sem] def DP(a b c:Cmd):Cmd:=ap (g1 [] Tryz.f245 jf 0 [a,b,c])
def uI:Cmd:=DP fk il io
def mh:FD:=⟨4,[],[],uI⟩
def DQ:Cmd:=ap (g0 Tryz.f246 [[0],[2]])
def wu:FD:=⟨1,[[]],[.t 2],DQ⟩
def IR:Cmd:=ap (g0 Tryz.f248 [[1,2,4],[4,5]])
def Cn:FD:=⟨2,[aL,[]],[.cell 4 3 true,.t 5],IR⟩
def Nl:Cmd:=ap (g0 Tryz.f249 [[1,2,4],[4,5]])
def Fw:FD:=⟨2,[aL,[]],[.cell 4 3 true,.t 5],Nl⟩
def pN:dQ:=[[0,1],[0,1],[0,1,25],[4,5],[0,1,30],[6,7],[4,5],[0,1,8],[0,8,9,10],[8,9,10],[0,8,9,10],[63,2408],[0,8,9,10,60],[0,8,9,10],[0,8,9,10],[8,9,10,11],[8,9,10,11,12],[8,9,10,11,12,13],[8,9,11,12],[8,9,10,11,12,13],[63,70,2408],[8,9,10,11,12,13,77],[8,9,10,11,12,13],[8,9,10,11,12,13,14],[],[8,9,10,11,12,13,14,120],[8,9,10,11,12,13,14],[8,9,10,11,12,13,14,15],[8,9,10,11,12,13,14,15,123,124,125],[8,9,10,11,12,13,14,15],[8,9,10,11,12,13,14,15,123,124,125],[63,70,2408],[8,9,10,11,12,13,14,15,123,124,125,126],[8,9,10,11,12,13,14,15,123,124,125],[8,9,10,11,12,13,14,15,16,17,123,124,125],[8,9,10,11,12,13,14,15,123,124,125],[8,9,10,11,12,13,14,15,123,124,125],[8,9,10,11,12,13,14],[8,9,10,11,12,13],[8,9,10,11,12,13],[4,5]]
def iu:Cmd:=ap (g1 [] Tryz.f250 pN 1 [])
@[go_sem] def H9(a:Cmd):Cmd:=ap (g1 [] Tryz.f250 pN 2 [a])
def j8:Cmd:=H9 iu
def zY:Cmd:=ap (g1 [] Tryz.f250 pN 3 [])
@[go_sem] def LA(a b c:Cmd):Cmd:=ap (g1 [] Tryz.f250 pN 0 [a,b,c])
def xE:Cmd:=LA iu j8 zY
def pO:FD:=⟨2,[[.o 2 []],[.o 2 []]],[.t 4,.t 5],xE⟩
def IS:Cmd:=ap (g0 Tryz.f251 [[0,2],[0,2,4],[0],[0,2],[0,2,8],[0,2],[0,2],[2]])
def nY:FD:=⟨1,[[]],[.t 2],IS⟩
def acZ:Cmd:=ap (g0 Tryz.f252 [[0,1],[0,1,6],[0,1],[7777777,100000],[0,1],[0,1,16],[7777777,100000],[0],[7777777,100000],[4]])
def fg:FD:=⟨2,[[]],[.t 4],acZ⟩
def Co:Cmd:=ap (g0 Tryz.f253 [[0,1],[0,1,9],[4,5],[4,5]])
def vJ:FD:=⟨2,[[.o 2 []],[]],[.t 4,.t 5],Co⟩
def wQ:Cmd:=ap (g0 Tryz.f254 [[2,3,4,5,8],[2,3,4,5,8,10],[2,3,4,5,8,10,19],[8,9],[2,3,4,5,8,31],[8,9],[2,3,4,5,8,11],[8,9]])
def qE:FD:=⟨4,[aL,[]],[.cell 8 3 true,.t 9],wQ⟩
def zC:Cmd:=ap (g0 Tryz.f256 [[1,2],[1,2,11],[2],[2],[2,4]])
def sH:FD:=⟨1,[aL],[.cell 2 3 true],zC⟩
def AA:Cmd:=ap (g0 Tryz.f266 [[1,2],[1,2,10],[2],[1,2,3],[2,3,5],[2]])
def tN:FD:=⟨1,[aC],[.cell 2 7 true],AA⟩
def vK:Cmd:=ap (g0 Tryz.f267 [[1,2,3,4,8],[1,2,3,4,8,14],[8,10,11],[8,9],[1,2,4,8,28],[8,9],[8,9]])
def oZ:FD:=⟨4,[aL,[]],[.cell 8 3 true,.t 9],vK⟩
def kS:dQ:=[[0,1],[0,1,7,8],[],[0,1,7,8],[],[0,1,7,8,9],[0,1,7,8],[0,1,5,7,8],[0,1,5,7,8,16],[4],[0,1,7,8],[4]]
def tl:Cmd:=ap (g1 [] Tryz.f270 kS 1 [])
@[go_sem] def vL(a:Cmd):Cmd:=ap (g1 [] Tryz.f270 kS 0 [a])
def vM:Cmd:=vL tl
def kT:FD:=⟨2,[[]],[.t 4],vM⟩
def F1:dQ:=[[0,1],[0,1],[0,1,5],[0,1,5,6],[1,5,6,21,22,23],[5,6],[1,5,6,21,22,23],[20,38],[1,5,6,21,22,23,24],[1,5,6,21,22,23],[1,5,6,8,21,22,23],[1,5,9,21,22,23],[1,5,6,21,22,23],[1,5,6,21,22,23],[4]]
def rK:Cmd:=ap (g1 [] Tryz.f271 F1 1 [])
@[go_sem] def agE(a:Cmd):Cmd:=ap (g1 [] Tryz.f271 F1 0 [a])
def HW:Cmd:=agE rK
def AB:FD:=⟨2,[[]],[.t 4],HW⟩
def F3:dQ:=[[0,1],[0,1,14],[0,1],[0,1,5],[0,1,5,6],[0,1,5,6,21,22,23],[0,5,6],[0,1,5,6,21,22,23],[20],[0,1,5,6,21,22,23,24],[0,1,5,6,21,22,23],[0,1,5,6,7,8,21,22,23],[0,1,5,6,7,8,9,21,22,23],[0,1,5,6,7,8,9,21,22,23,31],[0,1,5,6,7,8,9,21,22,23],[0,1,5,6,21,22,23],[0,1,5,6,21,22,23],[5],[4]]
def ku:Cmd:=ap (g1 [] Tryz.f272 F3 1 [])
@[go_sem] def RU(a:Cmd):Cmd:=ap (g1 [] Tryz.f272 F3 0 [a])
def HX:Cmd:=RU ku
def vO:FD:=⟨2,[[.o 2 []]],[.t 4],HX⟩
def F4:dQ:=[[0,1],[0,1],[0,1,5],[0,1,5,6],[1,5,6,17,18,19],[5],[1,5,6,17,18,19],[16],[1,5,6,17,18,19,20],[1,5,6,17,18,19],[1,5,6,7,8,17,18,19],[1,5,6,7,8,9,17,18,19],[1,5,6,7,8,9,17,18,19,27],[1,5,6,7,8,9,17,18,19],[1,5,6,17,18,19],[1,5,6,17,18,19],[4]]
def m8:Cmd:=ap (g1 [] Tryz.f273 F4 1 [])
@[go_sem] def RW(a:Cmd):Cmd:=ap (g1 [] Tryz.f273 F4 0 [a])
def HY:Cmd:=RW m8
def AC:FD:=⟨2,[[.o 2 []]],[.t 4],HY⟩
def sJ:Cmd:=ap (g0 Tryz.f274 [[0,1,2,6],[0,1,2,6,15],[6,7],[6,7]])
def mJ:FD:=⟨3,[aL,[]],[.cell 6 3 true,.t 7],sJ⟩
def Nm:Cmd:=ap (g0 Tryz.f275 [[0,1],[6,7],[4,5],[8,9],[4,5]])
def Fx:FD:=⟨2,[[],[]],[.t 4,.t 5],Nm⟩
def DR:dQ:=[[0,1],[0,1,6],[0,1,6,7],[0,1,6,7,8],[6,7],[0,1,6,7,8],[11],[0,1,6,7,8,16],[0,1,6,7,8],[0,1,6,7,8],[0,1,6,7,8],[4,5]]
def kU:Cmd:=ap (g1 [] Tryz.f277 DR 1 [])
@[go_sem] def Nn(a:Cmd):Cmd:=ap (g1 [] Tryz.f277 DR 0 [a])
def EO:Cmd:=Nn kU
def xF:FD:=⟨2,[[.o 2 []],[]],[.t 4,.t 5],EO⟩
def xZ:Cmd:=ap (g0 Tryz.f278 [[0],[2]])
def py:FD:=⟨1,[[]],[.t 2],xZ⟩
def zD:Cmd:=ap (g0 Tryz.f279 [[0,1,2,3,4],[0,1,2,3,4,14],[10],[2,3,4,11],[10],[]])
def rL:FD:=⟨5,[[]],[.t 10],zD⟩
def EP:dQ:=[[0,1,2],[0,1,2,7,8],[0,1,2,7,8,14,15,16],[0,1,7,8],[0,1,2,7,8,14,15,16],[1000],[0,1,2,7,8,14,15,16,17],[0,1,2,7,8,14,15,16],[0,1,2,7,8,9,10,14,15,16],[0,1,2,8,9,11,14,15,16],[0,1,2,7,8,9,11,14,15,16],[0,1,2,7,9,12,14,15,16],[0,1,2,7,8,14,15,16],[0,1,2,7,8,14,15,16],[0,1,13],[13],[6]]
def lU:Cmd:=ap (g1 [] Tryz.f280 EP 1 [])
@[go_sem] def OR(a:Cmd):Cmd:=ap (g1 [] Tryz.f280 EP 0 [a])
def F5:Cmd:=OR lU
def zE:FD:=⟨3,[[]],[.t 6],F5⟩
def IT:Cmd:=ap (g0 Tryz.f281 [[0,1,2],[8],[6,8],[6,7]])
def Cp:FD:=⟨3,[[],[]],[.t 6,.t 7],IT⟩
def AD:dQ:=[[0,1],[0,1,5],[1,5,18,19,20],[5],[1,5,18,19,20],[17],[1,5,18,19,20,21],[1,5,18,19,20],[1,5,6,7,18,19,20],[1,5,6,7,8,18,19,20],[1,5,6,7,8,18,19,20,25,26,27],[1,5,6,8,18,19,20],[1,5,6,7,8,18,19,20,25,26,27],[17],[1,5,6,7,8,18,19,20,25,26,27,28],[1,5,6,7,8,18,19,20,25,26,27],[1,5,6,7,8,9,10,18,19,20,25,26,27],[1,5,6,7,9,11,18,19,20,25,26,27],[1,5,6,7,8,18,19,20,25,26,27],[1,5,6,7,8,18,19,20,25,26,27],[1,5,18,19,20],[1,5,18,19,20],[4]]
def m9:Cmd:=ap (g1 [] Tryz.f282 AD 1 [])
@[go_sem] def LB(a:Cmd):Cmd:=ap (g1 [] Tryz.f282 AD 2 [a])
def rM:Cmd:=LB m9
@[go_sem] def RX(a b:Cmd):Cmd:=ap (g1 [] Tryz.f282 AD 0 [a,b])
def HZ:Cmd:=RX m9 rM
def AE:FD:=⟨2,[[.o 2 []]],[.t 4],HZ⟩
def AF:Cmd:=ap (g0 Tryz.f287 [[1,2],[1,2,7],[2,3],[1,2,11],[2,3],[2,3],[2,4]])
def tO:FD:=⟨1,[aL,[]],[.cell 2 3 true,.t 3],AF⟩
def F6:Cmd:=ap (g0 Tryz.f288 [[1,2],[1,2,7],[2,3],[2,3],[2,4]])
def zF:FD:=⟨1,[aL,[]],[.cell 2 3 true,.t 3],F6⟩
def CF:dQ:=[[1,2,3,4,5,10],[1,2,4,5,10,12,13],[1,2,4,5,10,12,13,14],[10,12,13],[1,2,4,5,10,12,13,14],[5,10,12],[1,2,4,5,10,12,13,14,28],[1,2,4,5,10,12,13,14],[1,2,4,5,10,12,13,14],[1,2,4,5,10,12,13,14],[10,11]]
def aU:Cmd:=ap (g1 [] Tryz.f289 CF 1 [])
@[go_sem] def LC(a:Cmd):Cmd:=ap (g1 [] Tryz.f289 CF 0 [a])
def DS:Cmd:=LC aU
def pP:FD:=⟨5,[aL,[]],[.cell 10 3 true,.t 11],DS⟩
def IU:Cmd:=ap (g0 Tryz.f295 [[0,1,2],[0,1,6],[6,7]])
def Cq:FD:=⟨3,[[],[]],[.t 6,.t 7],IU⟩
def T3:Cmd:=ap (g0 Tryz.f296 [[0,1],[6],[4,5]])
def RY:FD:=⟨2,[[],[]],[.t 4,.t 5],T3⟩
def IV:Cmd:=ap (g0 Tryz.f297 [[0,1],[0,1,6],[0,1,6,7],[0,1,6,7,8],[0,1,6,7,8,9],[0,1,6,7,8,9,10],[0,1,6,7,9,11],[0,1,6,7,9,11,12],[0,1,6,7,9,12,13],[0,1,7,9,12,13],[0,1,4],[4,5]])
def Cr:FD:=⟨2,[[],[]],[.t 4,.t 5],IV⟩
def IW:Cmd:=ap (g0 Tryz.f298 [[0,1,2],[0,1,2,15],[0,1,2],[2,8],[6,7],[]])
def Cs:FD:=⟨3,[[],[]],[.t 6,.t 7],IW⟩
def DT:dQ:=[[0,1,2,3,4],[0],[0,1,2,3,4],[],[0,1,2,3,4,24],[0,1,2,3,4],[0,1,2,3,4],[0,1,2,3,4],[10]]
def gp:Cmd:=ap (g1 [] Tryz.f299 DT 1 [])
@[go_sem] def No(a:Cmd):Cmd:=ap (g1 [] Tryz.f299 DT 0 [a])
def ER:Cmd:=No gp
def xG:FD:=⟨5,[[]],[.t 10],ER⟩
end
noncomputable def agf:List (Nat×FD):=[(251,nY),
 (275,Fx),
 (278,py),
 (281,Cp),
 (295,Cq),
 (296,RY),
 (297,Cr),
 (298,Cs),
 (104,qi),
 (167,ze),
 (168,tJ),
 (169,vA),
 (171,qw),
 (203,wn),
 (205,tL),
 (228,wr),
 (229,zz),
 (230,mI),
 (234,vH),
 (235,qB),
 (250,pO),
 (253,vJ),
 (271,AB),
 (272,vO),
 (273,AC),
 (277,xF),
 (279,rL),
 (280,zE),
 (282,AE),
 (299,xG),
 (191,j7),
 (246,wu),
 (7,fW),
 (25,iN),
 (27,jg),
 (29,gN),
 (43,bw),
 (56,uu),
 (60,jv),
 (61,j5),
 (64,fM),
 (105,jX),
 (106,jA),
 (122,dw),
 (125,bC),
 (126,mV),
 (129,gF),
 (140,nK),
 (192,iK),
 (202,qA),
 (207,gH),
 (227,jS),
 (238,mZ),
 (239,eH),
 (252,fg),
 (270,kT),
 (35,wX),
 (62,nG),
 (63,jP),
 (74,ij),
 (75,yV),
 (102,wk),
 (103,Cf),
 (107,mF),
 (108,lN),
 (119,gV),
 (120,oQ),
 (121,pJ),
 (128,sz),
 (132,sA),
 (170,sD),
 (172,wm),
 (176,vB),
 (190,Ax),
 (195,lI),
 (197,sF),
 (208,iL),
 (256,sH),
 (274,mJ),
 (69,xw),
 (70,Ao),
 (88,xx),
 (89,Aq),
 (112,wK),
 (113,mU),
 (144,qt),
 (175,qx),
 (177,vC),
 (178,uB),
 (179,oS),
 (196,gy),
 (204,DK),
 (210,xC),
 (211,Az),
 (231,rI),
 (232,Ft),
 (233,zB),
 (236,uE),
 (248,Cn),
 (249,Fw),
 (254,qE),
 (37,ef),
 (40,wh),
 (41,oM),
 (44,gU),
 (46,ig),
 (49,yS),
 (50,wj),
 (67,pI),
 (68,lh),
 (71,mT),
 (73,it),
 (76,jy),
 (81,tG),
 (116,gj),
 (149,oR),
 (155,lk),
 (181,rF),
 (182,rG),
 (189,rH),
 (209,xB),
 (212,mY),
 (221,fJ),
 (266,tN),
 (267,oZ),
 (287,tO),
 (288,zF),
 (289,pP),
 (72,sv),
 (114,sy),
 (115,Ar),
 (117,agi),
 (118,go),
 (180,oT),
 (183,vF),
 (184,oV),
 (185,gx),
 (186,zj),
 (187,uC),
 (188,nO),
 (237,pM),
 (240,uG),
 (241,nH),
 (242,rJ),
 (243,ws),
 (244,wt),
 (245,mh),
 (47,wY),
 (51,sT),
 (77,HJ),
 (78,fX),
 (79,fH),
 (109,lH),
 (110,qp),
 (123,nN),
 (124,xc),
 (127,At),
 (130,xd),
 (131,nV),
 (145,Bv),
 (146,Bw),
 (147,px),
 (173,tK),
 (174,Aw),
 (206,uD),
 (12,dL),
 (14,ve),
 (15,sj),
 (17,mC),
 (19,p8),
 (36,agc),
 (39,vf),
 (42,tE),
 (45,Ce),
 (48,sn),
 (52,An),
 (65,xt),
 (66,iT),
 (80,yW),
 (90,TY),
 (91,yY),
 (92,y5),
 (111,xz),
 (148,DH),
 (23,wJ),
 (53,mD),
 (59,nU),
 (82,GZ),
 (3,dj),
 (5,TQ),
 (6,yK),
 (8,Bu),
 (13,GY),
 (16,Fn),
 (18,ZL),
 (24,RF),
 (26,qf),
 (28,ru),
 (38,Cc),
 (9,xp),
 (10,yL),
 (11,yM),
 (22,Lu),
 (30,bU),
 (31,ut),
 (32,v9),
 (33,dm),
 (34,we),
 (55,IM),
 (58,Kw),
 (86,RH),
 (139,OM),
 (141,Nh),
 (201,Lz)]
def shL:List (Nat×List (List Sh)):=[(104,[[.o 2 []],[]]),
 (167,[[.o 2 [.o 2 []]]]),
 (168,[[.o 2 []]]),
 (169,[[.o 2 []],[]]),
 (171,[[.o 2 []],[.o 2 []]]),
 (203,[[.o 2 []],[.o 2 []]]),
 (205,[[.o 2 []]]),
 (228,[[.o 2 []]]),
 (229,[[.o 2 []]]),
 (230,[[.o 2 []],[]]),
 (234,[[.o 2 []],[.o 2 []]]),
 (235,[[.o 2 []],[.o 2 []]]),
 (250,[[.o 2 []],[.o 2 []]]),
 (253,[[.o 2 []],[.o 2 []]]),
 (271,[[.o 2 []],[]]),
 (272,[[.o 2 []],[.o 2 []]]),
 (273,[[.o 2 []],[.o 2 []]]),
 (277,[[.o 2 []],[]]),
 (280,[[.o 2 []],[.o 2 []],[]]),
 (282,[[.o 2 []],[.o 2 []]]),
 (7,[[.o 8 aC],[]]),
 (25,[[.o 10 [.o 0 [],.o 5 [],.o 0 [],.o 2 [],.o 0 [],.o 0 [],.o 2 [],.o 0 [],.o 0 []]],[]]),
 (27,[[.o 5 [.o 2 [],.o 0 [],.o 2 [],.o 0 []]],[]]),
 (29,[[.o 8 aC],[]]),
 (43,[[.o 8 aC],[.o 8 aC],[]]),
 (56,[[.o 10 [.o 0 [],.o 5 [],.o 0 [],.o 2 [],.o 0 [],.o 0 [],.o 2 [],.o 0 [],.o 0 []]]]),
 (60,[[.o 10 [.o 0 [],.o 5 [],.o 0 [],.o 2 [],.o 0 [],.o 0 [],.o 2 [],.o 0 [],.o 0 []]],[]]),
 (61,[[.o 5 [.o 2 [],.o 0 [],.o 2 [],.o 0 []]],[]]),
 (64,[[.o 2 []],[.o 2 []]]),
 (105,[[.o 2 []]]),
 (106,[[.o 2 []]]),
 (122,[[.o 5 [.o 2 [],.o 0 [],.o 2 [],.o 0 []]],[.o 2 []],[]]),
 (125,[[],[],[.o 5 [.o 2 [],.o 0 [],.o 2 [],.o 0 []]]]),
 (126,[[.o 2 []]]),
 (140,[[.o 2 []],[]]),
 (192,[[.o 2 []],[.o 2 []]]),
 (194,[[.o 5 [.o 2 [],.o 0 [],.o 2 [],.o 0 []]],[]]),
 (202,[[.o 2 []],[]]),
 (207,[[.o 2 [.o 5 [.o 2 [],.o 0 [],.o 2 [],.o 0 []]]]]),
 (227,[[.o 2 [.o 2 []]],[]]),
 (238,[[.o 2 []],[]]),
 (239,[[.o 8 aC],[]]),
 (270,[[.o 2 [.o 2 []]],[]]),
 (62,[[],[.o 2 []],[]]),
 (63,[aL,aL]),
 (74,[aL]),
 (75,[aL,[]]),
 (102,[[.o 2 []]]),
 (103,[[.o 2 []]]),
 (107,[aL]),
 (108,[aL,aL]),
 (119,[aL]),
 (121,[aL]),
 (128,[aL,aL]),
 (132,[aL]),
 (170,[aL]),
 (172,[[.o 2 []],[]]),
 (176,[aL]),
 (190,[[.o 2 []]]),
 (195,[aL,aL]),
 (197,[aL,aL]),
 (208,[aL,aL]),
 (256,[aL]),
 (274,[[],[.o 2 []],[]]),
 (69,[aL,aL,[]]),
 (70,[aL,aL,[]]),
 (88,[aL,aL,[]]),
 (89,[aL,aL,[]]),
 (112,[aL,[]]),
 (113,[aL,aL,[],[]]),
 (144,[aL,aL,[],[]]),
 (175,[[],[.o 4 aL]]),
 (177,[aL,[],[]]),
 (178,[aL,aL,[]]),
 (179,[[],[.o 2 [],.o 0 [],.o 0 []],[],[]]),
 (196,[aL,[]]),
 (204,[[.o 2 []],[]]),
 (210,[aL,aL,[]]),
 (211,[aL,aL,[]]),
 (232,[aL]),
 (233,[[.o 2 []],[]]),
 (236,[[.o 2 [],.o 0 [],.o 0 []],[],[]]),
 (248,[aL,[]]),
 (249,[aL,[]]),
 (254,[aL,aL,[],[]]),
 (37,[aC,aC]),
 (41,[aC,aC,[]]),
 (44,[aC]),
 (46,[aC,[]]),
 (49,[aC,aC,[]]),
 (50,[aL]),
 (67,[[.o 8 aC]]),
 (71,[aL,[],aL,[]]),
 (73,[aL]),
 (76,[aC,aL]),
 (81,[aC]),
 (116,[aC,aC]),
 (149,[aC,aC,[]]),
 (155,[aC,aC,[]]),
 (181,[aL,aL]),
 (182,[aL,aL]),
 (189,[aC,aC]),
 (209,[aC,aC,[],[],[]]),
 (212,[aC]),
 (221,[aC,[],[]]),
 (266,[aC]),
 (267,[aL,[],[],[]]),
 (287,[aC]),
 (288,[aC]),
 (289,[aL,[],[],[],[]]),
 (72,[[.o 0 [],.o 5 [.o 2 [],.o 0 [],.o 2 [],.o 0 []]],[.o 8 aC],[]]),
 (114,[[.o 0 [],.o 5 [.o 2 [],.o 0 [],.o 2 [],.o 0 []]],[.o 8 aC],[]]),
 (117,[[.o 0 [],.o 5 [.o 2 [],.o 0 [],.o 2 [],.o 0 []]],[.o 8 aC],[]]),
 (118,[[.o 0 [],.o 5 [.o 2 [],.o 0 [],.o 2 [],.o 0 []]],[.o 8 aC],[]]),
 (180,[[.o 0 [],.o 5 [.o 2 [],.o 0 [],.o 2 [],.o 0 []]],[.o 8 aC]]),
 (183,[aC,[],[]]),
 (184,[[.o 0 [],.o 5 [.o 2 [],.o 0 [],.o 2 [],.o 0 []]]]),
 (185,[aL,aL,aC,[]]),
 (186,[[.o 0 [],.o 5 [.o 2 [],.o 0 [],.o 2 [],.o 0 []]],[]]),
 (187,[[],[],aC]),
 (237,[aC]),
 (243,[[],aC,aC]),
 (244,[[],aC,aC]),
 (47,[[],aL]),
 (78,[[],[.o 2 []],aL]),
 (109,[[.o 0 [],.o 5 [.o 2 [],.o 0 [],.o 2 [],.o 0 []]]]),
 (110,[[.o 0 [],.o 5 [.o 2 [],.o 0 [],.o 2 [],.o 0 []]]]),
 (123,[[.o 2 [],.o 0 [],.o 2 [],.o 0 []],[.o 2 []]]),
 (124,[[.o 2 []],[.o 2 []]]),
 (127,[aL]),
 (130,[[.o 0 [],.o 5 [.o 2 [],.o 0 [],.o 2 [],.o 0 []]],[]]),
 (131,[[.o 0 [],.o 5 [.o 2 [],.o 0 [],.o 2 [],.o 0 []]],[]]),
 (145,[[.o 0 [],.o 5 [.o 2 [],.o 0 [],.o 2 [],.o 0 []]],[.o 0 [],.o 5 [.o 2 [],.o 0 [],.o 2 [],.o 0 []]]]),
 (146,[[.o 0 [],.o 5 [.o 2 [],.o 0 [],.o 2 [],.o 0 []]],[.o 0 [],.o 5 [.o 2 [],.o 0 [],.o 2 [],.o 0 []]]]),
 (147,[[.o 0 [],.o 5 [.o 2 [],.o 0 [],.o 2 [],.o 0 []]],[.o 0 [],.o 5 [.o 2 [],.o 0 [],.o 2 [],.o 0 []]]]),
 (174,[[.o 2 []]]),
 (206,[[.o 0 [],.o 5 [.o 2 [],.o 0 [],.o 2 [],.o 0 []]],[.o 0 [],.o 5 [.o 2 [],.o 0 [],.o 2 [],.o 0 []]]]),
 (12,[[.o 8 aC,.o 0 [],.o 0 []]]),
 (14,[[.o 8 aC,.o 0 [],.o 0 []],[.o 0 [],.o 5 [.o 2 [],.o 0 [],.o 2 [],.o 0 []],.o 0 [],.o 2 [],.o 0 [],.o 0 [],.o 2 [],.o 0 [],.o 0 []]]),
 (15,[[.o 8 aC,.o 0 [],.o 0 []],[.o 0 [],.o 5 [.o 2 [],.o 0 [],.o 2 [],.o 0 []],.o 0 [],.o 2 [],.o 0 [],.o 0 [],.o 2 [],.o 0 [],.o 0 []],[.o 8 aC]]),
 (17,[[.o 8 aC,.o 0 [],.o 0 []],aC]),
 (19,[[.o 8 aC,.o 0 [],.o 0 []],[]]),
 (36,[aC]),
 (39,[[.o 8 aC,.o 0 [],.o 0 []],[.o 10 [.o 0 [],.o 5 [],.o 0 [],.o 2 [],.o 0 [],.o 0 [],.o 2 [],.o 0 [],.o 0 []]]]),
 (42,[[.o 0 [],.o 5 [.o 2 [],.o 0 [],.o 2 [],.o 0 []]],[.o 8 aC],[]]),
 (45,[[.o 8 aC,.o 0 [],.o 0 []]]),
 (48,[[.o 8 aC,.o 0 [],.o 0 []],[.o 0 [],.o 5 [.o 2 [],.o 0 [],.o 2 [],.o 0 []]],[],aC]),
 (65,[[.o 0 [],.o 5 [.o 2 [],.o 0 [],.o 2 [],.o 0 []],.o 0 [],.o 2 [],.o 0 [],.o 0 [],.o 2 [],.o 0 [],.o 0 []]]),
 (66,[[.o 8 aC,.o 0 [],.o 0 []],[.o 0 [],.o 5 [.o 2 [],.o 0 [],.o 2 [],.o 0 []],.o 0 [],.o 2 [],.o 0 [],.o 0 [],.o 2 [],.o 0 [],.o 0 []]]),
 (80,[[.o 8 aC,.o 0 [],.o 0 []],[.o 0 [],.o 5 [.o 2 [],.o 0 [],.o 2 [],.o 0 []]]]),
 (90,[[.o 8 aC,.o 0 [],.o 0 []],[.o 0 [],.o 5 [.o 2 [],.o 0 [],.o 2 [],.o 0 []],.o 0 [],.o 2 [],.o 0 [],.o 0 [],.o 2 [],.o 0 [],.o 0 []],[.o 0 [],.o 5 [.o 2 [],.o 0 [],.o 2 [],.o 0 []],.o 0 [],.o 2 [],.o 0 [],.o 0 [],.o 2 [],.o 0 [],.o 0 []]]),
 (91,[[.o 8 aC,.o 0 [],.o 0 []],[.o 0 [],.o 5 [.o 2 [],.o 0 [],.o 2 [],.o 0 []],.o 0 [],.o 2 [],.o 0 [],.o 0 [],.o 2 [],.o 0 [],.o 0 []],[.o 0 [],.o 5 [.o 2 [],.o 0 [],.o 2 [],.o 0 []],.o 0 [],.o 2 [],.o 0 [],.o 0 [],.o 2 [],.o 0 [],.o 0 []]]),
 (92,[[.o 8 aC,.o 0 [],.o 0 []],[.o 0 [],.o 5 [.o 2 [],.o 0 [],.o 2 [],.o 0 []],.o 0 [],.o 2 [],.o 0 [],.o 0 [],.o 2 [],.o 0 [],.o 0 []],[.o 0 [],.o 5 [.o 2 [],.o 0 [],.o 2 [],.o 0 []],.o 0 [],.o 2 [],.o 0 [],.o 0 [],.o 2 [],.o 0 [],.o 0 []]]),
 (94,[[.o 8 aC,.o 0 [],.o 0 []],[.o 0 [],.o 5 [.o 2 [],.o 0 [],.o 2 [],.o 0 []],.o 0 [],.o 2 [],.o 0 [],.o 0 [],.o 2 [],.o 0 [],.o 0 []]]),
 (111,[[.o 2 [],.o 0 [],.o 2 [],.o 0 []]]),
 (148,[[],aC,[.o 8 aC]]),
 (23,[[.o 0 [],.o 5 [.o 2 [],.o 0 [],.o 2 [],.o 0 []]],[.o 0 [],.o 5 [.o 2 [],.o 0 [],.o 2 [],.o 0 []]]]),
 (53,[[.o 2 []],[.o 2 []]]),
 (59,[aL,aL]),
 (82,[[.o 2 []]]),
 (3,[[.o 8 aC,.o 0 [],.o 0 []],[.o 10 [.o 0 [],.o 5 [],.o 0 [],.o 2 [],.o 0 [],.o 0 [],.o 2 [],.o 0 [],.o 0 []]],[.o 8 aC],[.o 8 aC]]),
 (6,[[.o 8 aC,.o 0 [],.o 0 []],[.o 0 [],.o 7 [],.o 2 []],[.o 10 [.o 0 [],.o 5 [],.o 0 [],.o 2 [],.o 0 [],.o 0 [],.o 2 [],.o 0 [],.o 0 []]]]),
 (8,[aC]),
 (13,[aC,aC]),
 (16,[[.o 0 [],.o 5 [.o 2 [],.o 0 [],.o 2 [],.o 0 []],.o 0 [],.o 2 [],.o 0 [],.o 0 [],.o 2 [],.o 0 [],.o 0 []],[.o 0 [],.o 5 [.o 2 [],.o 0 [],.o 2 [],.o 0 []],.o 0 [],.o 2 [],.o 0 [],.o 0 [],.o 2 [],.o 0 [],.o 0 []]]),
 (26,[[.o 0 [],.o 5 [.o 2 [],.o 0 [],.o 2 [],.o 0 []],.o 0 [],.o 2 [],.o 0 [],.o 0 [],.o 2 [],.o 0 [],.o 0 []]]),
 (28,[[.o 2 [],.o 0 [],.o 2 [],.o 0 []]]),
 (38,[aL,aL]),
 (9,[[.o 8 aC,.o 0 [],.o 0 []],[.o 10 [.o 0 [],.o 5 [],.o 0 [],.o 2 [],.o 0 [],.o 0 [],.o 2 [],.o 0 [],.o 0 []]]]),
 (10,[[.o 8 aC,.o 0 [],.o 0 []],[.o 10 [.o 0 [],.o 5 [],.o 0 [],.o 2 [],.o 0 [],.o 0 [],.o 2 [],.o 0 [],.o 0 []]],[.o 8 aC]]),
 (11,[[.o 8 aC,.o 0 [],.o 0 []],[.o 8 aC]]),
 (22,[[.o 8 aC,.o 0 [],.o 0 []],[.o 0 [],.o 7 [],.o 2 []],[.o 10 [.o 0 [],.o 5 [],.o 0 [],.o 2 [],.o 0 [],.o 0 [],.o 2 [],.o 0 [],.o 0 []]]]),
 (30,[[.o 8 aC,.o 0 [],.o 0 []],[.o 10 [.o 0 [],.o 5 [],.o 0 [],.o 2 [],.o 0 [],.o 0 [],.o 2 [],.o 0 [],.o 0 []]],[]]),
 (31,[[.o 0 [],.o 5 [.o 2 [],.o 0 [],.o 2 [],.o 0 []],.o 0 [],.o 2 [],.o 0 [],.o 0 [],.o 2 [],.o 0 [],.o 0 []]]),
 (32,[[.o 0 [],.o 5 [.o 2 [],.o 0 [],.o 2 [],.o 0 []],.o 0 [],.o 2 [],.o 0 [],.o 0 [],.o 2 [],.o 0 [],.o 0 []]]),
 (33,[[.o 8 aC,.o 0 [],.o 0 []],[.o 8 aC],[]]),
 (34,[aC]),
 (55,[[.o 8 aC,.o 0 [],.o 0 []],[.o 0 [],.o 7 [],.o 2 []],[.o 10 [.o 0 [],.o 5 [],.o 0 [],.o 2 [],.o 0 [],.o 0 [],.o 2 [],.o 0 [],.o 0 []]]]),
 (58,[[.o 8 aC,.o 0 [],.o 0 []],[],[],[.o 0 [],.o 5 [.o 2 [],.o 0 [],.o 2 [],.o 0 []],.o 0 [],.o 2 [],.o 0 [],.o 0 [],.o 2 [],.o 0 [],.o 0 []],[.o 0 [],.o 5 [.o 2 [],.o 0 [],.o 2 [],.o 0 []],.o 0 [],.o 2 [],.o 0 [],.o 0 [],.o 2 [],.o 0 [],.o 0 []]]),
 (86,[[.o 0 [],.o 7 [],.o 2 []]]),
 (93,[[.o 8 aC,.o 0 [],.o 0 []],[.o 0 [],.o 5 [.o 2 [],.o 0 [],.o 2 [],.o 0 []],.o 0 [],.o 2 [],.o 0 [],.o 0 [],.o 2 [],.o 0 [],.o 0 []],[.o 0 [],.o 5 [.o 2 [],.o 0 [],.o 2 [],.o 0 []],.o 0 [],.o 2 [],.o 0 [],.o 0 [],.o 2 [],.o 0 [],.o 0 []]]),
 (95,[[.o 8 aC,.o 0 [],.o 0 []],[.o 0 [],.o 5 [.o 2 [],.o 0 [],.o 2 [],.o 0 []],.o 0 [],.o 2 [],.o 0 [],.o 0 [],.o 2 [],.o 0 [],.o 0 []],[]]),
 (96,[[.o 8 aC,.o 0 [],.o 0 []],[.o 0 [],.o 5 [.o 2 [],.o 0 [],.o 2 [],.o 0 []],.o 0 [],.o 2 [],.o 0 [],.o 0 [],.o 2 [],.o 0 [],.o 0 []]]),
 (97,[[.o 8 aC,.o 0 [],.o 0 []],[.o 0 [],.o 5 [.o 2 [],.o 0 [],.o 2 [],.o 0 []],.o 0 [],.o 2 [],.o 0 [],.o 0 [],.o 2 [],.o 0 [],.o 0 []]]),
 (98,[[.o 8 aC,.o 0 [],.o 0 []],[.o 0 [],.o 5 [.o 2 [],.o 0 [],.o 2 [],.o 0 []],.o 0 [],.o 2 [],.o 0 [],.o 0 [],.o 2 [],.o 0 [],.o 0 []]]),
 (99,[[.o 8 aC,.o 0 [],.o 0 []],[.o 0 [],.o 5 [.o 2 [],.o 0 [],.o 2 [],.o 0 []],.o 0 [],.o 2 [],.o 0 [],.o 0 [],.o 2 [],.o 0 [],.o 0 []]]),
 (100,[[.o 8 aC,.o 0 [],.o 0 []],[.o 0 [],.o 5 [.o 2 [],.o 0 [],.o 2 [],.o 0 []],.o 0 [],.o 2 [],.o 0 [],.o 0 [],.o 2 [],.o 0 [],.o 0 []]]),
 (101,[[.o 8 aC,.o 0 [],.o 0 []]])]
def mdL:List (Nat×List Nat):=[(280,[1,0,0]),(122,[3,0,0]),(125,[2,0,0]),(129,[2,0,0]),(193,[0,1])]
def keepL:List Nat:=[31,32,34,36,65,111,141,154,159,163,213,222,240,243,244]
def ab:List Nat->Nat
 |[]=>0
 |x::l=>x+4294967296*ab l
def Lb(m:List Nat):Prop:=∀x∈m,x<4294967296
def eB:Nat->Nat->List Nat
 |0,_=>[]
 |k+1,n=>n%4294967296::eB k (n/4294967296)
def au(n:Nat):List Nat:=if h:n=0 then []else n%4294967296::au (n/4294967296)
termination_by n
decreasing_by omega
theorem gX:au 0=[]:=by grind[au]
theorem sU{n}(h:n≠0):au n=n%4294967296::au (n/4294967296):=by rw[au,dif_neg h]
theorem sW{n}:au n=[]↔n=0:=by
 grind[sU,gX]
theorem br(n):ab (au n)=n:=by
 induction n using Nat.strongRecOn with
 |ind n ih=>
  grind[gX,sU,ab]
theorem bH(n):Lb (au n):=by
 induction n using Nat.strongRecOn with
 |ind n ih=>
  by_cases h:n=0
  ·subst h;rw[gX];intro x hx;grind
  ·rw[sU h];intro x hx;rcases List.mem_cons.1 hx with rfl|hx
   ·omega
   ·exact ih _ ω x hx
theorem Np:Lb []:=fun x hx=>by grind
theorem jL{x}{l}:Lb (x::l)↔x<4294967296/\Lb l:=by
 constructor
 ·intro h;exact⟨h x σ,fun y hy=>h y γ⟩
 ·rintro⟨h1,h2⟩ y hy
  rcases List.mem_cons.1 hy with rfl|hy
  ·omega
  ·exact h2 y hy
theorem qT{l r}:Lb (l++r)↔Lb l/\Lb r:=by
 constructor
 ·intro h;exact⟨fun x hx=>h x γ,fun x hx=>h x γ⟩
 ·rintro⟨h1,h2⟩ x hx
  rcases List.mem_append.1 hx with hx|hx
  ·exact h1 x hx
  ·exact h2 x hx
theorem gI{l}(h:Lb l)(n):Lb (l.take n):=fun x hx=>h x (List.mem_of_mem_take hx)
theorem nZ{l}(h:Lb l)(n):Lb (l.drop n):=fun x hx=>h x (List.mem_of_mem_drop hx)
theorem cY{l}(h:Lb l)(i):l.getD i 0<4294967296:=by
 rw[List.getD_eq_getElem?_getD];cases hq:l[i]? with
 |none=>simp
 |some x=>exact h x (List.mem_of_getElem? hq)
theorem eP(l r):ab (l++r)=ab l+4294967296^l.length*ab r:=by
 induction l with
 |nil=>simp[ab]
 |cons x l ih=>
  simp only[avS,ab,ih,av2,awb,Nat.mul_add];grind
theorem eu{l}(h:Lb l):ab l<4294967296^l.length:=by
 induction l with
 |nil=>simp[ab]
 |cons x l ih=>
  obtain⟨h1,h2⟩:=jL.1 h;grind[ab,av2,awb]
theorem dx(k n):(eB k n).length=k:=by
 induction k generalizing n with
 |zero=>rfl
 |succ k ih=>grind[eB]
theorem s6(k n):Lb (eB k n):=by
 induction k generalizing n with
 |zero=>exact Np
 |succ k ih=>exact jL.2 ⟨by omega,ih _⟩
theorem rN(k n):ab (eB k n)=n%4294967296^k:=by
 induction k generalizing n with
 |zero=>simp[eB,ab,Nat.mod_one]
 |succ k ih=>
  rw[eB,ab,ih,awb,avM (4294967296^k),Nat.mod_mul]
theorem G2{l}(h:Lb l):eB l.length (ab l)=l:=by
 induction l with
 |nil=>rfl
 |cons x l ih=>
  obtain⟨h1,h2⟩:=jL.1 h;grind[av2,eB,ab]
theorem QN(n):ab (avr n 0)=0:=by
 induction n with
 |zero=>rfl
 |succ n ih=>simp[List.replicate_succ,ab,ih]
def pe(m:List Nat):Nat->Nat
 |0=>0
 |n+1=>if m.getD n 0=0 then pe m n else n+1
theorem IX(m):∀n,pe m n<=n
 |0=>avt _
 |n+1=>by
  unfold pe;have:=IX m n;split<;>omega
theorem Xg(m):∀n,pe m n=0\/m.getD (pe m n-1) 0≠0
 |0=>.inl rfl
 |n+1=>by
  unfold pe;split
  ·exact Xg m n
  ·rename_i h;exact .inr h
theorem T4(m):∀n i,pe m n<=i->i<n->m.getD i 0=0
 |0,i,_,h=>by omega
 |n+1,i,h1,h2=>by
  unfold pe at h1;split at h1
  ·rename_i h;by_cases e:i=n
   ·rw[e];exact h
   ·exact T4 m n i h1 ω
  ·omega
def G3(m:List Nat):Prop:=m=[]\/m.getD (m.length-1) 0≠0
theorem OS(x)(l)(i):(x::l).getD (i+1) 0=l.getD i 0:=γ
theorem Nq{x}{l}(h:G3 (x::l)):G3 l:=by
 rcases h with h|h
 ·grind
 ·cases l with
  |nil=>exact .inl rfl
  |cons y l=>
   refine .inr ?_;grind
theorem abG{l}(h:G3 l)(hne:l≠[]):ab l≠0:=by
 induction l with
 |nil=>grind
 |cons x l ih=>
  cases l with
  |nil=>
   rcases h with h|h
   all_goals grind[ab]
  |cons y l=>
   grind[Nq,ab]
theorem Xh{l}(h1:Lb l)(h2:G3 l):au (ab l)=l:=by
 induction l with
 |nil=>exact gX
 |cons x l ih=>
  obtain⟨h3,h4⟩:=jL.1 h1;grind[sU,abG,ab,Nq]
theorem abH(n):G3 (au n):=by
 induction n using Nat.strongRecOn with
 |ind n ih=>
  by_cases h:n=0
  ·subst h;rw[gX];exact .inl rfl
  ·refine .inr ?_;rcases ih (n/4294967296) ω with h2|h2
   all_goals grind[au,av2,Nat.add_sub_cancel,OS]
theorem T5(m):ab (m.take (pe m m.length))=ab m:=by
 have h:m=m.take (pe m m.length)++m.drop (pe m m.length):=(List.take_append_drop _ _).symm;have hz:m.drop (pe m m.length)=avr (m.length-pe m m.length) 0:=by
  rw[List.eq_replicate_iff];refine⟨by simp,fun x hx=>?_⟩;obtain⟨i,hi⟩:=List.getElem?_of_mem hx;rw[List.getElem?_drop]at hi;have hl:=(List.getElem?_eq_some_iff.1 hi).1;have:=T4 m m.length (pe m m.length+i) ω hl;grind
 grind[eP,QN]
theorem OT(m:List Nat):G3 (m.take (pe m m.length)):=by
 rcases Xg m m.length with h|h
 ·rw[h];exact .inl rfl
 ·by_cases h0:pe m m.length=0
  ·rw[h0];exact .inl rfl
  ·refine .inr ?_;grind
theorem T6{m}(h:Lb m):m.take (pe m m.length)=au (ab m):=by
 rw[←Xh (gI h _) (OT m),T5]
theorem jT{n k}(h:n<4294967296^k):(au n).length<=k:=by
 induction k generalizing n with
 |zero=>
  grind[gX]
 |succ k ih=>
  grind[sU,av2,awb,Nat.div_lt_of_lt_mul,avM]
theorem gA(n):n<4294967296^ (au n).length:=by
 grind[eu,bH,br]
theorem QO{n}(h:n≠0):4294967296^ ((au n).length-1)<=n:=by
 induction n using Nat.strongRecOn with
 |ind n ih=>
  grind[au,Nat.succ_pred_eq_of_pos,Nat.add_sub_cancel,awb]
def tz(n:Nat):Nat:=if h:n=0 then 0 else if n%2=1 then 0 else tz (n/2)+1
termination_by n
decreasing_by omega
theorem zG{n}(h:n%2=1):tz n=0:=by
 rw[tz,dif_neg ω,if_pos h]
theorem abI{n}(h:n≠0):tz (2*n)=tz n+1:=by
 rw[tz,dif_neg ω,if_neg ω,Nat.mul_div_cancel_left n δ]
theorem IY{n}(k)(h:n≠0):tz (2^k*n)=k+tz n:=by
 induction k with
 |zero=>rw[Nat.pow_zero,Nat.one_mul,avs]
 |succ k ih=>
  grind[awb,avM,avT,abI,Nat.mul_ne_zero,Nat.ne_of_gt,avJ]
theorem AG{n}(h:n≠0):n=2^tz n*(n/2^tz n)/\n/2^tz n%2=1:=by
 induction n using Nat.strongRecOn with
 |ind n ih=>
  by_cases h1:n%2=1
  ·simp_all[zG,Nat.pow_zero,Nat.div_one,Nat.one_mul]
  ·have hn:n=2*(n/2):=ω
   grind[tz,awb,avM,Nat.div_div_eq_div_mul,avT]
theorem ajI{x k}(y)(h:x≠0)(hx:x<2^k):tz (x+2^k*y)=tz x:=by
 obtain⟨e1,e2⟩:=AG h;generalize x/2^tz x=q at e1 e2;have hle:2^tz x<=x:=by
  conv=>rhs;rw[e1]
  exact Nat.le_mul_of_pos_right _ ω
 have hk:=(Nat.pow_lt_pow_iff_right δ).1 (awl hle hx);generalize hz:2^ (k-tz x-1)*y=z;have e3:x+2^k*y=2^tz x*(q+2*z):=by
  have e4:2^k=2^tz x*(2*2^ (k-tz x-1)):=by
   rw[←Nat.pow_succ',←avG];grind
  grind
 have e5:(q+2*z) %2=1:=ω
 rw[e3,IY _ ω,zG e5,av1]
theorem agh{x k}(h:x≠0)(hx:x<2^k):tz x<k:=by
 obtain⟨e1,e2⟩:=AG h;generalize x/2^tz x=q at e1 e2;have hle:2^tz x<=x:=by
  conv=>rhs;rw[e1]
  exact Nat.le_mul_of_pos_right _ ω
 exact(Nat.pow_lt_pow_iff_right δ).1 (awl hle hx)
def QP:Nat->Nat->Nat
 |0,_=>0
 |k+1,n=>if n%2=1 then 0 else QP k (n/2)+1
theorem ajJ:∀k x,x≠0->x<2^k->QP k x=tz x:=by
 intro k;induction k with
 |zero=>omega
 |succ k ih=>
  intro x h0 h1;unfold QP;by_cases h:x%2=1
  ·rw[if_pos h,zG h]
  ·have:=abI (n:=x/2) ω;grind
def tzF(zas:List AV)(hs:List Ob):Option (AV×List Ob):=match zas with
 |[.v (.int .u32 n)]=>if 0<n/\n<4294967296/\hs=[]then some (.v (.int .i64 (QP 32 n.toNat:Nat)),[])else none
 |_=>none
def Xi(k:Nat)(zas:List AV)(hs:List Ob):Option (AV×List Ob):=match zas,hs with
 |[.sl k0 (_::_),.rsl 1000 none k1 _ _],[.ar k2 rows]=>if k0=k/\k1=k/\k2=k then some (B false,[.ar k2 rows])else none
 |_,_=>none
def clF(zas:List AV)(hs:List Ob):Option (AV×List Ob):=match zas,hs with
 |[.sl 1 []],[]=>some (.sl 1 [],[])
 |[.sl 1 (r::rs)],[]=>if(rs.length+1)*8<=140737488355328 then some (.osl 1 (r::rs),[])else none
 |_,_=>none
def T7(k bytes:Nat)(zas:List AV)(hs:List Ob):Option (AV×List Ob):=match zas,hs with
 |[.emp,.v (.int .i64 0),.sl k0 [r]],[]=>if k0=k then some (.osl k [r],[])else none
 |[.rsl 1000 none k1 0 n,.v (.int .i64 i),.sl k0 [r]],[.ar k2 rows]=>
  if k0=k/\k1=k/\k2=k/\n=rows.length/\0<=i/\i<=n/\(n+1)*bytes<=140737488355328 then some (.osl k (rows.take i.toNat++r::rows.drop i.toNat),[.dead])else none
 |_,_=>none
def SG:List (Nat× (List AV->List Ob->Option (AV×List Ob))):=[(F.bits_TrailingZeros32,tzF),(F.slices_overlaps_api_Term_,Xi 4)]
def ajK:List (Nat× (List AV->List Ob->Option (AV×List Ob))):=(F.slices_Clone_int_int_,clF)::(F.slices_Insert_api_Term_api_Term_,T7 4 64)::SG
noncomputable def cG:Env:=⟨fun f=>ajK.lookup f,fun f=>agf.lookup f,⟨fun f=>(mdL.lookup f).getD [],fun f=>(shL.lookup f).getD [],fun f=>keepL.contains f,false⟩⟩
noncomputable def ax (b:Bool):Mode:={cG.md with nm:=b}
noncomputable def R:ic:=fS cG
theorem IZ{f:FuncId}{fd:FD}{args:List AV}{hs:List Ob}{r:AV×List Ob}(b:Bool)(hE:cG.E f=none)(hC:cG.C f=some fd)(hk:cG.md.keep f=b)(h1:args.length=fd.np)(h2:hs.length<=1000)
  (hz:jV b fd.rs fd.res hs.length (ai R (ax b) fd.body (te args) (ao hs))=some r):R f args hs=some r:=by
 refine IH hE hC ?_;unfold TK;rw[if_pos ⟨h1,h2⟩];subst hk;exact hz
@[go_sem] theorem auN(b:Bool):(ax b).nm=b:=θ _
abbrev H0(f:FuncId):Prop:=∀ (b:Bool) (h:ac) (d:Nat) (zas:List AV),bv R (ax b) h d zas (.fn f [] [])=(bO h [] zas).bind (GU R (ax b) d f)
abbrev CG(f:FuncId)(l:List (List Sh)):Prop:=∀b:Bool,(ax b).sh f=l
abbrev CH(f:FuncId)(l:List Nat):Prop:=∀b:Bool,(ax b).m f=l
abbrev CI(f:FuncId)(l:Bool):Prop:=∀b:Bool,(ax b).keep f=l
theorem AH{f:FuncId}{l:List (List Sh)}(h:cG.md.sh f=l):CG f l:=fun _=>h
theorem AI{f:FuncId}{l:List Nat}(h:cG.md.m f=l):CH f l:=fun _=>h
theorem AJ{f:FuncId}{l:Bool}(h:cG.md.keep f=l):CI f l:=fun _=>h
theorem DU{f:FuncId}(hm:∀b,(ax b).m f=[]):H0 f:=fun b _ d _=>GV d (hm b)
abbrev QL(f:FuncId)(l:List (List Sh)):Prop:=CG f l/\CH f []/\H0 f/\CI f false
abbrev QE(f:FuncId)(l:List (List Sh))(fd:FD):Prop:=QL f l/\cG.E f=none/\cG.C f=some fd
theorem ql{f:FuncId}{l:List (List Sh)}(h:(cG.md.sh f,cG.md.m f,cG.md.keep f)=(l,[],false)):QL f l:=by
 simp only[Prod.mk.injEq]at h;exact⟨fun _=>h.1,fun _=>h.2.1,DU fun _=>h.2.1,fun _=>h.2.2⟩
theorem qe{f:FuncId}{l:List (List Sh)}{fd:FD}(h:(cG.md.sh f,cG.md.m f,cG.md.keep f,cG.E f,cG.C f)=(l,[],false,none,some fd)):QE f l fd:=by
 simp only[Prod.mk.injEq]at h;exact⟨⟨fun _=>h.1,fun _=>h.2.1,DU fun _=>h.2.1,fun _=>h.2.2.1⟩,h.2.2.2⟩
@[go_sem] theorem G4:QE F.l27_ModelevalBoxes [[.o 8 aC,.o 0 [],.o 0 []],[.o 10 [.o 0 [],.o 5 [],.o 0 [],.o 2 [],.o 0 [],.o 0 [],.o 2 [],.o 0 [],.o 0 []]],[.o 8 aC],[.o 8 aC]] dj:=qe κ
@[go_sem] theorem alR:QL F.l27_awake []:=ql κ
@[go_sem] theorem La:QE F.l27_great [[.o 8 aC,.o 0 [],.o 0 []],[.o 0 [],.o 7 [],.o 2 []],[.o 10 [.o 0 [],.o 5 [],.o 0 [],.o 2 [],.o 0 [],.o 0 [],.o 2 [],.o 0 [],.o 0 []]]] yK:=qe κ
@[go_sem] theorem aQ:QE F.slices_ContainsFunc_api_Interval_api_Interval_ [[.o 8 aC],[]] fW:=qe κ
@[go_sem] theorem G5:QE F.l27_wide [aC] Bu:=qe κ
@[go_sem] theorem Nr:QE F.modeleval_Box [[.o 8 aC,.o 0 [],.o 0 []],[.o 10 [.o 0 [],.o 5 [],.o 0 [],.o 2 [],.o 0 [],.o 0 [],.o 2 [],.o 0 [],.o 0 []]]] xp:=qe κ
@[go_sem] theorem OU:QE F.modeleval_At [[.o 8 aC,.o 0 [],.o 0 []],[.o 10 [.o 0 [],.o 5 [],.o 0 [],.o 2 [],.o 0 [],.o 0 [],.o 2 [],.o 0 [],.o 0 []]],[.o 8 aC]] yL:=qe κ
@[go_sem] theorem OV:QE F.modeleval_Of [[.o 8 aC,.o 0 [],.o 0 []],[.o 8 aC]] yM:=qe κ
@[go_sem] theorem I0:QE F.model_ValidSpace [[.o 8 aC,.o 0 [],.o 0 []]] dL:=qe κ
@[go_sem] theorem abK:QE F.l27_one [aC,aC] GY:=qe κ
@[go_sem] theorem RZ:QE F.model_Bound [[.o 8 aC,.o 0 [],.o 0 []],[.o 0 [],.o 5 [.o 2 [],.o 0 [],.o 2 [],.o 0 []],.o 0 [],.o 2 [],.o 0 [],.o 0 [],.o 2 [],.o 0 [],.o 0 []]] ve:=qe κ
@[go_sem] theorem T8:QE F.model_Eval [[.o 8 aC,.o 0 [],.o 0 []],[.o 0 [],.o 5 [.o 2 [],.o 0 [],.o 2 [],.o 0 []],.o 0 [],.o 2 [],.o 0 [],.o 0 [],.o 2 [],.o 0 [],.o 0 []],[.o 8 aC]] sj:=qe κ
@[go_sem] theorem ZQ:QE F.l27_same [[.o 0 [],.o 5 [.o 2 [],.o 0 [],.o 2 [],.o 0 []],.o 0 [],.o 2 [],.o 0 [],.o 0 [],.o 2 [],.o 0 [],.o 0 []],[.o 0 [],.o 5 [.o 2 [],.o 0 [],.o 2 [],.o 0 []],.o 0 [],.o 2 [],.o 0 [],.o 0 [],.o 2 [],.o 0 [],.o 0 []]] Fn:=qe κ
@[go_sem] theorem R1:QE F.model_Const [[.o 8 aC,.o 0 [],.o 0 []],aC] mC:=qe κ
@[go_sem] theorem Wy:QE F.model_Var [[.o 8 aC,.o 0 [],.o 0 []],[]] p8:=qe κ
@[go_sem] theorem ZR:QE F.r23_Same [[.o 0 [],.o 5 [.o 2 [],.o 0 [],.o 2 [],.o 0 []]],[.o 0 [],.o 5 [.o 2 [],.o 0 [],.o 2 [],.o 0 []]]] wJ:=qe κ
@[go_sem] theorem bS:QE F.slices_ContainsFunc_api_Model_api_Model_ [[.o 10 [.o 0 [],.o 5 [],.o 0 [],.o 2 [],.o 0 [],.o 0 [],.o 2 [],.o 0 [],.o 0 []]],[]] iN:=qe κ
@[go_sem] theorem Ct:QE F.l27_great_1 [[.o 0 [],.o 5 [.o 2 [],.o 0 [],.o 2 [],.o 0 []],.o 0 [],.o 2 [],.o 0 [],.o 0 [],.o 2 [],.o 0 [],.o 0 []]] qf:=qe κ
@[go_sem] theorem ce:QE F.slices_ContainsFunc_api_Term_api_Term_ [[.o 5 [.o 2 [],.o 0 [],.o 2 [],.o 0 []]],[]] jg:=qe κ
@[go_sem] theorem ES:QE F.l27_great_1_1 [[.o 2 [],.o 0 [],.o 2 [],.o 0 []]] ru:=qe κ
@[go_sem] theorem aK:QE F.slices_IndexFunc_api_Interval_api_Interval_ [[.o 8 aC],[]] gN:=qe κ
@[go_sem] theorem aM:QE F.modeleval_each_api_Model_api_Interval_ [[.o 8 aC,.o 0 [],.o 0 []],[.o 10 [.o 0 [],.o 5 [],.o 0 [],.o 2 [],.o 0 [],.o 0 [],.o 2 [],.o 0 [],.o 0 []]],[]] bU:=qe κ
theorem KB:cG.C F.modeleval_Box_1=some ut:=by kernel_rfl
theorem KC:cG.E F.modeleval_Box_1=none:=by kernel_rfl
@[go_sem] theorem I1:CG F.modeleval_Box_1 [[.o 0 [],.o 5 [.o 2 [],.o 0 [],.o 2 [],.o 0 []],.o 0 [],.o 2 [],.o 0 [],.o 0 [],.o 2 [],.o 0 [],.o 0 []]]:=AH κ
@[go_sem] theorem CJ:CH F.modeleval_Box_1 []:=AI κ
@[go_sem] theorem ZS:H0 F.modeleval_Box_1:=DU CJ
@[go_sem] theorem zH:CI F.modeleval_Box_1 true:=AJ κ
theorem LD:cG.C F.modeleval_At_1=some v9:=by kernel_rfl
theorem LE:cG.E F.modeleval_At_1=none:=by kernel_rfl
@[go_sem] theorem KD:CG F.modeleval_At_1 [[.o 0 [],.o 5 [.o 2 [],.o 0 [],.o 2 [],.o 0 []],.o 0 [],.o 2 [],.o 0 [],.o 0 [],.o 2 [],.o 0 [],.o 0 []]]:=AH κ
@[go_sem] theorem DV:CH F.modeleval_At_1 []:=AI κ
@[go_sem] theorem aaV:H0 F.modeleval_At_1:=DU DV
@[go_sem] theorem zZ:CI F.modeleval_At_1 true:=AJ κ
@[go_sem] theorem aaZ:QE F.modeleval_each_api_Interval_api_Model_ [[.o 8 aC,.o 0 [],.o 0 []],[.o 8 aC],[]] dm:=qe κ
theorem LG:cG.C F.modeleval_Of_1=some we:=by kernel_rfl
theorem LH:cG.E F.modeleval_Of_1=none:=by kernel_rfl
@[go_sem] theorem KE:CG F.modeleval_Of_1 [aC]:=AH κ
@[go_sem] theorem DW:CH F.modeleval_Of_1 []:=AI κ
@[go_sem] theorem aaW:H0 F.modeleval_Of_1:=DU DW
@[go_sem] theorem Aa:CI F.modeleval_Of_1 true:=AJ κ
@[go_sem] theorem T9:QE F.dyadic_Int [] wX:=qe κ
theorem G6:cG.C F.model_ValidSpace_1=some agc:=by kernel_rfl
theorem G7:cG.E F.model_ValidSpace_1=none:=by kernel_rfl
@[go_sem] theorem Xj:CG F.model_ValidSpace_1 [aC]:=AH κ
@[go_sem] theorem zJ:CH F.model_ValidSpace_1 []:=AI κ
@[go_sem] theorem V9:H0 F.model_ValidSpace_1:=DU zJ
@[go_sem] theorem vW:CI F.model_ValidSpace_1 true:=AJ κ
@[go_sem] theorem KF:QE F.interval_Inside [aC,aC] ef:=qe κ
@[go_sem] theorem Ua:QE F.l27_number [aL,aL] Cc:=qe κ
@[go_sem] theorem R2:QE F.model_every [[.o 8 aC,.o 0 [],.o 0 []],[.o 10 [.o 0 [],.o 5 [],.o 0 [],.o 2 [],.o 0 [],.o 0 [],.o 2 [],.o 0 [],.o 0 []]]] vf:=qe κ
@[go_sem] theorem LI:QE F.interval_Whole [] wh:=qe κ
@[go_sem] theorem OW:QE F.interval_Add [aC,aC,[]] oM:=qe κ
@[go_sem] theorem OX:QE F.model_ranged [[.o 0 [],.o 5 [.o 2 [],.o 0 [],.o 2 [],.o 0 []]],[.o 8 aC],[]] tE:=qe κ
@[go_sem] theorem gr:QE F.slices_EqualFunc_api_Interval_Sapi_Interval_api_Interval_api_Interval_ [[.o 8 aC],[.o 8 aC],[]] bw:=qe κ
@[go_sem] theorem LJ:QE F.interval_Valid [aC] gU:=qe κ
@[go_sem] theorem Ub:QE F.model_none [[.o 8 aC,.o 0 [],.o 0 []]] Ce:=qe κ
@[go_sem] theorem OY:QE F.interval_Mid [aC,[]] ig:=qe κ
@[go_sem] theorem Uc:QE F.poly_Const [[],aL] wY:=qe κ
@[go_sem] theorem Ud:QE F.model_made [[.o 8 aC,.o 0 [],.o 0 []],[.o 0 [],.o 5 [.o 2 [],.o 0 [],.o 2 [],.o 0 []]],[],aC] sn:=qe κ
@[go_sem] theorem OZ:QE F.interval_Sub [aC,aC,[]] yS:=qe κ
@[go_sem] theorem LK:QE F.interval_Point [aL] wj:=qe κ
@[go_sem] theorem ZT:QE F.poly_Var [] sT:=qe κ
@[go_sem] theorem R4:QE F.model_whole [] An:=qe κ
@[go_sem] theorem R5:QE F.r23_Compare [[.o 2 []],[.o 2 []]] mD:=qe κ
@[go_sem] theorem Ue:QE F.r23_number [aL,aL] nU:=qe κ
@[go_sem] theorem cj:QE F.slices_IndexFunc_api_Model_api_Model_ [[.o 10 [.o 0 [],.o 5 [],.o 0 [],.o 2 [],.o 0 [],.o 0 [],.o 2 [],.o 0 [],.o 0 []]],[]] jv:=qe κ
@[go_sem] theorem cA:QE F.slices_IndexFunc_api_Term_api_Term_ [[.o 5 [.o 2 [],.o 0 [],.o 2 [],.o 0 []]],[]] j5:=qe κ
@[go_sem] theorem I2:QE F.dyadic_canonical [[],[.o 2 []],[]] nG:=qe κ
@[go_sem] theorem Uf:QE F.dyadic_Cmp [aL,aL] jP:=qe κ
@[go_sem] theorem zT:QE F.slices_Equal_uint32_uint32_ [[.o 2 []],[.o 2 []]] fM:=qe κ
theorem Ns:cG.C F.model_every_1=some xt:=by kernel_rfl
theorem Nu:cG.E F.model_every_1=none:=by kernel_rfl
@[go_sem] theorem LL:CG F.model_every_1 [[.o 0 [],.o 5 [.o 2 [],.o 0 [],.o 2 [],.o 0 []],.o 0 [],.o 2 [],.o 0 [],.o 0 [],.o 2 [],.o 0 [],.o 0 []]]:=AH κ
@[go_sem] theorem ET:CH F.model_every_1 []:=AI κ
@[go_sem] theorem abL:H0 F.model_every_1:=DU ET
@[go_sem] theorem BR:CI F.model_every_1 true:=AJ κ
@[go_sem] theorem R6:QE F.model_Valid [[.o 8 aC,.o 0 [],.o 0 []],[.o 0 [],.o 5 [.o 2 [],.o 0 [],.o 2 [],.o 0 []],.o 0 [],.o 2 [],.o 0 [],.o 0 [],.o 2 [],.o 0 [],.o 0 []]] iT:=qe κ
@[go_sem] theorem LM:QE F.interval_known [[.o 8 aC]] pI:=qe κ
@[go_sem] theorem G8:QE F.interval_permitted [] lh:=qe κ
@[go_sem] theorem Nv:QE F.round_AddDown [aL,aL,[]] xw:=qe κ
@[go_sem] theorem R7:QE F.round_AddUp [aL,aL,[]] Ao:=qe κ
@[go_sem] theorem Nw:QE F.interval_made [aL,[],aL,[]] mT:=qe κ
@[go_sem] theorem Ug:QE F.bound_Best [[.o 0 [],.o 5 [.o 2 [],.o 0 [],.o 2 [],.o 0 []]],[.o 8 aC],[]] sv:=qe κ
@[go_sem] theorem I3:QE F.interval_Valid_1 [aL] it:=qe κ
@[go_sem] theorem O0:QE F.dyadic_Valid [aL] ij:=qe κ
@[go_sem] theorem O1:QE F.dyadic_Scale [aL,[]] yV:=qe κ
@[go_sem] theorem O2:QE F.interval_Has [aC,aL] jy:=qe κ
@[go_sem] theorem Uh:QE F.poly_empty [] HJ:=qe κ
@[go_sem] theorem aS:QE F.poly_collector_add [[],[.o 2 []],aL] fX:=qe κ
@[go_sem] theorem bA:QE F.poly_collector_done [] fH:=qe κ
@[go_sem] theorem Wz:QE F.model_cut [[.o 8 aC,.o 0 [],.o 0 []],[.o 0 [],.o 5 [.o 2 [],.o 0 [],.o 2 [],.o 0 []]]] yW:=qe κ
@[go_sem] theorem O3:QE F.interval_Neg [aC] tG:=qe κ
@[go_sem] theorem abM:QE F.r23_sum [[.o 2 []]] GZ:=qe κ
@[go_sem] theorem pf:QE F.round_DivDown [aL,aL,[]] xx:=qe κ
@[go_sem] theorem sK:QE F.round_DivUp [aL,aL,[]] Aq:=qe κ
@[go_sem] theorem WA:QE F.model_Sub [[.o 8 aC,.o 0 [],.o 0 []],[.o 0 [],.o 5 [.o 2 [],.o 0 [],.o 2 [],.o 0 []],.o 0 [],.o 2 [],.o 0 [],.o 0 [],.o 2 [],.o 0 [],.o 0 []],[.o 0 [],.o 5 [.o 2 [],.o 0 [],.o 2 [],.o 0 []],.o 0 [],.o 2 [],.o 0 [],.o 0 [],.o 2 [],.o 0 [],.o 0 []]] yY:=qe κ
@[go_sem] theorem WB:QE F.model_Mul [[.o 8 aC,.o 0 [],.o 0 []],[.o 0 [],.o 5 [.o 2 [],.o 0 [],.o 2 [],.o 0 []],.o 0 [],.o 2 [],.o 0 [],.o 0 [],.o 2 [],.o 0 [],.o 0 []],[.o 0 [],.o 5 [.o 2 [],.o 0 [],.o 2 [],.o 0 []],.o 0 [],.o 2 [],.o 0 [],.o 0 [],.o 2 [],.o 0 [],.o 0 []]] y5:=qe κ
@[go_sem] theorem LN:QE F.dyadic_trimmed [[.o 2 []]] wk:=qe κ
@[go_sem] theorem Ui:QE F.dyadic_low [[.o 2 []]] Cf:=qe κ
@[go_sem] theorem R8:QE F.natural_Shr [[.o 2 []],[]] qi:=qe κ
@[go_sem] theorem AK:QE F.slices_Clip_uint32_uint32_ [[.o 2 []]] jX:=qe κ
@[go_sem] theorem zU:QE F.slices_Clone_uint32_uint32_ [[.o 2 []]] jA:=qe κ
@[go_sem] theorem R9:QE F.dyadic_Sign [aL] mF:=qe κ
@[go_sem] theorem LO:QE F.dyadic_compare [aL,aL] lN:=qe κ
@[go_sem] theorem Uj:QE F.poly_Valid [[.o 0 [],.o 5 [.o 2 [],.o 0 [],.o 2 [],.o 0 []]]] lH:=qe κ
@[go_sem] theorem Sa:QE F.poly_Degree [[.o 0 [],.o 5 [.o 2 [],.o 0 [],.o 2 [],.o 0 []]]] qp:=qe κ
theorem Nx:cG.C F.model_Valid_1=some xz:=by kernel_rfl
theorem Ny:cG.E F.model_Valid_1=none:=by kernel_rfl
@[go_sem] theorem LP:CG F.model_Valid_1 [[.o 2 [],.o 0 [],.o 2 [],.o 0 []]]:=AH κ
@[go_sem] theorem EU:CH F.model_Valid_1 []:=AI κ
@[go_sem] theorem abN:H0 F.model_Valid_1:=DU EU
@[go_sem] theorem BS:CI F.model_Valid_1 true:=AJ κ
@[go_sem] theorem ZU:QE F.round_Is [aL,[]] wK:=qe κ
@[go_sem] theorem Lc:QE F.round_add [aL,aL,[],[]] mU:=qe κ
@[go_sem] theorem Uk:QE F.bound_fits [[.o 0 [],.o 5 [.o 2 [],.o 0 [],.o 2 [],.o 0 []]],[.o 8 aC],[]] sy:=qe κ
@[go_sem] theorem Sc:QE F.bound_whole [] Ar:=qe κ
@[go_sem] theorem Nz:QE F.interval_Meet [aC,aC] gj:=qe κ
@[go_sem] theorem Sd:QE F.bound_Naive [[.o 0 [],.o 5 [.o 2 [],.o 0 [],.o 2 [],.o 0 []]],[.o 8 aC],[]] agi:=qe κ
@[go_sem] theorem jM:QE F.bound_Bernstein [[.o 0 [],.o 5 [.o 2 [],.o 0 [],.o 2 [],.o 0 []]],[.o 8 aC],[]] go:=qe κ
@[go_sem] theorem LQ:QE F.dyadic_inRange [aL] gV:=qe κ
@[go_sem] theorem KG:QE F.dyadic_exponent [] oQ:=qe κ
@[go_sem] theorem LR:QE F.dyadic_checked [aL] pJ:=qe κ
theorem mK:cG.C F.slices_BinarySearchFunc_api_Term_api_Term_Sint_=some dw:=by kernel_rfl
theorem mL:cG.E F.slices_BinarySearchFunc_api_Term_api_Term_Sint_=none:=by kernel_rfl
@[go_sem] theorem fO:CG F.slices_BinarySearchFunc_api_Term_api_Term_Sint_ [[.o 5 [.o 2 [],.o 0 [],.o 2 [],.o 0 []]],[.o 2 []],[]]:=AH κ
@[go_sem] theorem fZ:CH F.slices_BinarySearchFunc_api_Term_api_Term_Sint_ [3,0,0]:=AI κ
@[go_sem] theorem fF:CI F.slices_BinarySearchFunc_api_Term_api_Term_Sint_ false:=AJ κ
@[go_sem] theorem Fy:QE F.poly_collector_add_1 [[.o 2 [],.o 0 [],.o 2 [],.o 0 []],[.o 2 []]] nN:=qe κ
@[go_sem] theorem Ul:QE F.poly_order [[.o 2 []],[.o 2 []]] xc:=qe κ
@[go_sem] theorem lq:CG F.slices_Insert_api_Term_api_Term_ [[],[],[.o 5 [.o 2 [],.o 0 [],.o 2 [],.o 0 []]]]:=AH κ
@[go_sem] theorem lV:CH F.slices_Insert_api_Term_api_Term_ [2,0,0]:=AI κ
@[go_sem] theorem kD:CI F.slices_Insert_api_Term_api_Term_ false:=AJ κ
@[go_sem] theorem Wa:QL F.slices_Clone_int_int_ [[.o 2 []]]:=ql κ
@[go_sem] theorem Se:QE F.poly_copied [aL] At:=qe κ
@[go_sem] theorem Um:QE F.dyadic_Add [aL,aL] sz:=qe κ
theorem wv:cG.C F.slices_Delete_api_Term_api_Term_=some gF:=by kernel_rfl
theorem ww:cG.E F.slices_Delete_api_Term_api_Term_=none:=by kernel_rfl
@[go_sem] theorem vP:CG F.slices_Delete_api_Term_api_Term_ []:=AH κ
@[go_sem] theorem wx:CH F.slices_Delete_api_Term_api_Term_ [2,0,0]:=AI κ
@[go_sem] theorem kE:CI F.slices_Delete_api_Term_api_Term_ false:=AJ κ
@[go_sem] theorem Un:QE F.poly_Split [[.o 0 [],.o 5 [.o 2 [],.o 0 [],.o 2 [],.o 0 []]],[]] xd:=qe κ
@[go_sem] theorem Uo:QE F.poly_Round [[.o 0 [],.o 5 [.o 2 [],.o 0 [],.o 2 [],.o 0 []]],[]] nV:=qe κ
@[go_sem] theorem Up:QE F.dyadic_Neg [aL] sA:=qe κ
@[go_sem] theorem jE:QE F.slices_ContainsFunc_int_int_ [[.o 2 []],[]] nK:=qe κ
@[go_sem] theorem WC:QE F.round_div [aL,aL,[],[]] qt:=qe κ
@[go_sem] theorem ZV:QE F.poly_Add [[.o 0 [],.o 5 [.o 2 [],.o 0 [],.o 2 [],.o 0 []]],[.o 0 [],.o 5 [.o 2 [],.o 0 [],.o 2 [],.o 0 []]]] Bv:=qe κ
@[go_sem] theorem ZW:QE F.poly_Sub [[.o 0 [],.o 5 [.o 2 [],.o 0 [],.o 2 [],.o 0 []]],[.o 0 [],.o 5 [.o 2 [],.o 0 [],.o 2 [],.o 0 []]]] Bw:=qe κ
@[go_sem] theorem ZX:QE F.poly_Mul [[.o 0 [],.o 5 [.o 2 [],.o 0 [],.o 2 [],.o 0 []]],[.o 0 [],.o 5 [.o 2 [],.o 0 [],.o 2 [],.o 0 []]]] px:=qe κ
@[go_sem] theorem WD:QE F.model_sum [[],aC,[.o 8 aC]] DH:=qe κ
@[go_sem] theorem O4:QE F.interval_Mul [aC,aC,[]] oR:=qe κ
@[go_sem] theorem O5:QE F.interval_Div [aC,aC,[]] lk:=qe κ
@[go_sem] theorem WE:QL F.bits_TrailingZeros32 []:=ql κ
@[go_sem] theorem O6:QE F.natural_long [[.o 2 [.o 2 []]]] ze:=qe κ
@[go_sem] theorem O7:QE F.natural_done [[.o 2 []]] tJ:=qe κ
@[go_sem] theorem Sf:QE F.natural_shr [[.o 2 []],[]] vA:=qe κ
@[go_sem] theorem Uq:QE F.dyadic_Top [aL] sD:=qe κ
@[go_sem] theorem Sg:QE F.natural_Cmp [[.o 2 []],[.o 2 []]] qw:=qe κ
@[go_sem] theorem LS:QE F.dyadic_shifted [[.o 2 []],[]] wm:=qe κ
@[go_sem] theorem F7:QE F.poly_Valid_1 [] tK:=qe κ
@[go_sem] theorem Si:QE F.poly_degree [[.o 2 []]] Aw:=qe κ
@[go_sem] theorem Sj:QE F.round_fault [[],[.o 4 aL]] qx:=qe κ
@[go_sem] theorem Sk:QE F.dyadic_Bits [aL] vB:=qe κ
@[go_sem] theorem Sl:QE F.round_round [aL,[],[]] vC:=qe κ
@[go_sem] theorem WF:QE F.round_sum [aL,aL,[]] uB:=qe κ
@[go_sem] theorem O8:QE F.round_signed [[],[.o 2 [],.o 0 [],.o 0 []],[],[]] oS:=qe κ
@[go_sem] theorem O9:QE F.bound_domain [[.o 0 [],.o 5 [.o 2 [],.o 0 [],.o 2 [],.o 0 []]],[.o 8 aC]] oT:=qe κ
@[go_sem] theorem NA:QE F.interval_more [aL,aL] rF:=qe κ
@[go_sem] theorem NB:QE F.interval_less [aL,aL] rG:=qe κ
@[go_sem] theorem Sm:QE F.bound_power [aC,[],[]] vF:=qe κ
@[go_sem] theorem Pa:QE F.bound_Linear [[.o 0 [],.o 5 [.o 2 [],.o 0 [],.o 2 [],.o 0 []]]] oV:=qe κ
@[go_sem] theorem Ur:QE F.bound_line [aL,aL,aC,[]] gx:=qe κ
@[go_sem] theorem AL:QE F.bound_gridOf [[.o 0 [],.o 5 [.o 2 [],.o 0 [],.o 2 [],.o 0 []]],[]] zj:=qe κ
@[go_sem] theorem gY:QE F.bound_grid_unit [[],[],aC] uC:=qe κ
@[go_sem] theorem eC:QE F.bound_grid_bernstein [] nO:=qe κ
@[go_sem] theorem NC:QE F.interval_Hull [aC,aC] rH:=qe κ
@[go_sem] theorem Sn:QE F.dyadic_size [[.o 2 []]] Ax:=qe κ
@[go_sem] theorem I4:QE F.cmp_Compare_int_ [] j7:=qe κ
@[go_sem] theorem CV:QE F.slices_Compare_int_int_ [[.o 2 []],[.o 2 []]] iK:=qe κ
@[go_sem] theorem Us:QE F.dyadic_sum [aL,aL] lI:=qe κ
@[go_sem] theorem Ut:QE F.round_Near [aL,[]] gy:=qe κ
@[go_sem] theorem Uu:QE F.dyadic_Sub [aL,aL] sF:=qe κ
@[go_sem] theorem fm:QE F.slices_IndexFunc_int_int_ [[.o 2 []],[]] qA:=qe κ
@[go_sem] theorem LT:QE F.natural_DivMod [[.o 2 []],[.o 2 []]] wn:=qe κ
@[go_sem] theorem WG:QE F.round_shl [[.o 2 []],[]] DK:=qe κ
@[go_sem] theorem Pb:QE F.natural_Bits [[.o 2 []]] tL:=qe κ
@[go_sem] theorem WH:QE F.poly_pair [[.o 0 [],.o 5 [.o 2 [],.o 0 [],.o 2 [],.o 0 []]],[.o 0 [],.o 5 [.o 2 [],.o 0 [],.o 2 [],.o 0 []]]] uD:=qe κ
@[go_sem] theorem wz:QE F.slices_Concat_api_Term_api_Term_ [[.o 2 [.o 5 [.o 2 [],.o 0 [],.o 2 [],.o 0 []]]]] gH:=qe κ
@[go_sem] theorem Uv:QE F.dyadic_Mul [aL,aL] iL:=qe κ
@[go_sem] theorem ND:QE F.interval_four [aC,aC,[],[],[]] xB:=qe κ
@[go_sem] theorem pg:QE F.round_MulDown [aL,aL,[]] xC:=qe κ
@[go_sem] theorem sL:QE F.round_MulUp [aL,aL,[]] Az:=qe κ
@[go_sem] theorem NE:QE F.interval_Sign [aC] mY:=qe κ
@[go_sem] theorem LU:QE F.interval_Power [aC,[],[]] fJ:=qe κ
@[go_sem] theorem dM:QE F.slices_ContainsFunc_Suint32_Suint32_ [[.o 2 [.o 2 []]],[]] jS:=qe κ
@[go_sem] theorem DX:QE F.natural_long_1 [[.o 2 []]] wr:=qe κ
@[go_sem] theorem Pc:QE F.natural_trim [[.o 2 []]] zz:=qe κ
@[go_sem] theorem So:QE F.natural_Shl [[.o 2 []],[]] mI:=qe κ
@[go_sem] theorem NF:QE F.round_precise [] rI:=qe κ
@[go_sem] theorem ZY:QE F.round_of [aL] Ft:=qe κ
@[go_sem] theorem WI:QE F.round_shr [[.o 2 []],[]] zB:=qe κ
@[go_sem] theorem Sp:QE F.natural_Add [[.o 2 []],[.o 2 []]] vH:=qe κ
@[go_sem] theorem Sq:QE F.natural_Sub [[.o 2 []],[.o 2 []]] qB:=qe κ
@[go_sem] theorem WJ:QE F.round_cut [[.o 2 [],.o 0 [],.o 0 []],[],[]] uE:=qe κ
@[go_sem] theorem DY:QE F.bound_domain_1 [aC] pM:=qe κ
@[go_sem] theorem Ep:QE F.slices_Index_int_int_ [[.o 2 []],[]] mZ:=qe κ
@[go_sem] theorem qF:QE F.slices_Repeat_api_Interval_api_Interval_ [[.o 8 aC],[]] eH:=qe κ
theorem KH:cG.C F.bound_grid_step=some uG:=by kernel_rfl
theorem KI:cG.E F.bound_grid_step=none:=by kernel_rfl
@[go_sem] theorem abO:CG F.bound_grid_step []:=AH κ
@[go_sem] theorem lW:CH F.bound_grid_step []:=AI κ
@[go_sem] theorem ZZ:H0 F.bound_grid_step:=DU lW
@[go_sem] theorem zK:CI F.bound_grid_step true:=AJ κ
@[go_sem] theorem bE:QE F.bound_grid_lines [] nH:=qe κ
@[go_sem] theorem eN:QE F.bound_grid_unit_1 [] rJ:=qe κ
theorem LV:cG.C F.bound_grid_add=some ws:=by kernel_rfl
theorem LW:cG.E F.bound_grid_add=none:=by kernel_rfl
@[go_sem] theorem KJ:CG F.bound_grid_add [[],aC,aC]:=AH κ
@[go_sem] theorem xH:CH F.bound_grid_add []:=AI κ
@[go_sem] theorem aaX:H0 F.bound_grid_add:=DU xH
@[go_sem] theorem Ac:CI F.bound_grid_add true:=AJ κ
theorem LX:cG.C F.bound_grid_mul=some wt:=by kernel_rfl
theorem LY:cG.E F.bound_grid_mul=none:=by kernel_rfl
@[go_sem] theorem KL:CG F.bound_grid_mul [[],aC,aC]:=AH κ
@[go_sem] theorem xI:CH F.bound_grid_mul []:=AI κ
@[go_sem] theorem aaY:H0 F.bound_grid_mul:=DU xI
@[go_sem] theorem Ad:CI F.bound_grid_mul true:=AJ κ
@[go_sem] theorem di:QE F.bound_grid_bernstein_1 [] mh:=qe κ
@[go_sem] theorem LZ:QE F.cmp_isNaN_int_ [] wu:=qe κ
@[go_sem] theorem Uw:QE F.round_Down [aL,[]] Cn:=qe κ
@[go_sem] theorem Z0:QE F.round_Up [aL,[]] Fw:=qe κ
@[go_sem] theorem DZ:QE F.natural_divide [[.o 2 []],[.o 2 []]] pO:=qe κ
@[go_sem] theorem Ux:QE F.bits_Len32 [] nY:=qe κ
@[go_sem] theorem nc:QE F.slices_Grow_api_Term_api_Term_ [] fg:=qe κ
@[go_sem] theorem Sr:QE F.natural_Mul [[.o 2 []],[.o 2 []]] vJ:=qe κ
@[go_sem] theorem WK:QE F.round_mul [aL,aL,[],[]] qE:=qe κ
@[go_sem] theorem Uy:QE F.dyadic_Abs [aL] sH:=qe κ
@[go_sem] theorem Pd:QE F.interval_Abs [aC] tN:=qe κ
@[go_sem] theorem F8:QE F.interval_end [aL,[],[],[]] oZ:=qe κ
@[go_sem] theorem dk:QE F.slices_IndexFunc_Suint32_Suint32_ [[.o 2 [.o 2 []]],[]] kT:=qe κ
@[go_sem] theorem Ss:QE F.natural_shl [[.o 2 []],[]] AB:=qe κ
@[go_sem] theorem Su:QE F.natural_add [[.o 2 []],[.o 2 []]] vO:=qe κ
@[go_sem] theorem Sv:QE F.natural_sub [[.o 2 []],[.o 2 []]] AC:=qe κ
@[go_sem] theorem Sw:QE F.dyadic_Make [[],[.o 2 []],[]] mJ:=qe κ
@[go_sem] theorem Z3:QE F.bits_Mul [] Fx:=qe κ
@[go_sem] theorem NG:QE F.natural_short [[.o 2 []],[]] xF:=qe κ
@[go_sem] theorem F9:QE F.bits_LeadingZeros32 [] py:=qe κ
@[go_sem] theorem NH:QE F.natural_guess [] rL:=qe κ
theorem Pe:cG.C F.natural_take=some zE:=by kernel_rfl
theorem Pf:cG.E F.natural_take=none:=by kernel_rfl
@[go_sem] theorem NI:CG F.natural_take [[.o 2 []],[.o 2 []],[]]:=AH κ
@[go_sem] theorem Pg:CH F.natural_take [1,0,0]:=AI κ
@[go_sem] theorem CK:CI F.natural_take false:=AJ κ
@[go_sem] theorem Uz:QE F.bits_Add32 [] Cp:=qe κ
@[go_sem] theorem Sx:QE F.natural_mul [[.o 2 []],[.o 2 []]] AE:=qe κ
@[go_sem] theorem Ph:QE F.interval_Mig [aC] tO:=qe κ
@[go_sem] theorem Pi:QE F.interval_Mag [aC] zF:=qe κ
@[go_sem] theorem D0:QE F.interval_power [aL,[],[],[],[]] pP:=qe κ
@[go_sem] theorem UA:QE F.bits_Sub32 [] Cq:=qe κ
@[go_sem] theorem ajL:QL F.bits_Mul32 []:=ql κ
@[go_sem] theorem UB:QE F.bits_Mul64 [] Cr:=qe κ
@[go_sem] theorem UC:QE F.bits_Div32 [] Cs:=qe κ
@[go_sem] theorem NJ:QE F.natural_digit [] xG:=qe κ
attribute [go_sem_proc ↓] reduceIte
attribute [go_sem_proc] Nat.reduceEqDiff Nat.reduceMul Nat.reduceAdd Nat.reduceLeDiff Nat.reduceLT Nat.reduceBEq
end Go.Ab
