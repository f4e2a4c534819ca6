/-
  A law of ranges holds at every input that the statement speaks of, under the conditions that its card names. Part C1.
-/
import Derived.Test.YtfdhicohflnjnaaGreatDoorProg
import Derived.KernelRfl
import Derived.Test.YtfdhicohflnjnaaGreatDoorB1
set_option linter.all false
namespace Go.Ab
open Go
set_option maxRecDepth 100000
set_option maxHeartbeats 4000000
abbrev F.l24_BoundContains:FuncId:=5
abbrev F.l24_awake:FuncId:=9
abbrev F.l24_few:FuncId:=10
abbrev F.l24_near:FuncId:=11
abbrev F.bound_Naive:FuncId:=12
abbrev F.bound_Bernstein:FuncId:=13
abbrev F.bound_Best:FuncId:=14
abbrev F.r24_Domain:FuncId:=15
abbrev F.r05_Valid:FuncId:=18
abbrev F.l24_between:FuncId:=21
abbrev F.interval_Point:FuncId:=22
abbrev F.dyadic_Cmp:FuncId:=23
abbrev F.interval_Meet:FuncId:=24
abbrev F.poly_Eval:FuncId:=26
abbrev F.interval_Has:FuncId:=27
abbrev F.slices_ContainsFunc_api_Dyadic_api_Dyadic_:FuncId:=32
abbrev F.l24_long:FuncId:=34
abbrev F.r02_Valid:FuncId:=35
abbrev F.slices_ContainsFunc_api_Interval_api_Interval_:FuncId:=38
abbrev F.interval_Whole:FuncId:=40
abbrev F.r23_Valid:FuncId:=41
abbrev F.r05_Inside:FuncId:=42
abbrev F.interval_Add:FuncId:=44
abbrev F.interval_Sub:FuncId:=46
abbrev F.interval_Mul:FuncId:=47
abbrev F.l24_d:FuncId:=48
abbrev F.r05_Equal:FuncId:=49
abbrev F.slices_ContainsFunc_api_Term_api_Term_:FuncId:=50
abbrev F.l24_few_1:FuncId:=51
abbrev F.l24_near_1:FuncId:=52
abbrev F.bound_fits:FuncId:=53
abbrev F.bound_whole:FuncId:=54
abbrev F.bound_power:FuncId:=55
abbrev F.bound_Linear:FuncId:=56
abbrev F.bound_line:FuncId:=57
abbrev F.bound_gridOf:FuncId:=58
abbrev F.bound_grid_unit:FuncId:=59
abbrev F.bound_grid_bernstein:FuncId:=60
abbrev F.interval_Hull:FuncId:=61
abbrev F.r02_Cmp:FuncId:=64
abbrev F.r05_zero:FuncId:=65
abbrev F.l24_between_1:FuncId:=66
abbrev F.r02_Add:FuncId:=67
abbrev F.r02_Scale:FuncId:=68
abbrev F.dyadic_Valid:FuncId:=69
abbrev F.dyadic_Sign:FuncId:=70
abbrev F.dyadic_compare:FuncId:=71
abbrev F.interval_Valid:FuncId:=72
abbrev F.interval_more:FuncId:=73
abbrev F.interval_less:FuncId:=74
abbrev F.poly_Valid:FuncId:=75
abbrev F.poly_Eval_1:FuncId:=76
abbrev F.poly_times:FuncId:=77
abbrev F.dyadic_Add:FuncId:=78
abbrev F.bound_domain:FuncId:=79
abbrev F.r02_Equal:FuncId:=82
abbrev F.slices_IndexFunc_api_Dyadic_api_Dyadic_:FuncId:=83
abbrev F.r02_bits:FuncId:=84
abbrev F.interval_known:FuncId:=88
abbrev F.interval_permitted:FuncId:=89
abbrev F.round_Down:FuncId:=90
abbrev F.round_Up:FuncId:=91
abbrev F.interval_made:FuncId:=92
abbrev F.slices_IndexFunc_api_Interval_api_Interval_:FuncId:=93
abbrev F.r23_term:FuncId:=94
abbrev F.r23_Compare:FuncId:=95
abbrev F.round_AddDown:FuncId:=98
abbrev F.round_AddUp:FuncId:=99
abbrev F.dyadic_Mul:FuncId:=100
abbrev F.dyadic_Int:FuncId:=101
abbrev F.slices_Clone_int_int_:FuncId:=102
abbrev F.interval_Neg:FuncId:=103
abbrev F.interval_four:FuncId:=104
abbrev F.round_MulDown:FuncId:=105
abbrev F.round_MulUp:FuncId:=106
abbrev F.r02_Int:FuncId:=107
abbrev F.slices_IndexFunc_api_Term_api_Term_:FuncId:=108
abbrev F.interval_Power:FuncId:=109
abbrev F.poly_Degree:FuncId:=110
abbrev F.slices_Index_int_int_:FuncId:=111
abbrev F.slices_Repeat_api_Interval_api_Interval_:FuncId:=112
abbrev F.bound_grid_step:FuncId:=113
abbrev F.bound_grid_lines:FuncId:=114
abbrev F.bound_grid_unit_1:FuncId:=115
abbrev F.bound_grid_add:FuncId:=116
abbrev F.bound_grid_mul:FuncId:=117
abbrev F.bound_grid_bernstein_1:FuncId:=118
abbrev F.interval_Div:FuncId:=119
abbrev F.r02_Sign:FuncId:=120
abbrev F.r02_Top:FuncId:=121
abbrev F.r02_Sum:FuncId:=122
abbrev F.r02_Neg:FuncId:=123
abbrev F.r02_Checked:FuncId:=124
abbrev F.r02_exponent:FuncId:=125
abbrev F.r02_Of:FuncId:=126
abbrev F.dyadic_inRange:FuncId:=127
abbrev F.dyadic_Top:FuncId:=128
abbrev F.natural_Cmp:FuncId:=129
abbrev F.dyadic_shifted:FuncId:=130
abbrev F.interval_Valid_1:FuncId:=131
abbrev F.slices_ContainsFunc_int_int_:FuncId:=132
abbrev F.poly_Valid_1:FuncId:=133
abbrev F.poly_degree:FuncId:=134
abbrev F.poly_order:FuncId:=135
abbrev F.dyadic_sum:FuncId:=136
abbrev F.bound_domain_1:FuncId:=137
abbrev F.r02_compare:FuncId:=139
abbrev F.slices_Insert_api_Term_api_Term_:FuncId:=142
abbrev F.round_round:FuncId:=145
abbrev F.r23_sum:FuncId:=146
abbrev F.round_add:FuncId:=148
abbrev F.dyadic_size:FuncId:=149
abbrev F.natural_Mul:FuncId:=150
abbrev F.dyadic_checked:FuncId:=151
abbrev F.dyadic_canonical:FuncId:=152
abbrev F.dyadic_Neg:FuncId:=153
abbrev F.round_mul:FuncId:=154
abbrev F.interval_Abs:FuncId:=155
abbrev F.interval_end:FuncId:=156
abbrev F.bits_Mul:FuncId:=157
abbrev F.interval_Sign:FuncId:=158
abbrev F.round_DivDown:FuncId:=159
abbrev F.round_DivUp:FuncId:=160
abbrev F.r02_left:FuncId:=161
abbrev F.r02_plus:FuncId:=162
abbrev F.r02_minus:FuncId:=163
abbrev F.r02_trim:FuncId:=164
abbrev F.r02_zeros:FuncId:=165
abbrev F.r02_right:FuncId:=166
abbrev F.natural_trim:FuncId:=167
abbrev F.natural_Shl:FuncId:=168
abbrev F.slices_IndexFunc_int_int_:FuncId:=169
abbrev F.cmp_Compare_int_:FuncId:=170
abbrev F.slices_Compare_int_int_:FuncId:=171
abbrev F.natural_Add:FuncId:=172
abbrev F.natural_Sub:FuncId:=173
abbrev F.slices_overlaps_api_Term_:FuncId:=175
abbrev F.slices_rotateRight_api_Term_:FuncId:=176
abbrev F.slices_Clone_uint32_uint32_:FuncId:=177
abbrev F.round_fault:FuncId:=178
abbrev F.round_signed:FuncId:=179
abbrev F.round_of:FuncId:=180
abbrev F.round_sum:FuncId:=181
abbrev F.natural_Bits:FuncId:=182
abbrev F.natural_long:FuncId:=183
abbrev F.natural_done:FuncId:=184
abbrev F.natural_mul:FuncId:=185
abbrev F.dyadic_trimmed:FuncId:=186
abbrev F.dyadic_low:FuncId:=187
abbrev F.natural_Shr:FuncId:=188
abbrev F.slices_Clip_uint32_uint32_:FuncId:=189
abbrev F.interval_Mig:FuncId:=190
abbrev F.interval_Mag:FuncId:=191
abbrev F.interval_power:FuncId:=192
abbrev F.bits_Mul32:FuncId:=193
abbrev F.bits_Mul64:FuncId:=194
abbrev F.round_div:FuncId:=195
abbrev F.natural_shl:FuncId:=196
abbrev F.cmp_isNaN_int_:FuncId:=197
abbrev F.natural_add:FuncId:=198
abbrev F.natural_sub:FuncId:=199
abbrev F.round_precise:FuncId:=202
abbrev F.round_cut:FuncId:=203
abbrev F.round_shl:FuncId:=204
abbrev F.round_shr:FuncId:=205
abbrev F.bits_Len32:FuncId:=206
abbrev F.slices_ContainsFunc_Suint32_Suint32_:FuncId:=207
abbrev F.natural_long_1:FuncId:=208
abbrev F.bits_TrailingZeros32:FuncId:=209
abbrev F.natural_shr:FuncId:=210
abbrev F.dyadic_Abs:FuncId:=211
abbrev F.dyadic_Bits:FuncId:=212
abbrev F.natural_DivMod:FuncId:=213
abbrev F.bits_Add32:FuncId:=214
abbrev F.bits_Sub32:FuncId:=215
abbrev F.dyadic_Make:FuncId:=218
abbrev F.slices_IndexFunc_Suint32_Suint32_:FuncId:=219
abbrev F.natural_divide:FuncId:=220
abbrev F.dyadic_exponent:FuncId:=221
abbrev F.natural_short:FuncId:=222
abbrev F.bits_LeadingZeros32:FuncId:=223
abbrev F.natural_guess:FuncId:=224
abbrev F.natural_take:FuncId:=225
abbrev F.bits_Div32:FuncId:=226
abbrev F.natural_digit:FuncId:=227
def aI:List Sh:=[.o 0 [],.o 2 [],.o 0 []]
@[go_sem] theorem amS:aI=[.o 0 [],.o 2 [],.o 0 []]:=_root_.id rfl
def aX:List Sh:=[.o 0 [],.o 2 [],.o 0 [],.o 0 [],.o 2 [],.o 0 [],.o 0 []]
@[go_sem] theorem amT:aX=[.o 0 [],.o 2 [],.o 0 [],.o 0 [],.o 2 [],.o 0 [],.o 0 []]:=_root_.id rfl
noncomputable section
def g0 (f:Func) (l:dF):Cmd:=gK Go.Proofs.Tryz.prog [] f l 0 []
def g1 (H:List (Nat × Nat)) (f:Func) (l:dF) (k:Nat) (L:List Cmd):Cmd:=gK Go.Proofs.Tryz.prog H f l k L
def aoj:dF:=[[1,2,3,4],[1,2,3,4,16],[8],[1,2,3,4,34],[8],[1,2,3,4,9],[1,2,3,4,9,35,36,37],[1,3,4,9],[1,2,3,4,9,35,36,37],[4,55],[1,2,3,4,9,35,36,37,38],[1,2,3,4,9,35,36,37],[1,2,3,4,9,10,11,35,36,37],[1,2,3,4,9,10,11,12,35,36,37],[1,2,3,4,9,10,11,12,35,36,37,45],[1,2,3,4,9,11,12,35,36,37],[1,2,3,4,9,35,36,37],[1,2,3,4,9,35,36,37],[1,3,4,13,14],[1,3,4,13,64],[8],[8],[3,4,10,11,18,19]]
def anM:Cmd:=av (g1 [] Go.Proofs.Tryz.f5 aoj 1 [])
@[go_sem] def aoD (a:Cmd):Cmd:=av (g1 [] Go.Proofs.Tryz.f5 aoj 0 [a])
def anS:Cmd:=aoD anM
def anQ:FD:=⟨4,[[]],[.t 8],anS⟩
def PC:Cmd:=av (g0 Go.Proofs.Tryz.f9 [[],[1],[1,2],[7777777,1,2],[3,4],[2,3,0,6,2,6,3,6,5,6,0,7,2,7,3,7,5,7,6,7],[0],[0,1,0,2,16,19]])
def MM:FD:=⟨0,[[]],[.t 0],PC⟩
def x9:Cmd:=av (g0 Go.Proofs.Tryz.f10 [[1],[2]])
def rJ:FD:=⟨1,[[]],[.t 2],x9⟩
def AG:Cmd:=av (g0 Go.Proofs.Tryz.f11 [[0],[2]])
def ub:FD:=⟨1,[[]],[.t 2],AG⟩
def s6:dF:=[[1,2,3,6],[1,2,3,6,17],[6],[1,2,3,6,7],[1,2,6,7,22,23,24],[6,7],[1,2,6,7,22,23,24],[3,6,7],[1,2,6,7,22,23,24,25],[1,2,6,7,22,23,24],[1,2,6,7,9,22,23,24],[1,2,6,7,9,10,22,23,24],[1,2,6,7,10,22,23,24,32,33,34],[1,2,6,7,10,22,23,24],[1,2,6,7,10,22,23,24,32,33,34],[3,6,7,9,10],[1,2,6,7,10,22,23,24,32,33,34,35],[1,2,6,7,10,22,23,24,32,33,34],[1,2,6,7,10,11,12,22,23,24,32,33,34],[1,2,6,7,10,11,12,22,23,24,32,33,34,40],[1,2,6,7,10,22,23,24,32,33,34],[0,7],[1,2,6,7,10,22,23,24,32,33,34],[1,2,6,7,22,23,24],[1,2,6,7,22,23,24],[6]]
def dW:Cmd:=av (g1 [] Go.Proofs.Tryz.f12 s6 1 [])
@[go_sem] def Fh (a:Cmd):Cmd:=av (g1 [] Go.Proofs.Tryz.f12 s6 2 [a])
def gJ:Cmd:=Fh dW
@[go_sem] def KO (a b:Cmd):Cmd:=av (g1 [] Go.Proofs.Tryz.f12 s6 0 [a,b])
def uX:Cmd:=KO dW gJ
def o7:FD:=⟨3,[aX],[.cell 6 7 true],uX⟩
def ov:dF:=[[1,2,3,6],[1,2,3,6,19],[6],[1,2,3,6,7,8],[1,2,3,6,7,31],[6],[],[1,6,9,10],[1,6,9,50],[6],[1,6,9,56,57],[6,9],[1,6,9,56,57],[6,2368],[1,6,9,56,57,58],[1,6,9,56,57],[1,6,9,11,56,57],[1,6,9,11,56,57],[1,6,9,56,57],[1,6,9,56,57],[6,9,12],[6,12,80,81,82],[6,12],[6,12,80,81,82],[6,12,2368],[6,12,80,81,82,83],[6,12,80,81,82],[6,12,14,80,81,82],[6,12,80,81,82],[6,12,80,81,82],[6]]
def iU:Cmd:=av (g1 [] Go.Proofs.Tryz.f13 ov 1 [])
def iV:Cmd:=av (g1 [] Go.Proofs.Tryz.f13 ov 2 [])
@[go_sem] def Ef (a b:Cmd):Cmd:=av (g1 [] Go.Proofs.Tryz.f13 ov 0 [a,b])
def gk:Cmd:=Ef iU iV
def dX:FD:=⟨3,[aX],[.cell 6 7 true],gk⟩
def rK:Cmd:=av (g0 Go.Proofs.Tryz.f14 [[1,2,3,6],[1,2,3,6,13],[6],[6,7,8],[3,4,0,12,3,12,4,12,7,12,8,12],[6,7,28],[6],[6]])
def mF:FD:=⟨3,[aX],[.cell 6 7 true],rK⟩
def Bs:dF:=[[1,2],[1,15],[4],[1,5],[],[1,5],[],[1,5,19],[1,5],[1,5,34],[4],[1,5],[4]]
def im:Cmd:=av (g1 [] Go.Proofs.Tryz.f15 Bs 1 [])
@[go_sem] def MN (a:Cmd):Cmd:=av (g1 [] Go.Proofs.Tryz.f15 Bs 0 [a])
def oA:Cmd:=MN im
def jQ:FD:=⟨2,[[]],[.t 4],oA⟩
def mW:Cmd:=av (g0 Go.Proofs.Tryz.f18 [[1],[1,4],[2],[2]])
def jo:FD:=⟨1,[[]],[.t 2],mW⟩
def aoA:Cmd:=av (g0 Go.Proofs.Tryz.f21 [[1,2,4],[1,2,4,5],[1,2,4,5,6],[4],[1,9,3,9,4,9,9,11,9,13,1,14,3,14,4,14]])
def aoo:FD:=⟨2,[aI],[.cell 4 3 true],aoA⟩
def wR:Cmd:=av (g0 Go.Proofs.Tryz.f22 [[1,2],[1,2,5],[2],[2]])
def pN:FD:=⟨1,[aX],[.cell 2 7 true],wR⟩
def jp:Cmd:=av (g0 Go.Proofs.Tryz.f23 [[2,3],[2,3,14],[4],[2,3,5,6],[1,2],[2,3,5],[2,3,5,6,19],[4],[2,3,5,23],[4],[2,3,5,27],[4],[4]])
def gp:FD:=⟨2,[[]],[.t 4],jp⟩
def fY:Cmd:=av (g0 Go.Proofs.Tryz.f24 [[2,3,4],[2,3,4],[2,3,4,7],[4,5],[2,3,4,17],[4,5],[2,3,4,21],[4,5],[4,6],[4,6,4,8,1,11,3,11,4,11,6,11,8,11,9,11],[4,6,41],[4,5],[4,5]])
def dY:FD:=⟨2,[aX,[]],[.cell 4 7 true,.t 5],fY⟩
def aow:dF:=[[1,2,4],[1,2,4,28],[4,5],[1,2,4,6],[1,4,6,31,32,33],[4,6],[1,4,6,31,32,33],[2,4,6],[1,4,6,31,32,33,34],[1,4,6,31,32,33],[1,4,6,8,31,32,33],[1,4,6,8,9,31,32,33],[1,4,6,9,31,32,33,40,41,42],[1,4,6,9,31,32,33],[1,4,6,9,31,32,33,40,41,42],[2,4,6,8,9],[1,4,6,9,31,32,33,40,41,42,43],[1,4,6,9,31,32,33,40,41,42],[1,4,6,9,11,12,31,32,33,40,41,42],[1,4,6,9,10,31,32,33,40,41,42],[],[1,4,6,9,31,32,33,40,41,42,58],[4,5],[1,4,6,9,31,32,33,40,41,42],[1,4,6,13,14,31,32,33],[1,4,6,13,31,32,33,68],[4,5],[1,4,6,31,32,33],[1,4,6,31,32,33],[4,5]]
def anX:Cmd:=av (g1 [] Go.Proofs.Tryz.f26 aow 1 [])
@[go_sem] def aoP (a:Cmd):Cmd:=av (g1 [] Go.Proofs.Tryz.f26 aow 2 [a])
def an6:Cmd:=aoP anX
@[go_sem] def apb (a b:Cmd):Cmd:=av (g1 [] Go.Proofs.Tryz.f26 aow 0 [a,b])
def aoi:Cmd:=apb anX an6
def an7:FD:=⟨2,[aI,[]],[.cell 4 3 true,.t 5],aoi⟩
def an1:Cmd:=av (g0 Go.Proofs.Tryz.f27 [[2,3],[2,3,12],[4],[4]])
def anW:FD:=⟨2,[[]],[.t 4],an1⟩
def an4:Cmd:=av (g0 Go.Proofs.Tryz.f32 [[0,1],[4]])
def anR:FD:=⟨2,[[]],[.t 4],an4⟩
def vZ:Cmd:=av (g0 Go.Proofs.Tryz.f34 [[1],[2]])
def qf:FD:=⟨1,[[]],[.t 2],vZ⟩
def fQ:Cmd:=av (g0 Go.Proofs.Tryz.f35 [[1],[1,7],[2],[1,48],[2],[1,3],[2]])
def dZ:FD:=⟨1,[[]],[.t 2],fQ⟩
def jq:Cmd:=av (g0 Go.Proofs.Tryz.f38 [[0,1],[4]])
def dQ:FD:=⟨2,[[]],[.t 4],jq⟩
def wS:Cmd:=av (g0 Go.Proofs.Tryz.f40 [[0],[0]])
def pO:FD:=⟨0,[aX],[.cell 0 7 true],wS⟩
def Cp:dF:=[[1],[1,17],[2],[1,3],[],[1,3],[1],[1,3,22],[1,3],[1,3,54],[],[2],[1,3],[2]]
def gL:Cmd:=av (g1 [] Go.Proofs.Tryz.f41 Cp 1 [])
@[go_sem] def PD (a:Cmd):Cmd:=av (g1 [] Go.Proofs.Tryz.f41 Cp 0 [a])
def mX:Cmd:=PD gL
def jr:FD:=⟨1,[[]],[.t 2],mX⟩
def MO:Cmd:=av (g0 Go.Proofs.Tryz.f42 [[2,3],[2,3,16],[4],[4]])
def KP:FD:=⟨2,[[]],[.t 4],MO⟩
def pe:Cmd:=av (g0 Go.Proofs.Tryz.f44 [[2,3,4,6],[2,3,4,6,20],[6],[2,3,4,6,7,8],[6,7,8,9,10],[6]])
def j7:FD:=⟨3,[aX],[.cell 6 7 true],pe⟩
def zz:Cmd:=av (g0 Go.Proofs.Tryz.f46 [[2,3,4,6],[6],[0,2]])
def rN:FD:=⟨3,[aX],[.cell 6 7 true],zz⟩
def pf:Cmd:=av (g0 Go.Proofs.Tryz.f47 [[2,3,4,6],[2,3,4,6,16],[6],[6]])
def j8:FD:=⟨3,[aX],[.cell 6 7 true],pf⟩
def Ze:Cmd:=av (g0 Go.Proofs.Tryz.f48 [[0,2],[2]])
def WT:FD:=⟨1,[aI],[.cell 2 3 true],Ze⟩
def EI:Cmd:=av (g0 Go.Proofs.Tryz.f49 [[2,3],[4]])
def wT:FD:=⟨2,[[]],[.t 4],EI⟩
def lZ:Cmd:=av (g0 Go.Proofs.Tryz.f50 [[0,1],[4]])
def fP:FD:=⟨2,[[]],[.t 4],lZ⟩
def yO:Cmd:=av (g0 Go.Proofs.Tryz.f51 [[1],[2]])
def rO:FD:=⟨1,[[]],[.t 2],yO⟩
def wU:Cmd:=av (g0 Go.Proofs.Tryz.f52 [[1],[2]])
def qw:FD:=⟨1,[[]],[.t 2],wU⟩
def rP:Cmd:=av (g0 Go.Proofs.Tryz.f53 [[1,2,3],[6]])
def mG:FD:=⟨3,[[]],[.t 6],rP⟩
def Bu:Cmd:=av (g0 Go.Proofs.Tryz.f54 [[0],[0]])
def s7:FD:=⟨0,[aX],[.cell 0 7 true],Bu⟩
def uY:Cmd:=av (g0 Go.Proofs.Tryz.f55 [[1,2,3,6],[1,2,3,6,8],[6],[6],[2,3]])
def pg:FD:=⟨3,[aX],[.cell 6 7 true],uY⟩
def ya:dF:=[[1],[1,14],[2,3],[1,4],[4,20,21,22],[4],[4,20,21,22],[1,18],[4,20,21,22,23],[4,20,21,22],[4,6,20,21,22],[4,20,21,22],[3,6],[4,20,21,22],[2,3]]
def iH:Cmd:=av (g1 [] Go.Proofs.Tryz.f56 ya 1 [])
@[go_sem] def Il (a:Cmd):Cmd:=av (g1 [] Go.Proofs.Tryz.f56 ya 0 [a])
def pi:Cmd:=Il iH
def ke:FD:=⟨1,[[.o 4 aI],[]],[.t 2,.t 3],pi⟩
def lq:Cmd:=av (g0 Go.Proofs.Tryz.f57 [[3,4,5,6,8],[3,4,5,8,9,10],[1,4,3,4,1,5,3,5,4,5,3,6],[3,4,5,8,9,10,23],[3,4,5,8,9,10],[3,4,5,8,10,11,12],[3,4,8,11,12,13,14],[3,4,8,11,13,43],[8],[3,4,8,12,13,15],[8,12,14,15,16],[8,15,16,64],[8],[8]])
def ej:FD:=⟨4,[aX],[.cell 8 7 true],lq⟩
def io:dF:=[[1,2],[2,6],[2,6,26,27,28],[2,6],[2,6,26,27,28],[2,21,24,2624],[2,6,26,27,28,29],[2,6,26,27,28],[2,6,8,26,27,28],[2,6,26,27,28,33,34,35],[2,6,26,27,28],[2,6,26,27,28,33,34,35],[2,8,21,24,2624],[2,6,26,27,28,33,34,35,36],[2,6,26,27,28,33,34,35],[2,6,9,10,26,27,28,33,34,35],[2,6,26,27,28,33,34,35],[],[2,6,26,27,28,33,34,35],[2,6,26,27,28],[2,6,11],[2,6,11,60,61,62],[2,6,11],[2,6,11,60,61,62],[2,21,24,2624],[2,6,11,60,61,62,63],[2,6,11,60,61,62],[2,6,11,13,60,61,62],[2,6,11,60,61,62],[2,6,11,60,61,62,71],[4,5],[2,6,11,60,61,62],[2,6],[6,82,83,84],[6],[6,82,83,84],[2,21,24,2624],[6,82,83,84,85],[6,82,83,84],[6,15,82,83,84],[6,15,16,82,83,84],[6,15,16,82,83,84,89,90,91],[6,15,16,82,83,84],[6,15,16,82,83,84,89,90,91],[2,15,21,24,2624],[6,15,16,82,83,84,89,90,91,92],[6,15,16,82,83,84,89,90,91],[6,15,16,17,18,82,83,84,89,90,91],[6,15,16,82,83,84,89,90,91],[6,15,16,82,83,84,89,90,91],[6,82,83,84],[3,7],[6,82,83,84],[4,5]]
def gl:Cmd:=av (g1 [] Go.Proofs.Tryz.f58 io 1 [])
@[go_sem] def Eg (a:Cmd):Cmd:=av (g1 [] Go.Proofs.Tryz.f58 io 2 [a])
def iI:Cmd:=Eg gl
def eJ:Cmd:=av (g1 [] Go.Proofs.Tryz.f58 io 3 [])
def iJ:Cmd:=av (g1 [] Go.Proofs.Tryz.f58 io 4 [])
@[go_sem] def Eh (a b c d:Cmd):Cmd:=av (g1 [] Go.Proofs.Tryz.f58 io 5 [a,b,c,d])
def kV:Cmd:=Eh gl iI eJ iJ
@[go_sem] def Im (a b c d e:Cmd):Cmd:=av (g1 [] Go.Proofs.Tryz.f58 io 0 [a,b,c,d,e])
def zA:Cmd:=Im gl iI eJ iJ kV
def yb:FD:=⟨2,[[],[]],[.t 4,.t 5],zA⟩
def vF:Cmd:=av (g0 Go.Proofs.Tryz.f59 [[1,3,5],[1,3,5,6],[1,3,6,7],[2,3,2,4,2,7,1,9,2,9,3,9,4,9,7,9,8,9],[1,3,6,7,8],[]])
def uB:FD:=⟨3,[],[],vF⟩
def qg:Cmd:=av (g0 Go.Proofs.Tryz.f60 [[1,2],[1,2,4],[]])
def pG:FD:=⟨2,[],[],qg⟩
def rQ:Cmd:=av (g0 Go.Proofs.Tryz.f61 [[2,3,4],[2,3,4,9],[4],[4],[4,6,4,8]])
def l6:FD:=⟨2,[aX],[.cell 4 7 true],rQ⟩
def kf:Cmd:=av (g0 Go.Proofs.Tryz.f64 [[2,3],[2,3,5,6],[1,2],[2,3,5,6,13],[16],[4],[4],[2,3,5,18],[4],[2,3,5,23],[1,2],[31],[1,2],[4],[4],[4],[0,2]])
def gV:FD:=⟨2,[[]],[.t 4],kf⟩
def rS:Cmd:=av (g0 Go.Proofs.Tryz.f65 [[1],[2]])
def mY:FD:=⟨1,[[]],[.t 2],rS⟩
def aof:Cmd:=av (g0 Go.Proofs.Tryz.f66 [[2,3,4],[2,4,5,6],[2,4,5,16],[4],[2,4,7,8],[2,4,7,24],[4],[4]])
def an2:FD:=⟨2,[aI],[.cell 4 3 true],aof⟩
def aoy:Cmd:=av (g0 Go.Proofs.Tryz.f67 [[2,3,4],[2,3,4,13],[4,5],[4,5]])
def aok:FD:=⟨2,[aI,[]],[.cell 4 3 true,.t 5],aoy⟩
def aoH:Cmd:=av (g0 Go.Proofs.Tryz.f68 [[1,2,4],[1,2,4,13],[4,5],[4,5]])
def aox:FD:=⟨2,[aI,[]],[.cell 4 3 true,.t 5],aoH⟩
def gM:Cmd:=av (g0 Go.Proofs.Tryz.f69 [[1],[1,6],[2],[2]])
def eN:FD:=⟨1,[[]],[.t 2],gM⟩
def mH:Cmd:=av (g0 Go.Proofs.Tryz.f70 [[1],[],[1,3],[2],[13],[2],[2]])
def jd:FD:=⟨1,[[]],[.t 2],mH⟩
def l7:Cmd:=av (g0 Go.Proofs.Tryz.f71 [[2,3],[2,3,5,6],[1,2],[2,3],[2,3,5,6,12],[4],[2,3,16],[4],[2,3,7],[4],[6,8,6,10]])
def iK:FD:=⟨2,[[]],[.t 4],l7⟩
def gN:Cmd:=av (g0 Go.Proofs.Tryz.f72 [[1],[1,5],[1,3],[2],[2]])
def eK:FD:=⟨1,[[]],[.t 2],gN⟩
def rT:Cmd:=av (g0 Go.Proofs.Tryz.f73 [[2,3,4],[2,3,4,8],[4],[4]])
def l8:FD:=⟨2,[aI],[.cell 4 3 true],rT⟩
def rU:Cmd:=av (g0 Go.Proofs.Tryz.f74 [[2,3,4],[2,3,4,8],[4],[4]])
def l9:FD:=⟨2,[aI],[.cell 4 3 true],rU⟩
def Bv:dF:=[[1],[1,18],[2],[1,20,21,22],[],[1,20,21,22],[1],[1,20,21,22,23],[1,20,21,22],[1,3,4,20,21,22],[1,3,4,20,21,22,45],[2],[1,3,4,20,21,22,54],[2],[1,20,21,22,69],[],[2],[1,20,21,22],[2]]
def PE:Cmd:=av (g1 [] Go.Proofs.Tryz.f75 Bv 1 [])
@[go_sem] def MP (a:Cmd):Cmd:=av (g1 [] Go.Proofs.Tryz.f75 Bv 0 [a])
def lu:Cmd:=MP PE
def iv:FD:=⟨1,[[]],[.t 2],lu⟩
def aoB:Cmd:=av (g0 Go.Proofs.Tryz.f76 [[1],[2]])
def aoq:FD:=⟨1,[[]],[.t 2],aoB⟩
def aoC:dF:=[[2,3,4,6],[3,4,6,10,11],[3,6],[3,4,6,10,11],[3,4,6],[3,4,6,10,11,12],[3,4,6,10,11],[3,4,6,8,9,10,11],[3,4,6,8,10,11,20],[6,7],[3,4,6,10,11],[3,4,6,10,11],[6,7]]
def anY:Cmd:=av (g1 [] Go.Proofs.Tryz.f77 aoC 1 [])
@[go_sem] def aoY (a:Cmd):Cmd:=av (g1 [] Go.Proofs.Tryz.f77 aoC 0 [a])
def aoF:Cmd:=aoY anY
def aos:FD:=⟨3,[aI,[]],[.cell 6 3 true,.t 7],aoF⟩
def aol:Cmd:=av (g0 Go.Proofs.Tryz.f78 [[2,3,4],[2,3,4,13],[4,5],[4,5]])
def aoc:FD:=⟨2,[aI,[]],[.cell 4 3 true,.t 5],aol⟩
def pj:Cmd:=av (g0 Go.Proofs.Tryz.f79 [[1,2],[4]])
def kg:FD:=⟨2,[[]],[.t 4],pj⟩
def EJ:Cmd:=av (g0 Go.Proofs.Tryz.f82 [[2,3],[4]])
def wV:FD:=⟨2,[[]],[.t 4],EJ⟩
def anT:dF:=[[0,1],[0,1,7,8],[],[0,1,7,8],[1000],[0,1,7,8,9],[0,1,7,8],[0,1,5,7,8],[0,1,5,7,8,16],[4],[0,1,7,8],[4]]
def an5:Cmd:=av (g1 [] Go.Proofs.Tryz.f83 anT 1 [])
@[go_sem] def an9 (a:Cmd):Cmd:=av (g1 [] Go.Proofs.Tryz.f83 anT 0 [a])
def aoa:Cmd:=an9 an5
def anV:FD:=⟨2,[[]],[.t 4],aoa⟩
def EK:dF:=[[0],[0,7],[2],[0,3],[3,4],[3],[3,4],[],[3,4,19],[3,4],[3,4],[3,4],[2]]
def qx:Cmd:=av (g1 [] Go.Proofs.Tryz.f84 EK 1 [])
@[go_sem] def SE (a:Cmd):Cmd:=av (g1 [] Go.Proofs.Tryz.f84 EK 0 [a])
def AJ:Cmd:=SE qx
def ug:FD:=⟨1,[[]],[.t 2],AJ⟩
def vG:dF:=[[0],[5,6,7],[],[5,6,7],[],[5,6,7,8],[5,6,7],[4,5,6,7],[5,6,7,17],[2],[5,6,7],[2]]
def eS:Cmd:=av (g1 [] Go.Proofs.Tryz.f88 vG 1 [])
@[go_sem] def Fi (a:Cmd):Cmd:=av (g1 [] Go.Proofs.Tryz.f88 vG 0 [a])
def qH:Cmd:=Fi eS
def kW:FD:=⟨1,[[]],[.t 2],qH⟩
def me:Cmd:=av (g0 Go.Proofs.Tryz.f89 [[0],[2]])
def ip:FD:=⟨1,[[]],[.t 2],me⟩
def Cq:Cmd:=av (g0 Go.Proofs.Tryz.f90 [[1,2,4],[4,5]])
def uZ:FD:=⟨2,[aI,[]],[.cell 4 3 true,.t 5],Cq⟩
def GG:Cmd:=av (g0 Go.Proofs.Tryz.f91 [[1,2,4],[4,5]])
def yQ:FD:=⟨2,[aI,[]],[.cell 4 3 true,.t 5],GG⟩
def nG:Cmd:=av (g0 Go.Proofs.Tryz.f92 [[1,3,4,6,8],[4,6,8,14],[8],[8]])
def js:FD:=⟨4,[aX],[.cell 8 7 true],nG⟩
def eB:dF:=[[0,1],[0,1,7,8],[],[0,1,7,8],[],[0,1,7,8,9],[0,1,7,8],[0,1,5,7,8],[0,1,5,7,8,16],[4],[0,1,7,8],[4]]
def jt:Cmd:=av (g1 [] Go.Proofs.Tryz.f93 eB 1 [])
@[go_sem] def kh (a:Cmd):Cmd:=av (g1 [] Go.Proofs.Tryz.f93 eB 0 [a])
def ki:Cmd:=kh jt
def eC:FD:=⟨2,[[]],[.t 4],ki⟩
def EL:dF:=[[0,3],[3,24],[4],[3,5],[3,5,6],[5],[3,5,6],[3],[3,5,6,29],[3,5,6],[3,5,6,45],[4],[3,5,6],[3,5,6],[4]]
def gq:Cmd:=av (g1 [] Go.Proofs.Tryz.f94 EL 1 [])
@[go_sem] def SF (a:Cmd):Cmd:=av (g1 [] Go.Proofs.Tryz.f94 EL 0 [a])
def pk:Cmd:=SF gq
def kE:FD:=⟨2,[[]],[.t 4],pk⟩
def zB:dF:=[[0,1],[0,1,5,6],[0,1,5,6,14],[4],[0,1,17],[4],[0,1,7],[],[0,1,7],[],[0,1,7,21],[0,1,7],[0,1,7,32],[],[4],[0,1,7,41],[],[4],[0,1,7],[4]]
def gO:Cmd:=av (g1 [] Go.Proofs.Tryz.f95 zB 1 [])
@[go_sem] def KQ (a:Cmd):Cmd:=av (g1 [] Go.Proofs.Tryz.f95 zB 0 [a])
def mI:Cmd:=KQ gO
def je:FD:=⟨2,[[]],[.t 4],mI⟩
def yc:Cmd:=av (g0 Go.Proofs.Tryz.f98 [[2,3,4,6],[6,7]])
def qI:FD:=⟨3,[aI,[]],[.cell 6 3 true,.t 7],yc⟩
def Bw:Cmd:=av (g0 Go.Proofs.Tryz.f99 [[2,3,4,6],[6,7]])
def s9:FD:=⟨3,[aI,[]],[.cell 6 3 true,.t 7],Bw⟩
def hH:Cmd:=av (g0 Go.Proofs.Tryz.f100 [[2,3,4],[2,3,4,15],[4,5],[2,3,4,26],[4,5],[2,3,4,36],[2,4],[4,5],[2,3,4,6],[4,5]])
def fm:FD:=⟨2,[aI,[]],[.cell 4 3 true,.t 5],hH⟩
def wW:Cmd:=av (g0 Go.Proofs.Tryz.f101 [[0,2],[0,2,3],[0,2,3,7],[0,2,3],[2]])
def qy:FD:=⟨1,[aI],[.cell 2 3 true],wW⟩
def pH:Cmd:=av (g0 Go.Proofs.Tryz.f102 [[0],[0,4],[2],[2]])
def ju:FD:=⟨1,[[]],[.t 2],pH⟩
def td:Cmd:=av (g0 Go.Proofs.Tryz.f103 [[1,2],[1,2,6],[2],[2],[2,4]])
def nH:FD:=⟨1,[aX],[.cell 2 7 true],td⟩
def wX:dF:=[[2,3,4,5,6,10],[2,3,4,10,11],[2,3,4,10,11,12],[2,3,4,10,12,40,41],[10,12],[2,3,4,10,12,40,41],[10,12],[2,3,4,10,12,40,41,42],[2,3,4,10,12,40,41],[2,3,4,10,12,13,14,40,41],[2,3,4,10,12,13,14,15,16,40,41],[2,3,4,10,12,13,15,16,17,18,40,41],[2,3,4,10,12,13,15,17,40,41,70],[10],[2,3,4,10,12,13,15,17,40,41,80],[2,3,4,10,12,13,17,40,41],[2,3,4,10,12,17,40,41,91],[2,3,4,10,12,40,41],[2,3,4,10,12,40,41],[10]]
def aY:Cmd:=av (g1 [] Go.Proofs.Tryz.f104 wX 1 [])
@[go_sem] def GH (a:Cmd):Cmd:=av (g1 [] Go.Proofs.Tryz.f104 wX 0 [a])
def ye:Cmd:=GH aY
def qJ:FD:=⟨5,[aX],[.cell 10 7 true],ye⟩
def yf:Cmd:=av (g0 Go.Proofs.Tryz.f105 [[2,3,4,6],[6,7]])
def qK:FD:=⟨3,[aI,[]],[.cell 6 3 true,.t 7],yf⟩
def Bx:Cmd:=av (g0 Go.Proofs.Tryz.f106 [[2,3,4,6],[6,7]])
def te:FD:=⟨3,[aI,[]],[.cell 6 3 true,.t 7],Bx⟩
def Uv:Cmd:=av (g0 Go.Proofs.Tryz.f107 [[0,2],[0,2,3],[0,2,3,7],[0,2,3],[2]])
def SG:FD:=⟨1,[aI],[.cell 2 3 true],Uv⟩
def gD:dF:=[[0,1],[0,1,7,8],[],[0,1,7,8],[],[0,1,7,8,9],[0,1,7,8],[0,1,5,7,8],[0,1,5,7,8,16],[4],[0,1,7,8],[4]]
def mf:Cmd:=av (g1 [] Go.Proofs.Tryz.f108 gD 1 [])
@[go_sem] def nX (a:Cmd):Cmd:=av (g1 [] Go.Proofs.Tryz.f108 gD 0 [a])
def nY:Cmd:=nX mf
def gE:FD:=⟨2,[[]],[.t 4],nY⟩
def fB:Cmd:=av (g0 Go.Proofs.Tryz.f109 [[1,2,3,6],[1,2,3,6,27],[6],[1,2,3,6,30],[6],[1,2,3,6,35],[1,2,3,6],[1,2,3,6,7,8],[6,7,8,9,10],[6]])
def dG:FD:=⟨3,[aX],[.cell 6 7 true],fB⟩
def qz:Cmd:=av (g0 Go.Proofs.Tryz.f110 [[1],[1,11],[2],[2]])
def lv:FD:=⟨1,[[]],[.t 2],qz⟩
def oB:dF:=[[0,1],[0,1,7,8],[],[0,1,7,8],[],[0,1,7,8,9],[0,1,7,8],[0,1,5,7,8],[0,1,5,7,8,16],[4],[0,1,7,8],[4]]
def cJ:Cmd:=av (g1 [] Go.Proofs.Tryz.f111 oB 1 [])
@[go_sem] def xT (a:Cmd):Cmd:=av (g1 [] Go.Proofs.Tryz.f111 oB 0 [a])
def pI:Cmd:=xT cJ
def jv:FD:=⟨2,[[]],[.t 4],pI⟩
def ft:dF:=[[0,1],[0,1,10],[0,1],[0,5,6],[0,6,26],[0,6],[0,7],[7,8],[7],[7,8],[30],[7,8,37],[7,8],[7,8],[],[4]]
def bP:Cmd:=av (g1 [] Go.Proofs.Tryz.f112 ft 1 [])
@[go_sem] def lw (a:Cmd):Cmd:=av (g1 [] Go.Proofs.Tryz.f112 ft 0 [a])
def fG:Cmd:=lw bP
def fu:FD:=⟨2,[[]],[.t 4],fG⟩
def uC:dF:=[[0,1],[0,1,5],[5,13,14,15],[5],[5,13,14,15],[1000],[5,13,14,15,16],[5,13,14,15],[5,7,13,14,15],[5,13,14,15],[5,13,14,15],[4]]
def fZ:Cmd:=av (g1 [] Go.Proofs.Tryz.f113 uC 1 [])
@[go_sem] def Ei (a:Cmd):Cmd:=av (g1 [] Go.Proofs.Tryz.f113 uC 0 [a])
def vH:Cmd:=Ei fZ
def oC:FD:=⟨2,[[]],[.t 4],vH⟩
def sK:dF:=[[0,1,2,6],[0,1,2,6,15,16],[],[0,1,2,6,15,16],[1000,1001,1002,1003,1004],[0,1,2,6,15,16,17],[0,1,2,6,15,16],[0,1,2,6,7,15,16],[0,1,2,6,7,15,16,31],[],[0,1,2,6,15,16],[0,1,2,6,15,16]]
def lz:Cmd:=av (g1 [] Go.Proofs.Tryz.f114 sK 1 [])
@[go_sem] def Cr (a:Cmd):Cmd:=av (g1 [] Go.Proofs.Tryz.f114 sK 0 [a])
def oE:Cmd:=Cr lz
def nn:FD:=⟨3,[],[],oE⟩
def iW:dF:=[[0,1,2,3,4,5,13,14],[0,1,2,3,5],[0,1,2,3,4,5,13,14],[1000,1001,1002,1003,1004],[0,1,2,3,4,5,13,14,15],[0,1,2,3,4,5,13,14],[0,1,2,3,4,5,8,13,14],[0,1,2,3,4,5,8,9,13,14],[0,1,2,3,4,5,13,14],[0,1,2,3,4,5,8,9,13,14],[1000,1001,1002,1003,1004],[0,1,2,3,4,5,8,9,13,14,21],[0,1,2,3,4,5,8,9,13,14],[0,1,2,3,4,5,8,9,10,13,14],[0,1,2,3,4,5,8,9,13,14],[0,24,3,24,5,24,6,24,9,24,12,24,0,25,3,25],[0,1,2,3,4,5,8,9,13,14],[0,1,2,3,4,5,13,14],[0,1,2,3,5,11],[0,1,2,3,5,11,12],[],[0,1,2,3,5,11,12],[11,1000,1001,1002,1003,1004],[0,1,2,3,5,11,12,61],[0,1,2,3,5,11,12],[0,1,2,3,5,11,12],[0,1,2,3,5,11,12],[0,22,3,22],[0,1,2,3,5,11,12]]
def fh:Cmd:=av (g1 [] Go.Proofs.Tryz.f115 iW 1 [])
def fj:Cmd:=av (g1 [] Go.Proofs.Tryz.f115 iW 2 [])
@[go_sem] def yR (a b:Cmd):Cmd:=av (g1 [] Go.Proofs.Tryz.f115 iW 3 [a,b])
def gW:Cmd:=yR fh fj
@[go_sem] def BO (a b c:Cmd):Cmd:=av (g1 [] Go.Proofs.Tryz.f115 iW 0 [a,b,c])
def sL:Cmd:=BO fh fj gW
def rW:FD:=⟨6,[],[],sL⟩
def wY:Cmd:=av (g0 Go.Proofs.Tryz.f116 [[0,4,5,6],[6],[]])
def vI:FD:=⟨3,[aX],[.cell 6 7 true],wY⟩
def wZ:Cmd:=av (g0 Go.Proofs.Tryz.f117 [[0,4,5,6],[6],[]])
def vJ:FD:=⟨3,[aX],[.cell 6 7 true],wZ⟩
def fL:dF:=[[0,1,2,3,6],[0,1,2,3,6,7],[0,1,2,3],[0,1,2,3,6,7],[6,1000,1001,1002,1003],[0,1,2,3,6,7,14],[0,1,2,3,6,7],[0,1,2,3,6,7],[0,6,1,6,0,7,1,7,6,12,7,12,8,12,10,12,11,12,6,15,7,15,8,15,10,15,11,15],[0,1,2,3,6,7],[0,25,3,25],[0,1,2,3,6,7],[0,1,2,3,8],[],[0,1,2,3,8],[1000,1001,1002,1003],[0,1,2,3,8,63],[0,1,2,3,8],[0,1,2,3,8,9],[0,1,2,3,8],[0,1,2,3,8,9],[1000,1001,1002,1003],[0,1,2,3,8,9,69],[0,1,2,3,8,9],[0,1,2,3,8,9],[0,33,3,33],[0,1,2,3,8,9],[0,1,2,3,8]]
def dj:Cmd:=av (g1 [] Go.Proofs.Tryz.f118 fL 1 [])
@[go_sem] def uD (a:Cmd):Cmd:=av (g1 [] Go.Proofs.Tryz.f118 fL 2 [a])
def eO:Cmd:=uD dj
def eP:Cmd:=av (g1 [] Go.Proofs.Tryz.f118 fL 3 [])
@[go_sem] def w9 (a b c:Cmd):Cmd:=av (g1 [] Go.Proofs.Tryz.f118 fL 0 [a,b,c])
def oF:Cmd:=w9 dj eO eP
def nI:FD:=⟨4,[],[],oF⟩
def lA:Cmd:=av (g0 Go.Proofs.Tryz.f119 [[2,3,4,6],[2,3,4,6,21],[6],[6]])
def kj:FD:=⟨3,[aX],[.cell 6 7 true],lA⟩
def v9:Cmd:=av (g0 Go.Proofs.Tryz.f120 [[1],[1,6],[2],[8],[2],[2]])
def qh:FD:=⟨1,[[]],[.t 2],v9⟩
def Cs:Cmd:=av (g0 Go.Proofs.Tryz.f121 [[1],[1,6],[2],[2],[2,4]])
def wd:FD:=⟨1,[[]],[.t 2],Cs⟩
def qY:Cmd:=av (g0 Go.Proofs.Tryz.f122 [[2,3,4],[2,3,4,11],[4],[2,3,4,16],[4],[2,3,4,5],[2,3,4,5,6,7],[6,8,6,10],[2,3,4,5,6,7,41],[4],[1,4],[2,3,4,5,6,7,52],[4],[1,4],[4],[1,4]])
def mh:FD:=⟨2,[aI],[.cell 4 3 true],qY⟩
def Ct:Cmd:=av (g0 Go.Proofs.Tryz.f123 [[1,2],[2]])
def we:FD:=⟨1,[aI],[.cell 2 3 true],Ct⟩
def aot:Cmd:=av (g0 Go.Proofs.Tryz.f124 [[1,2],[1,2,6],[2,3],[2,3]])
def aoh:FD:=⟨1,[aI,[]],[.cell 2 3 true,.t 3],aot⟩
def aor:Cmd:=av (g0 Go.Proofs.Tryz.f125 [[0],[2]])
def aog:FD:=⟨1,[[]],[.t 2],aor⟩
def Fj:Cmd:=av (g0 Go.Proofs.Tryz.f126 [[0,1,2,6],[0,1,2,6],[0,1,2,6,12],[6],[0,1,2,6,7],[6]])
def yg:FD:=⟨3,[aI],[.cell 6 3 true],Fj⟩
def gP:Cmd:=av (g0 Go.Proofs.Tryz.f127 [[1],[1,3],[2]])
def eL:FD:=⟨1,[[]],[.t 2],gP⟩
def rX:Cmd:=av (g0 Go.Proofs.Tryz.f128 [[1],[1,11],[2],[2],[2,4]])
def mJ:FD:=⟨1,[[]],[.t 2],rX⟩
def zC:dF:=[[0,1],[0,1],[0,1,14],[19],[4],[4],[0,1,5],[],[0,1,5],[],[0,1,5,24],[0,1,5],[0,1,5],[0,1,5,27],[],[4],[0,1,5,37],[],[4],[0,1,5],[4]]
def fC:Cmd:=av (g1 [] Go.Proofs.Tryz.f129 zC 1 [])
@[go_sem] def KR (a:Cmd):Cmd:=av (g1 [] Go.Proofs.Tryz.f129 zC 0 [a])
def By:Cmd:=KR fC
def lB:FD:=⟨2,[[]],[.t 4],By⟩
def xc:Cmd:=av (g0 Go.Proofs.Tryz.f130 [[0,1],[5],[4]])
def pP:FD:=⟨2,[[.o 2 []]],[.t 4],xc⟩
def ia:Cmd:=av (g0 Go.Proofs.Tryz.f131 [[1],[2]])
def eU:FD:=⟨1,[[]],[.t 2],ia⟩
def rY:Cmd:=av (g0 Go.Proofs.Tryz.f132 [[0,1],[4]])
def jL:FD:=⟨2,[[]],[.t 4],rY⟩
def th:Cmd:=av (g0 Go.Proofs.Tryz.f133 [[0],[2]])
def nJ:FD:=⟨1,[[]],[.t 2],th⟩
def zD:dF:=[[0],[0,3],[3,6,7,8],[3],[3,6,7,8],[],[3,6,7,8,9],[3,6,7,8],[3,5,6,7,8],[3,6,7,8],[3,6,7,8],[2]]
def mj:Cmd:=av (g1 [] Go.Proofs.Tryz.f134 zD 1 [])
@[go_sem] def KS (a:Cmd):Cmd:=av (g1 [] Go.Proofs.Tryz.f134 zD 0 [a])
def Bz:Cmd:=KS mj
def tj:FD:=⟨1,[[]],[.t 2],Bz⟩
def xd:Cmd:=av (g0 Go.Proofs.Tryz.f135 [[0,1],[0,1,5],[0,1,5,12],[4],[4]])
def qA:FD:=⟨2,[[]],[.t 4],xd⟩
def aom:Cmd:=av (g0 Go.Proofs.Tryz.f136 [[2,3,4],[2,3,4,24],[2,3,4,28],[2,4],[4,5],[2,3,4,6],[2,3,4,6,7,8],[1,2],[2,3,4,6,63],[4,5],[2,3,4,6,9,10],[6,8,6,10],[2,3,4,6,9,10,83],[2,4,6,11],[4,5],[2,3,4,6,9,10,101],[2,4,6,9,10],[2,4,6,13],[4,5]])
def anZ:FD:=⟨2,[aI,[]],[.cell 4 3 true,.t 5],aom⟩
def qL:Cmd:=av (g0 Go.Proofs.Tryz.f137 [[1],[2]])
def kX:FD:=⟨1,[[]],[.t 2],qL⟩
def zE:dF:=[[0,1],[0,1,10],[15],[4],[4],[0,1,5],[],[0,1,5],[],[0,1,5,20],[0,1,5],[0,1,5,31],[],[4],[0,1,5,40],[],[4],[0,1,5],[4]]
def dq:Cmd:=av (g1 [] Go.Proofs.Tryz.f139 zE 1 [])
@[go_sem] def KT (a:Cmd):Cmd:=av (g1 [] Go.Proofs.Tryz.f139 zE 0 [a])
def mK:Cmd:=KT dq
def pn:FD:=⟨2,[[]],[.t 4],mK⟩
def cu:Cmd:=av (g0 Go.Proofs.Tryz.f142 [[0,1,2],[0,1,2],[0,1,2,7],[0,1,2,7,16],[6],[0,1,2,7,8],[0,1,2,7,8,22],[6],[0,1,2,7,8,31],[0,1,2,7,9],[0,1,7,9],[9],[],[6],[0,1,2,7,8],[0,1,2,7,8,68],[0,1,2],[],[0],[7777777,200000],[6],[0,1,7],[0],[6]])
def aW:FD:=⟨3,[[]],[.t 6],cu⟩
def u9:Cmd:=av (g0 Go.Proofs.Tryz.f145 [[1,2,3,6],[1,2,3,6,8],[1,2,3,6,8,14],[6,7],[6,7],[1,3]])
def po:FD:=⟨3,[aI,[]],[.cell 6 3 true,.t 7],u9⟩
def GI:dF:=[[0],[0,3],[0,3,4],[3],[0,3,4],[],[0,3,4,8],[0,3,4],[0,3,4],[0,3,4],[2]]
def rZ:Cmd:=av (g1 [] Go.Proofs.Tryz.f146 GI 1 [])
@[go_sem] def Uw (a:Cmd):Cmd:=av (g1 [] Go.Proofs.Tryz.f146 GI 0 [a])
def Kj:Cmd:=Uw rZ
def AK:FD:=⟨1,[[]],[.t 2],Kj⟩
def qi:Cmd:=av (g0 Go.Proofs.Tryz.f148 [[2,3,4,5,8],[2,3,4,5,8,10],[2,3,4,5,8,10,19],[8,9],[2,3,4,5,8],[2,3,4,5,8,22],[8,9],[2,3,4,5,8,33],[8,9],[2,3,4,5,8,48],[1,2],[2,3,4,5,8],[2,3,4,8,11,12],[2,3,4,8,11,12,66],[8,9],[8,9]])
def jw:FD:=⟨4,[aI,[]],[.cell 8 3 true,.t 9],qi⟩
def BA:Cmd:=av (g0 Go.Proofs.Tryz.f149 [[0],[2]])
def tl:FD:=⟨1,[[]],[.t 2],BA⟩
def ve:Cmd:=av (g0 Go.Proofs.Tryz.f150 [[0,1],[0,1,9],[4,5],[4,5]])
def pp:FD:=⟨2,[[.o 2 []],[]],[.t 4,.t 5],ve⟩
def qM:Cmd:=av (g0 Go.Proofs.Tryz.f151 [[1,2],[1,2,6],[2,3],[2,3]])
def kY:FD:=⟨1,[aI,[]],[.cell 2 3 true,.t 3],qM⟩
def oG:Cmd:=av (g0 Go.Proofs.Tryz.f152 [[0,1,2,6],[0,1,2,6],[0,1,2,6,14],[6],[0,1,2,6,7],[0,2,6,7,8],[6]])
def jJ:FD:=⟨3,[aI],[.cell 6 3 true],oG⟩
def se:Cmd:=av (g0 Go.Proofs.Tryz.f153 [[1,2],[1,2,11],[2],[2],[1,5,5,7]])
def mL:FD:=⟨1,[aI],[.cell 2 3 true],se⟩
def qj:Cmd:=av (g0 Go.Proofs.Tryz.f154 [[2,3,4,5,8],[2,3,4,5,8,10],[2,3,4,5,8,10,19],[8,9],[2,3,4,5,8,31],[8,9],[2,3,4,5,8,11],[8,9]])
def lC:FD:=⟨4,[aI,[]],[.cell 8 3 true,.t 9],qj⟩
def tp:Cmd:=av (g0 Go.Proofs.Tryz.f155 [[1,2],[1,2,10],[2],[1,2,3],[2,3,5],[2]])
def nK:FD:=⟨1,[aX],[.cell 2 7 true],tp⟩
def pq:Cmd:=av (g0 Go.Proofs.Tryz.f156 [[1,2,3,4,8],[1,2,3,4,8,14],[8,10,11],[8,9],[1,2,4,8,28],[8,9],[8,9]])
def kl:FD:=⟨4,[aI,[]],[.cell 8 3 true,.t 9],pq⟩
def GJ:Cmd:=av (g0 Go.Proofs.Tryz.f157 [[0,1],[6,7],[4,5],[8,9],[4,5]])
def EM:FD:=⟨2,[[],[]],[.t 4,.t 5],GJ⟩
def aaJ:Cmd:=av (g0 Go.Proofs.Tryz.f158 [[1],[],[1,3],[2],[1,8],[2],[13],[2],[2]])
def jx:FD:=⟨1,[[]],[.t 2],aaJ⟩
def yi:Cmd:=av (g0 Go.Proofs.Tryz.f159 [[2,3,4,6],[6,7]])
def xe:FD:=⟨3,[aI,[]],[.cell 6 3 true,.t 7],yi⟩
def BB:Cmd:=av (g0 Go.Proofs.Tryz.f160 [[2,3,4,6],[6,7]])
def zF:FD:=⟨3,[aI,[]],[.cell 6 3 true,.t 7],BB⟩
def EN:dF:=[[0,1],[0,1,5],[0,1,5,6],[0,1,5,6,7],[5,6],[0,1,5,6,7],[11,34],[0,1,5,6,7,15],[0,1,5,6,7],[0,1,5,7,8],[0,1,5,7,8],[0,1,5,6,7],[0,1,5,6,7],[4]]
def qB:Cmd:=av (g1 [] Go.Proofs.Tryz.f161 EN 1 [])
@[go_sem] def SH (a:Cmd):Cmd:=av (g1 [] Go.Proofs.Tryz.f161 EN 0 [a])
def GK:Cmd:=SH qB
def yS:FD:=⟨2,[[.o 2 []]],[.t 4],GK⟩
def EO:dF:=[[0,1],[0,1,5],[0,1,5,6],[0,1,5,6,7],[5,6],[0,1,5,6,7],[49],[0,1,5,6,7,18],[0,1,5,6,7],[0,1,5,7,8],[0,1,5,7,8,25],[0,1,5,7,8],[0,1,5,7,8,36],[0,1,5,7,8],[0,1,5,7,8],[0,1,5,6,7],[0,1,5,6,7],[4]]
def cV:Cmd:=av (g1 [] Go.Proofs.Tryz.f162 EO 1 [])
@[go_sem] def SI (a:Cmd):Cmd:=av (g1 [] Go.Proofs.Tryz.f162 EO 0 [a])
def GL:Cmd:=SI cV
def yT:FD:=⟨2,[[.o 2 []]],[.t 4],GL⟩
def Cu:dF:=[[0,1],[0,1,5],[0,1,5,6],[0,1,5,6,7],[5],[0,1,5,6,7],[41],[0,1,5,6,7,13],[0,1,5,6,7],[0,1,5,7,8],[0,1,5,7,8,20],[0,1,5,7,8],[0,1,5,7,9],[0,1,5,7,9],[0,1,5,6,7],[0,1,5,6,7],[4]]
def dA:Cmd:=av (g1 [] Go.Proofs.Tryz.f163 Cu 1 [])
@[go_sem] def PF (a:Cmd):Cmd:=av (g1 [] Go.Proofs.Tryz.f163 Cu 0 [a])
def EP:Cmd:=PF dA
def xf:FD:=⟨2,[[.o 2 []]],[.t 4],EP⟩
def ER:dF:=[[0],[0,3],[0,3],[0,3],[],[0,3,15],[0,3],[0,3],[2]]
def BC:Cmd:=av (g1 [] Go.Proofs.Tryz.f164 ER 1 [])
@[go_sem] def SJ (a:Cmd):Cmd:=av (g1 [] Go.Proofs.Tryz.f164 ER 0 [a])
def GM:Cmd:=SJ BC
def yU:FD:=⟨1,[[.o 2 []]],[.t 2],GM⟩
def Cv:dF:=[[0],[0,3],[3],[0,3],[],[0,3,14],[0,3],[0,3],[2]]
def pt:Cmd:=av (g1 [] Go.Proofs.Tryz.f165 Cv 1 [])
@[go_sem] def PG (a:Cmd):Cmd:=av (g1 [] Go.Proofs.Tryz.f165 Cv 0 [a])
def ES:Cmd:=PG pt
def xg:FD:=⟨1,[[]],[.t 2],ES⟩
def Cw:dF:=[[0,1],[0,1,12],[4],[0,1],[0,1,5],[0,1,5,6],[5],[0,1,5,6],[51],[0,1,5,6,20],[0,1,5,6],[0,1,5,6,7],[0,1,5,6,7,32],[0,1,5,6,7],[0,1,5,6],[0,1,5,6],[4]]
def dB:Cmd:=av (g1 [] Go.Proofs.Tryz.f166 Cw 1 [])
@[go_sem] def PH (a:Cmd):Cmd:=av (g1 [] Go.Proofs.Tryz.f166 Cw 0 [a])
def yV:Cmd:=PH dB
def sf:FD:=⟨2,[[.o 2 []]],[.t 4],yV⟩
def yj:dF:=[[0],[0,3],[0,3],[0,3],[],[0,3,15],[0,3],[0,3],[2]]
def iL:Cmd:=av (g1 [] Go.Proofs.Tryz.f167 yj 1 [])
@[go_sem] def Io (a:Cmd):Cmd:=av (g1 [] Go.Proofs.Tryz.f167 yj 0 [a])
def zG:Cmd:=Io iL
def si:FD:=⟨1,[[.o 2 []]],[.t 2],zG⟩
def mM:Cmd:=av (g0 Go.Proofs.Tryz.f168 [[0,1],[0,1],[0,1,6],[4,5],[0,1,10],[4,5],[4,5]])
def jf:FD:=⟨2,[[.o 2 []],[]],[.t 4,.t 5],mM⟩
def lD:dF:=[[0,1],[0,1,7,8],[],[0,1,7,8],[],[0,1,7,8,9],[0,1,7,8],[0,1,5,7,8],[0,1,5,7,8,16],[4],[0,1,7,8],[4]]
def sj:Cmd:=av (g1 [] Go.Proofs.Tryz.f169 lD 1 [])
@[go_sem] def uE (a:Cmd):Cmd:=av (g1 [] Go.Proofs.Tryz.f169 lD 0 [a])
def uF:Cmd:=uE sj
def lE:FD:=⟨2,[[]],[.t 4],uF⟩
def kn:Cmd:=av (g0 Go.Proofs.Tryz.f170 [[0,1],[0,1,5],[0,1,5,6],[0,1,6,11],[12],[4],[4],[0,1,13],[4],[0,1,16],[4],[19],[4],[4]])
def gF:FD:=⟨2,[[]],[.t 4],kn⟩
def mN:dF:=[[0,1],[0,1,9,10,11],[0,1],[0,1,9,10,11],[],[0,1,9,10,11,12],[0,1,9,10,11],[0,1,5,6,9,10,11],[0,1,5,6,9,10,11,19],[4],[0,1,6,7,9,10,11],[0,1,8,9,10,11],[0,1,8,9,10,11,28],[4],[0,1,9,10,11],[35],[4],[4]]
def db:Cmd:=av (g1 [] Go.Proofs.Tryz.f171 mN 1 [])
@[go_sem] def wh (a:Cmd):Cmd:=av (g1 [] Go.Proofs.Tryz.f171 mN 0 [a])
def iX:Cmd:=wh db
def fq:FD:=⟨2,[[]],[.t 4],iX⟩
def vf:Cmd:=av (g0 Go.Proofs.Tryz.f172 [[0,1],[0,1,9],[4,5],[4,5]])
def pu:FD:=⟨2,[[.o 2 []],[]],[.t 4,.t 5],vf⟩
def qC:Cmd:=av (g0 Go.Proofs.Tryz.f173 [[0,1],[0,1],[0,1,6],[4,5],[0,1,11],[4,5],[4,5]])
def lF:FD:=⟨2,[[.o 2 []],[]],[.t 4,.t 5],qC⟩
def kL:Cmd:=av (g0 Go.Proofs.Tryz.f177 [[0],[0,4],[2],[2]])
def gb:FD:=⟨1,[[.o 2 []]],[.t 2],kL⟩
def zH:dF:=[[0,1],[0,7,8,9],[0],[0,7,8,9],[],[0,7,8,9,10],[0,7,8,9],[0,6,7,8,9],[0,7,8,9,15],[4],[0,7,8,9],[19],[4],[4]]
def jy:Cmd:=av (g1 [] Go.Proofs.Tryz.f178 zH 1 [])
@[go_sem] def KU (a:Cmd):Cmd:=av (g1 [] Go.Proofs.Tryz.f178 zH 0 [a])
def qD:Cmd:=KU jy
def lG:FD:=⟨2,[[]],[.t 4],qD⟩
def aeP:Cmd:=av (g0 Go.Proofs.Tryz.f179 [[0,2,3,5,8],[0,8,10,11],[8,10,11,25],[8,10,11],[8,9]])
def ko:FD:=⟨4,[aI,[]],[.cell 8 3 true,.t 9],aeP⟩
def GN:Cmd:=av (g0 Go.Proofs.Tryz.f180 [[1,2],[2]])
def yW:FD:=⟨1,[[.o 2 [],.o 0 [],.o 0 []]],[.cell 2 3 true],GN⟩
def ET:Cmd:=av (g0 Go.Proofs.Tryz.f181 [[2,3,4,6],[3,4,6,8],[1,3],[3,4,6,8,31],[1,2],[3,4,6,8],[3,4,6,8,9],[3,4,6,8,9],[3,4,6,8,9,11],[3,4,6,8,9,11,46],[3,4,6,8,9,10,11],[3,4,6,8,9,10,11],[6,8,9,10,11,68],[6,8,11,12],[6,7],[6,8,9,10,11,79],[6,8,9,10,11],[6,8,9,10,11,89],[6,8,14],[6,7],[6,8,11,16],[6,7]])
def lH:FD:=⟨3,[[.o 2 [],.o 0 [],.o 0 []],[]],[.cell 6 3 true,.t 7],ET⟩
def tq:Cmd:=av (g0 Go.Proofs.Tryz.f182 [[0],[0],[0,7],[2],[2]])
def nM:FD:=⟨1,[[]],[.t 2],tq⟩
def zJ:Cmd:=av (g0 Go.Proofs.Tryz.f183 [[0],[2]])
def sk:FD:=⟨1,[[]],[.t 2],zJ⟩
def tr:Cmd:=av (g0 Go.Proofs.Tryz.f184 [[0],[0],[0,8],[2,3],[2,3]])
def nN:FD:=⟨1,[[.o 2 []],[]],[.t 2,.t 3],tr⟩
def tu:dF:=[[0,1],[0,1,5],[1,5,18,19,20],[5],[1,5,18,19,20],[17],[1,5,18,19,20,21],[1,5,18,19,20],[1,5,6,7,18,19,20],[1,5,6,7,8,18,19,20],[1,5,6,7,8,18,19,20,25,26,27],[1,5,6,8,18,19,20],[1,5,6,7,8,18,19,20,25,26,27],[17],[1,5,6,7,8,18,19,20,25,26,27,28],[1,5,6,7,8,18,19,20,25,26,27],[1,5,6,7,8,9,10,18,19,20,25,26,27],[1,5,6,7,9,11,18,19,20,25,26,27],[1,5,6,7,8,18,19,20,25,26,27],[1,5,6,7,8,18,19,20,25,26,27],[1,5,18,19,20],[1,5,18,19,20],[4]]
def jz:Cmd:=av (g1 [] Go.Proofs.Tryz.f185 tu 1 [])
@[go_sem] def Fk (a:Cmd):Cmd:=av (g1 [] Go.Proofs.Tryz.f185 tu 2 [a])
def mn:Cmd:=Fk jz
@[go_sem] def KV (a b:Cmd):Cmd:=av (g1 [] Go.Proofs.Tryz.f185 tu 0 [a,b])
def BD:Cmd:=KV jz mn
def tv:FD:=⟨2,[[.o 2 []]],[.t 4],BD⟩
def vK:dF:=[[0],[0,3],[0,3],[0,3],[],[0,3,15],[0,3],[0,3],[2]]
def gG:Cmd:=av (g1 [] Go.Proofs.Tryz.f186 vK 1 [])
@[go_sem] def Fl (a:Cmd):Cmd:=av (g1 [] Go.Proofs.Tryz.f186 vK 0 [a])
def xi:Cmd:=Fl gG
def pR:FD:=⟨1,[[.o 2 []]],[.t 2],xi⟩
def BE:dF:=[[0],[0,3],[3,6,7,8],[3],[3,6,7,8],[],[3,6,7,8,9],[3,6,7,8],[3,5,6,7,8],[3,5,6,7,8,13],[2],[3,6,7,8],[3,6,7,8],[2]]
def nO:Cmd:=av (g1 [] Go.Proofs.Tryz.f187 BE 1 [])
@[go_sem] def MQ (a:Cmd):Cmd:=av (g1 [] Go.Proofs.Tryz.f187 BE 0 [a])
def Cx:Cmd:=MQ nO
def vg:FD:=⟨1,[[]],[.t 2],Cx⟩
def qE:Cmd:=av (g0 Go.Proofs.Tryz.f188 [[0,1],[0,1],[0,1,6],[4,5],[0,1,10],[4,5],[4,5]])
def lI:FD:=⟨2,[[.o 2 []],[]],[.t 4,.t 5],qE⟩
def lJ:Cmd:=av (g0 Go.Proofs.Tryz.f189 [[0],[2]])
def gy:FD:=⟨1,[[.o 2 []]],[.t 2],lJ⟩
def tw:Cmd:=av (g0 Go.Proofs.Tryz.f190 [[1,2],[1,2,7],[2,3],[1,2,11],[2,3],[2,3],[2,4]])
def nP:FD:=⟨1,[aI,[]],[.cell 2 3 true,.t 3],tw⟩
def zK:Cmd:=av (g0 Go.Proofs.Tryz.f191 [[1,2],[1,2,7],[2,3],[2,3],[2,4]])
def sn:FD:=⟨1,[aI,[]],[.cell 2 3 true,.t 3],zK⟩
def vL:dF:=[[1,2,3,4,5,10],[1,2,4,5,10,12,13],[1,2,4,5,10,12,13,14],[10,12,13],[1,2,4,5,10,12,13,14],[5,10,12],[1,2,4,5,10,12,13,14,28],[1,2,4,5,10,12,13,14],[1,2,4,5,10,12,13,14],[1,2,4,5,10,12,13,14],[10,11]]
def aL:Cmd:=av (g1 [] Go.Proofs.Tryz.f192 vL 1 [])
@[go_sem] def Fo (a:Cmd):Cmd:=av (g1 [] Go.Proofs.Tryz.f192 vL 0 [a])
def xj:Cmd:=Fo aL
def kZ:FD:=⟨5,[aI,[]],[.cell 10 3 true,.t 11],xj⟩
def Cy:Cmd:=av (g0 Go.Proofs.Tryz.f194 [[0,1],[0,1,6],[0,1,6,7],[0,1,6,7,8],[0,1,6,7,8,9],[0,1,6,7,8,9,10],[0,1,6,7,9,11],[0,1,6,7,9,11,12],[0,1,6,7,9,12,13],[0,1,7,9,12,13],[0,1,4],[4,5]])
def BF:FD:=⟨2,[[],[]],[.t 4,.t 5],Cy⟩
def qk:Cmd:=av (g0 Go.Proofs.Tryz.f195 [[2,3,4,5,8],[2,3,4,5,8,10],[2,3,4,5,8,10,21],[8,9],[2,3,4,5,8],[2,3,4,5,8,24],[8,9],[2,3,4,5,8,30],[8,9],[2,3,4,5,8,11],[3,5],[2,3,4,5,8,11,12,13],[3,5],[8,9],[1,14,3,14,7,14,11,14]])
def oH:FD:=⟨4,[aI,[]],[.cell 8 3 true,.t 9],qk⟩
def zL:dF:=[[0,1],[0,1],[0,1,5],[0,1,5,6],[1,5,6,21,22,23],[5,6],[1,5,6,21,22,23],[20,38],[1,5,6,21,22,23,24],[1,5,6,21,22,23],[1,5,6,8,21,22,23],[1,5,9,21,22,23],[1,5,6,21,22,23],[1,5,6,21,22,23],[4]]
def mo:Cmd:=av (g1 [] Go.Proofs.Tryz.f196 zL 1 [])
@[go_sem] def KW (a:Cmd):Cmd:=av (g1 [] Go.Proofs.Tryz.f196 zL 0 [a])
def BG:Cmd:=KW mo
def tC:FD:=⟨2,[[]],[.t 4],BG⟩
def xk:Cmd:=av (g0 Go.Proofs.Tryz.f197 [[0],[2]])
def pS:FD:=⟨1,[[]],[.t 2],xk⟩
def zM:dF:=[[0,1],[0,1,14],[0,1],[0,1,5],[0,1,5,6],[0,1,5,6,21,22,23],[0,5,6],[0,1,5,6,21,22,23],[20],[0,1,5,6,21,22,23,24],[0,1,5,6,21,22,23],[0,1,5,6,7,8,21,22,23],[0,1,5,6,7,8,9,21,22,23],[0,1,5,6,7,8,9,21,22,23,31],[0,1,5,6,7,8,9,21,22,23],[0,1,5,6,21,22,23],[0,1,5,6,21,22,23],[5],[4]]
def gQ:Cmd:=av (g1 [] Go.Proofs.Tryz.f198 zM 1 [])
@[go_sem] def KX (a:Cmd):Cmd:=av (g1 [] Go.Proofs.Tryz.f198 zM 0 [a])
def BH:Cmd:=KX gQ
def px:FD:=⟨2,[[.o 2 []]],[.t 4],BH⟩
def zN:dF:=[[0,1],[0,1],[0,1,5],[0,1,5,6],[1,5,6,17,18,19],[5],[1,5,6,17,18,19],[16],[1,5,6,17,18,19,20],[1,5,6,17,18,19],[1,5,6,7,8,17,18,19],[1,5,6,7,8,9,17,18,19],[1,5,6,7,8,9,17,18,19,27],[1,5,6,7,8,9,17,18,19],[1,5,6,17,18,19],[1,5,6,17,18,19],[4]]
def jA:Cmd:=av (g1 [] Go.Proofs.Tryz.f199 zN 1 [])
@[go_sem] def KY (a:Cmd):Cmd:=av (g1 [] Go.Proofs.Tryz.f199 zN 0 [a])
def BI:Cmd:=KY jA
def tD:FD:=⟨2,[[.o 2 []]],[.t 4],BI⟩
def so:Cmd:=av (g0 Go.Proofs.Tryz.f202 [[0],[2]])
def mq:FD:=⟨1,[[]],[.t 2],so⟩
def EU:Cmd:=av (g0 Go.Proofs.Tryz.f203 [[1,2,3,6],[1,2,3,6,8],[1,4],[1,2,3,6,8,10],[],[1,2,3,6,8,10,29],[1,2,6,8,9,10],[1,2,6,8,10,11,12],[1,2,6,8,9,10],[1,2,6,8,9,55],[1,2,6,8,9],[1,2,6,8,9,66],[1,6,67],[6,7],[1,6,9],[6,8,9],[6,7]])
def oI:FD:=⟨3,[aI,[]],[.cell 6 3 true,.t 7],EU⟩
def EV:Cmd:=av (g0 Go.Proofs.Tryz.f204 [[0,1],[5],[4]])
def xn:FD:=⟨2,[[.o 2 []]],[.t 4],EV⟩
def yX:Cmd:=av (g0 Go.Proofs.Tryz.f205 [[0,1],[0,1,11],[0,1],[0,1,6],[4,5]])
def sq:FD:=⟨2,[[.o 2 []],[]],[.t 4,.t 5],yX⟩
def Cz:Cmd:=av (g0 Go.Proofs.Tryz.f206 [[0,2],[0,2,4],[0],[0,2],[0,2,8],[0,2],[0,2],[2]])
def jR:FD:=⟨1,[[]],[.t 2],Cz⟩
def ns:Cmd:=av (g0 Go.Proofs.Tryz.f207 [[0,1],[4]])
def gr:FD:=⟨2,[[]],[.t 4],ns⟩
def xp:Cmd:=av (g0 Go.Proofs.Tryz.f208 [[0],[2]])
def pT:FD:=⟨1,[[]],[.t 2],xp⟩
def zO:dF:=[[0,1],[0,1],[0,1,15],[4],[0,1],[0,1,5],[0,1,5,23,24,25],[5],[0,1,5,23,24,25],[22],[0,1,5,23,24,25,26],[0,1,5,23,24,25],[0,1,5,6,7,23,24,25],[0,1,5,6,8,23,24,25],[0,1,5,6,8,23,24,25,36],[0,1,5,6,8,23,24,25],[0,1,5,23,24,25],[0,1,5,23,24,25],[4]]
def jB:Cmd:=av (g1 [] Go.Proofs.Tryz.f210 zO 1 [])
@[go_sem] def KZ (a:Cmd):Cmd:=av (g1 [] Go.Proofs.Tryz.f210 zO 0 [a])
def vj:Cmd:=KZ jB
def py:FD:=⟨2,[[.o 2 []]],[.t 4],vj⟩
def su:Cmd:=av (g0 Go.Proofs.Tryz.f211 [[1,2],[1,2,11],[2],[2],[2,4]])
def mO:FD:=⟨1,[aI],[.cell 2 3 true],su⟩
def vk:Cmd:=av (g0 Go.Proofs.Tryz.f212 [[1],[1,5],[2],[2]])
def pz:FD:=⟨1,[[]],[.t 2],vk⟩
def xq:Cmd:=av (g0 Go.Proofs.Tryz.f213 [[0,1],[0,1],[0,1,9],[4,5,6],[0,1,14],[4,5,6],[7,8],[4,5,6]])
def vM:FD:=⟨2,[[.o 2 []],[.o 2 []],[]],[.t 4,.t 5,.t 6],xq⟩
def CA:Cmd:=av (g0 Go.Proofs.Tryz.f214 [[0,1,2],[8],[6,8],[6,7]])
def vo:FD:=⟨3,[[],[]],[.t 6,.t 7],CA⟩
def CB:Cmd:=av (g0 Go.Proofs.Tryz.f215 [[0,1,2],[0,1,6],[6,7]])
def vz:FD:=⟨3,[[],[]],[.t 6,.t 7],CB⟩
def mP:Cmd:=av (g0 Go.Proofs.Tryz.f218 [[0,1,2,6],[0,1,2,6,15],[6,7],[6,7]])
def jg:FD:=⟨3,[aI,[]],[.cell 6 3 true,.t 7],mP⟩
def ib:dF:=[[0,1],[0,1,7,8],[],[0,1,7,8],[],[0,1,7,8,9],[0,1,7,8],[0,1,5,7,8],[0,1,5,7,8,16],[4],[0,1,7,8],[4]]
def nu:Cmd:=av (g1 [] Go.Proofs.Tryz.f219 ib 1 [])
@[go_sem] def pA (a:Cmd):Cmd:=av (g1 [] Go.Proofs.Tryz.f219 ib 0 [a])
def pB:Cmd:=pA nu
def ic:FD:=⟨2,[[]],[.t 4],pB⟩
def lg:dF:=[[0,1],[0,1],[0,1,25],[4,5],[0,1,30],[6,7],[4,5],[0,1,8],[0,8,9,10],[8,9,10],[0,8,9,10],[63,2408],[0,8,9,10,60],[0,8,9,10],[0,8,9,10],[8,9,10,11],[8,9,10,11,12],[8,9,10,11,12,13],[8,9,11,12],[8,9,10,11,12,13],[63,70,2408],[8,9,10,11,12,13,77],[8,9,10,11,12,13],[8,9,10,11,12,13,14],[],[8,9,10,11,12,13,14,120],[8,9,10,11,12,13,14],[8,9,10,11,12,13,14,15],[8,9,10,11,12,13,14,15,123,124,125],[8,9,10,11,12,13,14,15],[8,9,10,11,12,13,14,15,123,124,125],[63,70,2408],[8,9,10,11,12,13,14,15,123,124,125,126],[8,9,10,11,12,13,14,15,123,124,125],[8,9,10,11,12,13,14,15,16,17,123,124,125],[8,9,10,11,12,13,14,15,123,124,125],[8,9,10,11,12,13,14,15,123,124,125],[8,9,10,11,12,13,14],[8,9,10,11,12,13],[8,9,10,11,12,13],[4,5]]
def eW:Cmd:=av (g1 [] Go.Proofs.Tryz.f220 lg 1 [])
@[go_sem] def BP (a:Cmd):Cmd:=av (g1 [] Go.Proofs.Tryz.f220 lg 2 [a])
def gH:Cmd:=BP eW
def sM:Cmd:=av (g1 [] Go.Proofs.Tryz.f220 lg 3 [])
@[go_sem] def Fq (a b c:Cmd):Cmd:=av (g1 [] Go.Proofs.Tryz.f220 lg 0 [a,b,c])
def qN:Cmd:=Fq eW gH sM
def pU:FD:=⟨2,[[.o 2 []],[.o 2 []]],[.t 4,.t 5],qN⟩
def pW:Cmd:=av (g0 Go.Proofs.Tryz.f221 [[0],[2]])
def kq:FD:=⟨1,[[]],[.t 2],pW⟩
def xr:dF:=[[0,1],[0,1,6],[0,1,6,7],[0,1,6,7,8],[6,7],[0,1,6,7,8],[11],[0,1,6,7,8,16],[0,1,6,7,8],[0,1,6,7,8],[0,1,6,7,8],[4,5]]
def ie:Cmd:=av (g1 [] Go.Proofs.Tryz.f222 xr 1 [])
@[go_sem] def GO (a:Cmd):Cmd:=av (g1 [] Go.Proofs.Tryz.f222 xr 0 [a])
def yk:Cmd:=GO ie
def xt:FD:=⟨2,[[.o 2 []],[]],[.t 4,.t 5],yk⟩
def qZ:Cmd:=av (g0 Go.Proofs.Tryz.f223 [[0],[2]])
def qm:FD:=⟨1,[[]],[.t 2],qZ⟩
def sv:Cmd:=av (g0 Go.Proofs.Tryz.f224 [[0,1,2,3,4],[0,1,2,3,4,14],[10],[2,3,4,11],[10],[]])
def qO:FD:=⟨5,[[]],[.t 10],sv⟩
def ym:dF:=[[0,1,2],[0,1,2,7,8],[0,1,2,7,8,14,15,16],[0,1,7,8],[0,1,2,7,8,14,15,16],[1000],[0,1,2,7,8,14,15,16,17],[0,1,2,7,8,14,15,16],[0,1,2,7,8,9,10,14,15,16],[0,1,2,8,9,11,14,15,16],[0,1,2,7,8,9,11,14,15,16],[0,1,2,7,9,12,14,15,16],[0,1,2,7,8,14,15,16],[0,1,2,7,8,14,15,16],[0,1,13],[13],[6]]
def iM:Cmd:=av (g1 [] Go.Proofs.Tryz.f225 ym 1 [])
@[go_sem] def Ip (a:Cmd):Cmd:=av (g1 [] Go.Proofs.Tryz.f225 ym 0 [a])
def zP:Cmd:=Ip iM
def yn:FD:=⟨3,[[]],[.t 6],zP⟩
def CC:Cmd:=av (g0 Go.Proofs.Tryz.f226 [[0,1,2],[0,1,2,15],[0,1,2],[2,8],[6,7],[]])
def BJ:FD:=⟨3,[[],[]],[.t 6,.t 7],CC⟩
def xu:dF:=[[0,1,2,3,4],[0],[0,1,2,3,4],[],[0,1,2,3,4,24],[0,1,2,3,4],[0,1,2,3,4],[0,1,2,3,4],[10]]
def ed:Cmd:=av (g1 [] Go.Proofs.Tryz.f227 xu 1 [])
@[go_sem] def GQ (a:Cmd):Cmd:=av (g1 [] Go.Proofs.Tryz.f227 xu 0 [a])
def yp:Cmd:=GQ ed
def xv:FD:=⟨5,[[]],[.t 10],yp⟩
end
noncomputable def YB:List (Nat × FD):=[(5,anQ),
 (9,MM),
 (10,rJ),
 (11,ub),
 (12,o7),
 (13,dX),
 (14,mF),
 (15,jQ),
 (18,jo),
 (21,aoo),
 (22,pN),
 (23,gp),
 (24,dY),
 (26,an7),
 (27,anW),
 (32,anR),
 (34,qf),
 (35,dZ),
 (38,dQ),
 (40,pO),
 (41,jr),
 (42,KP),
 (44,j7),
 (46,rN),
 (47,j8),
 (48,WT),
 (49,wT),
 (50,fP),
 (51,rO),
 (52,qw),
 (53,mG),
 (54,s7),
 (55,pg),
 (56,ke),
 (57,ej),
 (58,yb),
 (59,uB),
 (60,pG),
 (61,l6),
 (64,gV),
 (65,mY),
 (66,an2),
 (67,aok),
 (68,aox),
 (69,eN),
 (70,jd),
 (71,iK),
 (72,eK),
 (73,l8),
 (74,l9),
 (75,iv),
 (76,aoq),
 (77,aos),
 (78,aoc),
 (79,kg),
 (82,wV),
 (83,anV),
 (84,ug),
 (88,kW),
 (89,ip),
 (90,uZ),
 (91,yQ),
 (92,js),
 (93,eC),
 (94,kE),
 (95,je),
 (98,qI),
 (99,s9),
 (100,fm),
 (101,qy),
 (102,ju),
 (103,nH),
 (104,qJ),
 (105,qK),
 (106,te),
 (107,SG),
 (108,gE),
 (109,dG),
 (110,lv),
 (111,jv),
 (112,fu),
 (113,oC),
 (114,nn),
 (115,rW),
 (116,vI),
 (117,vJ),
 (118,nI),
 (119,kj),
 (120,qh),
 (121,wd),
 (122,mh),
 (123,we),
 (124,aoh),
 (125,aog),
 (126,yg),
 (127,eL),
 (128,mJ),
 (129,lB),
 (130,pP),
 (131,eU),
 (132,jL),
 (133,nJ),
 (134,tj),
 (135,qA),
 (136,anZ),
 (137,kX),
 (139,pn),
 (142,aW),
 (145,po),
 (146,AK),
 (148,jw),
 (149,tl),
 (150,pp),
 (151,kY),
 (152,jJ),
 (153,mL),
 (154,lC),
 (155,nK),
 (156,kl),
 (157,EM),
 (158,jx),
 (159,xe),
 (160,zF),
 (161,yS),
 (162,yT),
 (163,xf),
 (164,yU),
 (165,xg),
 (166,sf),
 (167,si),
 (168,jf),
 (169,lE),
 (170,gF),
 (171,fq),
 (172,pu),
 (173,lF),
 (177,gb),
 (178,lG),
 (179,ko),
 (180,yW),
 (181,lH),
 (182,nM),
 (183,sk),
 (184,nN),
 (185,tv),
 (186,pR),
 (187,vg),
 (188,lI),
 (189,gy),
 (190,nP),
 (191,sn),
 (192,kZ),
 (194,BF),
 (195,oH),
 (196,tC),
 (197,pS),
 (198,px),
 (199,tD),
 (202,mq),
 (203,oI),
 (204,xn),
 (205,sq),
 (206,jR),
 (207,gr),
 (208,pT),
 (210,py),
 (211,mO),
 (212,pz),
 (213,vM),
 (214,vo),
 (215,vz),
 (218,jg),
 (219,ic),
 (220,pU),
 (221,kq),
 (222,xt),
 (223,qm),
 (224,qO),
 (225,yn),
 (226,BJ),
 (227,xv)]
def shL:List (Nat × List (List Sh)):=[(5,[[.o 0 [],.o 5 [.o 2 [],.o 0 [],.o 2 [],.o 0 []]],[.o 8 aX],[.o 2 []],[]]),
 (10,[[.o 0 [],.o 5 [.o 2 [],.o 0 [],.o 2 [],.o 0 []]]]),
 (11,[[.o 8 aX]]),
 (12,[[.o 0 [],.o 5 [.o 2 [],.o 0 [],.o 2 [],.o 0 []]],[.o 8 aX],[]]),
 (13,[[.o 0 [],.o 5 [.o 2 [],.o 0 [],.o 2 [],.o 0 []]],[.o 8 aX],[]]),
 (14,[[.o 0 [],.o 5 [.o 2 [],.o 0 [],.o 2 [],.o 0 []]],[.o 8 aX],[]]),
 (15,[[.o 0 [],.o 5 [.o 2 [],.o 0 [],.o 2 [],.o 0 []]],[.o 8 aX]]),
 (18,[aX]),
 (21,[aX,[]]),
 (22,[aI]),
 (23,[aI,aI]),
 (24,[aX,aX]),
 (26,[[.o 0 [],.o 5 [.o 2 [],.o 0 [],.o 2 [],.o 0 []]],[.o 4 aI]]),
 (27,[aX,aI]),
 (32,[[.o 4 aI],[]]),
 (34,[aI]),
 (35,[aI]),
 (38,[[.o 8 aX],[]]),
 (41,[[.o 0 [],.o 5 [.o 2 [],.o 0 [],.o 2 [],.o 0 []]]]),
 (42,[aX,aX]),
 (44,[aX,aX,[]]),
 (46,[aX,aX,[]]),
 (47,[aX,aX,[]]),
 (49,[aX,aX]),
 (50,[[.o 5 [.o 2 [],.o 0 [],.o 2 [],.o 0 []]],[]]),
 (51,[[.o 2 [],.o 0 [],.o 2 [],.o 0 []]]),
 (52,[aX]),
 (53,[[.o 0 [],.o 5 [.o 2 [],.o 0 [],.o 2 [],.o 0 []]],[.o 8 aX],[]]),
 (55,[aX,[],[]]),
 (56,[[.o 0 [],.o 5 [.o 2 [],.o 0 [],.o 2 [],.o 0 []]]]),
 (57,[aI,aI,aX,[]]),
 (58,[[.o 0 [],.o 5 [.o 2 [],.o 0 [],.o 2 [],.o 0 []]],[]]),
 (59,[[],[],aX]),
 (61,[aX,aX]),
 (64,[aI,aI]),
 (65,[aI]),
 (66,[aI,aI]),
 (67,[aI,aI]),
 (68,[aI,[]]),
 (69,[aI]),
 (70,[aI]),
 (71,[aI,aI]),
 (72,[aX]),
 (73,[aI,aI]),
 (74,[aI,aI]),
 (75,[[.o 0 [],.o 5 [.o 2 [],.o 0 [],.o 2 [],.o 0 []]]]),
 (76,[aI]),
 (77,[aI,aI,[]]),
 (78,[aI,aI]),
 (79,[[.o 0 [],.o 5 [.o 2 [],.o 0 [],.o 2 [],.o 0 []]],[.o 8 aX]]),
 (82,[aI,aI]),
 (83,[[.o 4 aI],[]]),
 (84,[[.o 2 []]]),
 (88,[[.o 8 aX]]),
 (90,[aI,[]]),
 (91,[aI,[]]),
 (92,[aI,[],aI,[]]),
 (93,[[.o 8 aX],[]]),
 (94,[[],[.o 2 [],.o 0 [],.o 2 [],.o 0 []]]),
 (95,[[.o 2 []],[.o 2 []]]),
 (98,[aI,aI,[]]),
 (99,[aI,aI,[]]),
 (100,[aI,aI]),
 (102,[[.o 2 []]]),
 (103,[aX]),
 (104,[aX,aX,[],[],[]]),
 (105,[aI,aI,[]]),
 (106,[aI,aI,[]]),
 (108,[[.o 5 [.o 2 [],.o 0 [],.o 2 [],.o 0 []]],[]]),
 (109,[aX,[],[]]),
 (110,[[.o 0 [],.o 5 [.o 2 [],.o 0 [],.o 2 [],.o 0 []]]]),
 (111,[[.o 2 []],[]]),
 (112,[[.o 8 aX],[]]),
 (116,[[],aX,aX]),
 (117,[[],aX,aX]),
 (119,[aX,aX,[]]),
 (120,[aI]),
 (121,[aI]),
 (122,[aI,aI]),
 (123,[aI]),
 (124,[aI]),
 (126,[[],[.o 2 []],[]]),
 (127,[aI]),
 (128,[aI]),
 (129,[[.o 2 []],[.o 2 []]]),
 (130,[[.o 2 []],[]]),
 (131,[aI]),
 (132,[[.o 2 []],[]]),
 (134,[[.o 2 []]]),
 (135,[[.o 2 []],[.o 2 []]]),
 (136,[aI,aI]),
 (137,[aX]),
 (139,[[.o 2 []],[.o 2 []]]),
 (142,[[],[],[.o 5 [.o 2 [],.o 0 [],.o 2 [],.o 0 []]]]),
 (145,[aI,[],[]]),
 (146,[[.o 2 []]]),
 (148,[aI,aI,[],[]]),
 (149,[[.o 2 []]]),
 (150,[[.o 2 []],[.o 2 []]]),
 (151,[aI]),
 (152,[[],[.o 2 []],[]]),
 (153,[aI]),
 (154,[aI,aI,[],[]]),
 (155,[aX]),
 (156,[aI,[],[],[]]),
 (158,[aX]),
 (159,[aI,aI,[]]),
 (160,[aI,aI,[]]),
 (161,[[.o 2 []],[]]),
 (162,[[.o 2 []],[.o 2 []]]),
 (163,[[.o 2 []],[.o 2 []]]),
 (164,[[.o 2 []]]),
 (165,[[.o 2 []]]),
 (166,[[.o 2 []],[]]),
 (167,[[.o 2 []]]),
 (168,[[.o 2 []],[]]),
 (169,[[.o 2 []],[]]),
 (171,[[.o 2 []],[.o 2 []]]),
 (172,[[.o 2 []],[.o 2 []]]),
 (173,[[.o 2 []],[.o 2 []]]),
 (176,[[.o 5 [.o 2 [],.o 0 [],.o 2 [],.o 0 []]],[]]),
 (177,[[.o 2 []]]),
 (178,[[],[.o 4 aI]]),
 (179,[[],[.o 2 [],.o 0 [],.o 0 []],[],[]]),
 (180,[aI]),
 (181,[aI,aI,[]]),
 (182,[[.o 2 []]]),
 (183,[[.o 2 [.o 2 []]]]),
 (184,[[.o 2 []]]),
 (185,[[.o 2 []],[.o 2 []]]),
 (186,[[.o 2 []]]),
 (187,[[.o 2 []]]),
 (188,[[.o 2 []],[]]),
 (189,[[.o 2 []]]),
 (190,[aX]),
 (191,[aX]),
 (192,[aI,[],[],[],[]]),
 (195,[aI,aI,[],[]]),
 (196,[[.o 2 []],[]]),
 (198,[[.o 2 []],[.o 2 []]]),
 (199,[[.o 2 []],[.o 2 []]]),
 (203,[[.o 2 [],.o 0 [],.o 0 []],[],[]]),
 (204,[[.o 2 []],[]]),
 (205,[[.o 2 []],[]]),
 (207,[[.o 2 [.o 2 []]],[]]),
 (208,[[.o 2 []]]),
 (210,[[.o 2 []],[]]),
 (211,[aI]),
 (212,[aI]),
 (213,[[.o 2 []],[.o 2 []]]),
 (218,[[],[.o 2 []],[]]),
 (219,[[.o 2 [.o 2 []]],[]]),
 (220,[[.o 2 []],[.o 2 []]]),
 (222,[[.o 2 []],[]]),
 (225,[[.o 2 []],[.o 2 []],[]])]
def mdL:List (Nat × List Nat):=[(142,[2,0,0]),(175,[0,1]),(225,[1,0,0])]
def keepL:List Nat:=[33,113,116,117]
def aa:List Nat→Nat
 | []=>0
 | x::l=>x+4294967296*aa l
def Lb (m:List Nat):Prop:=∀ x ∈ m,x < 4294967296
def cB:Nat→Nat→List Nat
 | 0,_=>[]
 | k+1,n=>n % 4294967296::cB k (n / 4294967296)
def ao (n:Nat):List Nat:=if h:n=0 then [] else n % 4294967296::ao (n / 4294967296)
termination_by n
decreasing_by omega
theorem ef:ao 0=[]:=by grind [ao]
theorem mZ {n:Nat} (h:n ≠ 0):ao n=n % 4294967296::ao (n / 4294967296):=by rw [ao,dif_neg h]
theorem gR {n:Nat}:ao n=[]↔n=0:=by
 grind [mZ,ef]
theorem aK (n:Nat):aa (ao n)=n:=by
 induction n using Nat.strongRecOn with
 | ind n ih =>
  grind [ef,mZ,aa]
theorem aO (n:Nat):Lb (ao n):=by
 induction n using Nat.strongRecOn with
 | ind n ih =>
  by_cases h:n=0
  ·subst h; rw [ef]; intro x hx; grind
  ·rw [mZ h];intro x hx;rcases List.mem_cons.1 hx with rfl | hx
   ·omega
   ·exact ih _ (by omega) x hx
theorem CD:Lb []:=fun x hx=>by grind
theorem fH {x:Nat} {l:List Nat}:Lb (x::l)↔x < 4294967296∧Lb l:=by
 constructor
 ·intro h; exact ⟨h x (by simp),fun y hy=>h y (by grind)⟩
 ·rintro ⟨h1,h2⟩ y hy
  rcases List.mem_cons.1 hy with rfl | hy
  ·omega
  ·exact h2 y hy
theorem i8 {l r:List Nat}:Lb (l++r)↔Lb l∧Lb r:=by
 constructor
 ·intro h; exact ⟨fun x hx=>h x (by grind),fun x hx=>h x (by grind)⟩
 ·rintro ⟨h1,h2⟩ x hx
  rcases List.mem_append.1 hx with hx | hx
  ·exact h1 x hx
  ·exact h2 x hx
theorem dC {l:List Nat} (h:Lb l) (n:Nat):Lb (l.take n):=fun x hx=>h x (List.mem_of_mem_take hx)
theorem jh {l:List Nat} (h:Lb l) (n:Nat):Lb (l.drop n):=fun x hx=>h x (List.mem_of_mem_drop hx)
theorem bt {l:List Nat} (h:Lb l) (i:Nat):l.getD i 0 < 4294967296:=by
 rw [List.getD_eq_getElem?_getD];cases hq:l[i]? with
 | none=>simp
 | some x=>exact h x (List.mem_of_getElem? hq)
theorem cO (l r:List Nat):aa (l++r)=aa l+4294967296 ^ l.length*aa r:=by
 induction l with
 | nil=>simp [aa]
 | cons x l ih =>
  simp only [List.cons_append,aa,ih,List.length_cons,Nat.pow_succ,Nat.mul_add];grind
theorem bR {l:List Nat} (h:Lb l):aa l < 4294967296 ^ l.length:=by
 induction l with
 | nil=>simp [aa]
 | cons x l ih =>
  obtain ⟨h1,h2⟩:=fH.1 h;grind [aa,List.length_cons,Nat.pow_succ]
theorem bK (k n:Nat):(cB k n).length=k:=by
 induction k generalizing n with
 | zero=>rfl
 | succ k ih=>grind [cB]
theorem jS (k n:Nat):Lb (cB k n):=by
 induction k generalizing n with
 | zero=>exact CD
 | succ k ih=>exact fH.2 ⟨by omega,ih _⟩
theorem iw (k n:Nat):aa (cB k n)=n % 4294967296 ^ k:=by
 induction k generalizing n with
 | zero=>simp [cB,aa,Nat.mod_one]
 | succ k ih =>
  rw [cB,aa,ih,Nat.pow_succ,Nat.mul_comm (4294967296 ^ k),Nat.mod_mul]
theorem AL {l:List Nat} (h:Lb l):cB l.length (aa l)=l:=by
 induction l with
 | nil=>rfl
 | cons x l ih =>
  obtain ⟨h1,h2⟩:=fH.1 h;grind [List.length_cons,cB,aa]
theorem Kk (n:Nat):aa (List.replicate n 0)=0:=by
 induction n with
 | zero=>rfl
 | succ n ih=>simp [List.replicate_succ,aa,ih]
def i9 (m:List Nat):Nat→Nat
 | 0=>0
 | n+1=>if m.getD n 0=0 then i9 m n else n+1
theorem uG (m:List Nat):∀ n,i9 m n≤n
 | 0=>Nat.le_refl _
 | n+1=>by
  unfold i9;have:=uG m n;split <;> omega
theorem Ql (m:List Nat):∀ n,i9 m n=0∨m.getD (i9 m n - 1) 0 ≠ 0
 | 0=>.inl rfl
 | n+1=>by
  unfold i9;split
  ·exact Ql m n
  ·rename_i h;exact .inr h
theorem MR (m:List Nat):∀ n i,i9 m n≤i→i < n→m.getD i 0=0
 | 0,i,_,h=>by omega
 | n+1,i,h1,h2=>by
  unfold i9 at h1;split at h1
  ·rename_i h;by_cases e:i=n
   ·rw [e]; exact h
   ·exact MR m n i h1 (by omega)
  ·omega
def ui (m:List Nat):Prop:=m=[]∨m.getD (m.length - 1) 0 ≠ 0
theorem tE (x:Nat) (l:List Nat) (i:Nat):(x::l).getD (i+1) 0=l.getD i 0:=by grind
theorem GR {x:Nat} {l:List Nat} (h:ui (x::l)):ui l:=by
 rcases h with h | h
 ·grind
 ·cases l with
  | nil=>exact .inl rfl
  | cons y l =>
   refine .inr ?_;grind
theorem CE {l:List Nat} (h:ui l) (hne:l ≠ []):aa l ≠ 0:=by
 induction l with
 | nil=>grind
 | cons x l ih =>
  cases l with
  | nil =>
   rcases h with h | h
   all_goals grind [aa]
  | cons y l =>
   grind [GR,aa]
theorem tF {l:List Nat} (h1:Lb l) (h2:ui l):ao (aa l)=l:=by
 induction l with
 | nil=>exact ef
 | cons x l ih =>
  obtain ⟨h3,h4⟩:=fH.1 h1;grind [mZ,CE,aa,GR]
theorem CF (n:Nat):ui (ao n):=by
 induction n using Nat.strongRecOn with
 | ind n ih =>
  by_cases h:n=0
  ·subst h; rw [ef]; exact .inl rfl
  ·refine .inr ?_;rcases ih (n / 4294967296) (by omega) with h2 | h2
   all_goals grind [ao,List.length_cons,Nat.add_sub_cancel,tE]
theorem MS (m:List Nat):aa (m.take (i9 m m.length))=aa m:=by
 have h:m=m.take (i9 m m.length)++m.drop (i9 m m.length):=(List.take_append_drop _ _).symm;have hz:m.drop (i9 m m.length)=List.replicate (m.length - i9 m m.length) 0:=by
  rw [List.eq_replicate_iff];refine ⟨by simp,fun x hx=>?_⟩;obtain ⟨i,hi⟩:=List.getElem?_of_mem hx;rw [List.getElem?_drop] at hi;have hl:=(List.getElem?_eq_some_iff.1 hi).1;have:=MR m m.length (i9 m m.length+i) (by omega) hl;grind
 grind [cO,Kk]
theorem Iq (m:List Nat):ui (m.take (i9 m m.length)):=by
 rcases Ql m m.length with h | h
 ·rw [h]; exact .inl rfl
 ·by_cases h0:i9 m m.length=0
  ·rw [h0]; exact .inl rfl
  ·refine .inr ?_;grind
theorem Fr {m:List Nat} (h:Lb m):m.take (i9 m m.length)=ao (aa m):=by
 rw [← tF (dC h _) (Iq m),MS]
theorem gu {n k:Nat} (h:n < 4294967296 ^ k):(ao n).length≤k:=by
 induction k generalizing n with
 | zero =>
  grind [ef]
 | succ k ih =>
  grind [mZ,List.length_cons,Nat.pow_succ,Nat.div_lt_of_lt_mul,Nat.mul_comm]
theorem du (n:Nat):n < 4294967296 ^ (ao n).length:=by
 grind [bR,aO,aK]
theorem Kl {n:Nat} (h:n ≠ 0):4294967296 ^ ((ao n).length - 1)≤n:=by
 induction n using Nat.strongRecOn with
 | ind n ih =>
  grind [ao,Nat.succ_pred_eq_of_pos,Nat.add_sub_cancel,Nat.pow_succ]
def tz (n:Nat):Nat:=if h:n=0 then 0 else if n % 2=1 then 0 else tz (n / 2)+1
termination_by n
decreasing_by omega
theorem zQ {n:Nat} (h:n % 2=1):tz n=0:=by
 rw [tz,dif_neg (by omega),if_pos h]
theorem MT {n:Nat} (h:n ≠ 0):tz (2*n)=tz n+1:=by
 rw [tz,dif_neg (by omega),if_neg (by omega),Nat.mul_div_cancel_left n (by decide)]
theorem GT {n:Nat} (k:Nat) (h:n ≠ 0):tz (2 ^ k*n)=k+tz n:=by
 induction k with
 | zero=>rw [Nat.pow_zero,Nat.one_mul,Nat.zero_add]
 | succ k ih =>
  grind [Nat.pow_succ,Nat.mul_comm,Nat.mul_assoc,MT,Nat.mul_ne_zero,Nat.ne_of_gt,Nat.two_pow_pos]
theorem tG {n:Nat} (h:n ≠ 0):n=2 ^ tz n*(n / 2 ^ tz n)∧n / 2 ^ tz n % 2=1:=by
 induction n using Nat.strongRecOn with
 | ind n ih =>
  by_cases h1:n % 2=1
  ·simp_all [zQ,Nat.pow_zero,Nat.div_one,Nat.one_mul]
  ·have hn:n=2*(n / 2):=by omega
   grind [tz,Nat.pow_succ,Nat.mul_comm,Nat.div_div_eq_div_mul,Nat.mul_assoc]
theorem aba {x k:Nat} (y:Nat) (h:x ≠ 0) (hx:x < 2 ^ k):tz (x+2 ^ k*y)=tz x:=by
 obtain ⟨e1,e2⟩:=tG h;generalize x / 2 ^ tz x=q at e1 e2;have hle:2 ^ tz x≤x:=by
  conv=>rhs; rw [e1]
  exact Nat.le_mul_of_pos_right _ (by omega)
 have hk:tz x < k:=(Nat.pow_lt_pow_iff_right (by decide:1 < 2)).1 (Nat.lt_of_le_of_lt hle hx);generalize hz:2 ^ (k - tz x - 1)*y=z;have e3:x+2 ^ k*y=2 ^ tz x*(q+2*z):=by
  have e4:2 ^ k=2 ^ tz x*(2*2 ^ (k - tz x - 1)):=by
   rw [← Nat.pow_succ',← Nat.pow_add];grind
  grind
 have e5:(q+2*z) % 2=1:=by omega
 rw [e3,GT _ (by omega),zQ e5,Nat.add_zero]
theorem LA {x k:Nat} (h:x ≠ 0) (hx:x < 2 ^ k):tz x < k:=by
 obtain ⟨e1,e2⟩:=tG h;generalize x / 2 ^ tz x=q at e1 e2;have hle:2 ^ tz x≤x:=by
  conv=>rhs; rw [e1]
  exact Nat.le_mul_of_pos_right _ (by omega)
 exact (Nat.pow_lt_pow_iff_right (by decide:1 < 2)).1 (Nat.lt_of_le_of_lt hle hx)
def Km:Nat→Nat→Nat
 | 0,_=>0
 | k+1,n=>if n % 2=1 then 0 else Km k (n / 2)+1
theorem abb:∀ (k x:Nat),x ≠ 0→x < 2 ^ k→Km k x=tz x:=by
 intro k;induction k with
 | zero=>omega
 | succ k ih =>
  intro x h0 h1;unfold Km;by_cases h:x % 2=1
  ·rw [if_pos h,zQ h]
  ·have:=MT (n:=x / 2) (by omega);grind
def YC (zas:List AV) (hs:List Ob):Option (AV × List Ob):=match zas with
 | [.v (.int .u32 n)]=>if 0 < n∧n < 4294967296∧hs=[] then some (.v (.int .i64 (Km 32 n.toNat:Nat)),[]) else none
 | _=>none
def Qm (k:Nat) (zas:List AV) (hs:List Ob):Option (AV × List Ob):=match zas,hs with
 | [.sl k0 (_::_),.rsl 1000 none k1 _ _],[.ar k2 rows]=>if k0=k∧k1=k∧k2=k then some (B false,[.ar k2 rows]) else none
 | _,_=>none
def clF (zas:List AV) (hs:List Ob):Option (AV × List Ob):=match zas,hs with
 | [.sl 1 []],[]=>some (.sl 1 [],[])
 | [.sl 1 (r::rs)],[]=>if (rs.length+1)*8≤140737488355328 then some (.osl 1 (r::rs),[]) else none
 | _,_=>none
def WU (k bytes:Nat) (zas:List AV) (hs:List Ob):Option (AV × List Ob):=match zas,hs with
 | [.emp,.v (.int .i64 0),.sl k0 [r]],[]=>if k0=k then some (.osl k [r],[]) else none
 | [.rsl 1000 none k1 0 n,.v (.int .i64 i),.sl k0 [r]],[.ar k2 rows] =>
  if k0=k∧k1=k∧k2=k∧n=rows.length∧0≤i∧i≤n∧(n+1)*bytes≤140737488355328 then some (.osl k (rows.take i.toNat++r::rows.drop i.toNat),[.dead]) else none
 | _,_=>none
def LB:List (Nat × (List AV→List Ob→Option (AV × List Ob))):=[(F.bits_TrailingZeros32,YC),(F.slices_overlaps_api_Term_,Qm 4)]
def abd:List (Nat × (List AV→List Ob→Option (AV × List Ob))):=(F.slices_Clone_int_int_,clF)::(F.slices_Insert_api_Term_api_Term_,WU 4 64)::LB
noncomputable def dK:Env:=⟨fun f=>abd.lookup f,fun f=>YB.lookup f,⟨fun f=>(mdL.lookup f).getD [],fun f=>(shL.lookup f).getD [],fun f=>keepL.contains f,false⟩⟩
noncomputable def aG (b:Bool):Mode:={ dK.md with nm:=b }
noncomputable def R:dP:=dO dK
theorem GU {f:FuncId} {fd:FD} {args:List AV} {hs:List Ob} {r:AV × List Ob} (b:Bool) (hE:dK.E f=none) (hC:dK.C f=some fd) (hk:dK.md.keep f=b) (h1:args.length=fd.np) (h2:hs.length≤1000)
  (hz:gx b fd.rs fd.res hs.length (ak R (aG b) fd.body (n8 args) (aj hs))=some r):R f args hs=some r:=by
 refine Co hE hC ?_;unfold MH;rw [if_pos ⟨h1,h2⟩];subst hk;exact hz
@[go_sem] theorem amr (b:Bool):(aG b).nm=b:=_root_.id rfl
abbrev YD (f:FuncId):Prop:=∀ (b:Bool) (h:ac) (d:Nat) (zas:List AV),bE R (aG b) h d zas (.fn f [] [])=(bZ h [] zas).bind (AE R (aG b) d f)
abbrev YE (f:FuncId) (l:List (List Sh)):Prop:=∀ b:Bool,(aG b).sh f=l
abbrev YF (f:FuncId) (l:List Nat):Prop:=∀ b:Bool,(aG b).m f=l
abbrev YG (f:FuncId) (l:Bool):Prop:=∀ b:Bool,(aG b).keep f=l
theorem ahB {f:FuncId} {l:List (List Sh)} (h:dK.md.sh f=l):YE f l:=fun _=>h
theorem ahC {f:FuncId} {l:List Nat} (h:dK.md.m f=l):YF f l:=fun _=>h
theorem ahD {f:FuncId} {l:Bool} (h:dK.md.keep f=l):YG f l:=fun _=>h
theorem WV {f:FuncId} (hm:∀ b,(aG b).m f=[]):YD f:=fun b _ d _=>AF d (hm b)
abbrev QL (f:FuncId) (l:List (List Sh)):Prop:=YE f l∧YF f []∧YD f∧YG f false
abbrev QE (f:FuncId) (l:List (List Sh)) (fd:FD):Prop:=QL f l∧dK.E f=none∧dK.C f=some fd
theorem ql {f:FuncId} {l:List (List Sh)} (h:(dK.md.sh f,dK.md.m f,dK.md.keep f)=(l,[],false)):QL f l:=by
 simp only [Prod.mk.injEq] at h;exact ⟨fun _=>h.1,fun _=>h.2.1,WV fun _=>h.2.1,fun _=>h.2.2⟩
theorem qe {f:FuncId} {l:List (List Sh)} {fd:FD} (h:(dK.md.sh f,dK.md.m f,dK.md.keep f,dK.E f,dK.C f)=(l,[],false,none,some fd)):QE f l fd:=by
 simp only [Prod.mk.injEq] at h;exact ⟨⟨fun _=>h.1,fun _=>h.2.1,WV fun _=>h.2.1,fun _=>h.2.2.1⟩,h.2.2.2⟩
@[go_sem] theorem aoE:QE F.l24_BoundContains [[.o 0 [],.o 5 [.o 2 [],.o 0 [],.o 2 [],.o 0 []]],[.o 8 aX],[.o 2 []],[]] anQ:=qe (by kernel_rfl)
@[go_sem] theorem anU:QL F.l24_awake []:=ql (by kernel_rfl)
@[go_sem] theorem Ux:QE F.l24_few [[.o 0 [],.o 5 [.o 2 [],.o 0 [],.o 2 [],.o 0 []]]] rJ:=qe (by kernel_rfl)
@[go_sem] theorem SK:QE F.l24_near [[.o 8 aX]] ub:=qe (by kernel_rfl)
@[go_sem] theorem K0:QE F.bound_Naive [[.o 0 [],.o 5 [.o 2 [],.o 0 [],.o 2 [],.o 0 []]],[.o 8 aX],[]] o7:=qe (by kernel_rfl)
@[go_sem] theorem go:QE F.bound_Bernstein [[.o 0 [],.o 5 [.o 2 [],.o 0 [],.o 2 [],.o 0 []]],[.o 8 aX],[]] dX:=qe (by kernel_rfl)
@[go_sem] theorem MU:QE F.bound_Best [[.o 0 [],.o 5 [.o 2 [],.o 0 [],.o 2 [],.o 0 []]],[.o 8 aX],[]] mF:=qe (by kernel_rfl)
@[go_sem] theorem MV:QE F.r24_Domain [[.o 0 [],.o 5 [.o 2 [],.o 0 [],.o 2 [],.o 0 []]],[.o 8 aX]] jQ:=qe (by kernel_rfl)
@[go_sem] theorem PI:QE F.r05_Valid [aX] jo:=qe (by kernel_rfl)
@[go_sem] theorem aoW:QE F.l24_between [aX,[]] aoo:=qe (by kernel_rfl)
@[go_sem] theorem Ft:QE F.interval_Point [aI] pN:=qe (by kernel_rfl)
@[go_sem] theorem MW:QE F.dyadic_Cmp [aI,aI] gp:=qe (by kernel_rfl)
@[go_sem] theorem GV:QE F.interval_Meet [aX,aX] dY:=qe (by kernel_rfl)
@[go_sem] theorem apc:QE F.poly_Eval [[.o 0 [],.o 5 [.o 2 [],.o 0 [],.o 2 [],.o 0 []]],[.o 4 aI]] an7:=qe (by kernel_rfl)
@[go_sem] theorem aoQ:QE F.interval_Has [aX,aI] anW:=qe (by kernel_rfl)
@[go_sem] theorem anP:QE F.slices_ContainsFunc_api_Dyadic_api_Dyadic_ [[.o 4 aI],[]] anR:=qe (by kernel_rfl)
@[go_sem] theorem SM:QE F.l24_long [aI] qf:=qe (by kernel_rfl)
@[go_sem] theorem PK:QE F.r02_Valid [aI] dZ:=qe (by kernel_rfl)
@[go_sem] theorem bc:QE F.slices_ContainsFunc_api_Interval_api_Interval_ [[.o 8 aX],[]] dQ:=qe (by kernel_rfl)
@[go_sem] theorem Fu:QE F.interval_Whole [] pO:=qe (by kernel_rfl)
@[go_sem] theorem PL:QE F.r23_Valid [[.o 0 [],.o 5 [.o 2 [],.o 0 [],.o 2 [],.o 0 []]]] jr:=qe (by kernel_rfl)
@[go_sem] theorem Ir:QE F.interval_Add [aX,aX,[]] j7:=qe (by kernel_rfl)
@[go_sem] theorem Is:QE F.interval_Sub [aX,aX,[]] rN:=qe (by kernel_rfl)
@[go_sem] theorem It:QE F.interval_Mul [aX,aX,[]] j8:=qe (by kernel_rfl)
@[go_sem] theorem dt:QE F.slices_ContainsFunc_api_Term_api_Term_ [[.o 5 [.o 2 [],.o 0 [],.o 2 [],.o 0 []]],[]] fP:=qe (by kernel_rfl)
@[go_sem] theorem EW:QE F.l24_few_1 [[.o 2 [],.o 0 [],.o 2 [],.o 0 []]] rO:=qe (by kernel_rfl)
@[go_sem] theorem CG:QE F.l24_near_1 [aX] qw:=qe (by kernel_rfl)
@[go_sem] theorem MX:QE F.bound_fits [[.o 0 [],.o 5 [.o 2 [],.o 0 [],.o 2 [],.o 0 []]],[.o 8 aX],[]] mG:=qe (by kernel_rfl)
@[go_sem] theorem K1:QE F.bound_whole [] s7:=qe (by kernel_rfl)
@[go_sem] theorem K2:QE F.bound_power [aX,[],[]] pg:=qe (by kernel_rfl)
@[go_sem] theorem Iu:QE F.bound_Linear [[.o 0 [],.o 5 [.o 2 [],.o 0 [],.o 2 [],.o 0 []]]] ke:=qe (by kernel_rfl)
@[go_sem] theorem MY:QE F.bound_line [aI,aI,aX,[]] ej:=qe (by kernel_rfl)
@[go_sem] theorem Iv:QE F.bound_gridOf [[.o 0 [],.o 5 [.o 2 [],.o 0 [],.o 2 [],.o 0 []]],[]] yb:=qe (by kernel_rfl)
@[go_sem] theorem iN:QE F.bound_grid_unit [[],[],aX] uB:=qe (by kernel_rfl)
@[go_sem] theorem fk:QE F.bound_grid_bernstein [] pG:=qe (by kernel_rfl)
@[go_sem] theorem GW:QE F.interval_Hull [aX,aX] l6:=qe (by kernel_rfl)
@[go_sem] theorem Uy:QE F.r02_Cmp [aI,aI] gV:=qe (by kernel_rfl)
@[go_sem] theorem SO:QE F.r05_zero [aI] mY:=qe (by kernel_rfl)
@[go_sem] theorem aoK:QE F.l24_between_1 [aI,aI] an2:=qe (by kernel_rfl)
@[go_sem] theorem apt:QE F.r02_Add [aI,aI] aok:=qe (by kernel_rfl)
@[go_sem] theorem apd:QE F.r02_Scale [aI,[]] aox:=qe (by kernel_rfl)
@[go_sem] theorem Iw:QE F.dyadic_Valid [aI] eN:=qe (by kernel_rfl)
@[go_sem] theorem K3:QE F.dyadic_Sign [aI] jd:=qe (by kernel_rfl)
@[go_sem] theorem Fv:QE F.dyadic_compare [aI,aI] iK:=qe (by kernel_rfl)
@[go_sem] theorem Fw:QE F.interval_Valid [aX] eK:=qe (by kernel_rfl)
@[go_sem] theorem GX:QE F.interval_more [aI,aI] l8:=qe (by kernel_rfl)
@[go_sem] theorem GY:QE F.interval_less [aI,aI] l9:=qe (by kernel_rfl)
@[go_sem] theorem MZ:QE F.poly_Valid [[.o 0 [],.o 5 [.o 2 [],.o 0 [],.o 2 [],.o 0 []]]] iv:=qe (by kernel_rfl)
@[go_sem] theorem aou:QE F.poly_Eval_1 [aI] aoq:=qe (by kernel_rfl)
@[go_sem] theorem aoZ:QE F.poly_times [aI,aI,[]] aos:=qe (by kernel_rfl)
@[go_sem] theorem ao0:QE F.dyadic_Add [aI,aI] aoc:=qe (by kernel_rfl)
@[go_sem] theorem Ix:QE F.bound_domain [[.o 0 [],.o 5 [.o 2 [],.o 0 [],.o 2 [],.o 0 []]],[.o 8 aX]] kg:=qe (by kernel_rfl)
@[go_sem] theorem anK:QE F.slices_IndexFunc_api_Dyadic_api_Dyadic_ [[.o 4 aI],[]] anV:=qe (by kernel_rfl)
@[go_sem] theorem SP:QE F.r02_bits [[.o 2 []]] ug:=qe (by kernel_rfl)
@[go_sem] theorem Fx:QE F.interval_known [[.o 8 aX]] kW:=qe (by kernel_rfl)
@[go_sem] theorem AM:QE F.interval_permitted [] ip:=qe (by kernel_rfl)
@[go_sem] theorem M0:QE F.round_Down [aI,[]] uZ:=qe (by kernel_rfl)
@[go_sem] theorem SQ:QE F.round_Up [aI,[]] yQ:=qe (by kernel_rfl)
@[go_sem] theorem GZ:QE F.interval_made [aI,[],aI,[]] js:=qe (by kernel_rfl)
@[go_sem] theorem aJ:QE F.slices_IndexFunc_api_Interval_api_Interval_ [[.o 8 aX],[]] eC:=qe (by kernel_rfl)
@[go_sem] theorem SR:QE F.r23_term [[],[.o 2 [],.o 0 [],.o 2 [],.o 0 []]] kE:=qe (by kernel_rfl)
@[go_sem] theorem K4:QE F.r23_Compare [[.o 2 []],[.o 2 []]] je:=qe (by kernel_rfl)
@[go_sem] theorem G0:QE F.round_AddDown [aI,aI,[]] qI:=qe (by kernel_rfl)
@[go_sem] theorem K5:QE F.round_AddUp [aI,aI,[]] s9:=qe (by kernel_rfl)
@[go_sem] theorem M1:QE F.dyadic_Mul [aI,aI] fm:=qe (by kernel_rfl)
@[go_sem] theorem M2:QE F.dyadic_Int [] qy:=qe (by kernel_rfl)
@[go_sem] theorem Iy:QE F.interval_Neg [aX] nH:=qe (by kernel_rfl)
@[go_sem] theorem G1:QE F.interval_four [aX,aX,[],[],[]] qJ:=qe (by kernel_rfl)
@[go_sem] theorem kr:QE F.round_MulDown [aI,aI,[]] qK:=qe (by kernel_rfl)
@[go_sem] theorem mQ:QE F.round_MulUp [aI,aI,[]] te:=qe (by kernel_rfl)
@[go_sem] theorem bS:QE F.slices_IndexFunc_api_Term_api_Term_ [[.o 5 [.o 2 [],.o 0 [],.o 2 [],.o 0 []]],[]] gE:=qe (by kernel_rfl)
@[go_sem] theorem Fy:QE F.interval_Power [aX,[],[]] dG:=qe (by kernel_rfl)
@[go_sem] theorem K6:QE F.poly_Degree [[.o 0 [],.o 5 [.o 2 [],.o 0 [],.o 2 [],.o 0 []]]] lv:=qe (by kernel_rfl)
@[go_sem] theorem xU:QE F.slices_Index_int_int_ [[.o 2 []],[]] jv:=qe (by kernel_rfl)
@[go_sem] theorem acm:QE F.slices_Repeat_api_Interval_api_Interval_ [[.o 8 aX],[]] fu:=qe (by kernel_rfl)
theorem Ej:dK.C F.bound_grid_step=some oC:=by kernel_rfl
theorem Ek:dK.E F.bound_grid_step=none:=by kernel_rfl
@[go_sem] theorem CH:YE F.bound_grid_step []:=ahB (by kernel_rfl)
@[go_sem] theorem iO:YF F.bound_grid_step []:=ahC (by kernel_rfl)
@[go_sem] theorem SS:YD F.bound_grid_step:=WV iO
@[go_sem] theorem sw:YG F.bound_grid_step true:=ahD (by kernel_rfl)
@[go_sem] theorem bA:QE F.bound_grid_lines [] nn:=qe (by kernel_rfl)
@[go_sem] theorem eX:QE F.bound_grid_unit_1 [] rW:=qe (by kernel_rfl)
theorem ano:dK.C F.bound_grid_add=some vI:=by kernel_rfl
theorem anp:dK.E F.bound_grid_add=none:=by kernel_rfl
@[go_sem] theorem anm:YE F.bound_grid_add [[],aX,aX]:=ahB (by kernel_rfl)
@[go_sem] theorem agk:YF F.bound_grid_add []:=ahC (by kernel_rfl)
@[go_sem] theorem anI:YD F.bound_grid_add:=WV agk
@[go_sem] theorem agm:YG F.bound_grid_add true:=ahD (by kernel_rfl)
theorem anq:dK.C F.bound_grid_mul=some vJ:=by kernel_rfl
theorem anr:dK.E F.bound_grid_mul=none:=by kernel_rfl
@[go_sem] theorem ann:YE F.bound_grid_mul [[],aX,aX]:=ahB (by kernel_rfl)
@[go_sem] theorem agl:YF F.bound_grid_mul []:=ahC (by kernel_rfl)
@[go_sem] theorem anJ:YD F.bound_grid_mul:=WV agl
@[go_sem] theorem ago:YG F.bound_grid_mul true:=ahD (by kernel_rfl)
@[go_sem] theorem de:QE F.bound_grid_bernstein_1 [] nI:=qe (by kernel_rfl)
@[go_sem] theorem anz:QE F.interval_Div [aX,aX,[]] kj:=qe (by kernel_rfl)
@[go_sem] theorem ST:QE F.r02_Sign [aI] qh:=qe (by kernel_rfl)
@[go_sem] theorem Uz:QE F.r02_Top [aI] wd:=qe (by kernel_rfl)
@[go_sem] theorem UA:QE F.r02_Sum [aI,aI] mh:=qe (by kernel_rfl)
@[go_sem] theorem UB:QE F.r02_Neg [aI] we:=qe (by kernel_rfl)
@[go_sem] theorem aoX:QE F.r02_Checked [aI] aoh:=qe (by kernel_rfl)
@[go_sem] theorem aoR:QE F.r02_exponent [] aog:=qe (by kernel_rfl)
@[go_sem] theorem WX:QE F.r02_Of [[],[.o 2 []],[]] yg:=qe (by kernel_rfl)
@[go_sem] theorem Fz:QE F.dyadic_inRange [aI] eL:=qe (by kernel_rfl)
@[go_sem] theorem M3:QE F.dyadic_Top [aI] mJ:=qe (by kernel_rfl)
@[go_sem] theorem K7:QE F.natural_Cmp [[.o 2 []],[.o 2 []]] lB:=qe (by kernel_rfl)
@[go_sem] theorem FA:QE F.dyadic_shifted [[.o 2 []],[]] pP:=qe (by kernel_rfl)
@[go_sem] theorem CI:QE F.interval_Valid_1 [aI] eU:=qe (by kernel_rfl)
@[go_sem] theorem ge:QE F.slices_ContainsFunc_int_int_ [[.o 2 []],[]] jL:=qe (by kernel_rfl)
@[go_sem] theorem zR:QE F.poly_Valid_1 [] nJ:=qe (by kernel_rfl)
@[go_sem] theorem K8:QE F.poly_degree [[.o 2 []]] tj:=qe (by kernel_rfl)
@[go_sem] theorem M4:QE F.poly_order [[.o 2 []],[.o 2 []]] qA:=qe (by kernel_rfl)
@[go_sem] theorem ao1:QE F.dyadic_sum [aI,aI] anZ:=qe (by kernel_rfl)
@[go_sem] theorem xw:QE F.bound_domain_1 [aX] kX:=qe (by kernel_rfl)
@[go_sem] theorem K9:QE F.r02_compare [[.o 2 []],[.o 2 []]] pn:=qe (by kernel_rfl)
@[go_sem] theorem La:QE F.round_round [aI,[],[]] po:=qe (by kernel_rfl)
@[go_sem] theorem UC:QE F.r23_sum [[.o 2 []]] AK:=qe (by kernel_rfl)
@[go_sem] theorem EX:QE F.round_add [aI,aI,[],[]] jw:=qe (by kernel_rfl)
@[go_sem] theorem Lc:QE F.dyadic_size [[.o 2 []]] tl:=qe (by kernel_rfl)
@[go_sem] theorem Ld:QE F.natural_Mul [[.o 2 []],[.o 2 []]] pp:=qe (by kernel_rfl)
@[go_sem] theorem FB:QE F.dyadic_checked [aI] kY:=qe (by kernel_rfl)
@[go_sem] theorem CJ:QE F.dyadic_canonical [[],[.o 2 []],[]] jJ:=qe (by kernel_rfl)
@[go_sem] theorem M5:QE F.dyadic_Neg [aI] mL:=qe (by kernel_rfl)
@[go_sem] theorem PP:QE F.round_mul [aI,aI,[],[]] lC:=qe (by kernel_rfl)
@[go_sem] theorem Iz:QE F.interval_Abs [aX] nK:=qe (by kernel_rfl)
@[go_sem] theorem zS:QE F.interval_end [aI,[],[],[]] kl:=qe (by kernel_rfl)
@[go_sem] theorem anH:QE F.bits_Mul [] EM:=qe (by kernel_rfl)
@[go_sem] theorem G2:QE F.interval_Sign [aX] jx:=qe (by kernel_rfl)
@[go_sem] theorem acl:QE F.round_DivDown [aI,aI,[]] xe:=qe (by kernel_rfl)
@[go_sem] theorem aeO:QE F.round_DivUp [aI,aI,[]] zF:=qe (by kernel_rfl)
@[go_sem] theorem SU:QE F.r02_left [[.o 2 []],[]] yS:=qe (by kernel_rfl)
@[go_sem] theorem SV:QE F.r02_plus [[.o 2 []],[.o 2 []]] yT:=qe (by kernel_rfl)
@[go_sem] theorem PQ:QE F.r02_minus [[.o 2 []],[.o 2 []]] xf:=qe (by kernel_rfl)
@[go_sem] theorem SW:QE F.r02_trim [[.o 2 []]] yU:=qe (by kernel_rfl)
@[go_sem] theorem PR:QE F.r02_zeros [[.o 2 []]] xg:=qe (by kernel_rfl)
@[go_sem] theorem PS:QE F.r02_right [[.o 2 []],[]] sf:=qe (by kernel_rfl)
@[go_sem] theorem IA:QE F.natural_trim [[.o 2 []]] si:=qe (by kernel_rfl)
@[go_sem] theorem Le:QE F.natural_Shl [[.o 2 []],[]] jf:=qe (by kernel_rfl)
@[go_sem] theorem dk:QE F.slices_IndexFunc_int_int_ [[.o 2 []],[]] lE:=qe (by kernel_rfl)
@[go_sem] theorem CK:QE F.cmp_Compare_int_ [] gF:=qe (by kernel_rfl)
@[go_sem] theorem wj:QE F.slices_Compare_int_int_ [[.o 2 []],[.o 2 []]] fq:=qe (by kernel_rfl)
@[go_sem] theorem Lf:QE F.natural_Add [[.o 2 []],[.o 2 []]] pu:=qe (by kernel_rfl)
@[go_sem] theorem Lg:QE F.natural_Sub [[.o 2 []],[.o 2 []]] lF:=qe (by kernel_rfl)
@[go_sem] theorem sH:QE F.slices_Clone_uint32_uint32_ [[.o 2 []]] gb:=qe (by kernel_rfl)
@[go_sem] theorem Lh:QE F.round_fault [[],[.o 4 aI]] lG:=qe (by kernel_rfl)
@[go_sem] theorem IB:QE F.round_signed [[],[.o 2 [],.o 0 [],.o 0 []],[],[]] ko:=qe (by kernel_rfl)
@[go_sem] theorem SX:QE F.round_of [aI] yW:=qe (by kernel_rfl)
@[go_sem] theorem PT:QE F.round_sum [aI,aI,[]] lH:=qe (by kernel_rfl)
@[go_sem] theorem IC:QE F.natural_Bits [[.o 2 []]] nM:=qe (by kernel_rfl)
@[go_sem] theorem ID:QE F.natural_long [[.o 2 [.o 2 []]]] sk:=qe (by kernel_rfl)
@[go_sem] theorem IE:QE F.natural_done [[.o 2 []]] nN:=qe (by kernel_rfl)
@[go_sem] theorem Li:QE F.natural_mul [[.o 2 []],[.o 2 []]] tv:=qe (by kernel_rfl)
@[go_sem] theorem FC:QE F.dyadic_trimmed [[.o 2 []]] pR:=qe (by kernel_rfl)
@[go_sem] theorem M6:QE F.dyadic_low [[.o 2 []]] vg:=qe (by kernel_rfl)
@[go_sem] theorem Lj:QE F.natural_Shr [[.o 2 []],[]] lI:=qe (by kernel_rfl)
@[go_sem] theorem tH:QE F.slices_Clip_uint32_uint32_ [[.o 2 []]] gy:=qe (by kernel_rfl)
@[go_sem] theorem IF:QE F.interval_Mig [aX] nP:=qe (by kernel_rfl)
@[go_sem] theorem IG:QE F.interval_Mag [aX] sn:=qe (by kernel_rfl)
@[go_sem] theorem xx:QE F.interval_power [aI,[],[],[],[]] kZ:=qe (by kernel_rfl)
@[go_sem] theorem anN:QL F.bits_Mul32 []:=ql (by kernel_rfl)
@[go_sem] theorem anD:QE F.bits_Mul64 [] BF:=qe (by kernel_rfl)
@[go_sem] theorem anF:QE F.round_div [aI,aI,[],[]] oH:=qe (by kernel_rfl)
@[go_sem] theorem Lk:QE F.natural_shl [[.o 2 []],[]] tC:=qe (by kernel_rfl)
@[go_sem] theorem FE:QE F.cmp_isNaN_int_ [] pS:=qe (by kernel_rfl)
@[go_sem] theorem Ll:QE F.natural_add [[.o 2 []],[.o 2 []]] px:=qe (by kernel_rfl)
@[go_sem] theorem Lm:QE F.natural_sub [[.o 2 []],[.o 2 []]] tD:=qe (by kernel_rfl)
@[go_sem] theorem G3:QE F.round_precise [] mq:=qe (by kernel_rfl)
@[go_sem] theorem PU:QE F.round_cut [[.o 2 [],.o 0 [],.o 0 []],[],[]] oI:=qe (by kernel_rfl)
@[go_sem] theorem PV:QE F.round_shl [[.o 2 []],[]] xn:=qe (by kernel_rfl)
@[go_sem] theorem PW:QE F.round_shr [[.o 2 []],[]] sq:=qe (by kernel_rfl)
@[go_sem] theorem M7:QE F.bits_Len32 [] jR:=qe (by kernel_rfl)
@[go_sem] theorem cC:QE F.slices_ContainsFunc_Suint32_Suint32_ [[.o 2 [.o 2 []]],[]] gr:=qe (by kernel_rfl)
@[go_sem] theorem xy:QE F.natural_long_1 [[.o 2 []]] pT:=qe (by kernel_rfl)
@[go_sem] theorem PX:QL F.bits_TrailingZeros32 []:=ql (by kernel_rfl)
@[go_sem] theorem Ln:QE F.natural_shr [[.o 2 []],[]] py:=qe (by kernel_rfl)
@[go_sem] theorem M8:QE F.dyadic_Abs [aI] mO:=qe (by kernel_rfl)
@[go_sem] theorem Lo:QE F.dyadic_Bits [aI] pz:=qe (by kernel_rfl)
@[go_sem] theorem ans:QE F.natural_DivMod [[.o 2 []],[.o 2 []]] vM:=qe (by kernel_rfl)
@[go_sem] theorem M9:QE F.bits_Add32 [] vo:=qe (by kernel_rfl)
@[go_sem] theorem Na:QE F.bits_Sub32 [] vz:=qe (by kernel_rfl)
@[go_sem] theorem Lp:QE F.dyadic_Make [[],[.o 2 []],[]] jg:=qe (by kernel_rfl)
@[go_sem] theorem ck:QE F.slices_IndexFunc_Suint32_Suint32_ [[.o 2 [.o 2 []]],[]] ic:=qe (by kernel_rfl)
@[go_sem] theorem alf:QE F.natural_divide [[.o 2 []],[.o 2 []]] pU:=qe (by kernel_rfl)
@[go_sem] theorem El:QE F.dyadic_exponent [] kq:=qe (by kernel_rfl)
@[go_sem] theorem anu:QE F.natural_short [[.o 2 []],[]] xt:=qe (by kernel_rfl)
@[go_sem] theorem anl:QE F.bits_LeadingZeros32 [] qm:=qe (by kernel_rfl)
@[go_sem] theorem anv:QE F.natural_guess [] qO:=qe (by kernel_rfl)
theorem anA:dK.C F.natural_take=some yn:=by kernel_rfl
theorem anB:dK.E F.natural_take=none:=by kernel_rfl
@[go_sem] theorem anw:YE F.natural_take [[.o 2 []],[.o 2 []],[]]:=ahB (by kernel_rfl)
@[go_sem] theorem anC:YF F.natural_take [1,0,0]:=ahC (by kernel_rfl)
@[go_sem] theorem agp:YG F.natural_take false:=ahD (by kernel_rfl)
@[go_sem] theorem anE:QE F.bits_Div32 [] BJ:=qe (by kernel_rfl)
@[go_sem] theorem anx:QE F.natural_digit [] xv:=qe (by kernel_rfl)
attribute [go_sem_proc ↓] reduceIte
attribute [go_sem_proc] Nat.reduceEqDiff
end Go.Ab
