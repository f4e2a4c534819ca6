/-
  A law of ranges holds at every input that the statement speaks of, under the conditions that its card names. Part C1.
-/
import Derived.Test.YtfdhicohflnjnaaGreatDoorProg
import Derived.KernelRfl
import Derived.Test.YtfdhicohflnjnaaGreatDoorB1
set_option linter.all false
namespace Go.Ab
open Go
set_option maxRecDepth 100000
set_option maxHeartbeats 4000000
abbrev F.l24_BoundSums:FuncId:=8
abbrev F.l24_awake:FuncId:=9
abbrev F.l24_few:FuncId:=10
abbrev F.l24_near:FuncId:=11
abbrev F.bound_Naive:FuncId:=12
abbrev F.bound_Bernstein:FuncId:=13
abbrev F.bound_Best:FuncId:=14
abbrev F.r24_Domain:FuncId:=15
abbrev F.r05_Valid:FuncId:=18
abbrev F.interval_Point:FuncId:=22
abbrev F.dyadic_Cmp:FuncId:=23
abbrev F.interval_Meet:FuncId:=24
abbrev F.poly_Eval:FuncId:=26
abbrev F.bound_Corners:FuncId:=28
abbrev F.slices_ContainsFunc_api_Dyadic_api_Dyadic_:FuncId:=32
abbrev F.l24_long:FuncId:=34
abbrev F.r02_Valid:FuncId:=35
abbrev F.slices_ContainsFunc_api_Interval_api_Interval_:FuncId:=38
abbrev F.interval_Whole:FuncId:=40
abbrev F.r23_Valid:FuncId:=41
abbrev F.r05_Inside:FuncId:=42
abbrev F.poly_Add:FuncId:=43
abbrev F.interval_Add:FuncId:=44
abbrev F.poly_Derive:FuncId:=45
abbrev F.interval_Sub:FuncId:=46
abbrev F.interval_Mul:FuncId:=47
abbrev F.l24_d:FuncId:=48
abbrev F.r05_Equal:FuncId:=49
abbrev F.slices_ContainsFunc_api_Term_api_Term_:FuncId:=50
abbrev F.l24_few_1:FuncId:=51
abbrev F.l24_near_1:FuncId:=52
abbrev F.bound_fits:FuncId:=53
abbrev F.bound_whole:FuncId:=54
abbrev F.bound_power:FuncId:=55
abbrev F.bound_Linear:FuncId:=56
abbrev F.bound_line:FuncId:=57
abbrev F.bound_gridOf:FuncId:=58
abbrev F.bound_grid_unit:FuncId:=59
abbrev F.bound_grid_bernstein:FuncId:=60
abbrev F.interval_Hull:FuncId:=61
abbrev F.r02_Cmp:FuncId:=64
abbrev F.r05_zero:FuncId:=65
abbrev F.dyadic_Valid:FuncId:=69
abbrev F.dyadic_Sign:FuncId:=70
abbrev F.dyadic_compare:FuncId:=71
abbrev F.interval_Valid:FuncId:=72
abbrev F.interval_more:FuncId:=73
abbrev F.interval_less:FuncId:=74
abbrev F.poly_Valid:FuncId:=75
abbrev F.poly_Eval_1:FuncId:=76
abbrev F.poly_times:FuncId:=77
abbrev F.dyadic_Add:FuncId:=78
abbrev F.bound_domain:FuncId:=79
abbrev F.r02_Equal:FuncId:=82
abbrev F.slices_IndexFunc_api_Dyadic_api_Dyadic_:FuncId:=83
abbrev F.r02_bits:FuncId:=84
abbrev F.poly_empty:FuncId:=85
abbrev F.poly_collector_add:FuncId:=86
abbrev F.poly_collector_done:FuncId:=87
abbrev F.interval_known:FuncId:=88
abbrev F.interval_permitted:FuncId:=89
abbrev F.round_Down:FuncId:=90
abbrev F.round_Up:FuncId:=91
abbrev F.interval_made:FuncId:=92
abbrev F.slices_IndexFunc_api_Interval_api_Interval_:FuncId:=93
abbrev F.r23_term:FuncId:=94
abbrev F.r23_Compare:FuncId:=95
abbrev F.poly_pair:FuncId:=96
abbrev F.slices_Concat_api_Term_api_Term_:FuncId:=97
abbrev F.round_AddDown:FuncId:=98
abbrev F.round_AddUp:FuncId:=99
abbrev F.dyadic_Mul:FuncId:=100
abbrev F.dyadic_Int:FuncId:=101
abbrev F.slices_Clone_int_int_:FuncId:=102
abbrev F.interval_Neg:FuncId:=103
abbrev F.interval_four:FuncId:=104
abbrev F.round_MulDown:FuncId:=105
abbrev F.round_MulUp:FuncId:=106
abbrev F.r02_Int:FuncId:=107
abbrev F.slices_IndexFunc_api_Term_api_Term_:FuncId:=108
abbrev F.interval_Power:FuncId:=109
abbrev F.poly_Degree:FuncId:=110
abbrev F.slices_Index_int_int_:FuncId:=111
abbrev F.slices_Repeat_api_Interval_api_Interval_:FuncId:=112
abbrev F.bound_grid_step:FuncId:=113
abbrev F.bound_grid_lines:FuncId:=114
abbrev F.bound_grid_unit_1:FuncId:=115
abbrev F.bound_grid_add:FuncId:=116
abbrev F.bound_grid_mul:FuncId:=117
abbrev F.bound_grid_bernstein_1:FuncId:=118
abbrev F.interval_Div:FuncId:=119
abbrev F.r02_Sign:FuncId:=120
abbrev F.r02_Top:FuncId:=121
abbrev F.r02_Sum:FuncId:=122
abbrev F.r02_Neg:FuncId:=123
abbrev F.r02_Of:FuncId:=126
abbrev F.dyadic_inRange:FuncId:=127
abbrev F.dyadic_Top:FuncId:=128
abbrev F.natural_Cmp:FuncId:=129
abbrev F.dyadic_shifted:FuncId:=130
abbrev F.interval_Valid_1:FuncId:=131
abbrev F.slices_ContainsFunc_int_int_:FuncId:=132
abbrev F.poly_Valid_1:FuncId:=133
abbrev F.poly_degree:FuncId:=134
abbrev F.poly_order:FuncId:=135
abbrev F.dyadic_sum:FuncId:=136
abbrev F.bound_domain_1:FuncId:=137
abbrev F.r02_compare:FuncId:=139
abbrev F.slices_BinarySearchFunc_api_Term_api_Term_Sint_:FuncId:=140
abbrev F.poly_collector_add_1:FuncId:=141
abbrev F.slices_Insert_api_Term_api_Term_:FuncId:=142
abbrev F.poly_copied:FuncId:=143
abbrev F.slices_Delete_api_Term_api_Term_:FuncId:=144
abbrev F.round_round:FuncId:=145
abbrev F.r23_sum:FuncId:=146
abbrev F.slices_Grow_api_Term_api_Term_:FuncId:=147
abbrev F.round_add:FuncId:=148
abbrev F.dyadic_size:FuncId:=149
abbrev F.natural_Mul:FuncId:=150
abbrev F.dyadic_checked:FuncId:=151
abbrev F.dyadic_canonical:FuncId:=152
abbrev F.dyadic_Neg:FuncId:=153
abbrev F.round_mul:FuncId:=154
abbrev F.interval_Abs:FuncId:=155
abbrev F.interval_end:FuncId:=156
abbrev F.bits_Mul:FuncId:=157
abbrev F.interval_Sign:FuncId:=158
abbrev F.round_DivDown:FuncId:=159
abbrev F.round_DivUp:FuncId:=160
abbrev F.r02_left:FuncId:=161
abbrev F.r02_plus:FuncId:=162
abbrev F.r02_minus:FuncId:=163
abbrev F.r02_trim:FuncId:=164
abbrev F.r02_zeros:FuncId:=165
abbrev F.r02_right:FuncId:=166
abbrev F.natural_trim:FuncId:=167
abbrev F.natural_Shl:FuncId:=168
abbrev F.slices_IndexFunc_int_int_:FuncId:=169
abbrev F.cmp_Compare_int_:FuncId:=170
abbrev F.slices_Compare_int_int_:FuncId:=171
abbrev F.natural_Add:FuncId:=172
abbrev F.natural_Sub:FuncId:=173
abbrev F.slices_overlaps_api_Term_:FuncId:=175
abbrev F.slices_rotateRight_api_Term_:FuncId:=176
abbrev F.slices_Clone_uint32_uint32_:FuncId:=177
abbrev F.round_fault:FuncId:=178
abbrev F.round_signed:FuncId:=179
abbrev F.round_of:FuncId:=180
abbrev F.round_sum:FuncId:=181
abbrev F.natural_Bits:FuncId:=182
abbrev F.natural_long:FuncId:=183
abbrev F.natural_done:FuncId:=184
abbrev F.natural_mul:FuncId:=185
abbrev F.dyadic_trimmed:FuncId:=186
abbrev F.dyadic_low:FuncId:=187
abbrev F.natural_Shr:FuncId:=188
abbrev F.slices_Clip_uint32_uint32_:FuncId:=189
abbrev F.interval_Mig:FuncId:=190
abbrev F.interval_Mag:FuncId:=191
abbrev F.interval_power:FuncId:=192
abbrev F.bits_Mul32:FuncId:=193
abbrev F.bits_Mul64:FuncId:=194
abbrev F.round_div:FuncId:=195
abbrev F.natural_shl:FuncId:=196
abbrev F.cmp_isNaN_int_:FuncId:=197
abbrev F.natural_add:FuncId:=198
abbrev F.natural_sub:FuncId:=199
abbrev F.round_precise:FuncId:=202
abbrev F.round_cut:FuncId:=203
abbrev F.round_shl:FuncId:=204
abbrev F.round_shr:FuncId:=205
abbrev F.bits_Len32:FuncId:=206
abbrev F.slices_ContainsFunc_Suint32_Suint32_:FuncId:=207
abbrev F.natural_long_1:FuncId:=208
abbrev F.bits_TrailingZeros32:FuncId:=209
abbrev F.natural_shr:FuncId:=210
abbrev F.dyadic_Abs:FuncId:=211
abbrev F.dyadic_Bits:FuncId:=212
abbrev F.natural_DivMod:FuncId:=213
abbrev F.bits_Add32:FuncId:=214
abbrev F.bits_Sub32:FuncId:=215
abbrev F.dyadic_Make:FuncId:=218
abbrev F.slices_IndexFunc_Suint32_Suint32_:FuncId:=219
abbrev F.natural_divide:FuncId:=220
abbrev F.dyadic_exponent:FuncId:=221
abbrev F.natural_short:FuncId:=222
abbrev F.bits_LeadingZeros32:FuncId:=223
abbrev F.natural_guess:FuncId:=224
abbrev F.natural_take:FuncId:=225
abbrev F.bits_Div32:FuncId:=226
abbrev F.natural_digit:FuncId:=227
def aG:List Sh:=[.o 0 [],.o 2 [],.o 0 []]
@[go_sem] theorem apo:aG=[.o 0 [],.o 2 [],.o 0 []]:=_root_.id rfl
def aU:List Sh:=[.o 0 [],.o 2 [],.o 0 [],.o 0 [],.o 2 [],.o 0 [],.o 0 []]
@[go_sem] theorem apq:aU=[.o 0 [],.o 2 [],.o 0 [],.o 0 [],.o 2 [],.o 0 [],.o 0 []]:=_root_.id rfl
noncomputable section
def g0(f:Func)(l:dm):Cmd:=gK Go.Proofs.Tryz.prog [] f l 0 []
def g1(H:List (Nat×Nat))(f:Func)(l:dm)(k:Nat)(L:List Cmd):Cmd:=gK Go.Proofs.Tryz.prog H f l k L
def adV:Cmd:=au (g0 Go.Proofs.Tryz.f8 [[2,3,4],[2,3,4,21],[6],[2,3,4,53],[6],[2,3,4,7,8],[2,3,4,7,61],[6],[2,3,7,9],[2,3,0,7,2,7,3,7,5,7,6,7],[2,3,11],[2,3,0,8,2,8,3,8,4,8],[2,3,78],[6],[2,3,81],[6],[2,3,12,13],[2,12,13,14,15],[2,12,13,14,15,103],[6],[2,12,16],[3,6,2,9,3,9,6,9,7,9,8,9],[2,12,16,17],[4,8,3,11,4,11,8,11,9,11,10,11],[19],[0,3,3,4,0,5,0,10,1,10,3,10,4,10,5,10,6,10],[6]])
def aaM:FD:=⟨3,[[]],[.t 6],adV⟩
def Rg:Cmd:=au (g0 Go.Proofs.Tryz.f9 [[],[1],[1,2],[7777777,1,2],[3,4],[2,3,0,6,2,6,3,6,5,6,0,7,2,7,3,7,5,7,6,7],[0],[0,1,0,2,16,19]])
def N7:FD:=⟨0,[[]],[.t 0],Rg⟩
def yX:Cmd:=au (g0 Go.Proofs.Tryz.f10 [[1],[2]])
def sI:FD:=⟨1,[[]],[.t 2],yX⟩
def BF:Cmd:=au (g0 Go.Proofs.Tryz.f11 [[0],[2]])
def vj:FD:=⟨1,[[]],[.t 2],BF⟩
def uk:dm:=[[1,2,3,6],[1,2,3,6,17],[6],[1,2,3,6,7],[1,2,6,7,22,23,24],[6,7],[1,2,6,7,22,23,24],[3,6,7],[1,2,6,7,22,23,24,25],[1,2,6,7,22,23,24],[1,2,6,7,9,22,23,24],[1,2,6,7,9,10,22,23,24],[1,2,6,7,10,22,23,24,32,33,34],[1,2,6,7,10,22,23,24],[1,2,6,7,10,22,23,24,32,33,34],[3,6,7,9,10],[1,2,6,7,10,22,23,24,32,33,34,35],[1,2,6,7,10,22,23,24,32,33,34],[1,2,6,7,10,11,12,22,23,24,32,33,34],[1,2,6,7,10,11,12,22,23,24,32,33,34,40],[1,2,6,7,10,22,23,24,32,33,34],[0,7],[1,2,6,7,10,22,23,24,32,33,34],[1,2,6,7,22,23,24],[1,2,6,7,22,23,24],[6]]
def eB:Cmd:=au (g1 [] Go.Proofs.Tryz.f12 uk 1 [])
@[go_sem] def Gd(a:Cmd):Cmd:=au (g1 [] Go.Proofs.Tryz.f12 uk 2 [a])
def hF:Cmd:=Gd eB
@[go_sem] def L7(a b:Cmd):Cmd:=au (g1 [] Go.Proofs.Tryz.f12 uk 0 [a,b])
def wk:Cmd:=L7 eB hF
def pH:FD:=⟨3,[aU],[.cell 6 7 true],wk⟩
def oV:dm:=[[1,2,3,6],[1,2,3,6,19],[6],[1,2,3,6,7,8],[1,2,3,6,7,31],[6],[],[1,6,9,10],[1,6,9,50],[6],[1,6,9,56,57],[6,9],[1,6,9,56,57],[6,2368],[1,6,9,56,57,58],[1,6,9,56,57],[1,6,9,11,56,57],[1,6,9,11,56,57],[1,6,9,56,57],[1,6,9,56,57],[6,9,12],[6,12,80,81,82],[6,12],[6,12,80,81,82],[6,12,2368],[6,12,80,81,82,83],[6,12,80,81,82],[6,12,14,80,81,82],[6,12,80,81,82],[6,12,80,81,82],[6]]
def i9:Cmd:=au (g1 [] Go.Proofs.Tryz.f13 oV 1 [])
def ja:Cmd:=au (g1 [] Go.Proofs.Tryz.f13 oV 2 [])
@[go_sem] def Fe(a b:Cmd):Cmd:=au (g1 [] Go.Proofs.Tryz.f13 oV 0 [a,b])
def gA:Cmd:=Fe i9 ja
def eC:FD:=⟨3,[aU],[.cell 6 7 true],gA⟩
def sJ:Cmd:=au (g0 Go.Proofs.Tryz.f14 [[1,2,3,6],[1,2,3,6,13],[6],[6,7,8],[3,4,0,12,3,12,4,12,7,12,8,12],[6,7,28],[6],[6]])
def m6:FD:=⟨3,[aU],[.cell 6 7 true],sJ⟩
def Ck:dm:=[[1,2],[1,15],[4],[1,5],[],[1,5],[],[1,5,19],[1,5],[1,5,34],[4],[1,5],[4]]
def iF:Cmd:=au (g1 [] Go.Proofs.Tryz.f15 Ck 1 [])
@[go_sem] def N8(a:Cmd):Cmd:=au (g1 [] Go.Proofs.Tryz.f15 Ck 0 [a])
def oW:Cmd:=N8 iF
def j7:FD:=⟨2,[[]],[.t 4],oW⟩
def nJ:Cmd:=au (g0 Go.Proofs.Tryz.f18 [[1],[1,4],[2],[2]])
def aqa:FD:=⟨1,[[]],[.t 2],nJ⟩
def xN:Cmd:=au (g0 Go.Proofs.Tryz.f22 [[1,2],[1,2,5],[2],[2]])
def qz:FD:=⟨1,[aU],[.cell 2 7 true],xN⟩
def aqb:Cmd:=au (g0 Go.Proofs.Tryz.f23 [[2,3],[2,3,14],[4],[2,3,5,6],[1,2],[2,3,5],[2,3,5,6,19],[4],[2,3,5,23],[4],[2,3,5,27],[4],[4]])
def gE:FD:=⟨2,[[]],[.t 4],aqb⟩
def go:Cmd:=au (g0 Go.Proofs.Tryz.f24 [[2,3,4],[2,3,4],[2,3,4,7],[4,5],[2,3,4,17],[4,5],[2,3,4,21],[4,5],[4,6],[4,6,4,8,1,11,3,11,4,11,6,11,8,11,9,11],[4,6,41],[4,5],[4,5]])
def eE:FD:=⟨2,[aU,[]],[.cell 4 7 true,.t 5],go⟩
def aq3:dm:=[[1,2,4],[1,2,4,28],[4,5],[1,2,4,6],[1,4,6,31,32,33],[4,6],[1,4,6,31,32,33],[2,4,6],[1,4,6,31,32,33,34],[1,4,6,31,32,33],[1,4,6,8,31,32,33],[1,4,6,8,9,31,32,33],[1,4,6,9,31,32,33,40,41,42],[1,4,6,9,31,32,33],[1,4,6,9,31,32,33,40,41,42],[2,4,6,8,9],[1,4,6,9,31,32,33,40,41,42,43],[1,4,6,9,31,32,33,40,41,42],[1,4,6,9,11,12,31,32,33,40,41,42],[1,4,6,9,10,31,32,33,40,41,42],[],[1,4,6,9,31,32,33,40,41,42,58],[4,5],[1,4,6,9,31,32,33,40,41,42],[1,4,6,13,14,31,32,33],[1,4,6,13,31,32,33,68],[4,5],[1,4,6,31,32,33],[1,4,6,31,32,33],[4,5]]
def apO:Cmd:=au (g1 [] Go.Proofs.Tryz.f26 aq3 1 [])
@[go_sem] def arz(a:Cmd):Cmd:=au (g1 [] Go.Proofs.Tryz.f26 aq3 2 [a])
def aqj:Cmd:=arz apO
@[go_sem] def ass(a b:Cmd):Cmd:=au (g1 [] Go.Proofs.Tryz.f26 aq3 0 [a,b])
def aqG:Cmd:=ass apO aqj
def aqk:FD:=⟨2,[aG,[]],[.cell 4 3 true,.t 5],aqG⟩
def aqJ:dm:=[[1,2],[1,2,16],[4,5],[1,2,6],[1,2,6,19,20],[6],[1,2,6,19,20],[2,57],[1,2,6,19,20,21],[1,2,6,19,20],[1,2,6,7,19,20],[1,2,6,7,8,19,20],[1,2,6,7,8,19,20,23,24,25],[1,2,6,8,19,20],[1,2,6,7,8,19,20,23,24,25],[2,43,57],[1,2,6,7,8,19,20,23,24,25,26],[1,2,6,7,8,19,20,23,24,25],[1,2,6,7,8,9,10,19,20,23,24,25],[1,2,6,7,8,19,20,23,24,25],[1000013,0],[1,2,6,7,8,19,20,23,24,25],[1,2,6,11,12,19,20],[1,2,6,11,12,19,20,52],[4,5],[1,2,6,19,20],[1,2,6,19,20],[4,5]]
def aaQ:Cmd:=au (g1 [] Go.Proofs.Tryz.f28 aqJ 1 [])
@[go_sem] def are(a:Cmd):Cmd:=au (g1 [] Go.Proofs.Tryz.f28 aqJ 2 [a])
def aeB:Cmd:=are aaQ
@[go_sem] def aru(a b:Cmd):Cmd:=au (g1 [] Go.Proofs.Tryz.f28 aqJ 0 [a,b])
def aqN:Cmd:=aru aaQ aeB
def aqp:FD:=⟨2,[[.o 4 aG],[]],[.t 4,.t 5],aqN⟩
def aqg:Cmd:=au (g0 Go.Proofs.Tryz.f32 [[0,1],[4]])
def anO:FD:=⟨2,[[]],[.t 4],aqg⟩
def wV:Cmd:=au (g0 Go.Proofs.Tryz.f34 [[1],[2]])
def qO:FD:=⟨1,[[]],[.t 2],wV⟩
def ge:Cmd:=au (g0 Go.Proofs.Tryz.f35 [[1],[1,7],[2],[1,48],[2],[1,3],[2]])
def eF:FD:=⟨1,[[]],[.t 2],ge⟩
def jy:Cmd:=au (g0 Go.Proofs.Tryz.f38 [[0,1],[4]])
def ej:FD:=⟨2,[[]],[.t 4],jy⟩
def xO:Cmd:=au (g0 Go.Proofs.Tryz.f40 [[0],[0]])
def qA:FD:=⟨0,[aU],[.cell 0 7 true],xO⟩
def Dh:dm:=[[1],[1,17],[2],[1,3],[],[1,3],[1],[1,3,22],[1,3],[1,3,54],[],[2],[1,3],[2]]
def hH:Cmd:=au (g1 [] Go.Proofs.Tryz.f41 Dh 1 [])
@[go_sem] def Rh(a:Cmd):Cmd:=au (g1 [] Go.Proofs.Tryz.f41 Dh 0 [a])
def nK:Cmd:=Rh hH
def jz:FD:=⟨1,[[]],[.t 2],nK⟩
def N9:Cmd:=au (g0 Go.Proofs.Tryz.f42 [[2,3],[2,3,16],[4],[4]])
def L8:FD:=⟨2,[[]],[.t 4],N9⟩
def arq:dm:=[[2,3,4],[2,3,4,12],[4,5],[2,3,4,6],[4,6,22,23,24],[4,6],[4,6,22,23,24],[4,2128],[4,6,22,23,24,25],[4,6,22,23,24],[4,6,8,22,23,24],[4,6,22,23,24],[4,6,22,23,24],[4,5]]
def aqr:Cmd:=au (g1 [] Go.Proofs.Tryz.f43 arq 1 [])
@[go_sem] def asO(a:Cmd):Cmd:=au (g1 [] Go.Proofs.Tryz.f43 arq 0 [a])
def aq9:Cmd:=asO aqr
def aqY:FD:=⟨2,[[.o 0 [],.o 5 [.o 2 [],.o 0 [],.o 2 [],.o 0 []]],[]],[.cell 4 2 true,.t 5],aq9⟩
def pI:Cmd:=au (g0 Go.Proofs.Tryz.f44 [[2,3,4,6],[2,3,4,6,20],[6],[2,3,4,6,7,8],[6,7,8,9,10],[6]])
def kw:FD:=⟨3,[aU],[.cell 6 7 true],pI⟩
def aq7:dm:=[[1,2,4],[1,2,4],[1,2,4,12],[4,5],[1,2,4,17],[4,5],[1,2,4,6],[1,4,6,31,32,33],[4,6],[1,4,6,31,32,33],[2,4,2232],[1,4,6,31,32,33,34],[1,4,6,31,32,33],[1,4,6,8,31,32,33],[1,4,6,8,31,32,33,42],[1,4,6,8,9,10,31,32,33],[1,7,1,12,3,12,6,12,7,12,8,12],[1,4,6,8,9,31,32,33,56],[4,5],[1,4,6,9,11,31,32,33],[1,4,6,9,11,31,32,33],[1,4,6,31,32,33],[1,4,6,31,32,33],[4,5]]
def anP:Cmd:=au (g1 [] Go.Proofs.Tryz.f45 aq7 1 [])
@[go_sem] def arX(a:Cmd):Cmd:=au (g1 [] Go.Proofs.Tryz.f45 aq7 0 [a])
def aqs:Cmd:=arX anP
def ap5:FD:=⟨2,[[.o 0 [],.o 5 [.o 2 [],.o 0 [],.o 2 [],.o 0 []]],[]],[.cell 4 2 true,.t 5],aqs⟩
def Aw:Cmd:=au (g0 Go.Proofs.Tryz.f46 [[2,3,4,6],[6],[0,2]])
def sK:FD:=⟨3,[aU],[.cell 6 7 true],Aw⟩
def pJ:Cmd:=au (g0 Go.Proofs.Tryz.f47 [[2,3,4,6],[2,3,4,6,16],[6],[6]])
def kz:FD:=⟨3,[aU],[.cell 6 7 true],pJ⟩
def abm:Cmd:=au (g0 Go.Proofs.Tryz.f48 [[0,2],[2]])
def Y9:FD:=⟨1,[aG],[.cell 2 3 true],abm⟩
def Rj:Cmd:=au (g0 Go.Proofs.Tryz.f49 [[2,3],[4]])
def Oa:FD:=⟨2,[[]],[.t 4],Rj⟩
def mz:Cmd:=au (g0 Go.Proofs.Tryz.f50 [[0,1],[4]])
def gb:FD:=⟨2,[[]],[.t 4],mz⟩
def zV:Cmd:=au (g0 Go.Proofs.Tryz.f51 [[1],[2]])
def sL:FD:=⟨1,[[]],[.t 2],zV⟩
def xP:Cmd:=au (g0 Go.Proofs.Tryz.f52 [[1],[2]])
def rg:FD:=⟨1,[[]],[.t 2],xP⟩
def sM:Cmd:=au (g0 Go.Proofs.Tryz.f53 [[1,2,3],[6]])
def m7:FD:=⟨3,[[]],[.t 6],sM⟩
def Cn:Cmd:=au (g0 Go.Proofs.Tryz.f54 [[0],[0]])
def uq:FD:=⟨0,[aU],[.cell 0 7 true],Cn⟩
def wl:Cmd:=au (g0 Go.Proofs.Tryz.f55 [[1,2,3,6],[1,2,3,6,8],[6],[6],[2,3]])
def pK:FD:=⟨3,[aU],[.cell 6 7 true],wl⟩
def yY:dm:=[[1],[1,14],[2,3],[1,4],[4,20,21,22],[4],[4,20,21,22],[1,18],[4,20,21,22,23],[4,20,21,22],[4,6,20,21,22],[4,20,21,22],[3,6],[4,20,21,22],[2,3]]
def iS:Cmd:=au (g1 [] Go.Proofs.Tryz.f56 yY 1 [])
@[go_sem] def Jx(a:Cmd):Cmd:=au (g1 [] Go.Proofs.Tryz.f56 yY 0 [a])
def pL:Cmd:=Jx iS
def kB:FD:=⟨1,[[.o 4 aG],[]],[.t 2,.t 3],pL⟩
def lG:Cmd:=au (g0 Go.Proofs.Tryz.f57 [[3,4,5,6,8],[3,4,5,8,9,10],[1,4,3,4,1,5,3,5,4,5,3,6],[3,4,5,8,9,10,23],[3,4,5,8,9,10],[3,4,5,8,10,11,12],[3,4,8,11,12,13,14],[3,4,8,11,13,43],[8],[3,4,8,12,13,15],[8,12,14,15,16],[8,15,16,64],[8],[8]])
def eK:FD:=⟨4,[aU],[.cell 8 7 true],lG⟩
def iG:dm:=[[1,2],[2,6],[2,6,26,27,28],[2,6],[2,6,26,27,28],[2,21,24,2624],[2,6,26,27,28,29],[2,6,26,27,28],[2,6,8,26,27,28],[2,6,26,27,28,33,34,35],[2,6,26,27,28],[2,6,26,27,28,33,34,35],[2,8,21,24,2624],[2,6,26,27,28,33,34,35,36],[2,6,26,27,28,33,34,35],[2,6,9,10,26,27,28,33,34,35],[2,6,26,27,28,33,34,35],[],[2,6,26,27,28,33,34,35],[2,6,26,27,28],[2,6,11],[2,6,11,60,61,62],[2,6,11],[2,6,11,60,61,62],[2,21,24,2624],[2,6,11,60,61,62,63],[2,6,11,60,61,62],[2,6,11,13,60,61,62],[2,6,11,60,61,62],[2,6,11,60,61,62,71],[4,5],[2,6,11,60,61,62],[2,6],[6,82,83,84],[6],[6,82,83,84],[2,21,24,2624],[6,82,83,84,85],[6,82,83,84],[6,15,82,83,84],[6,15,16,82,83,84],[6,15,16,82,83,84,89,90,91],[6,15,16,82,83,84],[6,15,16,82,83,84,89,90,91],[2,15,21,24,2624],[6,15,16,82,83,84,89,90,91,92],[6,15,16,82,83,84,89,90,91],[6,15,16,17,18,82,83,84,89,90,91],[6,15,16,82,83,84,89,90,91],[6,15,16,82,83,84,89,90,91],[6,82,83,84],[3,7],[6,82,83,84],[4,5]]
def gB:Cmd:=au (g1 [] Go.Proofs.Tryz.f58 iG 1 [])
@[go_sem] def Ff(a:Cmd):Cmd:=au (g1 [] Go.Proofs.Tryz.f58 iG 2 [a])
def iT:Cmd:=Ff gB
def eZ:Cmd:=au (g1 [] Go.Proofs.Tryz.f58 iG 3 [])
def iU:Cmd:=au (g1 [] Go.Proofs.Tryz.f58 iG 4 [])
@[go_sem] def Fg(a b c d:Cmd):Cmd:=au (g1 [] Go.Proofs.Tryz.f58 iG 5 [a,b,c,d])
def ll:Cmd:=Fg gB iT eZ iU
@[go_sem] def Jy(a b c d e:Cmd):Cmd:=au (g1 [] Go.Proofs.Tryz.f58 iG 0 [a,b,c,d,e])
def Ax:Cmd:=Jy gB iT eZ iU ll
def sN:FD:=⟨2,[[],[]],[.t 4,.t 5],Ax⟩
def wE:Cmd:=au (g0 Go.Proofs.Tryz.f59 [[1,3,5],[1,3,5,6],[1,3,6,7],[2,3,2,4,2,7,1,9,2,9,3,9,4,9,7,9,8,9],[1,3,6,7,8],[]])
def oZ:FD:=⟨3,[],[],wE⟩
def qP:Cmd:=au (g0 Go.Proofs.Tryz.f60 [[1,2],[1,2,4],[]])
def j1:FD:=⟨2,[],[],qP⟩
def sO:Cmd:=au (g0 Go.Proofs.Tryz.f61 [[2,3,4],[2,3,4,9],[4],[4],[4,6,4,8]])
def mA:FD:=⟨2,[aU],[.cell 4 7 true],sO⟩
def kC:Cmd:=au (g0 Go.Proofs.Tryz.f64 [[2,3],[2,3,5,6],[1,2],[2,3,5,6,13],[16],[4],[4],[2,3,5,18],[4],[2,3,5,23],[1,2],[31],[1,2],[4],[4],[4],[0,2]])
def il:FD:=⟨2,[[]],[.t 4],kC⟩
def sP:Cmd:=au (g0 Go.Proofs.Tryz.f65 [[1],[2]])
def nM:FD:=⟨1,[[]],[.t 2],sP⟩
def apP:Cmd:=au (g0 Go.Proofs.Tryz.f69 [[1],[1,6],[2],[2]])
def fl:FD:=⟨1,[[]],[.t 2],apP⟩
def m8:Cmd:=au (g0 Go.Proofs.Tryz.f70 [[1],[],[1,3],[2],[13],[2],[2]])
def ap6:FD:=⟨1,[[]],[.t 2],m8⟩
def mB:Cmd:=au (g0 Go.Proofs.Tryz.f71 [[2,3],[2,3,5,6],[1,2],[2,3],[2,3,5,6,12],[4],[2,3,16],[4],[2,3,7],[4],[6,8,6,10]])
def iV:FD:=⟨2,[[]],[.t 4],mB⟩
def apQ:Cmd:=au (g0 Go.Proofs.Tryz.f72 [[1],[1,5],[1,3],[2],[2]])
def fg:FD:=⟨1,[[]],[.t 2],apQ⟩
def sR:Cmd:=au (g0 Go.Proofs.Tryz.f73 [[2,3,4],[2,3,4,8],[4],[4]])
def mC:FD:=⟨2,[aG],[.cell 4 3 true],sR⟩
def sT:Cmd:=au (g0 Go.Proofs.Tryz.f74 [[2,3,4],[2,3,4,8],[4],[4]])
def mD:FD:=⟨2,[aG],[.cell 4 3 true],sT⟩
def Co:dm:=[[1],[1,18],[2],[1,20,21,22],[],[1,20,21,22],[1],[1,20,21,22,23],[1,20,21,22],[1,3,4,20,21,22],[1,3,4,20,21,22,45],[2],[1,3,4,20,21,22,54],[2],[1,20,21,22,69],[],[2],[1,20,21,22],[2]]
def cR:Cmd:=au (g1 [] Go.Proofs.Tryz.f75 Co 1 [])
@[go_sem] def Oc(a:Cmd):Cmd:=au (g1 [] Go.Proofs.Tryz.f75 Co 0 [a])
def lH:Cmd:=Oc cR
def iM:FD:=⟨1,[[]],[.t 2],lH⟩
def ara:Cmd:=au (g0 Go.Proofs.Tryz.f76 [[1],[2]])
def aqU:FD:=⟨1,[[]],[.t 2],ara⟩
def arb:dm:=[[2,3,4,6],[3,4,6,10,11],[3,6],[3,4,6,10,11],[3,4,6],[3,4,6,10,11,12],[3,4,6,10,11],[3,4,6,8,9,10,11],[3,4,6,8,10,11,20],[6,7],[3,4,6,10,11],[3,4,6,10,11],[6,7]]
def apV:Cmd:=au (g1 [] Go.Proofs.Tryz.f77 arb 1 [])
@[go_sem] def ar1(a:Cmd):Cmd:=au (g1 [] Go.Proofs.Tryz.f77 arb 0 [a])
def arf:Cmd:=ar1 apV
def aq0:FD:=⟨3,[aG,[]],[.cell 6 3 true,.t 7],arf⟩
def aqO:Cmd:=au (g0 Go.Proofs.Tryz.f78 [[2,3,4],[2,3,4,13],[4,5],[4,5]])
def aqt:FD:=⟨2,[aG,[]],[.cell 4 3 true,.t 5],aqO⟩
def pM:Cmd:=au (g0 Go.Proofs.Tryz.f79 [[1,2],[4]])
def kD:FD:=⟨2,[[]],[.t 4],pM⟩
def Rk:Cmd:=au (g0 Go.Proofs.Tryz.f82 [[2,3],[4]])
def Od:FD:=⟨2,[[]],[.t 4],Rk⟩
def aoX:dm:=[[0,1],[0,1,7,8],[],[0,1,7,8],[1000],[0,1,7,8,9],[0,1,7,8],[0,1,5,7,8],[0,1,5,7,8,16],[4],[0,1,7,8],[4]]
def aqh:Cmd:=au (g1 [] Go.Proofs.Tryz.f83 aoX 1 [])
@[go_sem] def aqn(a:Cmd):Cmd:=au (g1 [] Go.Proofs.Tryz.f83 aoX 0 [a])
def aqo:Cmd:=aqn aqh
def ao4:FD:=⟨2,[[]],[.t 4],aqo⟩
def FM:dm:=[[0],[0,7],[2],[0,3],[3,4],[3],[3,4],[],[3,4,19],[3,4],[3,4],[3,4],[2]]
def rh:Cmd:=au (g1 [] Go.Proofs.Tryz.f84 FM 1 [])
@[go_sem] def Uq(a:Cmd):Cmd:=au (g1 [] Go.Proofs.Tryz.f84 FM 0 [a])
def BG:Cmd:=Uq rh
def vk:FD:=⟨1,[[]],[.t 2],BG⟩
def ar2:Cmd:=au (g0 Go.Proofs.Tryz.f85 [[0],[2]])
def arc:FD:=⟨1,[[]],[.t 2],ar2⟩
def apM:Cmd:=au (g1 [(83,1),(35,0)] Go.Proofs.Tryz.f86 [[0,1,5],[0,1,5,14],[0,1,5,6,7],[0,1,5,6,26],[],[1000013,33,5,8,8,9,5,10,5,12],[0,6,8,9],[4,14,8,14,9,14,10,14],[],[0,6,8,67],[],[0,6,8,73],[],[],[]] 0 [])
def aiG:FD:=⟨3,[],[],apM⟩
def ao5:Cmd:=au (g0 Go.Proofs.Tryz.f87 [[0,2],[0,2],[0,2,4],[2,3],[4,5],[0,2,15],[2,3],[2,3]])
def ag9:FD:=⟨1,[[.o 0 [],.o 5 [.o 2 [],.o 0 [],.o 2 [],.o 0 []]],[]],[.cell 2 2 true,.t 3],ao5⟩
def wF:dm:=[[0],[5,6,7],[],[5,6,7],[],[5,6,7,8],[5,6,7],[4,5,6,7],[5,6,7,17],[2],[5,6,7],[2]]
def fy:Cmd:=au (g1 [] Go.Proofs.Tryz.f88 wF 1 [])
@[go_sem] def Ge(a:Cmd):Cmd:=au (g1 [] Go.Proofs.Tryz.f88 wF 0 [a])
def rz:Cmd:=Ge fy
def lq:FD:=⟨1,[[]],[.t 2],rz⟩
def mE:Cmd:=au (g0 Go.Proofs.Tryz.f89 [[0],[2]])
def iH:FD:=⟨1,[[]],[.t 2],mE⟩
def Di:Cmd:=au (g0 Go.Proofs.Tryz.f90 [[1,2,4],[4,5]])
def wm:FD:=⟨2,[aG,[]],[.cell 4 3 true,.t 5],Di⟩
def HI:Cmd:=au (g0 Go.Proofs.Tryz.f91 [[1,2,4],[4,5]])
def zW:FD:=⟨2,[aG,[]],[.cell 4 3 true,.t 5],HI⟩
def n9:Cmd:=au (g0 Go.Proofs.Tryz.f92 [[1,3,4,6,8],[4,6,8,14],[8],[8]])
def jB:FD:=⟨4,[aU],[.cell 8 7 true],n9⟩
def eR:dm:=[[0,1],[0,1,7,8],[],[0,1,7,8],[],[0,1,7,8,9],[0,1,7,8],[0,1,5,7,8],[0,1,5,7,8,16],[4],[0,1,7,8],[4]]
def jC:Cmd:=au (g1 [] Go.Proofs.Tryz.f93 eR 1 [])
@[go_sem] def kE(a:Cmd):Cmd:=au (g1 [] Go.Proofs.Tryz.f93 eR 0 [a])
def kF:Cmd:=kE jC
def eS:FD:=⟨2,[[]],[.t 4],kF⟩
def FN:dm:=[[0,3],[3,24],[4],[3,5],[3,5,6],[5],[3,5,6],[3],[3,5,6,29],[3,5,6],[3,5,6,45],[4],[3,5,6],[3,5,6],[4]]
def gF:Cmd:=au (g1 [] Go.Proofs.Tryz.f94 FN 1 [])
@[go_sem] def Ur(a:Cmd):Cmd:=au (g1 [] Go.Proofs.Tryz.f94 FN 0 [a])
def pN:Cmd:=Ur gF
def kT:FD:=⟨2,[[]],[.t 4],pN⟩
def Ay:dm:=[[0,1],[0,1,5,6],[0,1,5,6,14],[4],[0,1,17],[4],[0,1,7],[],[0,1,7],[],[0,1,7,21],[0,1,7],[0,1,7,32],[],[4],[0,1,7,41],[],[4],[0,1,7],[4]]
def ic:Cmd:=au (g1 [] Go.Proofs.Tryz.f95 Ay 1 [])
@[go_sem] def L9(a:Cmd):Cmd:=au (g1 [] Go.Proofs.Tryz.f95 Ay 0 [a])
def m9:Cmd:=L9 ic
def jn:FD:=⟨2,[[]],[.t 4],m9⟩
def aqZ:Cmd:=au (g0 Go.Proofs.Tryz.f96 [[2,3],[4]])
def aqy:FD:=⟨2,[[]],[.t 4],aqZ⟩
def aiJ:dm:=[[0],[0,3],[0,3,9,10,11],[0,3],[0,3,9,10,11],[],[0,3,9,10,11,12],[0,3,9,10,11],[0,3,5,9,10,11],[0,3,9,10,11],[0,3,9,10,11,20],[0,3,9,10,11],[0,3,9,10,11],[0,6],[6,25,26,27],[6],[6,25,26,27],[33,2192],[6,25,26,27,28],[6,25,26,27],[6,8,25,26,27],[6,25,26,27],[6,25,26,27],[2]]
def aiF:Cmd:=au (g1 [] Go.Proofs.Tryz.f97 aiJ 1 [])
def apR:Cmd:=au (g1 [] Go.Proofs.Tryz.f97 aiJ 2 [])
@[go_sem] def aqB(a b:Cmd):Cmd:=au (g1 [] Go.Proofs.Tryz.f97 aiJ 0 [a,b])
def apY:Cmd:=aqB aiF apR
def aiK:FD:=⟨1,[[.o 5 [.o 2 [],.o 0 [],.o 2 [],.o 0 []]]],[.t 2],apY⟩
def y6:Cmd:=au (g0 Go.Proofs.Tryz.f98 [[2,3,4,6],[6,7]])
def rA:FD:=⟨3,[aG,[]],[.cell 6 3 true,.t 7],y6⟩
def Cp:Cmd:=au (g0 Go.Proofs.Tryz.f99 [[2,3,4,6],[6,7]])
def ur:FD:=⟨3,[aG,[]],[.cell 6 3 true,.t 7],Cp⟩
def ir:Cmd:=au (g0 Go.Proofs.Tryz.f100 [[2,3,4],[2,3,4,15],[4,5],[2,3,4,26],[4,5],[2,3,4,36],[2,4],[4,5],[2,3,4,6],[4,5]])
def fJ:FD:=⟨2,[aG,[]],[.cell 4 3 true,.t 5],ir⟩
def xR:Cmd:=au (g0 Go.Proofs.Tryz.f101 [[0,2],[0,2,3],[0,2,3,7],[0,2,3],[2]])
def ri:FD:=⟨1,[aG],[.cell 2 3 true],xR⟩
def aqA:Cmd:=au (g0 Go.Proofs.Tryz.f102 [[0],[0,4],[2],[2]])
def aqc:FD:=⟨1,[[]],[.t 2],aqA⟩
def ut:Cmd:=au (g0 Go.Proofs.Tryz.f103 [[1,2],[1,2,6],[2],[2],[2,4]])
def oe:FD:=⟨1,[aU],[.cell 2 7 true],ut⟩
def xS:dm:=[[2,3,4,5,6,10],[2,3,4,10,11],[2,3,4,10,11,12],[2,3,4,10,12,40,41],[10,12],[2,3,4,10,12,40,41],[10,12],[2,3,4,10,12,40,41,42],[2,3,4,10,12,40,41],[2,3,4,10,12,13,14,40,41],[2,3,4,10,12,13,14,15,16,40,41],[2,3,4,10,12,13,15,16,17,18,40,41],[2,3,4,10,12,13,15,17,40,41,70],[10],[2,3,4,10,12,13,15,17,40,41,80],[2,3,4,10,12,13,17,40,41],[2,3,4,10,12,17,40,41,91],[2,3,4,10,12,40,41],[2,3,4,10,12,40,41],[10]]
def bc:Cmd:=au (g1 [] Go.Proofs.Tryz.f104 xS 1 [])
@[go_sem] def HJ(a:Cmd):Cmd:=au (g1 [] Go.Proofs.Tryz.f104 xS 0 [a])
def y7:Cmd:=HJ bc
def rB:FD:=⟨5,[aU],[.cell 10 7 true],y7⟩
def y8:Cmd:=au (g0 Go.Proofs.Tryz.f105 [[2,3,4,6],[6,7]])
def rC:FD:=⟨3,[aG,[]],[.cell 6 3 true,.t 7],y8⟩
def Cq:Cmd:=au (g0 Go.Proofs.Tryz.f106 [[2,3,4,6],[6,7]])
def uu:FD:=⟨3,[aG,[]],[.cell 6 3 true,.t 7],Cq⟩
def Ws:Cmd:=au (g0 Go.Proofs.Tryz.f107 [[0,2],[0,2,3],[0,2,3,7],[0,2,3],[2]])
def Us:FD:=⟨1,[aG],[.cell 2 3 true],Ws⟩
def gU:dm:=[[0,1],[0,1,7,8],[],[0,1,7,8],[],[0,1,7,8,9],[0,1,7,8],[0,1,5,7,8],[0,1,5,7,8,16],[4],[0,1,7,8],[4]]
def mF:Cmd:=au (g1 [] Go.Proofs.Tryz.f108 gU 1 [])
@[go_sem] def oJ(a:Cmd):Cmd:=au (g1 [] Go.Proofs.Tryz.f108 gU 0 [a])
def oK:Cmd:=oJ mF
def gV:FD:=⟨2,[[]],[.t 4],oK⟩
def fO:Cmd:=au (g0 Go.Proofs.Tryz.f109 [[1,2,3,6],[1,2,3,6,27],[6],[1,2,3,6,30],[6],[1,2,3,6,35],[1,2,3,6],[1,2,3,6,7,8],[6,7,8,9,10],[6]])
def dQ:FD:=⟨3,[aU],[.cell 6 7 true],fO⟩
def rj:Cmd:=au (g0 Go.Proofs.Tryz.f110 [[1],[1,11],[2],[2]])
def lI:FD:=⟨1,[[]],[.t 2],rj⟩
def o5:dm:=[[0,1],[0,1,7,8],[],[0,1,7,8],[],[0,1,7,8,9],[0,1,7,8],[0,1,5,7,8],[0,1,5,7,8,16],[4],[0,1,7,8],[4]]
def cM:Cmd:=au (g1 [] Go.Proofs.Tryz.f111 o5 1 [])
@[go_sem] def yM(a:Cmd):Cmd:=au (g1 [] Go.Proofs.Tryz.f111 o5 0 [a])
def qt:Cmd:=yM cM
def jD:FD:=⟨2,[[]],[.t 4],qt⟩
def fL:dm:=[[0,1],[0,1,10],[0,1],[0,5,6],[0,6,26],[0,6],[0,7],[7,8],[7],[7,8],[30],[7,8,37],[7,8],[7,8],[],[4]]
def bN:Cmd:=au (g1 [] Go.Proofs.Tryz.f112 fL 1 [])
@[go_sem] def lJ(a:Cmd):Cmd:=au (g1 [] Go.Proofs.Tryz.f112 fL 0 [a])
def fR:Cmd:=lJ bN
def cZ:FD:=⟨2,[[]],[.t 4],fR⟩
def vM:dm:=[[0,1],[0,1,5],[5,13,14,15],[5],[5,13,14,15],[1000],[5,13,14,15,16],[5,13,14,15],[5,7,13,14,15],[5,13,14,15],[5,13,14,15],[4]]
def gp:Cmd:=au (g1 [] Go.Proofs.Tryz.f113 vM 1 [])
@[go_sem] def Fh(a:Cmd):Cmd:=au (g1 [] Go.Proofs.Tryz.f113 vM 0 [a])
def wG:Cmd:=Fh gp
def o7:FD:=⟨2,[[]],[.t 4],wG⟩
def tO:dm:=[[0,1,2,6],[0,1,2,6,15,16],[],[0,1,2,6,15,16],[1000,1001,1002,1003,1004],[0,1,2,6,15,16,17],[0,1,2,6,15,16],[0,1,2,6,7,15,16],[0,1,2,6,7,15,16,31],[],[0,1,2,6,15,16],[0,1,2,6,15,16]]
def lK:Cmd:=au (g1 [] Go.Proofs.Tryz.f114 tO 1 [])
@[go_sem] def Dj(a:Cmd):Cmd:=au (g1 [] Go.Proofs.Tryz.f114 tO 0 [a])
def pe:Cmd:=Dj lK
def jT:FD:=⟨3,[],[],pe⟩
def ap2:dm:=[[0,1,2,3,4,5,13,14],[0,1,2,3,5],[0,1,2,3,4,5,13,14],[1000,1001,1002,1003,1004],[0,1,2,3,4,5,13,14,15],[0,1,2,3,4,5,13,14],[0,1,2,3,4,5,8,13,14],[0,1,2,3,4,5,8,9,13,14],[0,1,2,3,4,5,13,14],[0,1,2,3,4,5,8,9,13,14],[1000,1001,1002,1003,1004],[0,1,2,3,4,5,8,9,13,14,21],[0,1,2,3,4,5,8,9,13,14],[0,1,2,3,4,5,8,9,10,13,14],[0,1,2,3,4,5,8,9,13,14],[0,24,3,24,5,24,6,24,9,24,12,24,0,25,3,25],[0,1,2,3,4,5,8,9,13,14],[0,1,2,3,4,5,13,14],[0,1,2,3,5,11],[0,1,2,3,5,11,12],[],[0,1,2,3,5,11,12],[11,1000,1001,1002,1003,1004],[0,1,2,3,5,11,12,61],[0,1,2,3,5,11,12],[0,1,2,3,5,11,12],[0,1,2,3,5,11,12],[0,22,3,22],[0,1,2,3,5,11,12]]
def fG:Cmd:=au (g1 [] Go.Proofs.Tryz.f115 ap2 1 [])
def fH:Cmd:=au (g1 [] Go.Proofs.Tryz.f115 ap2 2 [])
@[go_sem] def zX(a b:Cmd):Cmd:=au (g1 [] Go.Proofs.Tryz.f115 ap2 3 [a,b])
def apU:Cmd:=zX fG fH
@[go_sem] def CG(a b c:Cmd):Cmd:=au (g1 [] Go.Proofs.Tryz.f115 ap2 0 [a,b,c])
def tP:Cmd:=CG fG fH apU
def mG:FD:=⟨6,[],[],tP⟩
def xT:Cmd:=au (g0 Go.Proofs.Tryz.f116 [[0,4,5,6],[6],[]])
def qB:FD:=⟨3,[aU],[.cell 6 7 true],xT⟩
def xU:Cmd:=au (g0 Go.Proofs.Tryz.f117 [[0,4,5,6],[6],[]])
def qC:FD:=⟨3,[aU],[.cell 6 7 true],xU⟩
def fY:dm:=[[0,1,2,3,6],[0,1,2,3,6,7],[0,1,2,3],[0,1,2,3,6,7],[6,1000,1001,1002,1003],[0,1,2,3,6,7,14],[0,1,2,3,6,7],[0,1,2,3,6,7],[0,6,1,6,0,7,1,7,6,12,7,12,8,12,10,12,11,12,6,15,7,15,8,15,10,15,11,15],[0,1,2,3,6,7],[0,25,3,25],[0,1,2,3,6,7],[0,1,2,3,8],[],[0,1,2,3,8],[1000,1001,1002,1003],[0,1,2,3,8,63],[0,1,2,3,8],[0,1,2,3,8,9],[0,1,2,3,8],[0,1,2,3,8,9],[1000,1001,1002,1003],[0,1,2,3,8,9,69],[0,1,2,3,8,9],[0,1,2,3,8,9],[0,33,3,33],[0,1,2,3,8,9],[0,1,2,3,8]]
def du:Cmd:=au (g1 [] Go.Proofs.Tryz.f118 fY 1 [])
@[go_sem] def vN(a:Cmd):Cmd:=au (g1 [] Go.Proofs.Tryz.f118 fY 2 [a])
def fm:Cmd:=vN du
def fq:Cmd:=au (g1 [] Go.Proofs.Tryz.f118 fY 3 [])
@[go_sem] def xV(a b c:Cmd):Cmd:=au (g1 [] Go.Proofs.Tryz.f118 fY 0 [a,b,c])
def pf:Cmd:=xV du fm fq
def jd:FD:=⟨4,[],[],pf⟩
def lL:Cmd:=au (g0 Go.Proofs.Tryz.f119 [[2,3,4,6],[2,3,4,6,21],[6],[6]])
def iI:FD:=⟨3,[aU],[.cell 6 7 true],lL⟩
def wW:Cmd:=au (g0 Go.Proofs.Tryz.f120 [[1],[1,6],[2],[8],[2],[2]])
def qQ:FD:=⟨1,[[]],[.t 2],wW⟩
def Dk:Cmd:=au (g0 Go.Proofs.Tryz.f121 [[1],[1,6],[2],[2],[2,4]])
def wX:FD:=⟨1,[[]],[.t 2],Dk⟩
def rW:Cmd:=au (g0 Go.Proofs.Tryz.f122 [[2,3,4],[2,3,4,11],[4],[2,3,4,16],[4],[2,3,4,5],[2,3,4,5,6,7],[6,8,6,10],[2,3,4,5,6,7,41],[4],[1,4],[2,3,4,5,6,7,52],[4],[1,4],[4],[1,4]])
def mH:FD:=⟨2,[aG],[.cell 4 3 true],rW⟩
def Dl:Cmd:=au (g0 Go.Proofs.Tryz.f123 [[1,2],[2]])
def wY:FD:=⟨1,[aG],[.cell 2 3 true],Dl⟩
def Gf:Cmd:=au (g0 Go.Proofs.Tryz.f126 [[0,1,2,6],[0,1,2,6],[0,1,2,6,12],[6],[0,1,2,6,7],[6]])
def y9:FD:=⟨3,[aG],[.cell 6 3 true],Gf⟩
def ie:Cmd:=au (g0 Go.Proofs.Tryz.f127 [[1],[1,3],[2]])
def fh:FD:=⟨1,[[]],[.t 2],ie⟩
def sU:Cmd:=au (g0 Go.Proofs.Tryz.f128 [[1],[1,11],[2],[2],[2,4]])
def nc:FD:=⟨1,[[]],[.t 2],sU⟩
def Az:dm:=[[0,1],[0,1],[0,1,14],[19],[4],[4],[0,1,5],[],[0,1,5],[],[0,1,5,24],[0,1,5],[0,1,5],[0,1,5,27],[],[4],[0,1,5,37],[],[4],[0,1,5],[4]]
def fP:Cmd:=au (g1 [] Go.Proofs.Tryz.f129 Az 1 [])
@[go_sem] def Ma(a:Cmd):Cmd:=au (g1 [] Go.Proofs.Tryz.f129 Az 0 [a])
def Cr:Cmd:=Ma fP
def lM:FD:=⟨2,[[]],[.t 4],Cr⟩
def xW:Cmd:=au (g0 Go.Proofs.Tryz.f130 [[0,1],[5],[4]])
def qD:FD:=⟨2,[[.o 2 []]],[.t 4],xW⟩
def it:Cmd:=au (g0 Go.Proofs.Tryz.f131 [[1],[2]])
def fA:FD:=⟨1,[[]],[.t 2],it⟩
def sW:Cmd:=au (g0 Go.Proofs.Tryz.f132 [[0,1],[4]])
def jW:FD:=⟨2,[[]],[.t 4],sW⟩
def uw:Cmd:=au (g0 Go.Proofs.Tryz.f133 [[0],[2]])
def oi:FD:=⟨1,[[]],[.t 2],uw⟩
def AA:dm:=[[0],[0,3],[3,6,7,8],[3],[3,6,7,8],[],[3,6,7,8,9],[3,6,7,8],[3,5,6,7,8],[3,6,7,8],[3,6,7,8],[2]]
def mI:Cmd:=au (g1 [] Go.Proofs.Tryz.f134 AA 1 [])
@[go_sem] def Mb(a:Cmd):Cmd:=au (g1 [] Go.Proofs.Tryz.f134 AA 0 [a])
def Cs:Cmd:=Mb mI
def uz:FD:=⟨1,[[]],[.t 2],Cs⟩
def xX:Cmd:=au (g0 Go.Proofs.Tryz.f135 [[0,1],[0,1,5],[0,1,5,12],[4],[4]])
def rk:FD:=⟨2,[[]],[.t 4],xX⟩
def aqP:Cmd:=au (g0 Go.Proofs.Tryz.f136 [[2,3,4],[2,3,4,24],[2,3,4,28],[2,4],[4,5],[2,3,4,6],[2,3,4,6,7,8],[1,2],[2,3,4,6,63],[4,5],[2,3,4,6,9,10],[6,8,6,10],[2,3,4,6,9,10,83],[2,4,6,11],[4,5],[2,3,4,6,9,10,101],[2,4,6,9,10],[2,4,6,13],[4,5]])
def apX:FD:=⟨2,[aG,[]],[.cell 4 3 true,.t 5],aqP⟩
def rD:Cmd:=au (g0 Go.Proofs.Tryz.f137 [[1],[2]])
def lu:FD:=⟨1,[[]],[.t 2],rD⟩
def AB:dm:=[[0,1],[0,1,10],[15],[4],[4],[0,1,5],[],[0,1,5],[],[0,1,5,20],[0,1,5],[0,1,5,31],[],[4],[0,1,5,40],[],[4],[0,1,5],[4]]
def dC:Cmd:=au (g1 [] Go.Proofs.Tryz.f139 AB 1 [])
@[go_sem] def Mc(a:Cmd):Cmd:=au (g1 [] Go.Proofs.Tryz.f139 AB 0 [a])
def ng:Cmd:=Mc dC
def pP:FD:=⟨2,[[]],[.t 4],ng⟩
def aiv:dm:=[[0,1,2],[0,1,2,8],[0,1,2,8,9,10],[0,1,2,8,9],[0,1,2,8,9,10],[],[0,1,2,8,9,10,17],[0,1,2,8,9,10],[0,1,2,8,9,10,11],[0,1,2,8,9,10,11,31],[0,1,2,8,9,10],[0,1,2,8,9,10],[6,7]]
def aa6:Cmd:=au (g1 [] Go.Proofs.Tryz.f140 aiv 1 [])
@[go_sem] def ap7(a:Cmd):Cmd:=au (g1 [] Go.Proofs.Tryz.f140 aiv 0 [a])
def aiH:Cmd:=ap7 aa6
def aey:FD:=⟨3,[[],[]],[.t 6,.t 7],aiH⟩
def aqH:Cmd:=au (g0 Go.Proofs.Tryz.f141 [[1,2],[4]])
def aqe:FD:=⟨2,[[]],[.t 4],aqH⟩
def aes:Cmd:=au (g0 Go.Proofs.Tryz.f142 [[0,1,2],[0,1,2],[0,1,2,7],[0,1,2,7,16],[6],[0,1,2,7,8],[0,1,2,7,8,22],[6],[0,1,2,7,8,31],[0,1,2,7,9],[0,1,7,9],[9],[],[6],[0,1,2,7,8],[0,1,2,7,8,68],[0,1,2],[],[0],[7777777,200000],[6],[0,1,7],[0],[6]])
def aaF:FD:=⟨3,[[]],[.t 6],aes⟩
def ard:Cmd:=au (g0 Go.Proofs.Tryz.f143 [[1,2],[1,2],[2]])
def aqV:FD:=⟨1,[aG],[.cell 2 3 true],ard⟩
def apZ:Cmd:=au (g1 [(31,2)] Go.Proofs.Tryz.f144 [[0,1,2],[0,1,2],[0,1,2,16],[6],[0,1,2,7],[0,7],[],[0],[7777777,100000,200000],[6]] 0 [])
def anN:FD:=⟨3,[[]],[.t 6],apZ⟩
def wo:Cmd:=au (g0 Go.Proofs.Tryz.f145 [[1,2,3,6],[1,2,3,6,8],[1,2,3,6,8,14],[6,7],[6,7],[1,3]])
def pR:FD:=⟨3,[aG,[]],[.cell 6 3 true,.t 7],wo⟩
def HK:dm:=[[0],[0,3],[0,3,4],[3],[0,3,4],[],[0,3,4,8],[0,3,4],[0,3,4],[0,3,4],[2]]
def s6:Cmd:=au (g1 [] Go.Proofs.Tryz.f146 HK 1 [])
@[go_sem] def Wt(a:Cmd):Cmd:=au (g1 [] Go.Proofs.Tryz.f146 HK 0 [a])
def Lv:Cmd:=Wt s6
def BH:FD:=⟨1,[[]],[.t 2],Lv⟩
def aoW:Cmd:=au (g0 Go.Proofs.Tryz.f147 [[0,1],[0,1,6],[0,1],[7777777,100000],[0,1],[0,1,16],[7777777,100000],[0],[7777777,100000],[4]])
def aeA:FD:=⟨2,[[]],[.t 4],aoW⟩
def qR:Cmd:=au (g0 Go.Proofs.Tryz.f148 [[2,3,4,5,8],[2,3,4,5,8,10],[2,3,4,5,8,10,19],[8,9],[2,3,4,5,8],[2,3,4,5,8,22],[8,9],[2,3,4,5,8,33],[8,9],[2,3,4,5,8,48],[1,2],[2,3,4,5,8],[2,3,4,8,11,12],[2,3,4,8,11,12,66],[8,9],[8,9]])
def jE:FD:=⟨4,[aG,[]],[.cell 8 3 true,.t 9],qR⟩
def Ct:Cmd:=au (g0 Go.Proofs.Tryz.f149 [[0],[2]])
def uA:FD:=⟨1,[[]],[.t 2],Ct⟩
def wr:Cmd:=au (g0 Go.Proofs.Tryz.f150 [[0,1],[0,1,9],[4,5],[4,5]])
def pS:FD:=⟨2,[[.o 2 []],[]],[.t 4,.t 5],wr⟩
def rF:Cmd:=au (g0 Go.Proofs.Tryz.f151 [[1,2],[1,2,6],[2,3],[2,3]])
def lv:FD:=⟨1,[aG,[]],[.cell 2 3 true,.t 3],rF⟩
def pg:Cmd:=au (g0 Go.Proofs.Tryz.f152 [[0,1,2,6],[0,1,2,6],[0,1,2,6,14],[6],[0,1,2,6,7],[0,2,6,7,8],[6]])
def jU:FD:=⟨3,[aG],[.cell 6 3 true],pg⟩
def s7:Cmd:=au (g0 Go.Proofs.Tryz.f153 [[1,2],[1,2,11],[2],[2],[1,5,5,7]])
def ni:FD:=⟨1,[aG],[.cell 2 3 true],s7⟩
def qS:Cmd:=au (g0 Go.Proofs.Tryz.f154 [[2,3,4,5,8],[2,3,4,5,8,10],[2,3,4,5,8,10,19],[8,9],[2,3,4,5,8,31],[8,9],[2,3,4,5,8,11],[8,9]])
def lN:FD:=⟨4,[aG,[]],[.cell 8 3 true,.t 9],qS⟩
def uB:Cmd:=au (g0 Go.Proofs.Tryz.f155 [[1,2],[1,2,10],[2],[1,2,3],[2,3,5],[2]])
def oj:FD:=⟨1,[aU],[.cell 2 7 true],uB⟩
def pT:Cmd:=au (g0 Go.Proofs.Tryz.f156 [[1,2,3,4,8],[1,2,3,4,8,14],[8,10,11],[8,9],[1,2,4,8,28],[8,9],[8,9]])
def kG:FD:=⟨4,[aG,[]],[.cell 8 3 true,.t 9],pT⟩
def HL:Cmd:=au (g0 Go.Proofs.Tryz.f157 [[0,1],[6,7],[4,5],[8,9],[4,5]])
def zY:FD:=⟨2,[[],[]],[.t 4,.t 5],HL⟩
def oA:Cmd:=au (g0 Go.Proofs.Tryz.f158 [[1],[],[1,3],[2],[1,8],[2],[13],[2],[2]])
def jF:FD:=⟨1,[[]],[.t 2],oA⟩
def ze:Cmd:=au (g0 Go.Proofs.Tryz.f159 [[2,3,4,6],[6,7]])
def rG:FD:=⟨3,[aG,[]],[.cell 6 3 true,.t 7],ze⟩
def Cu:Cmd:=au (g0 Go.Proofs.Tryz.f160 [[2,3,4,6],[6,7]])
def uC:FD:=⟨3,[aG,[]],[.cell 6 3 true,.t 7],Cu⟩
def FO:dm:=[[0,1],[0,1,5],[0,1,5,6],[0,1,5,6,7],[5,6],[0,1,5,6,7],[11,34],[0,1,5,6,7,15],[0,1,5,6,7],[0,1,5,7,8],[0,1,5,7,8],[0,1,5,6,7],[0,1,5,6,7],[4]]
def aqI:Cmd:=au (g1 [] Go.Proofs.Tryz.f161 FO 1 [])
@[go_sem] def Ut(a:Cmd):Cmd:=au (g1 [] Go.Proofs.Tryz.f161 FO 0 [a])
def HM:Cmd:=Ut aqI
def zZ:FD:=⟨2,[[.o 2 []]],[.t 4],HM⟩
def FP:dm:=[[0,1],[0,1,5],[0,1,5,6],[0,1,5,6,7],[5,6],[0,1,5,6,7],[49],[0,1,5,6,7,18],[0,1,5,6,7],[0,1,5,7,8],[0,1,5,7,8,25],[0,1,5,7,8],[0,1,5,7,8,36],[0,1,5,7,8],[0,1,5,7,8],[0,1,5,6,7],[0,1,5,6,7],[4]]
def dh:Cmd:=au (g1 [] Go.Proofs.Tryz.f162 FP 1 [])
@[go_sem] def Uu(a:Cmd):Cmd:=au (g1 [] Go.Proofs.Tryz.f162 FP 0 [a])
def HN:Cmd:=Uu dh
def Aa:FD:=⟨2,[[.o 2 []]],[.t 4],HN⟩
def Dm:dm:=[[0,1],[0,1,5],[0,1,5,6],[0,1,5,6,7],[5],[0,1,5,6,7],[41],[0,1,5,6,7,13],[0,1,5,6,7],[0,1,5,7,8],[0,1,5,7,8,20],[0,1,5,7,8],[0,1,5,7,9],[0,1,5,7,9],[0,1,5,6,7],[0,1,5,6,7],[4]]
def dL:Cmd:=au (g1 [] Go.Proofs.Tryz.f163 Dm 1 [])
@[go_sem] def Rl(a:Cmd):Cmd:=au (g1 [] Go.Proofs.Tryz.f163 Dm 0 [a])
def FQ:Cmd:=Rl dL
def xY:FD:=⟨2,[[.o 2 []]],[.t 4],FQ⟩
def FR:dm:=[[0],[0,3],[0,3],[0,3],[],[0,3,15],[0,3],[0,3],[2]]
def Cv:Cmd:=au (g1 [] Go.Proofs.Tryz.f164 FR 1 [])
@[go_sem] def Uv(a:Cmd):Cmd:=au (g1 [] Go.Proofs.Tryz.f164 FR 0 [a])
def HO:Cmd:=Uv Cv
def Ac:FD:=⟨1,[[.o 2 []]],[.t 2],HO⟩
def Do:dm:=[[0],[0,3],[3],[0,3],[],[0,3,14],[0,3],[0,3],[2]]
def pU:Cmd:=au (g1 [] Go.Proofs.Tryz.f165 Do 1 [])
@[go_sem] def Rm(a:Cmd):Cmd:=au (g1 [] Go.Proofs.Tryz.f165 Do 0 [a])
def FS:Cmd:=Rm pU
def xZ:FD:=⟨1,[[]],[.t 2],FS⟩
def Dp:dm:=[[0,1],[0,1,12],[4],[0,1],[0,1,5],[0,1,5,6],[5],[0,1,5,6],[51],[0,1,5,6,20],[0,1,5,6],[0,1,5,6,7],[0,1,5,6,7,32],[0,1,5,6,7],[0,1,5,6],[0,1,5,6],[4]]
def dM:Cmd:=au (g1 [] Go.Proofs.Tryz.f166 Dp 1 [])
@[go_sem] def Rn(a:Cmd):Cmd:=au (g1 [] Go.Proofs.Tryz.f166 Dp 0 [a])
def Ad:Cmd:=Rn dM
def s9:FD:=⟨2,[[.o 2 []]],[.t 4],Ad⟩
def zf:dm:=[[0],[0,3],[0,3],[0,3],[],[0,3,15],[0,3],[0,3],[2]]
def iW:Cmd:=au (g1 [] Go.Proofs.Tryz.f167 zf 1 [])
@[go_sem] def Jz(a:Cmd):Cmd:=au (g1 [] Go.Proofs.Tryz.f167 zf 0 [a])
def AC:Cmd:=Jz iW
def td:FD:=⟨1,[[.o 2 []]],[.t 2],AC⟩
def nj:Cmd:=au (g0 Go.Proofs.Tryz.f168 [[0,1],[0,1],[0,1,6],[4,5],[0,1,10],[4,5],[4,5]])
def jo:FD:=⟨2,[[.o 2 []],[]],[.t 4,.t 5],nj⟩
def lO:dm:=[[0,1],[0,1,7,8],[],[0,1,7,8],[],[0,1,7,8,9],[0,1,7,8],[0,1,5,7,8],[0,1,5,7,8,16],[4],[0,1,7,8],[4]]
def te:Cmd:=au (g1 [] Go.Proofs.Tryz.f169 lO 1 [])
@[go_sem] def vO(a:Cmd):Cmd:=au (g1 [] Go.Proofs.Tryz.f169 lO 0 [a])
def vP:Cmd:=vO te
def lP:FD:=⟨2,[[]],[.t 4],vP⟩
def kH:Cmd:=au (g0 Go.Proofs.Tryz.f170 [[0,1],[0,1,5],[0,1,5,6],[0,1,6,11],[12],[4],[4],[0,1,13],[4],[0,1,16],[4],[19],[4],[4]])
def gW:FD:=⟨2,[[]],[.t 4],kH⟩
def ns:dm:=[[0,1],[0,1,9,10,11],[0,1],[0,1,9,10,11],[],[0,1,9,10,11,12],[0,1,9,10,11],[0,1,5,6,9,10,11],[0,1,5,6,9,10,11,19],[4],[0,1,6,7,9,10,11],[0,1,8,9,10,11],[0,1,8,9,10,11,28],[4],[0,1,9,10,11],[35],[4],[4]]
def dk:Cmd:=au (g1 [] Go.Proofs.Tryz.f171 ns 1 [])
@[go_sem] def wZ(a:Cmd):Cmd:=au (g1 [] Go.Proofs.Tryz.f171 ns 0 [a])
def je:Cmd:=wZ dk
def fK:FD:=⟨2,[[]],[.t 4],je⟩
def ws:Cmd:=au (g0 Go.Proofs.Tryz.f172 [[0,1],[0,1,9],[4,5],[4,5]])
def pW:FD:=⟨2,[[.o 2 []],[]],[.t 4,.t 5],ws⟩
def rm:Cmd:=au (g0 Go.Proofs.Tryz.f173 [[0,1],[0,1],[0,1,6],[4,5],[0,1,11],[4,5],[4,5]])
def lQ:FD:=⟨2,[[.o 2 []],[]],[.t 4,.t 5],rm⟩
def kZ:Cmd:=au (g0 Go.Proofs.Tryz.f177 [[0],[0,4],[2],[2]])
def gq:FD:=⟨1,[[.o 2 []]],[.t 2],kZ⟩
def AD:dm:=[[0,1],[0,7,8,9],[0],[0,7,8,9],[],[0,7,8,9,10],[0,7,8,9],[0,6,7,8,9],[0,7,8,9,15],[4],[0,7,8,9],[19],[4],[4]]
def jG:Cmd:=au (g1 [] Go.Proofs.Tryz.f178 AD 1 [])
@[go_sem] def Md(a:Cmd):Cmd:=au (g1 [] Go.Proofs.Tryz.f178 AD 0 [a])
def rn:Cmd:=Md jG
def lR:FD:=⟨2,[[]],[.t 4],rn⟩
def pX:Cmd:=au (g0 Go.Proofs.Tryz.f179 [[0,2,3,5,8],[0,8,10,11],[8,10,11,25],[8,10,11],[8,9]])
def kJ:FD:=⟨4,[aG,[]],[.cell 8 3 true,.t 9],pX⟩
def HP:Cmd:=au (g0 Go.Proofs.Tryz.f180 [[1,2],[2]])
def Ae:FD:=⟨1,[[.o 2 [],.o 0 [],.o 0 []]],[.cell 2 3 true],HP⟩
def FT:Cmd:=au (g0 Go.Proofs.Tryz.f181 [[2,3,4,6],[3,4,6,8],[1,3],[3,4,6,8,31],[1,2],[3,4,6,8],[3,4,6,8,9],[3,4,6,8,9],[3,4,6,8,9,11],[3,4,6,8,9,11,46],[3,4,6,8,9,10,11],[3,4,6,8,9,10,11],[6,8,9,10,11,68],[6,8,11,12],[6,7],[6,8,9,10,11,79],[6,8,9,10,11],[6,8,9,10,11,89],[6,8,14],[6,7],[6,8,11,16],[6,7]])
def pi:FD:=⟨3,[[.o 2 [],.o 0 [],.o 0 []],[]],[.cell 6 3 true,.t 7],FT⟩
def uD:Cmd:=au (g0 Go.Proofs.Tryz.f182 [[0],[0],[0,7],[2],[2]])
def oB:FD:=⟨1,[[]],[.t 2],uD⟩
def AE:Cmd:=au (g0 Go.Proofs.Tryz.f183 [[0],[2]])
def th:FD:=⟨1,[[]],[.t 2],AE⟩
def uE:Cmd:=au (g0 Go.Proofs.Tryz.f184 [[0],[0],[0,8],[2,3],[2,3]])
def oC:FD:=⟨1,[[.o 2 []],[]],[.t 2,.t 3],uE⟩
def uF:dm:=[[0,1],[0,1,5],[1,5,18,19,20],[5],[1,5,18,19,20],[17],[1,5,18,19,20,21],[1,5,18,19,20],[1,5,6,7,18,19,20],[1,5,6,7,8,18,19,20],[1,5,6,7,8,18,19,20,25,26,27],[1,5,6,8,18,19,20],[1,5,6,7,8,18,19,20,25,26,27],[17],[1,5,6,7,8,18,19,20,25,26,27,28],[1,5,6,7,8,18,19,20,25,26,27],[1,5,6,7,8,9,10,18,19,20,25,26,27],[1,5,6,7,9,11,18,19,20,25,26,27],[1,5,6,7,8,18,19,20,25,26,27],[1,5,6,7,8,18,19,20,25,26,27],[1,5,18,19,20],[1,5,18,19,20],[4]]
def jH:Cmd:=au (g1 [] Go.Proofs.Tryz.f185 uF 1 [])
@[go_sem] def Gg(a:Cmd):Cmd:=au (g1 [] Go.Proofs.Tryz.f185 uF 2 [a])
def mJ:Cmd:=Gg jH
@[go_sem] def Me(a b:Cmd):Cmd:=au (g1 [] Go.Proofs.Tryz.f185 uF 0 [a,b])
def Cw:Cmd:=Me jH mJ
def uG:FD:=⟨2,[[.o 2 []]],[.t 4],Cw⟩
def wH:dm:=[[0],[0,3],[0,3],[0,3],[],[0,3,15],[0,3],[0,3],[2]]
def gX:Cmd:=au (g1 [] Go.Proofs.Tryz.f186 wH 1 [])
@[go_sem] def Gh(a:Cmd):Cmd:=au (g1 [] Go.Proofs.Tryz.f186 wH 0 [a])
def x5:Cmd:=Gh gX
def qE:FD:=⟨1,[[.o 2 []]],[.t 2],x5⟩
def Cx:dm:=[[0],[0,3],[3,6,7,8],[3],[3,6,7,8],[],[3,6,7,8,9],[3,6,7,8],[3,5,6,7,8],[3,5,6,7,8,13],[2],[3,6,7,8],[3,6,7,8],[2]]
def oE:Cmd:=au (g1 [] Go.Proofs.Tryz.f187 Cx 1 [])
@[go_sem] def Oe(a:Cmd):Cmd:=au (g1 [] Go.Proofs.Tryz.f187 Cx 0 [a])
def Dq:Cmd:=Oe oE
def wt:FD:=⟨1,[[]],[.t 2],Dq⟩
def rp:Cmd:=au (g0 Go.Proofs.Tryz.f188 [[0,1],[0,1],[0,1,6],[4,5],[0,1,10],[4,5],[4,5]])
def lS:FD:=⟨2,[[.o 2 []],[]],[.t 4,.t 5],rp⟩
def lT:Cmd:=au (g0 Go.Proofs.Tryz.f189 [[0],[2]])
def gN:FD:=⟨1,[[.o 2 []]],[.t 2],lT⟩
def uH:Cmd:=au (g0 Go.Proofs.Tryz.f190 [[1,2],[1,2,7],[2,3],[1,2,11],[2,3],[2,3],[2,4]])
def oF:FD:=⟨1,[aG,[]],[.cell 2 3 true,.t 3],uH⟩
def AF:Cmd:=au (g0 Go.Proofs.Tryz.f191 [[1,2],[1,2,7],[2,3],[2,3],[2,4]])
def tj:FD:=⟨1,[aG,[]],[.cell 2 3 true,.t 3],AF⟩
def wI:dm:=[[1,2,3,4,5,10],[1,2,4,5,10,12,13],[1,2,4,5,10,12,13,14],[10,12,13],[1,2,4,5,10,12,13,14],[5,10,12],[1,2,4,5,10,12,13,14,28],[1,2,4,5,10,12,13,14],[1,2,4,5,10,12,13,14],[1,2,4,5,10,12,13,14],[10,11]]
def aM:Cmd:=au (g1 [] Go.Proofs.Tryz.f192 wI 1 [])
@[go_sem] def Gi(a:Cmd):Cmd:=au (g1 [] Go.Proofs.Tryz.f192 wI 0 [a])
def x7:Cmd:=Gi aM
def lw:FD:=⟨5,[aG,[]],[.cell 10 3 true,.t 11],x7⟩
def Dr:Cmd:=au (g0 Go.Proofs.Tryz.f194 [[0,1],[0,1,6],[0,1,6,7],[0,1,6,7,8],[0,1,6,7,8,9],[0,1,6,7,8,9,10],[0,1,6,7,9,11],[0,1,6,7,9,11,12],[0,1,6,7,9,12,13],[0,1,7,9,12,13],[0,1,4],[4,5]])
def wu:FD:=⟨2,[[],[]],[.t 4,.t 5],Dr⟩
def qT:Cmd:=au (g0 Go.Proofs.Tryz.f195 [[2,3,4,5,8],[2,3,4,5,8,10],[2,3,4,5,8,10,21],[8,9],[2,3,4,5,8],[2,3,4,5,8,24],[8,9],[2,3,4,5,8,30],[8,9],[2,3,4,5,8,11],[3,5],[2,3,4,5,8,11,12,13],[3,5],[8,9],[1,14,3,14,7,14,11,14]])
def lU:FD:=⟨4,[aG,[]],[.cell 8 3 true,.t 9],qT⟩
def AG:dm:=[[0,1],[0,1],[0,1,5],[0,1,5,6],[1,5,6,21,22,23],[5,6],[1,5,6,21,22,23],[20,38],[1,5,6,21,22,23,24],[1,5,6,21,22,23],[1,5,6,8,21,22,23],[1,5,9,21,22,23],[1,5,6,21,22,23],[1,5,6,21,22,23],[4]]
def mK:Cmd:=au (g1 [] Go.Proofs.Tryz.f196 AG 1 [])
@[go_sem] def Mf(a:Cmd):Cmd:=au (g1 [] Go.Proofs.Tryz.f196 AG 0 [a])
def Cy:Cmd:=Mf mK
def uI:FD:=⟨2,[[]],[.t 4],Cy⟩
def x9:Cmd:=au (g0 Go.Proofs.Tryz.f197 [[0],[2]])
def qF:FD:=⟨1,[[]],[.t 2],x9⟩
def AH:dm:=[[0,1],[0,1,14],[0,1],[0,1,5],[0,1,5,6],[0,1,5,6,21,22,23],[0,5,6],[0,1,5,6,21,22,23],[20],[0,1,5,6,21,22,23,24],[0,1,5,6,21,22,23],[0,1,5,6,7,8,21,22,23],[0,1,5,6,7,8,9,21,22,23],[0,1,5,6,7,8,9,21,22,23,31],[0,1,5,6,7,8,9,21,22,23],[0,1,5,6,21,22,23],[0,1,5,6,21,22,23],[5],[4]]
def ig:Cmd:=au (g1 [] Go.Proofs.Tryz.f198 AH 1 [])
@[go_sem] def Mg(a:Cmd):Cmd:=au (g1 [] Go.Proofs.Tryz.f198 AH 0 [a])
def Cz:Cmd:=Mg ig
def pY:FD:=⟨2,[[.o 2 []]],[.t 4],Cz⟩
def AI:dm:=[[0,1],[0,1],[0,1,5],[0,1,5,6],[1,5,6,17,18,19],[5],[1,5,6,17,18,19],[16],[1,5,6,17,18,19,20],[1,5,6,17,18,19],[1,5,6,7,8,17,18,19],[1,5,6,7,8,9,17,18,19],[1,5,6,7,8,9,17,18,19,27],[1,5,6,7,8,9,17,18,19],[1,5,6,17,18,19],[1,5,6,17,18,19],[4]]
def jI:Cmd:=au (g1 [] Go.Proofs.Tryz.f199 AI 1 [])
@[go_sem] def Mh(a:Cmd):Cmd:=au (g1 [] Go.Proofs.Tryz.f199 AI 0 [a])
def CA:Cmd:=Mh jI
def uJ:FD:=⟨2,[[.o 2 []]],[.t 4],CA⟩
def tl:Cmd:=au (g0 Go.Proofs.Tryz.f202 [[0],[2]])
def mL:FD:=⟨1,[[]],[.t 2],tl⟩
def FU:Cmd:=au (g0 Go.Proofs.Tryz.f203 [[1,2,3,6],[1,2,3,6,8],[1,4],[1,2,3,6,8,10],[],[1,2,3,6,8,10,29],[1,2,6,8,9,10],[1,2,6,8,10,11,12],[1,2,6,8,9,10],[1,2,6,8,9,55],[1,2,6,8,9],[1,2,6,8,9,66],[1,6,67],[6,7],[1,6,9],[6,8,9],[6,7]])
def pj:FD:=⟨3,[aG,[]],[.cell 6 3 true,.t 7],FU⟩
def FV:Cmd:=au (g0 Go.Proofs.Tryz.f204 [[0,1],[5],[4]])
def ya:FD:=⟨2,[[.o 2 []]],[.t 4],FV⟩
def Af:Cmd:=au (g0 Go.Proofs.Tryz.f205 [[0,1],[0,1,11],[0,1],[0,1,6],[4,5]])
def tp:FD:=⟨2,[[.o 2 []],[]],[.t 4,.t 5],Af⟩
def Ds:Cmd:=au (g0 Go.Proofs.Tryz.f206 [[0,2],[0,2,4],[0],[0,2],[0,2,8],[0,2],[0,2],[2]])
def j8:FD:=⟨1,[[]],[.t 2],Ds⟩
def nT:Cmd:=au (g0 Go.Proofs.Tryz.f207 [[0,1],[4]])
def gG:FD:=⟨2,[[]],[.t 4],nT⟩
def yb:Cmd:=au (g0 Go.Proofs.Tryz.f208 [[0],[2]])
def qG:FD:=⟨1,[[]],[.t 2],yb⟩
def AJ:dm:=[[0,1],[0,1],[0,1,15],[4],[0,1],[0,1,5],[0,1,5,23,24,25],[5],[0,1,5,23,24,25],[22],[0,1,5,23,24,25,26],[0,1,5,23,24,25],[0,1,5,6,7,23,24,25],[0,1,5,6,8,23,24,25],[0,1,5,6,8,23,24,25,36],[0,1,5,6,8,23,24,25],[0,1,5,23,24,25],[0,1,5,23,24,25],[4]]
def jJ:Cmd:=au (g1 [] Go.Proofs.Tryz.f210 AJ 1 [])
@[go_sem] def Mi(a:Cmd):Cmd:=au (g1 [] Go.Proofs.Tryz.f210 AJ 0 [a])
def wv:Cmd:=Mi jJ
def pZ:FD:=⟨2,[[.o 2 []]],[.t 4],wv⟩
def tq:Cmd:=au (g0 Go.Proofs.Tryz.f211 [[1,2],[1,2,11],[2],[2],[2,4]])
def nu:FD:=⟨1,[aG],[.cell 2 3 true],tq⟩
def ww:Cmd:=au (g0 Go.Proofs.Tryz.f212 [[1],[1,5],[2],[2]])
def p7:FD:=⟨1,[[]],[.t 2],ww⟩
def yc:Cmd:=au (g0 Go.Proofs.Tryz.f213 [[0,1],[0,1],[0,1,9],[4,5,6],[0,1,14],[4,5,6],[7,8],[4,5,6]])
def qH:FD:=⟨2,[[.o 2 []],[.o 2 []],[]],[.t 4,.t 5,.t 6],yc⟩
def Dt:Cmd:=au (g0 Go.Proofs.Tryz.f214 [[0,1,2],[8],[6,8],[6,7]])
def wx:FD:=⟨3,[[],[]],[.t 6,.t 7],Dt⟩
def Du:Cmd:=au (g0 Go.Proofs.Tryz.f215 [[0,1,2],[0,1,6],[6,7]])
def wz:FD:=⟨3,[[],[]],[.t 6,.t 7],Du⟩
def nv:Cmd:=au (g0 Go.Proofs.Tryz.f218 [[0,1,2,6],[0,1,2,6,15],[6,7],[6,7]])
def jp:FD:=⟨3,[aG,[]],[.cell 6 3 true,.t 7],nv⟩
def iu:dm:=[[0,1],[0,1,7,8],[],[0,1,7,8],[],[0,1,7,8,9],[0,1,7,8],[0,1,5,7,8],[0,1,5,7,8,16],[4],[0,1,7,8],[4]]
def nU:Cmd:=au (g1 [] Go.Proofs.Tryz.f219 iu 1 [])
@[go_sem] def p8(a:Cmd):Cmd:=au (g1 [] Go.Proofs.Tryz.f219 iu 0 [a])
def p9:Cmd:=p8 nU
def iv:FD:=⟨2,[[]],[.t 4],p9⟩
def lz:dm:=[[0,1],[0,1],[0,1,25],[4,5],[0,1,30],[6,7],[4,5],[0,1,8],[0,8,9,10],[8,9,10],[0,8,9,10],[63,2408],[0,8,9,10,60],[0,8,9,10],[0,8,9,10],[8,9,10,11],[8,9,10,11,12],[8,9,10,11,12,13],[8,9,11,12],[8,9,10,11,12,13],[63,70,2408],[8,9,10,11,12,13,77],[8,9,10,11,12,13],[8,9,10,11,12,13,14],[],[8,9,10,11,12,13,14,120],[8,9,10,11,12,13,14],[8,9,10,11,12,13,14,15],[8,9,10,11,12,13,14,15,123,124,125],[8,9,10,11,12,13,14,15],[8,9,10,11,12,13,14,15,123,124,125],[63,70,2408],[8,9,10,11,12,13,14,15,123,124,125,126],[8,9,10,11,12,13,14,15,123,124,125],[8,9,10,11,12,13,14,15,16,17,123,124,125],[8,9,10,11,12,13,14,15,123,124,125],[8,9,10,11,12,13,14,15,123,124,125],[8,9,10,11,12,13,14],[8,9,10,11,12,13],[8,9,10,11,12,13],[4,5]]
def fB:Cmd:=au (g1 [] Go.Proofs.Tryz.f220 lz 1 [])
@[go_sem] def CH(a:Cmd):Cmd:=au (g1 [] Go.Proofs.Tryz.f220 lz 2 [a])
def gY:Cmd:=CH fB
def tQ:Cmd:=au (g1 [] Go.Proofs.Tryz.f220 lz 3 [])
@[go_sem] def Gj(a b c:Cmd):Cmd:=au (g1 [] Go.Proofs.Tryz.f220 lz 0 [a,b,c])
def rH:Cmd:=Gj fB gY tQ
def lA:FD:=⟨2,[[.o 2 []],[.o 2 []]],[.t 4,.t 5],rH⟩
def qI:Cmd:=au (g0 Go.Proofs.Tryz.f221 [[0],[2]])
def kK:FD:=⟨1,[[]],[.t 2],qI⟩
def ye:dm:=[[0,1],[0,1,6],[0,1,6,7],[0,1,6,7,8],[6,7],[0,1,6,7,8],[11],[0,1,6,7,8,16],[0,1,6,7,8],[0,1,6,7,8],[0,1,6,7,8],[4,5]]
def iw:Cmd:=au (g1 [] Go.Proofs.Tryz.f222 ye 1 [])
@[go_sem] def HQ(a:Cmd):Cmd:=au (g1 [] Go.Proofs.Tryz.f222 ye 0 [a])
def zg:Cmd:=HQ iw
def rI:FD:=⟨2,[[.o 2 []],[]],[.t 4,.t 5],zg⟩
def rX:Cmd:=au (g0 Go.Proofs.Tryz.f223 [[0],[2]])
def kU:FD:=⟨1,[[]],[.t 2],rX⟩
def tr:Cmd:=au (g0 Go.Proofs.Tryz.f224 [[0,1,2,3,4],[0,1,2,3,4,14],[10],[2,3,4,11],[10],[]])
def mM:FD:=⟨5,[[]],[.t 10],tr⟩
def zi:dm:=[[0,1,2],[0,1,2,7,8],[0,1,2,7,8,14,15,16],[0,1,7,8],[0,1,2,7,8,14,15,16],[1000],[0,1,2,7,8,14,15,16,17],[0,1,2,7,8,14,15,16],[0,1,2,7,8,9,10,14,15,16],[0,1,2,8,9,11,14,15,16],[0,1,2,7,8,9,11,14,15,16],[0,1,2,7,9,12,14,15,16],[0,1,2,7,8,14,15,16],[0,1,2,7,8,14,15,16],[0,1,13],[13],[6]]
def iX:Cmd:=au (g1 [] Go.Proofs.Tryz.f225 zi 1 [])
@[go_sem] def JA(a:Cmd):Cmd:=au (g1 [] Go.Proofs.Tryz.f225 zi 0 [a])
def AK:Cmd:=JA iX
def tu:FD:=⟨3,[[]],[.t 6],AK⟩
def Dv:Cmd:=au (g0 Go.Proofs.Tryz.f226 [[0,1,2],[0,1,2,15],[0,1,2],[2,8],[6,7],[]])
def wA:FD:=⟨3,[[],[]],[.t 6,.t 7],Dv⟩
def yf:dm:=[[0,1,2,3,4],[0],[0,1,2,3,4],[],[0,1,2,3,4,24],[0,1,2,3,4],[0,1,2,3,4],[0,1,2,3,4],[10]]
def eG:Cmd:=au (g1 [] Go.Proofs.Tryz.f227 yf 1 [])
@[go_sem] def HR(a:Cmd):Cmd:=au (g1 [] Go.Proofs.Tryz.f227 yf 0 [a])
def zj:Cmd:=HR eG
def rJ:FD:=⟨5,[[]],[.t 10],zj⟩
end
noncomputable def aaK:List (Nat×FD):=[(8,aaM),
 (9,N7),
 (10,sI),
 (11,vj),
 (12,pH),
 (13,eC),
 (14,m6),
 (15,j7),
 (18,aqa),
 (22,qz),
 (23,gE),
 (24,eE),
 (26,aqk),
 (28,aqp),
 (32,anO),
 (34,qO),
 (35,eF),
 (38,ej),
 (40,qA),
 (41,jz),
 (42,L8),
 (43,aqY),
 (44,kw),
 (45,ap5),
 (46,sK),
 (47,kz),
 (48,Y9),
 (49,Oa),
 (50,gb),
 (51,sL),
 (52,rg),
 (53,m7),
 (54,uq),
 (55,pK),
 (56,kB),
 (57,eK),
 (58,sN),
 (59,oZ),
 (60,j1),
 (61,mA),
 (64,il),
 (65,nM),
 (69,fl),
 (70,ap6),
 (71,iV),
 (72,fg),
 (73,mC),
 (74,mD),
 (75,iM),
 (76,aqU),
 (77,aq0),
 (78,aqt),
 (79,kD),
 (82,Od),
 (83,ao4),
 (84,vk),
 (85,arc),
 (86,aiG),
 (87,ag9),
 (88,lq),
 (89,iH),
 (90,wm),
 (91,zW),
 (92,jB),
 (93,eS),
 (94,kT),
 (95,jn),
 (96,aqy),
 (97,aiK),
 (98,rA),
 (99,ur),
 (100,fJ),
 (101,ri),
 (102,aqc),
 (103,oe),
 (104,rB),
 (105,rC),
 (106,uu),
 (107,Us),
 (108,gV),
 (109,dQ),
 (110,lI),
 (111,jD),
 (112,cZ),
 (113,o7),
 (114,jT),
 (115,mG),
 (116,qB),
 (117,qC),
 (118,jd),
 (119,iI),
 (120,qQ),
 (121,wX),
 (122,mH),
 (123,wY),
 (126,y9),
 (127,fh),
 (128,nc),
 (129,lM),
 (130,qD),
 (131,fA),
 (132,jW),
 (133,oi),
 (134,uz),
 (135,rk),
 (136,apX),
 (137,lu),
 (139,pP),
 (140,aey),
 (141,aqe),
 (142,aaF),
 (143,aqV),
 (144,anN),
 (145,pR),
 (146,BH),
 (147,aeA),
 (148,jE),
 (149,uA),
 (150,pS),
 (151,lv),
 (152,jU),
 (153,ni),
 (154,lN),
 (155,oj),
 (156,kG),
 (157,zY),
 (158,jF),
 (159,rG),
 (160,uC),
 (161,zZ),
 (162,Aa),
 (163,xY),
 (164,Ac),
 (165,xZ),
 (166,s9),
 (167,td),
 (168,jo),
 (169,lP),
 (170,gW),
 (171,fK),
 (172,pW),
 (173,lQ),
 (177,gq),
 (178,lR),
 (179,kJ),
 (180,Ae),
 (181,pi),
 (182,oB),
 (183,th),
 (184,oC),
 (185,uG),
 (186,qE),
 (187,wt),
 (188,lS),
 (189,gN),
 (190,oF),
 (191,tj),
 (192,lw),
 (194,wu),
 (195,lU),
 (196,uI),
 (197,qF),
 (198,pY),
 (199,uJ),
 (202,mL),
 (203,pj),
 (204,ya),
 (205,tp),
 (206,j8),
 (207,gG),
 (208,qG),
 (210,pZ),
 (211,nu),
 (212,p7),
 (213,qH),
 (214,wx),
 (215,wz),
 (218,jp),
 (219,iv),
 (220,lA),
 (221,kK),
 (222,rI),
 (223,kU),
 (224,mM),
 (225,tu),
 (226,wA),
 (227,rJ)]
def shL:List (Nat×List (List Sh)):=[(8,[[.o 0 [],.o 5 [.o 2 [],.o 0 [],.o 2 [],.o 0 []]],[.o 0 [],.o 5 [.o 2 [],.o 0 [],.o 2 [],.o 0 []]],[.o 8 aU]]),
 (10,[[.o 0 [],.o 5 [.o 2 [],.o 0 [],.o 2 [],.o 0 []]]]),
 (11,[[.o 8 aU]]),
 (12,[[.o 0 [],.o 5 [.o 2 [],.o 0 [],.o 2 [],.o 0 []]],[.o 8 aU],[]]),
 (13,[[.o 0 [],.o 5 [.o 2 [],.o 0 [],.o 2 [],.o 0 []]],[.o 8 aU],[]]),
 (14,[[.o 0 [],.o 5 [.o 2 [],.o 0 [],.o 2 [],.o 0 []]],[.o 8 aU],[]]),
 (15,[[.o 0 [],.o 5 [.o 2 [],.o 0 [],.o 2 [],.o 0 []]],[.o 8 aU]]),
 (18,[aU]),
 (22,[aG]),
 (23,[aG,aG]),
 (24,[aU,aU]),
 (26,[[.o 0 [],.o 5 [.o 2 [],.o 0 [],.o 2 [],.o 0 []]],[.o 4 aG]]),
 (28,[[.o 0 [],.o 5 [.o 2 [],.o 0 [],.o 2 [],.o 0 []]],[.o 8 aU]]),
 (32,[[.o 4 aG],[]]),
 (34,[aG]),
 (35,[aG]),
 (38,[[.o 8 aU],[]]),
 (41,[[.o 0 [],.o 5 [.o 2 [],.o 0 [],.o 2 [],.o 0 []]]]),
 (42,[aU,aU]),
 (43,[[.o 0 [],.o 5 [.o 2 [],.o 0 [],.o 2 [],.o 0 []]],[.o 0 [],.o 5 [.o 2 [],.o 0 [],.o 2 [],.o 0 []]]]),
 (44,[aU,aU,[]]),
 (45,[[.o 0 [],.o 5 [.o 2 [],.o 0 [],.o 2 [],.o 0 []]],[]]),
 (46,[aU,aU,[]]),
 (47,[aU,aU,[]]),
 (49,[aU,aU]),
 (50,[[.o 5 [.o 2 [],.o 0 [],.o 2 [],.o 0 []]],[]]),
 (51,[[.o 2 [],.o 0 [],.o 2 [],.o 0 []]]),
 (52,[aU]),
 (53,[[.o 0 [],.o 5 [.o 2 [],.o 0 [],.o 2 [],.o 0 []]],[.o 8 aU],[]]),
 (55,[aU,[],[]]),
 (56,[[.o 0 [],.o 5 [.o 2 [],.o 0 [],.o 2 [],.o 0 []]]]),
 (57,[aG,aG,aU,[]]),
 (58,[[.o 0 [],.o 5 [.o 2 [],.o 0 [],.o 2 [],.o 0 []]],[]]),
 (59,[[],[],aU]),
 (61,[aU,aU]),
 (64,[aG,aG]),
 (65,[aG]),
 (69,[aG]),
 (70,[aG]),
 (71,[aG,aG]),
 (72,[aU]),
 (73,[aG,aG]),
 (74,[aG,aG]),
 (75,[[.o 0 [],.o 5 [.o 2 [],.o 0 [],.o 2 [],.o 0 []]]]),
 (76,[aG]),
 (77,[aG,aG,[]]),
 (78,[aG,aG]),
 (79,[[.o 0 [],.o 5 [.o 2 [],.o 0 [],.o 2 [],.o 0 []]],[.o 8 aU]]),
 (82,[aG,aG]),
 (83,[[.o 4 aG],[]]),
 (84,[[.o 2 []]]),
 (86,[[],[.o 2 []],aG]),
 (88,[[.o 8 aU]]),
 (90,[aG,[]]),
 (91,[aG,[]]),
 (92,[aG,[],aG,[]]),
 (93,[[.o 8 aU],[]]),
 (94,[[],[.o 2 [],.o 0 [],.o 2 [],.o 0 []]]),
 (95,[[.o 2 []],[.o 2 []]]),
 (96,[[.o 0 [],.o 5 [.o 2 [],.o 0 [],.o 2 [],.o 0 []]],[.o 0 [],.o 5 [.o 2 [],.o 0 [],.o 2 [],.o 0 []]]]),
 (97,[[.o 2 [.o 5 [.o 2 [],.o 0 [],.o 2 [],.o 0 []]]]]),
 (98,[aG,aG,[]]),
 (99,[aG,aG,[]]),
 (100,[aG,aG]),
 (102,[[.o 2 []]]),
 (103,[aU]),
 (104,[aU,aU,[],[],[]]),
 (105,[aG,aG,[]]),
 (106,[aG,aG,[]]),
 (108,[[.o 5 [.o 2 [],.o 0 [],.o 2 [],.o 0 []]],[]]),
 (109,[aU,[],[]]),
 (110,[[.o 0 [],.o 5 [.o 2 [],.o 0 [],.o 2 [],.o 0 []]]]),
 (111,[[.o 2 []],[]]),
 (112,[[.o 8 aU],[]]),
 (116,[[],aU,aU]),
 (117,[[],aU,aU]),
 (119,[aU,aU,[]]),
 (120,[aG]),
 (121,[aG]),
 (122,[aG,aG]),
 (123,[aG]),
 (126,[[],[.o 2 []],[]]),
 (127,[aG]),
 (128,[aG]),
 (129,[[.o 2 []],[.o 2 []]]),
 (130,[[.o 2 []],[]]),
 (131,[aG]),
 (132,[[.o 2 []],[]]),
 (134,[[.o 2 []]]),
 (135,[[.o 2 []],[.o 2 []]]),
 (136,[aG,aG]),
 (137,[aU]),
 (139,[[.o 2 []],[.o 2 []]]),
 (140,[[.o 5 [.o 2 [],.o 0 [],.o 2 [],.o 0 []]],[.o 2 []],[]]),
 (141,[[.o 2 [],.o 0 [],.o 2 [],.o 0 []],[.o 2 []]]),
 (142,[[],[],[.o 5 [.o 2 [],.o 0 [],.o 2 [],.o 0 []]]]),
 (143,[aG]),
 (145,[aG,[],[]]),
 (146,[[.o 2 []]]),
 (148,[aG,aG,[],[]]),
 (149,[[.o 2 []]]),
 (150,[[.o 2 []],[.o 2 []]]),
 (151,[aG]),
 (152,[[],[.o 2 []],[]]),
 (153,[aG]),
 (154,[aG,aG,[],[]]),
 (155,[aU]),
 (156,[aG,[],[],[]]),
 (158,[aU]),
 (159,[aG,aG,[]]),
 (160,[aG,aG,[]]),
 (161,[[.o 2 []],[]]),
 (162,[[.o 2 []],[.o 2 []]]),
 (163,[[.o 2 []],[.o 2 []]]),
 (164,[[.o 2 []]]),
 (165,[[.o 2 []]]),
 (166,[[.o 2 []],[]]),
 (167,[[.o 2 []]]),
 (168,[[.o 2 []],[]]),
 (169,[[.o 2 []],[]]),
 (171,[[.o 2 []],[.o 2 []]]),
 (172,[[.o 2 []],[.o 2 []]]),
 (173,[[.o 2 []],[.o 2 []]]),
 (176,[[.o 5 [.o 2 [],.o 0 [],.o 2 [],.o 0 []]],[]]),
 (177,[[.o 2 []]]),
 (178,[[],[.o 4 aG]]),
 (179,[[],[.o 2 [],.o 0 [],.o 0 []],[],[]]),
 (180,[aG]),
 (181,[aG,aG,[]]),
 (182,[[.o 2 []]]),
 (183,[[.o 2 [.o 2 []]]]),
 (184,[[.o 2 []]]),
 (185,[[.o 2 []],[.o 2 []]]),
 (186,[[.o 2 []]]),
 (187,[[.o 2 []]]),
 (188,[[.o 2 []],[]]),
 (189,[[.o 2 []]]),
 (190,[aU]),
 (191,[aU]),
 (192,[aG,[],[],[],[]]),
 (195,[aG,aG,[],[]]),
 (196,[[.o 2 []],[]]),
 (198,[[.o 2 []],[.o 2 []]]),
 (199,[[.o 2 []],[.o 2 []]]),
 (203,[[.o 2 [],.o 0 [],.o 0 []],[],[]]),
 (204,[[.o 2 []],[]]),
 (205,[[.o 2 []],[]]),
 (207,[[.o 2 [.o 2 []]],[]]),
 (208,[[.o 2 []]]),
 (210,[[.o 2 []],[]]),
 (211,[aG]),
 (212,[aG]),
 (213,[[.o 2 []],[.o 2 []]]),
 (218,[[],[.o 2 []],[]]),
 (219,[[.o 2 [.o 2 []]],[]]),
 (220,[[.o 2 []],[.o 2 []]]),
 (222,[[.o 2 []],[]]),
 (225,[[.o 2 []],[.o 2 []],[]])]
def mdL:List (Nat×List Nat):=[(140,[3,0,0]),(142,[2,0,0]),(144,[2,0,0]),(175,[0,1]),(225,[1,0,0])]
def keepL:List Nat:=[33,113,116,117]
def aa:List Nat->Nat
 |[]=>0
 |x::l=>x+4294967296*aa l
def Lb(m:List Nat):Prop:=∀x∈m,x<4294967296
def cD:Nat->Nat->List Nat
 |0,_=>[]
 |k+1,n=>n%4294967296::cD k (n/4294967296)
def ap(n:Nat):List Nat:=if h:n=0 then []else n%4294967296::ap (n/4294967296)
termination_by n
decreasing_by omega
theorem fQ:ap 0=[]:=by grind[ap]
theorem rY{n:Nat}(h:n≠0):ap n=n%4294967296::ap (n/4294967296):=by rw[ap,dif_neg h]
theorem ke{n:Nat}:ap n=[]↔n=0:=by
 grind[rY,fQ]
theorem aL(n:Nat):aa (ap n)=n:=by
 induction n using Nat.strongRecOn with
 |ind n ih=>
  grind[fQ,rY,aa]
theorem aP(n:Nat):Lb (ap n):=by
 induction n using Nat.strongRecOn with
 |ind n ih=>
  by_cases h:n=0
  ·subst h;rw[fQ];intro x hx;grind
  ·rw[rY h];intro x hx;rcases List.mem_cons.1 hx with rfl|hx
   ·omega
   ·exact ih _ (by omega) x hx
theorem Dw:Lb []:=fun x hx=>by grind
theorem fS{x:Nat}{l:List Nat}:Lb (x::l)↔x<4294967296/\Lb l:=by
 constructor
 ·intro h;exact⟨h x (by simp),fun y hy=>h y (by grind)⟩
 ·rintro⟨h1,h2⟩ y hy
  rcases List.mem_cons.1 hy with rfl|hy
  ·omega
  ·exact h2 y hy
theorem kL{l r:List Nat}:Lb (l++r)↔Lb l/\Lb r:=by
 constructor
 ·intro h;exact⟨fun x hx=>h x (by grind),fun x hx=>h x (by grind)⟩
 ·rintro⟨h1,h2⟩ x hx
  rcases List.mem_append.1 hx with hx|hx
  ·exact h1 x hx
  ·exact h2 x hx
theorem dN{l:List Nat}(h:Lb l)(n:Nat):Lb (l.take n):=fun x hx=>h x (List.mem_of_mem_take hx)
theorem jq{l:List Nat}(h:Lb l)(n:Nat):Lb (l.drop n):=fun x hx=>h x (List.mem_of_mem_drop hx)
theorem bu{l:List Nat}(h:Lb l)(i:Nat):l.getD i 0<4294967296:=by
 rw[List.getD_eq_getElem?_getD];cases hq:l[i]? with
 |none=>simp
 |some x=>exact h x (List.mem_of_getElem? hq)
theorem cS(l r:List Nat):aa (l++r)=aa l+4294967296^l.length*aa r:=by
 induction l with
 |nil=>simp[aa]
 |cons x l ih=>
  simp only[List.cons_append,aa,ih,List.length_cons,Nat.pow_succ,Nat.mul_add];grind
theorem bQ{l:List Nat}(h:Lb l):aa l<4294967296^l.length:=by
 induction l with
 |nil=>simp[aa]
 |cons x l ih=>
  obtain⟨h1,h2⟩:=fS.1 h;grind[aa,List.length_cons,Nat.pow_succ]
theorem bU(k n:Nat):(cD k n).length=k:=by
 induction k generalizing n with
 |zero=>rfl
 |succ k ih=>grind[cD]
theorem kf(k n:Nat):Lb (cD k n):=by
 induction k generalizing n with
 |zero=>exact Dw
 |succ k ih=>exact fS.2 ⟨by omega,ih _⟩
theorem iN(k n:Nat):aa (cD k n)=n%4294967296^k:=by
 induction k generalizing n with
 |zero=>simp[cD,aa,Nat.mod_one]
 |succ k ih=>
  rw[cD,aa,ih,Nat.pow_succ,Nat.mul_comm (4294967296^k),Nat.mod_mul]
theorem BI{l:List Nat}(h:Lb l):cD l.length (aa l)=l:=by
 induction l with
 |nil=>rfl
 |cons x l ih=>
  obtain⟨h1,h2⟩:=fS.1 h;grind[List.length_cons,cD,aa]
theorem Lw(n:Nat):aa (List.replicate n 0)=0:=by
 induction n with
 |zero=>rfl
 |succ n ih=>simp[List.replicate_succ,aa,ih]
def jk(m:List Nat):Nat->Nat
 |0=>0
 |n+1=>if m.getD n 0=0 then jk m n else n+1
theorem yg(m:List Nat):∀n,jk m n<=n
 |0=>Nat.le_refl _
 |n+1=>by
  unfold jk;have:=yg m n;split<;>omega
theorem Sf(m:List Nat):∀n,jk m n=0\/m.getD (jk m n-1) 0≠0
 |0=>.inl rfl
 |n+1=>by
  unfold jk;split
  ·exact Sf m n
  ·rename_i h;exact .inr h
theorem Of(m:List Nat):∀n i,jk m n<=i->i<n->m.getD i 0=0
 |0,i,_,h=>by omega
 |n+1,i,h1,h2=>by
  unfold jk at h1;split at h1
  ·rename_i h;by_cases e:i=n
   ·rw[e];exact h
   ·exact Of m n i h1 (by omega)
  ·omega
def vo(m:List Nat):Prop:=m=[]\/m.getD (m.length-1) 0≠0
theorem JB(x:Nat)(l:List Nat)(i:Nat):(x::l).getD (i+1) 0=l.getD i 0:=by grind
theorem HS{x:Nat}{l:List Nat}(h:vo (x::l)):vo l:=by
 rcases h with h|h
 ·grind
 ·cases l with
  |nil=>exact .inl rfl
  |cons y l=>
   refine .inr ?_;grind
theorem Dx{l:List Nat}(h:vo l)(hne:l≠[]):aa l≠0:=by
 induction l with
 |nil=>grind
 |cons x l ih=>
  cases l with
  |nil=>
   rcases h with h|h
   all_goals grind[aa]
  |cons y l=>
   grind[HS,aa]
theorem AL{l:List Nat}(h1:Lb l)(h2:vo l):ap (aa l)=l:=by
 induction l with
 |nil=>exact fQ
 |cons x l ih=>
  obtain⟨h3,h4⟩:=fS.1 h1;grind[rY,Dx,aa,HS]
theorem Dy(n:Nat):vo (ap n):=by
 induction n using Nat.strongRecOn with
 |ind n ih=>
  by_cases h:n=0
  ·subst h;rw[fQ];exact .inl rfl
  ·refine .inr ?_;rcases ih (n/4294967296) (by omega)with h2|h2
   all_goals grind[ap,List.length_cons,Nat.add_sub_cancel,JB]
theorem Og(m:List Nat):aa (m.take (jk m m.length))=aa m:=by
 have h:m=m.take (jk m m.length)++m.drop (jk m m.length):=(List.take_append_drop _ _).symm;have hz:m.drop (jk m m.length)=List.replicate (m.length-jk m m.length) 0:=by
  rw[List.eq_replicate_iff];refine⟨by simp,fun x hx=>?_⟩;obtain⟨i,hi⟩:=List.getElem?_of_mem hx;rw[List.getElem?_drop]at hi;have hl:=(List.getElem?_eq_some_iff.1 hi).1;have:=Of m m.length (jk m m.length+i) (by omega) hl;grind
 grind[cS,Lw]
theorem JC(m:List Nat):vo (m.take (jk m m.length)):=by
 rcases Sf m m.length with h|h
 ·rw[h];exact .inl rfl
 ·by_cases h0:jk m m.length=0
  ·rw[h0];exact .inl rfl
  ·refine .inr ?_;grind
theorem Gk{m:List Nat}(h:Lb m):m.take (jk m m.length)=ap (aa m):=by
 rw[←AL (dN h _) (JC m),Og]
theorem gH{n k:Nat}(h:n<4294967296^k):(ap n).length<=k:=by
 induction k generalizing n with
 |zero=>
  grind[fQ]
 |succ k ih=>
  grind[rY,List.length_cons,Nat.pow_succ,Nat.div_lt_of_lt_mul,Nat.mul_comm]
theorem eL(n:Nat):n<4294967296^ (ap n).length:=by
 grind[bQ,aP,aL]
theorem Lx{n:Nat}(h:n≠0):4294967296^ ((ap n).length-1)<=n:=by
 induction n using Nat.strongRecOn with
 |ind n ih=>
  grind[ap,Nat.succ_pred_eq_of_pos,Nat.add_sub_cancel,Nat.pow_succ]
def tz(n:Nat):Nat:=if h:n=0 then 0 else if n%2=1 then 0 else tz (n/2)+1
termination_by n
decreasing_by omega
theorem AM{n:Nat}(h:n%2=1):tz n=0:=by
 rw[tz,dif_neg (by omega),if_pos h]
theorem Wu{n:Nat}(h:n≠0):tz (2*n)=tz n+1:=by
 rw[tz,dif_neg (by omega),if_neg (by omega),Nat.mul_div_cancel_left n (by decide)]
theorem HT{n:Nat}(k:Nat)(h:n≠0):tz (2^k*n)=k+tz n:=by
 induction k with
 |zero=>rw[Nat.pow_zero,Nat.one_mul,Nat.zero_add]
 |succ k ih=>
  grind[Nat.pow_succ,Nat.mul_comm,Nat.mul_assoc,Wu,Nat.mul_ne_zero,Nat.ne_of_gt,Nat.two_pow_pos]
theorem uK{n:Nat}(h:n≠0):n=2^tz n*(n/2^tz n)/\n/2^tz n%2=1:=by
 induction n using Nat.strongRecOn with
 |ind n ih=>
  by_cases h1:n%2=1
  ·simp_all[AM,Nat.pow_zero,Nat.div_one,Nat.one_mul]
  ·have hn:n=2*(n/2):=by omega
   grind[tz,Nat.pow_succ,Nat.mul_comm,Nat.div_div_eq_div_mul,Nat.mul_assoc]
theorem adt{x k:Nat}(y:Nat)(h:x≠0)(hx:x<2^k):tz (x+2^k*y)=tz x:=by
 obtain⟨e1,e2⟩:=uK h;generalize x/2^tz x=q at e1 e2;have hle:2^tz x<=x:=by
  conv=>rhs;rw[e1]
  exact Nat.le_mul_of_pos_right _ (by omega)
 have hk:tz x<k:=(Nat.pow_lt_pow_iff_right (by decide:1<2)).1 (Nat.lt_of_le_of_lt hle hx);generalize hz:2^ (k-tz x-1)*y=z;have e3:x+2^k*y=2^tz x*(q+2*z):=by
  have e4:2^k=2^tz x*(2*2^ (k-tz x-1)):=by
   rw[←Nat.pow_succ',←Nat.pow_add];grind
  grind
 have e5:(q+2*z) %2=1:=by omega
 rw[e3,HT _ (by omega),AM e5,Nat.add_zero]
theorem MU{x k:Nat}(h:x≠0)(hx:x<2^k):tz x<k:=by
 obtain⟨e1,e2⟩:=uK h;generalize x/2^tz x=q at e1 e2;have hle:2^tz x<=x:=by
  conv=>rhs;rw[e1]
  exact Nat.le_mul_of_pos_right _ (by omega)
 exact(Nat.pow_lt_pow_iff_right (by decide:1<2)).1 (Nat.lt_of_le_of_lt hle hx)
def Ly:Nat->Nat->Nat
 |0,_=>0
 |k+1,n=>if n%2=1 then 0 else Ly k (n/2)+1
theorem adu:∀ (k x:Nat),x≠0->x<2^k->Ly k x=tz x:=by
 intro k;induction k with
 |zero=>omega
 |succ k ih=>
  intro x h0 h1;unfold Ly;by_cases h:x%2=1
  ·rw[if_pos h,AM h]
  ·have:=Wu (n:=x/2) (by omega);grind
def tzF(zas:List AV)(hs:List Ob):Option (AV×List Ob):=match zas with
 |[.v (.int .u32 n)]=>if 0<n/\n<4294967296/\hs=[]then some (.v (.int .i64 (Ly 32 n.toNat:Nat)),[])else none
 |_=>none
def ovF(k:Nat)(zas:List AV)(hs:List Ob):Option (AV×List Ob):=match zas,hs with
 |[.sl k0 (_::_),.rsl 1000 none k1 _ _],[.ar k2 rows]=>if k0=k/\k1=k/\k2=k then some (B false,[.ar k2 rows])else none
 |_,_=>none
def clF(zas:List AV)(hs:List Ob):Option (AV×List Ob):=match zas,hs with
 |[.sl 1 []],[]=>some (.sl 1 [],[])
 |[.sl 1 (r::rs)],[]=>if(rs.length+1)*8<=140737488355328 then some (.osl 1 (r::rs),[])else none
 |_,_=>none
def ar3(k bytes:Nat)(zas:List AV)(hs:List Ob):Option (AV×List Ob):=match zas,hs with
 |[.emp,.v (.int .i64 0),.sl k0 [r]],[]=>if k0=k then some (.osl k [r],[])else none
 |[.rsl 1000 none k1 0 n,.v (.int .i64 i),.sl k0 [r]],[.ar k2 rows]=>
  if k0=k/\k1=k/\k2=k/\n=rows.length/\0<=i/\i<=n/\(n+1)*bytes<=140737488355328 then some (.osl k (rows.take i.toNat++r::rows.drop i.toNat),[.dead])else none
 |_,_=>none
def MV:List (Nat× (List AV->List Ob->Option (AV×List Ob))):=[(F.bits_TrailingZeros32,tzF),(F.slices_overlaps_api_Term_,ovF 4)]
def adv:List (Nat× (List AV->List Ob->Option (AV×List Ob))):=(F.slices_Clone_int_int_,clF)::(F.slices_Insert_api_Term_api_Term_,ar3 4 64)::MV
noncomputable def dv:Env:=⟨fun f=>adv.lookup f,fun f=>aaK.lookup f,⟨fun f=>(mdL.lookup f).getD [],fun f=>(shL.lookup f).getD [],fun f=>keepL.contains f,false⟩⟩
noncomputable def aH (b:Bool):Mode:={dv.md with nm:=b}
noncomputable def R:ef:=dZ dv
theorem HU{f:FuncId}{fd:FD}{args:List AV}{hs:List Ob}{r:AV×List Ob}(b:Bool)(hE:dv.E f=none)(hC:dv.C f=some fd)(hk:dv.md.keep f=b)(h1:args.length=fd.np)(h2:hs.length<=1000)
  (hz:gM b fd.rs fd.res hs.length (aj R (aH b) fd.body (oO args) (ao hs))=some r):R f args hs=some r:=by
 refine Df hE hC ?_;unfold N2;rw[if_pos ⟨h1,h2⟩];subst hk;exact hz
@[go_sem] theorem aoY(b:Bool):(aH b).nm=b:=_root_.id rfl
abbrev Sg(f:FuncId):Prop:=∀ (b:Bool) (h:ac) (d:Nat) (zas:List AV),bI R (aH b) h d zas (.fn f [] [])=(cr h [] zas).bind (BD R (aH b) d f)
abbrev Oh(f:FuncId)(l:List (List Sh)):Prop:=∀b:Bool,(aH b).sh f=l
abbrev Oi(f:FuncId)(l:List Nat):Prop:=∀b:Bool,(aH b).m f=l
abbrev Oj(f:FuncId)(l:Bool):Prop:=∀b:Bool,(aH b).keep f=l
theorem Uw{f:FuncId}{l:List (List Sh)}(h:dv.md.sh f=l):Oh f l:=fun _=>h
theorem Ux{f:FuncId}{l:List Nat}(h:dv.md.m f=l):Oi f l:=fun _=>h
theorem Uy{f:FuncId}{l:Bool}(h:dv.md.keep f=l):Oj f l:=fun _=>h
theorem Ol{f:FuncId}(hm:∀b,(aH b).m f=[]):Sg f:=fun b _ d _=>BE d (hm b)
abbrev QL(f:FuncId)(l:List (List Sh)):Prop:=Oh f l/\Oi f []/\Sg f/\Oj f false
abbrev QE(f:FuncId)(l:List (List Sh))(fd:FD):Prop:=QL f l/\dv.E f=none/\dv.C f=some fd
theorem ql{f:FuncId}{l:List (List Sh)}(h:(dv.md.sh f,dv.md.m f,dv.md.keep f)=(l,[],false)):QL f l:=by
 simp only[Prod.mk.injEq]at h;exact⟨fun _=>h.1,fun _=>h.2.1,Ol fun _=>h.2.1,fun _=>h.2.2⟩
theorem qe{f:FuncId}{l:List (List Sh)}{fd:FD}(h:(dv.md.sh f,dv.md.m f,dv.md.keep f,dv.E f,dv.C f)=(l,[],false,none,some fd)):QE f l fd:=by
 simp only[Prod.mk.injEq]at h;exact⟨⟨fun _=>h.1,fun _=>h.2.1,Ol fun _=>h.2.1,fun _=>h.2.2.1⟩,h.2.2.2⟩
@[go_sem] theorem arv:QE F.l24_BoundSums [[.o 0 [],.o 5 [.o 2 [],.o 0 [],.o 2 [],.o 0 []]],[.o 0 [],.o 5 [.o 2 [],.o 0 [],.o 2 [],.o 0 []]],[.o 8 aU]] aaM:=qe (by kernel_rfl)
@[go_sem] theorem afm:QL F.l24_awake []:=ql (by kernel_rfl)
@[go_sem] theorem Ww:QE F.l24_few [[.o 0 [],.o 5 [.o 2 [],.o 0 [],.o 2 [],.o 0 []]]] sI:=qe (by kernel_rfl)
@[go_sem] theorem Uz:QE F.l24_near [[.o 8 aU]] vj:=qe (by kernel_rfl)
@[go_sem] theorem Mj:QE F.bound_Naive [[.o 0 [],.o 5 [.o 2 [],.o 0 [],.o 2 [],.o 0 []]],[.o 8 aU],[]] pH:=qe (by kernel_rfl)
@[go_sem] theorem gD:QE F.bound_Bernstein [[.o 0 [],.o 5 [.o 2 [],.o 0 [],.o 2 [],.o 0 []]],[.o 8 aU],[]] eC:=qe (by kernel_rfl)
@[go_sem] theorem Om:QE F.bound_Best [[.o 0 [],.o 5 [.o 2 [],.o 0 [],.o 2 [],.o 0 []]],[.o 8 aU],[]] m6:=qe (by kernel_rfl)
@[go_sem] theorem On:QE F.r24_Domain [[.o 0 [],.o 5 [.o 2 [],.o 0 [],.o 2 [],.o 0 []]],[.o 8 aU]] j7:=qe (by kernel_rfl)
@[go_sem] theorem Ro:QE F.r05_Valid [aU] aqa:=qe (by kernel_rfl)
@[go_sem] theorem Gl:QE F.interval_Point [aG] qz:=qe (by kernel_rfl)
@[go_sem] theorem Oo:QE F.dyadic_Cmp [aG,aG] gE:=qe (by kernel_rfl)
@[go_sem] theorem HV:QE F.interval_Meet [aU,aU] eE:=qe (by kernel_rfl)
@[go_sem] theorem ast:QE F.poly_Eval [[.o 0 [],.o 5 [.o 2 [],.o 0 [],.o 2 [],.o 0 []]],[.o 4 aG]] aqk:=qe (by kernel_rfl)
@[go_sem] theorem arw:QE F.bound_Corners [[.o 0 [],.o 5 [.o 2 [],.o 0 [],.o 2 [],.o 0 []]],[.o 8 aU]] aqp:=qe (by kernel_rfl)
@[go_sem] theorem aez:QE F.slices_ContainsFunc_api_Dyadic_api_Dyadic_ [[.o 4 aG],[]] anO:=qe (by kernel_rfl)
@[go_sem] theorem UA:QE F.l24_long [aG] qO:=qe (by kernel_rfl)
@[go_sem] theorem Rq:QE F.r02_Valid [aG] eF:=qe (by kernel_rfl)
@[go_sem] theorem be:QE F.slices_ContainsFunc_api_Interval_api_Interval_ [[.o 8 aU],[]] ej:=qe (by kernel_rfl)
@[go_sem] theorem Gm:QE F.interval_Whole [] qA:=qe (by kernel_rfl)
@[go_sem] theorem Rs:QE F.r23_Valid [[.o 0 [],.o 5 [.o 2 [],.o 0 [],.o 2 [],.o 0 []]]] jz:=qe (by kernel_rfl)
@[go_sem] theorem asQ:QE F.poly_Add [[.o 0 [],.o 5 [.o 2 [],.o 0 [],.o 2 [],.o 0 []]],[.o 0 [],.o 5 [.o 2 [],.o 0 [],.o 2 [],.o 0 []]]] aqY:=qe (by kernel_rfl)
@[go_sem] theorem JD:QE F.interval_Add [aU,aU,[]] kw:=qe (by kernel_rfl)
@[go_sem] theorem arY:QE F.poly_Derive [[.o 0 [],.o 5 [.o 2 [],.o 0 [],.o 2 [],.o 0 []]],[]] ap5:=qe (by kernel_rfl)
@[go_sem] theorem JE:QE F.interval_Sub [aU,aU,[]] sK:=qe (by kernel_rfl)
@[go_sem] theorem JF:QE F.interval_Mul [aU,aU,[]] kz:=qe (by kernel_rfl)
@[go_sem] theorem dD:QE F.slices_ContainsFunc_api_Term_api_Term_ [[.o 5 [.o 2 [],.o 0 [],.o 2 [],.o 0 []]],[]] gb:=qe (by kernel_rfl)
@[go_sem] theorem FW:QE F.l24_few_1 [[.o 2 [],.o 0 [],.o 2 [],.o 0 []]] sL:=qe (by kernel_rfl)
@[go_sem] theorem DA:QE F.l24_near_1 [aU] rg:=qe (by kernel_rfl)
@[go_sem] theorem Oq:QE F.bound_fits [[.o 0 [],.o 5 [.o 2 [],.o 0 [],.o 2 [],.o 0 []]],[.o 8 aU],[]] m7:=qe (by kernel_rfl)
@[go_sem] theorem Ml:QE F.bound_whole [] uq:=qe (by kernel_rfl)
@[go_sem] theorem Mm:QE F.bound_power [aU,[],[]] pK:=qe (by kernel_rfl)
@[go_sem] theorem JG:QE F.bound_Linear [[.o 0 [],.o 5 [.o 2 [],.o 0 [],.o 2 [],.o 0 []]]] kB:=qe (by kernel_rfl)
@[go_sem] theorem Ot:QE F.bound_line [aG,aG,aU,[]] eK:=qe (by kernel_rfl)
@[go_sem] theorem uL:QE F.bound_gridOf [[.o 0 [],.o 5 [.o 2 [],.o 0 [],.o 2 [],.o 0 []]],[]] sN:=qe (by kernel_rfl)
@[go_sem] theorem fj:QE F.bound_grid_unit [[],[],aU] oZ:=qe (by kernel_rfl)
@[go_sem] theorem cW:QE F.bound_grid_bernstein [] j1:=qe (by kernel_rfl)
@[go_sem] theorem HW:QE F.interval_Hull [aU,aU] mA:=qe (by kernel_rfl)
@[go_sem] theorem Wx:QE F.r02_Cmp [aG,aG] il:=qe (by kernel_rfl)
@[go_sem] theorem UB:QE F.r05_zero [aG] nM:=qe (by kernel_rfl)
@[go_sem] theorem JH:QE F.dyadic_Valid [aG] fl:=qe (by kernel_rfl)
@[go_sem] theorem Mn:QE F.dyadic_Sign [aG] ap6:=qe (by kernel_rfl)
@[go_sem] theorem Gn:QE F.dyadic_compare [aG,aG] iV:=qe (by kernel_rfl)
@[go_sem] theorem Gp:QE F.interval_Valid [aU] fg:=qe (by kernel_rfl)
@[go_sem] theorem HY:QE F.interval_more [aG,aG] mC:=qe (by kernel_rfl)
@[go_sem] theorem HZ:QE F.interval_less [aG,aG] mD:=qe (by kernel_rfl)
@[go_sem] theorem Ou:QE F.poly_Valid [[.o 0 [],.o 5 [.o 2 [],.o 0 [],.o 2 [],.o 0 []]]] iM:=qe (by kernel_rfl)
@[go_sem] theorem aq1:QE F.poly_Eval_1 [aG] aqU:=qe (by kernel_rfl)
@[go_sem] theorem ar4:QE F.poly_times [aG,aG,[]] aq0:=qe (by kernel_rfl)
@[go_sem] theorem ar5:QE F.dyadic_Add [aG,aG] aqt:=qe (by kernel_rfl)
@[go_sem] theorem JI:QE F.bound_domain [[.o 0 [],.o 5 [.o 2 [],.o 0 [],.o 2 [],.o 0 []]],[.o 8 aU]] kD:=qe (by kernel_rfl)
@[go_sem] theorem ac2:QE F.slices_IndexFunc_api_Dyadic_api_Dyadic_ [[.o 4 aG],[]] ao4:=qe (by kernel_rfl)
@[go_sem] theorem UC:QE F.r02_bits [[.o 2 []]] vk:=qe (by kernel_rfl)
@[go_sem] theorem ar6:QE F.poly_empty [] arc:=qe (by kernel_rfl)
@[go_sem] theorem aaL:QE F.poly_collector_add [[],[.o 2 []],aG] aiG:=qe (by kernel_rfl)
@[go_sem] theorem ac0:QE F.poly_collector_done [] ag9:=qe (by kernel_rfl)
@[go_sem] theorem Gq:QE F.interval_known [[.o 8 aU]] lq:=qe (by kernel_rfl)
@[go_sem] theorem BJ:QE F.interval_permitted [] iH:=qe (by kernel_rfl)
@[go_sem] theorem Ov:QE F.round_Down [aG,[]] wm:=qe (by kernel_rfl)
@[go_sem] theorem UD:QE F.round_Up [aG,[]] zW:=qe (by kernel_rfl)
@[go_sem] theorem H0:QE F.interval_made [aG,[],aG,[]] jB:=qe (by kernel_rfl)
@[go_sem] theorem aJ:QE F.slices_IndexFunc_api_Interval_api_Interval_ [[.o 8 aU],[]] eS:=qe (by kernel_rfl)
@[go_sem] theorem UE:QE F.r23_term [[],[.o 2 [],.o 0 [],.o 2 [],.o 0 []]] kT:=qe (by kernel_rfl)
@[go_sem] theorem Mo:QE F.r23_Compare [[.o 2 []],[.o 2 []]] jn:=qe (by kernel_rfl)
@[go_sem] theorem asu:QE F.poly_pair [[.o 0 [],.o 5 [.o 2 [],.o 0 [],.o 2 [],.o 0 []]],[.o 0 [],.o 5 [.o 2 [],.o 0 [],.o 2 [],.o 0 []]]] aqy:=qe (by kernel_rfl)
@[go_sem] theorem aqC:QE F.slices_Concat_api_Term_api_Term_ [[.o 2 [.o 5 [.o 2 [],.o 0 [],.o 2 [],.o 0 []]]]] aiK:=qe (by kernel_rfl)
@[go_sem] theorem H1:QE F.round_AddDown [aG,aG,[]] rA:=qe (by kernel_rfl)
@[go_sem] theorem Mp:QE F.round_AddUp [aG,aG,[]] ur:=qe (by kernel_rfl)
@[go_sem] theorem Ow:QE F.dyadic_Mul [aG,aG] fJ:=qe (by kernel_rfl)
@[go_sem] theorem Ox:QE F.dyadic_Int [] ri:=qe (by kernel_rfl)
@[go_sem] theorem asr:QL F.slices_Clone_int_int_ [[.o 2 []]]:=ql (by kernel_rfl)
@[go_sem] theorem JJ:QE F.interval_Neg [aU] oe:=qe (by kernel_rfl)
@[go_sem] theorem H2:QE F.interval_four [aU,aU,[],[],[]] rB:=qe (by kernel_rfl)
@[go_sem] theorem kM:QE F.round_MulDown [aG,aG,[]] rC:=qe (by kernel_rfl)
@[go_sem] theorem nC:QE F.round_MulUp [aG,aG,[]] uu:=qe (by kernel_rfl)
@[go_sem] theorem bR:QE F.slices_IndexFunc_api_Term_api_Term_ [[.o 5 [.o 2 [],.o 0 [],.o 2 [],.o 0 []]],[]] gV:=qe (by kernel_rfl)
@[go_sem] theorem Gr:QE F.interval_Power [aU,[],[]] dQ:=qe (by kernel_rfl)
@[go_sem] theorem Mq:QE F.poly_Degree [[.o 0 [],.o 5 [.o 2 [],.o 0 [],.o 2 [],.o 0 []]]] lI:=qe (by kernel_rfl)
@[go_sem] theorem yN:QE F.slices_Index_int_int_ [[.o 2 []],[]] jD:=qe (by kernel_rfl)
@[go_sem] theorem lV:QE F.slices_Repeat_api_Interval_api_Interval_ [[.o 8 aU],[]] cZ:=qe (by kernel_rfl)
theorem Fj:dv.C F.bound_grid_step=some o7:=by kernel_rfl
theorem Fk:dv.E F.bound_grid_step=none:=by kernel_rfl
@[go_sem] theorem Wz:Oh F.bound_grid_step []:=Uw (by kernel_rfl)
@[go_sem] theorem iY:Oi F.bound_grid_step []:=Ux (by kernel_rfl)
@[go_sem] theorem UF:Sg F.bound_grid_step:=Ol iY
@[go_sem] theorem tv:Oj F.bound_grid_step true:=Uy (by kernel_rfl)
@[go_sem] theorem bd:QE F.bound_grid_lines [] jT:=qe (by kernel_rfl)
@[go_sem] theorem db:QE F.bound_grid_unit_1 [] mG:=qe (by kernel_rfl)
theorem Gs:dv.C F.bound_grid_add=some qB:=by kernel_rfl
theorem Gt:dv.E F.bound_grid_add=none:=by kernel_rfl
@[go_sem] theorem Fl:Oh F.bound_grid_add [[],aU,aU]:=Uw (by kernel_rfl)
@[go_sem] theorem rK:Oi F.bound_grid_add []:=Ux (by kernel_rfl)
@[go_sem] theorem VM:Sg F.bound_grid_add:=Ol rK
@[go_sem] theorem tT:Oj F.bound_grid_add true:=Uy (by kernel_rfl)
theorem Gu:dv.C F.bound_grid_mul=some qC:=by kernel_rfl
theorem Gv:dv.E F.bound_grid_mul=none:=by kernel_rfl
@[go_sem] theorem Fo:Oh F.bound_grid_mul [[],aU,aU]:=Uw (by kernel_rfl)
@[go_sem] theorem rL:Oi F.bound_grid_mul []:=Ux (by kernel_rfl)
@[go_sem] theorem VN:Sg F.bound_grid_mul:=Ol rL
@[go_sem] theorem tU:Oj F.bound_grid_mul true:=Uy (by kernel_rfl)
@[go_sem] theorem bX:QE F.bound_grid_bernstein_1 [] jd:=qe (by kernel_rfl)
@[go_sem] theorem JK:QE F.interval_Div [aU,aU,[]] iI:=qe (by kernel_rfl)
@[go_sem] theorem UG:QE F.r02_Sign [aG] qQ:=qe (by kernel_rfl)
@[go_sem] theorem WA:QE F.r02_Top [aG] wX:=qe (by kernel_rfl)
@[go_sem] theorem WB:QE F.r02_Sum [aG,aG] mH:=qe (by kernel_rfl)
@[go_sem] theorem WC:QE F.r02_Neg [aG] wY:=qe (by kernel_rfl)
@[go_sem] theorem Za:QE F.r02_Of [[],[.o 2 []],[]] y9:=qe (by kernel_rfl)
@[go_sem] theorem Gw:QE F.dyadic_inRange [aG] fh:=qe (by kernel_rfl)
@[go_sem] theorem Oy:QE F.dyadic_Top [aG] nc:=qe (by kernel_rfl)
@[go_sem] theorem Ms:QE F.natural_Cmp [[.o 2 []],[.o 2 []]] lM:=qe (by kernel_rfl)
@[go_sem] theorem Gx:QE F.dyadic_shifted [[.o 2 []],[]] qD:=qe (by kernel_rfl)
@[go_sem] theorem DB:QE F.interval_Valid_1 [aG] fA:=qe (by kernel_rfl)
@[go_sem] theorem gr:QE F.slices_ContainsFunc_int_int_ [[.o 2 []],[]] jW:=qe (by kernel_rfl)
@[go_sem] theorem AN:QE F.poly_Valid_1 [] oi:=qe (by kernel_rfl)
@[go_sem] theorem Mt:QE F.poly_degree [[.o 2 []]] uz:=qe (by kernel_rfl)
@[go_sem] theorem Oz:QE F.poly_order [[.o 2 []],[.o 2 []]] rk:=qe (by kernel_rfl)
@[go_sem] theorem ar7:QE F.dyadic_sum [aG,aG] apX:=qe (by kernel_rfl)
@[go_sem] theorem yi:QE F.bound_domain_1 [aU] lu:=qe (by kernel_rfl)
@[go_sem] theorem Mu:QE F.r02_compare [[.o 2 []],[.o 2 []]] pP:=qe (by kernel_rfl)
theorem ap8:dv.C F.slices_BinarySearchFunc_api_Term_api_Term_Sint_=some aey:=by kernel_rfl
theorem ap9:dv.E F.slices_BinarySearchFunc_api_Term_api_Term_Sint_=none:=by kernel_rfl
@[go_sem] theorem aiE:Oh F.slices_BinarySearchFunc_api_Term_api_Term_Sint_ [[.o 5 [.o 2 [],.o 0 [],.o 2 [],.o 0 []]],[.o 2 []],[]]:=Uw (by kernel_rfl)
@[go_sem] theorem aiI:Oi F.slices_BinarySearchFunc_api_Term_api_Term_Sint_ [3,0,0]:=Ux (by kernel_rfl)
@[go_sem] theorem ag8:Oj F.slices_BinarySearchFunc_api_Term_api_Term_Sint_ false:=Uy (by kernel_rfl)
@[go_sem] theorem aq4:QE F.poly_collector_add_1 [[.o 2 [],.o 0 [],.o 2 [],.o 0 []],[.o 2 []]] aqe:=qe (by kernel_rfl)
@[go_sem] theorem apW:Oh F.slices_Insert_api_Term_api_Term_ [[],[],[.o 5 [.o 2 [],.o 0 [],.o 2 [],.o 0 []]]]:=Uw (by kernel_rfl)
@[go_sem] theorem ap0:Oi F.slices_Insert_api_Term_api_Term_ [2,0,0]:=Ux (by kernel_rfl)
@[go_sem] theorem apS:Oj F.slices_Insert_api_Term_api_Term_ false:=Uy (by kernel_rfl)
@[go_sem] theorem arZ:QE F.poly_copied [aG] aqV:=qe (by kernel_rfl)
theorem aqD:dv.C F.slices_Delete_api_Term_api_Term_=some anN:=by kernel_rfl
theorem aqE:dv.E F.slices_Delete_api_Term_api_Term_=none:=by kernel_rfl
@[go_sem] theorem aqz:Oh F.slices_Delete_api_Term_api_Term_ []:=Uw (by kernel_rfl)
@[go_sem] theorem aqF:Oi F.slices_Delete_api_Term_api_Term_ [2,0,0]:=Ux (by kernel_rfl)
@[go_sem] theorem apT:Oj F.slices_Delete_api_Term_api_Term_ false:=Uy (by kernel_rfl)
@[go_sem] theorem Mv:QE F.round_round [aG,[],[]] pR:=qe (by kernel_rfl)
@[go_sem] theorem WD:QE F.r23_sum [[.o 2 []]] BH:=qe (by kernel_rfl)
@[go_sem] theorem aqd:QE F.slices_Grow_api_Term_api_Term_ [] aeA:=qe (by kernel_rfl)
@[go_sem] theorem FX:QE F.round_add [aG,aG,[],[]] jE:=qe (by kernel_rfl)
@[go_sem] theorem Mw:QE F.dyadic_size [[.o 2 []]] uA:=qe (by kernel_rfl)
@[go_sem] theorem My:QE F.natural_Mul [[.o 2 []],[.o 2 []]] pS:=qe (by kernel_rfl)
@[go_sem] theorem Gy:QE F.dyadic_checked [aG] lv:=qe (by kernel_rfl)
@[go_sem] theorem DC:QE F.dyadic_canonical [[],[.o 2 []],[]] jU:=qe (by kernel_rfl)
@[go_sem] theorem OA:QE F.dyadic_Neg [aG] ni:=qe (by kernel_rfl)
@[go_sem] theorem Rw:QE F.round_mul [aG,aG,[],[]] lN:=qe (by kernel_rfl)
@[go_sem] theorem JM:QE F.interval_Abs [aU] oj:=qe (by kernel_rfl)
@[go_sem] theorem AO:QE F.interval_end [aG,[],[],[]] kG:=qe (by kernel_rfl)
@[go_sem] theorem UH:QE F.bits_Mul [] zY:=qe (by kernel_rfl)
@[go_sem] theorem H3:QE F.interval_Sign [aU] jF:=qe (by kernel_rfl)
@[go_sem] theorem kN:QE F.round_DivDown [aG,aG,[]] rG:=qe (by kernel_rfl)
@[go_sem] theorem nD:QE F.round_DivUp [aG,aG,[]] uC:=qe (by kernel_rfl)
@[go_sem] theorem UI:QE F.r02_left [[.o 2 []],[]] zZ:=qe (by kernel_rfl)
@[go_sem] theorem UJ:QE F.r02_plus [[.o 2 []],[.o 2 []]] Aa:=qe (by kernel_rfl)
@[go_sem] theorem Rx:QE F.r02_minus [[.o 2 []],[.o 2 []]] xY:=qe (by kernel_rfl)
@[go_sem] theorem UK:QE F.r02_trim [[.o 2 []]] Ac:=qe (by kernel_rfl)
@[go_sem] theorem Ry:QE F.r02_zeros [[.o 2 []]] xZ:=qe (by kernel_rfl)
@[go_sem] theorem Rz:QE F.r02_right [[.o 2 []],[]] s9:=qe (by kernel_rfl)
@[go_sem] theorem JN:QE F.natural_trim [[.o 2 []]] td:=qe (by kernel_rfl)
@[go_sem] theorem Mz:QE F.natural_Shl [[.o 2 []],[]] jo:=qe (by kernel_rfl)
@[go_sem] theorem dw:QE F.slices_IndexFunc_int_int_ [[.o 2 []],[]] lP:=qe (by kernel_rfl)
@[go_sem] theorem DD:QE F.cmp_Compare_int_ [] gW:=qe (by kernel_rfl)
@[go_sem] theorem w9:QE F.slices_Compare_int_int_ [[.o 2 []],[.o 2 []]] fK:=qe (by kernel_rfl)
@[go_sem] theorem MA:QE F.natural_Add [[.o 2 []],[.o 2 []]] pW:=qe (by kernel_rfl)
@[go_sem] theorem MB:QE F.natural_Sub [[.o 2 []],[.o 2 []]] lQ:=qe (by kernel_rfl)
@[go_sem] theorem tL:QE F.slices_Clone_uint32_uint32_ [[.o 2 []]] gq:=qe (by kernel_rfl)
@[go_sem] theorem MC:QE F.round_fault [[],[.o 4 aG]] lR:=qe (by kernel_rfl)
@[go_sem] theorem JO:QE F.round_signed [[],[.o 2 [],.o 0 [],.o 0 []],[],[]] kJ:=qe (by kernel_rfl)
@[go_sem] theorem UM:QE F.round_of [aG] Ae:=qe (by kernel_rfl)
@[go_sem] theorem RA:QE F.round_sum [aG,aG,[]] pi:=qe (by kernel_rfl)
@[go_sem] theorem JP:QE F.natural_Bits [[.o 2 []]] oB:=qe (by kernel_rfl)
@[go_sem] theorem JQ:QE F.natural_long [[.o 2 [.o 2 []]]] th:=qe (by kernel_rfl)
@[go_sem] theorem JR:QE F.natural_done [[.o 2 []]] oC:=qe (by kernel_rfl)
@[go_sem] theorem MD:QE F.natural_mul [[.o 2 []],[.o 2 []]] uG:=qe (by kernel_rfl)
@[go_sem] theorem Gz:QE F.dyadic_trimmed [[.o 2 []]] qE:=qe (by kernel_rfl)
@[go_sem] theorem OB:QE F.dyadic_low [[.o 2 []]] wt:=qe (by kernel_rfl)
@[go_sem] theorem ME:QE F.natural_Shr [[.o 2 []],[]] lS:=qe (by kernel_rfl)
@[go_sem] theorem uM:QE F.slices_Clip_uint32_uint32_ [[.o 2 []]] gN:=qe (by kernel_rfl)
@[go_sem] theorem JS:QE F.interval_Mig [aU] oF:=qe (by kernel_rfl)
@[go_sem] theorem JT:QE F.interval_Mag [aU] tj:=qe (by kernel_rfl)
@[go_sem] theorem yj:QE F.interval_power [aG,[],[],[],[]] lw:=qe (by kernel_rfl)
@[go_sem] theorem adw:QL F.bits_Mul32 []:=ql (by kernel_rfl)
@[go_sem] theorem OD:QE F.bits_Mul64 [] wu:=qe (by kernel_rfl)
@[go_sem] theorem RB:QE F.round_div [aG,aG,[],[]] lU:=qe (by kernel_rfl)
@[go_sem] theorem MF:QE F.natural_shl [[.o 2 []],[]] uI:=qe (by kernel_rfl)
@[go_sem] theorem GA:QE F.cmp_isNaN_int_ [] qF:=qe (by kernel_rfl)
@[go_sem] theorem MG:QE F.natural_add [[.o 2 []],[.o 2 []]] pY:=qe (by kernel_rfl)
@[go_sem] theorem MH:QE F.natural_sub [[.o 2 []],[.o 2 []]] uJ:=qe (by kernel_rfl)
@[go_sem] theorem H4:QE F.round_precise [] mL:=qe (by kernel_rfl)
@[go_sem] theorem RE:QE F.round_cut [[.o 2 [],.o 0 [],.o 0 []],[],[]] pj:=qe (by kernel_rfl)
@[go_sem] theorem RF:QE F.round_shl [[.o 2 []],[]] ya:=qe (by kernel_rfl)
@[go_sem] theorem RG:QE F.round_shr [[.o 2 []],[]] tp:=qe (by kernel_rfl)
@[go_sem] theorem OE:QE F.bits_Len32 [] j8:=qe (by kernel_rfl)
@[go_sem] theorem cG:QE F.slices_ContainsFunc_Suint32_Suint32_ [[.o 2 [.o 2 []]],[]] gG:=qe (by kernel_rfl)
@[go_sem] theorem yk:QE F.natural_long_1 [[.o 2 []]] qG:=qe (by kernel_rfl)
@[go_sem] theorem RH:QL F.bits_TrailingZeros32 []:=ql (by kernel_rfl)
@[go_sem] theorem MI:QE F.natural_shr [[.o 2 []],[]] pZ:=qe (by kernel_rfl)
@[go_sem] theorem OF:QE F.dyadic_Abs [aG] nu:=qe (by kernel_rfl)
@[go_sem] theorem MJ:QE F.dyadic_Bits [aG] p7:=qe (by kernel_rfl)
@[go_sem] theorem GB:QE F.natural_DivMod [[.o 2 []],[.o 2 []]] qH:=qe (by kernel_rfl)
@[go_sem] theorem OG:QE F.bits_Add32 [] wx:=qe (by kernel_rfl)
@[go_sem] theorem OH:QE F.bits_Sub32 [] wz:=qe (by kernel_rfl)
@[go_sem] theorem MK:QE F.dyadic_Make [[],[.o 2 []],[]] jp:=qe (by kernel_rfl)
@[go_sem] theorem cf:QE F.slices_IndexFunc_Suint32_Suint32_ [[.o 2 [.o 2 []]],[]] iv:=qe (by kernel_rfl)
@[go_sem] theorem ym:QE F.natural_divide [[.o 2 []],[.o 2 []]] lA:=qe (by kernel_rfl)
@[go_sem] theorem Fq:QE F.dyadic_exponent [] kK:=qe (by kernel_rfl)
@[go_sem] theorem H5:QE F.natural_short [[.o 2 []],[]] rI:=qe (by kernel_rfl)
@[go_sem] theorem AP:QE F.bits_LeadingZeros32 [] kU:=qe (by kernel_rfl)
@[go_sem] theorem H6:QE F.natural_guess [] mM:=qe (by kernel_rfl)
theorem JU:dv.C F.natural_take=some tu:=by kernel_rfl
theorem JV:dv.E F.natural_take=none:=by kernel_rfl
@[go_sem] theorem H7:Oh F.natural_take [[.o 2 []],[.o 2 []],[]]:=Uw (by kernel_rfl)
@[go_sem] theorem JW:Oi F.natural_take [1,0,0]:=Ux (by kernel_rfl)
@[go_sem] theorem wJ:Oj F.natural_take false:=Uy (by kernel_rfl)
@[go_sem] theorem OI:QE F.bits_Div32 [] wA:=qe (by kernel_rfl)
@[go_sem] theorem H8:QE F.natural_digit [] rJ:=qe (by kernel_rfl)
attribute [go_sem_proc ↓] reduceIte
attribute [go_sem_proc] Nat.reduceEqDiff
end Go.Ab
