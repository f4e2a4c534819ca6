/-
  A law of models holds at every input that the statement speaks of, under the conditions that its card names. Part C1.
-/
import Derived.Test.YtdhfcpbpdmmphaaGreatDoorProg
import Derived.KernelRfl
import Derived.Test.YtdhfcpbpdmmphaaGreatDoorB1
open Nat renaming add_zero → axo, le_refl → awQ, lt_of_le_of_lt → axF, mul_assoc → axn, mul_comm → axf, pow_add → axa, pow_succ → axO, reduceAdd → awI, reduceBEq → awM, reduceLT → awL, reduceLeDiff → awK, reduceMul → awJ, two_pow_pos → axb, zero_add → awP
open List renaming cons_append → axM, length_cons → axE, replicate → awO
set_option linter.all false
namespace Go.Ab
open Go
set_option maxRecDepth 100000
set_option maxHeartbeats 4000000
abbrev F.l25_ModelInside:FuncId:=3
abbrev F.l25_awake:FuncId:=12
abbrev F.l25_great:FuncId:=13
abbrev F.model_Inside:FuncId:=14
abbrev F.l25_pair:FuncId:=15
abbrev F.poly_Sub:FuncId:=16
abbrev F.interval_Inside:FuncId:=17
abbrev F.l25_sum:FuncId:=18
abbrev F.l25_span:FuncId:=19
abbrev F.l25_point:FuncId:=20
abbrev F.r25_Point:FuncId:=21
abbrev F.interval_Has:FuncId:=22
abbrev F.r25_Value:FuncId:=23
abbrev F.r25_Describes:FuncId:=24
abbrev F.l25_n:FuncId:=25
abbrev F.slices_Concat_api_Term_api_Term_:FuncId:=26
abbrev F.poly_Add:FuncId:=27
abbrev F.model_Add:FuncId:=29
abbrev F.poly_Degree:FuncId:=31
abbrev F.poly_Mul:FuncId:=32
abbrev F.model_Mul:FuncId:=33
abbrev F.r02_Int:FuncId:=35
abbrev F.r02_Mul:FuncId:=36
abbrev F.slices_Clone_int_int_:FuncId:=37
abbrev F.r23_Eval:FuncId:=38
abbrev F.r02_Add:FuncId:=39
abbrev F.r02_Sub:FuncId:=40
abbrev F.r02_Cmp:FuncId:=41
abbrev F.interval_Valid:FuncId:=45
abbrev F.interval_Sub:FuncId:=49
abbrev F.interval_Point:FuncId:=50
abbrev F.slices_ContainsFunc_api_Term_api_Term_:FuncId:=54
abbrev F.r02_Neg:FuncId:=58
abbrev F.slices_ContainsFunc_api_Interval_api_Interval_:FuncId:=59
abbrev F.interval_Neg:FuncId:=61
abbrev F.interval_Equal:FuncId:=63
abbrev F.interval_Whole:FuncId:=64
abbrev F.bound_Best:FuncId:=65
abbrev F.r25_Valid:FuncId:=66
abbrev F.interval_Div:FuncId:=68
abbrev F.model_ValidSpace:FuncId:=69
abbrev F.r25_Space:FuncId:=70
abbrev F.model_Valid:FuncId:=71
abbrev F.model_Var:FuncId:=73
abbrev F.poly_Var:FuncId:=75
abbrev F.r25_Unit:FuncId:=76
abbrev F.l25_great_1:FuncId:=77
abbrev F.slices_ContainsFunc_api_Model_api_Model_:FuncId:=78
abbrev F.l25_great_2:FuncId:=79
abbrev F.l25_great_2_1:FuncId:=80
abbrev F.model_every:FuncId:=81
abbrev F.interval_Add:FuncId:=82
abbrev F.model_ranged:FuncId:=83
abbrev F.poly_pair:FuncId:=84
abbrev F.dyadic_Neg:FuncId:=85
abbrev F.dyadic_Cmp:FuncId:=86
abbrev F.r05_Has:FuncId:=87
abbrev F.dyadic_Valid:FuncId:=88
abbrev F.slices_Grow_api_Term_api_Term_:FuncId:=89
abbrev F.poly_empty:FuncId:=90
abbrev F.poly_collector_add:FuncId:=91
abbrev F.poly_collector_done:FuncId:=92
abbrev F.model_none:FuncId:=94
abbrev F.model_made:FuncId:=95
abbrev F.poly_Valid:FuncId:=96
abbrev F.poly_degree:FuncId:=97
abbrev F.dyadic_Mul:FuncId:=98
abbrev F.model_sum:FuncId:=99
abbrev F.interval_Mul:FuncId:=100
abbrev F.model_whole:FuncId:=101
abbrev F.dyadic_Int:FuncId:=102
abbrev F.dyadic_Sign:FuncId:=103
abbrev F.r02_Of:FuncId:=104
abbrev F.r02_Valid:FuncId:=105
abbrev F.r02_Checked:FuncId:=106
abbrev F.r02_Product:FuncId:=107
abbrev F.r23_Valid:FuncId:=108
abbrev F.r23_times:FuncId:=109
abbrev F.r02_Sum:FuncId:=110
abbrev F.r02_Sign:FuncId:=111
abbrev F.r02_Top:FuncId:=112
abbrev F.poly_Split:FuncId:=113
abbrev F.poly_Round:FuncId:=114
abbrev F.interval_Valid_1:FuncId:=115
abbrev F.interval_known:FuncId:=116
abbrev F.interval_permitted:FuncId:=117
abbrev F.round_AddDown:FuncId:=118
abbrev F.slices_IndexFunc_api_Term_api_Term_:FuncId:=121
abbrev F.slices_IndexFunc_api_Interval_api_Interval_:FuncId:=122
abbrev F.bound_fits:FuncId:=123
abbrev F.bound_whole:FuncId:=124
abbrev F.interval_Meet:FuncId:=125
abbrev F.bound_Naive:FuncId:=126
abbrev F.bound_Bernstein:FuncId:=127
abbrev F.r23_Degree:FuncId:=128
abbrev F.r05_Valid:FuncId:=129
abbrev F.r03_Is:FuncId:=130
abbrev F.interval_Sign:FuncId:=132
abbrev F.interval_four:FuncId:=133
abbrev F.round_DivDown:FuncId:=134
abbrev F.round_DivUp:FuncId:=135
abbrev F.model_ValidSpace_1:FuncId:=136
abbrev F.r05_Prec:FuncId:=137
abbrev F.r05_Inside:FuncId:=138
abbrev F.model_Valid_1:FuncId:=139
abbrev F.round_Is:FuncId:=140
abbrev F.slices_IndexFunc_api_Model_api_Model_:FuncId:=141
abbrev F.model_every_1:FuncId:=142
abbrev F.round_AddUp:FuncId:=143
abbrev F.interval_made:FuncId:=144
abbrev F.slices_Clone_uint32_uint32_:FuncId:=145
abbrev F.dyadic_compare:FuncId:=146
abbrev F.dyadic_inRange:FuncId:=147
abbrev F.slices_BinarySearchFunc_api_Term_api_Term_Sint_:FuncId:=148
abbrev F.poly_collector_add_1:FuncId:=149
abbrev F.poly_order:FuncId:=150
abbrev F.slices_Insert_api_Term_api_Term_:FuncId:=151
abbrev F.poly_copied:FuncId:=152
abbrev F.dyadic_Add:FuncId:=153
abbrev F.slices_Delete_api_Term_api_Term_:FuncId:=154
abbrev F.r23_Compare:FuncId:=155
abbrev F.model_cut:FuncId:=157
abbrev F.slices_ContainsFunc_int_int_:FuncId:=158
abbrev F.poly_Valid_1:FuncId:=159
abbrev F.dyadic_size:FuncId:=160
abbrev F.natural_Mul:FuncId:=161
abbrev F.dyadic_checked:FuncId:=162
abbrev F.dyadic_canonical:FuncId:=163
abbrev F.round_MulDown:FuncId:=164
abbrev F.round_MulUp:FuncId:=165
abbrev F.r02_trim:FuncId:=166
abbrev F.r02_zeros:FuncId:=167
abbrev F.r02_right:FuncId:=168
abbrev F.r02_bits:FuncId:=169
abbrev F.r02_times:FuncId:=170
abbrev F.r23_term:FuncId:=171
abbrev F.r02_left:FuncId:=172
abbrev F.r02_plus:FuncId:=173
abbrev F.r02_compare:FuncId:=174
abbrev F.r02_minus:FuncId:=175
abbrev F.round_Near:FuncId:=176
abbrev F.dyadic_Sub:FuncId:=177
abbrev F.round_add:FuncId:=178
abbrev F.dyadic_exponent:FuncId:=179
abbrev F.bound_domain:FuncId:=180
abbrev F.interval_more:FuncId:=181
abbrev F.interval_less:FuncId:=182
abbrev F.bound_power:FuncId:=183
abbrev F.bound_Linear:FuncId:=184
abbrev F.bound_line:FuncId:=185
abbrev F.bound_gridOf:FuncId:=186
abbrev F.bound_grid_unit:FuncId:=187
abbrev F.bound_grid_bernstein:FuncId:=188
abbrev F.interval_Hull:FuncId:=189
abbrev F.r23_sum:FuncId:=190
abbrev F.r05_zero:FuncId:=191
abbrev F.r03_Prec:FuncId:=192
abbrev F.r01_Bits:FuncId:=193
abbrev F.round_div:FuncId:=194
abbrev F.round_fault:FuncId:=195
abbrev F.dyadic_Bits:FuncId:=196
abbrev F.dyadic_Top:FuncId:=197
abbrev F.natural_Cmp:FuncId:=198
abbrev F.dyadic_shifted:FuncId:=199
abbrev F.cmp_Compare_int_:FuncId:=200
abbrev F.slices_Compare_int_int_:FuncId:=201
abbrev F.slices_overlaps_api_Term_:FuncId:=202
abbrev F.slices_rotateRight_api_Term_:FuncId:=203
abbrev F.dyadic_sum:FuncId:=204
abbrev F.slices_IndexFunc_int_int_:FuncId:=205
abbrev F.natural_Bits:FuncId:=206
abbrev F.natural_long:FuncId:=207
abbrev F.natural_done:FuncId:=208
abbrev F.natural_mul:FuncId:=209
abbrev F.natural_trim:FuncId:=210
abbrev F.dyadic_trimmed:FuncId:=211
abbrev F.dyadic_low:FuncId:=212
abbrev F.natural_Shr:FuncId:=213
abbrev F.slices_Clip_uint32_uint32_:FuncId:=214
abbrev F.round_mul:FuncId:=215
abbrev F.round_Down:FuncId:=216
abbrev F.round_Up:FuncId:=217
abbrev F.round_round:FuncId:=218
abbrev F.round_sum:FuncId:=219
abbrev F.round_signed:FuncId:=220
abbrev F.bound_domain_1:FuncId:=221
abbrev F.interval_Power:FuncId:=222
abbrev F.slices_Index_int_int_:FuncId:=223
abbrev F.slices_Repeat_api_Interval_api_Interval_:FuncId:=224
abbrev F.bound_grid_step:FuncId:=225
abbrev F.bound_grid_lines:FuncId:=226
abbrev F.bound_grid_unit_1:FuncId:=227
abbrev F.bound_grid_add:FuncId:=228
abbrev F.bound_grid_mul:FuncId:=229
abbrev F.bound_grid_bernstein_1:FuncId:=230
abbrev F.natural_DivMod:FuncId:=231
abbrev F.round_shl:FuncId:=232
abbrev F.round_precise:FuncId:=233
abbrev F.natural_Shl:FuncId:=234
abbrev F.cmp_isNaN_int_:FuncId:=235
abbrev F.natural_Add:FuncId:=237
abbrev F.natural_Sub:FuncId:=238
abbrev F.bits_Len32:FuncId:=239
abbrev F.slices_ContainsFunc_Suint32_Suint32_:FuncId:=240
abbrev F.natural_long_1:FuncId:=241
abbrev F.bits_TrailingZeros32:FuncId:=242
abbrev F.natural_shr:FuncId:=243
abbrev F.round_of:FuncId:=244
abbrev F.round_shr:FuncId:=245
abbrev F.round_cut:FuncId:=246
abbrev F.interval_Abs:FuncId:=247
abbrev F.interval_end:FuncId:=248
abbrev F.bits_Mul:FuncId:=249
abbrev F.natural_divide:FuncId:=250
abbrev F.natural_shl:FuncId:=251
abbrev F.natural_add:FuncId:=253
abbrev F.natural_sub:FuncId:=254
abbrev F.slices_IndexFunc_Suint32_Suint32_:FuncId:=255
abbrev F.dyadic_Make:FuncId:=256
abbrev F.interval_Mig:FuncId:=257
abbrev F.interval_Mag:FuncId:=258
abbrev F.interval_power:FuncId:=259
abbrev F.bits_Mul32:FuncId:=260
abbrev F.bits_Mul64:FuncId:=261
abbrev F.natural_short:FuncId:=262
abbrev F.bits_LeadingZeros32:FuncId:=263
abbrev F.natural_guess:FuncId:=264
abbrev F.natural_take:FuncId:=265
abbrev F.bits_Add32:FuncId:=266
abbrev F.bits_Sub32:FuncId:=267
abbrev F.dyadic_Abs:FuncId:=268
abbrev F.bits_Div32:FuncId:=269
abbrev F.natural_digit:FuncId:=270
def aF:List Sh:=[.o 0 [],.o 2 [],.o 0 []]
@[go_sem] theorem awx:aF=[.o 0 [],.o 2 [],.o 0 []]:=θ _
def aG:List Sh:=[.o 0 [],.o 2 [],.o 0 [],.o 0 [],.o 2 [],.o 0 [],.o 0 []]
@[go_sem] theorem awy:aG=[.o 0 [],.o 2 [],.o 0 [],.o 0 [],.o 2 [],.o 0 [],.o 0 []]:=θ _
noncomputable section
def g0(f:Func)(l:de):Cmd:=gK Go.Proofs.Tryz.prog [] f l 0 []
def g1(H:List (Nat×Nat))(f:Func)(l:de)(k:Nat)(L:List Cmd):Cmd:=gK Go.Proofs.Tryz.prog H f l k L
def aAn:Cmd:=aq (g1 [(57,0)] Go.Proofs.Tryz.f3 [[3,5,6,7,9],[3,5,6,7,9,18],[10],[3,5,6,7,9,28],[10],[3,5,6,7,9,11],[3,5,6,7,9,11,37],[10],[3,5,6,7,9,11,12,13],[3,5,6,7,9,11,13,14],[3,6,6,8,3,9,4,9,5,9,6,9,6,12,9,12,10,12],[3,5,6,7,9,11,13,14,76],[3,5,6,7,9,11,14],[3,5,6,7,9,11,81],[10],[3,6,7,9,105],[10],[3,7,15,16],[10]] 0 [])
def azY:FD:=⟨5,[[]],[.t 10],aAn⟩
def Ls:Cmd:=aq (g1 [(6,0)] Go.Proofs.Tryz.f12 [[],[1],[1,2],[1,3],[0,5,1,5,0,7,1,7,2,7,3,7,4,7,5,7,6,7],[3,4],[0],[7,8,31,32]] 0 [])
def De:FD:=⟨0,[[]],[.t 0],Ls⟩
def pp:Cmd:=aq (g0 Go.Proofs.Tryz.f13 [[1,2],[1,2,35],[4],[1,2,5],[1,5,45],[4],[4]])
def kE:FD:=⟨2,[[]],[.t 4],pp⟩
def aqo:Cmd:=aq (g0 Go.Proofs.Tryz.f14 [[3,4,5],[3,4,5,25],[6],[3,4,5,7,8],[6],[8,10,8,12,8,15,13,15]])
def aic:FD:=⟨3,[[]],[.t 6],aqo⟩
def G1:Cmd:=aq (g0 Go.Proofs.Tryz.f15 [[3,4,5],[6]])
def aDD:FD:=⟨3,[[]],[.t 6],G1⟩
def av4:de:=[[2,3,4],[2,3,4,12],[4,5],[2,3,4,6],[2,4,6,18,19,20],[2,4,6],[2,4,6,18,19,20],[2,3,4,6],[2,4,6,18,19,20,21],[2,4,6,18,19,20],[2,4,6,8,18,19,20],[2,4,6,18,19,20],[1000009,26,1,6,3,6,1,8],[2,4,6,18,19,20],[4,5]]
def ayf:Cmd:=aq (g1 [] Go.Proofs.Tryz.f16 av4 1 [])
@[go_sem] def ayE(a:Cmd):Cmd:=aq (g1 [] Go.Proofs.Tryz.f16 av4 0 [a])
def ayF:Cmd:=ayE ayf
def ayz:FD:=⟨2,[[.o 0 [],.o 5 [.o 2 [],.o 0 [],.o 2 [],.o 0 []]],[]],[.cell 4 2 true,.t 5],ayF⟩
def fB:Cmd:=aq (g0 Go.Proofs.Tryz.f17 [[2,3],[2,3,12],[4],[4]])
def dT:FD:=⟨2,[[]],[.t 4],fB⟩
def NL:de:=[[2,3,4,6],[3,4,6,9,10,11],[4,6],[3,4,6,9,10,11],[3,4,6],[3,4,6,9,10,11,12],[3,4,6,9,10,11],[3,4,6,8,9,10,11],[3,4,6,9,10,11],[3,4,6,9,10,11],[6]]
def pY:Cmd:=aq (g1 [] Go.Proofs.Tryz.f18 NL 1 [])
@[go_sem] def acH(a:Cmd):Cmd:=aq (g1 [] Go.Proofs.Tryz.f18 NL 0 [a])
def Rb:Cmd:=acH pY
def G2:FD:=⟨3,[aG],[.cell 6 7 true],Rb⟩
def G3:Cmd:=aq (g0 Go.Proofs.Tryz.f19 [[2,3,4],[2,3,4,8],[4],[4]])
def aDx:FD:=⟨2,[aG],[.cell 4 7 true],G3⟩
def aBB:Cmd:=aq (g0 Go.Proofs.Tryz.f20 [[3,6,7,8,10,11],[12]])
def aBk:FD:=⟨6,[[]],[.t 12],aBB⟩
def aBx:de:=[[1,2],[1,2,11],[4],[1,2,5],[],[1,2,5],[2],[1,2,5,15],[1,2,5],[1,2,5,28],[],[4],[1,2,5],[4]]
def aAr:Cmd:=aq (g1 [] Go.Proofs.Tryz.f21 aBx 1 [])
@[go_sem] def aB0(a:Cmd):Cmd:=aq (g1 [] Go.Proofs.Tryz.f21 aBx 0 [a])
def aBs:Cmd:=aB0 aAr
def aA9:FD:=⟨2,[[]],[.t 4],aBs⟩
def mu:Cmd:=aq (g0 Go.Proofs.Tryz.f22 [[2,3],[2,3,12],[4],[4]])
def i7:FD:=⟨2,[[]],[.t 4],mu⟩
def aBt:Cmd:=aq (g0 Go.Proofs.Tryz.f23 [[1,3,5,6],[5,6,8,9],[5,6,8,18],[6,7],[6,8,9],[6,7]])
def aBa:FD:=⟨3,[aF,[]],[.cell 6 3 true,.t 7],aBt⟩
def aAY:Cmd:=aq (g0 Go.Proofs.Tryz.f24 [[1,3,5],[3,5,7,8],[3,5,7,19],[6],[3,9,10],[6]])
def aAK:FD:=⟨3,[[]],[.t 6],aAY⟩
def X7:Cmd:=aq (g0 Go.Proofs.Tryz.f25 [[0,2],[2]])
def L6:FD:=⟨1,[aG],[.cell 2 7 true],X7⟩
def aDT:de:=[[0],[0,3],[0,3,9,10,11],[0,3],[0,3,9,10,11],[],[0,3,9,10,11,12],[0,3,9,10,11],[0,3,5,9,10,11],[0,3,9,10,11],[0,3,9,10,11,20],[0,3,9,10,11],[0,3,9,10,11],[0,6],[6,25,26,27],[6],[6,25,26,27],[33,2192],[6,25,26,27,28],[6,25,26,27],[6,8,25,26,27],[6,25,26,27],[6,25,26,27],[2]]
def fM:Cmd:=aq (g1 [] Go.Proofs.Tryz.f26 aDT 1 [])
def ko:Cmd:=aq (g1 [] Go.Proofs.Tryz.f26 aDT 2 [])
@[go_sem] def wh(a b:Cmd):Cmd:=aq (g1 [] Go.Proofs.Tryz.f26 aDT 0 [a,b])
def lI:Cmd:=wh fM ko
def go:FD:=⟨1,[[.o 5 [.o 2 [],.o 0 [],.o 2 [],.o 0 []]]],[.t 2],lI⟩
def Lt:de:=[[2,3,4],[2,3,4,12],[4,5],[2,3,4,6],[4,6,22,23,24],[4,6],[4,6,22,23,24],[4,2128],[4,6,22,23,24,25],[4,6,22,23,24],[4,6,8,22,23,24],[4,6,22,23,24],[4,6,22,23,24],[4,5]]
def rZ:Cmd:=aq (g1 [] Go.Proofs.Tryz.f27 Lt 1 [])
@[go_sem] def aaH(a:Cmd):Cmd:=aq (g1 [] Go.Proofs.Tryz.f27 Lt 0 [a])
def G4:Cmd:=aaH rZ
def aDQ:FD:=⟨2,[[.o 0 [],.o 5 [.o 2 [],.o 0 [],.o 2 [],.o 0 []]],[]],[.cell 4 2 true,.t 5],G4⟩
def Fq:Cmd:=aq (g0 Go.Proofs.Tryz.f29 [[3,4,5,6],[3,4,5,6,14],[6],[3,4,5,6,7,8],[6],[0,9,1,9]])
def yF:FD:=⟨3,[[.o 0 [],.o 5 [.o 2 [],.o 0 [],.o 2 [],.o 0 []],.o 0 [],.o 2 [],.o 0 [],.o 0 [],.o 2 [],.o 0 [],.o 0 []]],[.cell 6 9 true],Fq⟩
def wZ:Cmd:=aq (g0 Go.Proofs.Tryz.f31 [[1],[1,11],[2],[2]])
def pZ:FD:=⟨1,[[]],[.t 2],wZ⟩
def A6:de:=[[2,3,4],[2,3,4],[2,3,4,16],[4,5],[2,3,4,22],[12,13],[4,5],[2,3,4,6],[3,4,6,46,47,48],[4,6],[3,4,6,46,47,48],[2,3,4,2352],[3,4,6,46,47,48,49],[3,4,6,46,47,48],[3,4,6,8,46,47,48],[3,4,6,8,46,47,48,53,54,55],[3,4,6,46,47,48],[3,4,6,8,46,47,48,53,54,55],[2,3,4,8,2352],[3,4,6,8,46,47,48,53,54,55,56],[3,4,6,8,46,47,48,53,54,55],[3,4,6,8,10,46,47,48,53,54,55],[3,4,6,8,10,11,12,46,47,48,53,54,55],[3,4,6,8,10,11,46,47,48,53,54,55,68],[4,5],[3,4,6,8,10,11,13,46,47,48,53,54,55],[3,4,6,8,11,13,46,47,48,53,54,55,74,75,76],[3,4,6,8,11,13,46,47,48,53,54,55],[3,4,6,8,11,13,46,47,48,53,54,55,74,75,76],[2,3,4,8,10,11,2352,2576],[3,4,6,8,11,13,46,47,48,53,54,55,74,75,76,77],[3,4,6,8,11,13,46,47,48,53,54,55,74,75,76],[3,4,6,8,11,13,14,15,46,47,48,53,54,55,74,75,76],[3,4,6,8,11,13,46,47,48,53,54,55,74,75,76],[3,4,6,8,11,13,46,47,48,53,54,55,74,75,76],[3,4,6,8,46,47,48,53,54,55],[3,4,6,8,46,47,48,53,54,55],[3,4,6,46,47,48],[4,5]]
def jz:Cmd:=aq (g1 [] Go.Proofs.Tryz.f32 A6 1 [])
@[go_sem] def Sp(a:Cmd):Cmd:=aq (g1 [] Go.Proofs.Tryz.f32 A6 2 [a])
def jA:Cmd:=Sp jz
@[go_sem] def Sq(a b:Cmd):Cmd:=aq (g1 [] Go.Proofs.Tryz.f32 A6 3 [a,b])
def se:Cmd:=Sq jz jA
@[go_sem] def aaI(a b c:Cmd):Cmd:=aq (g1 [] Go.Proofs.Tryz.f32 A6 0 [a,b,c])
def uT:Cmd:=aaI jz jA se
def pq:FD:=⟨2,[[.o 0 [],.o 5 [.o 2 [],.o 0 [],.o 2 [],.o 0 []]],[]],[.cell 4 2 true,.t 5],uT⟩
def Fr:Cmd:=aq (g1 [(62,0)] Go.Proofs.Tryz.f33 [[3,4,5,6],[3,4,5,6,17],[6],[3,4,5,6,7],[3,4,5,6,7,8,9],[3,4,5,6,7,8,9,10,11],[5,7,5,9,1,12,3,12,5,12,7,12,9,12,11,12,1,13,3,13,5,13,7,13,9,13,11,13,12,13],[6],[0,8,1,8,8,9,8,11,0,13,1,13,8,15,13,15,8,17,13,17,0,19,1,19,0,20,1,20,0,21,1,21]] 0 [])
def yG:FD:=⟨3,[[.o 0 [],.o 5 [.o 2 [],.o 0 [],.o 2 [],.o 0 []],.o 0 [],.o 2 [],.o 0 [],.o 0 [],.o 2 [],.o 0 [],.o 0 []]],[.cell 6 9 true],Fr⟩
def Rc:Cmd:=aq (g0 Go.Proofs.Tryz.f35 [[0,2],[0,2,3],[0,2,3,7],[0,2,3],[2]])
def G5:FD:=⟨1,[aF],[.cell 2 3 true],Rc⟩
def aBo:Cmd:=aq (g0 Go.Proofs.Tryz.f36 [[2,3,4],[2,3,4,13],[4,5],[4,5]])
def aBb:FD:=⟨2,[aF,[]],[.cell 4 3 true,.t 5],aBo⟩
def vW:Cmd:=aq (g0 Go.Proofs.Tryz.f37 [[0],[0,4],[2],[2]])
def mM:FD:=⟨1,[[]],[.t 2],vW⟩
def aBg:de:=[[1,2,4],[1,2,4,22],[4,5],[1,2,4,6],[1,2,4],[1,2,4,6],[2,4],[1,2,4,6,27],[1,2,4,6],[1,2,4,6,35],[4,5],[1,2,4,6],[1,2,4,7],[1,2,4,7,8],[4,7],[1,2,4,7,8],[2,4,7],[1,2,4,7,8,41],[1,2,4,7,8],[1,2,4,7,8,9],[1,2,4,7,8,9,10],[1,2,4,7,8,9],[1,2,4,7,8,9,10],[2,4,7,9],[1,2,4,7,8,9,10,53],[1,2,4,7,8,9,10],[1,2,4,7,8,9,10],[1,2,4,7,8,9,10,11],[],[1,2,4,7,8,9,10,75],[4,5],[1,2,4,7,8,9,10],[1,2,4,7,8,9],[1,2,4,7,8,12],[1,2,4,7,8,84],[4,5],[1,2,4,7,8],[4,5]]
def aAp:Cmd:=aq (g1 [] Go.Proofs.Tryz.f38 aBg 1 [])
@[go_sem] def aBS(a:Cmd):Cmd:=aq (g1 [] Go.Proofs.Tryz.f38 aBg 2 [a])
def aAs:Cmd:=aBS aAp
def aAq:Cmd:=aq (g1 [] Go.Proofs.Tryz.f38 aBg 3 [])
@[go_sem] def aCf(a b c:Cmd):Cmd:=aq (g1 [] Go.Proofs.Tryz.f38 aBg 0 [a,b,c])
def aBj:Cmd:=aCf aAp aAs aAq
def aA2:FD:=⟨2,[aF,[]],[.cell 4 3 true,.t 5],aBj⟩
def aBp:Cmd:=aq (g0 Go.Proofs.Tryz.f39 [[2,3,4],[2,3,4,13],[4,5],[4,5]])
def aBc:FD:=⟨2,[aF,[]],[.cell 4 3 true,.t 5],aBp⟩
def aBq:Cmd:=aq (g0 Go.Proofs.Tryz.f40 [[2,3,4],[2,3,4,13],[4,5],[4,5],[0,2]])
def aBd:FD:=⟨2,[aF,[]],[.cell 4 3 true,.t 5],aBq⟩
def oK:Cmd:=aq (g0 Go.Proofs.Tryz.f41 [[2,3],[2,3,5,6],[1,2],[2,3,5,6,13],[16],[4],[4],[2,3,5,18],[4],[2,3,5,23],[1,2],[31],[1,2],[4],[4],[4],[0,2]])
def ku:FD:=⟨2,[[]],[.t 4],oK⟩
def jZ:Cmd:=aq (g0 Go.Proofs.Tryz.f45 [[1],[1,5],[1,3],[2],[2]])
def gF:FD:=⟨1,[[]],[.t 2],jZ⟩
def FV:Cmd:=aq (g0 Go.Proofs.Tryz.f49 [[2,3,4,6],[6],[0,2]])
def yJ:FD:=⟨3,[aG],[.cell 6 7 true],FV⟩
def Dg:Cmd:=aq (g0 Go.Proofs.Tryz.f50 [[1,2],[1,2,5],[2],[2]])
def wj:FD:=⟨1,[aG],[.cell 2 7 true],Dg⟩
def rk:Cmd:=aq (g0 Go.Proofs.Tryz.f54 [[0,1],[4]])
def iS:FD:=⟨2,[[]],[.t 4],rk⟩
def IV:Cmd:=aq (g0 Go.Proofs.Tryz.f58 [[1,2],[2]])
def Cw:FD:=⟨1,[aF],[.cell 2 3 true],IV⟩
def mN:Cmd:=aq (g0 Go.Proofs.Tryz.f59 [[0,1],[4]])
def fN:FD:=⟨2,[[]],[.t 4],mN⟩
def Ag:Cmd:=aq (g0 Go.Proofs.Tryz.f61 [[1,2],[1,2,6],[2],[2],[2,4]])
def tv:FD:=⟨1,[aG],[.cell 2 7 true],Ag⟩
def xr:Cmd:=aq (g0 Go.Proofs.Tryz.f63 [[2,3],[4]])
def pH:FD:=⟨2,[[]],[.t 4],xr⟩
def Dh:Cmd:=aq (g0 Go.Proofs.Tryz.f64 [[0],[0]])
def wk:FD:=⟨0,[aG],[.cell 0 7 true],Dh⟩
def yK:Cmd:=aq (g0 Go.Proofs.Tryz.f65 [[1,2,3,6],[1,2,3,6,13],[6],[6,7,8],[3,4,0,12,3,12,4,12,7,12,8,12],[6,7,28],[6],[6]])
def sj:FD:=⟨3,[aG],[.cell 6 7 true],yK⟩
def IW:de:=[[2,3],[2,3,37],[21,23],[4],[2,3,5],[],[2,3,5],[2,3],[2,3,5,43],[2,3,5],[2,3,5,56],[],[4],[2,3,5],[4]]
def j6:Cmd:=aq (g1 [] Go.Proofs.Tryz.f66 IW 1 [])
@[go_sem] def W9(a:Cmd):Cmd:=aq (g1 [] Go.Proofs.Tryz.f66 IW 0 [a])
def pt:Cmd:=W9 j6
def kF:FD:=⟨2,[[]],[.t 4],pt⟩
def p7:Cmd:=aq (g0 Go.Proofs.Tryz.f68 [[2,3,4,6],[2,3,4,6,21],[6],[6]])
def kT:FD:=⟨3,[aG],[.cell 6 7 true],p7⟩
def eS:Cmd:=aq (g0 Go.Proofs.Tryz.f69 [[1],[1,3],[1,3,36],[2],[2]])
def dB:FD:=⟨1,[[]],[.t 2],eS⟩
def IX:de:=[[1],[1,29],[2],[1,3],[],[1,3],[1],[1,3,34],[1,3],[1,3,61],[17,21,20,21],[2],[1,3],[2]]
def gp:Cmd:=aq (g1 [] Go.Proofs.Tryz.f70 IX 1 [])
@[go_sem] def Xa(a:Cmd):Cmd:=aq (g1 [] Go.Proofs.Tryz.f70 IX 0 [a])
def pu:Cmd:=Xa gp
def kG:FD:=⟨1,[[]],[.t 2],pu⟩
def lq:Cmd:=aq (g0 Go.Proofs.Tryz.f71 [[2,3],[2,3,36],[21,23],[4],[4]])
def iI:FD:=⟨2,[[]],[.t 4],lq⟩
def wH:Cmd:=aq (g0 Go.Proofs.Tryz.f73 [[1,2,4],[2,4,5,6],[2,4,5,21],[4],[4],[0,1]])
def p8:FD:=⟨2,[[.o 0 [],.o 5 [.o 2 [],.o 0 [],.o 2 [],.o 0 []],.o 0 [],.o 2 [],.o 0 [],.o 0 [],.o 2 [],.o 0 [],.o 0 []]],[.cell 4 9 true],wH⟩
def yL:Cmd:=aq (g0 Go.Proofs.Tryz.f75 [[0,1,4],[0,1,4,22],[4,5],[0,1,4,6],[0,4,6],[4,6,7],[4,7],[4,5]])
def sO:FD:=⟨2,[[.o 0 [],.o 5 [.o 2 [],.o 0 [],.o 2 [],.o 0 []]],[]],[.cell 4 2 true,.t 5],yL⟩
def NN:Cmd:=aq (g0 Go.Proofs.Tryz.f76 [[0],[0]])
def Ft:FD:=⟨0,[aG],[.cell 0 7 true],NN⟩
def BT:Cmd:=aq (g0 Go.Proofs.Tryz.f77 [[1],[2]])
def uU:FD:=⟨1,[[]],[.t 2],BT⟩
def p9:Cmd:=aq (g0 Go.Proofs.Tryz.f78 [[0,1],[4]])
def io:FD:=⟨2,[[]],[.t 4],p9⟩
def w9:Cmd:=aq (g0 Go.Proofs.Tryz.f79 [[1,2],[3]])
def qf:FD:=⟨2,[[]],[.t 3],w9⟩
def EA:Cmd:=aq (g0 Go.Proofs.Tryz.f80 [[1],[2]])
def xt:FD:=⟨1,[[]],[.t 2],EA⟩
def BU:Cmd:=aq (g0 Go.Proofs.Tryz.f81 [[1,2],[4]])
def uV:FD:=⟨2,[[]],[.t 4],BU⟩
def uW:Cmd:=aq (g0 Go.Proofs.Tryz.f82 [[2,3,4,6],[2,3,4,6,20],[6],[2,3,4,6,7,8],[6,7,8,9,10],[6]])
def oL:FD:=⟨3,[aG],[.cell 6 7 true],uW⟩
def Ah:Cmd:=aq (g0 Go.Proofs.Tryz.f83 [[1,2,3,6],[1,2,3,6,10],[6],[6]])
def tw:FD:=⟨3,[aG],[.cell 6 7 true],Ah⟩
def A7:Cmd:=aq (g0 Go.Proofs.Tryz.f84 [[2,3],[4]])
def ug:FD:=⟨2,[[]],[.t 4],A7⟩
def yM:Cmd:=aq (g0 Go.Proofs.Tryz.f85 [[1,2],[1,2,11],[2],[2],[1,5,5,7]])
def sk:FD:=⟨1,[aF],[.cell 2 3 true],yM⟩
def mO:Cmd:=aq (g0 Go.Proofs.Tryz.f86 [[2,3],[2,3,14],[4],[2,3,5,6],[1,2],[2,3,5],[2,3,5,6,19],[4],[2,3,5,23],[4],[2,3,5,27],[4],[4]])
def jB:FD:=⟨2,[[]],[.t 4],mO⟩
def aA3:Cmd:=aq (g0 Go.Proofs.Tryz.f87 [[2,3],[2,3,12],[4],[4]])
def aAP:FD:=⟨2,[[]],[.t 4],aA3⟩
def j7:Cmd:=aq (g0 Go.Proofs.Tryz.f88 [[1],[1,6],[2],[2]])
def gP:FD:=⟨1,[[]],[.t 2],j7⟩
def iq:Cmd:=aq (g0 Go.Proofs.Tryz.f89 [[0,1],[0,1,6],[0,1],[7777777,100000],[0,1],[0,1,16],[7777777,100000],[0],[7777777,100000],[4]])
def eN:FD:=⟨2,[[]],[.t 4],iq⟩
def Ur:Cmd:=aq (g0 Go.Proofs.Tryz.f90 [[0],[2]])
def HU:FD:=⟨1,[[]],[.t 2],Ur⟩
def i8:Cmd:=aq (g1 [(83,1),(35,0)] Go.Proofs.Tryz.f91 [[0,1,5],[0,1,5,14],[0,1,5,6,7],[0,1,5,6,26],[],[1000013,33,5,8,8,9,5,10,5,12],[0,6,8,9],[4,14,8,14,9,14,10,14],[],[0,6,8,67],[],[0,6,8,73],[],[],[]] 0 [])
def fO:FD:=⟨3,[],[],i8⟩
def iJ:Cmd:=aq (g0 Go.Proofs.Tryz.f92 [[0,2],[0,2],[0,2,4],[2,3],[4,5],[0,2,15],[2,3],[2,3]])
def fw:FD:=⟨1,[[.o 0 [],.o 5 [.o 2 [],.o 0 [],.o 2 [],.o 0 []]],[]],[.cell 2 2 true,.t 3],iJ⟩
def IY:Cmd:=aq (g0 Go.Proofs.Tryz.f94 [[1,2],[2],[1,4]])
def BV:FD:=⟨1,[[.o 0 [],.o 5 [.o 2 [],.o 0 [],.o 2 [],.o 0 []],.o 0 [],.o 2 [],.o 0 [],.o 0 [],.o 2 [],.o 0 [],.o 0 []]],[.cell 2 9 true],IY⟩
def yN:Cmd:=aq (g0 Go.Proofs.Tryz.f95 [[2,4,5,7,8],[4,5,7,8,13],[8],[4,7,8,9,10,11],[4,7,8,9,10,24],[8],[8],[0,5]])
def sn:FD:=⟨4,[[.o 0 [],.o 5 [.o 2 [],.o 0 [],.o 2 [],.o 0 []],.o 0 [],.o 2 [],.o 0 [],.o 0 [],.o 2 [],.o 0 [],.o 0 []]],[.cell 8 9 true],yN⟩
def HV:de:=[[1],[1,18],[2],[1,20,21,22],[],[1,20,21,22],[1],[1,20,21,22,23],[1,20,21,22],[1,3,4,20,21,22],[1,3,4,20,21,22,45],[2],[1,3,4,20,21,22,54],[2],[1,20,21,22,69],[],[2],[1,20,21,22],[2]]
def dU:Cmd:=aq (g1 [] Go.Proofs.Tryz.f96 HV 1 [])
@[go_sem] def Us(a:Cmd):Cmd:=aq (g1 [] Go.Proofs.Tryz.f96 HV 0 [a])
def qg:Cmd:=Us dU
def lv:FD:=⟨1,[[]],[.t 2],qg⟩
def FW:de:=[[0],[0,3],[3,6,7,8],[3],[3,6,7,8],[],[3,6,7,8,9],[3,6,7,8],[3,5,6,7,8],[3,6,7,8],[3,6,7,8],[2]]
def rm:Cmd:=aq (g1 [] Go.Proofs.Tryz.f97 FW 1 [])
@[go_sem] def Sr(a:Cmd):Cmd:=aq (g1 [] Go.Proofs.Tryz.f97 FW 0 [a])
def HW:Cmd:=Sr rm
def Ai:FD:=⟨1,[[]],[.t 2],HW⟩
def kH:Cmd:=aq (g0 Go.Proofs.Tryz.f98 [[2,3,4],[2,3,4,15],[4,5],[2,3,4,26],[4,5],[2,3,4,36],[2,4],[4,5],[2,3,4,6],[4,5]])
def ie:FD:=⟨2,[aF,[]],[.cell 4 3 true,.t 5],kH⟩
def IZ:de:=[[0,2,4,6],[0,4,6,9,10,11],[4,6],[0,4,6,9,10,11],[4,6],[0,4,6,9,10,11,12],[0,4,6,9,10,11],[0,4,6,8,9,10,11],[0,4,6,9,10,11],[0,4,6,9,10,11],[6]]
def mA:Cmd:=aq (g1 [] Go.Proofs.Tryz.f99 IZ 1 [])
@[go_sem] def Xb(a:Cmd):Cmd:=aq (g1 [] Go.Proofs.Tryz.f99 IZ 0 [a])
def Lw:Cmd:=Xb mA
def Di:FD:=⟨3,[aG],[.cell 6 7 true],Lw⟩
def uX:Cmd:=aq (g0 Go.Proofs.Tryz.f100 [[2,3,4,6],[2,3,4,6,16],[6],[6]])
def oM:FD:=⟨3,[aG],[.cell 6 7 true],uX⟩
def HX:Cmd:=aq (g0 Go.Proofs.Tryz.f101 [[0,2],[2]])
def Aj:FD:=⟨1,[aG],[.cell 2 7 true],HX⟩
def Dj:Cmd:=aq (g0 Go.Proofs.Tryz.f102 [[0,2],[0,2,3],[0,2,3,7],[0,2,3],[2]])
def xc:FD:=⟨1,[aF],[.cell 2 3 true],Dj⟩
def so:Cmd:=aq (g0 Go.Proofs.Tryz.f103 [[1],[],[1,3],[2],[13],[2],[2]])
def mB:FD:=⟨1,[[]],[.t 2],so⟩
def L7:Cmd:=aq (g0 Go.Proofs.Tryz.f104 [[0,1,2,6],[0,1,2,6],[0,1,2,6,12],[6],[0,1,2,6,7],[6]])
def EB:FD:=⟨3,[aF],[.cell 6 3 true],L7⟩
def iT:Cmd:=aq (g0 Go.Proofs.Tryz.f105 [[1],[1,7],[2],[1,48],[2],[1,3],[2]])
def fV:FD:=⟨1,[[]],[.t 2],iT⟩
def aBh:Cmd:=aq (g0 Go.Proofs.Tryz.f106 [[1,2],[1,2,6],[2,3],[2,3]])
def aAZ:FD:=⟨1,[aF,[]],[.cell 2 3 true,.t 3],aBh⟩
def aBw:Cmd:=aq (g0 Go.Proofs.Tryz.f107 [[2,3,4],[4],[1,9,3,9,9,11,9,13]])
def aBf:FD:=⟨2,[aF],[.cell 4 3 true],aBw⟩
def I0:de:=[[1],[1,17],[2],[1,3],[],[1,3],[1],[1,3,22],[1,3],[1,3,54],[],[2],[1,3],[2]]
def j8:Cmd:=aq (g1 [] Go.Proofs.Tryz.f108 I0 1 [])
@[go_sem] def Xc(a:Cmd):Cmd:=aq (g1 [] Go.Proofs.Tryz.f108 I0 0 [a])
def sP:Cmd:=Xc j8
def mP:FD:=⟨1,[[]],[.t 2],sP⟩
def aBy:de:=[[2,3,4,6],[3,6],[2,3,4,6],[3,4,6],[2,3,4,6,10],[2,3,4,6],[2,3,4,6],[2,3,4,6,8],[2,3,4,6,20],[6,7],[2,3,4,6],[6,7]]
def aAt:Cmd:=aq (g1 [] Go.Proofs.Tryz.f109 aBy 1 [])
@[go_sem] def aB1(a:Cmd):Cmd:=aq (g1 [] Go.Proofs.Tryz.f109 aBy 0 [a])
def aBC:Cmd:=aB1 aAt
def aBl:FD:=⟨3,[aF,[]],[.cell 6 3 true,.t 7],aBC⟩
def xY:Cmd:=aq (g0 Go.Proofs.Tryz.f110 [[2,3,4],[2,3,4,11],[4],[2,3,4,16],[4],[2,3,4,5],[2,3,4,5,6,7],[6,8,6,10],[2,3,4,5,6,7,41],[4],[1,4],[2,3,4,5,6,7,52],[4],[1,4],[4],[1,4]])
def rn:FD:=⟨2,[aF],[.cell 4 3 true],xY⟩
def Cy:Cmd:=aq (g0 Go.Proofs.Tryz.f111 [[1],[1,6],[2],[8],[2],[2]])
def wJ:FD:=⟨1,[[]],[.t 2],Cy⟩
def I1:Cmd:=aq (g0 Go.Proofs.Tryz.f112 [[1],[1,6],[2],[2],[2,4]])
def Cz:FD:=⟨1,[[]],[.t 2],I1⟩
def HY:de:=[[1,2,4,5],[1,2,4,5,12],[4,5],[1,2,4,5,6,7],[2,4],[1,4,5,6,7,22,23,24],[4,5,6,7],[1,4,5,6,7,22,23,24],[2,4,5,2136,2160],[1,4,5,6,7,22,23,24,25],[1,4,5,6,7,22,23,24],[1,4,5,6,7,9,22,23,24],[1,4,5,6,7,9,22,23,24,32],[1,4,5,6,7,22,23,24],[1,4,5,6,7,22,23,24],[1,4,5,6,7,22,23,24],[7777777,6,7],[4,5],[7,8]]
def kU:Cmd:=aq (g1 [] Go.Proofs.Tryz.f113 HY 1 [])
@[go_sem] def Ut(a:Cmd):Cmd:=aq (g1 [] Go.Proofs.Tryz.f113 HY 0 [a])
def Dk:Cmd:=Ut kU
def xd:FD:=⟨2,[[.o 0 [],.o 5 [.o 2 [],.o 0 [],.o 2 [],.o 0 []]],[.o 0 [],.o 5 [.o 2 [],.o 0 [],.o 2 [],.o 0 []]]],[.cell 4 2 true,.cell 5 2 true],Dk⟩
def HZ:de:=[[1,2,4,5],[1,2,4,5],[1,2,4,5,14],[4,5,6],[1,2,4,5,20],[4,5,6],[1,2,4,5,7,8],[2,4],[1,4,5,7,8,36,37,38],[4,5,7,8],[1,4,5,7,8,36,37,38],[2,4,5,2248,2272],[1,4,5,7,8,36,37,38,39],[1,4,5,7,8,36,37,38],[1,4,5,7,8,10,36,37,38],[1,4,5,7,8,10,11,12,36,37,38],[1,4,5,7,8,10,11,36,37,38,50],[4,5,6],[1,4,5,7,8,10,11,12,13,36,37,38],[1,4,5,7,8,10,11,13,36,37,38,61],[4,5,6],[1,4,5,7,8,10,11,13,36,37,38,67],[1,4,5,7,8,10,13,36,37,38],[1,4,5,7,8,10,13,36,37,38,76],[1,4,5,7,8,36,37,38],[1,4,5,7,8,36,37,38],[7777777,7,8],[4,5,6],[7,8]]
def eO:Cmd:=aq (g1 [] Go.Proofs.Tryz.f114 HZ 1 [])
@[go_sem] def Uu(a:Cmd):Cmd:=aq (g1 [] Go.Proofs.Tryz.f114 HZ 0 [a])
def ui:Cmd:=Uu eO
def nR:FD:=⟨2,[[.o 0 [],.o 5 [.o 2 [],.o 0 [],.o 2 [],.o 0 []]],[.o 0 [],.o 5 [.o 2 [],.o 0 [],.o 2 [],.o 0 []]],[]],[.cell 4 2 true,.cell 5 2 true,.t 6],ui⟩
def kJ:Cmd:=aq (g0 Go.Proofs.Tryz.f115 [[1],[2]])
def gU:FD:=⟨1,[[]],[.t 2],kJ⟩
def Ch:de:=[[0],[5,6,7],[],[5,6,7],[],[5,6,7,8],[5,6,7],[4,5,6,7],[5,6,7,17],[2],[5,6,7],[2]]
def gV:Cmd:=aq (g1 [] Go.Proofs.Tryz.f116 Ch 1 [])
@[go_sem] def L8(a:Cmd):Cmd:=aq (g1 [] Go.Proofs.Tryz.f116 Ch 0 [a])
def xu:Cmd:=L8 gV
def pI:FD:=⟨1,[[]],[.t 2],xu⟩
def rp:Cmd:=aq (g0 Go.Proofs.Tryz.f117 [[0],[2]])
def kV:FD:=⟨1,[[]],[.t 2],rp⟩
def EC:Cmd:=aq (g0 Go.Proofs.Tryz.f118 [[2,3,4,6],[6,7]])
def xw:FD:=⟨3,[aF,[]],[.cell 6 3 true,.t 7],EC⟩
def jM:de:=[[0,1],[0,1,7,8],[],[0,1,7,8],[1000],[0,1,7,8,9],[0,1,7,8],[0,1,5,7,8],[0,1,5,7,8,16],[4],[0,1,7,8],[4]]
def ru:Cmd:=aq (g1 [] Go.Proofs.Tryz.f121 jM 1 [])
@[go_sem] def tQ(a:Cmd):Cmd:=aq (g1 [] Go.Proofs.Tryz.f121 jM 0 [a])
def tT:Cmd:=tQ ru
def jN:FD:=⟨2,[[]],[.t 4],tT⟩
def gw:de:=[[0,1],[0,1,7,8],[],[0,1,7,8],[1000],[0,1,7,8,9],[0,1,7,8],[0,1,5,7,8],[0,1,5,7,8,16],[4],[0,1,7,8],[4]]
def mQ:Cmd:=aq (g1 [] Go.Proofs.Tryz.f122 gw 1 [])
@[go_sem] def aC4(a:Cmd):Cmd:=aq (g1 [] Go.Proofs.Tryz.f122 gw 0 [a])
def oO:Cmd:=aC4 mQ
def gx:FD:=⟨2,[[]],[.t 4],oO⟩
def yQ:Cmd:=aq (g0 Go.Proofs.Tryz.f123 [[1,2,3],[6]])
def sq:FD:=⟨3,[[]],[.t 6],yQ⟩
def H0:Cmd:=aq (g0 Go.Proofs.Tryz.f124 [[0],[0]])
def Ak:FD:=⟨0,[aG],[.cell 0 7 true],H0⟩
def i9:Cmd:=aq (g0 Go.Proofs.Tryz.f125 [[2,3,4],[2,3,4],[2,3,4,7],[4,5],[2,3,4,17],[4,5],[2,3,4,21],[4,5],[4,6],[4,6,4,8,1,11,3,11,4,11,6,11,8,11,9,11],[4,6,41],[4,5],[4,5]])
def fW:FD:=⟨2,[aG,[]],[.cell 4 7 true,.t 5],i9⟩
def Al:de:=[[1,2,3,6],[1,2,3,6,17],[6],[1,2,3,6,7],[1,2,6,7,22,23,24],[6,7],[1,2,6,7,22,23,24],[3,6,7],[1,2,6,7,22,23,24,25],[1,2,6,7,22,23,24],[1,2,6,7,9,22,23,24],[1,2,6,7,9,10,22,23,24],[1,2,6,7,10,22,23,24,32,33,34],[1,2,6,7,10,22,23,24],[1,2,6,7,10,22,23,24,32,33,34],[3,6,7,9,10],[1,2,6,7,10,22,23,24,32,33,34,35],[1,2,6,7,10,22,23,24,32,33,34],[1,2,6,7,10,11,12,22,23,24,32,33,34],[1,2,6,7,10,11,12,22,23,24,32,33,34,40],[1,2,6,7,10,22,23,24,32,33,34],[0,7],[1,2,6,7,10,22,23,24,32,33,34],[1,2,6,7,22,23,24],[1,2,6,7,22,23,24],[6]]
def fX:Cmd:=aq (g1 [] Go.Proofs.Tryz.f126 Al 1 [])
@[go_sem] def L9(a:Cmd):Cmd:=aq (g1 [] Go.Proofs.Tryz.f126 Al 2 [a])
def ke:Cmd:=L9 fX
@[go_sem] def Ss(a b:Cmd):Cmd:=aq (g1 [] Go.Proofs.Tryz.f126 Al 0 [a,b])
def BW:Cmd:=Ss fX ke
def uY:FD:=⟨3,[aG],[.cell 6 7 true],BW⟩
def uj:de:=[[1,2,3,6],[1,2,3,6,19],[6],[1,2,3,6,7,8],[1,2,3,6,7,31],[6],[],[1,6,9,10],[1,6,9,50],[6],[1,6,9,56,57],[6,9],[1,6,9,56,57],[6,2368],[1,6,9,56,57,58],[1,6,9,56,57],[1,6,9,11,56,57],[1,6,9,11,56,57],[1,6,9,56,57],[1,6,9,56,57],[6,9,12],[6,12,80,81,82],[6,12],[6,12,80,81,82],[6,12,2368],[6,12,80,81,82,83],[6,12,80,81,82],[6,12,14,80,81,82],[6,12,80,81,82],[6,12,80,81,82],[6]]
def lX:Cmd:=aq (g1 [] Go.Proofs.Tryz.f127 uj 1 [])
def lY:Cmd:=aq (g1 [] Go.Proofs.Tryz.f127 uj 2 [])
@[go_sem] def KY(a b:Cmd):Cmd:=aq (g1 [] Go.Proofs.Tryz.f127 uj 0 [a,b])
def jt:Cmd:=KY lX lY
def fY:FD:=⟨3,[aG],[.cell 6 7 true],jt⟩
def yR:Cmd:=aq (g0 Go.Proofs.Tryz.f128 [[1],[1,11],[2],[2]])
def su:FD:=⟨1,[[]],[.t 2],yR⟩
def sQ:Cmd:=aq (g0 Go.Proofs.Tryz.f129 [[1],[1,4],[2],[2]])
def mR:FD:=⟨1,[[]],[.t 2],sQ⟩
def G7:Cmd:=aq (g0 Go.Proofs.Tryz.f130 [[1,2],[4]])
def Bu:FD:=⟨2,[[]],[.t 4],G7⟩
def tC:Cmd:=aq (g0 Go.Proofs.Tryz.f132 [[1],[],[1,3],[2],[1,8],[2],[13],[2],[2]])
def mS:FD:=⟨1,[[]],[.t 2],tC⟩
def Dl:de:=[[2,3,4,5,6,10],[2,3,4,10,11],[2,3,4,10,11,12],[2,3,4,10,12,40,41],[10,12],[2,3,4,10,12,40,41],[10,12],[2,3,4,10,12,40,41,42],[2,3,4,10,12,40,41],[2,3,4,10,12,13,14,40,41],[2,3,4,10,12,13,14,15,16,40,41],[2,3,4,10,12,13,15,16,17,18,40,41],[2,3,4,10,12,13,15,17,40,41,70],[10],[2,3,4,10,12,13,15,17,40,41,80],[2,3,4,10,12,13,17,40,41],[2,3,4,10,12,17,40,41,91],[2,3,4,10,12,40,41],[2,3,4,10,12,40,41],[10]]
def bu:Cmd:=aq (g1 [] Go.Proofs.Tryz.f133 Dl 1 [])
@[go_sem] def NO(a:Cmd):Cmd:=aq (g1 [] Go.Proofs.Tryz.f133 Dl 0 [a])
def ED:Cmd:=NO bu
def xx:FD:=⟨5,[aG],[.cell 10 7 true],ED⟩
def EE:Cmd:=aq (g0 Go.Proofs.Tryz.f134 [[2,3,4,6],[6,7]])
def xz:FD:=⟨3,[aF,[]],[.cell 6 3 true,.t 7],EE⟩
def H1:Cmd:=aq (g0 Go.Proofs.Tryz.f135 [[2,3,4,6],[6,7]])
def Am:FD:=⟨3,[aF,[]],[.cell 6 3 true,.t 7],H1⟩
def yS:Cmd:=aq (g0 Go.Proofs.Tryz.f136 [[1,2],[3]])
def qh:FD:=⟨2,[[]],[.t 3],yS⟩
def G8:Cmd:=aq (g0 Go.Proofs.Tryz.f137 [[0],[2]])
def A8:FD:=⟨1,[[]],[.t 2],G8⟩
def mT:Cmd:=aq (g0 Go.Proofs.Tryz.f138 [[2,3],[2,3,16],[4],[4]])
def jC:FD:=⟨2,[[]],[.t 4],mT⟩
def EF:Cmd:=aq (g0 Go.Proofs.Tryz.f139 [[1,2],[3]])
def xA:FD:=⟨2,[[]],[.t 3],EF⟩
def CA:Cmd:=aq (g0 Go.Proofs.Tryz.f140 [[1,2],[4]])
def wK:FD:=⟨2,[[]],[.t 4],CA⟩
def jd:de:=[[0,1],[0,1,7,8],[],[0,1,7,8],[1000],[0,1,7,8,9],[0,1,7,8],[0,1,5,7,8],[0,1,5,7,8,16],[4],[0,1,7,8],[4]]
def qi:Cmd:=aq (g1 [] Go.Proofs.Tryz.f141 jd 1 [])
@[go_sem] def sv(a:Cmd):Cmd:=aq (g1 [] Go.Proofs.Tryz.f141 jd 0 [a])
def sx:Cmd:=sv qi
def je:FD:=⟨2,[[]],[.t 4],sx⟩
def EG:Cmd:=aq (g0 Go.Proofs.Tryz.f142 [[1,2],[3]])
def xB:FD:=⟨2,[[]],[.t 3],EG⟩
def H2:Cmd:=aq (g0 Go.Proofs.Tryz.f143 [[2,3,4,6],[6,7]])
def An:FD:=⟨3,[aF,[]],[.cell 6 3 true,.t 7],H2⟩
def tD:Cmd:=aq (g0 Go.Proofs.Tryz.f144 [[1,3,4,6,8],[4,6,8,14],[8],[8]])
def mU:FD:=⟨4,[aG],[.cell 8 7 true],tD⟩
def pB:Cmd:=aq (g0 Go.Proofs.Tryz.f145 [[0],[0,4],[2],[2]])
def jf:FD:=⟨1,[[.o 2 []]],[.t 2],pB⟩
def ry:Cmd:=aq (g0 Go.Proofs.Tryz.f146 [[2,3],[2,3,5,6],[1,2],[2,3],[2,3,5,6,12],[4],[2,3,16],[4],[2,3,7],[4],[6,8,6,10]])
def lJ:FD:=⟨2,[[]],[.t 4],ry⟩
def kf:Cmd:=aq (g0 Go.Proofs.Tryz.f147 [[1],[1,3],[2]])
def gG:FD:=⟨1,[[]],[.t 2],kf⟩
def fH:de:=[[0,1,2],[0,1,2,8],[0,1,2,8,9,10],[0,1,2,8,9],[0,1,2,8,9,10],[],[0,1,2,8,9,10,17],[0,1,2,8,9,10],[0,1,2,8,9,10,11],[0,1,2,8,9,10,11,31],[0,1,2,8,9,10],[0,1,2,8,9,10],[6,7]]
def bI:Cmd:=aq (g1 [] Go.Proofs.Tryz.f148 fH 1 [])
@[go_sem] def mC(a:Cmd):Cmd:=aq (g1 [] Go.Proofs.Tryz.f148 fH 0 [a])
def fP:Cmd:=mC bI
def dm:FD:=⟨3,[[],[]],[.t 6,.t 7],fP⟩
def wL:Cmd:=aq (g0 Go.Proofs.Tryz.f149 [[1,2],[4]])
def nM:FD:=⟨2,[[]],[.t 4],wL⟩
def Dm:Cmd:=aq (g0 Go.Proofs.Tryz.f150 [[0,1],[0,1,5],[0,1,5,12],[4],[4]])
def xe:FD:=⟨2,[[]],[.t 4],Dm⟩
def df:Cmd:=aq (g0 Go.Proofs.Tryz.f151 [[0,1,2],[0,1,2],[0,1,2,7],[0,1,2,7,16],[6],[0,1,2,7,8],[0,1,2,7,8,22],[6],[0,1,2,7,8,31],[0,1,2,7,9],[0,1,7,9],[9],[],[6],[0,1,2,7,8],[0,1,2,7,8,68],[0,1,2],[],[0],[7777777,200000],[6],[0,1,7],[0],[6]])
def br:FD:=⟨3,[[]],[.t 6],df⟩
def H3:Cmd:=aq (g0 Go.Proofs.Tryz.f152 [[1,2],[1,2],[2]])
def Ao:FD:=⟨1,[aF],[.cell 2 3 true],H3⟩
def yT:Cmd:=aq (g0 Go.Proofs.Tryz.f153 [[2,3,4],[2,3,4,13],[4,5],[4,5]])
def sy:FD:=⟨2,[aF,[]],[.cell 4 3 true,.t 5],yT⟩
def lK:Cmd:=aq (g1 [(31,2)] Go.Proofs.Tryz.f154 [[0,1,2],[0,1,2],[0,1,2,16],[6],[0,1,2,7],[0,7],[],[0],[7777777,100000,200000],[6]] 0 [])
def aDU:FD:=⟨3,[[]],[.t 6],lK⟩
def FY:de:=[[0,1],[0,1,5,6],[0,1,5,6,14],[4],[0,1,17],[4],[0,1,7],[],[0,1,7],[],[0,1,7,21],[0,1,7],[0,1,7,32],[],[4],[0,1,7,41],[],[4],[0,1,7],[4]]
def kg:Cmd:=aq (g1 [] Go.Proofs.Tryz.f155 FY 1 [])
@[go_sem] def Su(a:Cmd):Cmd:=aq (g1 [] Go.Proofs.Tryz.f155 FY 0 [a])
def sz:Cmd:=Su kg
def mD:FD:=⟨2,[[]],[.t 4],sz⟩
def Fu:Cmd:=aq (g0 Go.Proofs.Tryz.f157 [[2,3,4,5],[2,4,5,7,8],[2,4,5,8,9,10],[2,4,5,8,9,27],[4,5,6],[1,2],[2,4,5,8,9],[4,5,6],[0,6,6,7,6,9,6,11,0,12,6,14,12,14,0,15]])
def yU:FD:=⟨2,[[.o 0 [],.o 5 [.o 2 [],.o 0 [],.o 2 [],.o 0 []]],aG,[]],[.cell 4 2 true,.cell 5 7 true,.t 6],Fu⟩
def yV:Cmd:=aq (g0 Go.Proofs.Tryz.f158 [[0,1],[4]])
def nH:FD:=⟨2,[[]],[.t 4],yV⟩
def Ap:Cmd:=aq (g0 Go.Proofs.Tryz.f159 [[0],[2]])
def tE:FD:=⟨1,[[]],[.t 2],Ap⟩
def H5:Cmd:=aq (g0 Go.Proofs.Tryz.f160 [[0],[2]])
def Aq:FD:=⟨1,[[]],[.t 2],H5⟩
def BX:Cmd:=aq (g0 Go.Proofs.Tryz.f161 [[0,1],[0,1,9],[4,5],[4,5]])
def uZ:FD:=⟨2,[[.o 2 []],[]],[.t 4,.t 5],BX⟩
def xC:Cmd:=aq (g0 Go.Proofs.Tryz.f162 [[1,2],[1,2,6],[2,3],[2,3]])
def pJ:FD:=⟨1,[aF,[]],[.cell 2 3 true,.t 3],xC⟩
def uo:Cmd:=aq (g0 Go.Proofs.Tryz.f163 [[0,1,2,6],[0,1,2,6],[0,1,2,6,14],[6],[0,1,2,6,7],[0,2,6,7,8],[6]])
def nE:FD:=⟨3,[aF],[.cell 6 3 true],uo⟩
def EH:Cmd:=aq (g0 Go.Proofs.Tryz.f164 [[2,3,4,6],[6,7]])
def xD:FD:=⟨3,[aF,[]],[.cell 6 3 true,.t 7],EH⟩
def H6:Cmd:=aq (g0 Go.Proofs.Tryz.f165 [[2,3,4,6],[6,7]])
def Ar:FD:=⟨3,[aF,[]],[.cell 6 3 true,.t 7],H6⟩
def Lx:de:=[[0],[0,3],[0,3],[0,3],[],[0,3,15],[0,3],[0,3],[2]]
def H7:Cmd:=aq (g1 [] Go.Proofs.Tryz.f166 Lx 1 [])
@[go_sem] def aaK(a:Cmd):Cmd:=aq (g1 [] Go.Proofs.Tryz.f166 Lx 0 [a])
def NP:Cmd:=aaK H7
def Fv:FD:=⟨1,[[.o 2 []]],[.t 2],NP⟩
def I2:de:=[[0],[0,3],[3],[0,3],[],[0,3,14],[0,3],[0,3],[2]]
def u9:Cmd:=aq (g1 [] Go.Proofs.Tryz.f167 I2 1 [])
@[go_sem] def Xd(a:Cmd):Cmd:=aq (g1 [] Go.Proofs.Tryz.f167 I2 0 [a])
def Ly:Cmd:=Xd u9
def Do:FD:=⟨1,[[]],[.t 2],Ly⟩
def I3:de:=[[0,1],[0,1,12],[4],[0,1],[0,1,5],[0,1,5,6],[5],[0,1,5,6],[51],[0,1,5,6,20],[0,1,5,6],[0,1,5,6,7],[0,1,5,6,7,32],[0,1,5,6,7],[0,1,5,6],[0,1,5,6],[4]]
def fy:Cmd:=aq (g1 [] Go.Proofs.Tryz.f168 I3 1 [])
@[go_sem] def Xe(a:Cmd):Cmd:=aq (g1 [] Go.Proofs.Tryz.f168 I3 0 [a])
def Fw:Cmd:=Xe fy
def yW:FD:=⟨2,[[.o 2 []]],[.t 4],Fw⟩
def Lz:de:=[[0],[0,7],[2],[0,3],[3,4],[3],[3,4],[],[3,4,19],[3,4],[3,4],[3,4],[2]]
def xf:Cmd:=aq (g1 [] Go.Proofs.Tryz.f169 Lz 1 [])
@[go_sem] def aaL(a:Cmd):Cmd:=aq (g1 [] Go.Proofs.Tryz.f169 Lz 0 [a])
def G9:Cmd:=aaL xf
def A9:FD:=⟨1,[[]],[.t 2],G9⟩
def aBe:de:=[[0,1],[0,1,5],[0,1,5,6],[5],[0,1,5,6],[18],[0,1,5,6,22],[0,1,5,6],[0,1,5,6,7],[0,1,5,6,7,8],[0,1,5,6,7],[0,1,5,6,7,8],[18],[0,1,5,6,7,8,28],[0,1,5,6,7,8],[0,1,5,6,8,9],[],[0,1,5,6,8,9],[0,1,5,6,7,8],[0,1,5,6,7,8],[0,1,5,6,7,10],[0,1,5,6],[0,1,5,6,7,10],[18],[0,1,5,6,7,10,67],[0,1,5,6,7,10],[0,1,5,6,10,11],[0,1,5,6,10,11],[0,1,5,6,7,10],[0,1,5,6,7,10],[0,1,5,6],[4]]
def aAJ:Cmd:=aq (g1 [] Go.Proofs.Tryz.f170 aBe 1 [])
def aAN:Cmd:=aq (g1 [] Go.Proofs.Tryz.f170 aBe 2 [])
@[go_sem] def aBM(a b:Cmd):Cmd:=aq (g1 [] Go.Proofs.Tryz.f170 aBe 3 [a,b])
def aA0:Cmd:=aBM aAJ aAN
@[go_sem] def aB2(a b c:Cmd):Cmd:=aq (g1 [] Go.Proofs.Tryz.f170 aBe 0 [a,b,c])
def aBD:Cmd:=aB2 aAJ aAN aA0
def aBm:FD:=⟨2,[[.o 2 []]],[.t 4],aBD⟩
def LA:de:=[[0,3],[3,24],[4],[3,5],[3,5,6],[5],[3,5,6],[3],[3,5,6,29],[3,5,6],[3,5,6,45],[4],[3,5,6],[3,5,6],[4]]
def jD:Cmd:=aq (g1 [] Go.Proofs.Tryz.f171 LA 1 [])
@[go_sem] def aaM(a:Cmd):Cmd:=aq (g1 [] Go.Proofs.Tryz.f171 LA 0 [a])
def ve:Cmd:=aaM jD
def px:FD:=⟨2,[[]],[.t 4],ve⟩
def LB:de:=[[0,1],[0,1,5],[0,1,5,6],[0,1,5,6,7],[5,6],[0,1,5,6,7],[11,34],[0,1,5,6,7,15],[0,1,5,6,7],[0,1,5,7,8],[0,1,5,7,8],[0,1,5,6,7],[0,1,5,6,7],[4]]
def xg:Cmd:=aq (g1 [] Go.Proofs.Tryz.f172 LB 1 [])
@[go_sem] def aaN(a:Cmd):Cmd:=aq (g1 [] Go.Proofs.Tryz.f172 LB 0 [a])
def NQ:Cmd:=aaN xg
def Fx:FD:=⟨2,[[.o 2 []]],[.t 4],NQ⟩
def LC:de:=[[0,1],[0,1,5],[0,1,5,6],[0,1,5,6,7],[5,6],[0,1,5,6,7],[49],[0,1,5,6,7,18],[0,1,5,6,7],[0,1,5,7,8],[0,1,5,7,8,25],[0,1,5,7,8],[0,1,5,7,8,36],[0,1,5,7,8],[0,1,5,7,8],[0,1,5,6,7],[0,1,5,6,7],[4]]
def eF:Cmd:=aq (g1 [] Go.Proofs.Tryz.f173 LC 1 [])
@[go_sem] def aaO(a:Cmd):Cmd:=aq (g1 [] Go.Proofs.Tryz.f173 LC 0 [a])
def NR:Cmd:=aaO eF
def Fy:FD:=⟨2,[[.o 2 []]],[.t 4],NR⟩
def FZ:de:=[[0,1],[0,1,10],[15],[4],[4],[0,1,5],[],[0,1,5],[],[0,1,5,20],[0,1,5],[0,1,5,31],[],[4],[0,1,5,40],[],[4],[0,1,5],[4]]
def fh:Cmd:=aq (g1 [] Go.Proofs.Tryz.f174 FZ 1 [])
@[go_sem] def Sv(a:Cmd):Cmd:=aq (g1 [] Go.Proofs.Tryz.f174 FZ 0 [a])
def sA:Cmd:=Sv fh
def vf:FD:=⟨2,[[]],[.t 4],sA⟩
def I4:de:=[[0,1],[0,1,5],[0,1,5,6],[0,1,5,6,7],[5],[0,1,5,6,7],[41],[0,1,5,6,7,13],[0,1,5,6,7],[0,1,5,7,8],[0,1,5,7,8,20],[0,1,5,7,8],[0,1,5,7,9],[0,1,5,7,9],[0,1,5,6,7],[0,1,5,6,7],[4]]
def fA:Cmd:=aq (g1 [] Go.Proofs.Tryz.f175 I4 1 [])
@[go_sem] def Xf(a:Cmd):Cmd:=aq (g1 [] Go.Proofs.Tryz.f175 I4 0 [a])
def LD:Cmd:=Xf fA
def Dp:FD:=⟨2,[[.o 2 []]],[.t 4],LD⟩
def jg:Cmd:=aq (g0 Go.Proofs.Tryz.f176 [[1,2,4],[1,2,4,6,7],[1,2,4,6,7,20],[4,5],[2,4,6,7,8],[2,4,6,7,8,30],[4,5],[2,4,6,8,9],[4,6,8,9,11],[4,6,8,47],[4,6,8],[4,6,8,47,48],[4,5],[4,6,8,51],[4,5],[4,6,8,70],[4,5],[4,5]])
def ge:FD:=⟨2,[aF,[]],[.cell 4 3 true,.t 5],jg⟩
def yX:Cmd:=aq (g0 Go.Proofs.Tryz.f177 [[2,3,4],[2,3,4,13],[4,5],[4,5],[0,2]])
def sB:FD:=⟨2,[aF,[]],[.cell 4 3 true,.t 5],yX⟩
def wM:Cmd:=aq (g0 Go.Proofs.Tryz.f178 [[2,3,4,5,8],[2,3,4,5,8,10],[2,3,4,5,8,10,19],[8,9],[2,3,4,5,8],[2,3,4,5,8,22],[8,9],[2,3,4,5,8,33],[8,9],[2,3,4,5,8,48],[1,2],[2,3,4,5,8],[2,3,4,8,11,12],[2,3,4,8,11,12,66],[8,9],[8,9]])
def mV:FD:=⟨4,[aF,[]],[.cell 8 3 true,.t 9],wM⟩
def wl:Cmd:=aq (g0 Go.Proofs.Tryz.f179 [[0],[2]])
def oQ:FD:=⟨1,[[]],[.t 2],wl⟩
def vg:Cmd:=aq (g0 Go.Proofs.Tryz.f180 [[1,2],[4]])
def oR:FD:=⟨2,[[]],[.t 4],vg⟩
def yY:Cmd:=aq (g0 Go.Proofs.Tryz.f181 [[2,3,4],[2,3,4,8],[4],[4]])
def rz:FD:=⟨2,[aF],[.cell 4 3 true],yY⟩
def y5:Cmd:=aq (g0 Go.Proofs.Tryz.f182 [[2,3,4],[2,3,4,8],[4],[4]])
def rA:FD:=⟨2,[aF],[.cell 4 3 true],y5⟩
def BY:Cmd:=aq (g0 Go.Proofs.Tryz.f183 [[1,2,3,6],[1,2,3,6,8],[6],[6],[2,3]])
def vj:FD:=⟨3,[aG],[.cell 6 7 true],BY⟩
def EI:de:=[[1],[1,14],[2,3],[1,4],[4,20,21,22],[4],[4,20,21,22],[1,18],[4,20,21,22,23],[4,20,21,22],[4,6,20,21,22],[4,20,21,22],[3,6],[4,20,21,22],[2,3]]
def lL:Cmd:=aq (g1 [] Go.Proofs.Tryz.f184 EI 1 [])
@[go_sem] def Pk(a:Cmd):Cmd:=aq (g1 [] Go.Proofs.Tryz.f184 EI 0 [a])
def vk:Cmd:=Pk lL
def oS:FD:=⟨1,[[.o 4 aF],[]],[.t 2,.t 3],vk⟩
def qj:Cmd:=aq (g0 Go.Proofs.Tryz.f185 [[3,4,5,6,8],[3,4,5,8,9,10],[1,4,3,4,1,5,3,5,4,5,3,6],[3,4,5,8,9,10,23],[3,4,5,8,9,10],[3,4,5,8,10,11,12],[3,4,8,11,12,13,14],[3,4,8,11,13,43],[8],[3,4,8,12,13,15],[8,12,14,15,16],[8,15,16,64],[8],[8]])
def gg:FD:=⟨4,[aG],[.cell 8 7 true],qj⟩
def kX:de:=[[1,2],[2,6],[2,6,26,27,28],[2,6],[2,6,26,27,28],[2,21,24,2624],[2,6,26,27,28,29],[2,6,26,27,28],[2,6,8,26,27,28],[2,6,26,27,28,33,34,35],[2,6,26,27,28],[2,6,26,27,28,33,34,35],[2,8,21,24,2624],[2,6,26,27,28,33,34,35,36],[2,6,26,27,28,33,34,35],[2,6,9,10,26,27,28,33,34,35],[2,6,26,27,28,33,34,35],[],[2,6,26,27,28,33,34,35],[2,6,26,27,28],[2,6,11],[2,6,11,60,61,62],[2,6,11],[2,6,11,60,61,62],[2,21,24,2624],[2,6,11,60,61,62,63],[2,6,11,60,61,62],[2,6,11,13,60,61,62],[2,6,11,60,61,62],[2,6,11,60,61,62,71],[4,5],[2,6,11,60,61,62],[2,6],[6,82,83,84],[6],[6,82,83,84],[2,21,24,2624],[6,82,83,84,85],[6,82,83,84],[6,15,82,83,84],[6,15,16,82,83,84],[6,15,16,82,83,84,89,90,91],[6,15,16,82,83,84],[6,15,16,82,83,84,89,90,91],[2,15,21,24,2624],[6,15,16,82,83,84,89,90,91,92],[6,15,16,82,83,84,89,90,91],[6,15,16,17,18,82,83,84,89,90,91],[6,15,16,82,83,84,89,90,91],[6,15,16,82,83,84,89,90,91],[6,82,83,84],[3,7],[6,82,83,84],[4,5]]
def ju:Cmd:=aq (g1 [] Go.Proofs.Tryz.f186 kX 1 [])
@[go_sem] def KZ(a:Cmd):Cmd:=aq (g1 [] Go.Proofs.Tryz.f186 kX 2 [a])
def lM:Cmd:=KZ ju
def gH:Cmd:=aq (g1 [] Go.Proofs.Tryz.f186 kX 3 [])
def lN:Cmd:=aq (g1 [] Go.Proofs.Tryz.f186 kX 4 [])
@[go_sem] def K0(a b c d:Cmd):Cmd:=aq (g1 [] Go.Proofs.Tryz.f186 kX 5 [a,b,c,d])
def pK:Cmd:=K0 ju lM gH lN
@[go_sem] def Pm(a b c d e:Cmd):Cmd:=aq (g1 [] Go.Proofs.Tryz.f186 kX 0 [a,b,c,d,e])
def F0:Cmd:=Pm ju lM gH lN pK
def y6:FD:=⟨2,[[],[]],[.t 4,.t 5],F0⟩
def Ci:Cmd:=aq (g0 Go.Proofs.Tryz.f187 [[1,3,5],[1,3,5,6],[1,3,6,7],[2,3,2,4,2,7,1,9,2,9,3,9,4,9,7,9,8,9],[1,3,6,7,8],[]])
def uq:FD:=⟨3,[],[],Ci⟩
def wN:Cmd:=aq (g0 Go.Proofs.Tryz.f188 [[1,2],[1,2,4],[]])
def nN:FD:=⟨2,[],[],wN⟩
def y7:Cmd:=aq (g0 Go.Proofs.Tryz.f189 [[2,3,4],[2,3,4,9],[4],[4],[4,6,4,8]])
def rB:FD:=⟨2,[aG],[.cell 4 7 true],y7⟩
def NS:de:=[[0],[0,3],[0,3,4],[3],[0,3,4],[],[0,3,4,8],[0,3,4],[0,3,4],[0,3,4],[2]]
def y8:Cmd:=aq (g1 [] Go.Proofs.Tryz.f190 NS 1 [])
@[go_sem] def acI(a:Cmd):Cmd:=aq (g1 [] Go.Proofs.Tryz.f190 NS 0 [a])
def Rf:Cmd:=acI y8
def Ha:FD:=⟨1,[[]],[.t 2],Rf⟩
def y9:Cmd:=aq (g0 Go.Proofs.Tryz.f191 [[1],[2]])
def sR:FD:=⟨1,[[]],[.t 2],y9⟩
def Hb:Cmd:=aq (g0 Go.Proofs.Tryz.f192 [[0],[2]])
def Ba:FD:=⟨1,[[]],[.t 2],Hb⟩
def Fz:de:=[[0],[0,3],[],[0,3],[],[0,3,10],[0,3],[0,3,17],[0,3,4],[4,5],[4],[4,5],[],[4,5,25],[4,5],[4,5],[4,5],[2],[0,3],[2]]
def lw:Cmd:=aq (g1 [] Go.Proofs.Tryz.f193 Fz 1 [])
@[go_sem] def Sw(a:Cmd):Cmd:=aq (g1 [] Go.Proofs.Tryz.f193 Fz 2 [a])
def ig:Cmd:=Sw lw
@[go_sem] def aaP(a b:Cmd):Cmd:=aq (g1 [] Go.Proofs.Tryz.f193 Fz 0 [a,b])
def Hc:Cmd:=aaP lw ig
def LE:FD:=⟨1,[[]],[.t 2],Hc⟩
def wO:Cmd:=aq (g0 Go.Proofs.Tryz.f194 [[2,3,4,5,8],[2,3,4,5,8,10],[2,3,4,5,8,10,21],[8,9],[2,3,4,5,8],[2,3,4,5,8,24],[8,9],[2,3,4,5,8,30],[8,9],[2,3,4,5,8,11],[3,5],[2,3,4,5,8,11,12,13],[3,5],[8,9],[1,14,3,14,7,14,11,14]])
def qk:FD:=⟨4,[aF,[]],[.cell 8 3 true,.t 9],wO⟩
def F1:de:=[[0,1],[0,7,8,9],[0],[0,7,8,9],[],[0,7,8,9,10],[0,7,8,9],[0,6,7,8,9],[0,7,8,9,15],[4],[0,7,8,9],[19],[4],[4]]
def mW:Cmd:=aq (g1 [] Go.Proofs.Tryz.f195 F1 1 [])
@[go_sem] def Sx(a:Cmd):Cmd:=aq (g1 [] Go.Proofs.Tryz.f195 F1 0 [a])
def xi:Cmd:=Sx mW
def qp:FD:=⟨2,[[]],[.t 4],xi⟩
def BZ:Cmd:=aq (g0 Go.Proofs.Tryz.f196 [[1],[1,5],[2],[2]])
def vo:FD:=⟨1,[[]],[.t 2],BZ⟩
def ze:Cmd:=aq (g0 Go.Proofs.Tryz.f197 [[1],[1,11],[2],[2],[2,4]])
def sC:FD:=⟨1,[[]],[.t 2],ze⟩
def F3:de:=[[0,1],[0,1],[0,1,14],[19],[4],[4],[0,1,5],[],[0,1,5],[],[0,1,5,24],[0,1,5],[0,1,5],[0,1,5,27],[],[4],[0,1,5,37],[],[4],[0,1,5],[4]]
def it:Cmd:=aq (g1 [] Go.Proofs.Tryz.f198 F3 1 [])
@[go_sem] def Sy(a:Cmd):Cmd:=aq (g1 [] Go.Proofs.Tryz.f198 F3 0 [a])
def H8:Cmd:=Sy it
def qt:FD:=⟨2,[[]],[.t 4],H8⟩
def Dq:Cmd:=aq (g0 Go.Proofs.Tryz.f199 [[0,1],[5],[4]])
def wm:FD:=⟨2,[[.o 2 []]],[.t 4],Dq⟩
def oT:Cmd:=aq (g0 Go.Proofs.Tryz.f200 [[0,1],[0,1,5],[0,1,5,6],[0,1,6,11],[12],[4],[4],[0,1,13],[4],[0,1,16],[4],[19],[4],[4]])
def jO:FD:=⟨2,[[]],[.t 4],oT⟩
def sD:de:=[[0,1],[0,1,9,10,11],[0,1],[0,1,9,10,11],[],[0,1,9,10,11,12],[0,1,9,10,11],[0,1,5,6,9,10,11],[0,1,5,6,9,10,11,19],[4],[0,1,6,7,9,10,11],[0,1,8,9,10,11],[0,1,8,9,10,11,28],[4],[0,1,9,10,11],[35],[4],[4]]
def eK:Cmd:=aq (g1 [] Go.Proofs.Tryz.f201 sD 1 [])
@[go_sem] def CB(a:Cmd):Cmd:=aq (g1 [] Go.Proofs.Tryz.f201 sD 0 [a])
def lZ:Cmd:=CB eK
def ij:FD:=⟨2,[[]],[.t 4],lZ⟩
def zf:Cmd:=aq (g0 Go.Proofs.Tryz.f204 [[2,3,4],[2,3,4,24],[2,3,4,28],[2,4],[4,5],[2,3,4,6],[2,3,4,6,7,8],[1,2],[2,3,4,6,63],[4,5],[2,3,4,6,9,10],[6,8,6,10],[2,3,4,6,9,10,83],[2,4,6,11],[4,5],[2,3,4,6,9,10,101],[2,4,6,9,10],[2,4,6,13],[4,5]])
def lz:FD:=⟨2,[aF,[]],[.cell 4 3 true,.t 5],zf⟩
def qu:de:=[[0,1],[0,1,7,8],[],[0,1,7,8],[],[0,1,7,8,9],[0,1,7,8],[0,1,5,7,8],[0,1,5,7,8,16],[4],[0,1,7,8],[4]]
def zg:Cmd:=aq (g1 [] Go.Proofs.Tryz.f205 qu 1 [])
@[go_sem] def Bv(a:Cmd):Cmd:=aq (g1 [] Go.Proofs.Tryz.f205 qu 0 [a])
def Bw:Cmd:=Bv zg
def qw:FD:=⟨2,[[]],[.t 4],Bw⟩
def As:Cmd:=aq (g0 Go.Proofs.Tryz.f206 [[0],[0],[0,7],[2],[2]])
def tF:FD:=⟨1,[[]],[.t 2],As⟩
def F4:Cmd:=aq (g0 Go.Proofs.Tryz.f207 [[0],[2]])
def zi:FD:=⟨1,[[]],[.t 2],F4⟩
def At:Cmd:=aq (g0 Go.Proofs.Tryz.f208 [[0],[0],[0,8],[2,3],[2,3]])
def tG:FD:=⟨1,[[.o 2 []],[]],[.t 2,.t 3],At⟩
def Au:de:=[[0,1],[0,1,5],[1,5,18,19,20],[5],[1,5,18,19,20],[17],[1,5,18,19,20,21],[1,5,18,19,20],[1,5,6,7,18,19,20],[1,5,6,7,8,18,19,20],[1,5,6,7,8,18,19,20,25,26,27],[1,5,6,8,18,19,20],[1,5,6,7,8,18,19,20,25,26,27],[17],[1,5,6,7,8,18,19,20,25,26,27,28],[1,5,6,7,8,18,19,20,25,26,27],[1,5,6,7,8,9,10,18,19,20,25,26,27],[1,5,6,7,9,11,18,19,20,25,26,27],[1,5,6,7,8,18,19,20,25,26,27],[1,5,6,7,8,18,19,20,25,26,27],[1,5,18,19,20],[1,5,18,19,20],[4]]
def mX:Cmd:=aq (g1 [] Go.Proofs.Tryz.f209 Au 1 [])
@[go_sem] def Ma(a:Cmd):Cmd:=aq (g1 [] Go.Proofs.Tryz.f209 Au 2 [a])
def rC:Cmd:=Ma mX
@[go_sem] def Sz(a b:Cmd):Cmd:=aq (g1 [] Go.Proofs.Tryz.f209 Au 0 [a,b])
def H9:Cmd:=Sz mX rC
def Av:FD:=⟨2,[[.o 2 []]],[.t 4],H9⟩
def EJ:de:=[[0],[0,3],[0,3],[0,3],[],[0,3,15],[0,3],[0,3],[2]]
def lO:Cmd:=aq (g1 [] Go.Proofs.Tryz.f210 EJ 1 [])
@[go_sem] def Pn(a:Cmd):Cmd:=aq (g1 [] Go.Proofs.Tryz.f210 EJ 0 [a])
def F5:Cmd:=Pn lO
def zj:FD:=⟨1,[[.o 2 []]],[.t 2],F5⟩
def Cj:de:=[[0],[0,3],[0,3],[0,3],[],[0,3,15],[0,3],[0,3],[2]]
def jP:Cmd:=aq (g1 [] Go.Proofs.Tryz.f211 Cj 1 [])
@[go_sem] def Mb(a:Cmd):Cmd:=aq (g1 [] Go.Proofs.Tryz.f211 Cj 0 [a])
def Dr:Cmd:=Mb jP
def wn:FD:=⟨1,[[.o 2 []]],[.t 2],Dr⟩
def Ia:de:=[[0],[0,3],[3,6,7,8],[3],[3,6,7,8],[],[3,6,7,8,9],[3,6,7,8],[3,5,6,7,8],[3,5,6,7,8,13],[2],[3,6,7,8],[3,6,7,8],[2]]
def tH:Cmd:=aq (g1 [] Go.Proofs.Tryz.f212 Ia 1 [])
@[go_sem] def Uw(a:Cmd):Cmd:=aq (g1 [] Go.Proofs.Tryz.f212 Ia 0 [a])
def I5:Cmd:=Uw tH
def B0:FD:=⟨1,[[]],[.t 2],I5⟩
def xj:Cmd:=aq (g0 Go.Proofs.Tryz.f213 [[0,1],[0,1],[0,1,6],[4,5],[0,1,10],[4,5],[4,5]])
def qx:FD:=⟨2,[[.o 2 []],[]],[.t 4,.t 5],xj⟩
def qy:Cmd:=aq (g0 Go.Proofs.Tryz.f214 [[0],[2]])
def jH:FD:=⟨1,[[.o 2 []]],[.t 2],qy⟩
def wQ:Cmd:=aq (g0 Go.Proofs.Tryz.f215 [[2,3,4,5,8],[2,3,4,5,8,10],[2,3,4,5,8,10,19],[8,9],[2,3,4,5,8,31],[8,9],[2,3,4,5,8,11],[8,9]])
def qz:FD:=⟨4,[aF,[]],[.cell 8 3 true,.t 9],wQ⟩
def I6:Cmd:=aq (g0 Go.Proofs.Tryz.f216 [[1,2,4],[4,5]])
def B1:FD:=⟨2,[aF,[]],[.cell 4 3 true,.t 5],I6⟩
def NT:Cmd:=aq (g0 Go.Proofs.Tryz.f217 [[1,2,4],[4,5]])
def FA:FD:=⟨2,[aF,[]],[.cell 4 3 true,.t 5],NT⟩
def B3:Cmd:=aq (g0 Go.Proofs.Tryz.f218 [[1,2,3,6],[1,2,3,6,8],[1,2,3,6,8,14],[6,7],[6,7],[1,3]])
def vz:FD:=⟨3,[aF,[]],[.cell 6 3 true,.t 7],B3⟩
def LG:Cmd:=aq (g0 Go.Proofs.Tryz.f219 [[2,3,4,6],[3,4,6,8],[1,3],[3,4,6,8,31],[1,2],[3,4,6,8],[3,4,6,8,9],[3,4,6,8,9],[3,4,6,8,9,11],[3,4,6,8,9,11,46],[3,4,6,8,9,10,11],[3,4,6,8,9,10,11],[6,8,9,10,11,68],[6,8,11,12],[6,7],[6,8,9,10,11,79],[6,8,9,10,11],[6,8,9,10,11,89],[6,8,14],[6,7],[6,8,11,16],[6,7]])
def ur:FD:=⟨3,[[.o 2 [],.o 0 [],.o 0 []],[]],[.cell 6 3 true,.t 7],LG⟩
def vA:Cmd:=aq (g0 Go.Proofs.Tryz.f220 [[0,2,3,5,8],[0,8,10,11],[8,10,11,25],[8,10,11],[8,9]])
def oV:FD:=⟨4,[aF,[]],[.cell 8 3 true,.t 9],vA⟩
def xE:Cmd:=aq (g0 Go.Proofs.Tryz.f221 [[1],[2]])
def pM:FD:=⟨1,[[]],[.t 2],xE⟩
def iu:Cmd:=aq (g0 Go.Proofs.Tryz.f222 [[1,2,3,6],[1,2,3,6,27],[6],[1,2,3,6,30],[6],[1,2,3,6,35],[1,2,3,6],[1,2,3,6,7,8],[6,7,8,9,10],[6]])
def fC:FD:=⟨3,[aG],[.cell 6 7 true],iu⟩
def ut:de:=[[0,1],[0,1,7,8],[],[0,1,7,8],[],[0,1,7,8,9],[0,1,7,8],[0,1,5,7,8],[0,1,5,7,8,16],[4],[0,1,7,8],[4]]
def dO:Cmd:=aq (g1 [] Go.Proofs.Tryz.f223 ut 1 [])
@[go_sem] def Ek(a:Cmd):Cmd:=aq (g1 [] Go.Proofs.Tryz.f223 ut 0 [a])
def vX:Cmd:=Ek dO
def mY:FD:=⟨2,[[]],[.t 4],vX⟩
def ip:de:=[[0,1],[0,1,10],[0,1],[0,5,6],[0,6,26],[0,6],[0,7],[7,8],[7],[7,8],[30],[7,8,37],[7,8],[7,8],[],[4]]
def cI:Cmd:=aq (g1 [] Go.Proofs.Tryz.f224 ip 1 [])
@[go_sem] def qA(a:Cmd):Cmd:=aq (g1 [] Go.Proofs.Tryz.f224 ip 0 [a])
def iK:Cmd:=qA cI
def ez:FD:=⟨2,[[]],[.t 4],iK⟩
def Bx:de:=[[0,1],[0,1,5],[5,13,14,15],[5],[5,13,14,15],[1000],[5,13,14,15,16],[5,13,14,15],[5,7,13,14,15],[5,13,14,15],[5,13,14,15],[4]]
def jh:Cmd:=aq (g1 [] Go.Proofs.Tryz.f225 Bx 1 [])
@[go_sem] def K1(a:Cmd):Cmd:=aq (g1 [] Go.Proofs.Tryz.f225 Bx 0 [a])
def Ck:Cmd:=K1 jh
def uu:FD:=⟨2,[[]],[.t 4],Ck⟩
def zS:de:=[[0,1,2,6],[0,1,2,6,15,16],[],[0,1,2,6,15,16],[1000,1001,1002,1003,1004],[0,1,2,6,15,16,17],[0,1,2,6,15,16],[0,1,2,6,7,15,16],[0,1,2,6,7,15,16,31],[],[0,1,2,6,15,16],[0,1,2,6,15,16]]
def qB:Cmd:=aq (g1 [] Go.Proofs.Tryz.f226 zS 1 [])
@[go_sem] def I7(a:Cmd):Cmd:=aq (g1 [] Go.Proofs.Tryz.f226 zS 0 [a])
def uv:Cmd:=I7 qB
def nF:FD:=⟨3,[],[],uv⟩
def l6:de:=[[0,1,2,3,4,5,13,14],[0,1,2,3,5],[0,1,2,3,4,5,13,14],[1000,1001,1002,1003,1004],[0,1,2,3,4,5,13,14,15],[0,1,2,3,4,5,13,14],[0,1,2,3,4,5,8,13,14],[0,1,2,3,4,5,8,9,13,14],[0,1,2,3,4,5,13,14],[0,1,2,3,4,5,8,9,13,14],[1000,1001,1002,1003,1004],[0,1,2,3,4,5,8,9,13,14,21],[0,1,2,3,4,5,8,9,13,14],[0,1,2,3,4,5,8,9,10,13,14],[0,1,2,3,4,5,8,9,13,14],[0,24,3,24,5,24,6,24,9,24,12,24,0,25,3,25],[0,1,2,3,4,5,8,9,13,14],[0,1,2,3,4,5,13,14],[0,1,2,3,5,11],[0,1,2,3,5,11,12],[],[0,1,2,3,5,11,12],[11,1000,1001,1002,1003,1004],[0,1,2,3,5,11,12,61],[0,1,2,3,5,11,12],[0,1,2,3,5,11,12],[0,1,2,3,5,11,12],[0,22,3,22],[0,1,2,3,5,11,12]]
def hF:Cmd:=aq (g1 [] Go.Proofs.Tryz.f227 l6 1 [])
def hH:Cmd:=aq (g1 [] Go.Proofs.Tryz.f227 l6 2 [])
@[go_sem] def FB(a b:Cmd):Cmd:=aq (g1 [] Go.Proofs.Tryz.f227 l6 3 [a,b])
def kv:Cmd:=FB hF hH
@[go_sem] def Im(a b c:Cmd):Cmd:=aq (g1 [] Go.Proofs.Tryz.f227 l6 0 [a,b,c])
def zT:Cmd:=Im hF hH kv
def rD:FD:=⟨6,[],[],zT⟩
def Ds:Cmd:=aq (g0 Go.Proofs.Tryz.f228 [[0,4,5,6],[6],[]])
def wo:FD:=⟨3,[aG],[.cell 6 7 true],Ds⟩
def Dt:Cmd:=aq (g0 Go.Proofs.Tryz.f229 [[0,4,5,6],[6],[]])
def wr:FD:=⟨3,[aG],[.cell 6 7 true],Dt⟩
def iR:de:=[[0,1,2,3,6],[0,1,2,3,6,7],[0,1,2,3],[0,1,2,3,6,7],[6,1000,1001,1002,1003],[0,1,2,3,6,7,14],[0,1,2,3,6,7],[0,1,2,3,6,7],[0,6,1,6,0,7,1,7,6,12,7,12,8,12,10,12,11,12,6,15,7,15,8,15,10,15,11,15],[0,1,2,3,6,7],[0,25,3,25],[0,1,2,3,6,7],[0,1,2,3,8],[],[0,1,2,3,8],[1000,1001,1002,1003],[0,1,2,3,8,63],[0,1,2,3,8],[0,1,2,3,8,9],[0,1,2,3,8],[0,1,2,3,8,9],[1000,1001,1002,1003],[0,1,2,3,8,9,69],[0,1,2,3,8,9],[0,1,2,3,8,9],[0,33,3,33],[0,1,2,3,8,9],[0,1,2,3,8]]
def eU:Cmd:=aq (g1 [] Go.Proofs.Tryz.f230 iR 1 [])
@[go_sem] def By(a:Cmd):Cmd:=aq (g1 [] Go.Proofs.Tryz.f230 iR 2 [a])
def gQ:Cmd:=By eU
def gR:Cmd:=aq (g1 [] Go.Proofs.Tryz.f230 iR 3 [])
@[go_sem] def Du(a b c:Cmd):Cmd:=aq (g1 [] Go.Proofs.Tryz.f230 iR 0 [a,b,c])
def uw:Cmd:=Du eU gQ gR
def l7:FD:=⟨4,[],[],uw⟩
def Dv:Cmd:=aq (g0 Go.Proofs.Tryz.f231 [[0,1],[0,1],[0,1,9],[4,5,6],[0,1,14],[4,5,6],[7,8],[4,5,6]])
def ws:FD:=⟨2,[[.o 2 []],[.o 2 []],[]],[.t 4,.t 5,.t 6],Dv⟩
def LH:Cmd:=aq (g0 Go.Proofs.Tryz.f232 [[0,1],[5],[4]])
def Dw:FD:=⟨2,[[.o 2 []]],[.t 4],LH⟩
def zk:Cmd:=aq (g0 Go.Proofs.Tryz.f233 [[0],[2]])
def rF:FD:=⟨1,[[]],[.t 2],zk⟩
def sE:Cmd:=aq (g0 Go.Proofs.Tryz.f234 [[0,1],[0,1],[0,1,6],[4,5],[0,1,10],[4,5],[4,5]])
def mE:FD:=⟨2,[[.o 2 []],[]],[.t 4,.t 5],sE⟩
def Dx:Cmd:=aq (g0 Go.Proofs.Tryz.f235 [[0],[2]])
def wt:FD:=⟨1,[[]],[.t 2],Dx⟩
def B4:Cmd:=aq (g0 Go.Proofs.Tryz.f237 [[0,1],[0,1,9],[4,5],[4,5]])
def vB:FD:=⟨2,[[.o 2 []],[]],[.t 4,.t 5],B4⟩
def xk:Cmd:=aq (g0 Go.Proofs.Tryz.f238 [[0,1],[0,1],[0,1,6],[4,5],[0,1,11],[4,5],[4,5]])
def qC:FD:=⟨2,[[.o 2 []],[]],[.t 4,.t 5],xk⟩
def I8:Cmd:=aq (g0 Go.Proofs.Tryz.f239 [[0,2],[0,2,4],[0],[0,2],[0,2,8],[0,2],[0,2],[2]])
def nT:FD:=⟨1,[[]],[.t 2],I8⟩
def td:Cmd:=aq (g0 Go.Proofs.Tryz.f240 [[0,1],[4]])
def jE:FD:=⟨2,[[]],[.t 4],td⟩
def Dy:Cmd:=aq (g0 Go.Proofs.Tryz.f241 [[0],[2]])
def wu:FD:=⟨1,[[]],[.t 2],Dy⟩
def F6:de:=[[0,1],[0,1],[0,1,15],[4],[0,1],[0,1,5],[0,1,5,23,24,25],[5],[0,1,5,23,24,25],[22],[0,1,5,23,24,25,26],[0,1,5,23,24,25],[0,1,5,6,7,23,24,25],[0,1,5,6,8,23,24,25],[0,1,5,6,8,23,24,25,36],[0,1,5,6,8,23,24,25],[0,1,5,23,24,25],[0,1,5,23,24,25],[4]]
def mZ:Cmd:=aq (g1 [] Go.Proofs.Tryz.f243 F6 1 [])
@[go_sem] def SA(a:Cmd):Cmd:=aq (g1 [] Go.Proofs.Tryz.f243 F6 0 [a])
def B5:Cmd:=SA mZ
def vC:FD:=⟨2,[[.o 2 []]],[.t 4],B5⟩
def NU:Cmd:=aq (g0 Go.Proofs.Tryz.f244 [[1,2],[2]])
def FC:FD:=⟨1,[[.o 2 [],.o 0 [],.o 0 []]],[.cell 2 3 true],NU⟩
def FE:Cmd:=aq (g0 Go.Proofs.Tryz.f245 [[0,1],[0,1,11],[0,1],[0,1,6],[4,5]])
def zo:FD:=⟨2,[[.o 2 []],[]],[.t 4,.t 5],FE⟩
def LI:Cmd:=aq (g0 Go.Proofs.Tryz.f246 [[1,2,3,6],[1,2,3,6,8],[1,4],[1,2,3,6,8,10],[],[1,2,3,6,8,10,29],[1,2,6,8,9,10],[1,2,6,8,10,11,12],[1,2,6,8,9,10],[1,2,6,8,9,55],[1,2,6,8,9],[1,2,6,8,9,66],[1,6,67],[6,7],[1,6,9],[6,8,9],[6,7]])
def uz:FD:=⟨3,[aF,[]],[.cell 6 3 true,.t 7],LI⟩
def Aw:Cmd:=aq (g0 Go.Proofs.Tryz.f247 [[1,2],[1,2,10],[2],[1,2,3],[2,3,5],[2]])
def tI:FD:=⟨1,[aG],[.cell 2 7 true],Aw⟩
def vD:Cmd:=aq (g0 Go.Proofs.Tryz.f248 [[1,2,3,4,8],[1,2,3,4,8,14],[8,10,11],[8,9],[1,2,4,8,28],[8,9],[8,9]])
def oW:FD:=⟨4,[aF,[]],[.cell 8 3 true,.t 9],vD⟩
def NV:Cmd:=aq (g0 Go.Proofs.Tryz.f249 [[0,1],[6,7],[4,5],[8,9],[4,5]])
def FF:FD:=⟨2,[[],[]],[.t 4,.t 5],NV⟩
def pN:de:=[[0,1],[0,1],[0,1,25],[4,5],[0,1,30],[6,7],[4,5],[0,1,8],[0,8,9,10],[8,9,10],[0,8,9,10],[63,2408],[0,8,9,10,60],[0,8,9,10],[0,8,9,10],[8,9,10,11],[8,9,10,11,12],[8,9,10,11,12,13],[8,9,11,12],[8,9,10,11,12,13],[63,70,2408],[8,9,10,11,12,13,77],[8,9,10,11,12,13],[8,9,10,11,12,13,14],[],[8,9,10,11,12,13,14,120],[8,9,10,11,12,13,14],[8,9,10,11,12,13,14,15],[8,9,10,11,12,13,14,15,123,124,125],[8,9,10,11,12,13,14,15],[8,9,10,11,12,13,14,15,123,124,125],[63,70,2408],[8,9,10,11,12,13,14,15,123,124,125,126],[8,9,10,11,12,13,14,15,123,124,125],[8,9,10,11,12,13,14,15,16,17,123,124,125],[8,9,10,11,12,13,14,15,123,124,125],[8,9,10,11,12,13,14,15,123,124,125],[8,9,10,11,12,13,14],[8,9,10,11,12,13],[8,9,10,11,12,13],[4,5]]
def gW:Cmd:=aq (g1 [] Go.Proofs.Tryz.f250 pN 1 [])
@[go_sem] def Io(a:Cmd):Cmd:=aq (g1 [] Go.Proofs.Tryz.f250 pN 2 [a])
def jQ:Cmd:=Io gW
def zU:Cmd:=aq (g1 [] Go.Proofs.Tryz.f250 pN 3 [])
@[go_sem] def Mc(a b c:Cmd):Cmd:=aq (g1 [] Go.Proofs.Tryz.f250 pN 0 [a,b,c])
def xF:Cmd:=Mc gW jQ zU
def pO:FD:=⟨2,[[.o 2 []],[.o 2 []]],[.t 4,.t 5],xF⟩
def F7:de:=[[0,1],[0,1],[0,1,5],[0,1,5,6],[1,5,6,21,22,23],[5,6],[1,5,6,21,22,23],[20,38],[1,5,6,21,22,23,24],[1,5,6,21,22,23],[1,5,6,8,21,22,23],[1,5,9,21,22,23],[1,5,6,21,22,23],[1,5,6,21,22,23],[4]]
def rG:Cmd:=aq (g1 [] Go.Proofs.Tryz.f251 F7 1 [])
@[go_sem] def SB(a:Cmd):Cmd:=aq (g1 [] Go.Proofs.Tryz.f251 F7 0 [a])
def Ib:Cmd:=SB rG
def Ax:FD:=⟨2,[[]],[.t 4],Ib⟩
def F8:de:=[[0,1],[0,1,14],[0,1],[0,1,5],[0,1,5,6],[0,1,5,6,21,22,23],[0,5,6],[0,1,5,6,21,22,23],[20],[0,1,5,6,21,22,23,24],[0,1,5,6,21,22,23],[0,1,5,6,7,8,21,22,23],[0,1,5,6,7,8,9,21,22,23],[0,1,5,6,7,8,9,21,22,23,31],[0,1,5,6,7,8,9,21,22,23],[0,1,5,6,21,22,23],[0,1,5,6,21,22,23],[5],[4]]
def kh:Cmd:=aq (g1 [] Go.Proofs.Tryz.f253 F8 1 [])
@[go_sem] def SC(a:Cmd):Cmd:=aq (g1 [] Go.Proofs.Tryz.f253 F8 0 [a])
def Ic:Cmd:=SC kh
def vE:FD:=⟨2,[[.o 2 []]],[.t 4],Ic⟩
def F9:de:=[[0,1],[0,1],[0,1,5],[0,1,5,6],[1,5,6,17,18,19],[5],[1,5,6,17,18,19],[16],[1,5,6,17,18,19,20],[1,5,6,17,18,19],[1,5,6,7,8,17,18,19],[1,5,6,7,8,9,17,18,19],[1,5,6,7,8,9,17,18,19,27],[1,5,6,7,8,9,17,18,19],[1,5,6,17,18,19],[1,5,6,17,18,19],[4]]
def m8:Cmd:=aq (g1 [] Go.Proofs.Tryz.f254 F9 1 [])
@[go_sem] def SD(a:Cmd):Cmd:=aq (g1 [] Go.Proofs.Tryz.f254 F9 0 [a])
def Ie:Cmd:=SD m8
def Ay:FD:=⟨2,[[.o 2 []]],[.t 4],Ie⟩
def kK:de:=[[0,1],[0,1,7,8],[],[0,1,7,8],[],[0,1,7,8,9],[0,1,7,8],[0,1,5,7,8],[0,1,5,7,8,16],[4],[0,1,7,8],[4]]
def te:Cmd:=aq (g1 [] Go.Proofs.Tryz.f255 kK 1 [])
@[go_sem] def vF(a:Cmd):Cmd:=aq (g1 [] Go.Proofs.Tryz.f255 kK 0 [a])
def vG:Cmd:=vF te
def kL:FD:=⟨2,[[]],[.t 4],vG⟩
def sF:Cmd:=aq (g0 Go.Proofs.Tryz.f256 [[0,1,2,6],[0,1,2,6,15],[6,7],[6,7]])
def mF:FD:=⟨3,[aF,[]],[.cell 6 3 true,.t 7],sF⟩
def Az:Cmd:=aq (g0 Go.Proofs.Tryz.f257 [[1,2],[1,2,7],[2,3],[1,2,11],[2,3],[2,3],[2,4]])
def tJ:FD:=⟨1,[aF,[]],[.cell 2 3 true,.t 3],Az⟩
def Ga:Cmd:=aq (g0 Go.Proofs.Tryz.f258 [[1,2],[1,2,7],[2,3],[2,3],[2,4]])
def zp:FD:=⟨1,[aF,[]],[.cell 2 3 true,.t 3],Ga⟩
def Cm:de:=[[1,2,3,4,5,10],[1,2,4,5,10,12,13],[1,2,4,5,10,12,13,14],[10,12,13],[1,2,4,5,10,12,13,14],[5,10,12],[1,2,4,5,10,12,13,14,28],[1,2,4,5,10,12,13,14],[1,2,4,5,10,12,13,14],[1,2,4,5,10,12,13,14],[10,11]]
def aV:Cmd:=aq (g1 [] Go.Proofs.Tryz.f259 Cm 1 [])
@[go_sem] def Md(a:Cmd):Cmd:=aq (g1 [] Go.Proofs.Tryz.f259 Cm 0 [a])
def Dz:Cmd:=Md aV
def pP:FD:=⟨5,[aF,[]],[.cell 10 3 true,.t 11],Dz⟩
def Ux:Cmd:=aq (g0 Go.Proofs.Tryz.f260 [[0,1],[6],[4,5]])
def SE:FD:=⟨2,[[],[]],[.t 4,.t 5],Ux⟩
def I9:Cmd:=aq (g0 Go.Proofs.Tryz.f261 [[0,1],[0,1,6],[0,1,6,7],[0,1,6,7,8],[0,1,6,7,8,9],[0,1,6,7,8,9,10],[0,1,6,7,9,11],[0,1,6,7,9,11,12],[0,1,6,7,9,12,13],[0,1,7,9,12,13],[0,1,4],[4,5]])
def B6:FD:=⟨2,[[],[]],[.t 4,.t 5],I9⟩
def DA:de:=[[0,1],[0,1,6],[0,1,6,7],[0,1,6,7,8],[6,7],[0,1,6,7,8],[11],[0,1,6,7,8,16],[0,1,6,7,8],[0,1,6,7,8],[0,1,6,7,8],[4,5]]
def aEz:Cmd:=aq (g1 [] Go.Proofs.Tryz.f262 DA 1 [])
@[go_sem] def NW(a:Cmd):Cmd:=aq (g1 [] Go.Proofs.Tryz.f262 DA 0 [a])
def EK:Cmd:=NW aEz
def xG:FD:=⟨2,[[.o 2 []],[]],[.t 4,.t 5],EK⟩
def xZ:Cmd:=aq (g0 Go.Proofs.Tryz.f263 [[0],[2]])
def py:FD:=⟨1,[[]],[.t 2],xZ⟩
def zu:Cmd:=aq (g0 Go.Proofs.Tryz.f264 [[0,1,2,3,4],[0,1,2,3,4,14],[10],[2,3,4,11],[10],[]])
def rH:FD:=⟨5,[[]],[.t 10],zu⟩
def EL:de:=[[0,1,2],[0,1,2,7,8],[0,1,2,7,8,14,15,16],[0,1,7,8],[0,1,2,7,8,14,15,16],[1000],[0,1,2,7,8,14,15,16,17],[0,1,2,7,8,14,15,16],[0,1,2,7,8,9,10,14,15,16],[0,1,2,8,9,11,14,15,16],[0,1,2,7,8,9,11,14,15,16],[0,1,2,7,9,12,14,15,16],[0,1,2,7,8,14,15,16],[0,1,2,7,8,14,15,16],[0,1,13],[13],[6]]
def lP:Cmd:=aq (g1 [] Go.Proofs.Tryz.f265 EL 1 [])
@[go_sem] def Po(a:Cmd):Cmd:=aq (g1 [] Go.Proofs.Tryz.f265 EL 0 [a])
def Gb:Cmd:=Po lP
def zz:FD:=⟨3,[[]],[.t 6],Gb⟩
def Ja:Cmd:=aq (g0 Go.Proofs.Tryz.f266 [[0,1,2],[8],[6,8],[6,7]])
def B7:FD:=⟨3,[[],[]],[.t 6,.t 7],Ja⟩
def Jb:Cmd:=aq (g0 Go.Proofs.Tryz.f267 [[0,1,2],[0,1,6],[6,7]])
def B8:FD:=⟨3,[[],[]],[.t 6,.t 7],Jb⟩
def zA:Cmd:=aq (g0 Go.Proofs.Tryz.f268 [[1,2],[1,2,11],[2],[2],[2,4]])
def sG:FD:=⟨1,[aF],[.cell 2 3 true],zA⟩
def Jc:Cmd:=aq (g0 Go.Proofs.Tryz.f269 [[0,1,2],[0,1,2,15],[0,1,2],[2,8],[6,7],[]])
def B9:FD:=⟨3,[[],[]],[.t 6,.t 7],Jc⟩
def DB:de:=[[0,1,2,3,4],[0],[0,1,2,3,4],[],[0,1,2,3,4,24],[0,1,2,3,4],[0,1,2,3,4],[0,1,2,3,4],[10]]
def fZ:Cmd:=aq (g1 [] Go.Proofs.Tryz.f270 DB 1 [])
@[go_sem] def NX(a:Cmd):Cmd:=aq (g1 [] Go.Proofs.Tryz.f270 DB 0 [a])
def EM:Cmd:=NX fZ
def xH:FD:=⟨5,[[]],[.t 10],EM⟩
end
noncomputable def ahG:List (Nat×FD):=[(239,nT),
 (249,FF),
 (260,SE),
 (261,B6),
 (263,py),
 (266,B7),
 (267,B8),
 (269,B9),
 (161,uZ),
 (198,qt),
 (206,tF),
 (207,zi),
 (208,tG),
 (209,Av),
 (210,zj),
 (213,qx),
 (231,ws),
 (234,mE),
 (237,vB),
 (238,qC),
 (241,wu),
 (243,vC),
 (250,pO),
 (251,Ax),
 (253,vE),
 (254,Ay),
 (262,xG),
 (264,rH),
 (265,zz),
 (270,xH),
 (200,jO),
 (235,wt),
 (26,go),
 (37,mM),
 (54,iS),
 (59,fN),
 (78,io),
 (89,eN),
 (121,jN),
 (122,gx),
 (141,je),
 (145,jf),
 (148,dm),
 (151,br),
 (154,aDU),
 (158,nH),
 (201,ij),
 (205,qw),
 (214,jH),
 (223,mY),
 (224,ez),
 (240,jE),
 (255,kL),
 (85,sk),
 (86,jB),
 (88,gP),
 (98,ie),
 (102,xc),
 (103,mB),
 (146,lJ),
 (147,gG),
 (153,sy),
 (160,Aq),
 (162,pJ),
 (163,nE),
 (177,sB),
 (179,oQ),
 (196,vo),
 (197,sC),
 (199,wm),
 (204,lz),
 (211,wn),
 (212,B0),
 (256,mF),
 (268,sG),
 (118,xw),
 (134,xz),
 (135,Am),
 (140,wK),
 (143,An),
 (164,xD),
 (165,Ar),
 (176,ge),
 (178,mV),
 (194,qk),
 (195,qp),
 (215,qz),
 (216,B1),
 (217,FA),
 (218,vz),
 (219,ur),
 (220,oV),
 (232,Dw),
 (233,rF),
 (244,FC),
 (245,zo),
 (246,uz),
 (17,dT),
 (22,i7),
 (45,gF),
 (49,yJ),
 (50,wj),
 (61,tv),
 (63,pH),
 (64,wk),
 (68,kT),
 (82,oL),
 (100,oM),
 (115,gU),
 (116,pI),
 (117,kV),
 (125,fW),
 (132,mS),
 (133,xx),
 (144,mU),
 (181,rz),
 (182,rA),
 (189,rB),
 (222,fC),
 (247,tI),
 (248,oW),
 (257,tJ),
 (258,zp),
 (259,pP),
 (65,sj),
 (123,sq),
 (124,Ak),
 (126,uY),
 (127,fY),
 (180,oR),
 (183,vj),
 (184,oS),
 (185,gg),
 (186,y6),
 (187,uq),
 (188,nN),
 (221,pM),
 (225,uu),
 (226,nF),
 (227,rD),
 (228,wo),
 (229,wr),
 (230,l7),
 (16,ayz),
 (27,aDQ),
 (31,pZ),
 (32,pq),
 (75,sO),
 (84,ug),
 (90,HU),
 (91,fO),
 (92,fw),
 (96,lv),
 (97,Ai),
 (113,xd),
 (114,nR),
 (149,nM),
 (150,xe),
 (152,Ao),
 (159,tE),
 (14,aic),
 (29,yF),
 (33,yG),
 (69,dB),
 (71,iI),
 (73,p8),
 (81,uV),
 (83,tw),
 (94,BV),
 (95,sn),
 (99,Di),
 (101,Aj),
 (136,qh),
 (139,xA),
 (142,xB),
 (157,yU),
 (193,LE),
 (35,G5),
 (36,aBb),
 (39,aBc),
 (40,aBd),
 (41,ku),
 (58,Cw),
 (104,EB),
 (105,fV),
 (106,aAZ),
 (107,aBf),
 (110,rn),
 (111,wJ),
 (112,Cz),
 (166,Fv),
 (167,Do),
 (168,yW),
 (169,A9),
 (170,aBm),
 (172,Fx),
 (173,Fy),
 (174,vf),
 (175,Dp),
 (130,Bu),
 (192,Ba),
 (87,aAP),
 (129,mR),
 (137,A8),
 (138,jC),
 (191,sR),
 (21,aA9),
 (23,aBa),
 (24,aAK),
 (38,aA2),
 (66,kF),
 (70,kG),
 (76,Ft),
 (108,mP),
 (109,aBl),
 (128,su),
 (155,mD),
 (171,px),
 (190,Ha),
 (3,azY),
 (12,De),
 (13,kE),
 (15,aDD),
 (18,G2),
 (19,aDx),
 (20,aBk),
 (25,L6),
 (77,uU),
 (79,qf),
 (80,xt)]
def shL:List (Nat×List (List Sh)):=[(161,[[.o 2 []],[.o 2 []]]),
 (198,[[.o 2 []],[.o 2 []]]),
 (206,[[.o 2 []]]),
 (207,[[.o 2 [.o 2 []]]]),
 (208,[[.o 2 []]]),
 (209,[[.o 2 []],[.o 2 []]]),
 (210,[[.o 2 []]]),
 (213,[[.o 2 []],[]]),
 (231,[[.o 2 []],[.o 2 []]]),
 (234,[[.o 2 []],[]]),
 (237,[[.o 2 []],[.o 2 []]]),
 (238,[[.o 2 []],[.o 2 []]]),
 (241,[[.o 2 []]]),
 (243,[[.o 2 []],[]]),
 (250,[[.o 2 []],[.o 2 []]]),
 (251,[[.o 2 []],[]]),
 (253,[[.o 2 []],[.o 2 []]]),
 (254,[[.o 2 []],[.o 2 []]]),
 (262,[[.o 2 []],[]]),
 (265,[[.o 2 []],[.o 2 []],[]]),
 (26,[[.o 2 [.o 5 [.o 2 [],.o 0 [],.o 2 [],.o 0 []]]]]),
 (37,[[.o 2 []]]),
 (54,[[.o 5 [.o 2 [],.o 0 [],.o 2 [],.o 0 []]],[]]),
 (59,[[.o 8 aG],[]]),
 (78,[[.o 10 [.o 0 [],.o 5 [],.o 0 [],.o 2 [],.o 0 [],.o 0 [],.o 2 [],.o 0 [],.o 0 []]],[]]),
 (121,[[.o 5 [.o 2 [],.o 0 [],.o 2 [],.o 0 []]],[]]),
 (122,[[.o 8 aG],[]]),
 (141,[[.o 10 [.o 0 [],.o 5 [],.o 0 [],.o 2 [],.o 0 [],.o 0 [],.o 2 [],.o 0 [],.o 0 []]],[]]),
 (145,[[.o 2 []]]),
 (148,[[.o 5 [.o 2 [],.o 0 [],.o 2 [],.o 0 []]],[.o 2 []],[]]),
 (151,[[],[],[.o 5 [.o 2 [],.o 0 [],.o 2 [],.o 0 []]]]),
 (158,[[.o 2 []],[]]),
 (201,[[.o 2 []],[.o 2 []]]),
 (203,[[.o 5 [.o 2 [],.o 0 [],.o 2 [],.o 0 []]],[]]),
 (205,[[.o 2 []],[]]),
 (214,[[.o 2 []]]),
 (223,[[.o 2 []],[]]),
 (224,[[.o 8 aG],[]]),
 (240,[[.o 2 [.o 2 []]],[]]),
 (255,[[.o 2 [.o 2 []]],[]]),
 (85,[aF]),
 (86,[aF,aF]),
 (88,[aF]),
 (98,[aF,aF]),
 (103,[aF]),
 (146,[aF,aF]),
 (147,[aF]),
 (153,[aF,aF]),
 (160,[[.o 2 []]]),
 (162,[aF]),
 (163,[[],[.o 2 []],[]]),
 (177,[aF,aF]),
 (196,[aF]),
 (197,[aF]),
 (199,[[.o 2 []],[]]),
 (204,[aF,aF]),
 (211,[[.o 2 []]]),
 (212,[[.o 2 []]]),
 (256,[[],[.o 2 []],[]]),
 (268,[aF]),
 (118,[aF,aF,[]]),
 (134,[aF,aF,[]]),
 (135,[aF,aF,[]]),
 (140,[aF,[]]),
 (143,[aF,aF,[]]),
 (164,[aF,aF,[]]),
 (165,[aF,aF,[]]),
 (176,[aF,[]]),
 (178,[aF,aF,[],[]]),
 (194,[aF,aF,[],[]]),
 (195,[[],[.o 4 aF]]),
 (215,[aF,aF,[],[]]),
 (216,[aF,[]]),
 (217,[aF,[]]),
 (218,[aF,[],[]]),
 (219,[aF,aF,[]]),
 (220,[[],[.o 2 [],.o 0 [],.o 0 []],[],[]]),
 (232,[[.o 2 []],[]]),
 (244,[aF]),
 (245,[[.o 2 []],[]]),
 (246,[[.o 2 [],.o 0 [],.o 0 []],[],[]]),
 (17,[aG,aG]),
 (22,[aG,aF]),
 (45,[aG]),
 (49,[aG,aG,[]]),
 (50,[aF]),
 (61,[aG]),
 (63,[aG,aG]),
 (68,[aG,aG,[]]),
 (82,[aG,aG,[]]),
 (100,[aG,aG,[]]),
 (115,[aF]),
 (116,[[.o 8 aG]]),
 (125,[aG,aG]),
 (132,[aG]),
 (133,[aG,aG,[],[],[]]),
 (144,[aF,[],aF,[]]),
 (181,[aF,aF]),
 (182,[aF,aF]),
 (189,[aG,aG]),
 (222,[aG,[],[]]),
 (247,[aG]),
 (248,[aF,[],[],[]]),
 (257,[aG]),
 (258,[aG]),
 (259,[aF,[],[],[],[]]),
 (65,[[.o 0 [],.o 5 [.o 2 [],.o 0 [],.o 2 [],.o 0 []]],[.o 8 aG],[]]),
 (123,[[.o 0 [],.o 5 [.o 2 [],.o 0 [],.o 2 [],.o 0 []]],[.o 8 aG],[]]),
 (126,[[.o 0 [],.o 5 [.o 2 [],.o 0 [],.o 2 [],.o 0 []]],[.o 8 aG],[]]),
 (127,[[.o 0 [],.o 5 [.o 2 [],.o 0 [],.o 2 [],.o 0 []]],[.o 8 aG],[]]),
 (180,[[.o 0 [],.o 5 [.o 2 [],.o 0 [],.o 2 [],.o 0 []]],[.o 8 aG]]),
 (183,[aG,[],[]]),
 (184,[[.o 0 [],.o 5 [.o 2 [],.o 0 [],.o 2 [],.o 0 []]]]),
 (185,[aF,aF,aG,[]]),
 (186,[[.o 0 [],.o 5 [.o 2 [],.o 0 [],.o 2 [],.o 0 []]],[]]),
 (187,[[],[],aG]),
 (221,[aG]),
 (228,[[],aG,aG]),
 (229,[[],aG,aG]),
 (16,[[.o 0 [],.o 5 [.o 2 [],.o 0 [],.o 2 [],.o 0 []]],[.o 0 [],.o 5 [.o 2 [],.o 0 [],.o 2 [],.o 0 []]]]),
 (27,[[.o 0 [],.o 5 [.o 2 [],.o 0 [],.o 2 [],.o 0 []]],[.o 0 [],.o 5 [.o 2 [],.o 0 [],.o 2 [],.o 0 []]]]),
 (31,[[.o 0 [],.o 5 [.o 2 [],.o 0 [],.o 2 [],.o 0 []]]]),
 (32,[[.o 0 [],.o 5 [.o 2 [],.o 0 [],.o 2 [],.o 0 []]],[.o 0 [],.o 5 [.o 2 [],.o 0 [],.o 2 [],.o 0 []]]]),
 (84,[[.o 0 [],.o 5 [.o 2 [],.o 0 [],.o 2 [],.o 0 []]],[.o 0 [],.o 5 [.o 2 [],.o 0 [],.o 2 [],.o 0 []]]]),
 (91,[[],[.o 2 []],aF]),
 (96,[[.o 0 [],.o 5 [.o 2 [],.o 0 [],.o 2 [],.o 0 []]]]),
 (97,[[.o 2 []]]),
 (113,[[.o 0 [],.o 5 [.o 2 [],.o 0 [],.o 2 [],.o 0 []]],[]]),
 (114,[[.o 0 [],.o 5 [.o 2 [],.o 0 [],.o 2 [],.o 0 []]],[]]),
 (149,[[.o 2 [],.o 0 [],.o 2 [],.o 0 []],[.o 2 []]]),
 (150,[[.o 2 []],[.o 2 []]]),
 (152,[aF]),
 (14,[[.o 8 aG,.o 0 [],.o 0 []],[.o 0 [],.o 5 [.o 2 [],.o 0 [],.o 2 [],.o 0 []],.o 0 [],.o 2 [],.o 0 [],.o 0 [],.o 2 [],.o 0 [],.o 0 []],[.o 0 [],.o 5 [.o 2 [],.o 0 [],.o 2 [],.o 0 []],.o 0 [],.o 2 [],.o 0 [],.o 0 [],.o 2 [],.o 0 [],.o 0 []]]),
 (29,[[.o 8 aG,.o 0 [],.o 0 []],[.o 0 [],.o 5 [.o 2 [],.o 0 [],.o 2 [],.o 0 []],.o 0 [],.o 2 [],.o 0 [],.o 0 [],.o 2 [],.o 0 [],.o 0 []],[.o 0 [],.o 5 [.o 2 [],.o 0 [],.o 2 [],.o 0 []],.o 0 [],.o 2 [],.o 0 [],.o 0 [],.o 2 [],.o 0 [],.o 0 []]]),
 (33,[[.o 8 aG,.o 0 [],.o 0 []],[.o 0 [],.o 5 [.o 2 [],.o 0 [],.o 2 [],.o 0 []],.o 0 [],.o 2 [],.o 0 [],.o 0 [],.o 2 [],.o 0 [],.o 0 []],[.o 0 [],.o 5 [.o 2 [],.o 0 [],.o 2 [],.o 0 []],.o 0 [],.o 2 [],.o 0 [],.o 0 [],.o 2 [],.o 0 [],.o 0 []]]),
 (69,[[.o 8 aG,.o 0 [],.o 0 []]]),
 (71,[[.o 8 aG,.o 0 [],.o 0 []],[.o 0 [],.o 5 [.o 2 [],.o 0 [],.o 2 [],.o 0 []],.o 0 [],.o 2 [],.o 0 [],.o 0 [],.o 2 [],.o 0 [],.o 0 []]]),
 (73,[[.o 8 aG,.o 0 [],.o 0 []],[]]),
 (81,[[.o 8 aG,.o 0 [],.o 0 []],[.o 10 [.o 0 [],.o 5 [],.o 0 [],.o 2 [],.o 0 [],.o 0 [],.o 2 [],.o 0 [],.o 0 []]]]),
 (83,[[.o 0 [],.o 5 [.o 2 [],.o 0 [],.o 2 [],.o 0 []]],[.o 8 aG],[]]),
 (94,[[.o 8 aG,.o 0 [],.o 0 []]]),
 (95,[[.o 8 aG,.o 0 [],.o 0 []],[.o 0 [],.o 5 [.o 2 [],.o 0 [],.o 2 [],.o 0 []]],[],aG]),
 (99,[[],aG,[.o 8 aG]]),
 (136,[aG]),
 (139,[[.o 2 [],.o 0 [],.o 2 [],.o 0 []]]),
 (142,[[.o 0 [],.o 5 [.o 2 [],.o 0 [],.o 2 [],.o 0 []],.o 0 [],.o 2 [],.o 0 [],.o 0 [],.o 2 [],.o 0 [],.o 0 []]]),
 (157,[[.o 8 aG,.o 0 [],.o 0 []],[.o 0 [],.o 5 [.o 2 [],.o 0 [],.o 2 [],.o 0 []]]]),
 (193,[[.o 2 []]]),
 (36,[aF,aF]),
 (39,[aF,aF]),
 (40,[aF,aF]),
 (41,[aF,aF]),
 (58,[aF]),
 (104,[[],[.o 2 []],[]]),
 (105,[aF]),
 (106,[aF]),
 (107,[aF,aF]),
 (110,[aF,aF]),
 (111,[aF]),
 (112,[aF]),
 (166,[[.o 2 []]]),
 (167,[[.o 2 []]]),
 (168,[[.o 2 []],[]]),
 (169,[[.o 2 []]]),
 (170,[[.o 2 []],[.o 2 []]]),
 (172,[[.o 2 []],[]]),
 (173,[[.o 2 []],[.o 2 []]]),
 (174,[[.o 2 []],[.o 2 []]]),
 (175,[[.o 2 []],[.o 2 []]]),
 (130,[aF,[]]),
 (87,[aG,aF]),
 (129,[aG]),
 (138,[aG,aG]),
 (191,[aF]),
 (21,[[.o 8 aG,.o 0 [],.o 0 []],[.o 4 aF]]),
 (23,[[.o 0 [],.o 5 [.o 2 [],.o 0 [],.o 2 [],.o 0 []],.o 0 [],.o 2 [],.o 0 [],.o 0 [],.o 2 [],.o 0 [],.o 0 []],[.o 4 aF],aF]),
 (24,[[.o 0 [],.o 5 [.o 2 [],.o 0 [],.o 2 [],.o 0 []],.o 0 [],.o 2 [],.o 0 [],.o 0 [],.o 2 [],.o 0 [],.o 0 []],[.o 4 aF],aF]),
 (38,[[.o 0 [],.o 5 [.o 2 [],.o 0 [],.o 2 [],.o 0 []]],[.o 4 aF]]),
 (66,[[.o 8 aG,.o 0 [],.o 0 []],[.o 0 [],.o 5 [.o 2 [],.o 0 [],.o 2 [],.o 0 []],.o 0 [],.o 2 [],.o 0 [],.o 0 [],.o 2 [],.o 0 [],.o 0 []]]),
 (70,[[.o 8 aG,.o 0 [],.o 0 []]]),
 (108,[[.o 0 [],.o 5 [.o 2 [],.o 0 [],.o 2 [],.o 0 []]]]),
 (109,[aF,aF,[]]),
 (128,[[.o 0 [],.o 5 [.o 2 [],.o 0 [],.o 2 [],.o 0 []]]]),
 (155,[[.o 2 []],[.o 2 []]]),
 (171,[[],[.o 2 [],.o 0 [],.o 2 [],.o 0 []]]),
 (190,[[.o 2 []]]),
 (3,[[.o 8 aG,.o 0 [],.o 0 []],[.o 0 [],.o 5 [.o 2 [],.o 0 [],.o 2 [],.o 0 []],.o 0 [],.o 2 [],.o 0 [],.o 0 [],.o 2 [],.o 0 [],.o 0 []],[.o 0 [],.o 5 [.o 2 [],.o 0 [],.o 2 [],.o 0 []],.o 0 [],.o 2 [],.o 0 [],.o 0 [],.o 2 [],.o 0 [],.o 0 []],[.o 4 aF],aF]),
 (13,[[.o 8 aG,.o 0 [],.o 0 []],[.o 10 [.o 0 [],.o 5 [],.o 0 [],.o 2 [],.o 0 [],.o 0 [],.o 2 [],.o 0 [],.o 0 []]]]),
 (15,[[.o 8 aG,.o 0 [],.o 0 []],[.o 0 [],.o 5 [.o 2 [],.o 0 [],.o 2 [],.o 0 []],.o 0 [],.o 2 [],.o 0 [],.o 0 [],.o 2 [],.o 0 [],.o 0 []],[.o 0 [],.o 5 [.o 2 [],.o 0 [],.o 2 [],.o 0 []],.o 0 [],.o 2 [],.o 0 [],.o 0 [],.o 2 [],.o 0 [],.o 0 []]]),
 (18,[[.o 8 aG,.o 0 [],.o 0 []],aG,[.o 8 aG]]),
 (19,[[.o 8 aG,.o 0 [],.o 0 []],[.o 0 [],.o 5 [.o 2 [],.o 0 [],.o 2 [],.o 0 []]]]),
 (20,[[.o 8 aG,.o 0 [],.o 0 []],[.o 0 [],.o 5 [.o 2 [],.o 0 [],.o 2 [],.o 0 []],.o 0 [],.o 2 [],.o 0 [],.o 0 [],.o 2 [],.o 0 [],.o 0 []],[.o 0 [],.o 5 [.o 2 [],.o 0 [],.o 2 [],.o 0 []],.o 0 [],.o 2 [],.o 0 [],.o 0 [],.o 2 [],.o 0 [],.o 0 []],[.o 4 aF],aF,aF]),
 (77,[aG]),
 (79,[[.o 0 [],.o 5 [.o 2 [],.o 0 [],.o 2 [],.o 0 []],.o 0 [],.o 2 [],.o 0 [],.o 0 [],.o 2 [],.o 0 [],.o 0 []]]),
 (80,[[.o 2 [],.o 0 [],.o 2 [],.o 0 []]])]
def mdL:List (Nat×List Nat):=[(265,[1,0,0]),(148,[3,0,0]),(151,[2,0,0]),(154,[2,0,0]),(202,[0,1])]
def keepL:List Nat:=[55,56,79,136,139,142,225,228,229]
def ab:List Nat->Nat
 |[]=>0
 |x::l=>x+4294967296*ab l
def Lb(m:List Nat):Prop:=∀x∈m,x<4294967296
def dy:Nat->Nat->List Nat
 |0,_=>[]
 |k+1,n=>n%4294967296::dy k (n/4294967296)
def av(n:Nat):List Nat:=if h:n=0 then []else n%4294967296::av (n/4294967296)
termination_by n
decreasing_by omega
theorem fj:av 0=[]:=by grind[av]
theorem qD{n}(h:n≠0):av n=n%4294967296::av (n/4294967296):=by rw[av,dif_neg h]
theorem nU{n}:av n=[]↔n=0:=by
 grind[qD,fj]
theorem aN(n):ab (av n)=n:=by
 induction n using Nat.strongRecOn with
 |ind n ih=>
  grind[fj,qD,ab]
theorem aZ(n):Lb (av n):=by
 induction n using Nat.strongRecOn with
 |ind n ih=>
  by_cases h:n=0
  ·subst h;rw[fj];intro x hx;grind
  ·rw[qD h];intro x hx;rcases List.mem_cons.1 hx with rfl|hx
   ·omega
   ·exact ih _ (by omega) x hx
theorem Jd:Lb []:=fun x hx=>by grind
theorem iL{x}{l}:Lb (x::l)↔x<4294967296/\Lb l:=by
 constructor
 ·intro h;exact⟨h x (by simp),fun y hy=>h y (by grind)⟩
 ·rintro⟨h1,h2⟩ y hy
  rcases List.mem_cons.1 hy with rfl|hy
  ·omega
  ·exact h2 y hy
theorem oZ{l r}:Lb (l++r)↔Lb l/\Lb r:=by
 constructor
 ·intro h;exact⟨fun x hx=>h x (by grind),fun x hx=>h x (by grind)⟩
 ·rintro⟨h1,h2⟩ x hx
  rcases List.mem_append.1 hx with hx|hx
  ·exact h1 x hx
  ·exact h2 x hx
theorem eY{l}(h:Lb l)(n):Lb (l.take n):=fun x hx=>h x (List.mem_of_mem_take hx)
theorem mG{l}(h:Lb l)(n):Lb (l.drop n):=fun x hx=>h x (List.mem_of_mem_drop hx)
theorem bN{l}(h:Lb l)(i):l.getD i 0<4294967296:=by
 rw[List.getD_eq_getElem?_getD];cases hq:l[i]? with
 |none=>simp
 |some x=>exact h x (List.mem_of_getElem? hq)
theorem dV(l r):ab (l++r)=ab l+4294967296^l.length*ab r:=by
 induction l with
 |nil=>simp[ab]
 |cons x l ih=>
  simp only[axM,ab,ih,axE,axO,Nat.mul_add];grind
theorem cG{l}(h:Lb l):ab l<4294967296^l.length:=by
 induction l with
 |nil=>simp[ab]
 |cons x l ih=>
  obtain⟨h1,h2⟩:=iL.1 h;grind[ab,axE,axO]
theorem cR(k n):(dy k n).length=k:=by
 induction k generalizing n with
 |zero=>rfl
 |succ k ih=>grind[dy]
theorem nV(k n):Lb (dy k n):=by
 induction k generalizing n with
 |zero=>exact Jd
 |succ k ih=>exact iL.2 ⟨by omega,ih _⟩
theorem lA(k n):ab (dy k n)=n%4294967296^k:=by
 induction k generalizing n with
 |zero=>simp[dy,ab,Nat.mod_one]
 |succ k ih=>
  rw[dy,ab,ih,axO,axf (4294967296^k),Nat.mod_mul]
theorem Hd{l}(h:Lb l):dy l.length (ab l)=l:=by
 induction l with
 |nil=>rfl
 |cons x l ih=>
  obtain⟨h1,h2⟩:=iL.1 h;grind[axE,dy,ab]
theorem Rg(n):ab (awO n 0)=0:=by
 induction n with
 |zero=>rfl
 |succ n ih=>simp[List.replicate_succ,ab,ih]
def mf(m:List Nat):Nat->Nat
 |0=>0
 |n+1=>if m.getD n 0=0 then mf m n else n+1
theorem DC(m):∀n,mf m n<=n
 |0=>awQ _
 |n+1=>by
  unfold mf;have:=DC m n;split<;>omega
theorem X8(m):∀n,mf m n=0\/m.getD (mf m n-1) 0≠0
 |0=>.inl rfl
 |n+1=>by
  unfold mf;split
  ·exact X8 m n
  ·rename_i h;exact .inr h
theorem Uy(m):∀n i,mf m n<=i->i<n->m.getD i 0=0
 |0,i,_,h=>by omega
 |n+1,i,h1,h2=>by
  unfold mf at h1;split at h1
  ·rename_i h;by_cases e:i=n
   ·rw[e];exact h
   ·exact Uy m n i h1 (by omega)
  ·omega
def Bb(m:List Nat):Prop:=m=[]\/m.getD (m.length-1) 0≠0
theorem Pp(x)(l)(i):(x::l).getD (i+1) 0=l.getD i 0:=by grind
theorem NY{x}{l}(h:Bb (x::l)):Bb l:=by
 rcases h with h|h
 ·grind
 ·cases l with
  |nil=>exact .inl rfl
  |cons y l=>
   refine .inr ?_;grind
theorem Je{l}(h:Bb l)(hne:l≠[]):ab l≠0:=by
 induction l with
 |nil=>grind
 |cons x l ih=>
  cases l with
  |nil=>
   rcases h with h|h
   all_goals grind[ab]
  |cons y l=>
   grind[NY,ab]
theorem Gc{l}(h1:Lb l)(h2:Bb l):av (ab l)=l:=by
 induction l with
 |nil=>exact fj
 |cons x l ih=>
  obtain⟨h3,h4⟩:=iL.1 h1;grind[qD,Je,ab,NY]
theorem Jf(n):Bb (av n):=by
 induction n using Nat.strongRecOn with
 |ind n ih=>
  by_cases h:n=0
  ·subst h;rw[fj];exact .inl rfl
  ·refine .inr ?_;rcases ih (n/4294967296) (by omega)with h2|h2
   all_goals grind[av,axE,Nat.add_sub_cancel,Pp]
theorem Uz(m):ab (m.take (mf m m.length))=ab m:=by
 have h:m=m.take (mf m m.length)++m.drop (mf m m.length):=(List.take_append_drop _ _).symm;have hz:m.drop (mf m m.length)=awO (m.length-mf m m.length) 0:=by
  rw[List.eq_replicate_iff];refine⟨by simp,fun x hx=>?_⟩;obtain⟨i,hi⟩:=List.getElem?_of_mem hx;rw[List.getElem?_drop]at hi;have hl:=(List.getElem?_eq_some_iff.1 hi).1;have:=Uy m m.length (mf m m.length+i) (by omega) hl;grind
 grind[dV,Rg]
theorem Pq(m:List Nat):Bb (m.take (mf m m.length)):=by
 rcases X8 m m.length with h|h
 ·rw[h];exact .inl rfl
 ·by_cases h0:mf m m.length=0
  ·rw[h0];exact .inl rfl
  ·refine .inr ?_;grind
theorem Me{m}(h:Lb m):m.take (mf m m.length)=av (ab m):=by
 rw[←Gc (eY h _) (Pq m),Uz]
theorem jF{n k}(h:n<4294967296^k):(av n).length<=k:=by
 induction k generalizing n with
 |zero=>
  grind[fj]
 |succ k ih=>
  grind[qD,axE,axO,Nat.div_lt_of_lt_mul,axf]
theorem gh(n):n<4294967296^ (av n).length:=by
 grind[cG,aZ,aN]
theorem Rh{n}(h:n≠0):4294967296^ ((av n).length-1)<=n:=by
 induction n using Nat.strongRecOn with
 |ind n ih=>
  grind[av,Nat.succ_pred_eq_of_pos,Nat.add_sub_cancel,axO]
def tz(n:Nat):Nat:=if h:n=0 then 0 else if n%2=1 then 0 else tz (n/2)+1
termination_by n
decreasing_by omega
theorem uA{n}(h:n%2=1):tz n=0:=by
 rw[tz,dif_neg (by omega),if_pos h]
theorem acJ{n}(h:n≠0):tz (2*n)=tz n+1:=by
 rw[tz,dif_neg (by omega),if_neg (by omega),Nat.mul_div_cancel_left n (by decide)]
theorem Jg{n}(k)(h:n≠0):tz (2^k*n)=k+tz n:=by
 induction k with
 |zero=>rw[Nat.pow_zero,Nat.one_mul,awP]
 |succ k ih=>
  grind[axO,axf,axn,acJ,Nat.mul_ne_zero,Nat.ne_of_gt,axb]
theorem sT{n}(h:n≠0):n=2^tz n*(n/2^tz n)/\n/2^tz n%2=1:=by
 induction n using Nat.strongRecOn with
 |ind n ih=>
  by_cases h1:n%2=1
  ·simp_all[uA,Nat.pow_zero,Nat.div_one,Nat.one_mul]
  ·have hn:n=2*(n/2):=by omega
   grind[tz,axO,axf,Nat.div_div_eq_div_mul,axn]
theorem akY{x k}(y)(h:x≠0)(hx:x<2^k):tz (x+2^k*y)=tz x:=by
 obtain⟨e1,e2⟩:=sT h;generalize x/2^tz x=q at e1 e2;have hle:2^tz x<=x:=by
  conv=>rhs;rw[e1]
  exact Nat.le_mul_of_pos_right _ (by omega)
 have hk:=(Nat.pow_lt_pow_iff_right (by decide)).1 (axF hle hx);generalize hz:2^ (k-tz x-1)*y=z;have e3:x+2^k*y=2^tz x*(q+2*z):=by
  have e4:2^k=2^tz x*(2*2^ (k-tz x-1)):=by
   rw[←Nat.pow_succ',←axa];grind
  grind
 have e5:(q+2*z) %2=1:=by omega
 rw[e3,Jg _ (by omega),uA e5,axo]
theorem Tj{x k}(h:x≠0)(hx:x<2^k):tz x<k:=by
 obtain⟨e1,e2⟩:=sT h;generalize x/2^tz x=q at e1 e2;have hle:2^tz x<=x:=by
  conv=>rhs;rw[e1]
  exact Nat.le_mul_of_pos_right _ (by omega)
 exact(Nat.pow_lt_pow_iff_right (by decide)).1 (axF hle hx)
def Rj:Nat->Nat->Nat
 |0,_=>0
 |k+1,n=>if n%2=1 then 0 else Rj k (n/2)+1
theorem akZ:∀k x,x≠0->x<2^k->Rj k x=tz x:=by
 intro k;induction k with
 |zero=>omega
 |succ k ih=>
  intro x h0 h1;unfold Rj;by_cases h:x%2=1
  ·rw[if_pos h,uA h]
  ·have:=acJ (n:=x/2) (by omega);grind
def tzF(zas:List AV)(hs:List Ob):Option (AV×List Ob):=match zas with
 |[.v (.int .u32 n)]=>if 0<n/\n<4294967296/\hs=[]then some (.v (.int .i64 (Rj 32 n.toNat:Nat)),[])else none
 |_=>none
def X9(k:Nat)(zas:List AV)(hs:List Ob):Option (AV×List Ob):=match zas,hs with
 |[.sl k0 (_::_),.rsl 1000 none k1 _ _],[.ar k2 rows]=>if k0=k/\k1=k/\k2=k then some (B false,[.ar k2 rows])else none
 |_,_=>none
def clF(zas:List AV)(hs:List Ob):Option (AV×List Ob):=match zas,hs with
 |[.sl 1 []],[]=>some (.sl 1 [],[])
 |[.sl 1 (r::rs)],[]=>if(rs.length+1)*8<=140737488355328 then some (.osl 1 (r::rs),[])else none
 |_,_=>none
def UA(k bytes:Nat)(zas:List AV)(hs:List Ob):Option (AV×List Ob):=match zas,hs with
 |[.emp,.v (.int .i64 0),.sl k0 [r]],[]=>if k0=k then some (.osl k [r],[])else none
 |[.rsl 1000 none k1 0 n,.v (.int .i64 i),.sl k0 [r]],[.ar k2 rows]=>
  if k0=k/\k1=k/\k2=k/\n=rows.length/\0<=i/\i<=n/\(n+1)*bytes<=140737488355328 then some (.osl k (rows.take i.toNat++r::rows.drop i.toNat),[.dead])else none
 |_,_=>none
def Tk:List (Nat× (List AV->List Ob->Option (AV×List Ob))):=[(F.bits_TrailingZeros32,tzF),(F.slices_overlaps_api_Term_,X9 4)]
def ak0:List (Nat× (List AV->List Ob->Option (AV×List Ob))):=(F.slices_Clone_int_int_,clF)::(F.slices_Insert_api_Term_api_Term_,UA 4 64)::Tk
noncomputable def cJ:Env:=⟨fun f=>ak0.lookup f,fun f=>ahG.lookup f,⟨fun f=>(mdL.lookup f).getD [],fun f=>(shL.lookup f).getD [],fun f=>keepL.contains f,false⟩⟩
noncomputable def az (b:Bool):Mode:={cJ.md with nm:=b}
noncomputable def R:iG:=jY cJ
theorem NZ{f:FuncId}{fd:FD}{args:List AV}{hs:List Ob}{r:AV×List Ob}(b:Bool)(hE:cJ.E f=none)(hC:cJ.C f=some fd)(hk:cJ.md.keep f=b)(h1:args.length=fd.np)(h2:hs.length<=1000)
  (hz:gZ b fd.rs fd.res hs.length (ai R (az b) fd.body (tW args) (ap hs))=some r):R f args hs=some r:=by
 refine Q7 hE hC ?_;unfold aaE;rw[if_pos ⟨h1,h2⟩];subst hk;exact hz
@[go_sem] theorem av5(b:Bool):(az b).nm=b:=θ _
abbrev LJ(f:FuncId):Prop:=∀ (b:Bool) (h:ac) (d:Nat) (zas:List AV),bE R (az b) h d zas (.fn f [] [])=(bQ h [] zas).bind (GZ R (az b) d f)
abbrev EN(f:FuncId)(l:List (List Sh)):Prop:=∀b:Bool,(az b).sh f=l
abbrev EO(f:FuncId)(l:List Nat):Prop:=∀b:Bool,(az b).m f=l
abbrev EP(f:FuncId)(l:Bool):Prop:=∀b:Bool,(az b).keep f=l
theorem DD{f:FuncId}{l:List (List Sh)}(h:cJ.md.sh f=l):EN f l:=fun _=>h
theorem DE{f:FuncId}{l:List Nat}(h:cJ.md.m f=l):EO f l:=fun _=>h
theorem DF{f:FuncId}{l:Bool}(h:cJ.md.keep f=l):EP f l:=fun _=>h
theorem He{f:FuncId}(hm:∀b,(az b).m f=[]):LJ f:=fun b _ d _=>G0 d (hm b)
abbrev QL(f:FuncId)(l:List (List Sh)):Prop:=EN f l/\EO f []/\LJ f/\EP f false
abbrev QE(f:FuncId)(l:List (List Sh))(fd:FD):Prop:=QL f l/\cJ.E f=none/\cJ.C f=some fd
theorem ql{f:FuncId}{l:List (List Sh)}(h:(cJ.md.sh f,cJ.md.m f,cJ.md.keep f)=(l,[],false)):QL f l:=by
 simp only[Prod.mk.injEq]at h;exact⟨fun _=>h.1,fun _=>h.2.1,He fun _=>h.2.1,fun _=>h.2.2⟩
theorem qe{f:FuncId}{l:List (List Sh)}{fd:FD}(h:(cJ.md.sh f,cJ.md.m f,cJ.md.keep f,cJ.E f,cJ.C f)=(l,[],false,none,some fd)):QE f l fd:=by
 simp only[Prod.mk.injEq]at h;exact⟨⟨fun _=>h.1,fun _=>h.2.1,He fun _=>h.2.1,fun _=>h.2.2.1⟩,h.2.2.2⟩
@[go_sem] theorem aBA:QE F.l25_ModelInside [[.o 8 aG,.o 0 [],.o 0 []],[.o 0 [],.o 5 [.o 2 [],.o 0 [],.o 2 [],.o 0 []],.o 0 [],.o 2 [],.o 0 [],.o 0 [],.o 2 [],.o 0 [],.o 0 []],[.o 0 [],.o 5 [.o 2 [],.o 0 [],.o 2 [],.o 0 []],.o 0 [],.o 2 [],.o 0 [],.o 0 [],.o 2 [],.o 0 [],.o 0 []],[.o 4 aF],aF] azY:=qe κ
@[go_sem] theorem Xg:QE F.l25_awake [] De:=qe κ
@[go_sem] theorem Xh:QE F.l25_great [[.o 8 aG,.o 0 [],.o 0 []],[.o 10 [.o 0 [],.o 5 [],.o 0 [],.o 2 [],.o 0 [],.o 0 [],.o 2 [],.o 0 [],.o 0 []]]] kE:=qe κ
@[go_sem] theorem ayc:QE F.model_Inside [[.o 8 aG,.o 0 [],.o 0 []],[.o 0 [],.o 5 [.o 2 [],.o 0 [],.o 2 [],.o 0 []],.o 0 [],.o 2 [],.o 0 [],.o 0 [],.o 2 [],.o 0 [],.o 0 []],[.o 0 [],.o 5 [.o 2 [],.o 0 [],.o 2 [],.o 0 []],.o 0 [],.o 2 [],.o 0 [],.o 0 [],.o 2 [],.o 0 [],.o 0 []]] aic:=qe κ
@[go_sem] theorem aaQ:QE F.l25_pair [[.o 8 aG,.o 0 [],.o 0 []],[.o 0 [],.o 5 [.o 2 [],.o 0 [],.o 2 [],.o 0 []],.o 0 [],.o 2 [],.o 0 [],.o 0 [],.o 2 [],.o 0 [],.o 0 []],[.o 0 [],.o 5 [.o 2 [],.o 0 [],.o 2 [],.o 0 []],.o 0 [],.o 2 [],.o 0 [],.o 0 [],.o 2 [],.o 0 [],.o 0 []]] aDD:=qe κ
@[go_sem] theorem aze:QE F.poly_Sub [[.o 0 [],.o 5 [.o 2 [],.o 0 [],.o 2 [],.o 0 []]],[.o 0 [],.o 5 [.o 2 [],.o 0 [],.o 2 [],.o 0 []]]] ayz:=qe κ
@[go_sem] theorem K2:QE F.interval_Inside [aG,aG] dT:=qe κ
@[go_sem] theorem acL:QE F.l25_sum [[.o 8 aG,.o 0 [],.o 0 []],aG,[.o 8 aG]] G2:=qe κ
@[go_sem] theorem aaR:QE F.l25_span [[.o 8 aG,.o 0 [],.o 0 []],[.o 0 [],.o 5 [.o 2 [],.o 0 [],.o 2 [],.o 0 []]]] aDx:=qe κ
@[go_sem] theorem aB3:QE F.l25_point [[.o 8 aG,.o 0 [],.o 0 []],[.o 0 [],.o 5 [.o 2 [],.o 0 [],.o 2 [],.o 0 []],.o 0 [],.o 2 [],.o 0 [],.o 0 [],.o 2 [],.o 0 [],.o 0 []],[.o 0 [],.o 5 [.o 2 [],.o 0 [],.o 2 [],.o 0 []],.o 0 [],.o 2 [],.o 0 [],.o 0 [],.o 2 [],.o 0 [],.o 0 []],[.o 4 aF],aF,aF] aBk:=qe κ
@[go_sem] theorem aB4:QE F.r25_Point [[.o 8 aG,.o 0 [],.o 0 []],[.o 4 aF]] aA9:=qe κ
@[go_sem] theorem Pr:QE F.interval_Has [aG,aF] i7:=qe κ
@[go_sem] theorem aB5:QE F.r25_Value [[.o 0 [],.o 5 [.o 2 [],.o 0 [],.o 2 [],.o 0 []],.o 0 [],.o 2 [],.o 0 [],.o 0 [],.o 2 [],.o 0 [],.o 0 []],[.o 4 aF],aF] aBa:=qe κ
@[go_sem] theorem aBH:QE F.r25_Describes [[.o 0 [],.o 5 [.o 2 [],.o 0 [],.o 2 [],.o 0 []],.o 0 [],.o 2 [],.o 0 [],.o 0 [],.o 2 [],.o 0 [],.o 0 []],[.o 4 aF],aF] aAK:=qe κ
@[go_sem] theorem aip:QE F.l25_n [] L6:=qe κ
@[go_sem] theorem wv:QE F.slices_Concat_api_Term_api_Term_ [[.o 2 [.o 5 [.o 2 [],.o 0 [],.o 2 [],.o 0 []]]]] go:=qe κ
@[go_sem] theorem aaS:QE F.poly_Add [[.o 0 [],.o 5 [.o 2 [],.o 0 [],.o 2 [],.o 0 []]],[.o 0 [],.o 5 [.o 2 [],.o 0 [],.o 2 [],.o 0 []]]] aDQ:=qe κ
@[go_sem] theorem Xi:QE F.model_Add [[.o 8 aG,.o 0 [],.o 0 []],[.o 0 [],.o 5 [.o 2 [],.o 0 [],.o 2 [],.o 0 []],.o 0 [],.o 2 [],.o 0 [],.o 0 [],.o 2 [],.o 0 [],.o 0 []],[.o 0 [],.o 5 [.o 2 [],.o 0 [],.o 2 [],.o 0 []],.o 0 [],.o 2 [],.o 0 [],.o 0 [],.o 2 [],.o 0 [],.o 0 []]] yF:=qe κ
@[go_sem] theorem SF:QE F.poly_Degree [[.o 0 [],.o 5 [.o 2 [],.o 0 [],.o 2 [],.o 0 []]]] pZ:=qe κ
@[go_sem] theorem aaU:QE F.poly_Mul [[.o 0 [],.o 5 [.o 2 [],.o 0 [],.o 2 [],.o 0 []]],[.o 0 [],.o 5 [.o 2 [],.o 0 [],.o 2 [],.o 0 []]]] pq:=qe κ
@[go_sem] theorem Xj:QE F.model_Mul [[.o 8 aG,.o 0 [],.o 0 []],[.o 0 [],.o 5 [.o 2 [],.o 0 [],.o 2 [],.o 0 []],.o 0 [],.o 2 [],.o 0 [],.o 0 [],.o 2 [],.o 0 [],.o 0 []],[.o 0 [],.o 5 [.o 2 [],.o 0 [],.o 2 [],.o 0 []],.o 0 [],.o 2 [],.o 0 [],.o 0 [],.o 2 [],.o 0 [],.o 0 []]] yG:=qe κ
@[go_sem] theorem acM:QE F.r02_Int [] G5:=qe κ
@[go_sem] theorem aCr:QE F.r02_Mul [aF,aF] aBb:=qe κ
@[go_sem] theorem WH:QL F.slices_Clone_int_int_ [[.o 2 []]]:=ql κ
@[go_sem] theorem aCg:QE F.r23_Eval [[.o 0 [],.o 5 [.o 2 [],.o 0 [],.o 2 [],.o 0 []]],[.o 4 aF]] aA2:=qe κ
@[go_sem] theorem aCs:QE F.r02_Add [aF,aF] aBc:=qe κ
@[go_sem] theorem aCt:QE F.r02_Sub [aF,aF] aBd:=qe κ
@[go_sem] theorem acN:QE F.r02_Cmp [aF,aF] ku:=qe κ
@[go_sem] theorem Mf:QE F.interval_Valid [aG] gF:=qe κ
@[go_sem] theorem Pt:QE F.interval_Sub [aG,aG,[]] yJ:=qe κ
@[go_sem] theorem Mg:QE F.interval_Point [aF] wj:=qe κ
@[go_sem] theorem aD7:QE F.slices_ContainsFunc_api_Term_api_Term_ [[.o 5 [.o 2 [],.o 0 [],.o 2 [],.o 0 []]],[]] iS:=qe κ
@[go_sem] theorem acQ:QE F.r02_Neg [aF] Cw:=qe κ
@[go_sem] theorem aQ:QE F.slices_ContainsFunc_api_Interval_api_Interval_ [[.o 8 aG],[]] fN:=qe κ
@[go_sem] theorem Pu:QE F.interval_Neg [aG] tv:=qe κ
@[go_sem] theorem Mh:QE F.interval_Equal [aG,aG] pH:=qe κ
@[go_sem] theorem Mi:QE F.interval_Whole [] wk:=qe κ
@[go_sem] theorem UC:QE F.bound_Best [[.o 0 [],.o 5 [.o 2 [],.o 0 [],.o 2 [],.o 0 []]],[.o 8 aG],[]] sj:=qe κ
@[go_sem] theorem Xl:QE F.r25_Valid [[.o 8 aG,.o 0 [],.o 0 []],[.o 0 [],.o 5 [.o 2 [],.o 0 [],.o 2 [],.o 0 []],.o 0 [],.o 2 [],.o 0 [],.o 0 [],.o 2 [],.o 0 [],.o 0 []]] kF:=qe κ
@[go_sem] theorem Pw:QE F.interval_Div [aG,aG,[]] kT:=qe κ
@[go_sem] theorem Jh:QE F.model_ValidSpace [[.o 8 aG,.o 0 [],.o 0 []]] dB:=qe κ
@[go_sem] theorem Xm:QE F.r25_Space [[.o 8 aG,.o 0 [],.o 0 []]] kG:=qe κ
@[go_sem] theorem SH:QE F.model_Valid [[.o 8 aG,.o 0 [],.o 0 []],[.o 0 [],.o 5 [.o 2 [],.o 0 [],.o 2 [],.o 0 []],.o 0 [],.o 2 [],.o 0 [],.o 0 [],.o 2 [],.o 0 [],.o 0 []]] iI:=qe κ
@[go_sem] theorem Xn:QE F.model_Var [[.o 8 aG,.o 0 [],.o 0 []],[]] p8:=qe κ
@[go_sem] theorem aaV:QE F.poly_Var [] sO:=qe κ
@[go_sem] theorem aaW:QE F.r25_Unit [] Ft:=qe κ
@[go_sem] theorem Ca:QE F.l25_great_1 [aG] uU:=qe κ
@[go_sem] theorem aX:QE F.slices_ContainsFunc_api_Model_api_Model_ [[.o 10 [.o 0 [],.o 5 [],.o 0 [],.o 2 [],.o 0 [],.o 0 [],.o 2 [],.o 0 [],.o 0 []]],[]] io:=qe κ
theorem SI:cJ.C F.l25_great_2=some qf:=by kernel_rfl
theorem SJ:cJ.E F.l25_great_2=none:=by kernel_rfl
@[go_sem] theorem Px:EN F.l25_great_2 [[.o 0 [],.o 5 [.o 2 [],.o 0 [],.o 2 [],.o 0 []],.o 0 [],.o 2 [],.o 0 [],.o 0 [],.o 2 [],.o 0 [],.o 0 []]]:=DD κ
@[go_sem] theorem If:EO F.l25_great_2 []:=DE κ
@[go_sem] theorem afH:LJ F.l25_great_2:=He If
@[go_sem] theorem DG:EP F.l25_great_2 true:=DF κ
@[go_sem] theorem zB:QE F.l25_great_2_1 [[.o 2 [],.o 0 [],.o 2 [],.o 0 []]] xt:=qe κ
@[go_sem] theorem SK:QE F.model_every [[.o 8 aG,.o 0 [],.o 0 []],[.o 10 [.o 0 [],.o 5 [],.o 0 [],.o 2 [],.o 0 [],.o 0 [],.o 2 [],.o 0 [],.o 0 []]]] uV:=qe κ
@[go_sem] theorem Py:QE F.interval_Add [aG,aG,[]] oL:=qe κ
@[go_sem] theorem Pz:QE F.model_ranged [[.o 0 [],.o 5 [.o 2 [],.o 0 [],.o 2 [],.o 0 []]],[.o 8 aG],[]] tw:=qe κ
@[go_sem] theorem Xo:QE F.poly_pair [[.o 0 [],.o 5 [.o 2 [],.o 0 [],.o 2 [],.o 0 []]],[.o 0 [],.o 5 [.o 2 [],.o 0 [],.o 2 [],.o 0 []]]] ug:=qe κ
@[go_sem] theorem UD:QE F.dyadic_Neg [aF] sk:=qe κ
@[go_sem] theorem UE:QE F.dyadic_Cmp [aF,aF] jB:=qe κ
@[go_sem] theorem aCu:QE F.r05_Has [aG,aF] aAP:=qe κ
@[go_sem] theorem PA:QE F.dyadic_Valid [aF] gP:=qe κ
@[go_sem] theorem m9:QE F.slices_Grow_api_Term_api_Term_ [] eN:=qe κ
@[go_sem] theorem UF:QE F.poly_empty [] HU:=qe κ
@[go_sem] theorem aD6:QE F.poly_collector_add [[],[.o 2 []],aF] fO:=qe κ
@[go_sem] theorem bw:QE F.poly_collector_done [] fw:=qe κ
@[go_sem] theorem UG:QE F.model_none [[.o 8 aG,.o 0 [],.o 0 []]] BV:=qe κ
@[go_sem] theorem UH:QE F.model_made [[.o 8 aG,.o 0 [],.o 0 []],[.o 0 [],.o 5 [.o 2 [],.o 0 [],.o 2 [],.o 0 []]],[],aG] sn:=qe κ
@[go_sem] theorem UI:QE F.poly_Valid [[.o 0 [],.o 5 [.o 2 [],.o 0 [],.o 2 [],.o 0 []]]] lv:=qe κ
@[go_sem] theorem SL:QE F.poly_degree [[.o 2 []]] Ai:=qe κ
@[go_sem] theorem UJ:QE F.dyadic_Mul [aF,aF] ie:=qe κ
@[go_sem] theorem Xp:QE F.model_sum [[],aG,[.o 8 aG]] Di:=qe κ
@[go_sem] theorem PB:QE F.interval_Mul [aG,aG,[]] oM:=qe κ
@[go_sem] theorem SM:QE F.model_whole [] Aj:=qe κ
@[go_sem] theorem UK:QE F.dyadic_Int [] xc:=qe κ
@[go_sem] theorem SN:QE F.dyadic_Sign [aF] mB:=qe κ
@[go_sem] theorem afI:QE F.r02_Of [[],[.o 2 []],[]] EB:=qe κ
@[go_sem] theorem Xq:QE F.r02_Valid [aF] fV:=qe κ
@[go_sem] theorem aBT:QE F.r02_Checked [aF] aAZ:=qe κ
@[go_sem] theorem aBU:QE F.r02_Product [aF,aF] aBf:=qe κ
@[go_sem] theorem Xr:QE F.r23_Valid [[.o 0 [],.o 5 [.o 2 [],.o 0 [],.o 2 [],.o 0 []]]] mP:=qe κ
@[go_sem] theorem aB6:QE F.r23_times [aF,aF,[]] aBl:=qe κ
@[go_sem] theorem acR:QE F.r02_Sum [aF,aF] rn:=qe κ
@[go_sem] theorem aaY:QE F.r02_Sign [aF] wJ:=qe κ
@[go_sem] theorem acS:QE F.r02_Top [aF] Cz:=qe κ
@[go_sem] theorem UM:QE F.poly_Split [[.o 0 [],.o 5 [.o 2 [],.o 0 [],.o 2 [],.o 0 []]],[]] xd:=qe κ
@[go_sem] theorem UN:QE F.poly_Round [[.o 0 [],.o 5 [.o 2 [],.o 0 [],.o 2 [],.o 0 []]],[]] nR:=qe κ
@[go_sem] theorem Ji:QE F.interval_Valid_1 [aF] gU:=qe κ
@[go_sem] theorem Mj:QE F.interval_known [[.o 8 aG]] pI:=qe κ
@[go_sem] theorem Hf:QE F.interval_permitted [] kV:=qe κ
@[go_sem] theorem N0:QE F.round_AddDown [aF,aF,[]] xw:=qe κ
@[go_sem] theorem cf:QE F.slices_IndexFunc_api_Term_api_Term_ [[.o 5 [.o 2 [],.o 0 [],.o 2 [],.o 0 []]],[]] jN:=qe κ
@[go_sem] theorem aK:QE F.slices_IndexFunc_api_Interval_api_Interval_ [[.o 8 aG],[]] gx:=qe κ
@[go_sem] theorem UO:QE F.bound_fits [[.o 0 [],.o 5 [.o 2 [],.o 0 [],.o 2 [],.o 0 []]],[.o 8 aG],[]] sq:=qe κ
@[go_sem] theorem SO:QE F.bound_whole [] Ak:=qe κ
@[go_sem] theorem N1:QE F.interval_Meet [aG,aG] fW:=qe κ
@[go_sem] theorem SP:QE F.bound_Naive [[.o 0 [],.o 5 [.o 2 [],.o 0 [],.o 2 [],.o 0 []]],[.o 8 aG],[]] uY:=qe κ
@[go_sem] theorem jv:QE F.bound_Bernstein [[.o 0 [],.o 5 [.o 2 [],.o 0 [],.o 2 [],.o 0 []]],[.o 8 aG],[]] fY:=qe κ
@[go_sem] theorem UP:QE F.r23_Degree [[.o 0 [],.o 5 [.o 2 [],.o 0 [],.o 2 [],.o 0 []]]] su:=qe κ
@[go_sem] theorem Xs:QE F.r05_Valid [aG] mR:=qe κ
@[go_sem] theorem afJ:QE F.r03_Is [aF,[]] Bu:=qe κ
@[go_sem] theorem N2:QE F.interval_Sign [aG] mS:=qe κ
@[go_sem] theorem N3:QE F.interval_four [aG,aG,[],[],[]] xx:=qe κ
@[go_sem] theorem aDc:QE F.round_DivDown [aF,aF,[]] xz:=qe κ
@[go_sem] theorem sH:QE F.round_DivUp [aF,aF,[]] Am:=qe κ
theorem Hg:cJ.C F.model_ValidSpace_1=some qh:=by kernel_rfl
theorem Hh:cJ.E F.model_ValidSpace_1=none:=by kernel_rfl
@[go_sem] theorem Gd:EN F.model_ValidSpace_1 [aG]:=DD κ
@[go_sem] theorem zC:EO F.model_ValidSpace_1 []:=DE κ
@[go_sem] theorem WI:LJ F.model_ValidSpace_1:=He zC
@[go_sem] theorem vY:EP F.model_ValidSpace_1 true:=DF κ
@[go_sem] theorem aaZ:QE F.r05_Prec [] A8:=qe κ
@[go_sem] theorem UQ:QE F.r05_Inside [aG,aG] jC:=qe κ
theorem N4:cJ.C F.model_Valid_1=some xA:=by kernel_rfl
theorem N5:cJ.E F.model_Valid_1=none:=by kernel_rfl
@[go_sem] theorem Mk:EN F.model_Valid_1 [[.o 2 [],.o 0 [],.o 2 [],.o 0 []]]:=DD κ
@[go_sem] theorem ER:EO F.model_Valid_1 []:=DE κ
@[go_sem] theorem acT:LJ F.model_Valid_1:=He ER
@[go_sem] theorem Bz:EP F.model_Valid_1 true:=DF κ
@[go_sem] theorem aa0:QE F.round_Is [aF,[]] wK:=qe κ
@[go_sem] theorem bT:QE F.slices_IndexFunc_api_Model_api_Model_ [[.o 10 [.o 0 [],.o 5 [],.o 0 [],.o 2 [],.o 0 [],.o 0 [],.o 2 [],.o 0 [],.o 0 []]],[]] je:=qe κ
theorem N6:cJ.C F.model_every_1=some xB:=by kernel_rfl
theorem N7:cJ.E F.model_every_1=none:=by kernel_rfl
@[go_sem] theorem Ml:EN F.model_every_1 [[.o 0 [],.o 5 [.o 2 [],.o 0 [],.o 2 [],.o 0 []],.o 0 [],.o 2 [],.o 0 [],.o 0 [],.o 2 [],.o 0 [],.o 0 []]]:=DD κ
@[go_sem] theorem ES:EO F.model_every_1 []:=DE κ
@[go_sem] theorem acU:LJ F.model_every_1:=He ES
@[go_sem] theorem BA:EP F.model_every_1 true:=DF κ
@[go_sem] theorem SQ:QE F.round_AddUp [aF,aF,[]] An:=qe κ
@[go_sem] theorem N8:QE F.interval_made [aF,[],aF,[]] mU:=qe κ
@[go_sem] theorem zQ:QE F.slices_Clone_uint32_uint32_ [[.o 2 []]] jf:=qe κ
@[go_sem] theorem Mm:QE F.dyadic_compare [aF,aF] lJ:=qe κ
@[go_sem] theorem Mn:QE F.dyadic_inRange [aF] gG:=qe κ
theorem mH:cJ.C F.slices_BinarySearchFunc_api_Term_api_Term_Sint_=some dm:=by kernel_rfl
theorem mI:cJ.E F.slices_BinarySearchFunc_api_Term_api_Term_Sint_=none:=by kernel_rfl
@[go_sem] theorem fI:EN F.slices_BinarySearchFunc_api_Term_api_Term_Sint_ [[.o 5 [.o 2 [],.o 0 [],.o 2 [],.o 0 []]],[.o 2 []],[]]:=DD κ
@[go_sem] theorem fQ:EO F.slices_BinarySearchFunc_api_Term_api_Term_Sint_ [3,0,0]:=DE κ
@[go_sem] theorem ft:EP F.slices_BinarySearchFunc_api_Term_api_Term_Sint_ false:=DF κ
@[go_sem] theorem FG:QE F.poly_collector_add_1 [[.o 2 [],.o 0 [],.o 2 [],.o 0 []],[.o 2 []]] nM:=qe κ
@[go_sem] theorem UR:QE F.poly_order [[.o 2 []],[.o 2 []]] xe:=qe κ
@[go_sem] theorem kY:EN F.slices_Insert_api_Term_api_Term_ [[],[],[.o 5 [.o 2 [],.o 0 [],.o 2 [],.o 0 []]]]:=DD κ
@[go_sem] theorem lQ:EO F.slices_Insert_api_Term_api_Term_ [2,0,0]:=DE κ
@[go_sem] theorem kq:EP F.slices_Insert_api_Term_api_Term_ false:=DF κ
@[go_sem] theorem SR:QE F.poly_copied [aF] Ao:=qe κ
@[go_sem] theorem US:QE F.dyadic_Add [aF,aF] sy:=qe κ
theorem ww:cJ.C F.slices_Delete_api_Term_api_Term_=some aDU:=by kernel_rfl
theorem wx:cJ.E F.slices_Delete_api_Term_api_Term_=none:=by kernel_rfl
@[go_sem] theorem vH:EN F.slices_Delete_api_Term_api_Term_ []:=DD κ
@[go_sem] theorem wz:EO F.slices_Delete_api_Term_api_Term_ [2,0,0]:=DE κ
@[go_sem] theorem kr:EP F.slices_Delete_api_Term_api_Term_ false:=DF κ
@[go_sem] theorem SS:QE F.r23_Compare [[.o 2 []],[.o 2 []]] mD:=qe κ
@[go_sem] theorem Xt:QE F.model_cut [[.o 8 aG,.o 0 [],.o 0 []],[.o 0 [],.o 5 [.o 2 [],.o 0 [],.o 2 [],.o 0 []]]] yU:=qe κ
@[go_sem] theorem ji:QE F.slices_ContainsFunc_int_int_ [[.o 2 []],[]] nH:=qe κ
@[go_sem] theorem Ge:QE F.poly_Valid_1 [] tE:=qe κ
@[go_sem] theorem ST:QE F.dyadic_size [[.o 2 []]] Aq:=qe κ
@[go_sem] theorem SU:QE F.natural_Mul [[.o 2 []],[.o 2 []]] uZ:=qe κ
@[go_sem] theorem Mo:QE F.dyadic_checked [aF] pJ:=qe κ
@[go_sem] theorem Jj:QE F.dyadic_canonical [[],[.o 2 []],[]] nE:=qe κ
@[go_sem] theorem o7:QE F.round_MulDown [aF,aF,[]] xD:=qe κ
@[go_sem] theorem sI:QE F.round_MulUp [aF,aF,[]] Ar:=qe κ
@[go_sem] theorem aa1:QE F.r02_trim [[.o 2 []]] Fv:=qe κ
@[go_sem] theorem Xu:QE F.r02_zeros [[.o 2 []]] Do:=qe κ
@[go_sem] theorem Xv:QE F.r02_right [[.o 2 []],[]] yW:=qe κ
@[go_sem] theorem aa2:QE F.r02_bits [[.o 2 []]] A9:=qe κ
@[go_sem] theorem aB7:QE F.r02_times [[.o 2 []],[.o 2 []]] aBm:=qe κ
@[go_sem] theorem aa3:QE F.r23_term [[],[.o 2 [],.o 0 [],.o 2 [],.o 0 []]] px:=qe κ
@[go_sem] theorem aa4:QE F.r02_left [[.o 2 []],[]] Fx:=qe κ
@[go_sem] theorem aa5:QE F.r02_plus [[.o 2 []],[.o 2 []]] Fy:=qe κ
@[go_sem] theorem SV:QE F.r02_compare [[.o 2 []],[.o 2 []]] vf:=qe κ
@[go_sem] theorem Xw:QE F.r02_minus [[.o 2 []],[.o 2 []]] Dp:=qe κ
@[go_sem] theorem UU:QE F.round_Near [aF,[]] ge:=qe κ
@[go_sem] theorem UV:QE F.dyadic_Sub [aF,aF] sB:=qe κ
@[go_sem] theorem LK:QE F.round_add [aF,aF,[],[]] mV:=qe κ
@[go_sem] theorem K3:QE F.dyadic_exponent [] oQ:=qe κ
@[go_sem] theorem PD:QE F.bound_domain [[.o 0 [],.o 5 [.o 2 [],.o 0 [],.o 2 [],.o 0 []]],[.o 8 aG]] oR:=qe κ
@[go_sem] theorem N9:QE F.interval_more [aF,aF] rz:=qe κ
@[go_sem] theorem Oa:QE F.interval_less [aF,aF] rA:=qe κ
@[go_sem] theorem SW:QE F.bound_power [aG,[],[]] vj:=qe κ
@[go_sem] theorem PE:QE F.bound_Linear [[.o 0 [],.o 5 [.o 2 [],.o 0 [],.o 2 [],.o 0 []]]] oS:=qe κ
@[go_sem] theorem UW:QE F.bound_line [aF,aF,aG,[]] gg:=qe κ
@[go_sem] theorem AA:QE F.bound_gridOf [[.o 0 [],.o 5 [.o 2 [],.o 0 [],.o 2 [],.o 0 []]],[]] y6:=qe κ
@[go_sem] theorem gI:QE F.bound_grid_unit [[],[],aG] uq:=qe κ
@[go_sem] theorem ed:QE F.bound_grid_bernstein [] nN:=qe κ
@[go_sem] theorem Oc:QE F.interval_Hull [aG,aG] rB:=qe κ
@[go_sem] theorem acV:QE F.r23_sum [[.o 2 []]] Ha:=qe κ
@[go_sem] theorem aa6:QE F.r05_zero [aF] sR:=qe κ
@[go_sem] theorem aa7:QE F.r03_Prec [] Ba:=qe κ
@[go_sem] theorem aa8:QE F.r01_Bits [[.o 2 []]] LE:=qe κ
@[go_sem] theorem Xx:QE F.round_div [aF,aF,[],[]] qk:=qe κ
@[go_sem] theorem SX:QE F.round_fault [[],[.o 4 aF]] qp:=qe κ
@[go_sem] theorem SY:QE F.dyadic_Bits [aF] vo:=qe κ
@[go_sem] theorem UX:QE F.dyadic_Top [aF] sC:=qe κ
@[go_sem] theorem SZ:QE F.natural_Cmp [[.o 2 []],[.o 2 []]] qt:=qe κ
@[go_sem] theorem Mp:QE F.dyadic_shifted [[.o 2 []],[]] wm:=qe κ
@[go_sem] theorem Jk:QE F.cmp_Compare_int_ [] jO:=qe κ
@[go_sem] theorem CC:QE F.slices_Compare_int_int_ [[.o 2 []],[.o 2 []]] ij:=qe κ
@[go_sem] theorem UY:QE F.dyadic_sum [aF,aF] lz:=qe κ
@[go_sem] theorem eW:QE F.slices_IndexFunc_int_int_ [[.o 2 []],[]] qw:=qe κ
@[go_sem] theorem PF:QE F.natural_Bits [[.o 2 []]] tF:=qe κ
@[go_sem] theorem PG:QE F.natural_long [[.o 2 [.o 2 []]]] zi:=qe κ
@[go_sem] theorem PH:QE F.natural_done [[.o 2 []]] tG:=qe κ
@[go_sem] theorem S0:QE F.natural_mul [[.o 2 []],[.o 2 []]] Av:=qe κ
@[go_sem] theorem PI:QE F.natural_trim [[.o 2 []]] zj:=qe κ
@[go_sem] theorem Mq:QE F.dyadic_trimmed [[.o 2 []]] wn:=qe κ
@[go_sem] theorem UZ:QE F.dyadic_low [[.o 2 []]] B0:=qe κ
@[go_sem] theorem S1:QE F.natural_Shr [[.o 2 []],[]] qx:=qe κ
@[go_sem] theorem AB:QE F.slices_Clip_uint32_uint32_ [[.o 2 []]] jH:=qe κ
@[go_sem] theorem Xy:QE F.round_mul [aF,aF,[],[]] qz:=qe κ
@[go_sem] theorem U0:QE F.round_Down [aF,[]] B1:=qe κ
@[go_sem] theorem aa9:QE F.round_Up [aF,[]] FA:=qe κ
@[go_sem] theorem S2:QE F.round_round [aF,[],[]] vz:=qe κ
@[go_sem] theorem Xz:QE F.round_sum [aF,aF,[]] ur:=qe κ
@[go_sem] theorem PJ:QE F.round_signed [[],[.o 2 [],.o 0 [],.o 0 []],[],[]] oV:=qe κ
@[go_sem] theorem DH:QE F.bound_domain_1 [aG] pM:=qe κ
@[go_sem] theorem Mr:QE F.interval_Power [aG,[],[]] fC:=qe κ
@[go_sem] theorem El:QE F.slices_Index_int_int_ [[.o 2 []],[]] mY:=qe κ
@[go_sem] theorem qE:QE F.slices_Repeat_api_Interval_api_Interval_ [[.o 8 aG],[]] ez:=qe κ
theorem K4:cJ.C F.bound_grid_step=some uu:=by kernel_rfl
theorem K5:cJ.E F.bound_grid_step=none:=by kernel_rfl
@[go_sem] theorem acW:EN F.bound_grid_step []:=DD κ
@[go_sem] theorem lR:EO F.bound_grid_step []:=DE κ
@[go_sem] theorem aba:LJ F.bound_grid_step:=He lR
@[go_sem] theorem zD:EP F.bound_grid_step true:=DF κ
@[go_sem] theorem bv:QE F.bound_grid_lines [] nF:=qe κ
@[go_sem] theorem eB:QE F.bound_grid_unit_1 [] rD:=qe κ
theorem Ms:cJ.C F.bound_grid_add=some wo:=by kernel_rfl
theorem Mt:cJ.E F.bound_grid_add=none:=by kernel_rfl
@[go_sem] theorem K6:EN F.bound_grid_add [[],aG,aG]:=DD κ
@[go_sem] theorem xI:EO F.bound_grid_add []:=DE κ
@[go_sem] theorem ab2:LJ F.bound_grid_add:=He xI
@[go_sem] theorem zV:EP F.bound_grid_add true:=DF κ
theorem Mu:cJ.C F.bound_grid_mul=some wr:=by kernel_rfl
theorem Mv:cJ.E F.bound_grid_mul=none:=by kernel_rfl
@[go_sem] theorem K7:EN F.bound_grid_mul [[],aG,aG]:=DD κ
@[go_sem] theorem xJ:EO F.bound_grid_mul []:=DE κ
@[go_sem] theorem ab3:LJ F.bound_grid_mul:=He xJ
@[go_sem] theorem zW:EP F.bound_grid_mul true:=DF κ
@[go_sem] theorem cT:QE F.bound_grid_bernstein_1 [] l7:=qe κ
@[go_sem] theorem Mw:QE F.natural_DivMod [[.o 2 []],[.o 2 []]] ws:=qe κ
@[go_sem] theorem XA:QE F.round_shl [[.o 2 []],[]] Dw:=qe κ
@[go_sem] theorem Od:QE F.round_precise [] rF:=qe κ
@[go_sem] theorem S3:QE F.natural_Shl [[.o 2 []],[]] mE:=qe κ
@[go_sem] theorem My:QE F.cmp_isNaN_int_ [] wt:=qe κ
@[go_sem] theorem S4:QE F.natural_Add [[.o 2 []],[.o 2 []]] vB:=qe κ
@[go_sem] theorem S5:QE F.natural_Sub [[.o 2 []],[.o 2 []]] qC:=qe κ
@[go_sem] theorem U1:QE F.bits_Len32 [] nT:=qe κ
@[go_sem] theorem dC:QE F.slices_ContainsFunc_Suint32_Suint32_ [[.o 2 [.o 2 []]],[]] jE:=qe κ
@[go_sem] theorem DI:QE F.natural_long_1 [[.o 2 []]] wu:=qe κ
@[go_sem] theorem XB:QL F.bits_TrailingZeros32 []:=ql κ
@[go_sem] theorem S6:QE F.natural_shr [[.o 2 []],[]] vC:=qe κ
@[go_sem] theorem abb:QE F.round_of [aF] FC:=qe κ
@[go_sem] theorem XC:QE F.round_shr [[.o 2 []],[]] zo:=qe κ
@[go_sem] theorem XD:QE F.round_cut [[.o 2 [],.o 0 [],.o 0 []],[],[]] uz:=qe κ
@[go_sem] theorem PK:QE F.interval_Abs [aG] tI:=qe κ
@[go_sem] theorem Gf:QE F.interval_end [aF,[],[],[]] oW:=qe κ
@[go_sem] theorem abc:QE F.bits_Mul [] FF:=qe κ
@[go_sem] theorem DJ:QE F.natural_divide [[.o 2 []],[.o 2 []]] pO:=qe κ
@[go_sem] theorem S7:QE F.natural_shl [[.o 2 []],[]] Ax:=qe κ
@[go_sem] theorem S8:QE F.natural_add [[.o 2 []],[.o 2 []]] vE:=qe κ
@[go_sem] theorem S9:QE F.natural_sub [[.o 2 []],[.o 2 []]] Ay:=qe κ
@[go_sem] theorem cZ:QE F.slices_IndexFunc_Suint32_Suint32_ [[.o 2 [.o 2 []]],[]] kL:=qe κ
@[go_sem] theorem Ta:QE F.dyadic_Make [[],[.o 2 []],[]] mF:=qe κ
@[go_sem] theorem PL:QE F.interval_Mig [aG] tJ:=qe κ
@[go_sem] theorem PM:QE F.interval_Mag [aG] zp:=qe κ
@[go_sem] theorem DK:QE F.interval_power [aF,[],[],[],[]] pP:=qe κ
@[go_sem] theorem ak1:QL F.bits_Mul32 []:=ql κ
@[go_sem] theorem U2:QE F.bits_Mul64 [] B6:=qe κ
@[go_sem] theorem Oe:QE F.natural_short [[.o 2 []],[]] xG:=qe κ
@[go_sem] theorem Gg:QE F.bits_LeadingZeros32 [] py:=qe κ
@[go_sem] theorem Of:QE F.natural_guess [] rH:=qe κ
theorem PN:cJ.C F.natural_take=some zz:=by kernel_rfl
theorem PO:cJ.E F.natural_take=none:=by kernel_rfl
@[go_sem] theorem Og:EN F.natural_take [[.o 2 []],[.o 2 []],[]]:=DD κ
@[go_sem] theorem PP:EO F.natural_take [1,0,0]:=DE κ
@[go_sem] theorem Cn:EP F.natural_take false:=DF κ
@[go_sem] theorem U3:QE F.bits_Add32 [] B7:=qe κ
@[go_sem] theorem U4:QE F.bits_Sub32 [] B8:=qe κ
@[go_sem] theorem U5:QE F.dyadic_Abs [aF] sG:=qe κ
@[go_sem] theorem U6:QE F.bits_Div32 [] B9:=qe κ
@[go_sem] theorem Oh:QE F.natural_digit [] xH:=qe κ
attribute [go_sem_proc ↓] reduceIte
attribute [go_sem_proc] Nat.reduceEqDiff awJ awI awK awL awM
end Go.Ab
