/-
  A law of tapes on models holds at every input that the statement speaks of, under the conditions that its card names. Part C1.
-/
import Derived.Test.YtighajjmobfadaaGreatDoorProg
import Derived.KernelRfl
import Derived.Test.YtighajjmobfadaaGreatDoorB1
open Nat renaming add_zero → azA, le_refl → ayZ, lt_of_le_of_lt → azt, mul_assoc → azq, mul_comm → azl, pow_add → azc, pow_succ → azO, two_pow_pos → aze, zero_add → ayX
open List renaming cons_append → azM, length_cons → azp, replicate → ayW
set_option linter.all false
namespace Go.Ab
open Go
open Go.Proofs
set_option maxRecDepth 100000
set_option maxHeartbeats 4000000
abbrev F.l27_ModelevalExact:FuncId:=5
abbrev F.model_Valid:FuncId:=8
abbrev F.model_Mul:FuncId:=10
abbrev F.modelfun_Divide:FuncId:=12
abbrev F.interval_Has:FuncId:=13
abbrev F.modelfun_Power:FuncId:=19
abbrev F.r02_Valid:FuncId:=20
abbrev F.l27_awake:FuncId:=21
abbrev F.l27_num:FuncId:=22
abbrev F.model_Var:FuncId:=23
abbrev F.l27_ModelevalExact_1:FuncId:=24
abbrev F.r23_Collect:FuncId:=25
abbrev F.modeleval_Run:FuncId:=26
abbrev F.r23_Same:FuncId:=27
abbrev F.l27_one:FuncId:=28
abbrev F.modelfun_Exp:FuncId:=30
abbrev F.slices_ContainsFunc_api_Interval_api_Interval_:FuncId:=34
abbrev F.slices_ContainsFunc_api_Model_api_Model_:FuncId:=36
abbrev F.slices_ContainsFunc_api_Term_api_Term_:FuncId:=38
abbrev F.model_ValidSpace:FuncId:=40
abbrev F.poly_Valid:FuncId:=41
abbrev F.poly_Degree:FuncId:=42
abbrev F.interval_Valid:FuncId:=43
abbrev F.model_Valid_1:FuncId:=44
abbrev F.round_Is:FuncId:=45
abbrev F.interval_Mid:FuncId:=47
abbrev F.model_every:FuncId:=48
abbrev F.model_none:FuncId:=49
abbrev F.poly_Mul:FuncId:=50
abbrev F.model_ranged:FuncId:=51
abbrev F.model_made:FuncId:=52
abbrev F.model_sum:FuncId:=53
abbrev F.interval_Mul:FuncId:=54
abbrev F.interval_Sign:FuncId:=56
abbrev F.modelfun_whole:FuncId:=57
abbrev F.interval_Div:FuncId:=60
abbrev F.interval_Neg:FuncId:=63
abbrev F.dyadic_Valid:FuncId:=64
abbrev F.dyadic_Cmp:FuncId:=65
abbrev F.r02_Of:FuncId:=67
abbrev F.r02_Add:FuncId:=69
abbrev F.r02_bits:FuncId:=70
abbrev F.model_Const:FuncId:=72
abbrev F.l27_square:FuncId:=73
abbrev F.poly_Var:FuncId:=74
abbrev F.model_whole:FuncId:=75
abbrev F.r23_Compare:FuncId:=76
abbrev F.modeleval_valid:FuncId:=77
abbrev F.slices_Clone_api_Model_api_Model_:FuncId:=78
abbrev F.ratio_Enclose:FuncId:=79
abbrev F.modelfun_Apply:FuncId:=80
abbrev F.r23_number:FuncId:=81
abbrev F.l27_number:FuncId:=82
abbrev F.interval_Inside:FuncId:=88
abbrev F.interval_Whole:FuncId:=89
abbrev F.interval_Add:FuncId:=90
abbrev F.slices_IndexFunc_api_Interval_api_Interval_:FuncId:=95
abbrev F.slices_IndexFunc_api_Model_api_Model_:FuncId:=96
abbrev F.slices_IndexFunc_api_Term_api_Term_:FuncId:=97
abbrev F.dyadic_Int:FuncId:=98
abbrev F.model_ValidSpace_1:FuncId:=99
abbrev F.slices_ContainsFunc_int_int_:FuncId:=100
abbrev F.poly_Valid_1:FuncId:=101
abbrev F.poly_degree:FuncId:=102
abbrev F.poly_order:FuncId:=103
abbrev F.interval_Valid_1:FuncId:=104
abbrev F.round_fault:FuncId:=105
abbrev F.dyadic_Bits:FuncId:=106
abbrev F.interval_known:FuncId:=107
abbrev F.interval_permitted:FuncId:=108
abbrev F.round_AddDown:FuncId:=109
abbrev F.dyadic_Scale:FuncId:=110
abbrev F.model_every_1:FuncId:=111
abbrev F.poly_pair:FuncId:=112
abbrev F.poly_empty:FuncId:=113
abbrev F.dyadic_Mul:FuncId:=114
abbrev F.slices_Clone_int_int_:FuncId:=115
abbrev F.poly_collector_add:FuncId:=116
abbrev F.poly_collector_done:FuncId:=117
abbrev F.bound_Best:FuncId:=118
abbrev F.model_cut:FuncId:=119
abbrev F.interval_four:FuncId:=120
abbrev F.round_MulDown:FuncId:=121
abbrev F.round_MulUp:FuncId:=122
abbrev F.dyadic_Sign:FuncId:=123
abbrev F.interval_Point:FuncId:=124
abbrev F.model_Sub:FuncId:=125
abbrev F.model_Add:FuncId:=126
abbrev F.interval_Sub:FuncId:=127
abbrev F.round_DivDown:FuncId:=130
abbrev F.round_DivUp:FuncId:=131
abbrev F.interval_Power:FuncId:=132
abbrev F.dyadic_Neg:FuncId:=133
abbrev F.dyadic_inRange:FuncId:=134
abbrev F.dyadic_compare:FuncId:=135
abbrev F.r02_trim:FuncId:=136
abbrev F.r02_zeros:FuncId:=137
abbrev F.r02_right:FuncId:=138
abbrev F.r02_Checked:FuncId:=141
abbrev F.r02_Sum:FuncId:=142
abbrev F.poly_Const:FuncId:=143
abbrev F.r23_sum:FuncId:=144
abbrev F.tape_Valid:FuncId:=145
abbrev F.ratio_Valid:FuncId:=146
abbrev F.model_Neg:FuncId:=147
abbrev F.modelfun_Log:FuncId:=148
abbrev F.modelfun_Sin:FuncId:=149
abbrev F.modelfun_Cos:FuncId:=150
abbrev F.modelfun_Sqrt:FuncId:=151
abbrev F.slices_Equal_uint32_uint32_:FuncId:=152
abbrev F.round_AddUp:FuncId:=158
abbrev F.interval_made:FuncId:=159
abbrev F.dyadic_canonical:FuncId:=162
abbrev F.slices_IndexFunc_int_int_:FuncId:=163
abbrev F.cmp_Compare_int_:FuncId:=164
abbrev F.slices_Compare_int_int_:FuncId:=165
abbrev F.round_precise:FuncId:=166
abbrev F.dyadic_size:FuncId:=167
abbrev F.round_add:FuncId:=168
abbrev F.dyadic_exponent:FuncId:=169
abbrev F.dyadic_checked:FuncId:=170
abbrev F.natural_Mul:FuncId:=171
abbrev F.slices_BinarySearchFunc_api_Term_api_Term_Sint_:FuncId:=172
abbrev F.poly_collector_add_1:FuncId:=173
abbrev F.slices_Insert_api_Term_api_Term_:FuncId:=174
abbrev F.poly_copied:FuncId:=175
abbrev F.dyadic_Add:FuncId:=176
abbrev F.slices_Delete_api_Term_api_Term_:FuncId:=177
abbrev F.bound_fits:FuncId:=178
abbrev F.bound_whole:FuncId:=179
abbrev F.interval_Meet:FuncId:=180
abbrev F.bound_Naive:FuncId:=181
abbrev F.bound_Bernstein:FuncId:=182
abbrev F.poly_Split:FuncId:=183
abbrev F.poly_Round:FuncId:=184
abbrev F.round_mul:FuncId:=185
abbrev F.poly_Sub:FuncId:=186
abbrev F.poly_Add:FuncId:=187
abbrev F.round_div:FuncId:=189
abbrev F.interval_Abs:FuncId:=190
abbrev F.interval_end:FuncId:=191
abbrev F.slices_Clone_uint32_uint32_:FuncId:=192
abbrev F.dyadic_Top:FuncId:=193
abbrev F.natural_Cmp:FuncId:=194
abbrev F.dyadic_shifted:FuncId:=195
abbrev F.r02_left:FuncId:=198
abbrev F.r02_plus:FuncId:=199
abbrev F.r02_compare:FuncId:=200
abbrev F.r02_minus:FuncId:=201
abbrev F.tape_proper:FuncId:=202
abbrev F.tape_Valid_1:FuncId:=203
abbrev F.ratio_gcd:FuncId:=204
abbrev F.ratio_size:FuncId:=205
abbrev F.dyadic_Abs:FuncId:=215
abbrev F.dyadic_trimmed:FuncId:=222
abbrev F.dyadic_low:FuncId:=223
abbrev F.natural_Shr:FuncId:=224
abbrev F.slices_Clip_uint32_uint32_:FuncId:=225
abbrev F.cmp_isNaN_int_:FuncId:=226
abbrev F.natural_Bits:FuncId:=227
abbrev F.round_round:FuncId:=228
abbrev F.round_sum:FuncId:=229
abbrev F.round_signed:FuncId:=230
abbrev F.natural_long:FuncId:=231
abbrev F.natural_done:FuncId:=232
abbrev F.natural_mul:FuncId:=233
abbrev F.natural_trim:FuncId:=234
abbrev F.slices_overlaps_api_Term_:FuncId:=235
abbrev F.slices_rotateRight_api_Term_:FuncId:=236
abbrev F.dyadic_sum:FuncId:=237
abbrev F.bound_domain:FuncId:=238
abbrev F.interval_more:FuncId:=239
abbrev F.interval_less:FuncId:=240
abbrev F.bound_power:FuncId:=241
abbrev F.bound_Linear:FuncId:=242
abbrev F.bound_line:FuncId:=243
abbrev F.bound_gridOf:FuncId:=244
abbrev F.bound_grid_unit:FuncId:=245
abbrev F.bound_grid_bernstein:FuncId:=246
abbrev F.interval_Hull:FuncId:=247
abbrev F.round_Near:FuncId:=248
abbrev F.dyadic_Sub:FuncId:=249
abbrev F.slices_Concat_api_Term_api_Term_:FuncId:=250
abbrev F.natural_DivMod:FuncId:=251
abbrev F.round_shl:FuncId:=252
abbrev F.interval_Mig:FuncId:=253
abbrev F.interval_Mag:FuncId:=254
abbrev F.interval_power:FuncId:=255
abbrev F.round_Up:FuncId:=256
abbrev F.round_Down:FuncId:=257
abbrev F.natural_Shl:FuncId:=258
abbrev F.tape_operands:FuncId:=259
abbrev F.bits_TrailingZeros32:FuncId:=268
abbrev F.natural_shr:FuncId:=269
abbrev F.bits_Len32:FuncId:=270
abbrev F.round_of:FuncId:=271
abbrev F.round_shr:FuncId:=272
abbrev F.natural_Add:FuncId:=273
abbrev F.natural_Sub:FuncId:=274
abbrev F.round_cut:FuncId:=275
abbrev F.slices_ContainsFunc_Suint32_Suint32_:FuncId:=276
abbrev F.natural_long_1:FuncId:=277
abbrev F.bound_domain_1:FuncId:=279
abbrev F.slices_Index_int_int_:FuncId:=280
abbrev F.slices_Repeat_api_Interval_api_Interval_:FuncId:=281
abbrev F.bound_grid_step:FuncId:=282
abbrev F.bound_grid_lines:FuncId:=283
abbrev F.bound_grid_unit_1:FuncId:=284
abbrev F.bound_grid_add:FuncId:=285
abbrev F.bound_grid_mul:FuncId:=286
abbrev F.bound_grid_bernstein_1:FuncId:=287
abbrev F.slices_Grow_api_Term_api_Term_:FuncId:=288
abbrev F.natural_divide:FuncId:=289
abbrev F.natural_shl:FuncId:=290
abbrev F.natural_add:FuncId:=300
abbrev F.natural_sub:FuncId:=301
abbrev F.dyadic_Make:FuncId:=302
abbrev F.slices_IndexFunc_Suint32_Suint32_:FuncId:=303
abbrev F.bits_Mul:FuncId:=305
abbrev F.natural_short:FuncId:=306
abbrev F.bits_LeadingZeros32:FuncId:=307
abbrev F.natural_guess:FuncId:=308
abbrev F.natural_take:FuncId:=309
abbrev F.bits_Add32:FuncId:=310
abbrev F.bits_Sub32:FuncId:=316
abbrev F.bits_Mul32:FuncId:=317
abbrev F.bits_Mul64:FuncId:=318
abbrev F.bits_Div32:FuncId:=319
abbrev F.natural_digit:FuncId:=320
def aH:List Sh:=[.o 0 [],.o 2 [],.o 0 []]
@[go_sem] theorem ayL:aH=[.o 0 [],.o 2 [],.o 0 []]:=θ _
def aL:List Sh:=[.o 0 [],.o 2 [],.o 0 [],.o 0 [],.o 2 [],.o 0 [],.o 0 []]
@[go_sem] theorem ayM:aL=[.o 0 [],.o 2 [],.o 0 [],.o 0 [],.o 2 [],.o 0 [],.o 0 []]:=θ _
noncomputable section
def g0(f:Func)(l:dm):Cmd:=gK Tryz.prog [] f l 0 []
def g1(H:List (Nat×Nat))(f:Func)(l:dm)(k:Nat)(L:List Cmd):Cmd:=gK Tryz.prog H f l k L
def eW:dm:=[[0,1,2],[0,1,2,26],[6],[2,7,8],[2,7,8,37],[6],[2,7,8,9],[2,7,8,9,10],[2,7,8,9,10,40,41],[2,7,8,9,10],[2,7,8,9,10,40,41],[7,9,49,61],[2,7,8,9,10,40,41,42],[2,7,8,9,10,40,41],[2,7,8,9,10,40,41],[1000006,0,1,2,1,3,1,5],[2,7,8,9,10,40,41],[2,7,8,9,10,52,53],[2,7,8,9,10],[2,7,8,9,10,52,53],[7,9,49,61],[2,7,8,9,10,52,53,54],[2,7,8,9,10,52,53],[2,7,8,9,10,11,52,53],[2,7,8,9,10,52,53],[2,7,8,9,10,52,53],[2,7,8,9,10,12],[2,7,8,9,10,12,13],[2,7,8,9,10,12,13,14],[2,7,8,9,10,12,13,14,15],[7,8,9,10,12,13,14,15,72,73,74],[9,10,12,14,15],[7,8,9,10,12,13,14,15,72,73,74],[7,9,12,14,49,61,150],[7,8,9,10,12,13,14,15,72,73,74,75],[7,8,9,10,12,13,14,15,72,73,74],[7,8,9,10,12,13,14,15,17,72,73,74],[7,8,9,10,12,13,14,15,17,18,72,73,74],[7,8,9,10,12,13,14,15,17,18,19,72,73,74],[7,8,9,10,12,13,14,15,17,18,19,72,73,74,80,81],[7,8,9,10,12,13,14,15,17,18,19,72,73,74],[7,8,9,10,12,13,14,15,17,18,19,72,73,74,80,81],[7,9,12,14,17,49,61,79,150],[7,8,9,10,12,13,14,15,17,18,19,72,73,74,80,81,82],[7,8,9,10,12,13,14,15,17,18,19,72,73,74,80,81],[7,8,9,10,12,13,14,15,17,18,19,20,72,73,74,80,81],[7,8,9,10,12,13,14,15,17,18,19,20,72,73,74,80,81],[7,8,9,10,12,13,14,15,17,18,19,72,73,74,80,81],[7,8,9,10,12,13,14,15,17,18,19,72,73,74,80,81],[7,8,9,10,12,13,14,15,17,18,72,73,74,102],[7,8,9,10,12,13,14,15,17,18,21,72,73,74],[7,8,9,10,12,13,14,15,17,18,21,72,73,74,110,111,112],[7,8,9,10,12,13,14,15,17,18,21,72,73,74],[7,8,9,10,12,13,14,15,17,18,21,72,73,74,110,111,112],[7,9,12,14,17,49,61,79,150],[7,8,9,10,12,13,14,15,17,18,21,72,73,74,110,111,112,113],[7,8,9,10,12,13,14,15,17,18,21,72,73,74,110,111,112],[7,8,9,10,12,13,14,15,17,18,21,22,23,72,73,74,110,111,112],[7,8,9,10,12,13,14,15,17,18,21,22,72,73,74,110,111,112,117,118],[7,8,9,10,12,13,14,15,17,18,21,72,73,74,110,111,112],[7,8,9,10,12,13,14,15,17,18,21,22,72,73,74,110,111,112,117,118],[7,9,12,14,17,49,61,79,150],[7,8,9,10,12,13,14,15,17,18,21,22,72,73,74,110,111,112,117,118,119],[7,8,9,10,12,13,14,15,17,18,21,22,72,73,74,110,111,112,117,118],[7,8,9,10,12,13,14,15,17,18,21,22,72,73,74,110,111,112,117,118],[7,8,9,10,12,13,14,15,17,18,21,22,72,73,74,110,111,112,117,118],[7,8,9,10,12,13,14,15,17,18,21,72,73,74,110,111,112],[7,8,9,10,12,13,14,15,17,18,72,73,74],[7,8,9,10,12,13,14,15,17,18,72,73,74,134],[7,8,9,10,12,13,14,15,72,73,74],[1,6],[7,8,9,10,12,13,14,15,72,73,74],[9,10,12,14],[14,24],[6],[]]
def ft:Cmd:=ao (g1 [] Tryz.f5 eW 1 [])
@[go_sem] def FW(a:Cmd):Cmd:=ao (g1 [] Tryz.f5 eW 2 [a])
def gZ:Cmd:=FW ft
def hF:Cmd:=ao (g1 [] Tryz.f5 eW 3 [])
@[go_sem] def FX(a b c:Cmd):Cmd:=ao (g1 [] Tryz.f5 eW 4 [a,b,c])
def kC:Cmd:=FX ft gZ hF
def kD:Cmd:=ao (g1 [] Tryz.f5 eW 5 [])
def hH:Cmd:=ao (g1 [] Tryz.f5 eW 6 [])
@[go_sem] def IL(a b c d e f:Cmd):Cmd:=ao (g1 [] Tryz.f5 eW 0 [a,b,c,d,e,f])
def sE:Cmd:=IL ft gZ hF kC kD hH
def lQ:FD:=⟨3,[[]],[.t 6],sE⟩
def mf:Cmd:=ao (g0 Tryz.f8 [[2,3],[2,3,36],[21,23],[4],[4]])
def jl:FD:=⟨2,[[]],[.t 4],mf⟩
def G4:Cmd:=ao (g1 [(62,0)] Tryz.f10 [[3,4,5,6],[3,4,5,6,17],[6],[3,4,5,6,7],[3,4,5,6,7,8,9],[3,4,5,6,7,8,9,10,11],[5,7,5,9,1,12,3,12,5,12,7,12,9,12,11,12,1,13,3,13,5,13,7,13,9,13,11,13,12,13],[6],[0,8,1,8,8,9,8,11,0,13,1,13,8,15,13,15,8,17,13,17,0,19,1,19,0,20,1,20,0,21,1,21]] 0 [])
def Ag:FD:=⟨3,[[.o 0 [],.o 5 [.o 2 [],.o 0 [],.o 2 [],.o 0 []],.o 0 [],.o 2 [],.o 0 [],.o 0 [],.o 2 [],.o 0 [],.o 0 []]],[.cell 6 9 true],G4⟩
def nv:Cmd:=ao (g0 Tryz.f13 [[2,3],[2,3,12],[4],[4]])
def jN:FD:=⟨2,[[]],[.t 4],nv⟩
def jF:Cmd:=ao (g0 Tryz.f20 [[1],[1,7],[2],[1,48],[2],[1,3],[2]])
def gD:FD:=⟨1,[[]],[.t 2],jF⟩
def Y7:Cmd:=ao (g1 [(17,0)] Tryz.f21 [[],[1],[1,2],[7777777,1,2],[3],[0,3,1,3,3,4,0,5,1,5,0,6,1,6],[3,4],[7777777,3,4],[0],[]] 0 [])
def V9:FD:=⟨0,[[]],[.t 0],Y7⟩
def Ph:dm:=[[0,2],[0,2,3],[0,2,3],[0,2,3,12],[2],[0,2,3],[0,2,3],[2,3,25],[0,2,3,16],[0,2,3],[0,2,3],[],[2,3],[2]]
def Ah:Cmd:=ao (g1 [] Tryz.f22 Ph 1 [])
@[go_sem] def aef(a:Cmd):Cmd:=ao (g1 [] Tryz.f22 Ph 0 [a])
def KB:Cmd:=aef Ah
def DS:FD:=⟨1,[aH],[.cell 2 3 true],KB⟩
def xT:Cmd:=ao (g0 Tryz.f23 [[1,2,4],[2,4,5,6],[2,4,5,21],[4],[4],[0,1]])
def rk:FD:=⟨2,[[.o 0 [],.o 5 [.o 2 [],.o 0 [],.o 2 [],.o 0 []],.o 0 [],.o 2 [],.o 0 [],.o 0 [],.o 2 [],.o 0 [],.o 0 []]],[.cell 4 9 true],xT⟩
def qC:Cmd:=ao (g0 Tryz.f24 [[1,2,3],[1,2],[4]])
def kE:FD:=⟨3,[[]],[.t 4],qC⟩
def Hw:dm:=[[0,3],[0,3,6],[0,3,6],[0,3,6],[3],[0,3,6,24],[],[0,3,6],[0,3,6],[0,3,6,7],[0,3,6,7,46],[],[0,3,6,7,8,9],[4,11,6,11,7,11],[0,3,6,7,8,59],[4,5],[0,3,6,7,8,63],[0,6,7],[4,5],[0,6,7],[4,5]]
def nS:Cmd:=ao (g1 [] Tryz.f25 Hw 1 [])
@[go_sem] def TZ(a:Cmd):Cmd:=ao (g1 [] Tryz.f25 Hw 0 [a])
def JA:Cmd:=TZ nS
def Bw:FD:=⟨2,[[.o 5 [.o 2 [],.o 0 [],.o 2 [],.o 0 []]],[]],[.t 4,.t 5],JA⟩
def yD:dm:=[[2,3,4],[2,3,4,17],[6],[3,4,7],[3,4,7,21,22,23],[4,7],[3,4,7,21,22,23],[3,4,47,59,83,2152],[3,4,7,21,22,23,24],[3,4,7,21,22,23],[3,4,7,9,21,22,23],[3,4,7,9,21,22,23,28],[3,4,7,21,22,23],[3,4,7,9,21,22,23,28,48],[3,4,7,21,22,23],[1000009,0,1,6],[3,4,7,9,21,22,23,28,60],[3,4,7,9,21,22,23,28,60],[3,4,7,9,21,22,23,28,60],[3,4,7,9,21,22,23,60],[3,4,7,21,22,23],[1000018,0],[3,4,7,21,22,23],[1000018,0],[3,4,7,21,22,23],[4,7,10],[7,10,86,87,88],[10],[7,10,86,87,88],[4,47,59,83,98,2152],[7,10,86,87,88,89],[7,10,86,87,88],[7,10,12,86,87,88],[7,10,86,87,88],[7,10,86,87,88],[6]]
def pO:Cmd:=ao (g1 [(46,0),(58,0),(82,0)] Tryz.f26 yD 1 [])
def jn:Cmd:=ao (g1 [(46,0),(58,0),(82,0)] Tryz.f26 yD 2 [])
@[go_sem] def Pi(a b:Cmd):Cmd:=ao (g1 [(46,0),(58,0),(82,0)] Tryz.f26 yD 0 [a,b])
def Gc:Cmd:=Pi pO jn
def yE:FD:=⟨3,[[.o 10 [.o 0 [],.o 5 [],.o 0 [],.o 2 [],.o 0 [],.o 0 [],.o 2 [],.o 0 [],.o 0 []]]],[.t 6],Gc⟩
def M4:dm:=[[2,3],[2,3,21],[4],[2,3,5],[],[2,3,5],[2,3],[2,3,5,26],[2,3,5],[2,3,5,6,7],[1,10,4,10,6,10,9,10,1,11,4,11,6,11,9,11,10,11,6,12,9,12],[2,3,5,61],[4],[2,3,5],[4]]
def mh:Cmd:=ao (g1 [] Tryz.f27 M4 1 [])
@[go_sem] def acn(a:Cmd):Cmd:=ao (g1 [] Tryz.f27 M4 0 [a])
def DT:Cmd:=acn mh
def xU:FD:=⟨2,[[]],[.t 4],DT⟩
def Ti:Cmd:=ao (g0 Tryz.f28 [[2,3],[4]])
def IM:FD:=⟨2,[[]],[.t 4],Ti⟩
def nT:Cmd:=ao (g0 Tryz.f34 [[0,1],[4]])
def gp:FD:=⟨2,[[]],[.t 4],nT⟩
def rm:Cmd:=ao (g0 Tryz.f36 [[0,1],[4]])
def i9:FD:=⟨2,[[]],[.t 4],rm⟩
def sF:Cmd:=ao (g0 Tryz.f38 [[0,1],[4]])
def jE:FD:=⟨2,[[]],[.t 4],sF⟩
def fj:Cmd:=ao (g0 Tryz.f40 [[1],[1,3],[1,3,36],[2],[2]])
def dM:FD:=⟨1,[[]],[.t 2],fj⟩
def JB:dm:=[[1],[1,18],[2],[1,20,21,22],[],[1,20,21,22],[1],[1,20,21,22,23],[1,20,21,22],[1,3,4,20,21,22],[1,3,4,20,21,22,45],[2],[1,3,4,20,21,22,54],[2],[1,20,21,22,69],[],[2],[1,20,21,22],[2]]
def ey:Cmd:=ao (g1 [] Tryz.f41 JB 1 [])
@[go_sem] def Wa(a:Cmd):Cmd:=ao (g1 [] Tryz.f41 JB 0 [a])
def rn:Cmd:=Wa ey
def mj:FD:=⟨1,[[]],[.t 2],rn⟩
def yk:Cmd:=ao (g0 Tryz.f42 [[1],[1,11],[2],[2]])
def rp:FD:=⟨1,[[]],[.t 2],yk⟩
def kR:Cmd:=ao (g0 Tryz.f43 [[1],[1,5],[1,3],[2],[2]])
def ip:FD:=⟨1,[[]],[.t 2],kR⟩
def Ge:Cmd:=ao (g0 Tryz.f44 [[1,2],[3]])
def yF:FD:=⟨2,[[]],[.t 3],Ge⟩
def DU:Cmd:=ao (g0 Tryz.f45 [[1,2],[4]])
def xV:FD:=⟨2,[[]],[.t 4],DU⟩
def kS:Cmd:=ao (g0 Tryz.f47 [[1,2,4],[1,2,4,16],[4],[2,4,5,6],[2,4,5,28],[4],[2,4,6,7],[2,4,7,43],[4],[4]])
def iG:FD:=⟨2,[aH],[.cell 4 3 true],kS⟩
def Dd:Cmd:=ao (g0 Tryz.f48 [[1,2],[4]])
def wx:FD:=⟨2,[[]],[.t 4],Dd⟩
def KC:Cmd:=ao (g0 Tryz.f49 [[1,2],[2],[1,4]])
def De:FD:=⟨1,[[.o 0 [],.o 5 [.o 2 [],.o 0 [],.o 2 [],.o 0 []],.o 0 [],.o 2 [],.o 0 [],.o 0 [],.o 2 [],.o 0 [],.o 0 []]],[.cell 2 9 true],KC⟩
def Cy:dm:=[[2,3,4],[2,3,4],[2,3,4,16],[4,5],[2,3,4,22],[12,13],[4,5],[2,3,4,6],[3,4,6,46,47,48],[4,6],[3,4,6,46,47,48],[2,3,4,2352],[3,4,6,46,47,48,49],[3,4,6,46,47,48],[3,4,6,8,46,47,48],[3,4,6,8,46,47,48,53,54,55],[3,4,6,46,47,48],[3,4,6,8,46,47,48,53,54,55],[2,3,4,8,2352],[3,4,6,8,46,47,48,53,54,55,56],[3,4,6,8,46,47,48,53,54,55],[3,4,6,8,10,46,47,48,53,54,55],[3,4,6,8,10,11,12,46,47,48,53,54,55],[3,4,6,8,10,11,46,47,48,53,54,55,68],[4,5],[3,4,6,8,10,11,13,46,47,48,53,54,55],[3,4,6,8,11,13,46,47,48,53,54,55,74,75,76],[3,4,6,8,11,13,46,47,48,53,54,55],[3,4,6,8,11,13,46,47,48,53,54,55,74,75,76],[2,3,4,8,10,11,2352,2576],[3,4,6,8,11,13,46,47,48,53,54,55,74,75,76,77],[3,4,6,8,11,13,46,47,48,53,54,55,74,75,76],[3,4,6,8,11,13,14,15,46,47,48,53,54,55,74,75,76],[3,4,6,8,11,13,46,47,48,53,54,55,74,75,76],[3,4,6,8,11,13,46,47,48,53,54,55,74,75,76],[3,4,6,8,46,47,48,53,54,55],[3,4,6,8,46,47,48,53,54,55],[3,4,6,46,47,48],[4,5]]
def kg:Cmd:=ao (g1 [] Tryz.f50 Cy 1 [])
@[go_sem] def T0(a:Cmd):Cmd:=ao (g1 [] Tryz.f50 Cy 2 [a])
def kh:Cmd:=T0 kg
@[go_sem] def T1(a b:Cmd):Cmd:=ao (g1 [] Tryz.f50 Cy 3 [a,b])
def tu:Cmd:=T1 kg kh
@[go_sem] def aco(a b c:Cmd):Cmd:=ao (g1 [] Tryz.f50 Cy 0 [a,b,c])
def wz:Cmd:=aco kg kh tu
def qD:FD:=⟨2,[[.o 0 [],.o 5 [.o 2 [],.o 0 [],.o 2 [],.o 0 []]],[]],[.cell 4 2 true,.t 5],wz⟩
def Bz:Cmd:=ao (g0 Tryz.f51 [[1,2,3,6],[1,2,3,6,10],[6],[6]])
def uK:FD:=⟨3,[aL],[.cell 6 7 true],Bz⟩
def Ai:Cmd:=ao (g0 Tryz.f52 [[2,4,5,7,8],[4,5,7,8,13],[8],[4,7,8,9,10,11],[4,7,8,9,10,24],[8],[8],[0,5]])
def tv:FD:=⟨4,[[.o 0 [],.o 5 [.o 2 [],.o 0 [],.o 2 [],.o 0 []],.o 0 [],.o 2 [],.o 0 [],.o 0 [],.o 2 [],.o 0 [],.o 0 []]],[.cell 8 9 true],Ai⟩
def KD:dm:=[[0,2,4,6],[0,4,6,9,10,11],[4,6],[0,4,6,9,10,11],[4,6],[0,4,6,9,10,11,12],[0,4,6,9,10,11],[0,4,6,8,9,10,11],[0,4,6,9,10,11],[0,4,6,9,10,11],[6]]
def nC:Cmd:=ao (g1 [] Tryz.f53 KD 1 [])
@[go_sem] def Y8(a:Cmd):Cmd:=ao (g1 [] Tryz.f53 KD 0 [a])
def M5:Cmd:=Y8 nC
def EK:FD:=⟨3,[aL],[.cell 6 7 true],M5⟩
def wA:Cmd:=ao (g0 Tryz.f54 [[2,3,4,6],[2,3,4,6,16],[6],[6]])
def pP:FD:=⟨3,[aL],[.cell 6 7 true],wA⟩
def uL:Cmd:=ao (g0 Tryz.f56 [[1],[],[1,3],[2],[1,8],[2],[13],[2],[2]])
def nU:FD:=⟨1,[[]],[.t 2],uL⟩
def ru:Cmd:=ao (g0 Tryz.f60 [[2,3,4,6],[2,3,4,6,21],[6],[6]])
def lR:FD:=⟨3,[aL],[.cell 6 7 true],ru⟩
def BA:Cmd:=ao (g0 Tryz.f63 [[1,2],[1,2,6],[2],[2],[2,4]])
def uM:FD:=⟨1,[aL],[.cell 2 7 true],BA⟩
def kT:Cmd:=ao (g0 Tryz.f64 [[1],[1,6],[2],[2]])
def iH:FD:=⟨1,[[]],[.t 2],kT⟩
def nV:Cmd:=ao (g0 Tryz.f65 [[2,3],[2,3,14],[4],[2,3,5,6],[1,2],[2,3,5],[2,3,5,6,19],[4],[2,3,5,23],[4],[2,3,5,27],[4],[4]])
def kj:FD:=⟨2,[[]],[.t 4],nV⟩
def NB:Cmd:=ao (g0 Tryz.f67 [[0,1,2,6],[0,1,2,6],[0,1,2,6,12],[6],[0,1,2,6,7],[6]])
def Gf:FD:=⟨3,[aH],[.cell 6 3 true],NB⟩
def Gg:Cmd:=ao (g0 Tryz.f69 [[2,3,4],[2,3,4,13],[4,5],[4,5]])
def Aj:FD:=⟨2,[aH,[]],[.cell 4 3 true,.t 5],Gg⟩
def M6:dm:=[[0],[0,7],[2],[0,3],[3,4],[3],[3,4],[],[3,4,19],[3,4],[3,4],[3,4],[2]]
def ym:Cmd:=ao (g1 [] Tryz.f70 M6 1 [])
@[go_sem] def acp(a:Cmd):Cmd:=ao (g1 [] Tryz.f70 M6 0 [a])
def IN:Cmd:=acp ym
def Cz:FD:=⟨1,[[]],[.t 2],IN⟩
def tw:Cmd:=ao (g0 Tryz.f72 [[2,3,4],[2,3,4,19],[4],[2,3,4,5],[2,3,4,5,6,7],[4],[0,5,1,5,3,5,5,7,0,8,1,8]])
def nD:FD:=⟨2,[[.o 0 [],.o 5 [.o 2 [],.o 0 [],.o 2 [],.o 0 []],.o 0 [],.o 2 [],.o 0 [],.o 0 [],.o 2 [],.o 0 [],.o 0 []]],[.cell 4 9 true],tw⟩
def Wb:Cmd:=ao (g0 Tryz.f73 [[0],[0,1],[0]])
def T2:FD:=⟨0,[[.o 8 aL,.o 0 [],.o 0 []]],[.cell 0 3 true],Wb⟩
def Ak:Cmd:=ao (g0 Tryz.f74 [[0,1,4],[0,1,4,22],[4,5],[0,1,4,6],[0,4,6],[4,6,7],[4,7],[4,5]])
def uk:FD:=⟨2,[[.o 0 [],.o 5 [.o 2 [],.o 0 [],.o 2 [],.o 0 []]],[]],[.cell 4 2 true,.t 5],Ak⟩
def Df:Cmd:=ao (g0 Tryz.f75 [[0,2],[2]])
def wB:FD:=⟨1,[aL],[.cell 2 7 true],Df⟩
def Hx:dm:=[[0,1],[0,1,5,6],[0,1,5,6,14],[4],[0,1,17],[4],[0,1,7],[],[0,1,7],[],[0,1,7,21],[0,1,7],[0,1,7,32],[],[4],[0,1,7,41],[],[4],[0,1,7],[4]]
def kU:Cmd:=ao (g1 [] Tryz.f76 Hx 1 [])
@[go_sem] def T3(a:Cmd):Cmd:=ao (g1 [] Tryz.f76 Hx 0 [a])
def tC:Cmd:=T3 kU
def nE:FD:=⟨2,[[]],[.t 4],tC⟩
def DC:Cmd:=ao (g0 Tryz.f77 [[2,3,4],[6]])
def vF:FD:=⟨3,[[]],[.t 6],DC⟩
def lS:Cmd:=ao (g0 Tryz.f78 [[0],[0,4],[2],[2]])
def gE:FD:=⟨1,[[]],[.t 2],lS⟩
def Gh:Cmd:=ao (g0 Tryz.f79 [[1,2,4],[1,2,4,11],[4],[1,2,4,5,6],[2,4,1,11,2,11,4,11,5,11,7,11],[4,5,6,7,8],[2,4,1,11,2,11,4,11,5,11,7,11],[4,5,7,40],[4],[4]])
def yG:FD:=⟨2,[aL],[.cell 4 7 true],Gh⟩
def yH:Cmd:=ao (g0 Tryz.f80 [[1,2,5,8,9,10],[2,5,8,9,10,11],[5,10],[2,5,8,9,10,11,12],[10],[2,5,8,9,10,11,18],[10],[2,5,8,9,10,11,24],[10],[2,5,8,9,10,11,30],[10],[2,5,8,10,11,36],[10],[2,5,8,10,11,41],[10],[5,8,10,11,47],[10],[5,8,10,11,52],[10],[5,8,10,11,57],[10],[5,8,10,11,62],[10],[5,8,10,67],[10],[10]])
def qS:FD:=⟨5,[[.o 0 [],.o 5 [.o 2 [],.o 0 [],.o 2 [],.o 0 []],.o 0 [],.o 2 [],.o 0 [],.o 0 [],.o 2 [],.o 0 [],.o 0 []]],[.cell 10 9 true],yH⟩
def JC:dm:=[[2,3],[2,3,26],[4],[2,3,5],[],[2,3,5],[2,3],[2,3,5,31],[2,3,5],[2,3,5,44],[],[4],[2,3,5],[4]]
def lU:Cmd:=ao (g1 [] Tryz.f81 JC 1 [])
@[go_sem] def Wc(a:Cmd):Cmd:=ao (g1 [] Tryz.f81 JC 0 [a])
def vG:Cmd:=Wc lU
def po:FD:=⟨2,[[]],[.t 4],vG⟩
def KE:Cmd:=ao (g0 Tryz.f82 [[2,3],[4]])
def Dg:FD:=⟨2,[[]],[.t 4],KE⟩
def fM:Cmd:=ao (g0 Tryz.f88 [[2,3],[2,3,12],[4],[4]])
def ez:FD:=⟨2,[[]],[.t 4],fM⟩
def EL:Cmd:=ao (g0 Tryz.f89 [[0],[0]])
def xx:FD:=⟨0,[aL],[.cell 0 7 true],EL⟩
def wC:Cmd:=ao (g0 Tryz.f90 [[2,3,4,6],[2,3,4,6,20],[6],[2,3,4,6,7,8],[6,7,8,9,10],[6]])
def pR:FD:=⟨3,[aL],[.cell 6 7 true],wC⟩
def ic:dm:=[[0,1],[0,1,7,8],[],[0,1,7,8],[1000],[0,1,7,8,9],[0,1,7,8],[0,1,5,7,8],[0,1,5,7,8,16],[4],[0,1,7,8],[4]]
def nX:Cmd:=ao (g1 [] Tryz.f95 ic 1 [])
@[go_sem] def pS(a:Cmd):Cmd:=ao (g1 [] Tryz.f95 ic 0 [a])
def pT:Cmd:=pS nX
def ie:FD:=⟨2,[[]],[.t 4],pT⟩
def jO:dm:=[[0,1],[0,1,7,8],[],[0,1,7,8],[1000],[0,1,7,8,9],[0,1,7,8],[0,1,5,7,8],[0,1,5,7,8,16],[4],[0,1,7,8],[4]]
def ry:Cmd:=ao (g1 [] Tryz.f96 jO 1 [])
@[go_sem] def tD(a:Cmd):Cmd:=ao (g1 [] Tryz.f96 jO 0 [a])
def tE:Cmd:=tD ry
def jP:FD:=⟨2,[[]],[.t 4],tE⟩
def kJ:dm:=[[0,1],[0,1,7,8],[],[0,1,7,8],[1000],[0,1,7,8,9],[0,1,7,8],[0,1,5,7,8],[0,1,5,7,8,16],[4],[0,1,7,8],[4]]
def sG:Cmd:=ao (g1 [] Tryz.f97 kJ 1 [])
@[go_sem] def vg(a:Cmd):Cmd:=ao (g1 [] Tryz.f97 kJ 0 [a])
def vj:Cmd:=vg sG
def kK:FD:=⟨2,[[]],[.t 4],vj⟩
def EM:Cmd:=ao (g0 Tryz.f98 [[0,2],[0,2,3],[0,2,3,7],[0,2,3],[2]])
def yn:FD:=⟨1,[aH],[.cell 2 3 true],EM⟩
def Al:Cmd:=ao (g0 Tryz.f99 [[1,2],[3]])
def rz:FD:=⟨2,[[]],[.t 3],Al⟩
def Am:Cmd:=ao (g0 Tryz.f100 [[0,1],[4]])
def oS:FD:=⟨2,[[]],[.t 4],Am⟩
def BB:Cmd:=ao (g0 Tryz.f101 [[0],[2]])
def uN:FD:=⟨1,[[]],[.t 2],BB⟩
def Hy:dm:=[[0],[0,3],[3,6,7,8],[3],[3,6,7,8],[],[3,6,7,8,9],[3,6,7,8],[3,5,6,7,8],[3,6,7,8],[3,6,7,8],[2]]
def sH:Cmd:=ao (g1 [] Tryz.f102 Hy 1 [])
@[go_sem] def T4(a:Cmd):Cmd:=ao (g1 [] Tryz.f102 Hy 0 [a])
def JD:Cmd:=T4 sH
def BC:FD:=⟨1,[[]],[.t 2],JD⟩
def EN:Cmd:=ao (g0 Tryz.f103 [[0,1],[0,1,5],[0,1,5,12],[4],[4]])
def yp:FD:=⟨2,[[]],[.t 4],EN⟩
def lC:Cmd:=ao (g0 Tryz.f104 [[1],[2]])
def iM:FD:=⟨1,[[]],[.t 2],lC⟩
def Hz:dm:=[[0,1],[0,7,8,9],[0],[0,7,8,9],[],[0,7,8,9,10],[0,7,8,9],[0,6,7,8,9],[0,7,8,9,15],[4],[0,7,8,9],[19],[4],[4]]
def nY:Cmd:=ao (g1 [] Tryz.f105 Hz 1 [])
@[go_sem] def T5(a:Cmd):Cmd:=ao (g1 [] Tryz.f105 Hz 0 [a])
def yq:Cmd:=T5 nY
def rA:FD:=⟨2,[[]],[.t 4],yq⟩
def Dh:Cmd:=ao (g0 Tryz.f106 [[1],[1,5],[2],[2]])
def wD:FD:=⟨1,[[]],[.t 2],Dh⟩
def DD:dm:=[[0],[5,6,7],[],[5,6,7],[],[5,6,7,8],[5,6,7],[4,5,6,7],[5,6,7,17],[2],[5,6,7],[2]]
def iN:Cmd:=ao (g1 [] Tryz.f107 DD 1 [])
@[go_sem] def NC(a:Cmd):Cmd:=ao (g1 [] Tryz.f107 DD 0 [a])
def yI:Cmd:=NC iN
def qT:FD:=⟨1,[[]],[.t 2],yI⟩
def sJ:Cmd:=ao (g0 Tryz.f108 [[0],[2]])
def lW:FD:=⟨1,[[]],[.t 2],sJ⟩
def Gi:Cmd:=ao (g0 Tryz.f109 [[2,3,4,6],[6,7]])
def yJ:FD:=⟨3,[aH,[]],[.cell 6 3 true,.t 7],Gi⟩
def HA:Cmd:=ao (g0 Tryz.f110 [[1,2,4],[1,2,4,13],[4,5],[4,5]])
def An:FD:=⟨2,[aH,[]],[.cell 4 3 true,.t 5],HA⟩
def Gj:Cmd:=ao (g0 Tryz.f111 [[1,2],[3]])
def yK:FD:=⟨2,[[]],[.t 3],Gj⟩
def CA:Cmd:=ao (g0 Tryz.f112 [[2,3],[4]])
def vH:FD:=⟨2,[[]],[.t 4],CA⟩
def Wd:Cmd:=ao (g0 Tryz.f113 [[0],[2]])
def JE:FD:=⟨1,[[]],[.t 2],Wd⟩
def lD:Cmd:=ao (g0 Tryz.f114 [[2,3,4],[2,3,4,15],[4,5],[2,3,4,26],[4,5],[2,3,4,36],[2,4],[4,5],[2,3,4,6],[4,5]])
def iX:FD:=⟨2,[aH,[]],[.cell 4 3 true,.t 5],lD⟩
def xi:Cmd:=ao (g0 Tryz.f115 [[0],[0,4],[2],[2]])
def nZ:FD:=⟨1,[[]],[.t 2],xi⟩
def jQ:Cmd:=ao (g1 [(83,1),(35,0)] Tryz.f116 [[0,1,5],[0,1,5,14],[0,1,5,6,7],[0,1,5,6,26],[],[1000013,33,5,8,8,9,5,10,5,12],[0,6,8,9],[4,14,8,14,9,14,10,14],[],[0,6,8,67],[],[0,6,8,73],[],[],[]] 0 [])
def gr:FD:=⟨3,[],[],jQ⟩
def jo:Cmd:=ao (g0 Tryz.f117 [[0,2],[0,2],[0,2,4],[2,3],[4,5],[0,2,15],[2,3],[2,3]])
def fG:FD:=⟨1,[[.o 0 [],.o 5 [.o 2 [],.o 0 [],.o 2 [],.o 0 []]],[]],[.cell 2 2 true,.t 3],jo⟩
def Ao:Cmd:=ao (g0 Tryz.f118 [[1,2,3,6],[1,2,3,6,13],[6],[6,7,8],[3,4,0,12,3,12,4,12,7,12,8,12],[6,7,28],[6],[6]])
def tF:FD:=⟨3,[aL],[.cell 6 7 true],Ao⟩
def G5:Cmd:=ao (g0 Tryz.f119 [[2,3,4,5],[2,4,5,7,8],[2,4,5,8,9,10],[2,4,5,8,9,27],[4,5,6],[1,2],[2,4,5,8,9],[4,5,6],[0,6,6,7,6,9,6,11,0,12,6,14,12,14,0,15]])
def Ap:FD:=⟨2,[[.o 0 [],.o 5 [.o 2 [],.o 0 [],.o 2 [],.o 0 []]],aL,[]],[.cell 4 2 true,.cell 5 7 true,.t 6],G5⟩
def EO:dm:=[[2,3,4,5,6,10],[2,3,4,10,11],[2,3,4,10,11,12],[2,3,4,10,12,40,41],[10,12],[2,3,4,10,12,40,41],[10,12],[2,3,4,10,12,40,41,42],[2,3,4,10,12,40,41],[2,3,4,10,12,13,14,40,41],[2,3,4,10,12,13,14,15,16,40,41],[2,3,4,10,12,13,15,16,17,18,40,41],[2,3,4,10,12,13,15,17,40,41,70],[10],[2,3,4,10,12,13,15,17,40,41,80],[2,3,4,10,12,13,17,40,41],[2,3,4,10,12,17,40,41,91],[2,3,4,10,12,40,41],[2,3,4,10,12,40,41],[10]]
def bB:Cmd:=ao (g1 [] Tryz.f120 EO 1 [])
@[go_sem] def Pj(a:Cmd):Cmd:=ao (g1 [] Tryz.f120 EO 0 [a])
def Gk:Cmd:=Pj bB
def yL:FD:=⟨5,[aL],[.cell 10 7 true],Gk⟩
def Gl:Cmd:=ao (g0 Tryz.f121 [[2,3,4,6],[6,7]])
def yM:FD:=⟨3,[aH,[]],[.cell 6 3 true,.t 7],Gl⟩
def JF:Cmd:=ao (g0 Tryz.f122 [[2,3,4,6],[6,7]])
def BD:FD:=⟨3,[aH,[]],[.cell 6 3 true,.t 7],JF⟩
def tG:Cmd:=ao (g0 Tryz.f123 [[1],[],[1,3],[2],[13],[2],[2]])
def nF:FD:=⟨1,[[]],[.t 2],tG⟩
def EP:Cmd:=ao (g0 Tryz.f124 [[1,2],[1,2,5],[2],[2]])
def xz:FD:=⟨1,[aL],[.cell 2 7 true],EP⟩
def G6:Cmd:=ao (g0 Tryz.f125 [[3,4,5,6],[3,4,5,6,14],[6],[3,4,5,6,7,8],[6],[0,9,1,9]])
def Aq:FD:=⟨3,[[.o 0 [],.o 5 [.o 2 [],.o 0 [],.o 2 [],.o 0 []],.o 0 [],.o 2 [],.o 0 [],.o 0 [],.o 2 [],.o 0 [],.o 0 []]],[.cell 6 9 true],G6⟩
def G7:Cmd:=ao (g0 Tryz.f126 [[3,4,5,6],[3,4,5,6,14],[6],[3,4,5,6,7,8],[6],[0,9,1,9]])
def Ar:FD:=⟨3,[[.o 0 [],.o 5 [.o 2 [],.o 0 [],.o 2 [],.o 0 []],.o 0 [],.o 2 [],.o 0 [],.o 0 [],.o 2 [],.o 0 [],.o 0 []]],[.cell 6 9 true],G7⟩
def HB:Cmd:=ao (g0 Tryz.f127 [[2,3,4,6],[6],[0,2]])
def As:FD:=⟨3,[aL],[.cell 6 7 true],HB⟩
def Gm:Cmd:=ao (g0 Tryz.f130 [[2,3,4,6],[6,7]])
def yN:FD:=⟨3,[aH,[]],[.cell 6 3 true,.t 7],Gm⟩
def JG:Cmd:=ao (g0 Tryz.f131 [[2,3,4,6],[6,7]])
def BE:FD:=⟨3,[aH,[]],[.cell 6 3 true,.t 7],JG⟩
def jf:Cmd:=ao (g0 Tryz.f132 [[1,2,3,6],[1,2,3,6,27],[6],[1,2,3,6,30],[6],[1,2,3,6,35],[1,2,3,6],[1,2,3,6,7,8],[6,7,8,9,10],[6]])
def fO:FD:=⟨3,[aL],[.cell 6 7 true],jf⟩
def At:Cmd:=ao (g0 Tryz.f133 [[1,2],[1,2,11],[2],[2],[1,5,5,7]])
def tH:FD:=⟨1,[aH],[.cell 2 3 true],At⟩
def kV:Cmd:=ao (g0 Tryz.f134 [[1],[1,3],[2]])
def iq:FD:=⟨1,[[]],[.t 2],kV⟩
def sK:Cmd:=ao (g0 Tryz.f135 [[2,3],[2,3,5,6],[1,2],[2,3],[2,3,5,6,12],[4],[2,3,16],[4],[2,3,7],[4],[6,8,6,10]])
def mD:FD:=⟨2,[[]],[.t 4],sK⟩
def M7:dm:=[[0],[0,3],[0,3],[0,3],[],[0,3,15],[0,3],[0,3],[2]]
def JH:Cmd:=ao (g1 [] Tryz.f136 M7 1 [])
@[go_sem] def acq(a:Cmd):Cmd:=ao (g1 [] Tryz.f136 M7 0 [a])
def Pk:Cmd:=acq JH
def G8:FD:=⟨1,[[.o 2 []]],[.t 2],Pk⟩
def KF:dm:=[[0],[0,3],[3],[0,3],[],[0,3,14],[0,3],[0,3],[2]]
def wE:Cmd:=ao (g1 [] Tryz.f137 KF 1 [])
@[go_sem] def Y9(a:Cmd):Cmd:=ao (g1 [] Tryz.f137 KF 0 [a])
def M8:Cmd:=Y9 wE
def ER:FD:=⟨1,[[]],[.t 2],M8⟩
def KG:dm:=[[0,1],[0,1,12],[4],[0,1],[0,1,5],[0,1,5,6],[5],[0,1,5,6],[51],[0,1,5,6,20],[0,1,5,6],[0,1,5,6,7],[0,1,5,6,7,32],[0,1,5,6,7],[0,1,5,6],[0,1,5,6],[4]]
def fH:Cmd:=ao (g1 [] Tryz.f138 KG 1 [])
@[go_sem] def Za(a:Cmd):Cmd:=ao (g1 [] Tryz.f138 KG 0 [a])
def G9:Cmd:=Za fH
def Au:FD:=⟨2,[[.o 2 []]],[.t 4],G9⟩
def Di:Cmd:=ao (g0 Tryz.f141 [[1,2],[1,2,6],[2,3],[2,3]])
def wF:FD:=⟨1,[aH,[]],[.cell 2 3 true,.t 3],Di⟩
def zo:Cmd:=ao (g0 Tryz.f142 [[2,3,4],[2,3,4,11],[4],[2,3,4,16],[4],[2,3,4,5],[2,3,4,5,6,7],[6,8,6,10],[2,3,4,5,6,7,41],[4],[1,4],[2,3,4,5,6,7,52],[4],[1,4],[4],[1,4]])
def sL:FD:=⟨2,[aH],[.cell 4 3 true],zo⟩
def ES:Cmd:=ao (g0 Tryz.f143 [[0,3,4],[0,3,4],[0,3,4,7],[4,5],[0,3,4,15],[4,5],[0,3,4,6],[0,3,4,6,25],[4,6],[1000004,0,2,3],[4,5]])
def yr:FD:=⟨2,[[.o 0 [],.o 5 [.o 2 [],.o 0 [],.o 2 [],.o 0 []]],[]],[.cell 4 2 true,.t 5],ES⟩
def Pm:dm:=[[0],[0,3],[0,3,4],[3],[0,3,4],[],[0,3,4,8],[0,3,4],[0,3,4],[0,3,4],[2]]
def Av:Cmd:=ao (g1 [] Tryz.f144 Pm 1 [])
@[go_sem] def aeg(a:Cmd):Cmd:=ao (g1 [] Tryz.f144 Pm 0 [a])
def Tj:Cmd:=aeg Av
def IP:FD:=⟨1,[[]],[.t 2],Tj⟩
def JI:dm:=[[1],[1,24],[2],[1,26,27,28],[1],[1,26,27,28],[1],[1,26,27,28,29],[1,26,27,28],[1,3,4,26,27,28],[1,26,27,28,39],[2],[1,26,27,28],[2]]
def uO:Cmd:=ao (g1 [] Tryz.f145 JI 1 [])
@[go_sem] def We(a:Cmd):Cmd:=ao (g1 [] Tryz.f145 JI 0 [a])
def KH:Cmd:=We uO
def Dj:FD:=⟨1,[[]],[.t 2],KH⟩
def JJ:Cmd:=ao (g0 Tryz.f146 [[1],[2],[21,23]])
def BF:FD:=⟨1,[[]],[.t 2],JJ⟩
def pU:dm:=[[0,1],[0,1,10],[4],[0,1,12,13],[],[0,1,12,13],[],[0,1,12,13,14],[0,1,12,13],[0,1,5,12,13],[0,1,12,13,24],[],[4],[0,1,12,13],[4]]
def cV:Cmd:=ao (g1 [] Tryz.f152 pU 1 [])
@[go_sem] def Ba(a:Cmd):Cmd:=ao (g1 [] Tryz.f152 pU 0 [a])
def ku:Cmd:=Ba cV
def fW:FD:=⟨2,[[]],[.t 4],ku⟩
def JK:Cmd:=ao (g0 Tryz.f158 [[2,3,4,6],[6,7]])
def BG:FD:=⟨3,[aH,[]],[.cell 6 3 true,.t 7],JK⟩
def uP:Cmd:=ao (g0 Tryz.f159 [[1,3,4,6,8],[4,6,8,14],[8],[8]])
def n7:FD:=⟨4,[aL],[.cell 8 7 true],uP⟩
def vJ:Cmd:=ao (g0 Tryz.f162 [[0,1,2,6],[0,1,2,6],[0,1,2,6,14],[6],[0,1,2,6,7],[0,2,6,7,8],[6]])
def oM:FD:=⟨3,[aH],[.cell 6 3 true],vJ⟩
def rB:dm:=[[0,1],[0,1,7,8],[],[0,1,7,8],[1000],[0,1,7,8,9],[0,1,7,8],[0,1,5,7,8],[0,1,5,7,8,16],[4],[0,1,7,8],[4]]
def Aw:Cmd:=ao (g1 [] Tryz.f163 rB 1 [])
@[go_sem] def CR(a:Cmd):Cmd:=ao (g1 [] Tryz.f163 rB 0 [a])
def CS:Cmd:=CR Aw
def rC:FD:=⟨2,[[]],[.t 4],CS⟩
def pW:Cmd:=ao (g0 Tryz.f164 [[0,1],[0,1,5],[0,1,5,6],[0,1,6,11],[12],[4],[4],[0,1,13],[4],[0,1,16],[4],[19],[4],[4]])
def kL:FD:=⟨2,[[]],[.t 4],pW⟩
def tJ:dm:=[[0,1],[0,1,9,10,11],[0,1],[0,1,9,10,11],[],[0,1,9,10,11,12],[0,1,9,10,11],[0,1,5,6,9,10,11],[0,1,5,6,9,10,11,19],[4],[0,1,6,7,9,10,11],[0,1,8,9,10,11],[0,1,8,9,10,11,28],[4],[0,1,9,10,11],[35],[4],[4]]
def eX:Cmd:=ao (g1 [] Tryz.f165 tJ 1 [])
@[go_sem] def DV(a:Cmd):Cmd:=ao (g1 [] Tryz.f165 tJ 0 [a])
def mV:Cmd:=DV eX
def iY:FD:=⟨2,[[]],[.t 4],mV⟩
def Ax:Cmd:=ao (g0 Tryz.f166 [[0],[2]])
def sM:FD:=⟨1,[[]],[.t 2],Ax⟩
def JL:Cmd:=ao (g0 Tryz.f167 [[0],[2]])
def BH:FD:=⟨1,[[]],[.t 2],JL⟩
def xW:Cmd:=ao (g0 Tryz.f168 [[2,3,4,5,8],[2,3,4,5,8,10],[2,3,4,5,8,10,19],[8,9],[2,3,4,5,8],[2,3,4,5,8,22],[8,9],[2,3,4,5,8,33],[8,9],[2,3,4,5,8,48],[1,2],[2,3,4,5,8],[2,3,4,8,11,12],[2,3,4,8,11,12,66],[8,9],[8,9]])
def n8:FD:=⟨4,[aH,[]],[.cell 8 3 true,.t 9],xW⟩
def xA:Cmd:=ao (g0 Tryz.f169 [[0],[2]])
def pX:FD:=⟨1,[[]],[.t 2],xA⟩
def yO:Cmd:=ao (g0 Tryz.f170 [[1,2],[1,2,6],[2,3],[2,3]])
def qU:FD:=⟨1,[aH,[]],[.cell 2 3 true,.t 3],yO⟩
def Dk:Cmd:=ao (g0 Tryz.f171 [[0,1],[0,1,9],[4,5],[4,5]])
def wG:FD:=⟨2,[[.o 2 []],[]],[.t 4,.t 5],Dk⟩
def fX:dm:=[[0,1,2],[0,1,2,8],[0,1,2,8,9,10],[0,1,2,8,9],[0,1,2,8,9,10],[],[0,1,2,8,9,10,17],[0,1,2,8,9,10],[0,1,2,8,9,10,11],[0,1,2,8,9,10,11,31],[0,1,2,8,9,10],[0,1,2,8,9,10],[6,7]]
def bN:Cmd:=ao (g1 [] Tryz.f172 fX 1 [])
@[go_sem] def nG(a:Cmd):Cmd:=ao (g1 [] Tryz.f172 fX 0 [a])
def gu:Cmd:=nG bN
def dx:FD:=⟨3,[[],[]],[.t 6,.t 7],gu⟩
def xX:Cmd:=ao (g0 Tryz.f173 [[1,2],[4]])
def pe:FD:=⟨2,[[]],[.t 4],xX⟩
def du:Cmd:=ao (g0 Tryz.f174 [[0,1,2],[0,1,2],[0,1,2,7],[0,1,2,7,16],[6],[0,1,2,7,8],[0,1,2,7,8,22],[6],[0,1,2,7,8,31],[0,1,2,7,9],[0,1,7,9],[9],[],[6],[0,1,2,7,8],[0,1,2,7,8,68],[0,1,2],[],[0],[7777777,200000],[6],[0,1,7],[0],[6]])
def bw:FD:=⟨3,[[]],[.t 6],du⟩
def JM:Cmd:=ao (g0 Tryz.f175 [[1,2],[1,2],[2]])
def BI:FD:=⟨1,[aH],[.cell 2 3 true],JM⟩
def Ay:Cmd:=ao (g0 Tryz.f176 [[2,3,4],[2,3,4,13],[4,5],[4,5]])
def tK:FD:=⟨2,[aH,[]],[.cell 4 3 true,.t 5],Ay⟩
def mE:Cmd:=ao (g1 [(31,2)] Tryz.f177 [[0,1,2],[0,1,2],[0,1,2,16],[6],[0,1,2,7],[0,7],[],[0],[7777777,100000,200000],[6]] 0 [])
def gU:FD:=⟨3,[[]],[.t 6],mE⟩
def Az:Cmd:=ao (g0 Tryz.f178 [[1,2,3],[6]])
def tL:FD:=⟨3,[[]],[.t 6],Az⟩
def JN:Cmd:=ao (g0 Tryz.f179 [[0],[0]])
def BJ:FD:=⟨0,[aL],[.cell 0 7 true],JN⟩
def jR:Cmd:=ao (g0 Tryz.f180 [[2,3,4],[2,3,4],[2,3,4,7],[4,5],[2,3,4,17],[4,5],[2,3,4,21],[4,5],[4,6],[4,6,4,8,1,11,3,11,4,11,6,11,8,11,9,11],[4,6,41],[4,5],[4,5]])
def gF:FD:=⟨2,[aL,[]],[.cell 4 7 true,.t 5],jR⟩
def BK:dm:=[[1,2,3,6],[1,2,3,6,17],[6],[1,2,3,6,7],[1,2,6,7,22,23,24],[6,7],[1,2,6,7,22,23,24],[3,6,7],[1,2,6,7,22,23,24,25],[1,2,6,7,22,23,24],[1,2,6,7,9,22,23,24],[1,2,6,7,9,10,22,23,24],[1,2,6,7,10,22,23,24,32,33,34],[1,2,6,7,10,22,23,24],[1,2,6,7,10,22,23,24,32,33,34],[3,6,7,9,10],[1,2,6,7,10,22,23,24,32,33,34,35],[1,2,6,7,10,22,23,24,32,33,34],[1,2,6,7,10,11,12,22,23,24,32,33,34],[1,2,6,7,10,11,12,22,23,24,32,33,34,40],[1,2,6,7,10,22,23,24,32,33,34],[0,7],[1,2,6,7,10,22,23,24,32,33,34],[1,2,6,7,22,23,24],[1,2,6,7,22,23,24],[6]]
def gG:Cmd:=ao (g1 [] Tryz.f181 BK 1 [])
@[go_sem] def ND(a:Cmd):Cmd:=ao (g1 [] Tryz.f181 BK 2 [a])
def kW:Cmd:=ND gG
@[go_sem] def T6(a b:Cmd):Cmd:=ao (g1 [] Tryz.f181 BK 0 [a,b])
def Dl:Cmd:=T6 gG kW
def wH:FD:=⟨3,[aL],[.cell 6 7 true],Dl⟩
def vK:dm:=[[1,2,3,6],[1,2,3,6,19],[6],[1,2,3,6,7,8],[1,2,3,6,7,31],[6],[],[1,6,9,10],[1,6,9,50],[6],[1,6,9,56,57],[6,9],[1,6,9,56,57],[6,2368],[1,6,9,56,57,58],[1,6,9,56,57],[1,6,9,11,56,57],[1,6,9,11,56,57],[1,6,9,56,57],[1,6,9,56,57],[6,9,12],[6,12,80,81,82],[6,12],[6,12,80,81,82],[6,12,2368],[6,12,80,81,82,83],[6,12,80,81,82],[6,12,14,80,81,82],[6,12,80,81,82],[6,12,80,81,82],[6]]
def mW:Cmd:=ao (g1 [] Tryz.f182 vK 1 [])
def mX:Cmd:=ao (g1 [] Tryz.f182 vK 2 [])
@[go_sem] def MC(a b:Cmd):Cmd:=ao (g1 [] Tryz.f182 vK 0 [a,b])
def j7:Cmd:=MC mW mX
def gH:FD:=⟨3,[aL],[.cell 6 7 true],j7⟩
def JO:dm:=[[1,2,4,5],[1,2,4,5,12],[4,5],[1,2,4,5,6,7],[2,4],[1,4,5,6,7,22,23,24],[4,5,6,7],[1,4,5,6,7,22,23,24],[2,4,5,2136,2160],[1,4,5,6,7,22,23,24,25],[1,4,5,6,7,22,23,24],[1,4,5,6,7,9,22,23,24],[1,4,5,6,7,9,22,23,24,32],[1,4,5,6,7,22,23,24],[1,4,5,6,7,22,23,24],[1,4,5,6,7,22,23,24],[7777777,6,7],[4,5],[7,8]]
def lX:Cmd:=ao (g1 [] Tryz.f183 JO 1 [])
@[go_sem] def Wf(a:Cmd):Cmd:=ao (g1 [] Tryz.f183 JO 0 [a])
def ET:Cmd:=Wf lX
def yt:FD:=⟨2,[[.o 0 [],.o 5 [.o 2 [],.o 0 [],.o 2 [],.o 0 []]],[.o 0 [],.o 5 [.o 2 [],.o 0 [],.o 2 [],.o 0 []]]],[.cell 4 2 true,.cell 5 2 true],ET⟩
def JP:dm:=[[1,2,4,5],[1,2,4,5],[1,2,4,5,14],[4,5,6],[1,2,4,5,20],[4,5,6],[1,2,4,5,7,8],[2,4],[1,4,5,7,8,36,37,38],[4,5,7,8],[1,4,5,7,8,36,37,38],[2,4,5,2248,2272],[1,4,5,7,8,36,37,38,39],[1,4,5,7,8,36,37,38],[1,4,5,7,8,10,36,37,38],[1,4,5,7,8,10,11,12,36,37,38],[1,4,5,7,8,10,11,36,37,38,50],[4,5,6],[1,4,5,7,8,10,11,12,13,36,37,38],[1,4,5,7,8,10,11,13,36,37,38,61],[4,5,6],[1,4,5,7,8,10,11,13,36,37,38,67],[1,4,5,7,8,10,13,36,37,38],[1,4,5,7,8,10,13,36,37,38,76],[1,4,5,7,8,36,37,38],[1,4,5,7,8,36,37,38],[7777777,7,8],[4,5,6],[7,8]]
def eY:Cmd:=ao (g1 [] Tryz.f184 JP 1 [])
@[go_sem] def Wg(a:Cmd):Cmd:=ao (g1 [] Tryz.f184 JP 0 [a])
def vL:Cmd:=Wg eY
def pp:FD:=⟨2,[[.o 0 [],.o 5 [.o 2 [],.o 0 [],.o 2 [],.o 0 []]],[.o 0 [],.o 5 [.o 2 [],.o 0 [],.o 2 [],.o 0 []]],[]],[.cell 4 2 true,.cell 5 2 true,.t 6],vL⟩
def xY:Cmd:=ao (g0 Tryz.f185 [[2,3,4,5,8],[2,3,4,5,8,10],[2,3,4,5,8,10,19],[8,9],[2,3,4,5,8,31],[8,9],[2,3,4,5,8,11],[8,9]])
def rD:FD:=⟨4,[aH,[]],[.cell 8 3 true,.t 9],xY⟩
def M9:dm:=[[2,3,4],[2,3,4,12],[4,5],[2,3,4,6],[2,4,6,18,19,20],[2,4,6],[2,4,6,18,19,20],[2,3,4,6],[2,4,6,18,19,20,21],[2,4,6,18,19,20],[2,4,6,8,18,19,20],[2,4,6,18,19,20],[1000009,26,1,6,3,6,1,8],[2,4,6,18,19,20],[4,5]]
def pq:Cmd:=ao (g1 [] Tryz.f186 M9 1 [])
@[go_sem] def acr(a:Cmd):Cmd:=ao (g1 [] Tryz.f186 M9 0 [a])
def IQ:Cmd:=acr pq
def CB:FD:=⟨2,[[.o 0 [],.o 5 [.o 2 [],.o 0 [],.o 2 [],.o 0 []]],[]],[.cell 4 2 true,.t 5],IQ⟩
def Na:dm:=[[2,3,4],[2,3,4,12],[4,5],[2,3,4,6],[4,6,22,23,24],[4,6],[4,6,22,23,24],[4,2128],[4,6,22,23,24,25],[4,6,22,23,24],[4,6,8,22,23,24],[4,6,22,23,24],[4,6,22,23,24],[4,5]]
def tM:Cmd:=ao (g1 [] Tryz.f187 Na 1 [])
@[go_sem] def acs(a:Cmd):Cmd:=ao (g1 [] Tryz.f187 Na 0 [a])
def IR:Cmd:=acs tM
def CC:FD:=⟨2,[[.o 0 [],.o 5 [.o 2 [],.o 0 [],.o 2 [],.o 0 []]],[]],[.cell 4 2 true,.t 5],IR⟩
def xZ:Cmd:=ao (g0 Tryz.f189 [[2,3,4,5,8],[2,3,4,5,8,10],[2,3,4,5,8,10,21],[8,9],[2,3,4,5,8],[2,3,4,5,8,24],[8,9],[2,3,4,5,8,30],[8,9],[2,3,4,5,8,11],[3,5],[2,3,4,5,8,11,12,13],[3,5],[8,9],[1,14,3,14,7,14,11,14]])
def rF:FD:=⟨4,[aH,[]],[.cell 8 3 true,.t 9],xZ⟩
def BL:Cmd:=ao (g0 Tryz.f190 [[1,2],[1,2,10],[2],[1,2,3],[2,3,5],[2]])
def uQ:FD:=⟨1,[aL],[.cell 2 7 true],BL⟩
def wI:Cmd:=ao (g0 Tryz.f191 [[1,2,3,4,8],[1,2,3,4,8,14],[8,10,11],[8,9],[1,2,4,8,28],[8,9],[8,9]])
def pY:FD:=⟨4,[aH,[]],[.cell 8 3 true,.t 9],wI⟩
def qK:Cmd:=ao (g0 Tryz.f192 [[0],[0,4],[2],[2]])
def jS:FD:=⟨1,[[.o 2 []]],[.t 2],qK⟩
def AA:Cmd:=ao (g0 Tryz.f193 [[1],[1,11],[2],[2],[2,4]])
def tN:FD:=⟨1,[[]],[.t 2],AA⟩
def HC:dm:=[[0,1],[0,1],[0,1,14],[19],[4],[4],[0,1,5],[],[0,1,5],[],[0,1,5,24],[0,1,5],[0,1,5],[0,1,5,27],[],[4],[0,1,5,37],[],[4],[0,1,5],[4]]
def jg:Cmd:=ao (g1 [] Tryz.f194 HC 1 [])
@[go_sem] def T7(a:Cmd):Cmd:=ao (g1 [] Tryz.f194 HC 0 [a])
def JQ:Cmd:=T7 jg
def rG:FD:=⟨2,[[]],[.t 4],JQ⟩
def EU:Cmd:=ao (g0 Tryz.f195 [[0,1],[5],[4]])
def xB:FD:=⟨2,[[.o 2 []]],[.t 4],EU⟩
def Nb:dm:=[[0,1],[0,1,5],[0,1,5,6],[0,1,5,6,7],[5,6],[0,1,5,6,7],[11,34],[0,1,5,6,7,15],[0,1,5,6,7],[0,1,5,7,8],[0,1,5,7,8],[0,1,5,6,7],[0,1,5,6,7],[4]]
def yu:Cmd:=ao (g1 [] Tryz.f198 Nb 1 [])
@[go_sem] def act(a:Cmd):Cmd:=ao (g1 [] Tryz.f198 Nb 0 [a])
def Pn:Cmd:=act yu
def Ha:FD:=⟨2,[[.o 2 []]],[.t 4],Pn⟩
def Nc:dm:=[[0,1],[0,1,5],[0,1,5,6],[0,1,5,6,7],[5,6],[0,1,5,6,7],[49],[0,1,5,6,7,18],[0,1,5,6,7],[0,1,5,7,8],[0,1,5,7,8,25],[0,1,5,7,8],[0,1,5,7,8,36],[0,1,5,7,8],[0,1,5,7,8],[0,1,5,6,7],[0,1,5,6,7],[4]]
def eP:Cmd:=ao (g1 [] Tryz.f199 Nc 1 [])
@[go_sem] def acu(a:Cmd):Cmd:=ao (g1 [] Tryz.f199 Nc 0 [a])
def Po:Cmd:=acu eP
def Hb:FD:=⟨2,[[.o 2 []]],[.t 4],Po⟩
def HD:dm:=[[0,1],[0,1,10],[15],[4],[4],[0,1,5],[],[0,1,5],[],[0,1,5,20],[0,1,5],[0,1,5,31],[],[4],[0,1,5,40],[],[4],[0,1,5],[4]]
def fw:Cmd:=ao (g1 [] Tryz.f200 HD 1 [])
@[go_sem] def T8(a:Cmd):Cmd:=ao (g1 [] Tryz.f200 HD 0 [a])
def tO:Cmd:=T8 fw
def wJ:FD:=⟨2,[[]],[.t 4],tO⟩
def KI:dm:=[[0,1],[0,1,5],[0,1,5,6],[0,1,5,6,7],[5],[0,1,5,6,7],[41],[0,1,5,6,7,13],[0,1,5,6,7],[0,1,5,7,8],[0,1,5,7,8,20],[0,1,5,7,8],[0,1,5,7,9],[0,1,5,7,9],[0,1,5,6,7],[0,1,5,6,7],[4]]
def fJ:Cmd:=ao (g1 [] Tryz.f201 KI 1 [])
@[go_sem] def Zb(a:Cmd):Cmd:=ao (g1 [] Tryz.f201 KI 0 [a])
def Nd:Cmd:=Zb fJ
def EV:FD:=⟨2,[[.o 2 []]],[.t 4],Nd⟩
def yv:Cmd:=ao (g0 Tryz.f202 [[1,2],[1,2,5],[1,2,5,6],[1,2,5,6],[1,2,5,6],[1,2,5,6,12],[4],[1,2,5,6,15],[1,2,5,6,21],[4],[1,2,5,6],[1,2,5,6,26],[1,2,5,6,34],[4],[1,2,5,6],[1,2,5,6,37],[1,2,5,6,46],[4],[1,2,5,6],[1,2,6,49],[6,58],[4],[6],[4]])
def rH:FD:=⟨2,[[]],[.t 4],yv⟩
def BM:Cmd:=ao (g0 Tryz.f203 [[0,1],[3]])
def uR:FD:=⟨2,[[]],[.t 3],BM⟩
def KJ:dm:=[[0,1],[0],[0,1],[],[0,1,6],[0,1],[0,1],[],[4]]
def BN:Cmd:=ao (g1 [] Tryz.f204 KJ 1 [])
@[go_sem] def Zc(a:Cmd):Cmd:=ao (g1 [] Tryz.f204 KJ 0 [a])
def Nf:Cmd:=Zc BN
def EW:FD:=⟨2,[[]],[.t 4],Nf⟩
def EX:Cmd:=ao (g0 Tryz.f205 [[0],[0,4],[2],[2]])
def yw:FD:=⟨1,[[]],[.t 2],EX⟩
def AB:Cmd:=ao (g0 Tryz.f215 [[1,2],[1,2,11],[2],[2],[2,4]])
def tP:FD:=⟨1,[aH],[.cell 2 3 true],AB⟩
def DE:dm:=[[0],[0,3],[0,3],[0,3],[],[0,3,15],[0,3],[0,3],[2]]
def kN:Cmd:=ao (g1 [] Tryz.f222 DE 1 [])
@[go_sem] def NE(a:Cmd):Cmd:=ao (g1 [] Tryz.f222 DE 0 [a])
def EY:Cmd:=NE kN
def xC:FD:=⟨1,[[.o 2 []]],[.t 2],EY⟩
def JR:dm:=[[0],[0,3],[3,6,7,8],[3],[3,6,7,8],[],[3,6,7,8,9],[3,6,7,8],[3,5,6,7,8],[3,5,6,7,8,13],[2],[3,6,7,8],[3,6,7,8],[2]]
def uS:Cmd:=ao (g1 [] Tryz.f223 JR 1 [])
@[go_sem] def Wh(a:Cmd):Cmd:=ao (g1 [] Tryz.f223 JR 0 [a])
def KL:Cmd:=Wh uS
def Dm:FD:=⟨1,[[]],[.t 2],KL⟩
def yx:Cmd:=ao (g0 Tryz.f224 [[0,1],[0,1],[0,1,6],[4,5],[0,1,10],[4,5],[4,5]])
def rI:FD:=⟨2,[[.o 2 []],[]],[.t 4,.t 5],yx⟩
def rJ:Cmd:=ao (g0 Tryz.f225 [[0],[2]])
def kv:FD:=⟨1,[[.o 2 []]],[.t 2],rJ⟩
def EZ:Cmd:=ao (g0 Tryz.f226 [[0],[2]])
def xD:FD:=⟨1,[[]],[.t 2],EZ⟩
def BO:Cmd:=ao (g0 Tryz.f227 [[0],[0],[0,7],[2],[2]])
def uT:FD:=⟨1,[[]],[.t 2],BO⟩
def Do:Cmd:=ao (g0 Tryz.f228 [[1,2,3,6],[1,2,3,6,8],[1,2,3,6,8,14],[6,7],[6,7],[1,3]])
def wK:FD:=⟨3,[aH,[]],[.cell 6 3 true,.t 7],Do⟩
def Ng:Cmd:=ao (g0 Tryz.f229 [[2,3,4,6],[3,4,6,8],[1,3],[3,4,6,8,31],[1,2],[3,4,6,8],[3,4,6,8,9],[3,4,6,8,9],[3,4,6,8,9,11],[3,4,6,8,9,11,46],[3,4,6,8,9,10,11],[3,4,6,8,9,10,11],[6,8,9,10,11,68],[6,8,11,12],[6,7],[6,8,9,10,11,79],[6,8,9,10,11],[6,8,9,10,11,89],[6,8,14],[6,7],[6,8,11,16],[6,7]])
def vM:FD:=⟨3,[[.o 2 [],.o 0 [],.o 0 []],[]],[.cell 6 3 true,.t 7],Ng⟩
def wL:Cmd:=ao (g0 Tryz.f230 [[0,2,3,5,8],[0,8,10,11],[8,10,11,25],[8,10,11],[8,9]])
def pZ:FD:=⟨4,[aH,[]],[.cell 8 3 true,.t 9],wL⟩
def HE:Cmd:=ao (g0 Tryz.f231 [[0],[2]])
def AC:FD:=⟨1,[[]],[.t 2],HE⟩
def BP:Cmd:=ao (g0 Tryz.f232 [[0],[0],[0,8],[2,3],[2,3]])
def uU:FD:=⟨1,[[.o 2 []],[]],[.t 2,.t 3],BP⟩
def BQ:dm:=[[0,1],[0,1,5],[1,5,18,19,20],[5],[1,5,18,19,20],[17],[1,5,18,19,20,21],[1,5,18,19,20],[1,5,6,7,18,19,20],[1,5,6,7,8,18,19,20],[1,5,6,7,8,18,19,20,25,26,27],[1,5,6,8,18,19,20],[1,5,6,7,8,18,19,20,25,26,27],[17],[1,5,6,7,8,18,19,20,25,26,27,28],[1,5,6,7,8,18,19,20,25,26,27],[1,5,6,7,8,9,10,18,19,20,25,26,27],[1,5,6,7,9,11,18,19,20,25,26,27],[1,5,6,7,8,18,19,20,25,26,27],[1,5,6,7,8,18,19,20,25,26,27],[1,5,18,19,20],[1,5,18,19,20],[4]]
def n9:Cmd:=ao (g1 [] Tryz.f233 BQ 1 [])
@[go_sem] def NF(a:Cmd):Cmd:=ao (g1 [] Tryz.f233 BQ 2 [a])
def sN:Cmd:=NF n9
@[go_sem] def T9(a b:Cmd):Cmd:=ao (g1 [] Tryz.f233 BQ 0 [a,b])
def JS:Cmd:=T9 n9 sN
def BR:FD:=⟨2,[[.o 2 []]],[.t 4],JS⟩
def Gn:dm:=[[0],[0,3],[0,3],[0,3],[],[0,3,15],[0,3],[0,3],[2]]
def mF:Cmd:=ao (g1 [] Tryz.f234 Gn 1 [])
@[go_sem] def QV(a:Cmd):Cmd:=ao (g1 [] Tryz.f234 Gn 0 [a])
def HF:Cmd:=QV mF
def AD:FD:=⟨1,[[.o 2 []]],[.t 2],HF⟩
def AE:Cmd:=ao (g0 Tryz.f237 [[2,3,4],[2,3,4,24],[2,3,4,28],[2,4],[4,5],[2,3,4,6],[2,3,4,6,7,8],[1,2],[2,3,4,6,63],[4,5],[2,3,4,6,9,10],[6,8,6,10],[2,3,4,6,9,10,83],[2,4,6,11],[4,5],[2,3,4,6,9,10,101],[2,4,6,9,10],[2,4,6,13],[4,5]])
def mq:FD:=⟨2,[aH,[]],[.cell 4 3 true,.t 5],AE⟩
def wM:Cmd:=ao (g0 Tryz.f238 [[1,2],[4]])
def qf:FD:=⟨2,[[]],[.t 4],wM⟩
def AF:Cmd:=ao (g0 Tryz.f239 [[2,3,4],[2,3,4,8],[4],[4]])
def sO:FD:=⟨2,[aH],[.cell 4 3 true],AF⟩
def AG:Cmd:=ao (g0 Tryz.f240 [[2,3,4],[2,3,4,8],[4],[4]])
def sP:FD:=⟨2,[aH],[.cell 4 3 true],AG⟩
def Dp:Cmd:=ao (g0 Tryz.f241 [[1,2,3,6],[1,2,3,6,8],[6],[6],[2,3]])
def wN:FD:=⟨3,[aL],[.cell 6 7 true],Dp⟩
def Gp:dm:=[[1],[1,14],[2,3],[1,4],[4,20,21,22],[4],[4,20,21,22],[1,18],[4,20,21,22,23],[4,20,21,22],[4,6,20,21,22],[4,20,21,22],[3,6],[4,20,21,22],[2,3]]
def mG:Cmd:=ao (g1 [] Tryz.f242 Gp 1 [])
@[go_sem] def QW(a:Cmd):Cmd:=ao (g1 [] Tryz.f242 Gp 0 [a])
def wO:Cmd:=QW mG
def qh:FD:=⟨1,[[.o 4 aH],[]],[.t 2,.t 3],wO⟩
def rK:Cmd:=ao (g0 Tryz.f243 [[3,4,5,6,8],[3,4,5,8,9,10],[1,4,3,4,1,5,3,5,4,5,3,6],[3,4,5,8,9,10,23],[3,4,5,8,9,10],[3,4,5,8,10,11,12],[3,4,8,11,12,13,14],[3,4,8,11,13,43],[8],[3,4,8,12,13,15],[8,12,14,15,16],[8,15,16,64],[8],[8]])
def gO:FD:=⟨4,[aL],[.cell 8 7 true],rK⟩
def lY:dm:=[[1,2],[2,6],[2,6,26,27,28],[2,6],[2,6,26,27,28],[2,21,24,2624],[2,6,26,27,28,29],[2,6,26,27,28],[2,6,8,26,27,28],[2,6,26,27,28,33,34,35],[2,6,26,27,28],[2,6,26,27,28,33,34,35],[2,8,21,24,2624],[2,6,26,27,28,33,34,35,36],[2,6,26,27,28,33,34,35],[2,6,9,10,26,27,28,33,34,35],[2,6,26,27,28,33,34,35],[],[2,6,26,27,28,33,34,35],[2,6,26,27,28],[2,6,11],[2,6,11,60,61,62],[2,6,11],[2,6,11,60,61,62],[2,21,24,2624],[2,6,11,60,61,62,63],[2,6,11,60,61,62],[2,6,11,13,60,61,62],[2,6,11,60,61,62],[2,6,11,60,61,62,71],[4,5],[2,6,11,60,61,62],[2,6],[6,82,83,84],[6],[6,82,83,84],[2,21,24,2624],[6,82,83,84,85],[6,82,83,84],[6,15,82,83,84],[6,15,16,82,83,84],[6,15,16,82,83,84,89,90,91],[6,15,16,82,83,84],[6,15,16,82,83,84,89,90,91],[2,15,21,24,2624],[6,15,16,82,83,84,89,90,91,92],[6,15,16,82,83,84,89,90,91],[6,15,16,17,18,82,83,84,89,90,91],[6,15,16,82,83,84,89,90,91],[6,15,16,82,83,84,89,90,91],[6,82,83,84],[3,7],[6,82,83,84],[4,5]]
def j8:Cmd:=ao (g1 [] Tryz.f244 lY 1 [])
@[go_sem] def MD(a:Cmd):Cmd:=ao (g1 [] Tryz.f244 lY 2 [a])
def mH:Cmd:=MD j8
def iu:Cmd:=ao (g1 [] Tryz.f244 lY 3 [])
def mI:Cmd:=ao (g1 [] Tryz.f244 lY 4 [])
@[go_sem] def ME(a b c d:Cmd):Cmd:=ao (g1 [] Tryz.f244 lY 5 [a,b,c,d])
def qV:Cmd:=ME j8 mH iu mI
@[go_sem] def QX(a b c d e:Cmd):Cmd:=ao (g1 [] Tryz.f244 lY 0 [a,b,c,d,e])
def HG:Cmd:=QX j8 mH iu mI qV
def AH:FD:=⟨2,[[],[]],[.t 4,.t 5],HG⟩
def DF:Cmd:=ao (g0 Tryz.f245 [[1,3,5],[1,3,5,6],[1,3,6,7],[2,3,2,4,2,7,1,9,2,9,3,9,4,9,7,9,8,9],[1,3,6,7,8],[]])
def vO:FD:=⟨3,[],[],DF⟩
def x9:Cmd:=ao (g0 Tryz.f246 [[1,2],[1,2,4],[]])
def pf:FD:=⟨2,[],[],x9⟩
def AI:Cmd:=ao (g0 Tryz.f247 [[2,3,4],[2,3,4,9],[4],[4],[4,6,4,8]])
def sQ:FD:=⟨2,[aL],[.cell 4 7 true],AI⟩
def jT:Cmd:=ao (g0 Tryz.f248 [[1,2,4],[1,2,4,6,7],[1,2,4,6,7,20],[4,5],[2,4,6,7,8],[2,4,6,7,8,30],[4,5],[2,4,6,8,9],[4,6,8,9,11],[4,6,8,47],[4,6,8],[4,6,8,47,48],[4,5],[4,6,8,51],[4,5],[4,6,8,70],[4,5],[4,5]])
def gP:FD:=⟨2,[aH,[]],[.cell 4 3 true,.t 5],jT⟩
def AJ:Cmd:=ao (g0 Tryz.f249 [[2,3,4],[2,3,4,13],[4,5],[4,5],[0,2]])
def tQ:FD:=⟨2,[aH,[]],[.cell 4 3 true,.t 5],AJ⟩
def gV:dm:=[[0],[0,3],[0,3,9,10,11],[0,3],[0,3,9,10,11],[],[0,3,9,10,11,12],[0,3,9,10,11],[0,3,5,9,10,11],[0,3,9,10,11],[0,3,9,10,11,20],[0,3,9,10,11],[0,3,9,10,11],[0,6],[6,25,26,27],[6],[6,25,26,27],[33,2192],[6,25,26,27,28],[6,25,26,27],[6,8,25,26,27],[6,25,26,27],[6,25,26,27],[2]]
def gk:Cmd:=ao (g1 [] Tryz.f250 gV 1 [])
def kZ:Cmd:=ao (g1 [] Tryz.f250 gV 2 [])
@[go_sem] def xE(a b:Cmd):Cmd:=ao (g1 [] Tryz.f250 gV 0 [a,b])
def mJ:Cmd:=xE gk kZ
def gW:FD:=⟨1,[[.o 5 [.o 2 [],.o 0 [],.o 2 [],.o 0 []]]],[.t 2],mJ⟩
def E2:Cmd:=ao (g0 Tryz.f251 [[0,1],[0,1],[0,1,9],[4,5,6],[0,1,14],[4,5,6],[7,8],[4,5,6]])
def xF:FD:=⟨2,[[.o 2 []],[.o 2 []],[]],[.t 4,.t 5,.t 6],E2⟩
def Nh:Cmd:=ao (g0 Tryz.f252 [[0,1],[5],[4]])
def E3:FD:=⟨2,[[.o 2 []]],[.t 4],Nh⟩
def BS:Cmd:=ao (g0 Tryz.f253 [[1,2],[1,2,7],[2,3],[1,2,11],[2,3],[2,3],[2,4]])
def uV:FD:=⟨1,[aH,[]],[.cell 2 3 true,.t 3],BS⟩
def HI:Cmd:=ao (g0 Tryz.f254 [[1,2],[1,2,7],[2,3],[2,3],[2,4]])
def AK:FD:=⟨1,[aH,[]],[.cell 2 3 true,.t 3],HI⟩
def DG:dm:=[[1,2,3,4,5,10],[1,2,4,5,10,12,13],[1,2,4,5,10,12,13,14],[10,12,13],[1,2,4,5,10,12,13,14],[5,10,12],[1,2,4,5,10,12,13,14,28],[1,2,4,5,10,12,13,14],[1,2,4,5,10,12,13,14],[1,2,4,5,10,12,13,14],[10,11]]
def aW:Cmd:=ao (g1 [] Tryz.f255 DG 1 [])
@[go_sem] def NG(a:Cmd):Cmd:=ao (g1 [] Tryz.f255 DG 0 [a])
def E4:Cmd:=NG aW
def qW:FD:=⟨5,[aH,[]],[.cell 10 3 true,.t 11],E4⟩
def Pp:Cmd:=ao (g0 Tryz.f256 [[1,2,4],[4,5]])
def Hc:FD:=⟨2,[aH,[]],[.cell 4 3 true,.t 5],Pp⟩
def KM:Cmd:=ao (g0 Tryz.f257 [[1,2,4],[4,5]])
def Dq:FD:=⟨2,[aH,[]],[.cell 4 3 true,.t 5],KM⟩
def tT:Cmd:=ao (g0 Tryz.f258 [[0,1],[0,1],[0,1,6],[4,5],[0,1,10],[4,5],[4,5]])
def nH:FD:=⟨2,[[.o 2 []],[]],[.t 4,.t 5],tT⟩
def Gq:Cmd:=ao (g0 Tryz.f259 [[0],[3],[],[3,4],[2],[3,6],[3,6],[3,6],[3,6],[2],[3,11],[3,11],[3,11],[3,11],[3,11],[3,11],[11],[2],[2]])
def yQ:FD:=⟨1,[[]],[.t 2],Gq⟩
def HJ:dm:=[[0,1],[0,1],[0,1,15],[4],[0,1],[0,1,5],[0,1,5,23,24,25],[5],[0,1,5,23,24,25],[22],[0,1,5,23,24,25,26],[0,1,5,23,24,25],[0,1,5,6,7,23,24,25],[0,1,5,6,8,23,24,25],[0,1,5,6,8,23,24,25,36],[0,1,5,6,8,23,24,25],[0,1,5,23,24,25],[0,1,5,23,24,25],[4]]
def og:Cmd:=ao (g1 [] Tryz.f269 HJ 1 [])
@[go_sem] def Ua(a:Cmd):Cmd:=ao (g1 [] Tryz.f269 HJ 0 [a])
def Dr:Cmd:=Ua og
def wQ:FD:=⟨2,[[.o 2 []]],[.t 4],Dr⟩
def KN:Cmd:=ao (g0 Tryz.f270 [[0,2],[0,2,4],[0],[0,2],[0,2,8],[0,2],[0,2],[2]])
def pu:FD:=⟨1,[[]],[.t 2],KN⟩
def Pq:Cmd:=ao (g0 Tryz.f271 [[1,2],[2]])
def Hd:FD:=⟨1,[[.o 2 [],.o 0 [],.o 0 []]],[.cell 2 3 true],Pq⟩
def He:Cmd:=ao (g0 Tryz.f272 [[0,1],[0,1,11],[0,1],[0,1,6],[4,5]])
def AL:FD:=⟨2,[[.o 2 []],[]],[.t 4,.t 5],He⟩
def Ds:Cmd:=ao (g0 Tryz.f273 [[0,1],[0,1,9],[4,5],[4,5]])
def wR:FD:=⟨2,[[.o 2 []],[]],[.t 4,.t 5],Ds⟩
def yy:Cmd:=ao (g0 Tryz.f274 [[0,1],[0,1],[0,1,6],[4,5],[0,1,11],[4,5],[4,5]])
def rL:FD:=⟨2,[[.o 2 []],[]],[.t 4,.t 5],yy⟩
def Ni:Cmd:=ao (g0 Tryz.f275 [[1,2,3,6],[1,2,3,6,8],[1,4],[1,2,3,6,8,10],[],[1,2,3,6,8,10,29],[1,2,6,8,9,10],[1,2,6,8,10,11,12],[1,2,6,8,9,10],[1,2,6,8,9,55],[1,2,6,8,9],[1,2,6,8,9,66],[1,6,67],[6,7],[1,6,9],[6,8,9],[6,7]])
def vP:FD:=⟨3,[aH,[]],[.cell 6 3 true,.t 7],Ni⟩
def uA:Cmd:=ao (g0 Tryz.f276 [[0,1],[4]])
def kl:FD:=⟨2,[[]],[.t 4],uA⟩
def E5:Cmd:=ao (g0 Tryz.f277 [[0],[2]])
def xG:FD:=⟨1,[[]],[.t 2],E5⟩
def yR:Cmd:=ao (g0 Tryz.f279 [[1],[2]])
def qX:FD:=⟨1,[[]],[.t 2],yR⟩
def vQ:dm:=[[0,1],[0,1,7,8],[],[0,1,7,8],[],[0,1,7,8,9],[0,1,7,8],[0,1,5,7,8],[0,1,5,7,8,16],[4],[0,1,7,8],[4]]
def ef:Cmd:=ao (g1 [] Tryz.f280 vQ 1 [])
@[go_sem] def FY(a:Cmd):Cmd:=ao (g1 [] Tryz.f280 vQ 0 [a])
def xk:Cmd:=FY ef
def oj:FD:=⟨2,[[]],[.t 4],xk⟩
def jd:dm:=[[0,1],[0,1,10],[0,1],[0,5,6],[0,6,26],[0,6],[0,7],[7,8],[7],[7,8],[30],[7,8,37],[7,8],[7,8],[],[4]]
def cS:Cmd:=ao (g1 [] Tryz.f281 jd 1 [])
@[go_sem] def rM(a:Cmd):Cmd:=ao (g1 [] Tryz.f281 jd 0 [a])
def jq:Cmd:=rM cS
def eH:FD:=⟨2,[[]],[.t 4],jq⟩
def CT:dm:=[[0,1],[0,1,5],[5,13,14,15],[5],[5,13,14,15],[1000],[5,13,14,15,16],[5,13,14,15],[5,7,13,14,15],[5,13,14,15],[5,13,14,15],[4]]
def jU:Cmd:=ao (g1 [] Tryz.f282 CT 1 [])
@[go_sem] def MF(a:Cmd):Cmd:=ao (g1 [] Tryz.f282 CT 0 [a])
def DH:Cmd:=MF jU
def vR:FD:=⟨2,[[]],[.t 4],DH⟩
def Bg:dm:=[[0,1,2,6],[0,1,2,6,15,16],[],[0,1,2,6,15,16],[1000,1001,1002,1003,1004],[0,1,2,6,15,16,17],[0,1,2,6,15,16],[0,1,2,6,7,15,16],[0,1,2,6,7,15,16,31],[],[0,1,2,6,15,16],[0,1,2,6,15,16]]
def rN:Cmd:=ao (g1 [] Tryz.f283 Bg 1 [])
@[go_sem] def KO(a:Cmd):Cmd:=ao (g1 [] Tryz.f283 Bg 0 [a])
def vS:Cmd:=KO rN
def oO:FD:=⟨3,[],[],vS⟩
def mY:dm:=[[0,1,2,3,4,5,13,14],[0,1,2,3,5],[0,1,2,3,4,5,13,14],[1000,1001,1002,1003,1004],[0,1,2,3,4,5,13,14,15],[0,1,2,3,4,5,13,14],[0,1,2,3,4,5,8,13,14],[0,1,2,3,4,5,8,9,13,14],[0,1,2,3,4,5,13,14],[0,1,2,3,4,5,8,9,13,14],[1000,1001,1002,1003,1004],[0,1,2,3,4,5,8,9,13,14,21],[0,1,2,3,4,5,8,9,13,14],[0,1,2,3,4,5,8,9,10,13,14],[0,1,2,3,4,5,8,9,13,14],[0,24,3,24,5,24,6,24,9,24,12,24,0,25,3,25],[0,1,2,3,4,5,8,9,13,14],[0,1,2,3,4,5,13,14],[0,1,2,3,5,11],[0,1,2,3,5,11,12],[],[0,1,2,3,5,11,12],[11,1000,1001,1002,1003,1004],[0,1,2,3,5,11,12,61],[0,1,2,3,5,11,12],[0,1,2,3,5,11,12],[0,1,2,3,5,11,12],[0,22,3,22],[0,1,2,3,5,11,12]]
def iS:Cmd:=ao (g1 [] Tryz.f284 mY 1 [])
def iT:Cmd:=ao (g1 [] Tryz.f284 mY 2 [])
@[go_sem] def Hf(a b:Cmd):Cmd:=ao (g1 [] Tryz.f284 mY 3 [a,b])
def lk:Cmd:=Hf iS iT
@[go_sem] def J4(a b c:Cmd):Cmd:=ao (g1 [] Tryz.f284 mY 0 [a,b,c])
def Bh:Cmd:=J4 iS iT lk
def sR:FD:=⟨6,[],[],Bh⟩
def E6:Cmd:=ao (g0 Tryz.f285 [[0,4,5,6],[6],[]])
def xH:FD:=⟨3,[aL],[.cell 6 7 true],E6⟩
def E7:Cmd:=ao (g0 Tryz.f286 [[0,4,5,6],[6],[]])
def xI:FD:=⟨3,[aL],[.cell 6 7 true],E7⟩
def jB:dm:=[[0,1,2,3,6],[0,1,2,3,6,7],[0,1,2,3],[0,1,2,3,6,7],[6,1000,1001,1002,1003],[0,1,2,3,6,7,14],[0,1,2,3,6,7],[0,1,2,3,6,7],[0,6,1,6,0,7,1,7,6,12,7,12,8,12,10,12,11,12,6,15,7,15,8,15,10,15,11,15],[0,1,2,3,6,7],[0,25,3,25],[0,1,2,3,6,7],[0,1,2,3,8],[],[0,1,2,3,8],[1000,1001,1002,1003],[0,1,2,3,8,63],[0,1,2,3,8],[0,1,2,3,8,9],[0,1,2,3,8],[0,1,2,3,8,9],[1000,1001,1002,1003],[0,1,2,3,8,9,69],[0,1,2,3,8,9],[0,1,2,3,8,9],[0,33,3,33],[0,1,2,3,8,9],[0,1,2,3,8]]
def fk:Cmd:=ao (g1 [] Tryz.f287 jB 1 [])
@[go_sem] def CU(a:Cmd):Cmd:=ao (g1 [] Tryz.f287 jB 2 [a])
def iI:Cmd:=CU fk
def iJ:Cmd:=ao (g1 [] Tryz.f287 jB 3 [])
@[go_sem] def E8(a b c:Cmd):Cmd:=ao (g1 [] Tryz.f287 jB 0 [a,b,c])
def vT:Cmd:=E8 fk iI iJ
def mZ:FD:=⟨4,[],[],vT⟩
def jh:Cmd:=ao (g0 Tryz.f288 [[0,1],[0,1,6],[0,1],[7777777,100000],[0,1],[0,1,16],[7777777,100000],[0],[7777777,100000],[4]])
def eZ:FD:=⟨2,[[]],[.t 4],jh⟩
def qY:dm:=[[0,1],[0,1],[0,1,25],[4,5],[0,1,30],[6,7],[4,5],[0,1,8],[0,8,9,10],[8,9,10],[0,8,9,10],[63,2408],[0,8,9,10,60],[0,8,9,10],[0,8,9,10],[8,9,10,11],[8,9,10,11,12],[8,9,10,11,12,13],[8,9,11,12],[8,9,10,11,12,13],[63,70,2408],[8,9,10,11,12,13,77],[8,9,10,11,12,13],[8,9,10,11,12,13,14],[],[8,9,10,11,12,13,14,120],[8,9,10,11,12,13,14],[8,9,10,11,12,13,14,15],[8,9,10,11,12,13,14,15,123,124,125],[8,9,10,11,12,13,14,15],[8,9,10,11,12,13,14,15,123,124,125],[63,70,2408],[8,9,10,11,12,13,14,15,123,124,125,126],[8,9,10,11,12,13,14,15,123,124,125],[8,9,10,11,12,13,14,15,16,17,123,124,125],[8,9,10,11,12,13,14,15,123,124,125],[8,9,10,11,12,13,14,15,123,124,125],[8,9,10,11,12,13,14],[8,9,10,11,12,13],[8,9,10,11,12,13],[4,5]]
def iO:Cmd:=ao (g1 [] Tryz.f289 qY 1 [])
@[go_sem] def J5(a:Cmd):Cmd:=ao (g1 [] Tryz.f289 qY 2 [a])
def kO:Cmd:=J5 iO
def Bj:Cmd:=ao (g1 [] Tryz.f289 qY 3 [])
@[go_sem] def NH(a b c:Cmd):Cmd:=ao (g1 [] Tryz.f289 qY 0 [a,b,c])
def yS:Cmd:=NH iO kO Bj
def qZ:FD:=⟨2,[[.o 2 []],[.o 2 []]],[.t 4,.t 5],yS⟩
def HK:dm:=[[0,1],[0,1],[0,1,5],[0,1,5,6],[1,5,6,21,22,23],[5,6],[1,5,6,21,22,23],[20,38],[1,5,6,21,22,23,24],[1,5,6,21,22,23],[1,5,6,8,21,22,23],[1,5,9,21,22,23],[1,5,6,21,22,23],[1,5,6,21,22,23],[4]]
def sT:Cmd:=ao (g1 [] Tryz.f290 HK 1 [])
@[go_sem] def Ub(a:Cmd):Cmd:=ao (g1 [] Tryz.f290 HK 0 [a])
def JT:Cmd:=Ub sT
def BT:FD:=⟨2,[[]],[.t 4],JT⟩
def HL:dm:=[[0,1],[0,1,14],[0,1],[0,1,5],[0,1,5,6],[0,1,5,6,21,22,23],[0,5,6],[0,1,5,6,21,22,23],[20],[0,1,5,6,21,22,23,24],[0,1,5,6,21,22,23],[0,1,5,6,7,8,21,22,23],[0,1,5,6,7,8,9,21,22,23],[0,1,5,6,7,8,9,21,22,23,31],[0,1,5,6,7,8,9,21,22,23],[0,1,5,6,21,22,23],[0,1,5,6,21,22,23],[5],[4]]
def kX:Cmd:=ao (g1 [] Tryz.f300 HL 1 [])
@[go_sem] def Uc(a:Cmd):Cmd:=ao (g1 [] Tryz.f300 HL 0 [a])
def JU:Cmd:=Uc kX
def wS:FD:=⟨2,[[.o 2 []]],[.t 4],JU⟩
def HM:dm:=[[0,1],[0,1],[0,1,5],[0,1,5,6],[1,5,6,17,18,19],[5],[1,5,6,17,18,19],[16],[1,5,6,17,18,19,20],[1,5,6,17,18,19],[1,5,6,7,8,17,18,19],[1,5,6,7,8,9,17,18,19],[1,5,6,7,8,9,17,18,19,27],[1,5,6,7,8,9,17,18,19],[1,5,6,17,18,19],[1,5,6,17,18,19],[4]]
def oA:Cmd:=ao (g1 [] Tryz.f301 HM 1 [])
@[go_sem] def Ud(a:Cmd):Cmd:=ao (g1 [] Tryz.f301 HM 0 [a])
def JV:Cmd:=Ud oA
def BU:FD:=⟨2,[[.o 2 []]],[.t 4],JV⟩
def tU:Cmd:=ao (g0 Tryz.f302 [[0,1,2,6],[0,1,2,6,15],[6,7],[6,7]])
def nI:FD:=⟨3,[aH,[]],[.cell 6 3 true,.t 7],tU⟩
def lE:dm:=[[0,1],[0,1,7,8],[],[0,1,7,8],[],[0,1,7,8,9],[0,1,7,8],[0,1,5,7,8],[0,1,5,7,8,16],[4],[0,1,7,8],[4]]
def uB:Cmd:=ao (g1 [] Tryz.f303 lE 1 [])
@[go_sem] def wT(a:Cmd):Cmd:=ao (g1 [] Tryz.f303 lE 0 [a])
def wU:Cmd:=wT uB
def lF:FD:=⟨2,[[]],[.t 4],wU⟩
def Pr:Cmd:=ao (g0 Tryz.f305 [[0,1],[6,7],[4,5],[8,9],[4,5]])
def Hg:FD:=⟨2,[[],[]],[.t 4,.t 5],Pr⟩
def E9:dm:=[[0,1],[0,1,6],[0,1,6,7],[0,1,6,7,8],[6,7],[0,1,6,7,8],[11],[0,1,6,7,8,16],[0,1,6,7,8],[0,1,6,7,8],[0,1,6,7,8],[4,5]]
def lG:Cmd:=ao (g1 [] Tryz.f306 E9 1 [])
@[go_sem] def Pt(a:Cmd):Cmd:=ao (g1 [] Tryz.f306 E9 0 [a])
def Gr:Cmd:=Pt lG
def yT:FD:=⟨2,[[.o 2 []],[]],[.t 4,.t 5],Gr⟩
def zp:Cmd:=ao (g0 Tryz.f307 [[0],[2]])
def qE:FD:=⟨1,[[]],[.t 2],zp⟩
def AM:Cmd:=ao (g0 Tryz.f308 [[0,1,2,3,4],[0,1,2,3,4,14],[10],[2,3,4,11],[10],[]])
def sU:FD:=⟨5,[[]],[.t 10],AM⟩
def Gs:dm:=[[0,1,2],[0,1,2,7,8],[0,1,2,7,8,14,15,16],[0,1,7,8],[0,1,2,7,8,14,15,16],[1000],[0,1,2,7,8,14,15,16,17],[0,1,2,7,8,14,15,16],[0,1,2,7,8,9,10,14,15,16],[0,1,2,8,9,11,14,15,16],[0,1,2,7,8,9,11,14,15,16],[0,1,2,7,9,12,14,15,16],[0,1,2,7,8,14,15,16],[0,1,2,7,8,14,15,16],[0,1,13],[13],[6]]
def mK:Cmd:=ao (g1 [] Tryz.f309 Gs 1 [])
@[go_sem] def QY(a:Cmd):Cmd:=ao (g1 [] Tryz.f309 Gs 0 [a])
def HN:Cmd:=QY mK
def AN:FD:=⟨3,[[]],[.t 6],HN⟩
def KP:Cmd:=ao (g0 Tryz.f310 [[0,1,2],[8],[6,8],[6,7]])
def Dt:FD:=⟨3,[[],[]],[.t 6,.t 7],KP⟩
def KQ:Cmd:=ao (g0 Tryz.f316 [[0,1,2],[0,1,6],[6,7]])
def Du:FD:=⟨3,[[],[]],[.t 6,.t 7],KQ⟩
def Wi:Cmd:=ao (g0 Tryz.f317 [[0,1],[6],[4,5]])
def Ue:FD:=⟨2,[[],[]],[.t 4,.t 5],Wi⟩
def KR:Cmd:=ao (g0 Tryz.f318 [[0,1],[0,1,6],[0,1,6,7],[0,1,6,7,8],[0,1,6,7,8,9],[0,1,6,7,8,9,10],[0,1,6,7,9,11],[0,1,6,7,9,11,12],[0,1,6,7,9,12,13],[0,1,7,9,12,13],[0,1,4],[4,5]])
def Dv:FD:=⟨2,[[],[]],[.t 4,.t 5],KR⟩
def KS:Cmd:=ao (g0 Tryz.f319 [[0,1,2],[0,1,2,15],[0,1,2],[2,8],[6,7],[]])
def Dw:FD:=⟨3,[[],[]],[.t 6,.t 7],KS⟩
def Fa:dm:=[[0,1,2,3,4],[0],[0,1,2,3,4],[],[0,1,2,3,4,24],[0,1,2,3,4],[0,1,2,3,4],[0,1,2,3,4],[10]]
def gI:Cmd:=ao (g1 [] Tryz.f320 Fa 1 [])
@[go_sem] def Pu(a:Cmd):Cmd:=ao (g1 [] Tryz.f320 Fa 0 [a])
def Gt:Cmd:=Pu gI
def yU:FD:=⟨5,[[]],[.t 10],Gt⟩
end
noncomputable def ajh:List (Nat×FD):=[(270,pu),
 (305,Hg),
 (307,qE),
 (310,Dt),
 (316,Du),
 (317,Ue),
 (318,Dv),
 (319,Dw),
 (171,wG),
 (194,rG),
 (224,rI),
 (227,uT),
 (231,AC),
 (232,uU),
 (233,BR),
 (234,AD),
 (251,xF),
 (258,nH),
 (269,wQ),
 (273,wR),
 (274,rL),
 (277,xG),
 (289,qZ),
 (290,BT),
 (300,wS),
 (301,BU),
 (306,yT),
 (308,sU),
 (309,AN),
 (320,yU),
 (164,kL),
 (226,xD),
 (34,gp),
 (36,i9),
 (38,jE),
 (78,gE),
 (95,ie),
 (96,jP),
 (97,kK),
 (100,oS),
 (115,nZ),
 (152,fW),
 (163,rC),
 (165,iY),
 (172,dx),
 (174,bw),
 (177,gU),
 (192,jS),
 (225,kv),
 (250,gW),
 (276,kl),
 (280,oj),
 (281,eH),
 (288,eZ),
 (303,lF),
 (64,iH),
 (65,kj),
 (98,yn),
 (106,wD),
 (110,An),
 (114,iX),
 (123,nF),
 (133,tH),
 (134,iq),
 (135,mD),
 (162,oM),
 (167,BH),
 (169,pX),
 (170,qU),
 (176,tK),
 (193,tN),
 (195,xB),
 (215,tP),
 (222,xC),
 (223,Dm),
 (237,mq),
 (249,tQ),
 (302,nI),
 (45,xV),
 (105,rA),
 (109,yJ),
 (121,yM),
 (122,BD),
 (130,yN),
 (131,BE),
 (158,BG),
 (166,sM),
 (168,n8),
 (185,rD),
 (189,rF),
 (228,wK),
 (229,vM),
 (230,pZ),
 (248,gP),
 (252,E3),
 (256,Hc),
 (257,Dq),
 (271,Hd),
 (272,AL),
 (275,vP),
 (13,jN),
 (43,ip),
 (47,iG),
 (54,pP),
 (56,nU),
 (60,lR),
 (63,uM),
 (88,ez),
 (89,xx),
 (90,pR),
 (104,iM),
 (107,qT),
 (108,lW),
 (120,yL),
 (124,xz),
 (127,As),
 (132,fO),
 (159,n7),
 (180,gF),
 (190,uQ),
 (191,pY),
 (239,sO),
 (240,sP),
 (247,sQ),
 (253,uV),
 (254,AK),
 (255,qW),
 (118,tF),
 (178,tL),
 (179,BJ),
 (181,wH),
 (182,gH),
 (238,qf),
 (241,wN),
 (242,qh),
 (243,gO),
 (244,AH),
 (245,vO),
 (246,pf),
 (279,qX),
 (282,vR),
 (283,oO),
 (284,sR),
 (285,xH),
 (286,xI),
 (287,mZ),
 (41,mj),
 (42,rp),
 (50,qD),
 (74,uk),
 (101,uN),
 (102,BC),
 (103,yp),
 (112,vH),
 (113,JE),
 (116,gr),
 (117,fG),
 (143,yr),
 (173,pe),
 (175,BI),
 (183,yt),
 (184,pp),
 (186,CB),
 (187,CC),
 (8,jl),
 (10,Ag),
 (23,rk),
 (40,dM),
 (44,yF),
 (48,wx),
 (49,De),
 (51,uK),
 (52,tv),
 (53,EK),
 (72,nD),
 (75,wB),
 (99,rz),
 (111,yK),
 (119,Ap),
 (125,Aq),
 (126,Ar),
 (20,gD),
 (67,Gf),
 (69,Aj),
 (70,Cz),
 (136,G8),
 (137,ER),
 (138,Au),
 (141,wF),
 (142,sL),
 (198,Ha),
 (199,Hb),
 (200,wJ),
 (201,EV),
 (25,Bw),
 (27,xU),
 (76,nE),
 (81,po),
 (144,IP),
 (5,lQ),
 (21,V9),
 (22,DS),
 (24,kE),
 (28,IM),
 (73,T2),
 (82,Dg),
 (26,yE),
 (77,vF),
 (79,yG),
 (80,qS),
 (145,Dj),
 (146,BF),
 (202,rH),
 (203,uR),
 (204,EW),
 (205,yw),
 (259,yQ)]
def shL:List (Nat×List (List Sh)):=[(171,[[.o 2 []],[.o 2 []]]),
 (194,[[.o 2 []],[.o 2 []]]),
 (224,[[.o 2 []],[]]),
 (227,[[.o 2 []]]),
 (231,[[.o 2 [.o 2 []]]]),
 (232,[[.o 2 []]]),
 (233,[[.o 2 []],[.o 2 []]]),
 (234,[[.o 2 []]]),
 (251,[[.o 2 []],[.o 2 []]]),
 (258,[[.o 2 []],[]]),
 (269,[[.o 2 []],[]]),
 (273,[[.o 2 []],[.o 2 []]]),
 (274,[[.o 2 []],[.o 2 []]]),
 (277,[[.o 2 []]]),
 (289,[[.o 2 []],[.o 2 []]]),
 (290,[[.o 2 []],[]]),
 (300,[[.o 2 []],[.o 2 []]]),
 (301,[[.o 2 []],[.o 2 []]]),
 (306,[[.o 2 []],[]]),
 (309,[[.o 2 []],[.o 2 []],[]]),
 (34,[[.o 8 aL],[]]),
 (36,[[.o 10 [.o 0 [],.o 5 [],.o 0 [],.o 2 [],.o 0 [],.o 0 [],.o 2 [],.o 0 [],.o 0 []]],[]]),
 (38,[[.o 5 [.o 2 [],.o 0 [],.o 2 [],.o 0 []]],[]]),
 (78,[[.o 10 [.o 0 [],.o 5 [],.o 0 [],.o 2 [],.o 0 [],.o 0 [],.o 2 [],.o 0 [],.o 0 []]]]),
 (95,[[.o 8 aL],[]]),
 (96,[[.o 10 [.o 0 [],.o 5 [],.o 0 [],.o 2 [],.o 0 [],.o 0 [],.o 2 [],.o 0 [],.o 0 []]],[]]),
 (97,[[.o 5 [.o 2 [],.o 0 [],.o 2 [],.o 0 []]],[]]),
 (100,[[.o 2 []],[]]),
 (115,[[.o 2 []]]),
 (152,[[.o 2 []],[.o 2 []]]),
 (163,[[.o 2 []],[]]),
 (165,[[.o 2 []],[.o 2 []]]),
 (172,[[.o 5 [.o 2 [],.o 0 [],.o 2 [],.o 0 []]],[.o 2 []],[]]),
 (174,[[],[],[.o 5 [.o 2 [],.o 0 [],.o 2 [],.o 0 []]]]),
 (192,[[.o 2 []]]),
 (225,[[.o 2 []]]),
 (236,[[.o 5 [.o 2 [],.o 0 [],.o 2 [],.o 0 []]],[]]),
 (250,[[.o 2 [.o 5 [.o 2 [],.o 0 [],.o 2 [],.o 0 []]]]]),
 (276,[[.o 2 [.o 2 []]],[]]),
 (280,[[.o 2 []],[]]),
 (281,[[.o 8 aL],[]]),
 (303,[[.o 2 [.o 2 []]],[]]),
 (64,[aH]),
 (65,[aH,aH]),
 (106,[aH]),
 (110,[aH,[]]),
 (114,[aH,aH]),
 (123,[aH]),
 (133,[aH]),
 (134,[aH]),
 (135,[aH,aH]),
 (162,[[],[.o 2 []],[]]),
 (167,[[.o 2 []]]),
 (170,[aH]),
 (176,[aH,aH]),
 (193,[aH]),
 (195,[[.o 2 []],[]]),
 (215,[aH]),
 (222,[[.o 2 []]]),
 (223,[[.o 2 []]]),
 (237,[aH,aH]),
 (249,[aH,aH]),
 (302,[[],[.o 2 []],[]]),
 (45,[aH,[]]),
 (105,[[],[.o 4 aH]]),
 (109,[aH,aH,[]]),
 (121,[aH,aH,[]]),
 (122,[aH,aH,[]]),
 (130,[aH,aH,[]]),
 (131,[aH,aH,[]]),
 (158,[aH,aH,[]]),
 (168,[aH,aH,[],[]]),
 (185,[aH,aH,[],[]]),
 (189,[aH,aH,[],[]]),
 (228,[aH,[],[]]),
 (229,[aH,aH,[]]),
 (230,[[],[.o 2 [],.o 0 [],.o 0 []],[],[]]),
 (248,[aH,[]]),
 (252,[[.o 2 []],[]]),
 (256,[aH,[]]),
 (257,[aH,[]]),
 (271,[aH]),
 (272,[[.o 2 []],[]]),
 (275,[[.o 2 [],.o 0 [],.o 0 []],[],[]]),
 (13,[aL,aH]),
 (43,[aL]),
 (47,[aL,[]]),
 (54,[aL,aL,[]]),
 (56,[aL]),
 (60,[aL,aL,[]]),
 (63,[aL]),
 (88,[aL,aL]),
 (90,[aL,aL,[]]),
 (104,[aH]),
 (107,[[.o 8 aL]]),
 (120,[aL,aL,[],[],[]]),
 (124,[aH]),
 (127,[aL,aL,[]]),
 (132,[aL,[],[]]),
 (159,[aH,[],aH,[]]),
 (180,[aL,aL]),
 (190,[aL]),
 (191,[aH,[],[],[]]),
 (239,[aH,aH]),
 (240,[aH,aH]),
 (247,[aL,aL]),
 (253,[aL]),
 (254,[aL]),
 (255,[aH,[],[],[],[]]),
 (118,[[.o 0 [],.o 5 [.o 2 [],.o 0 [],.o 2 [],.o 0 []]],[.o 8 aL],[]]),
 (178,[[.o 0 [],.o 5 [.o 2 [],.o 0 [],.o 2 [],.o 0 []]],[.o 8 aL],[]]),
 (181,[[.o 0 [],.o 5 [.o 2 [],.o 0 [],.o 2 [],.o 0 []]],[.o 8 aL],[]]),
 (182,[[.o 0 [],.o 5 [.o 2 [],.o 0 [],.o 2 [],.o 0 []]],[.o 8 aL],[]]),
 (238,[[.o 0 [],.o 5 [.o 2 [],.o 0 [],.o 2 [],.o 0 []]],[.o 8 aL]]),
 (241,[aL,[],[]]),
 (242,[[.o 0 [],.o 5 [.o 2 [],.o 0 [],.o 2 [],.o 0 []]]]),
 (243,[aH,aH,aL,[]]),
 (244,[[.o 0 [],.o 5 [.o 2 [],.o 0 [],.o 2 [],.o 0 []]],[]]),
 (245,[[],[],aL]),
 (279,[aL]),
 (285,[[],aL,aL]),
 (286,[[],aL,aL]),
 (41,[[.o 0 [],.o 5 [.o 2 [],.o 0 [],.o 2 [],.o 0 []]]]),
 (42,[[.o 0 [],.o 5 [.o 2 [],.o 0 [],.o 2 [],.o 0 []]]]),
 (50,[[.o 0 [],.o 5 [.o 2 [],.o 0 [],.o 2 [],.o 0 []]],[.o 0 [],.o 5 [.o 2 [],.o 0 [],.o 2 [],.o 0 []]]]),
 (102,[[.o 2 []]]),
 (103,[[.o 2 []],[.o 2 []]]),
 (112,[[.o 0 [],.o 5 [.o 2 [],.o 0 [],.o 2 [],.o 0 []]],[.o 0 [],.o 5 [.o 2 [],.o 0 [],.o 2 [],.o 0 []]]]),
 (116,[[],[.o 2 []],aH]),
 (143,[[],aH]),
 (173,[[.o 2 [],.o 0 [],.o 2 [],.o 0 []],[.o 2 []]]),
 (175,[aH]),
 (183,[[.o 0 [],.o 5 [.o 2 [],.o 0 [],.o 2 [],.o 0 []]],[]]),
 (184,[[.o 0 [],.o 5 [.o 2 [],.o 0 [],.o 2 [],.o 0 []]],[]]),
 (186,[[.o 0 [],.o 5 [.o 2 [],.o 0 [],.o 2 [],.o 0 []]],[.o 0 [],.o 5 [.o 2 [],.o 0 [],.o 2 [],.o 0 []]]]),
 (187,[[.o 0 [],.o 5 [.o 2 [],.o 0 [],.o 2 [],.o 0 []]],[.o 0 [],.o 5 [.o 2 [],.o 0 [],.o 2 [],.o 0 []]]]),
 (8,[[.o 8 aL,.o 0 [],.o 0 []],[.o 0 [],.o 5 [.o 2 [],.o 0 [],.o 2 [],.o 0 []],.o 0 [],.o 2 [],.o 0 [],.o 0 [],.o 2 [],.o 0 [],.o 0 []]]),
 (10,[[.o 8 aL,.o 0 [],.o 0 []],[.o 0 [],.o 5 [.o 2 [],.o 0 [],.o 2 [],.o 0 []],.o 0 [],.o 2 [],.o 0 [],.o 0 [],.o 2 [],.o 0 [],.o 0 []],[.o 0 [],.o 5 [.o 2 [],.o 0 [],.o 2 [],.o 0 []],.o 0 [],.o 2 [],.o 0 [],.o 0 [],.o 2 [],.o 0 [],.o 0 []]]),
 (23,[[.o 8 aL,.o 0 [],.o 0 []],[]]),
 (40,[[.o 8 aL,.o 0 [],.o 0 []]]),
 (44,[[.o 2 [],.o 0 [],.o 2 [],.o 0 []]]),
 (48,[[.o 8 aL,.o 0 [],.o 0 []],[.o 10 [.o 0 [],.o 5 [],.o 0 [],.o 2 [],.o 0 [],.o 0 [],.o 2 [],.o 0 [],.o 0 []]]]),
 (49,[[.o 8 aL,.o 0 [],.o 0 []]]),
 (51,[[.o 0 [],.o 5 [.o 2 [],.o 0 [],.o 2 [],.o 0 []]],[.o 8 aL],[]]),
 (52,[[.o 8 aL,.o 0 [],.o 0 []],[.o 0 [],.o 5 [.o 2 [],.o 0 [],.o 2 [],.o 0 []]],[],aL]),
 (53,[[],aL,[.o 8 aL]]),
 (72,[[.o 8 aL,.o 0 [],.o 0 []],aL]),
 (99,[aL]),
 (111,[[.o 0 [],.o 5 [.o 2 [],.o 0 [],.o 2 [],.o 0 []],.o 0 [],.o 2 [],.o 0 [],.o 0 [],.o 2 [],.o 0 [],.o 0 []]]),
 (119,[[.o 8 aL,.o 0 [],.o 0 []],[.o 0 [],.o 5 [.o 2 [],.o 0 [],.o 2 [],.o 0 []]]]),
 (125,[[.o 8 aL,.o 0 [],.o 0 []],[.o 0 [],.o 5 [.o 2 [],.o 0 [],.o 2 [],.o 0 []],.o 0 [],.o 2 [],.o 0 [],.o 0 [],.o 2 [],.o 0 [],.o 0 []],[.o 0 [],.o 5 [.o 2 [],.o 0 [],.o 2 [],.o 0 []],.o 0 [],.o 2 [],.o 0 [],.o 0 [],.o 2 [],.o 0 [],.o 0 []]]),
 (126,[[.o 8 aL,.o 0 [],.o 0 []],[.o 0 [],.o 5 [.o 2 [],.o 0 [],.o 2 [],.o 0 []],.o 0 [],.o 2 [],.o 0 [],.o 0 [],.o 2 [],.o 0 [],.o 0 []],[.o 0 [],.o 5 [.o 2 [],.o 0 [],.o 2 [],.o 0 []],.o 0 [],.o 2 [],.o 0 [],.o 0 [],.o 2 [],.o 0 [],.o 0 []]]),
 (147,[[.o 8 aL,.o 0 [],.o 0 []],[.o 0 [],.o 5 [.o 2 [],.o 0 [],.o 2 [],.o 0 []],.o 0 [],.o 2 [],.o 0 [],.o 0 [],.o 2 [],.o 0 [],.o 0 []]]),
 (20,[aH]),
 (67,[[],[.o 2 []],[]]),
 (69,[aH,aH]),
 (70,[[.o 2 []]]),
 (136,[[.o 2 []]]),
 (137,[[.o 2 []]]),
 (138,[[.o 2 []],[]]),
 (141,[aH]),
 (142,[aH,aH]),
 (198,[[.o 2 []],[]]),
 (199,[[.o 2 []],[.o 2 []]]),
 (200,[[.o 2 []],[.o 2 []]]),
 (201,[[.o 2 []],[.o 2 []]]),
 (25,[[.o 5 [.o 2 [],.o 0 [],.o 2 [],.o 0 []]],[.o 2 [],.o 0 [],.o 2 [],.o 0 []]]),
 (27,[[.o 0 [],.o 5 [.o 2 [],.o 0 [],.o 2 [],.o 0 []]],[.o 0 [],.o 5 [.o 2 [],.o 0 [],.o 2 [],.o 0 []]]]),
 (76,[[.o 2 []],[.o 2 []]]),
 (81,[aH,aH]),
 (144,[[.o 2 []]]),
 (5,[[],[],[.o 5 []]]),
 (28,[aL,aL]),
 (82,[aH,aH]),
 (12,[[.o 8 aL,.o 0 [],.o 0 []],[.o 0 [],.o 5 [.o 2 [],.o 0 [],.o 2 [],.o 0 []],.o 0 [],.o 2 [],.o 0 [],.o 0 [],.o 2 [],.o 0 [],.o 0 []],[.o 0 [],.o 5 [.o 2 [],.o 0 [],.o 2 [],.o 0 []],.o 0 [],.o 2 [],.o 0 [],.o 0 [],.o 2 [],.o 0 [],.o 0 []]]),
 (19,[[.o 8 aL,.o 0 [],.o 0 []],[.o 0 [],.o 5 [.o 2 [],.o 0 [],.o 2 [],.o 0 []],.o 0 [],.o 2 [],.o 0 [],.o 0 [],.o 2 [],.o 0 [],.o 0 []],[]]),
 (26,[[.o 8 aL,.o 0 [],.o 0 []],[.o 0 [],.o 7 [],.o 2 []],[.o 10 [.o 0 [],.o 5 [],.o 0 [],.o 2 [],.o 0 [],.o 0 [],.o 2 [],.o 0 [],.o 0 []]]]),
 (30,[[.o 8 aL,.o 0 [],.o 0 []],[.o 0 [],.o 5 [.o 2 [],.o 0 [],.o 2 [],.o 0 []],.o 0 [],.o 2 [],.o 0 [],.o 0 [],.o 2 [],.o 0 [],.o 0 []]]),
 (57,[[.o 8 aL,.o 0 [],.o 0 []]]),
 (77,[[.o 8 aL,.o 0 [],.o 0 []],[.o 0 [],.o 7 [],.o 2 []],[.o 10 [.o 0 [],.o 5 [],.o 0 [],.o 2 [],.o 0 [],.o 0 [],.o 2 [],.o 0 [],.o 0 []]]]),
 (80,[[.o 8 aL,.o 0 [],.o 0 []],[],[],[.o 0 [],.o 5 [.o 2 [],.o 0 [],.o 2 [],.o 0 []],.o 0 [],.o 2 [],.o 0 [],.o 0 [],.o 2 [],.o 0 [],.o 0 []],[.o 0 [],.o 5 [.o 2 [],.o 0 [],.o 2 [],.o 0 []],.o 0 [],.o 2 [],.o 0 [],.o 0 [],.o 2 [],.o 0 [],.o 0 []]]),
 (145,[[.o 0 [],.o 7 [],.o 2 []]]),
 (148,[[.o 8 aL,.o 0 [],.o 0 []],[.o 0 [],.o 5 [.o 2 [],.o 0 [],.o 2 [],.o 0 []],.o 0 [],.o 2 [],.o 0 [],.o 0 [],.o 2 [],.o 0 [],.o 0 []]]),
 (149,[[.o 8 aL,.o 0 [],.o 0 []],[.o 0 [],.o 5 [.o 2 [],.o 0 [],.o 2 [],.o 0 []],.o 0 [],.o 2 [],.o 0 [],.o 0 [],.o 2 [],.o 0 [],.o 0 []]]),
 (150,[[.o 8 aL,.o 0 [],.o 0 []],[.o 0 [],.o 5 [.o 2 [],.o 0 [],.o 2 [],.o 0 []],.o 0 [],.o 2 [],.o 0 [],.o 0 [],.o 2 [],.o 0 [],.o 0 []]]),
 (151,[[.o 8 aL,.o 0 [],.o 0 []],[.o 0 [],.o 5 [.o 2 [],.o 0 [],.o 2 [],.o 0 []],.o 0 [],.o 2 [],.o 0 [],.o 0 [],.o 2 [],.o 0 [],.o 0 []]])]
def mdL:List (Nat×List Nat):=[(309,[1,0,0]),(172,[3,0,0]),(174,[2,0,0]),(177,[2,0,0]),(235,[0,1])]
def keepL:List Nat:=[44,59,84,99,111,203,208,211,261,282,285,286]
def ab:List Nat->Nat
 |[]=>0
 |x::l=>x+4294967296*ab l
def Lb(m:List Nat):Prop:=∀x∈m,x<4294967296
def dJ:Nat->Nat->List Nat
 |0,_=>[]
 |k+1,n=>n%4294967296::dJ k (n/4294967296)
def au(n:Nat):List Nat:=if h:n=0 then []else n%4294967296::au (n/4294967296)
termination_by n
decreasing_by omega
theorem fQ:au 0=[]:=by grind[au]
theorem rO{n}(h:n≠0):au n=n%4294967296::au (n/4294967296):=by rw[au,dif_neg h]
theorem nJ{n}:au n=[]↔n=0:=by
 grind[rO,fQ]
theorem aN(n):ab (au n)=n:=by
 induction n using Nat.strongRecOn with
 |ind n ih=>
  grind[fQ,rO,ab]
theorem bg(n):Lb (au n):=by
 induction n using Nat.strongRecOn with
 |ind n ih=>
  by_cases h:n=0
  ·subst h;rw[fQ];intro x hx;grind
  ·rw[rO h];intro x hx;rcases List.mem_cons.1 hx with rfl|hx
   ·omega
   ·exact ih _ ω x hx
theorem KT:Lb []:=fun x hx=>by grind
theorem jt{x}{l}:Lb (x::l)↔x<4294967296/\Lb l:=by
 constructor
 ·intro h;exact⟨h x σ,fun y hy=>h y γ⟩
 ·rintro⟨h1,h2⟩ y hy
  rcases List.mem_cons.1 hy with rfl|hy
  ·omega
  ·exact h2 y hy
theorem qi{l r}:Lb (l++r)↔Lb l/\Lb r:=by
 constructor
 ·intro h;exact⟨fun x hx=>h x γ,fun x hx=>h x γ⟩
 ·rintro⟨h1,h2⟩ x hx
  rcases List.mem_append.1 hx with hx|hx
  ·exact h1 x hx
  ·exact h2 x hx
theorem fK{l}(h:Lb l)(n):Lb (l.take n):=fun x hx=>h x (List.mem_of_mem_take hx)
theorem nK{l}(h:Lb l)(n):Lb (l.drop n):=fun x hx=>h x (List.mem_of_mem_drop hx)
theorem bU{l}(h:Lb l)(i):l.getD i 0<4294967296:=by
 rw[List.getD_eq_getElem?_getD];cases hq:l[i]? with
 |none=>simp
 |some x=>exact h x (List.mem_of_getElem? hq)
theorem eA(l r):ab (l++r)=ab l+4294967296^l.length*ab r:=by
 induction l with
 |nil=>simp[ab]
 |cons x l ih=>
  simp only[azM,ab,ih,azp,azO,Nat.mul_add];grind
theorem cW{l}(h:Lb l):ab l<4294967296^l.length:=by
 induction l with
 |nil=>simp[ab]
 |cons x l ih=>
  obtain⟨h1,h2⟩:=jt.1 h;grind[ab,azp,azO]
theorem cY(k n):(dJ k n).length=k:=by
 induction k generalizing n with
 |zero=>rfl
 |succ k ih=>grind[dJ]
theorem px(k n):Lb (dJ k n):=by
 induction k generalizing n with
 |zero=>exact KT
 |succ k ih=>exact jt.2 ⟨by omega,ih _⟩
theorem mr(k n):ab (dJ k n)=n%4294967296^k:=by
 induction k generalizing n with
 |zero=>simp[dJ,ab,Nat.mod_one]
 |succ k ih=>
  rw[dJ,ab,ih,azO,azl (4294967296^k),Nat.mod_mul]
theorem IS{l}(h:Lb l):dJ l.length (ab l)=l:=by
 induction l with
 |nil=>rfl
 |cons x l ih=>
  obtain⟨h1,h2⟩:=jt.1 h;grind[azp,dJ,ab]
theorem Tk(n):ab (ayW n 0)=0:=by
 induction n with
 |zero=>rfl
 |succ n ih=>simp[List.replicate_succ,ab,ih]
def ni(m:List Nat):Nat->Nat
 |0=>0
 |n+1=>if m.getD n 0=0 then ni m n else n+1
theorem Fb(m):∀n,ni m n<=n
 |0=>ayZ _
 |n+1=>by
  unfold ni;have:=Fb m n;split<;>omega
theorem ZV(m):∀n,ni m n=0\/m.getD (ni m n-1) 0≠0
 |0=>.inl rfl
 |n+1=>by
  unfold ni;split
  ·exact ZV m n
  ·rename_i h;exact .inr h
theorem Wj(m):∀n i,ni m n<=i->i<n->m.getD i 0=0
 |0,i,_,h=>by omega
 |n+1,i,h1,h2=>by
  unfold ni at h1;split at h1
  ·rename_i h;by_cases e:i=n
   ·rw[e];exact h
   ·exact Wj m n i h1 ω
  ·omega
def CD(m:List Nat):Prop:=m=[]\/m.getD (m.length-1) 0≠0
theorem QZ(x)(l)(i):(x::l).getD (i+1) 0=l.getD i 0:=γ
theorem Pw{x}{l}(h:CD (x::l)):CD l:=by
 rcases h with h|h
 ·grind
 ·cases l with
  |nil=>exact .inl rfl
  |cons y l=>
   refine .inr ?_;grind
theorem KU{l}(h:CD l)(hne:l≠[]):ab l≠0:=by
 induction l with
 |nil=>grind
 |cons x l ih=>
  cases l with
  |nil=>
   rcases h with h|h
   all_goals grind[ab]
  |cons y l=>
   grind[Pw,ab]
theorem HO{l}(h1:Lb l)(h2:CD l):au (ab l)=l:=by
 induction l with
 |nil=>exact fQ
 |cons x l ih=>
  obtain⟨h3,h4⟩:=jt.1 h1;grind[rO,KU,ab,Pw]
theorem KV(n):CD (au n):=by
 induction n using Nat.strongRecOn with
 |ind n ih=>
  by_cases h:n=0
  ·subst h;rw[fQ];exact .inl rfl
  ·refine .inr ?_;rcases ih (n/4294967296) ω with h2|h2
   all_goals grind[au,azp,Nat.add_sub_cancel,QZ]
theorem Wk(m):ab (m.take (ni m m.length))=ab m:=by
 have h:m=m.take (ni m m.length)++m.drop (ni m m.length):=(List.take_append_drop _ _).symm;have hz:m.drop (ni m m.length)=ayW (m.length-ni m m.length) 0:=by
  rw[List.eq_replicate_iff];refine⟨by simp,fun x hx=>?_⟩;obtain⟨i,hi⟩:=List.getElem?_of_mem hx;rw[List.getElem?_drop]at hi;have hl:=(List.getElem?_eq_some_iff.1 hi).1;have:=Wj m m.length (ni m m.length+i) ω hl;grind
 grind[eA,Tk]
theorem Q0(m:List Nat):CD (m.take (ni m m.length)):=by
 rcases ZV m m.length with h|h
 ·rw[h];exact .inl rfl
 ·by_cases h0:ni m m.length=0
  ·rw[h0];exact .inl rfl
  ·refine .inr ?_;grind
theorem NI{m}(h:Lb m):m.take (ni m m.length)=au (ab m):=by
 rw[←HO (fK h _) (Q0 m),Wk]
theorem ko{n k}(h:n<4294967296^k):(au n).length<=k:=by
 induction k generalizing n with
 |zero=>
  grind[fQ]
 |succ k ih=>
  grind[rO,azp,azO,Nat.div_lt_of_lt_mul,azl]
theorem gQ(n):n<4294967296^ (au n).length:=by
 grind[cW,bg,aN]
theorem Tl{n}(h:n≠0):4294967296^ ((au n).length-1)<=n:=by
 induction n using Nat.strongRecOn with
 |ind n ih=>
  grind[au,Nat.succ_pred_eq_of_pos,Nat.add_sub_cancel,azO]
def tz(n:Nat):Nat:=if h:n=0 then 0 else if n%2=1 then 0 else tz (n/2)+1
termination_by n
decreasing_by omega
theorem AO{n}(h:n%2=1):tz n=0:=by
 rw[tz,dif_neg ω,if_pos h]
theorem aeh{n}(h:n≠0):tz (2*n)=tz n+1:=by
 rw[tz,dif_neg ω,if_neg ω,Nat.mul_div_cancel_left n δ]
theorem KW{n}(k)(h:n≠0):tz (2^k*n)=k+tz n:=by
 induction k with
 |zero=>rw[Nat.pow_zero,Nat.one_mul,ayX]
 |succ k ih=>
  grind[azO,azl,azq,aeh,Nat.mul_ne_zero,Nat.ne_of_gt,aze]
theorem zu{n}(h:n≠0):n=2^tz n*(n/2^tz n)/\n/2^tz n%2=1:=by
 induction n using Nat.strongRecOn with
 |ind n ih=>
  by_cases h1:n%2=1
  ·simp_all[AO,Nat.pow_zero,Nat.div_one,Nat.one_mul]
  ·have hn:n=2*(n/2):=ω
   grind[tz,azO,azl,Nat.div_div_eq_div_mul,azq]
theorem amT{x k}(y)(h:x≠0)(hx:x<2^k):tz (x+2^k*y)=tz x:=by
 obtain⟨e1,e2⟩:=zu h;generalize x/2^tz x=q at e1 e2;have hle:2^tz x<=x:=by
  conv=>rhs;rw[e1]
  exact Nat.le_mul_of_pos_right _ ω
 have hk:=(Nat.pow_lt_pow_iff_right δ).1 (azt hle hx);generalize hz:2^ (k-tz x-1)*y=z;have e3:x+2^k*y=2^tz x*(q+2*z):=by
  have e4:2^k=2^tz x*(2*2^ (k-tz x-1)):=by
   rw[←Nat.pow_succ',←azc];grind
  grind
 have e5:(q+2*z) %2=1:=ω
 rw[e3,KW _ ω,AO e5,azA]
theorem UV{x k}(h:x≠0)(hx:x<2^k):tz x<k:=by
 obtain⟨e1,e2⟩:=zu h;generalize x/2^tz x=q at e1 e2;have hle:2^tz x<=x:=by
  conv=>rhs;rw[e1]
  exact Nat.le_mul_of_pos_right _ ω
 exact(Nat.pow_lt_pow_iff_right δ).1 (azt hle hx)
def Tm:Nat->Nat->Nat
 |0,_=>0
 |k+1,n=>if n%2=1 then 0 else Tm k (n/2)+1
theorem amU:∀k x,x≠0->x<2^k->Tm k x=tz x:=by
 intro k;induction k with
 |zero=>omega
 |succ k ih=>
  intro x h0 h1;unfold Tm;by_cases h:x%2=1
  ·rw[if_pos h,AO h]
  ·have:=aeh (n:=x/2) ω;grind
def tzF(zas:List AV)(hs:List Ob):Option (AV×List Ob):=match zas with
 |[.v (.int .u32 n)]=>if 0<n/\n<4294967296/\hs=[]then some (.v (.int .i64 (Tm 32 n.toNat:Nat)),[])else none
 |_=>none
def ZW(k:Nat)(zas:List AV)(hs:List Ob):Option (AV×List Ob):=match zas,hs with
 |[.sl k0 (_::_),.rsl 1000 none k1 _ _],[.ar k2 rows]=>if k0=k/\k1=k/\k2=k then some (B false,[.ar k2 rows])else none
 |_,_=>none
def clF(zas:List AV)(hs:List Ob):Option (AV×List Ob):=match zas,hs with
 |[.sl 1 []],[]=>some (.sl 1 [],[])
 |[.sl 1 (r::rs)],[]=>if(rs.length+1)*8<=140737488355328 then some (.osl 1 (r::rs),[])else none
 |_,_=>none
def Wl(k bytes:Nat)(zas:List AV)(hs:List Ob):Option (AV×List Ob):=match zas,hs with
 |[.emp,.v (.int .i64 0),.sl k0 [r]],[]=>if k0=k then some (.osl k [r],[])else none
 |[.rsl 1000 none k1 0 n,.v (.int .i64 i),.sl k0 [r]],[.ar k2 rows]=>
  if k0=k/\k1=k/\k2=k/\n=rows.length/\0<=i/\i<=n/\(n+1)*bytes<=140737488355328 then some (.osl k (rows.take i.toNat++r::rows.drop i.toNat),[.dead])else none
 |_,_=>none
def UW:List (Nat× (List AV->List Ob->Option (AV×List Ob))):=[(F.bits_TrailingZeros32,tzF),(F.slices_overlaps_api_Term_,ZW 4)]
def amV:List (Nat× (List AV->List Ob->Option (AV×List Ob))):=(F.slices_Clone_int_int_,clF)::(F.slices_Insert_api_Term_api_Term_,Wl 4 64)::UW
noncomputable def cO:Env:=⟨fun f=>amV.lookup f,fun f=>ajh.lookup f,⟨fun f=>(mdL.lookup f).getD [],fun f=>(shL.lookup f).getD [],fun f=>keepL.contains f,false⟩⟩
noncomputable def az (b:Bool):Mode:={cO.md with nm:=b}
noncomputable def R:iD:=gj cO
theorem KX{f:FuncId}{fd:FD}{args:List AV}{hs:List Ob}{r:AV×List Ob}(b:Bool)(hE:cO.E f=none)(hC:cO.C f=some fd)(hk:cO.md.keep f=b)(h1:args.length=fd.np)(h2:hs.length<=1000)
  (hz:je b fd.rs fd.res hs.length (aj R (az b) fd.body (uw args) (am hs))=some r):R f args hs=some r:=by
 refine KA hE hC ?_;unfold V3;rw[if_pos ⟨h1,h2⟩];subst hk;exact hz
@[go_sem] theorem ayj(b:Bool):(az b).nm=b:=θ _
abbrev Nj(f:FuncId):Prop:=∀ (b:Bool) (h:ac) (d:Nat) (zas:List AV),bE R (az b) h d zas (.fn f [] [])=(bS h [] zas).bind (IJ R (az b) d f)
abbrev Gu(f:FuncId)(l:List (List Sh)):Prop:=∀b:Bool,(az b).sh f=l
abbrev Gv(f:FuncId)(l:List Nat):Prop:=∀b:Bool,(az b).m f=l
abbrev Gw(f:FuncId)(l:Bool):Prop:=∀b:Bool,(az b).keep f=l
theorem Fc{f:FuncId}{l:List (List Sh)}(h:cO.md.sh f=l):Gu f l:=fun _=>h
theorem Fd{f:FuncId}{l:List Nat}(h:cO.md.m f=l):Gv f l:=fun _=>h
theorem Fe{f:FuncId}{l:Bool}(h:cO.md.keep f=l):Gw f l:=fun _=>h
theorem IT{f:FuncId}(hm:∀b,(az b).m f=[]):Nj f:=fun b _ d _=>IK d (hm b)
abbrev QL(f:FuncId)(l:List (List Sh)):Prop:=Gu f l/\Gv f []/\Nj f/\Gw f false
abbrev QE(f:FuncId)(l:List (List Sh))(fd:FD):Prop:=QL f l/\cO.E f=none/\cO.C f=some fd
theorem ql{f:FuncId}{l:List (List Sh)}(h:(cO.md.sh f,cO.md.m f,cO.md.keep f)=(l,[],false)):QL f l:=by
 simp only[Prod.mk.injEq]at h;exact⟨fun _=>h.1,fun _=>h.2.1,IT fun _=>h.2.1,fun _=>h.2.2⟩
theorem qe{f:FuncId}{l:List (List Sh)}{fd:FD}(h:(cO.md.sh f,cO.md.m f,cO.md.keep f,cO.E f,cO.C f)=(l,[],false,none,some fd)):QE f l fd:=by
 simp only[Prod.mk.injEq]at h;exact⟨⟨fun _=>h.1,fun _=>h.2.1,IT fun _=>h.2.1,fun _=>h.2.2.1⟩,h.2.2.2⟩
@[go_sem] theorem IU:QE F.l27_ModelevalExact [[],[],[.o 5 []]] lQ:=qe κ
@[go_sem] theorem Uf:QE F.model_Valid [[.o 8 aL,.o 0 [],.o 0 []],[.o 0 [],.o 5 [.o 2 [],.o 0 [],.o 2 [],.o 0 []],.o 0 [],.o 2 [],.o 0 [],.o 0 [],.o 2 [],.o 0 [],.o 0 []]] jl:=qe κ
@[go_sem] theorem Zd:QE F.model_Mul [[.o 8 aL,.o 0 [],.o 0 []],[.o 0 [],.o 5 [.o 2 [],.o 0 [],.o 2 [],.o 0 []],.o 0 [],.o 2 [],.o 0 [],.o 0 [],.o 2 [],.o 0 [],.o 0 []],[.o 0 [],.o 5 [.o 2 [],.o 0 [],.o 2 [],.o 0 []],.o 0 [],.o 2 [],.o 0 [],.o 0 [],.o 2 [],.o 0 [],.o 0 []]] Ag:=qe κ
@[go_sem] theorem agK:QL F.modelfun_Divide [[.o 8 aL,.o 0 [],.o 0 []],[.o 0 [],.o 5 [.o 2 [],.o 0 [],.o 2 [],.o 0 []],.o 0 [],.o 2 [],.o 0 [],.o 0 [],.o 2 [],.o 0 [],.o 0 []],[.o 0 [],.o 5 [.o 2 [],.o 0 [],.o 2 [],.o 0 []],.o 0 [],.o 2 [],.o 0 [],.o 0 [],.o 2 [],.o 0 [],.o 0 []]]:=ql κ
@[go_sem] theorem Q1:QE F.interval_Has [aL,aH] jN:=qe κ
@[go_sem] theorem ahj:QL F.modelfun_Power [[.o 8 aL,.o 0 [],.o 0 []],[.o 0 [],.o 5 [.o 2 [],.o 0 [],.o 2 [],.o 0 []],.o 0 [],.o 2 [],.o 0 [],.o 0 [],.o 2 [],.o 0 [],.o 0 []],[]]:=ql κ
@[go_sem] theorem Ze:QE F.r02_Valid [aH] gD:=qe κ
@[go_sem] theorem ao8:QL F.l27_awake []:=ql κ
@[go_sem] theorem aej:QE F.l27_num [] DS:=qe κ
@[go_sem] theorem Zf:QE F.model_Var [[.o 8 aL,.o 0 [],.o 0 []],[]] rk:=qe κ
@[go_sem] theorem fL:QE F.l27_ModelevalExact_1 [] kE:=qe κ
@[go_sem] theorem Ug:QE F.r23_Collect [[.o 5 [.o 2 [],.o 0 [],.o 2 [],.o 0 []]],[.o 2 [],.o 0 [],.o 2 [],.o 0 []]] Bw:=qe κ
@[go_sem] theorem Px:QE F.modeleval_Run [[.o 8 aL,.o 0 [],.o 0 []],[.o 0 [],.o 7 [],.o 2 []],[.o 10 [.o 0 [],.o 5 [],.o 0 [],.o 2 [],.o 0 [],.o 0 [],.o 2 [],.o 0 [],.o 0 []]]] yE:=qe κ
@[go_sem] theorem acv:QE F.r23_Same [[.o 0 [],.o 5 [.o 2 [],.o 0 [],.o 2 [],.o 0 []]],[.o 0 [],.o 5 [.o 2 [],.o 0 [],.o 2 [],.o 0 []]]] xU:=qe κ
@[go_sem] theorem aek:QE F.l27_one [aL,aL] IM:=qe κ
@[go_sem] theorem ajY:QL F.modelfun_Exp [[.o 8 aL,.o 0 [],.o 0 []],[.o 0 [],.o 5 [.o 2 [],.o 0 [],.o 2 [],.o 0 []],.o 0 [],.o 2 [],.o 0 [],.o 0 [],.o 2 [],.o 0 [],.o 0 []]]:=ql κ
@[go_sem] theorem aO:QE F.slices_ContainsFunc_api_Interval_api_Interval_ [[.o 8 aL],[]] gp:=qe κ
@[go_sem] theorem bT:QE F.slices_ContainsFunc_api_Model_api_Model_ [[.o 10 [.o 0 [],.o 5 [],.o 0 [],.o 2 [],.o 0 [],.o 0 [],.o 2 [],.o 0 [],.o 0 []]],[]] i9:=qe κ
@[go_sem] theorem bZ:QE F.slices_ContainsFunc_api_Term_api_Term_ [[.o 5 [.o 2 [],.o 0 [],.o 2 [],.o 0 []]],[]] jE:=qe κ
@[go_sem] theorem KY:QE F.model_ValidSpace [[.o 8 aL,.o 0 [],.o 0 []]] dM:=qe κ
@[go_sem] theorem Wm:QE F.poly_Valid [[.o 0 [],.o 5 [.o 2 [],.o 0 [],.o 2 [],.o 0 []]]] mj:=qe κ
@[go_sem] theorem Uh:QE F.poly_Degree [[.o 0 [],.o 5 [.o 2 [],.o 0 [],.o 2 [],.o 0 []]]] rp:=qe κ
@[go_sem] theorem NJ:QE F.interval_Valid [aL] ip:=qe κ
theorem Py:cO.C F.model_Valid_1=some yF:=by kernel_rfl
theorem Pz:cO.E F.model_Valid_1=none:=by kernel_rfl
@[go_sem] theorem NK:Gu F.model_Valid_1 [[.o 2 [],.o 0 [],.o 2 [],.o 0 []]]:=Fc κ
@[go_sem] theorem Gx:Gv F.model_Valid_1 []:=Fd κ
@[go_sem] theorem ael:Nj F.model_Valid_1:=IT Gx
@[go_sem] theorem CV:Gw F.model_Valid_1 true:=Fe κ
@[go_sem] theorem acw:QE F.round_Is [aH,[]] xV:=qe κ
@[go_sem] theorem Q2:QE F.interval_Mid [aL,[]] iG:=qe κ
@[go_sem] theorem Ui:QE F.model_every [[.o 8 aL,.o 0 [],.o 0 []],[.o 10 [.o 0 [],.o 5 [],.o 0 [],.o 2 [],.o 0 [],.o 0 [],.o 2 [],.o 0 [],.o 0 []]]] wx:=qe κ
@[go_sem] theorem Wn:QE F.model_none [[.o 8 aL,.o 0 [],.o 0 []]] De:=qe κ
@[go_sem] theorem acx:QE F.poly_Mul [[.o 0 [],.o 5 [.o 2 [],.o 0 [],.o 2 [],.o 0 []]],[.o 0 [],.o 5 [.o 2 [],.o 0 [],.o 2 [],.o 0 []]]] qD:=qe κ
@[go_sem] theorem Q3:QE F.model_ranged [[.o 0 [],.o 5 [.o 2 [],.o 0 [],.o 2 [],.o 0 []]],[.o 8 aL],[]] uK:=qe κ
@[go_sem] theorem Wo:QE F.model_made [[.o 8 aL,.o 0 [],.o 0 []],[.o 0 [],.o 5 [.o 2 [],.o 0 [],.o 2 [],.o 0 []]],[],aL] tv:=qe κ
@[go_sem] theorem Zg:QE F.model_sum [[],aL,[.o 8 aL]] EK:=qe κ
@[go_sem] theorem Q4:QE F.interval_Mul [aL,aL,[]] pP:=qe κ
@[go_sem] theorem PA:QE F.interval_Sign [aL] nU:=qe κ
@[go_sem] theorem ahk:QL F.modelfun_whole [[.o 8 aL,.o 0 [],.o 0 []]]:=ql κ
@[go_sem] theorem Q5:QE F.interval_Div [aL,aL,[]] lR:=qe κ
@[go_sem] theorem Q6:QE F.interval_Neg [aL] uM:=qe κ
@[go_sem] theorem Q7:QE F.dyadic_Valid [aH] iH:=qe κ
@[go_sem] theorem Wp:QE F.dyadic_Cmp [aH,aH] kj:=qe κ
@[go_sem] theorem ahl:QE F.r02_Of [[],[.o 2 []],[]] Gf:=qe κ
@[go_sem] theorem aem:QE F.r02_Add [aH,aH] Aj:=qe κ
@[go_sem] theorem acy:QE F.r02_bits [[.o 2 []]] Cz:=qe κ
@[go_sem] theorem Uj:QE F.model_Const [[.o 8 aL,.o 0 [],.o 0 []],aL] nD:=qe κ
@[go_sem] theorem acz:QE F.poly_Var [] uk:=qe κ
@[go_sem] theorem JW:QE F.model_whole [] wB:=qe κ
@[go_sem] theorem Uk:QE F.r23_Compare [[.o 2 []],[.o 2 []]] nE:=qe κ
@[go_sem] theorem MG:QE F.modeleval_valid [[.o 8 aL,.o 0 [],.o 0 []],[.o 0 [],.o 7 [],.o 2 []],[.o 10 [.o 0 [],.o 5 [],.o 0 [],.o 2 [],.o 0 [],.o 0 [],.o 2 [],.o 0 [],.o 0 []]]] vF:=qe κ
@[go_sem] theorem wV:QE F.slices_Clone_api_Model_api_Model_ [[.o 10 [.o 0 [],.o 5 [],.o 0 [],.o 2 [],.o 0 [],.o 0 [],.o 2 [],.o 0 [],.o 0 []]]] gE:=qe κ
@[go_sem] theorem PB:QE F.ratio_Enclose [] yG:=qe κ
@[go_sem] theorem Ff:QE F.modelfun_Apply [[.o 8 aL,.o 0 [],.o 0 []],[],[],[.o 0 [],.o 5 [.o 2 [],.o 0 [],.o 2 [],.o 0 []],.o 0 [],.o 2 [],.o 0 [],.o 0 [],.o 2 [],.o 0 [],.o 0 []],[.o 0 [],.o 5 [.o 2 [],.o 0 [],.o 2 [],.o 0 []],.o 0 [],.o 2 [],.o 0 [],.o 0 [],.o 2 [],.o 0 [],.o 0 []]] qS:=qe κ
@[go_sem] theorem Wq:QE F.r23_number [aH,aH] po:=qe κ
@[go_sem] theorem Wr:QE F.l27_number [aH,aH] Dg:=qe κ
@[go_sem] theorem MH:QE F.interval_Inside [aL,aL] ez:=qe κ
@[go_sem] theorem NL:QE F.interval_Whole [] xx:=qe κ
@[go_sem] theorem Q8:QE F.interval_Add [aL,aL,[]] pR:=qe κ
@[go_sem] theorem aK:QE F.slices_IndexFunc_api_Interval_api_Interval_ [[.o 8 aL],[]] ie:=qe κ
@[go_sem] theorem cp:QE F.slices_IndexFunc_api_Model_api_Model_ [[.o 10 [.o 0 [],.o 5 [],.o 0 [],.o 2 [],.o 0 [],.o 0 [],.o 2 [],.o 0 [],.o 0 []]],[]] jP:=qe κ
@[go_sem] theorem cz:QE F.slices_IndexFunc_api_Term_api_Term_ [[.o 5 [.o 2 [],.o 0 [],.o 2 [],.o 0 []]],[]] kK:=qe κ
@[go_sem] theorem Ws:QE F.dyadic_Int [] yn:=qe κ
theorem IV:cO.C F.model_ValidSpace_1=some rz:=by kernel_rfl
theorem IW:cO.E F.model_ValidSpace_1=none:=by kernel_rfl
@[go_sem] theorem ZX:Gu F.model_ValidSpace_1 [aL]:=Fc κ
@[go_sem] theorem AP:Gv F.model_ValidSpace_1 []:=Fd κ
@[go_sem] theorem YJ:Nj F.model_ValidSpace_1:=IT AP
@[go_sem] theorem xp:Gw F.model_ValidSpace_1 true:=Fe κ
@[go_sem] theorem bQ:QE F.slices_ContainsFunc_int_int_ [[.o 2 []],[]] oS:=qe κ
@[go_sem] theorem HP:QE F.poly_Valid_1 [] uN:=qe κ
@[go_sem] theorem Ul:QE F.poly_degree [[.o 2 []]] BC:=qe κ
@[go_sem] theorem Wu:QE F.poly_order [[.o 2 []],[.o 2 []]] yp:=qe κ
@[go_sem] theorem KZ:QE F.interval_Valid_1 [aH] iM:=qe κ
@[go_sem] theorem Um:QE F.round_fault [[],[.o 4 aH]] rA:=qe κ
@[go_sem] theorem Un:QE F.dyadic_Bits [aH] wD:=qe κ
@[go_sem] theorem NM:QE F.interval_known [[.o 8 aL]] qT:=qe κ
@[go_sem] theorem IX:QE F.interval_permitted [] lW:=qe κ
@[go_sem] theorem PC:QE F.round_AddDown [aH,aH,[]] yJ:=qe κ
@[go_sem] theorem Q9:QE F.dyadic_Scale [aH,[]] An:=qe κ
theorem PD:cO.C F.model_every_1=some yK:=by kernel_rfl
theorem PE:cO.E F.model_every_1=none:=by kernel_rfl
@[go_sem] theorem NN:Gu F.model_every_1 [[.o 0 [],.o 5 [.o 2 [],.o 0 [],.o 2 [],.o 0 []],.o 0 [],.o 2 [],.o 0 [],.o 0 [],.o 2 [],.o 0 [],.o 0 []]]:=Fc κ
@[go_sem] theorem Gy:Gv F.model_every_1 []:=Fd κ
@[go_sem] theorem aen:Nj F.model_every_1:=IT Gy
@[go_sem] theorem CW:Gw F.model_every_1 true:=Fe κ
@[go_sem] theorem Zh:QE F.poly_pair [[.o 0 [],.o 5 [.o 2 [],.o 0 [],.o 2 [],.o 0 []]],[.o 0 [],.o 5 [.o 2 [],.o 0 [],.o 2 [],.o 0 []]]] vH:=qe κ
@[go_sem] theorem Wv:QE F.poly_empty [] JE:=qe κ
@[go_sem] theorem Ww:QE F.dyadic_Mul [aH,aH] iX:=qe κ
@[go_sem] theorem YK:QL F.slices_Clone_int_int_ [[.o 2 []]]:=ql κ
@[go_sem] theorem aQ:QE F.poly_collector_add [[],[.o 2 []],aH] gr:=qe κ
@[go_sem] theorem bt:QE F.poly_collector_done [] fG:=qe κ
@[go_sem] theorem Wx:QE F.bound_Best [[.o 0 [],.o 5 [.o 2 [],.o 0 [],.o 2 [],.o 0 []]],[.o 8 aL],[]] tF:=qe κ
@[go_sem] theorem Zi:QE F.model_cut [[.o 8 aL,.o 0 [],.o 0 []],[.o 0 [],.o 5 [.o 2 [],.o 0 [],.o 2 [],.o 0 []]]] Ap:=qe κ
@[go_sem] theorem PF:QE F.interval_four [aL,aL,[],[],[]] yL:=qe κ
@[go_sem] theorem qj:QE F.round_MulDown [aH,aH,[]] yM:=qe κ
@[go_sem] theorem tV:QE F.round_MulUp [aH,aH,[]] BD:=qe κ
@[go_sem] theorem Uo:QE F.dyadic_Sign [aH] nF:=qe κ
@[go_sem] theorem NO:QE F.interval_Point [aH] xz:=qe κ
@[go_sem] theorem Zj:QE F.model_Sub [[.o 8 aL,.o 0 [],.o 0 []],[.o 0 [],.o 5 [.o 2 [],.o 0 [],.o 2 [],.o 0 []],.o 0 [],.o 2 [],.o 0 [],.o 0 [],.o 2 [],.o 0 [],.o 0 []],[.o 0 [],.o 5 [.o 2 [],.o 0 [],.o 2 [],.o 0 []],.o 0 [],.o 2 [],.o 0 [],.o 0 [],.o 2 [],.o 0 [],.o 0 []]] Aq:=qe κ
@[go_sem] theorem Zk:QE F.model_Add [[.o 8 aL,.o 0 [],.o 0 []],[.o 0 [],.o 5 [.o 2 [],.o 0 [],.o 2 [],.o 0 []],.o 0 [],.o 2 [],.o 0 [],.o 0 [],.o 2 [],.o 0 [],.o 0 []],[.o 0 [],.o 5 [.o 2 [],.o 0 [],.o 2 [],.o 0 []],.o 0 [],.o 2 [],.o 0 [],.o 0 [],.o 2 [],.o 0 [],.o 0 []]] Ar:=qe κ
@[go_sem] theorem Ra:QE F.interval_Sub [aL,aL,[]] As:=qe κ
@[go_sem] theorem qk:QE F.round_DivDown [aH,aH,[]] yN:=qe κ
@[go_sem] theorem tW:QE F.round_DivUp [aH,aH,[]] BE:=qe κ
@[go_sem] theorem NP:QE F.interval_Power [aL,[],[]] fO:=qe κ
@[go_sem] theorem Wy:QE F.dyadic_Neg [aH] tH:=qe κ
@[go_sem] theorem NQ:QE F.dyadic_inRange [aH] iq:=qe κ
@[go_sem] theorem NR:QE F.dyadic_compare [aH,aH] mD:=qe κ
@[go_sem] theorem acA:QE F.r02_trim [[.o 2 []]] G8:=qe κ
@[go_sem] theorem Zl:QE F.r02_zeros [[.o 2 []]] ER:=qe κ
@[go_sem] theorem Zm:QE F.r02_right [[.o 2 []],[]] Au:=qe κ
@[go_sem] theorem Up:QE F.r02_Checked [aH] wF:=qe κ
@[go_sem] theorem aeo:QE F.r02_Sum [aH,aH] sL:=qe κ
@[go_sem] theorem Wz:QE F.poly_Const [[],aH] yr:=qe κ
@[go_sem] theorem aep:QE F.r23_sum [[.o 2 []]] IP:=qe κ
@[go_sem] theorem WA:QE F.tape_Valid [[.o 0 [],.o 7 [],.o 2 []]] Dj:=qe κ
@[go_sem] theorem Uq:QE F.ratio_Valid [] BF:=qe κ
@[go_sem] theorem ao9:QL F.model_Neg [[.o 8 aL,.o 0 [],.o 0 []],[.o 0 [],.o 5 [.o 2 [],.o 0 [],.o 2 [],.o 0 []],.o 0 [],.o 2 [],.o 0 [],.o 0 [],.o 2 [],.o 0 [],.o 0 []]]:=ql κ
@[go_sem] theorem ajZ:QL F.modelfun_Log [[.o 8 aL,.o 0 [],.o 0 []],[.o 0 [],.o 5 [.o 2 [],.o 0 [],.o 2 [],.o 0 []],.o 0 [],.o 2 [],.o 0 [],.o 0 [],.o 2 [],.o 0 [],.o 0 []]]:=ql κ
@[go_sem] theorem aj0:QL F.modelfun_Sin [[.o 8 aL,.o 0 [],.o 0 []],[.o 0 [],.o 5 [.o 2 [],.o 0 [],.o 2 [],.o 0 []],.o 0 [],.o 2 [],.o 0 [],.o 0 [],.o 2 [],.o 0 [],.o 0 []]]:=ql κ
@[go_sem] theorem aj1:QL F.modelfun_Cos [[.o 8 aL,.o 0 [],.o 0 []],[.o 0 [],.o 5 [.o 2 [],.o 0 [],.o 2 [],.o 0 []],.o 0 [],.o 2 [],.o 0 [],.o 0 [],.o 2 [],.o 0 [],.o 0 []]]:=ql κ
@[go_sem] theorem ajj:QL F.modelfun_Sqrt [[.o 8 aL,.o 0 [],.o 0 []],[.o 0 [],.o 5 [.o 2 [],.o 0 [],.o 2 [],.o 0 []],.o 0 [],.o 2 [],.o 0 [],.o 0 [],.o 2 [],.o 0 [],.o 0 []]]:=ql κ
@[go_sem] theorem Bb:QE F.slices_Equal_uint32_uint32_ [[.o 2 []],[.o 2 []]] fW:=qe κ
@[go_sem] theorem Ur:QE F.round_AddUp [aH,aH,[]] BG:=qe κ
@[go_sem] theorem PG:QE F.interval_made [aH,[],aH,[]] n7:=qe κ
@[go_sem] theorem K0:QE F.dyadic_canonical [[],[.o 2 []],[]] oM:=qe κ
@[go_sem] theorem bJ:QE F.slices_IndexFunc_int_int_ [[.o 2 []],[]] rC:=qe κ
@[go_sem] theorem K1:QE F.cmp_Compare_int_ [] kL:=qe κ
@[go_sem] theorem DW:QE F.slices_Compare_int_int_ [[.o 2 []],[.o 2 []]] iY:=qe κ
@[go_sem] theorem PH:QE F.round_precise [] sM:=qe κ
@[go_sem] theorem Us:QE F.dyadic_size [[.o 2 []]] BH:=qe κ
@[go_sem] theorem Nk:QE F.round_add [aH,aH,[],[]] n8:=qe κ
@[go_sem] theorem MI:QE F.dyadic_exponent [] pX:=qe κ
@[go_sem] theorem NS:QE F.dyadic_checked [aH] qU:=qe κ
@[go_sem] theorem Ut:QE F.natural_Mul [[.o 2 []],[.o 2 []]] wG:=qe κ
theorem nM:cO.C F.slices_BinarySearchFunc_api_Term_api_Term_Sint_=some dx:=by kernel_rfl
theorem nN:cO.E F.slices_BinarySearchFunc_api_Term_api_Term_Sint_=none:=by kernel_rfl
@[go_sem] theorem fY:Gu F.slices_BinarySearchFunc_api_Term_api_Term_Sint_ [[.o 5 [.o 2 [],.o 0 [],.o 2 [],.o 0 []]],[.o 2 []],[]]:=Fc κ
@[go_sem] theorem gw:Gv F.slices_BinarySearchFunc_api_Term_api_Term_Sint_ [3,0,0]:=Fd κ
@[go_sem] theorem fE:Gw F.slices_BinarySearchFunc_api_Term_api_Term_Sint_ false:=Fe κ
@[go_sem] theorem Hh:QE F.poly_collector_add_1 [[.o 2 [],.o 0 [],.o 2 [],.o 0 []],[.o 2 []]] pe:=qe κ
@[go_sem] theorem lZ:Gu F.slices_Insert_api_Term_api_Term_ [[],[],[.o 5 [.o 2 [],.o 0 [],.o 2 [],.o 0 []]]]:=Fc κ
@[go_sem] theorem mL:Gv F.slices_Insert_api_Term_api_Term_ [2,0,0]:=Fd κ
@[go_sem] theorem lg:Gw F.slices_Insert_api_Term_api_Term_ false:=Fe κ
@[go_sem] theorem Uu:QE F.poly_copied [aH] BI:=qe κ
@[go_sem] theorem WB:QE F.dyadic_Add [aH,aH] tK:=qe κ
theorem xJ:cO.C F.slices_Delete_api_Term_api_Term_=some gU:=by kernel_rfl
theorem xK:cO.E F.slices_Delete_api_Term_api_Term_=none:=by kernel_rfl
@[go_sem] theorem wW:Gu F.slices_Delete_api_Term_api_Term_ []:=Fc κ
@[go_sem] theorem xL:Gv F.slices_Delete_api_Term_api_Term_ [2,0,0]:=Fd κ
@[go_sem] theorem lh:Gw F.slices_Delete_api_Term_api_Term_ false:=Fe κ
@[go_sem] theorem WC:QE F.bound_fits [[.o 0 [],.o 5 [.o 2 [],.o 0 [],.o 2 [],.o 0 []]],[.o 8 aL],[]] tL:=qe κ
@[go_sem] theorem Uv:QE F.bound_whole [] BJ:=qe κ
@[go_sem] theorem PI:QE F.interval_Meet [aL,aL] gF:=qe κ
@[go_sem] theorem Uw:QE F.bound_Naive [[.o 0 [],.o 5 [.o 2 [],.o 0 [],.o 2 [],.o 0 []]],[.o 8 aL],[]] wH:=qe κ
@[go_sem] theorem ke:QE F.bound_Bernstein [[.o 0 [],.o 5 [.o 2 [],.o 0 [],.o 2 [],.o 0 []]],[.o 8 aL],[]] gH:=qe κ
@[go_sem] theorem WD:QE F.poly_Split [[.o 0 [],.o 5 [.o 2 [],.o 0 [],.o 2 [],.o 0 []]],[]] yt:=qe κ
@[go_sem] theorem WE:QE F.poly_Round [[.o 0 [],.o 5 [.o 2 [],.o 0 [],.o 2 [],.o 0 []]],[]] pp:=qe κ
@[go_sem] theorem Zn:QE F.round_mul [aH,aH,[],[]] rD:=qe κ
@[go_sem] theorem acB:QE F.poly_Sub [[.o 0 [],.o 5 [.o 2 [],.o 0 [],.o 2 [],.o 0 []]],[.o 0 [],.o 5 [.o 2 [],.o 0 [],.o 2 [],.o 0 []]]] CB:=qe κ
@[go_sem] theorem acC:QE F.poly_Add [[.o 0 [],.o 5 [.o 2 [],.o 0 [],.o 2 [],.o 0 []]],[.o 0 [],.o 5 [.o 2 [],.o 0 [],.o 2 [],.o 0 []]]] CC:=qe κ
@[go_sem] theorem Zo:QE F.round_div [aH,aH,[],[]] rF:=qe κ
@[go_sem] theorem Rb:QE F.interval_Abs [aL] uQ:=qe κ
@[go_sem] theorem HQ:QE F.interval_end [aH,[],[],[]] pY:=qe κ
@[go_sem] theorem Bc:QE F.slices_Clone_uint32_uint32_ [[.o 2 []]] jS:=qe κ
@[go_sem] theorem WF:QE F.dyadic_Top [aH] tN:=qe κ
@[go_sem] theorem Ux:QE F.natural_Cmp [[.o 2 []],[.o 2 []]] rG:=qe κ
@[go_sem] theorem NT:QE F.dyadic_shifted [[.o 2 []],[]] xB:=qe κ
@[go_sem] theorem acD:QE F.r02_left [[.o 2 []],[]] Ha:=qe κ
@[go_sem] theorem acE:QE F.r02_plus [[.o 2 []],[.o 2 []]] Hb:=qe κ
@[go_sem] theorem Uy:QE F.r02_compare [[.o 2 []],[.o 2 []]] wJ:=qe κ
@[go_sem] theorem Zp:QE F.r02_minus [[.o 2 []],[.o 2 []]] EV:=qe κ
@[go_sem] theorem Uz:QE F.tape_proper [] rH:=qe κ
theorem Rc:cO.C F.tape_Valid_1=some uR:=by kernel_rfl
theorem Re:cO.E F.tape_Valid_1=none:=by kernel_rfl
@[go_sem] theorem PJ:Gu F.tape_Valid_1 []:=Fc κ
@[go_sem] theorem HR:Gv F.tape_Valid_1 []:=Fd κ
@[go_sem] theorem agL:Nj F.tape_Valid_1:=IT HR
@[go_sem] theorem DI:Gw F.tape_Valid_1 true:=Fe κ
@[go_sem] theorem Zq:QE F.ratio_gcd [] EW:=qe κ
@[go_sem] theorem WG:QE F.ratio_size [] yw:=qe κ
@[go_sem] theorem WH:QE F.dyadic_Abs [aH] tP:=qe κ
@[go_sem] theorem NU:QE F.dyadic_trimmed [[.o 2 []]] xC:=qe κ
@[go_sem] theorem WI:QE F.dyadic_low [[.o 2 []]] Dm:=qe κ
@[go_sem] theorem UA:QE F.natural_Shr [[.o 2 []],[]] rI:=qe κ
@[go_sem] theorem BV:QE F.slices_Clip_uint32_uint32_ [[.o 2 []]] kv:=qe κ
@[go_sem] theorem NV:QE F.cmp_isNaN_int_ [] xD:=qe κ
@[go_sem] theorem Rf:QE F.natural_Bits [[.o 2 []]] uT:=qe κ
@[go_sem] theorem UB:QE F.round_round [aH,[],[]] wK:=qe κ
@[go_sem] theorem Zr:QE F.round_sum [aH,aH,[]] vM:=qe κ
@[go_sem] theorem Rg:QE F.round_signed [[],[.o 2 [],.o 0 [],.o 0 []],[],[]] pZ:=qe κ
@[go_sem] theorem Rh:QE F.natural_long [[.o 2 [.o 2 []]]] AC:=qe κ
@[go_sem] theorem Rj:QE F.natural_done [[.o 2 []]] uU:=qe κ
@[go_sem] theorem UC:QE F.natural_mul [[.o 2 []],[.o 2 []]] BR:=qe κ
@[go_sem] theorem Rk:QE F.natural_trim [[.o 2 []]] AD:=qe κ
@[go_sem] theorem WJ:QE F.dyadic_sum [aH,aH] mq:=qe κ
@[go_sem] theorem Rl:QE F.bound_domain [[.o 0 [],.o 5 [.o 2 [],.o 0 [],.o 2 [],.o 0 []]],[.o 8 aL]] qf:=qe κ
@[go_sem] theorem PK:QE F.interval_more [aH,aH] sO:=qe κ
@[go_sem] theorem PL:QE F.interval_less [aH,aH] sP:=qe κ
@[go_sem] theorem UD:QE F.bound_power [aL,[],[]] wN:=qe κ
@[go_sem] theorem Rn:QE F.bound_Linear [[.o 0 [],.o 5 [.o 2 [],.o 0 [],.o 2 [],.o 0 []]]] qh:=qe κ
@[go_sem] theorem WK:QE F.bound_line [aH,aH,aL,[]] gO:=qe κ
@[go_sem] theorem BW:QE F.bound_gridOf [[.o 0 [],.o 5 [.o 2 [],.o 0 [],.o 2 [],.o 0 []]],[]] AH:=qe κ
@[go_sem] theorem iv:QE F.bound_grid_unit [[],[],aL] vO:=qe κ
@[go_sem] theorem eE:QE F.bound_grid_bernstein [] pf:=qe κ
@[go_sem] theorem PM:QE F.interval_Hull [aL,aL] sQ:=qe κ
@[go_sem] theorem WL:QE F.round_Near [aH,[]] gP:=qe κ
@[go_sem] theorem WM:QE F.dyadic_Sub [aH,aH] tQ:=qe κ
@[go_sem] theorem xM:QE F.slices_Concat_api_Term_api_Term_ [[.o 2 [.o 5 [.o 2 [],.o 0 [],.o 2 [],.o 0 []]]]] gW:=qe κ
@[go_sem] theorem NW:QE F.natural_DivMod [[.o 2 []],[.o 2 []]] xF:=qe κ
@[go_sem] theorem Zs:QE F.round_shl [[.o 2 []],[]] E3:=qe κ
@[go_sem] theorem Ro:QE F.interval_Mig [aL] uV:=qe κ
@[go_sem] theorem Rq:QE F.interval_Mag [aL] AK:=qe κ
@[go_sem] theorem Fg:QE F.interval_power [aH,[],[],[],[]] qW:=qe κ
@[go_sem] theorem acF:QE F.round_Up [aH,[]] Hc:=qe κ
@[go_sem] theorem WN:QE F.round_Down [aH,[]] Dq:=qe κ
@[go_sem] theorem UE:QE F.natural_Shl [[.o 2 []],[]] nH:=qe κ
@[go_sem] theorem AQ:QE F.tape_operands [] yQ:=qe κ
@[go_sem] theorem Zt:QL F.bits_TrailingZeros32 []:=ql κ
@[go_sem] theorem UF:QE F.natural_shr [[.o 2 []],[]] wQ:=qe κ
@[go_sem] theorem WO:QE F.bits_Len32 [] pu:=qe κ
@[go_sem] theorem acG:QE F.round_of [aH] Hd:=qe κ
@[go_sem] theorem Zu:QE F.round_shr [[.o 2 []],[]] AL:=qe κ
@[go_sem] theorem UG:QE F.natural_Add [[.o 2 []],[.o 2 []]] wR:=qe κ
@[go_sem] theorem UH:QE F.natural_Sub [[.o 2 []],[.o 2 []]] rL:=qe κ
@[go_sem] theorem Zv:QE F.round_cut [[.o 2 [],.o 0 [],.o 0 []],[],[]] vP:=qe κ
@[go_sem] theorem dN:QE F.slices_ContainsFunc_Suint32_Suint32_ [[.o 2 [.o 2 []]],[]] kl:=qe κ
@[go_sem] theorem Fh:QE F.natural_long_1 [[.o 2 []]] xG:=qe κ
@[go_sem] theorem Fi:QE F.bound_domain_1 [aL] qX:=qe κ
@[go_sem] theorem FZ:QE F.slices_Index_int_int_ [[.o 2 []],[]] oj:=qe κ
@[go_sem] theorem rP:QE F.slices_Repeat_api_Interval_api_Interval_ [[.o 8 aL],[]] eH:=qe κ
theorem MJ:cO.C F.bound_grid_step=some vR:=by kernel_rfl
theorem MK:cO.E F.bound_grid_step=none:=by kernel_rfl
@[go_sem] theorem aeq:Gu F.bound_grid_step []:=Fc κ
@[go_sem] theorem mM:Gv F.bound_grid_step []:=Fd κ
@[go_sem] theorem acH:Nj F.bound_grid_step:=IT mM
@[go_sem] theorem AR:Gw F.bound_grid_step true:=Fe κ
@[go_sem] theorem bC:QE F.bound_grid_lines [] oO:=qe κ
@[go_sem] theorem eM:QE F.bound_grid_unit_1 [] sR:=qe κ
theorem NX:cO.C F.bound_grid_add=some xH:=by kernel_rfl
theorem NY:cO.E F.bound_grid_add=none:=by kernel_rfl
@[go_sem] theorem ML:Gu F.bound_grid_add [[],aL,aL]:=Fc κ
@[go_sem] theorem yV:Gv F.bound_grid_add []:=Fd κ
@[go_sem] theorem adz:Nj F.bound_grid_add:=IT yV
@[go_sem] theorem Bk:Gw F.bound_grid_add true:=Fe κ
theorem NZ:cO.C F.bound_grid_mul=some xI:=by kernel_rfl
theorem N0:cO.E F.bound_grid_mul=none:=by kernel_rfl
@[go_sem] theorem MM:Gu F.bound_grid_mul [[],aL,aL]:=Fc κ
@[go_sem] theorem yW:Gv F.bound_grid_mul []:=Fd κ
@[go_sem] theorem adA:Nj F.bound_grid_mul:=IT yW
@[go_sem] theorem Bl:Gw F.bound_grid_mul true:=Fe κ
@[go_sem] theorem dh:QE F.bound_grid_bernstein_1 [] mZ:=qe κ
@[go_sem] theorem oB:QE F.slices_Grow_api_Term_api_Term_ [] eZ:=qe κ
@[go_sem] theorem Fj:QE F.natural_divide [[.o 2 []],[.o 2 []]] qZ:=qe κ
@[go_sem] theorem UI:QE F.natural_shl [[.o 2 []],[]] BT:=qe κ
@[go_sem] theorem UJ:QE F.natural_add [[.o 2 []],[.o 2 []]] wS:=qe κ
@[go_sem] theorem UK:QE F.natural_sub [[.o 2 []],[.o 2 []]] BU:=qe κ
@[go_sem] theorem UM:QE F.dyadic_Make [[],[.o 2 []],[]] nI:=qe κ
@[go_sem] theorem dj:QE F.slices_IndexFunc_Suint32_Suint32_ [[.o 2 [.o 2 []]],[]] lF:=qe κ
@[go_sem] theorem acI:QE F.bits_Mul [] Hg:=qe κ
@[go_sem] theorem PN:QE F.natural_short [[.o 2 []],[]] yT:=qe κ
@[go_sem] theorem HS:QE F.bits_LeadingZeros32 [] qE:=qe κ
@[go_sem] theorem PO:QE F.natural_guess [] sU:=qe κ
theorem Ru:cO.C F.natural_take=some AN:=by kernel_rfl
theorem Rw:cO.E F.natural_take=none:=by kernel_rfl
@[go_sem] theorem PP:Gu F.natural_take [[.o 2 []],[.o 2 []],[]]:=Fc κ
@[go_sem] theorem Rx:Gv F.natural_take [1,0,0]:=Fd κ
@[go_sem] theorem DJ:Gw F.natural_take false:=Fe κ
@[go_sem] theorem WP:QE F.bits_Add32 [] Dt:=qe κ
@[go_sem] theorem WQ:QE F.bits_Sub32 [] Du:=qe κ
@[go_sem] theorem amW:QL F.bits_Mul32 []:=ql κ
@[go_sem] theorem WR:QE F.bits_Mul64 [] Dv:=qe κ
@[go_sem] theorem WS:QE F.bits_Div32 [] Dw:=qe κ
@[go_sem] theorem PQ:QE F.natural_digit [] yU:=qe κ
attribute [go_sem_proc ↓] reduceIte
attribute [go_sem_proc] Nat.reduceEqDiff Nat.reduceMul Nat.reduceAdd Nat.reduceLeDiff Nat.reduceLT Nat.reduceBEq
end Go.Ab
