/-
  A law of polynomials' texts holds at every input that the statement speaks of, under the conditions that its card names. Part C1.
-/
import Derived.Test.YtdfjinjlmbjkpaaGreatDoorProg
import Derived.Lib.ItoaNum
import Derived.Lib.Repeat
import Derived.Lib.Join
import Derived.Lib.Bytealg
import Derived.KernelRfl
import Derived.Test.YtdfjinjlmbjkpaaGreatDoorB1
set_option linter.all false
namespace Go.Ab
open Go
set_option maxRecDepth 100000
set_option maxHeartbeats 4000000
abbrev F.l23_PolyTexts:FuncId:=3
abbrev F.l23_awake:FuncId:=4
abbrev F.l23_great:FuncId:=5
abbrev F.poly_Text:FuncId:=6
abbrev F.r23_Text:FuncId:=7
abbrev F.l23_variable:FuncId:=8
abbrev F.poly_Add:FuncId:=9
abbrev F.poly_Sub:FuncId:=10
abbrev F.poly_Mul:FuncId:=11
abbrev F.poly_Derive:FuncId:=12
abbrev F.poly_Valid:FuncId:=13
abbrev F.slices_ContainsFunc_api_Poly_api_Poly_:FuncId:=14
abbrev F.l23_great_1:FuncId:=15
abbrev F.slices_ContainsFunc_api_Term_api_Term_:FuncId:=16
abbrev F.l23_great_1_1:FuncId:=17
abbrev F.slices_ContainsFunc_string_string_:FuncId:=18
abbrev F.poly_Text_1:FuncId:=19
abbrev F.lex_Name:FuncId:=20
abbrev F.dyadic_Text:FuncId:=21
abbrev F.strconv_Itoa:FuncId:=22
abbrev F.r23_Valid:FuncId:=23
abbrev F.r12_Name:FuncId:=24
abbrev F.r02_Text:FuncId:=25
abbrev F.r23_decimal:FuncId:=26
abbrev F.poly_pair:FuncId:=27
abbrev F.poly_empty:FuncId:=28
abbrev F.slices_Concat_api_Term_api_Term_:FuncId:=29
abbrev F.poly_collector_add:FuncId:=30
abbrev F.poly_collector_done:FuncId:=31
abbrev F.dyadic_Neg:FuncId:=32
abbrev F.poly_Degree:FuncId:=33
abbrev F.dyadic_Mul:FuncId:=34
abbrev F.slices_Clone_int_int_:FuncId:=35
abbrev F.dyadic_Int:FuncId:=36
abbrev F.dyadic_Valid:FuncId:=37
abbrev F.slices_ContainsFunc_int_int_:FuncId:=38
abbrev F.poly_Valid_1:FuncId:=39
abbrev F.poly_degree:FuncId:=40
abbrev F.poly_order:FuncId:=41
abbrev F.slices_IndexFunc_api_Poly_api_Poly_:FuncId:=42
abbrev F.slices_IndexFunc_api_Term_api_Term_:FuncId:=43
abbrev F.slices_IndexFunc_string_string_:FuncId:=44
abbrev F.lex_word:FuncId:=45
abbrev F.lex_Keyword:FuncId:=46
abbrev F.natural_Text:FuncId:=47
abbrev F.r23_term:FuncId:=52
abbrev F.r23_Compare:FuncId:=53
abbrev F.r12_kind:FuncId:=54
abbrev F.r12_Keyword:FuncId:=55
abbrev F.r02_Decimal:FuncId:=56
abbrev F.r02_integer:FuncId:=57
abbrev F.slices_Grow_api_Term_api_Term_:FuncId:=58
abbrev F.slices_BinarySearchFunc_api_Term_api_Term_Sint_:FuncId:=59
abbrev F.poly_collector_add_1:FuncId:=60
abbrev F.slices_Insert_api_Term_api_Term_:FuncId:=61
abbrev F.poly_copied:FuncId:=62
abbrev F.dyadic_Add:FuncId:=63
abbrev F.slices_Delete_api_Term_api_Term_:FuncId:=64
abbrev F.slices_Clone_uint32_uint32_:FuncId:=65
abbrev F.dyadic_size:FuncId:=66
abbrev F.natural_Mul:FuncId:=67
abbrev F.dyadic_checked:FuncId:=68
abbrev F.dyadic_canonical:FuncId:=69
abbrev F.dyadic_inRange:FuncId:=70
abbrev F.slices_IndexFunc_int_int_:FuncId:=71
abbrev F.cmp_Compare_int_:FuncId:=72
abbrev F.slices_Compare_int_int_:FuncId:=73
abbrev F.lex_class:FuncId:=74
abbrev F.natural_long:FuncId:=75
abbrev F.natural_trim:FuncId:=76
abbrev F.natural_short:FuncId:=77
abbrev F.strconv_FormatUint:FuncId:=78
abbrev F.strings_Repeat:FuncId:=79
abbrev F.slices_Reverse_string_string_:FuncId:=80
abbrev F.strings_Join:FuncId:=81
abbrev F.r02_Valid:FuncId:=84
abbrev F.r23_sum:FuncId:=85
abbrev F.r12_wordly:FuncId:=86
abbrev F.r12_numeric:FuncId:=87
abbrev F.r12_Reserved:FuncId:=88
abbrev F.r02_trim:FuncId:=89
abbrev F.r02_small:FuncId:=90
abbrev F.slices_overlaps_api_Term_:FuncId:=91
abbrev F.slices_rotateRight_api_Term_:FuncId:=92
abbrev F.dyadic_sum:FuncId:=93
abbrev F.natural_Bits:FuncId:=94
abbrev F.natural_done:FuncId:=95
abbrev F.natural_mul:FuncId:=96
abbrev F.dyadic_trimmed:FuncId:=97
abbrev F.dyadic_low:FuncId:=98
abbrev F.natural_Shr:FuncId:=99
abbrev F.slices_Clip_uint32_uint32_:FuncId:=100
abbrev F.cmp_isNaN_int_:FuncId:=101
abbrev F.strings_IndexByte:FuncId:=102
abbrev F.slices_ContainsFunc_Suint32_Suint32_:FuncId:=103
abbrev F.natural_long_1:FuncId:=104
abbrev F.bits_Div32:FuncId:=105
abbrev F.r02_bits:FuncId:=116
abbrev F.r12_inRun:FuncId:=117
abbrev F.r12_IsLetter:FuncId:=118
abbrev F.r12_IsDigit:FuncId:=119
abbrev F.dyadic_Top:FuncId:=121
abbrev F.dyadic_shifted:FuncId:=122
abbrev F.natural_Add:FuncId:=123
abbrev F.natural_Cmp:FuncId:=124
abbrev F.natural_Sub:FuncId:=125
abbrev F.bits_Len32:FuncId:=126
abbrev F.bits_TrailingZeros32:FuncId:=127
abbrev F.natural_shr:FuncId:=128
abbrev F.slices_IndexFunc_Suint32_Suint32_:FuncId:=130
abbrev F.natural_Shl:FuncId:=141
abbrev F.natural_add:FuncId:=142
abbrev F.natural_sub:FuncId:=143
abbrev F.natural_shl:FuncId:=147
abbrev F.bits_Add32:FuncId:=148
abbrev F.bits_Sub32:FuncId:=149
def dj:List Sh:=[.o 0 [],.o 2 [],.o 0 []]
@[go_sem] theorem Qt:dj=[.o 0 [],.o 2 [],.o 0 []]:=_root_.id rfl
def PO:List Sh:=[.o 0 [],.o 2 [],.o 0 [],.o 0 [],.o 2 [],.o 0 [],.o 0 []]
@[go_sem] theorem Qu:PO=[.o 0 [],.o 2 [],.o 0 [],.o 0 [],.o 2 [],.o 0 [],.o 0 []]:=_root_.id rfl
noncomputable section
def g0(f:Func)(l:bj):Cmd:=gK Go.Proofs.Tryz.prog [] f l 0 []
def g1(H:List (Nat×Nat))(f:Func)(l:bj)(k:Nat)(L:List Cmd):Cmd:=gK Go.Proofs.Tryz.prog H f l k L
def sJ:Cmd:=ag (g0 Go.Proofs.Tryz.f3 [[1,2],[1,2,10],[4],[1,2,18],[4],[1,2,5,6],[5,6,7,8],[4]])
def rI:FD:=⟨2,[[]],[.t 4],sJ⟩
def zz:Cmd:=ag (g0 Go.Proofs.Tryz.f4 [[],[1,2],[1,2,3,4],[3,4,5,6],[4,6,7,8],[4,6,7,8,9,10],[4,6,7,8,9,10,11,12],[4,6,7,8,9,10,12,13,14],[0]])
def yb:FD:=⟨0,[[]],[.t 0],zz⟩
def zA:Cmd:=ag (g0 Go.Proofs.Tryz.f5 [[0],[2]])
def yc:FD:=⟨1,[[]],[.t 2],zA⟩
def l8:bj:=[[1,2],[1,2,26],[4,5],[1,2,30],[4,5],[1,2,6],[1,6,32,33,34],[6],[1,6,32,33,34],[2],[1,6,32,33,34,35],[1,6,32,33,34],[1,6,7,8,32,33,34],[1,6,8,32,33,34,40],[1,6,8,32,33,34],[1,6,8,9,32,33,34],[1,6,8,32,33,34],[1,6,32,33,34,53,54,55],[1,6,32,33,34],[1,6,32,33,34,53,54,55],[2,8],[1,6,32,33,34,53,54,55,56],[1,6,32,33,34,53,54,55],[1,6,11,12,32,33,34,53,54,55],[1,6,11,12,32,33,34,53,54,55,61],[1,6,12,32,33,34,53,54,55],[1,6,12,32,33,34,53,54,55,70],[1,6,32,33,34,53,54,55],[1,6,32,33,34,53,54,55],[1,6,32,33,34],[4,5]]
def nH:Cmd:=ag (g1 [] Go.Proofs.Tryz.f6 l8 1 [])
@[go_sem] def tL(a:Cmd):Cmd:=ag (g1 [] Go.Proofs.Tryz.f6 l8 2 [a])
def tM:Cmd:=tL nH
@[go_sem] def zB(a b:Cmd):Cmd:=ag (g1 [] Go.Proofs.Tryz.f6 l8 0 [a,b])
def zD:Cmd:=zB nH tM
def ye:FD:=⟨2,[[],[]],[.t 4,.t 5],zD⟩
def kF:bj:=[[1,2],[1,2,20],[4,5],[1,2,6],[1,2],[1,2,6],[2],[1,2,6,24],[1,2,6],[1,2,6,32],[4,5],[1,2,6],[1,2,36],[4,5],[1,2,7],[1,2,7,8],[7],[1,2,7,8],[2],[1,2,7,8,41],[1,2,7,8],[1,2,7,8,45],[1,2,7,8],[1,2,7,8],[1,2,7,8,9],[1,2,7,8],[1,2,7,8,9],[2],[1,2,7,8,9,60],[1,2,7,8,9],[1,2,7,8,9,10],[1,2,7,8,9,10,73],[1,2,7,8,9,10],[1,2,7,8,9,10,82],[1,2,7,8,9],[1,2,7,8,9],[1,2,7,8],[4,5]]
def po:Cmd:=ag (g1 [] Go.Proofs.Tryz.f7 kF 1 [])
@[go_sem] def vf(a:Cmd):Cmd:=ag (g1 [] Go.Proofs.Tryz.f7 kF 2 [a])
def vg:Cmd:=vf po
def vj:Cmd:=ag (g1 [] Go.Proofs.Tryz.f7 kF 3 [])
@[go_sem] def BG(a b c:Cmd):Cmd:=ag (g1 [] Go.Proofs.Tryz.f7 kF 0 [a,b,c])
def BH:Cmd:=BG po vg vj
def zE:FD:=⟨2,[[],[]],[.t 4,.t 5],BH⟩
def tN:Cmd:=ag (g0 Go.Proofs.Tryz.f8 [[0,1,4],[0,1,4,5],[0,4,5],[4]])
def sK:FD:=⟨2,[[.o 0 [],.o 5 [.o 2 [],.o 0 [],.o 2 [],.o 0 []]]],[.cell 4 2 true],tN⟩
def rp:bj:=[[2,3,4],[2,3,4,12],[4,5],[2,3,4,6],[4,6,22,23,24],[4,6],[4,6,22,23,24],[4,2128],[4,6,22,23,24,25],[4,6,22,23,24],[4,6,8,22,23,24],[4,6,22,23,24],[4,6,22,23,24],[4,5]]
def vo:Cmd:=ag (g1 [] Go.Proofs.Tryz.f9 rp 1 [])
@[go_sem] def BI(a:Cmd):Cmd:=ag (g1 [] Go.Proofs.Tryz.f9 rp 0 [a])
def BJ:Cmd:=BI vo
def zF:FD:=⟨2,[[.o 0 [],.o 5 [.o 2 [],.o 0 [],.o 2 [],.o 0 []]],[]],[.cell 4 2 true,.t 5],BJ⟩
def ru:bj:=[[2,3,4],[2,3,4,12],[4,5],[2,3,4,6],[2,4,6,18,19,20],[2,4,6],[2,4,6,18,19,20],[2,3,4,6],[2,4,6,18,19,20,21],[2,4,6,18,19,20],[2,4,6,8,18,19,20],[2,4,6,18,19,20],[1000009,26,1,6,3,6,1,8],[2,4,6,18,19,20],[4,5]]
def vA:Cmd:=ag (g1 [] Go.Proofs.Tryz.f10 ru 1 [])
@[go_sem] def BK(a:Cmd):Cmd:=ag (g1 [] Go.Proofs.Tryz.f10 ru 0 [a])
def BL:Cmd:=BK vA
def zG:FD:=⟨2,[[.o 0 [],.o 5 [.o 2 [],.o 0 [],.o 2 [],.o 0 []]],[]],[.cell 4 2 true,.t 5],BL⟩
def kG:bj:=[[2,3,4],[2,3,4],[2,3,4,16],[4,5],[2,3,4,22],[12,13],[4,5],[2,3,4,6],[3,4,6,46,47,48],[4,6],[3,4,6,46,47,48],[2,3,4,2352],[3,4,6,46,47,48,49],[3,4,6,46,47,48],[3,4,6,8,46,47,48],[3,4,6,8,46,47,48,53,54,55],[3,4,6,46,47,48],[3,4,6,8,46,47,48,53,54,55],[2,3,4,8,2352],[3,4,6,8,46,47,48,53,54,55,56],[3,4,6,8,46,47,48,53,54,55],[3,4,6,8,10,46,47,48,53,54,55],[3,4,6,8,10,11,12,46,47,48,53,54,55],[3,4,6,8,10,11,46,47,48,53,54,55,68],[4,5],[3,4,6,8,10,11,13,46,47,48,53,54,55],[3,4,6,8,11,13,46,47,48,53,54,55,74,75,76],[3,4,6,8,11,13,46,47,48,53,54,55],[3,4,6,8,11,13,46,47,48,53,54,55,74,75,76],[2,3,4,8,10,11,2352,2576],[3,4,6,8,11,13,46,47,48,53,54,55,74,75,76,77],[3,4,6,8,11,13,46,47,48,53,54,55,74,75,76],[3,4,6,8,11,13,14,15,46,47,48,53,54,55,74,75,76],[3,4,6,8,11,13,46,47,48,53,54,55,74,75,76],[3,4,6,8,11,13,46,47,48,53,54,55,74,75,76],[3,4,6,8,46,47,48,53,54,55],[3,4,6,8,46,47,48,53,54,55],[3,4,6,46,47,48],[4,5]]
def kV:Cmd:=ag (g1 [] Go.Proofs.Tryz.f11 kG 1 [])
@[go_sem] def vB(a:Cmd):Cmd:=ag (g1 [] Go.Proofs.Tryz.f11 kG 2 [a])
def pp:Cmd:=vB kV
@[go_sem] def vC(a b:Cmd):Cmd:=ag (g1 [] Go.Proofs.Tryz.f11 kG 3 [a,b])
def vD:Cmd:=vC kV pp
@[go_sem] def BM(a b c:Cmd):Cmd:=ag (g1 [] Go.Proofs.Tryz.f11 kG 0 [a,b,c])
def BN:Cmd:=BM kV pp vD
def zH:FD:=⟨2,[[.o 0 [],.o 5 [.o 2 [],.o 0 [],.o 2 [],.o 0 []]],[]],[.cell 4 2 true,.t 5],BN⟩
def nI:bj:=[[1,2,4],[1,2,4],[1,2,4,12],[4,5],[1,2,4,17],[4,5],[1,2,4,6],[1,4,6,31,32,33],[4,6],[1,4,6,31,32,33],[2,4,2232],[1,4,6,31,32,33,34],[1,4,6,31,32,33],[1,4,6,8,31,32,33],[1,4,6,8,31,32,33,42],[1,4,6,8,9,10,31,32,33],[1,7,1,12,3,12,6,12,7,12,8,12],[1,4,6,8,9,31,32,33,56],[4,5],[1,4,6,9,11,31,32,33],[1,4,6,9,11,31,32,33],[1,4,6,31,32,33],[1,4,6,31,32,33],[4,5]]
def rJ:Cmd:=ag (g1 [] Go.Proofs.Tryz.f12 nI 1 [])
@[go_sem] def vE(a:Cmd):Cmd:=ag (g1 [] Go.Proofs.Tryz.f12 nI 0 [a])
def vF:Cmd:=vE rJ
def tO:FD:=⟨2,[[.o 0 [],.o 5 [.o 2 [],.o 0 [],.o 2 [],.o 0 []]],[]],[.cell 4 2 true,.t 5],vF⟩
def pq:bj:=[[1],[1,18],[2],[1,20,21,22],[],[1,20,21,22],[1],[1,20,21,22,23],[1,20,21,22],[1,3,4,20,21,22],[1,3,4,20,21,22,45],[2],[1,3,4,20,21,22,54],[2],[1,20,21,22,69],[],[2],[1,20,21,22],[2]]
def sL:Cmd:=ag (g1 [] Go.Proofs.Tryz.f13 pq 1 [])
@[go_sem] def yf(a:Cmd):Cmd:=ag (g1 [] Go.Proofs.Tryz.f13 pq 0 [a])
def yg:Cmd:=yf sL
def vG:FD:=⟨1,[[]],[.t 2],yg⟩
def fF:Cmd:=ag (g0 Go.Proofs.Tryz.f14 [[0,1],[4]])
def fk:FD:=⟨2,[[]],[.t 4],fF⟩
def vH:Cmd:=ag (g0 Go.Proofs.Tryz.f15 [[1],[2]])
def tP:FD:=⟨1,[[]],[.t 2],vH⟩
def fG:Cmd:=ag (g0 Go.Proofs.Tryz.f16 [[0,1],[4]])
def fm:FD:=⟨2,[[]],[.t 4],fG⟩
def sM:Cmd:=ag (g0 Go.Proofs.Tryz.f17 [[1],[2]])
def rK:FD:=⟨1,[[]],[.t 2],sM⟩
def gU:Cmd:=ag (g0 Go.Proofs.Tryz.f18 [[0,1],[4]])
def gB:FD:=⟨2,[[]],[.t 4],gU⟩
def vJ:Cmd:=ag (g0 Go.Proofs.Tryz.f19 [[0],[2]])
def tQ:FD:=⟨1,[[]],[.t 2],vJ⟩
def BO:Cmd:=ag (g0 Go.Proofs.Tryz.f20 [[0],[2]])
def zJ:FD:=⟨1,[[]],[.t 2],BO⟩
def qp:bj:=[[1],[1,17],[2],[1,3],[],[1,3],[1],[1,3,22],[1,3],[1,3,54],[],[2],[1,3],[2]]
def tT:Cmd:=ag (g1 [] Go.Proofs.Tryz.f23 qp 1 [])
@[go_sem] def zK(a:Cmd):Cmd:=ag (g1 [] Go.Proofs.Tryz.f23 qp 0 [a])
def zL:Cmd:=zK tT
def yi:FD:=⟨1,[[]],[.t 2],zL⟩
def BP:Cmd:=ag (g0 Go.Proofs.Tryz.f24 [[0],[0,3],[2]])
def zN:FD:=⟨1,[[]],[.t 2],BP⟩
def BQ:Cmd:=ag (g0 Go.Proofs.Tryz.f25 [[1],[1,7],[2],[1,3],[2,5],[3,17],[2],[2]])
def zO:FD:=⟨1,[[]],[.t 2],BQ⟩
def nJ:bj:=[[0],[0,3],[2],[0,3],[],[0,3],[0,3],[0,3],[0,3,14],[2]]
def rL:Cmd:=ag (g1 [] Go.Proofs.Tryz.f26 nJ 1 [])
@[go_sem] def vK(a:Cmd):Cmd:=ag (g1 [] Go.Proofs.Tryz.f26 nJ 0 [a])
def vL:Cmd:=vK rL
def tU:FD:=⟨1,[[]],[.t 2],vL⟩
def zQ:Cmd:=ag (g0 Go.Proofs.Tryz.f27 [[2,3],[4]])
def yj:FD:=⟨2,[[]],[.t 4],zQ⟩
def yk:Cmd:=ag (g0 Go.Proofs.Tryz.f28 [[0],[2]])
def vM:FD:=⟨1,[[]],[.t 2],yk⟩
def bu:bj:=[[0],[0,3],[0,3,9,10,11],[0,3],[0,3,9,10,11],[],[0,3,9,10,11,12],[0,3,9,10,11],[0,3,5,9,10,11],[0,3,9,10,11],[0,3,9,10,11,20],[0,3,9,10,11],[0,3,9,10,11],[0,6],[6,25,26,27],[6],[6,25,26,27],[33,2192],[6,25,26,27,28],[6,25,26,27],[6,8,25,26,27],[6,25,26,27],[6,25,26,27],[2]]
def gD:Cmd:=ag (g1 [] Go.Proofs.Tryz.f29 bu 1 [])
def gG:Cmd:=ag (g1 [] Go.Proofs.Tryz.f29 bu 2 [])
@[go_sem] def iG(a b:Cmd):Cmd:=ag (g1 [] Go.Proofs.Tryz.f29 bu 0 [a,b])
def iH:Cmd:=iG gD gG
def ie:FD:=⟨1,[[.o 5 [.o 2 [],.o 0 [],.o 2 [],.o 0 []]]],[.t 2],iH⟩
def bZ:Cmd:=ag (g1 [(83,1),(35,0)] Go.Proofs.Tryz.f30 [[0,1,5],[0,1,5,14],[0,1,5,6,7],[0,1,5,6,26],[],[1000013,33,5,8,8,9,5,10,5,12],[0,6,8,9],[4,14,8,14,9,14,10,14],[],[0,6,8,67],[],[0,6,8,73],[],[],[]] 0 [])
def aZ:FD:=⟨3,[],[],bZ⟩
def nK:Cmd:=ag (g0 Go.Proofs.Tryz.f31 [[0,2],[0,2],[0,2,4],[2,3],[4,5],[0,2,15],[2,3],[2,3]])
def nj:FD:=⟨1,[[.o 0 [],.o 5 [.o 2 [],.o 0 [],.o 2 [],.o 0 []]],[]],[.cell 2 2 true,.t 3],nK⟩
def ym:Cmd:=ag (g0 Go.Proofs.Tryz.f32 [[1,2],[1,2,11],[2],[2],[1,5,5,7]])
def vO:FD:=⟨1,[dj],[.cell 2 3 true],ym⟩
def vP:Cmd:=ag (g0 Go.Proofs.Tryz.f33 [[1],[1,11],[2],[2]])
def tV:FD:=⟨1,[[]],[.t 2],vP⟩
def yp:Cmd:=ag (g0 Go.Proofs.Tryz.f34 [[2,3,4],[2,3,4,15],[4,5],[2,3,4,26],[4,5],[2,3,4,36],[2,4],[4,5],[2,3,4,6],[4,5]])
def vR:FD:=⟨2,[dj,[]],[.cell 4 3 true,.t 5],yp⟩
def mJ:Cmd:=ag (g0 Go.Proofs.Tryz.f35 [[0],[0,4],[2],[2]])
def me:FD:=⟨1,[[]],[.t 2],mJ⟩
def yq:Cmd:=ag (g0 Go.Proofs.Tryz.f36 [[0,2],[0,2,3],[0,2,3,7],[0,2,3],[2]])
def vT:FD:=⟨1,[dj],[.cell 2 3 true],yq⟩
def cJ:Cmd:=ag (g0 Go.Proofs.Tryz.f37 [[1],[1,6],[2],[2]])
def bC:FD:=⟨1,[[]],[.t 2],cJ⟩
def jM:Cmd:=ag (g0 Go.Proofs.Tryz.f38 [[0,1],[4]])
def jH:FD:=⟨2,[[]],[.t 4],jM⟩
def tW:Cmd:=ag (g0 Go.Proofs.Tryz.f39 [[0],[2]])
def sN:FD:=⟨1,[[]],[.t 2],tW⟩
def nM:bj:=[[0],[0,3],[3,6,7,8],[3],[3,6,7,8],[],[3,6,7,8,9],[3,6,7,8],[3,5,6,7,8],[3,6,7,8],[3,6,7,8],[2]]
def fH:Cmd:=ag (g1 [] Go.Proofs.Tryz.f40 nM 1 [])
@[go_sem] def vU(a:Cmd):Cmd:=ag (g1 [] Go.Proofs.Tryz.f40 nM 0 [a])
def pu:Cmd:=vU fH
def j7:FD:=⟨1,[[]],[.t 2],pu⟩
def mf:Cmd:=ag (g0 Go.Proofs.Tryz.f41 [[0,1],[0,1,5],[0,1,5,12],[4],[4]])
def jh:FD:=⟨2,[[]],[.t 4],mf⟩
def cx:bj:=[[0,1],[0,1,7,8],[],[0,1,7,8],[],[0,1,7,8,9],[0,1,7,8],[0,1,5,7,8],[0,1,5,7,8,16],[4],[0,1,7,8],[4]]
def fJ:Cmd:=ag (g1 [] Go.Proofs.Tryz.f42 cx 1 [])
@[go_sem] def gH(a:Cmd):Cmd:=ag (g1 [] Go.Proofs.Tryz.f42 cx 0 [a])
def gI:Cmd:=gH fJ
def gg:FD:=⟨2,[[]],[.t 4],gI⟩
def cz:bj:=[[0,1],[0,1,7,8],[],[0,1,7,8],[1000],[0,1,7,8,9],[0,1,7,8],[0,1,5,7,8],[0,1,5,7,8,16],[4],[0,1,7,8],[4]]
def fK:Cmd:=ag (g1 [] Go.Proofs.Tryz.f43 cz 1 [])
@[go_sem] def gM(a:Cmd):Cmd:=ag (g1 [] Go.Proofs.Tryz.f43 cz 0 [a])
def gN:Cmd:=gM fK
def gh:FD:=⟨2,[[]],[.t 4],gN⟩
def dx:bj:=[[0,1],[0,1,7,8],[],[0,1,7,8],[],[0,1,7,8,9],[0,1,7,8],[0,1,5,7,8],[0,1,5,7,8,16],[4],[0,1,7,8],[4]]
def gV:Cmd:=ag (g1 [] Go.Proofs.Tryz.f44 dx 1 [])
@[go_sem] def iU(a:Cmd):Cmd:=ag (g1 [] Go.Proofs.Tryz.f44 dx 0 [a])
def iV:Cmd:=iU gV
def iI:FD:=⟨2,[[]],[.t 4],iV⟩
def ry:bj:=[[0],[0,12],[2],[0,14,15],[],[0,14,15],[],[0,14,15,16],[0,14,15],[0,3,14,15],[0,4,14,15],[0,14,15,31],[2],[0,14,15],[2]]
def vV:Cmd:=ag (g1 [] Go.Proofs.Tryz.f45 ry 1 [])
@[go_sem] def BR(a:Cmd):Cmd:=ag (g1 [] Go.Proofs.Tryz.f45 ry 0 [a])
def BS:Cmd:=BR vV
def zS:FD:=⟨1,[[]],[.t 2],BS⟩
def vW:Cmd:=ag (g0 Go.Proofs.Tryz.f46 [[0],[3],[],[3,4],[3,4],[3,4],[3,4],[3,4],[3,4],[3,4],[3,4],[3,4],[3,4],[3,4],[3,4],[3,4],[3,4],[4],[2],[2]])
def tZ:FD:=⟨1,[[]],[.t 2],vW⟩
def mW:bj:=[[0],[0,10],[2,3],[0],[0,15],[2,3],[0,4],[4],[0,4],[41],[0,4,18],[0,4],[4,5,6],[0,4,6],[0,4,7],[0,4,7,31],[0,4,7],[0,4],[4],[2,3]]
def rm:Cmd:=ag (g1 [] Go.Proofs.Tryz.f47 mW 1 [])
@[go_sem] def ub(a:Cmd):Cmd:=ag (g1 [] Go.Proofs.Tryz.f47 mW 0 [a])
def ud:Cmd:=ub rm
def sO:FD:=⟨1,[[],[]],[.t 2,.t 3],ud⟩
def rz:bj:=[[0,3],[3,24],[4],[3,5],[3,5,6],[5],[3,5,6],[3],[3,5,6,29],[3,5,6],[3,5,6,45],[4],[3,5,6],[3,5,6],[4]]
def vX:Cmd:=ag (g1 [] Go.Proofs.Tryz.f52 rz 1 [])
@[go_sem] def BT(a:Cmd):Cmd:=ag (g1 [] Go.Proofs.Tryz.f52 rz 0 [a])
def BU:Cmd:=BT vX
def zT:FD:=⟨2,[[]],[.t 4],BU⟩
def nN:bj:=[[0,1],[0,1,5,6],[0,1,5,6,14],[4],[0,1,17],[4],[0,1,7],[],[0,1,7],[],[0,1,7,21],[0,1,7],[0,1,7,32],[],[4],[0,1,7,41],[],[4],[0,1,7],[4]]
def rM:Cmd:=ag (g1 [] Go.Proofs.Tryz.f53 nN 1 [])
@[go_sem] def vY(a:Cmd):Cmd:=ag (g1 [] Go.Proofs.Tryz.f53 nN 0 [a])
def vZ:Cmd:=vY rM
def ue:FD:=⟨2,[[]],[.t 4],vZ⟩
def BV:Cmd:=ag (g0 Go.Proofs.Tryz.f54 [[0],[0,7],[10],[2,3],[2,3],[4,5],[4,17],[2,3],[19],[2,3],[2,3]])
def zU:FD:=⟨1,[[],[]],[.t 2,.t 3],BV⟩
def nO:bj:=[[0],[0,3],[0,3,4],[],[0,3,4],[],[0,3,4,9],[0,3,4],[0,3,4,17],[2],[0,3,4],[2]]
def rN:Cmd:=ag (g1 [] Go.Proofs.Tryz.f55 nO 1 [])
@[go_sem] def we(a:Cmd):Cmd:=ag (g1 [] Go.Proofs.Tryz.f55 nO 0 [a])
def wh:Cmd:=we rN
def ug:FD:=⟨1,[[]],[.t 2],wh⟩
def nP:bj:=[[0],[0],[0,3],[3],[0,3],[],[0,3,9],[0,3],[0,3],[0,3,4],[0,3],[3,23],[2],[2]]
def rO:Cmd:=ag (g1 [] Go.Proofs.Tryz.f56 nP 1 [])
@[go_sem] def wj(a:Cmd):Cmd:=ag (g1 [] Go.Proofs.Tryz.f56 nP 0 [a])
def wk:Cmd:=wj rO
def ui:FD:=⟨1,[[]],[.t 2],wk⟩
def wl:Cmd:=ag (g0 Go.Proofs.Tryz.f57 [[0],[0,4],[2],[2]])
def uj:FD:=⟨1,[[]],[.t 2],wl⟩
def jy:Cmd:=ag (g0 Go.Proofs.Tryz.f58 [[0,1],[0,1,6],[0,1],[7777777,100000],[0,1],[0,1,16],[7777777,100000],[0],[7777777,100000],[4]])
def iW:FD:=⟨2,[[]],[.t 4],jy⟩
def aV:bj:=[[0,1,2],[0,1,2,8],[0,1,2,8,9,10],[0,1,2,8,9],[0,1,2,8,9,10],[],[0,1,2,8,9,10,17],[0,1,2,8,9,10],[0,1,2,8,9,10,11],[0,1,2,8,9,10,11,31],[0,1,2,8,9,10],[0,1,2,8,9,10],[6,7]]
def am:Cmd:=ag (g1 [] Go.Proofs.Tryz.f59 aV 1 [])
@[go_sem] def dG(a:Cmd):Cmd:=ag (g1 [] Go.Proofs.Tryz.f59 aV 0 [a])
def bc:Cmd:=dG am
def aB:FD:=⟨3,[[],[]],[.t 6,.t 7],bc⟩
def iX:Cmd:=ag (g0 Go.Proofs.Tryz.f60 [[1,2],[4]])
def dT:FD:=⟨2,[[]],[.t 4],iX⟩
def iJ:Cmd:=ag (g0 Go.Proofs.Tryz.f61 [[0,1,2],[0,1,2],[0,1,2,7],[0,1,2,7,16],[6],[0,1,2,7,8],[0,1,2,7,8,22],[6],[0,1,2,7,8,31],[0,1,2,7,9],[0,1,7,9],[9],[],[6],[0,1,2,7,8],[0,1,2,7,8,68],[0,1,2],[],[0],[7777777,200000],[6],[0,1,7],[0],[6]])
def ig:FD:=⟨3,[[]],[.t 6],iJ⟩
def py:Cmd:=ag (g0 Go.Proofs.Tryz.f62 [[1,2],[1,2],[2]])
def j8:FD:=⟨1,[dj],[.cell 2 3 true],py⟩
def jN:Cmd:=ag (g0 Go.Proofs.Tryz.f63 [[2,3,4],[2,3,4,13],[4,5],[4,5]])
def fP:FD:=⟨2,[dj,[]],[.cell 4 3 true,.t 5],jN⟩
def dy:Cmd:=ag (g1 [(31,2)] Go.Proofs.Tryz.f64 [[0,1,2],[0,1,2],[0,1,2,16],[6],[0,1,2,7],[0,7],[],[0],[7777777,100000,200000],[6]] 0 [])
def bv:FD:=⟨3,[[]],[.t 6],dy⟩
def eB:Cmd:=ag (g0 Go.Proofs.Tryz.f65 [[0],[0,4],[2],[2]])
def ef:FD:=⟨1,[[.o 2 []]],[.t 2],eB⟩
def pA:Cmd:=ag (g0 Go.Proofs.Tryz.f66 [[0],[2]])
def ke:FD:=⟨1,[[]],[.t 2],pA⟩
def wm:Cmd:=ag (g0 Go.Proofs.Tryz.f67 [[0,1],[0,1,9],[4,5],[4,5]])
def uk:FD:=⟨2,[[.o 2 []],[]],[.t 4,.t 5],wm⟩
def jz:Cmd:=ag (g0 Go.Proofs.Tryz.f68 [[1,2],[1,2,6],[2,3],[2,3]])
def eH:FD:=⟨1,[dj,[]],[.cell 2 3 true,.t 3],jz⟩
def gW:Cmd:=ag (g0 Go.Proofs.Tryz.f69 [[0,1,2,6],[0,1,2,6],[0,1,2,6,14],[6],[0,1,2,6,7],[0,2,6,7,8],[6]])
def dS:FD:=⟨3,[dj],[.cell 6 3 true],gW⟩
def cK:Cmd:=ag (g0 Go.Proofs.Tryz.f70 [[1],[1,3],[2]])
def bB:FD:=⟨1,[[]],[.t 2],cK⟩
def eS:bj:=[[0,1],[0,1,7,8],[],[0,1,7,8],[1000],[0,1,7,8,9],[0,1,7,8],[0,1,5,7,8],[0,1,5,7,8,16],[4],[0,1,7,8],[4]]
def jO:Cmd:=ag (g1 [] Go.Proofs.Tryz.f71 eS 1 [])
@[go_sem] def kQ(a:Cmd):Cmd:=ag (g1 [] Go.Proofs.Tryz.f71 eS 0 [a])
def kR:Cmd:=kQ jO
def kf:FD:=⟨2,[[]],[.t 4],kR⟩
def eu:Cmd:=ag (g0 Go.Proofs.Tryz.f72 [[0,1],[0,1,5],[0,1,5,6],[0,1,6,11],[12],[4],[4],[0,1,13],[4],[0,1,16],[4],[19],[4],[4]])
def cB:FD:=⟨2,[[]],[.t 4],eu⟩
def fQ:bj:=[[0,1],[0,1,9,10,11],[0,1],[0,1,9,10,11],[],[0,1,9,10,11,12],[0,1,9,10,11],[0,1,5,6,9,10,11],[0,1,5,6,9,10,11,19],[4],[0,1,6,7,9,10,11],[0,1,8,9,10,11],[0,1,8,9,10,11,28],[4],[0,1,9,10,11],[35],[4],[4]]
def aH:Cmd:=ag (g1 [] Go.Proofs.Tryz.f73 fQ 1 [])
@[go_sem] def lE(a:Cmd):Cmd:=ag (g1 [] Go.Proofs.Tryz.f73 fQ 0 [a])
def dE:Cmd:=lE aH
def bG:FD:=⟨2,[[]],[.t 4],dE⟩
def zV:Cmd:=ag (g0 Go.Proofs.Tryz.f74 [[0],[],[0,3],[2],[0,18],[2],[0,33],[2],[0,40],[2],[0,43],[2],[46],[2],[2]])
def qt:FD:=⟨1,[[]],[.t 2],zV⟩
def nQ:Cmd:=ag (g0 Go.Proofs.Tryz.f75 [[0],[2]])
def jP:FD:=⟨1,[[]],[.t 2],nQ⟩
def mX:bj:=[[0],[0,3],[0,3],[0,3],[],[0,3,15],[0,3],[0,3],[2]]
def dA:Cmd:=ag (g1 [] Go.Proofs.Tryz.f76 mX 1 [])
@[go_sem] def uo(a:Cmd):Cmd:=ag (g1 [] Go.Proofs.Tryz.f76 mX 0 [a])
def nR:Cmd:=uo dA
def jQ:FD:=⟨1,[[.o 2 []]],[.t 2],nR⟩
def mh:bj:=[[0,1],[0,1,6],[0,1,6,7],[0,1,6,7,8],[6,7],[0,1,6,7,8],[11],[0,1,6,7,8,16],[0,1,6,7,8],[0,1,6,7,8],[0,1,6,7,8],[4,5]]
def qu:Cmd:=ag (g1 [] Go.Proofs.Tryz.f77 mh 1 [])
@[go_sem] def sP(a:Cmd):Cmd:=ag (g1 [] Go.Proofs.Tryz.f77 mh 0 [a])
def sQ:Cmd:=sP qu
def rP:FD:=⟨2,[[.o 2 []],[]],[.t 4,.t 5],sQ⟩
def dM:bj:=[[0,2,3],[],[0,2,3],[1000],[0,2,3,9],[0,2,3],[0,2,3],[],[0,2,3]]
def iK:Cmd:=ag (g1 [] Go.Proofs.Tryz.f80 dM 1 [])
@[go_sem] def jI(a:Cmd):Cmd:=ag (g1 [] Go.Proofs.Tryz.f80 dM 0 [a])
def jJ:Cmd:=jI iK
def jA:FD:=⟨1,[],[],jJ⟩
def zW:Cmd:=ag (g0 Go.Proofs.Tryz.f84 [[1],[1,7],[2],[1,48],[2],[1,3],[2]])
def yr:FD:=⟨1,[[]],[.t 2],zW⟩
def sR:bj:=[[0],[0,3],[0,3,4],[3],[0,3,4],[],[0,3,4,8],[0,3,4],[0,3,4],[0,3,4],[2]]
def yt:Cmd:=ag (g1 [] Go.Proofs.Tryz.f85 sR 1 [])
@[go_sem] def Cw(a:Cmd):Cmd:=ag (g1 [] Go.Proofs.Tryz.f85 sR 0 [a])
def Cx:Cmd:=Cw yt
def BW:FD:=⟨1,[[]],[.t 2],Cx⟩
def pB:bj:=[[0],[0,3],[0],[0,3],[],[0,3,7],[0,3],[0,3,20],[2],[0,3],[2]]
def sT:Cmd:=ag (g1 [] Go.Proofs.Tryz.f86 pB 1 [])
@[go_sem] def yu(a:Cmd):Cmd:=ag (g1 [] Go.Proofs.Tryz.f86 pB 0 [a])
def yv:Cmd:=yu sT
def wn:FD:=⟨1,[[]],[.t 2],yv⟩
def nS:bj:=[[0],[0,4,5],[0,4,5,6],[0,4,5],[0,4,5,6],[],[0,4,5,6,10],[0,4,5,6],[0,4,5,6,16],[0,4,5,6],[0,4,5,6,22],[0,4,5,6],[2,3],[0,4,5,6],[5,43],[2,3],[2,3]]
def rQ:Cmd:=ag (g1 [] Go.Proofs.Tryz.f87 nS 1 [])
@[go_sem] def wo(a:Cmd):Cmd:=ag (g1 [] Go.Proofs.Tryz.f87 nS 0 [a])
def wr:Cmd:=wo rQ
def uq:FD:=⟨1,[[],[]],[.t 2,.t 3],wr⟩
def ur:Cmd:=ag (g0 Go.Proofs.Tryz.f88 [[],[0]])
def sU:FD:=⟨0,[[.o 2 []]],[.t 0],ur⟩
def rA:bj:=[[0],[0,3],[0,3],[0,3],[],[0,3,15],[0,3],[0,3],[2]]
def ws:Cmd:=ag (g1 [] Go.Proofs.Tryz.f89 rA 1 [])
@[go_sem] def BX(a:Cmd):Cmd:=ag (g1 [] Go.Proofs.Tryz.f89 rA 0 [a])
def BY:Cmd:=BX ws
def zX:FD:=⟨1,[[.o 2 []]],[.t 2],BY⟩
def qw:bj:=[[0,1],[0,1,6],[0,1,6,7],[0,1,6,7,8],[6,7],[0,1,6,7,8],[12],[0,1,6,7,8,17],[0,1,6,7,8],[0,1,6,8,9],[0,1,6,8,9],[0,1,6,7,8],[0,1,6,7,8],[4,5]]
def ut:Cmd:=ag (g1 [] Go.Proofs.Tryz.f90 qw 1 [])
@[go_sem] def zY(a:Cmd):Cmd:=ag (g1 [] Go.Proofs.Tryz.f90 qw 0 [a])
def zZ:Cmd:=zY ut
def yw:FD:=⟨2,[[.o 2 []],[]],[.t 4,.t 5],zZ⟩
def jR:Cmd:=ag (g0 Go.Proofs.Tryz.f93 [[2,3,4],[2,3,4,24],[2,3,4,28],[2,4],[4,5],[2,3,4,6],[2,3,4,6,7,8],[1,2],[2,3,4,6,63],[4,5],[2,3,4,6,9,10],[6,8,6,10],[2,3,4,6,9,10,83],[2,4,6,11],[4,5],[2,3,4,6,9,10,101],[2,4,6,9,10],[2,4,6,13],[4,5]])
def dv:FD:=⟨2,[dj,[]],[.cell 4 3 true,.t 5],jR⟩
def kg:Cmd:=ag (g0 Go.Proofs.Tryz.f94 [[0],[0],[0,7],[2],[2]])
def gx:FD:=⟨1,[[]],[.t 2],kg⟩
def kh:Cmd:=ag (g0 Go.Proofs.Tryz.f95 [[0],[0],[0,8],[2,3],[2,3]])
def gy:FD:=⟨1,[[.o 2 []],[]],[.t 2,.t 3],kh⟩
def kj:bj:=[[0,1],[0,1,5],[1,5,18,19,20],[5],[1,5,18,19,20],[17],[1,5,18,19,20,21],[1,5,18,19,20],[1,5,6,7,18,19,20],[1,5,6,7,8,18,19,20],[1,5,6,7,8,18,19,20,25,26,27],[1,5,6,8,18,19,20],[1,5,6,7,8,18,19,20,25,26,27],[17],[1,5,6,7,8,18,19,20,25,26,27,28],[1,5,6,7,8,18,19,20,25,26,27],[1,5,6,7,8,9,10,18,19,20,25,26,27],[1,5,6,7,9,11,18,19,20,25,26,27],[1,5,6,7,8,18,19,20,25,26,27],[1,5,6,7,8,18,19,20,25,26,27],[1,5,18,19,20],[1,5,18,19,20],[4]]
def mj:Cmd:=ag (g1 [] Go.Proofs.Tryz.f96 kj 1 [])
@[go_sem] def rR(a:Cmd):Cmd:=ag (g1 [] Go.Proofs.Tryz.f96 kj 2 [a])
def rS:Cmd:=rR mj
@[go_sem] def wt(a b:Cmd):Cmd:=ag (g1 [] Go.Proofs.Tryz.f96 kj 0 [a,b])
def wu:Cmd:=wt mj rS
def uu:FD:=⟨2,[[.o 2 []]],[.t 4],wu⟩
def lq:bj:=[[0],[0,3],[0,3],[0,3],[],[0,3,15],[0,3],[0,3],[2]]
def cF:Cmd:=ag (g1 [] Go.Proofs.Tryz.f97 lq 1 [])
@[go_sem] def rT(a:Cmd):Cmd:=ag (g1 [] Go.Proofs.Tryz.f97 lq 0 [a])
def mq:Cmd:=rT cF
def iL:FD:=⟨1,[[.o 2 []]],[.t 2],mq⟩
def pC:bj:=[[0],[0,3],[3,6,7,8],[3],[3,6,7,8],[],[3,6,7,8,9],[3,6,7,8],[3,5,6,7,8],[3,5,6,7,8,13],[2],[3,6,7,8],[3,6,7,8],[2]]
def gA:Cmd:=ag (g1 [] Go.Proofs.Tryz.f98 pC 1 [])
@[go_sem] def yx(a:Cmd):Cmd:=ag (g1 [] Go.Proofs.Tryz.f98 pC 0 [a])
def qx:Cmd:=yx gA
def kW:FD:=⟨1,[[]],[.t 2],qx⟩
def ji:Cmd:=ag (g0 Go.Proofs.Tryz.f99 [[0,1],[0,1],[0,1,6],[4,5],[0,1,10],[4,5],[4,5]])
def eU:FD:=⟨2,[[.o 2 []],[]],[.t 4,.t 5],ji⟩
def eW:Cmd:=ag (g0 Go.Proofs.Tryz.f100 [[0],[2]])
def cw:FD:=⟨1,[[.o 2 []]],[.t 2],eW⟩
def mr:Cmd:=ag (g0 Go.Proofs.Tryz.f101 [[0],[2]])
def iM:FD:=⟨1,[[]],[.t 2],mr⟩
def gj:Cmd:=ag (g0 Go.Proofs.Tryz.f103 [[0,1],[4]])
def cr:FD:=⟨2,[[]],[.t 4],gj⟩
def mu:Cmd:=ag (g0 Go.Proofs.Tryz.f104 [[0],[2]])
def iN:FD:=⟨1,[[]],[.t 2],mu⟩
def yy:Cmd:=ag (g0 Go.Proofs.Tryz.f105 [[0,1,2],[0,1,2,15],[0,1,2],[2,8],[6,7],[]])
def wv:FD:=⟨3,[[],[]],[.t 6,.t 7],yy⟩
def rB:bj:=[[0],[0,7],[2],[0,3],[3,4],[3],[3,4],[],[3,4,19],[3,4],[3,4],[3,4],[2]]
def ww:Cmd:=ag (g1 [] Go.Proofs.Tryz.f116 rB 1 [])
@[go_sem] def BZ(a:Cmd):Cmd:=ag (g1 [] Go.Proofs.Tryz.f116 rB 0 [a])
def B0:Cmd:=BZ ww
def Aa:FD:=⟨1,[[]],[.t 2],B0⟩
def Ac:Cmd:=ag (g0 Go.Proofs.Tryz.f117 [[0],[2]])
def qy:FD:=⟨1,[[]],[.t 2],Ac⟩
def uv:Cmd:=ag (g0 Go.Proofs.Tryz.f118 [[0],[2]])
def mY:FD:=⟨1,[[]],[.t 2],uv⟩
def wx:Cmd:=ag (g0 Go.Proofs.Tryz.f119 [[0],[2]])
def nT:FD:=⟨1,[[]],[.t 2],wx⟩
def jS:Cmd:=ag (g0 Go.Proofs.Tryz.f121 [[1],[1,11],[2],[2],[2,4]])
def fR:FD:=⟨1,[[]],[.t 2],jS⟩
def my:Cmd:=ag (g0 Go.Proofs.Tryz.f122 [[0,1],[5],[4]])
def iO:FD:=⟨2,[[.o 2 []]],[.t 4],my⟩
def kX:Cmd:=ag (g0 Go.Proofs.Tryz.f123 [[0,1],[0,1,9],[4,5],[4,5]])
def ij:FD:=⟨2,[[.o 2 []],[]],[.t 4,.t 5],kX⟩
def nU:bj:=[[0,1],[0,1],[0,1,14],[19],[4],[4],[0,1,5],[],[0,1,5],[],[0,1,5,24],[0,1,5],[0,1,5],[0,1,5,27],[],[4],[0,1,5,37],[],[4],[0,1,5],[4]]
def bH:Cmd:=ag (g1 [] Go.Proofs.Tryz.f124 nU 1 [])
@[go_sem] def wz(a:Cmd):Cmd:=ag (g1 [] Go.Proofs.Tryz.f124 nU 0 [a])
def pF:Cmd:=wz bH
def eY:FD:=⟨2,[[]],[.t 4],pF⟩
def jj:Cmd:=ag (g0 Go.Proofs.Tryz.f125 [[0,1],[0,1],[0,1,6],[4,5],[0,1,11],[4,5],[4,5]])
def eZ:FD:=⟨2,[[.o 2 []],[]],[.t 4,.t 5],jj⟩
def qz:Cmd:=ag (g0 Go.Proofs.Tryz.f126 [[0,2],[0,2,4],[0],[0,2],[0,2,8],[0,2],[0,2],[2]])
def dX:FD:=⟨1,[[]],[.t 2],qz⟩
def nV:bj:=[[0,1],[0,1],[0,1,15],[4],[0,1],[0,1,5],[0,1,5,23,24,25],[5],[0,1,5,23,24,25],[22],[0,1,5,23,24,25,26],[0,1,5,23,24,25],[0,1,5,6,7,23,24,25],[0,1,5,6,8,23,24,25],[0,1,5,6,8,23,24,25,36],[0,1,5,6,8,23,24,25],[0,1,5,23,24,25],[0,1,5,23,24,25],[4]]
def dN:Cmd:=ag (g1 [] Go.Proofs.Tryz.f128 nV 1 [])
@[go_sem] def wA(a:Cmd):Cmd:=ag (g1 [] Go.Proofs.Tryz.f128 nV 0 [a])
def kY:Cmd:=wA dN
def io:FD:=⟨2,[[.o 2 []]],[.t 4],kY⟩
def cZ:bj:=[[0,1],[0,1,7,8],[],[0,1,7,8],[],[0,1,7,8,9],[0,1,7,8],[0,1,5,7,8],[0,1,5,7,8,16],[4],[0,1,7,8],[4]]
def gk:Cmd:=ag (g1 [] Go.Proofs.Tryz.f130 cZ 1 [])
@[go_sem] def ip(a:Cmd):Cmd:=ag (g1 [] Go.Proofs.Tryz.f130 cZ 0 [a])
def iq:Cmd:=ip gk
def de:FD:=⟨2,[[]],[.t 4],iq⟩
def fS:Cmd:=ag (g0 Go.Proofs.Tryz.f141 [[0,1],[0,1],[0,1,6],[4,5],[0,1,10],[4,5],[4,5]])
def dH:FD:=⟨2,[[.o 2 []],[]],[.t 4,.t 5],fS⟩
def nX:bj:=[[0,1],[0,1,14],[0,1],[0,1,5],[0,1,5,6],[0,1,5,6,21,22,23],[0,5,6],[0,1,5,6,21,22,23],[20],[0,1,5,6,21,22,23,24],[0,1,5,6,21,22,23],[0,1,5,6,7,8,21,22,23],[0,1,5,6,7,8,9,21,22,23],[0,1,5,6,7,8,9,21,22,23,31],[0,1,5,6,7,8,9,21,22,23],[0,1,5,6,21,22,23],[0,1,5,6,21,22,23],[5],[4]]
def cM:Cmd:=ag (g1 [] Go.Proofs.Tryz.f142 nX 1 [])
@[go_sem] def wB(a:Cmd):Cmd:=ag (g1 [] Go.Proofs.Tryz.f142 nX 0 [a])
def pG:Cmd:=wB cM
def iv:FD:=⟨2,[[.o 2 []]],[.t 4],pG⟩
def nY:bj:=[[0,1],[0,1],[0,1,5],[0,1,5,6],[1,5,6,17,18,19],[5],[1,5,6,17,18,19],[16],[1,5,6,17,18,19,20],[1,5,6,17,18,19],[1,5,6,7,8,17,18,19],[1,5,6,7,8,9,17,18,19],[1,5,6,7,8,9,17,18,19,27],[1,5,6,7,8,9,17,18,19],[1,5,6,17,18,19],[1,5,6,17,18,19],[4]]
def dO:Cmd:=ag (g1 [] Go.Proofs.Tryz.f143 nY 1 [])
@[go_sem] def wC(a:Cmd):Cmd:=ag (g1 [] Go.Proofs.Tryz.f143 nY 0 [a])
def pH:Cmd:=wC dO
def kl:FD:=⟨2,[[.o 2 []]],[.t 4],pH⟩
def nZ:bj:=[[0,1],[0,1],[0,1,5],[0,1,5,6],[1,5,6,21,22,23],[5,6],[1,5,6,21,22,23],[20,38],[1,5,6,21,22,23,24],[1,5,6,21,22,23],[1,5,6,8,21,22,23],[1,5,9,21,22,23],[1,5,6,21,22,23],[1,5,6,21,22,23],[4]]
def fL:Cmd:=ag (g1 [] Go.Proofs.Tryz.f147 nZ 1 [])
@[go_sem] def wD(a:Cmd):Cmd:=ag (g1 [] Go.Proofs.Tryz.f147 nZ 0 [a])
def pI:Cmd:=wD fL
def ko:FD:=⟨2,[[]],[.t 4],pI⟩
def qA:Cmd:=ag (g0 Go.Proofs.Tryz.f148 [[0,1,2],[8],[6,8],[6,7]])
def kZ:FD:=⟨3,[[],[]],[.t 6,.t 7],qA⟩
def qB:Cmd:=ag (g0 Go.Proofs.Tryz.f149 [[0,1,2],[0,1,6],[6,7]])
def lg:FD:=⟨3,[[],[]],[.t 6,.t 7],qB⟩
end
noncomputable def xf:List (Nat×FD):=[(105,wv),
 (126,dX),
 (148,kZ),
 (149,lg),
 (47,sO),
 (67,uk),
 (75,jP),
 (76,jQ),
 (77,rP),
 (94,gx),
 (95,gy),
 (96,uu),
 (99,eU),
 (104,iN),
 (123,ij),
 (124,eY),
 (125,eZ),
 (128,io),
 (141,dH),
 (142,iv),
 (143,kl),
 (147,ko),
 (72,cB),
 (101,iM),
 (14,fk),
 (16,fm),
 (18,gB),
 (29,ie),
 (35,me),
 (38,jH),
 (42,gg),
 (43,gh),
 (44,iI),
 (58,iW),
 (59,aB),
 (61,ig),
 (64,bv),
 (65,ef),
 (71,kf),
 (73,bG),
 (80,jA),
 (100,cw),
 (103,cr),
 (130,de),
 (32,vO),
 (34,vR),
 (36,vT),
 (37,bC),
 (63,fP),
 (66,ke),
 (68,eH),
 (69,dS),
 (70,bB),
 (93,dv),
 (97,iL),
 (98,kW),
 (121,fR),
 (122,iO),
 (6,ye),
 (9,zF),
 (10,zG),
 (11,zH),
 (12,tO),
 (13,vG),
 (19,tQ),
 (27,yj),
 (28,vM),
 (30,aZ),
 (31,nj),
 (33,tV),
 (39,sN),
 (40,j7),
 (41,jh),
 (60,dT),
 (62,j8),
 (25,zO),
 (56,ui),
 (57,uj),
 (84,yr),
 (89,zX),
 (90,yw),
 (116,Aa),
 (7,zE),
 (23,yi),
 (26,tU),
 (52,zT),
 (53,ue),
 (85,BW),
 (3,rI),
 (4,yb),
 (5,yc),
 (8,sK),
 (15,tP),
 (17,rK),
 (20,zJ),
 (24,zN),
 (45,zS),
 (46,tZ),
 (54,zU),
 (55,ug),
 (74,qt),
 (86,wn),
 (87,uq),
 (88,sU),
 (117,qy),
 (118,mY),
 (119,nT)]
def PP:List (Nat×List (List Sh)):=[(47,[[.o 2 []]]),
 (67,[[.o 2 []],[.o 2 []]]),
 (75,[[.o 2 [.o 2 []]]]),
 (76,[[.o 2 []]]),
 (77,[[.o 2 []],[]]),
 (94,[[.o 2 []]]),
 (95,[[.o 2 []]]),
 (96,[[.o 2 []],[.o 2 []]]),
 (99,[[.o 2 []],[]]),
 (104,[[.o 2 []]]),
 (123,[[.o 2 []],[.o 2 []]]),
 (124,[[.o 2 []],[.o 2 []]]),
 (125,[[.o 2 []],[.o 2 []]]),
 (128,[[.o 2 []],[]]),
 (141,[[.o 2 []],[]]),
 (142,[[.o 2 []],[.o 2 []]]),
 (143,[[.o 2 []],[.o 2 []]]),
 (147,[[.o 2 []],[]]),
 (14,[[.o 3 [.o 0 [],.o 5 [.o 2 [],.o 0 [],.o 0 [],.o 0 []]]],[]]),
 (16,[[.o 5 [.o 2 [],.o 0 [],.o 2 [],.o 0 []]],[]]),
 (18,[[.o 2 []],[]]),
 (29,[[.o 2 [.o 5 [.o 2 [],.o 0 [],.o 2 [],.o 0 []]]]]),
 (35,[[.o 2 []]]),
 (38,[[.o 2 []],[]]),
 (42,[[.o 3 [.o 0 [],.o 5 [.o 2 [],.o 0 [],.o 0 [],.o 0 []]]],[]]),
 (43,[[.o 5 [.o 2 [],.o 0 [],.o 2 [],.o 0 []]],[]]),
 (44,[[.o 2 []],[]]),
 (59,[[.o 5 [.o 2 [],.o 0 [],.o 2 [],.o 0 []]],[.o 2 []],[]]),
 (61,[[],[],[.o 5 [.o 2 [],.o 0 [],.o 2 [],.o 0 []]]]),
 (65,[[.o 2 []]]),
 (71,[[.o 2 []],[]]),
 (73,[[.o 2 []],[.o 2 []]]),
 (80,[[.o 2 []]]),
 (92,[[.o 5 [.o 2 [],.o 0 [],.o 2 [],.o 0 []]],[]]),
 (100,[[.o 2 []]]),
 (103,[[.o 2 [.o 2 []]],[]]),
 (130,[[.o 2 [.o 2 []]],[]]),
 (32,[dj]),
 (34,[dj,dj]),
 (37,[dj]),
 (63,[dj,dj]),
 (66,[[.o 2 []]]),
 (68,[dj]),
 (69,[[],[.o 2 []],[]]),
 (70,[dj]),
 (93,[dj,dj]),
 (97,[[.o 2 []]]),
 (98,[[.o 2 []]]),
 (121,[dj]),
 (122,[[.o 2 []],[]]),
 (6,[[.o 0 [],.o 5 [.o 2 [],.o 0 [],.o 2 [],.o 0 []]],[.o 2 []]]),
 (9,[[.o 0 [],.o 5 [.o 2 [],.o 0 [],.o 2 [],.o 0 []]],[.o 0 [],.o 5 [.o 2 [],.o 0 [],.o 2 [],.o 0 []]]]),
 (10,[[.o 0 [],.o 5 [.o 2 [],.o 0 [],.o 2 [],.o 0 []]],[.o 0 [],.o 5 [.o 2 [],.o 0 [],.o 2 [],.o 0 []]]]),
 (11,[[.o 0 [],.o 5 [.o 2 [],.o 0 [],.o 2 [],.o 0 []]],[.o 0 [],.o 5 [.o 2 [],.o 0 [],.o 2 [],.o 0 []]]]),
 (12,[[.o 0 [],.o 5 [.o 2 [],.o 0 [],.o 2 [],.o 0 []]],[]]),
 (13,[[.o 0 [],.o 5 [.o 2 [],.o 0 [],.o 2 [],.o 0 []]]]),
 (27,[[.o 0 [],.o 5 [.o 2 [],.o 0 [],.o 2 [],.o 0 []]],[.o 0 [],.o 5 [.o 2 [],.o 0 [],.o 2 [],.o 0 []]]]),
 (30,[[],[.o 2 []],dj]),
 (33,[[.o 0 [],.o 5 [.o 2 [],.o 0 [],.o 2 [],.o 0 []]]]),
 (40,[[.o 2 []]]),
 (41,[[.o 2 []],[.o 2 []]]),
 (60,[[.o 2 [],.o 0 [],.o 2 [],.o 0 []],[.o 2 []]]),
 (62,[dj]),
 (25,[dj]),
 (56,[[.o 2 []]]),
 (84,[dj]),
 (89,[[.o 2 []]]),
 (90,[[.o 2 []],[]]),
 (116,[[.o 2 []]]),
 (7,[[.o 0 [],.o 5 [.o 2 [],.o 0 [],.o 2 [],.o 0 []]],[.o 2 []]]),
 (23,[[.o 0 [],.o 5 [.o 2 [],.o 0 [],.o 2 [],.o 0 []]]]),
 (52,[[],[.o 2 [],.o 0 [],.o 2 [],.o 0 []]]),
 (53,[[.o 2 []],[.o 2 []]]),
 (85,[[.o 2 []]]),
 (3,[[.o 0 [],.o 5 [.o 2 [],.o 0 [],.o 2 [],.o 0 []]],[.o 2 []]]),
 (5,[[.o 3 [.o 0 [],.o 5 [.o 2 [],.o 0 [],.o 0 [],.o 0 []]]]]),
 (15,[[.o 0 [],.o 5 [.o 2 [],.o 0 [],.o 2 [],.o 0 []]]]),
 (17,[[.o 2 [],.o 0 [],.o 2 [],.o 0 []]])]
def PQ:List (Nat×List Nat):=[(59,[3,0,0]),(61,[2,0,0]),(64,[2,0,0]),(80,[1]),(91,[0,1])]
def keepL:List Nat:=[]
def Jp(zas:List AV)(hs:List Ob):Option (AV×List Ob):=match zas with
 |[.v (.int .u32 n)]=>if 0<n/\n<4294967296/\hs=[]then some (.v (.int .i64 (Cv 32 n.toNat)),[])else none
 |_=>none
def PR(k:Nat)(zas:List AV)(hs:List Ob):Option (AV×List Ob):=match zas,hs with
 |[.sl k0 (_::_),.rsl 1000 none k1 _ _],[.ar k2 rows]=>if k0=k/\k1=k/\k2=k then some (B false,[.ar k2 rows])else none
 |_,_=>none
def FK(zas:List AV)(hs:List Ob):Option (AV×List Ob):=match zas,hs with
 |[.sl 1 []],[]=>some (.sl 1 [],[])
 |[.sl 1 (r::rs)],[]=>if(rs.length+1)*8<=140737488355328 then some (.osl 1 (r::rs),[])else none
 |_,_=>none
def Jq(zas:List AV)(hs:List Ob):Option (AV×List Ob):=match zas,hs with
 |[.sl 1 []],[]=>some (.sl 1 [],[])
 |[.sl 1 (r::rs)],[]=>if(rs.length+1)*4<=140737488355328 then some (.sl 1 (r::rs),[])else none
 |_,_=>none
def Dm(k bytes:Nat)(zas:List AV)(hs:List Ob):Option (AV×List Ob):=match zas,hs with
 |[.emp,.v (.int .i64 0),.sl k0 [r]],[]=>if k0=k then some (.osl k [r],[])else none
 |[.rsl 1000 none k1 0 n,.v (.int .i64 i),.sl k0 [r]],[.ar k2 rows]=>
  if k0=k/\k1=k/\k2=k/\n=rows.length/\0<=i/\i<=n/\(n+1)*bytes<=140737488355328 then some (.osl k (rows.take i.toNat++r::rows.drop i.toNat),[.dead])else none
 |_,_=>none
def Cy:List AV->Option (List Value)
 |[]=>some []
 | .v x::l=>(Cy l).map (x::·)
 |_=>none
def D9(G:List Value->Option Value)(zas:List AV)(hs:List Ob):Option (AV×List Ob):=match Cy zas,hs with
 |some xs,[]=>(G xs).map fun y=>(.v y,[])
 |_,_=>none
def FL:List (List AV)->Option (List ByteArray)
 |[]=>some []
 |[.v (.string x)]::l=>(FL l).map (x::·)
 |_=>none
def PS(J:List ByteArray->ByteArray->List UInt8)(zas:List AV)(hs:List Ob):Option (AV×List Ob):=match zas,hs with
 |[.sl 1 (r::rows),.v (.string sep)],[]=>(FL (r::rows)).bind fun xs=>if xs.length<=1000/\(J xs sep).length<=140737488355328 then some (.v (.string ⟨(J xs sep).toArray⟩),[])else none
 |_,_=>none
def PT:List Value->Option Value
 |[.int .i64 n]=>if-9223372036854775808<=n/\n<=9223372036854775807 then some (.string ⟨(Lib.itoa n).toArray⟩)else none
 |_=>none
def PU:List Value->Option Value
 |[.int .u64 n,.int .i64 10]=>if 0<=n/\n<18446744073709551616 then some (.string ⟨(Lib.decDigits n.toNat).toArray⟩)else none
 |_=>none
def PV:List Value->Option Value
 |[.string s,.int .i64 c]=>if 0<=c/\c<=1000/\s.size<=1000 then some (.string ⟨(Lib.repeatL s.data.toList c.toNat).toArray⟩)else none
 |_=>none
def PW:List Value->Option Value
 |[.string s,.int .u8 c]=>some (.int .i64 (Lib.indexByte s.data.toList c.toNat.toUInt8))
 |_=>none
def PX(xs:List ByteArray)(sep:ByteArray):List UInt8:=Lib.join (xs.map (·.data.toList)) sep.data.toList
def HN:List (Nat× (List AV->List Ob->Option (AV×List Ob))):=[(F.bits_TrailingZeros32,Jp),(F.slices_overlaps_api_Term_,PR 4)]
def Lq:List (Nat× (List AV->List Ob->Option (AV×List Ob))):=(F.strconv_Itoa,D9 PT)::(F.strconv_FormatUint,D9 PU)::(F.strings_Repeat,D9 PV)::(F.strings_IndexByte,D9 PW)::(F.strings_Join,PS PX)::(F.slices_Clone_uint32_uint32_,Jq)::(F.slices_Clone_int_int_,FK)::(F.slices_Insert_api_Term_api_Term_,Dm 4 64)::HN
noncomputable def cQ:Env:=⟨fun f=>Lq.lookup f,fun f=>xf.lookup f,⟨fun f=>(PQ.lookup f).getD [],fun f=>(PP.lookup f).getD [],fun f=>keepL.contains f,false⟩⟩
noncomputable def bA (b:Bool):Mode:={cQ.md with nm:=b}
noncomputable def R:bQ:=bp cQ
theorem Cz{f:FuncId}{fd:FD}{args:List AV}{hs:List Ob}{r:AV×List Ob}(b:Bool)(hE:cQ.E f=none)(hC:cQ.C f=some fd)(hk:cQ.md.keep f=b)(h1:args.length=fd.np)(h2:hs.length<=1000)
  (hz:oH b fd.rs fd.res hs.length (aj R (bA b) fd.body (oI args) (aO hs))=some r):R f args hs=some r:=by
 refine uQ hE hC ?_;unfold BA;rw[if_pos ⟨h1,h2⟩];subst hk;exact hz
@[go_sem] theorem PY(b:Bool):(bA b).nm=b:=_root_.id rfl
abbrev FM(f:FuncId):Prop:=∀ (b:Bool) (h:ac) (d:Nat) (zas:List AV),aM R (bA b) h d zas (.fn f [] [])=(bU h [] zas).bind (BF R (bA b) d f)
abbrev Ar(f:FuncId)(l:List (List Sh)):Prop:=∀b:Bool,(bA b).sh f=l
abbrev As(f:FuncId)(l:List Nat):Prop:=∀b:Bool,(bA b).m f=l
abbrev At(f:FuncId)(l:Bool):Prop:=∀b:Bool,(bA b).keep f=l
theorem Do{f:FuncId}{l:List (List Sh)}(h:cQ.md.sh f=l):Ar f l:=fun _=>h
theorem Dp{f:FuncId}{l:List Nat}(h:cQ.md.m f=l):As f l:=fun _=>h
theorem Dq{f:FuncId}{l:Bool}(h:cQ.md.keep f=l):At f l:=fun _=>h
theorem FN{f:FuncId}(hm:∀b,(bA b).m f=[]):FM f:=fun b _ d _=>xX d (hm b)
abbrev QL(f:FuncId)(l:List (List Sh)):Prop:=Ar f l/\As f []/\FM f/\At f false
abbrev QE(f:FuncId)(l:List (List Sh))(fd:FD):Prop:=QL f l/\cQ.E f=none/\cQ.C f=some fd
theorem ql{f:FuncId}{l:List (List Sh)}(h:(cQ.md.sh f,cQ.md.m f,cQ.md.keep f)=(l,[],false)):QL f l:=by
 simp only[Prod.mk.injEq]at h;exact⟨fun _=>h.1,fun _=>h.2.1,FN fun _=>h.2.1,fun _=>h.2.2⟩
theorem qe{f:FuncId}{l:List (List Sh)}{fd:FD}(h:(cQ.md.sh f,cQ.md.m f,cQ.md.keep f,cQ.E f,cQ.C f)=(l,[],false,none,some fd)):QE f l fd:=by
 simp only[Prod.mk.injEq]at h;exact⟨⟨fun _=>h.1,fun _=>h.2.1,FN fun _=>h.2.1,fun _=>h.2.2.1⟩,h.2.2.2⟩
@[go_sem] theorem Sj:QE F.l23_PolyTexts [[.o 0 [],.o 5 [.o 2 [],.o 0 [],.o 2 [],.o 0 []]],[.o 2 []]] rI:=qe (by kernel_rfl)
@[go_sem] theorem XE:QL F.l23_awake []:=ql (by kernel_rfl)
@[go_sem] theorem UH:QE F.l23_great [[.o 3 [.o 0 [],.o 5 [.o 2 [],.o 0 [],.o 0 [],.o 0 []]]]] yc:=qe (by kernel_rfl)
@[go_sem] theorem SA:QE F.poly_Text [[.o 0 [],.o 5 [.o 2 [],.o 0 [],.o 2 [],.o 0 []]],[.o 2 []]] ye:=qe (by kernel_rfl)
@[go_sem] theorem Vf:QE F.r23_Text [[.o 0 [],.o 5 [.o 2 [],.o 0 [],.o 2 [],.o 0 []]],[.o 2 []]] zE:=qe (by kernel_rfl)
@[go_sem] theorem Ub:QE F.poly_Valid [[.o 0 [],.o 5 [.o 2 [],.o 0 [],.o 2 [],.o 0 []]]] vG:=qe (by kernel_rfl)
@[go_sem] theorem Q8:QE F.slices_ContainsFunc_api_Poly_api_Poly_ [[.o 3 [.o 0 [],.o 5 [.o 2 [],.o 0 [],.o 0 [],.o 0 []]]],[]] fk:=qe (by kernel_rfl)
@[go_sem] theorem TO:QE F.l23_great_1 [[.o 0 [],.o 5 [.o 2 [],.o 0 [],.o 2 [],.o 0 []]]] tP:=qe (by kernel_rfl)
@[go_sem] theorem Q9:QE F.slices_ContainsFunc_api_Term_api_Term_ [[.o 5 [.o 2 [],.o 0 [],.o 2 [],.o 0 []]],[]] fm:=qe (by kernel_rfl)
@[go_sem] theorem Tg:QE F.l23_great_1_1 [[.o 2 [],.o 0 [],.o 2 [],.o 0 []]] rK:=qe (by kernel_rfl)
@[go_sem] theorem Q6:QE F.slices_ContainsFunc_string_string_ [[.o 2 []],[]] gB:=qe (by kernel_rfl)
@[go_sem] theorem TP:QE F.poly_Text_1 [] tQ:=qe (by kernel_rfl)
@[go_sem] theorem YZ:QE F.lex_Name [] zJ:=qe (by kernel_rfl)
@[go_sem] theorem Wc:QL F.dyadic_Text []:=ql (by kernel_rfl)
@[go_sem] theorem Vs:QL F.strconv_Itoa []:=ql (by kernel_rfl)
@[go_sem] theorem XF:QE F.r23_Valid [[.o 0 [],.o 5 [.o 2 [],.o 0 [],.o 2 [],.o 0 []]]] yi:=qe (by kernel_rfl)
@[go_sem] theorem Y0:QE F.r12_Name [] zN:=qe (by kernel_rfl)
@[go_sem] theorem Y3:QE F.r02_Text [dj] zO:=qe (by kernel_rfl)
@[go_sem] theorem Wd:QE F.r23_decimal [] tU:=qe (by kernel_rfl)
@[go_sem] theorem ap:QE F.poly_collector_add [[],[.o 2 []],dj] aZ:=qe (by kernel_rfl)
@[go_sem] theorem zp:QL F.slices_Clone_int_int_ [[.o 2 []]]:=ql (by kernel_rfl)
@[go_sem] theorem uw:QE F.dyadic_Valid [dj] bC:=qe (by kernel_rfl)
@[go_sem] theorem Rj:QE F.slices_ContainsFunc_int_int_ [[.o 2 []],[]] jH:=qe (by kernel_rfl)
@[go_sem] theorem Tv:QE F.poly_Valid_1 [] sN:=qe (by kernel_rfl)
@[go_sem] theorem wE:QE F.poly_degree [[.o 2 []]] j7:=qe (by kernel_rfl)
@[go_sem] theorem yz:QE F.poly_order [[.o 2 []],[.o 2 []]] jh:=qe (by kernel_rfl)
@[go_sem] theorem QZ:QE F.slices_IndexFunc_api_Poly_api_Poly_ [[.o 3 [.o 0 [],.o 5 [.o 2 [],.o 0 [],.o 0 [],.o 0 []]]],[]] gg:=qe (by kernel_rfl)
@[go_sem] theorem Q0:QE F.slices_IndexFunc_api_Term_api_Term_ [[.o 5 [.o 2 [],.o 0 [],.o 2 [],.o 0 []]],[]] gh:=qe (by kernel_rfl)
@[go_sem] theorem Q3:QE F.slices_IndexFunc_string_string_ [[.o 2 []],[]] iI:=qe (by kernel_rfl)
@[go_sem] theorem Y5:QE F.lex_word [] zS:=qe (by kernel_rfl)
@[go_sem] theorem We:QE F.lex_Keyword [] tZ:=qe (by kernel_rfl)
@[go_sem] theorem Vt:QE F.natural_Text [[.o 2 []]] sO:=qe (by kernel_rfl)
@[go_sem] theorem Y6:QE F.r23_term [[],[.o 2 [],.o 0 [],.o 2 [],.o 0 []]] zT:=qe (by kernel_rfl)
@[go_sem] theorem Wf:QE F.r23_Compare [[.o 2 []],[.o 2 []]] ue:=qe (by kernel_rfl)
@[go_sem] theorem Y7:QE F.r12_kind [] zU:=qe (by kernel_rfl)
@[go_sem] theorem Wg:QE F.r12_Keyword [] ug:=qe (by kernel_rfl)
@[go_sem] theorem Wh:QE F.r02_Decimal [[.o 2 []]] ui:=qe (by kernel_rfl)
@[go_sem] theorem Wi:QE F.r02_integer [] uj:=qe (by kernel_rfl)
theorem dJ:cQ.C F.slices_BinarySearchFunc_api_Term_api_Term_Sint_=some aB:=by kernel_rfl
theorem dK:cQ.E F.slices_BinarySearchFunc_api_Term_api_Term_Sint_=none:=by kernel_rfl
@[go_sem] theorem aW:Ar F.slices_BinarySearchFunc_api_Term_api_Term_Sint_ [[.o 5 [.o 2 [],.o 0 [],.o 2 [],.o 0 []]],[.o 2 []],[]]:=Do (by kernel_rfl)
@[go_sem] theorem be:As F.slices_BinarySearchFunc_api_Term_api_Term_Sint_ [3,0,0]:=Dp (by kernel_rfl)
@[go_sem] theorem aQ:At F.slices_BinarySearchFunc_api_Term_api_Term_Sint_ false:=Dq (by kernel_rfl)
@[go_sem] theorem ns:QE F.poly_collector_add_1 [[.o 2 [],.o 0 [],.o 2 [],.o 0 []],[.o 2 []]] dT:=qe (by kernel_rfl)
@[go_sem] theorem dm:Ar F.slices_Insert_api_Term_api_Term_ [[],[],[.o 5 [.o 2 [],.o 0 [],.o 2 [],.o 0 []]]]:=Do (by kernel_rfl)
@[go_sem] theorem dB:As F.slices_Insert_api_Term_api_Term_ [2,0,0]:=Dp (by kernel_rfl)
@[go_sem] theorem cS:At F.slices_Insert_api_Term_api_Term_ false:=Dq (by kernel_rfl)
@[go_sem] theorem wF:QE F.poly_copied [dj] j8:=qe (by kernel_rfl)
@[go_sem] theorem yA:QE F.dyadic_Add [dj,dj] fP:=qe (by kernel_rfl)
theorem iP:cQ.C F.slices_Delete_api_Term_api_Term_=some bv:=by kernel_rfl
theorem iQ:cQ.E F.slices_Delete_api_Term_api_Term_=none:=by kernel_rfl
@[go_sem] theorem iw:Ar F.slices_Delete_api_Term_api_Term_ []:=Do (by kernel_rfl)
@[go_sem] theorem iS:As F.slices_Delete_api_Term_api_Term_ [2,0,0]:=Dp (by kernel_rfl)
@[go_sem] theorem cU:At F.slices_Delete_api_Term_api_Term_ false:=Dq (by kernel_rfl)
@[go_sem] theorem jU:QL F.slices_Clone_uint32_uint32_ [[.o 2 []]]:=ql (by kernel_rfl)
@[go_sem] theorem wG:QE F.dyadic_size [[.o 2 []]] ke:=qe (by kernel_rfl)
@[go_sem] theorem rU:QE F.dyadic_checked [dj] eH:=qe (by kernel_rfl)
@[go_sem] theorem qC:QE F.dyadic_canonical [[],[.o 2 []],[]] dS:=qe (by kernel_rfl)
@[go_sem] theorem rW:QE F.dyadic_inRange [dj] bB:=qe (by kernel_rfl)
@[go_sem] theorem Q7:QE F.slices_IndexFunc_int_int_ [[.o 2 []],[]] kf:=qe (by kernel_rfl)
@[go_sem] theorem qD:QE F.cmp_Compare_int_ [] cB:=qe (by kernel_rfl)
@[go_sem] theorem lF:QE F.slices_Compare_int_int_ [[.o 2 []],[.o 2 []]] bG:=qe (by kernel_rfl)
@[go_sem] theorem Gz:QE F.lex_class [] qt:=qe (by kernel_rfl)
@[go_sem] theorem uz:QE F.natural_long [[.o 2 [.o 2 []]]] jP:=qe (by kernel_rfl)
@[go_sem] theorem uA:QE F.natural_trim [[.o 2 []]] jQ:=qe (by kernel_rfl)
@[go_sem] theorem Vg:QE F.natural_short [[.o 2 []],[]] rP:=qe (by kernel_rfl)
@[go_sem] theorem Y8:QL F.strconv_FormatUint []:=ql (by kernel_rfl)
@[go_sem] theorem aa1:QL F.strings_Repeat []:=ql (by kernel_rfl)
theorem R7:cQ.C F.slices_Reverse_string_string_=some jA:=by kernel_rfl
theorem R8:cQ.E F.slices_Reverse_string_string_=none:=by kernel_rfl
@[go_sem] theorem RZ:Ar F.slices_Reverse_string_string_ [[.o 2 []]]:=Do (by kernel_rfl)
@[go_sem] theorem R9:As F.slices_Reverse_string_string_ [1]:=Dp (by kernel_rfl)
@[go_sem] theorem Rn:At F.slices_Reverse_string_string_ false:=Dq (by kernel_rfl)
@[go_sem] theorem ab6:QL F.strings_Join []:=ql (by kernel_rfl)
@[go_sem] theorem XG:QE F.r02_Valid [dj] yr:=qe (by kernel_rfl)
@[go_sem] theorem Z5:QE F.r23_sum [[.o 2 []]] BW:=qe (by kernel_rfl)
@[go_sem] theorem WS:QE F.r12_wordly [] wn:=qe (by kernel_rfl)
@[go_sem] theorem Wj:QE F.r12_numeric [] uq:=qe (by kernel_rfl)
@[go_sem] theorem ab7:QL F.r12_Reserved []:=ql (by kernel_rfl)
@[go_sem] theorem Y9:QE F.r02_trim [[.o 2 []]] zX:=qe (by kernel_rfl)
@[go_sem] theorem XH:QE F.r02_small [[.o 2 []],[]] yw:=qe (by kernel_rfl)
@[go_sem] theorem yB:QE F.dyadic_sum [dj,dj] dv:=qe (by kernel_rfl)
@[go_sem] theorem uB:QE F.natural_Bits [[.o 2 []]] gx:=qe (by kernel_rfl)
@[go_sem] theorem uC:QE F.natural_done [[.o 2 []]] gy:=qe (by kernel_rfl)
@[go_sem] theorem rX:QE F.dyadic_trimmed [[.o 2 []]] iL:=qe (by kernel_rfl)
@[go_sem] theorem yC:QE F.dyadic_low [[.o 2 []]] kW:=qe (by kernel_rfl)
@[go_sem] theorem wH:QE F.natural_Shr [[.o 2 []],[]] eU:=qe (by kernel_rfl)
@[go_sem] theorem ku:QE F.slices_Clip_uint32_uint32_ [[.o 2 []]] cw:=qe (by kernel_rfl)
@[go_sem] theorem rY:QE F.cmp_isNaN_int_ [] iM:=qe (by kernel_rfl)
@[go_sem] theorem Ce:QL F.strings_IndexByte []:=ql (by kernel_rfl)
@[go_sem] theorem aE:QE F.slices_ContainsFunc_Suint32_Suint32_ [[.o 2 [.o 2 []]],[]] cr:=qe (by kernel_rfl)
@[go_sem] theorem mA:QE F.natural_long_1 [[.o 2 []]] iN:=qe (by kernel_rfl)
@[go_sem] theorem WT:QE F.bits_Div32 [] wv:=qe (by kernel_rfl)
@[go_sem] theorem Za:QE F.r02_bits [[.o 2 []]] Aa:=qe (by kernel_rfl)
@[go_sem] theorem GA:QE F.r12_inRun [] qy:=qe (by kernel_rfl)
@[go_sem] theorem Eo:QE F.r12_IsLetter [] mY:=qe (by kernel_rfl)
@[go_sem] theorem EV:QE F.r12_IsDigit [] nT:=qe (by kernel_rfl)
@[go_sem] theorem yD:QE F.dyadic_Top [dj] fR:=qe (by kernel_rfl)
@[go_sem] theorem rZ:QE F.dyadic_shifted [[.o 2 []],[]] iO:=qe (by kernel_rfl)
@[go_sem] theorem wI:QE F.natural_Add [[.o 2 []],[.o 2 []]] ij:=qe (by kernel_rfl)
@[go_sem] theorem wJ:QE F.natural_Cmp [[.o 2 []],[.o 2 []]] eY:=qe (by kernel_rfl)
@[go_sem] theorem wK:QE F.natural_Sub [[.o 2 []],[.o 2 []]] eZ:=qe (by kernel_rfl)
@[go_sem] theorem yE:QE F.bits_Len32 [] dX:=qe (by kernel_rfl)
@[go_sem] theorem Ad:QL F.bits_TrailingZeros32 []:=ql (by kernel_rfl)
@[go_sem] theorem wL:QE F.natural_shr [[.o 2 []],[]] io:=qe (by kernel_rfl)
@[go_sem] theorem az:QE F.slices_IndexFunc_Suint32_Suint32_ [[.o 2 [.o 2 []]],[]] de:=qe (by kernel_rfl)
@[go_sem] theorem wM:QE F.natural_Shl [[.o 2 []],[]] dH:=qe (by kernel_rfl)
@[go_sem] theorem wN:QE F.natural_add [[.o 2 []],[.o 2 []]] iv:=qe (by kernel_rfl)
@[go_sem] theorem wO:QE F.natural_sub [[.o 2 []],[.o 2 []]] kl:=qe (by kernel_rfl)
@[go_sem] theorem wQ:QE F.natural_shl [[.o 2 []],[]] ko:=qe (by kernel_rfl)
@[go_sem] theorem yF:QE F.bits_Add32 [] kZ:=qe (by kernel_rfl)
@[go_sem] theorem yG:QE F.bits_Sub32 [] lg:=qe (by kernel_rfl)
attribute [go_sem_proc ↓] reduceIte
attribute [go_sem_proc] Nat.reduceEqDiff
end Go.Ab
