/-
  A law of models holds at every input that the statement speaks of, under the conditions that its card names. Part C1.
-/
import Derived.Test.YtdhfcpbpdmmphaaGreatDoorProg
import Derived.KernelRfl
import Derived.Test.YtdhfcpbpdmmphaaGreatDoorB1
open Nat renaming add_zero → ayF, le_refl → ayd, lt_of_le_of_lt → ayS, mul_assoc → ayD, mul_comm → ayy, pow_add → ayn, pow_succ → ayZ, two_pow_pos → ayr, zero_add → ayc
open List renaming cons_append → ayW, length_cons → ayL, replicate → aya
set_option linter.all false
namespace Go.Ab
open Go
open Go.Proofs
set_option maxRecDepth 100000
set_option maxHeartbeats 4000000
abbrev fbu:FuncId:=8
abbrev fbw:FuncId:=12
abbrev fbx:FuncId:=13
abbrev fbC:FuncId:=15
abbrev fco:FuncId:=16
abbrev fa8:FuncId:=17
abbrev fbD:FuncId:=20
abbrev fdc:FuncId:=21
abbrev fa6:FuncId:=22
abbrev fdg:FuncId:=23
abbrev fdb:FuncId:=24
abbrev fbB:FuncId:=25
abbrev fdI:FuncId:=26
abbrev fci:FuncId:=27
abbrev fbE:FuncId:=29
abbrev fbI:FuncId:=30
abbrev fcj:FuncId:=31
abbrev fck:FuncId:=32
abbrev fbF:FuncId:=33
abbrev fcE:FuncId:=35
abbrev fcF:FuncId:=36
abbrev fdF:FuncId:=37
abbrev fc6:FuncId:=38
abbrev fcB:FuncId:=39
abbrev fcK:FuncId:=40
abbrev fcD:FuncId:=41
abbrev fbH:FuncId:=44
abbrev fbj:FuncId:=45
abbrev fbb:FuncId:=47
abbrev fcm:FuncId:=48
abbrev fbi:FuncId:=49
abbrev fbf:FuncId:=50
abbrev fdM:FuncId:=54
abbrev fbv:FuncId:=56
abbrev fbG:FuncId:=57
abbrev fcG:FuncId:=58
abbrev fdK:FuncId:=59
abbrev fbe:FuncId:=61
abbrev fa5:FuncId:=63
abbrev fbl:FuncId:=64
abbrev fak:FuncId:=65
abbrev fdf:FuncId:=66
abbrev fa4:FuncId:=68
abbrev fbK:FuncId:=69
abbrev fdd:FuncId:=70
abbrev fbJ:FuncId:=71
abbrev fbN:FuncId:=73
abbrev fcr:FuncId:=75
abbrev fde:FuncId:=76
abbrev fby:FuncId:=77
abbrev fdL:FuncId:=78
abbrev fbz:FuncId:=79
abbrev fbA:FuncId:=80
abbrev fbP:FuncId:=81
abbrev fa3:FuncId:=82
abbrev fbT:FuncId:=83
abbrev fcz:FuncId:=84
abbrev faM:FuncId:=85
abbrev faI:FuncId:=86
abbrev fcZ:FuncId:=87
abbrev faR:FuncId:=88
abbrev fdP:FuncId:=89
abbrev fcx:FuncId:=90
abbrev fcs:FuncId:=91
abbrev fcu:FuncId:=92
abbrev fbS:FuncId:=94
abbrev fbR:FuncId:=95
abbrev fcp:FuncId:=96
abbrev fcw:FuncId:=97
abbrev faL:FuncId:=98
abbrev fbU:FuncId:=99
abbrev fbd:FuncId:=100
abbrev fbV:FuncId:=101
abbrev faJ:FuncId:=102
abbrev faO:FuncId:=103
abbrev fcH:FuncId:=104
abbrev fcN:FuncId:=105
abbrev fcC:FuncId:=106
abbrev fcI:FuncId:=107
abbrev fc7:FuncId:=108
abbrev fda:FuncId:=109
abbrev fcL:FuncId:=110
abbrev fcJ:FuncId:=111
abbrev fcM:FuncId:=112
abbrev fcn:FuncId:=113
abbrev fcl:FuncId:=114
abbrev fbk:FuncId:=115
abbrev fbo:FuncId:=116
abbrev fbs:FuncId:=117
abbrev fdh:FuncId:=118
abbrev faN:FuncId:=119
abbrev fdT:FuncId:=121
abbrev fdR:FuncId:=122
abbrev fap:FuncId:=123
abbrev faC:FuncId:=124
abbrev fba:FuncId:=125
abbrev fam:FuncId:=126
abbrev faj:FuncId:=127
abbrev fc5:FuncId:=128
abbrev fc2:FuncId:=129
abbrev fcX:FuncId:=130
abbrev fbh:FuncId:=132
abbrev fbn:FuncId:=133
abbrev fdj:FuncId:=134
abbrev fdk:FuncId:=135
abbrev fbL:FuncId:=136
abbrev fc1:FuncId:=137
abbrev fc0:FuncId:=138
abbrev fbM:FuncId:=139
abbrev fdm:FuncId:=140
abbrev fdS:FuncId:=141
abbrev fbQ:FuncId:=142
abbrev fdi:FuncId:=143
abbrev fbq:FuncId:=144
abbrev fdG:FuncId:=145
abbrev faU:FuncId:=146
abbrev faW:FuncId:=147
abbrev fdD:FuncId:=148
abbrev fct:FuncId:=149
abbrev fcy:FuncId:=150
abbrev fdW:FuncId:=151
abbrev fcv:FuncId:=152
abbrev faG:FuncId:=153
abbrev fdO:FuncId:=154
abbrev fc4:FuncId:=155
abbrev fbO:FuncId:=157
abbrev fdN:FuncId:=158
abbrev fcq:FuncId:=159
abbrev faZ:FuncId:=160
abbrev fb0:FuncId:=161
abbrev faT:FuncId:=162
abbrev faS:FuncId:=163
abbrev fdn:FuncId:=164
abbrev fdo:FuncId:=165
abbrev fcV:FuncId:=166
abbrev fcW:FuncId:=167
abbrev fcT:FuncId:=168
abbrev fcO:FuncId:=169
abbrev fcU:FuncId:=170
abbrev fc9:FuncId:=171
abbrev fcQ:FuncId:=172
abbrev fcS:FuncId:=173
abbrev fcP:FuncId:=174
abbrev fcR:FuncId:=175
abbrev fdp:FuncId:=176
abbrev faP:FuncId:=177
abbrev fdr:FuncId:=178
abbrev faV:FuncId:=179
abbrev fan:FuncId:=180
abbrev fbr:FuncId:=181
abbrev fbp:FuncId:=182
abbrev faB:FuncId:=183
abbrev fal:FuncId:=184
abbrev faA:FuncId:=185
abbrev faq:FuncId:=186
abbrev fay:FuncId:=187
abbrev fat:FuncId:=188
abbrev fa7:FuncId:=189
abbrev fc8:FuncId:=190
abbrev fc3:FuncId:=191
abbrev fcY:FuncId:=192
abbrev fcA:FuncId:=193
abbrev fdt:FuncId:=194
abbrev fdu:FuncId:=195
abbrev faH:FuncId:=196
abbrev faQ:FuncId:=197
abbrev fbY:FuncId:=198
abbrev faY:FuncId:=199
abbrev faD:FuncId:=200
abbrev fdH:FuncId:=201
abbrev fdY:FuncId:=202
abbrev fdZ:FuncId:=203
abbrev fa0:FuncId:=204
abbrev fdU:FuncId:=205
abbrev fbX:FuncId:=206
abbrev fb9:FuncId:=207
abbrev fb7:FuncId:=208
abbrev fcb:FuncId:=209
abbrev fch:FuncId:=210
abbrev fa1:FuncId:=211
abbrev faX:FuncId:=212
abbrev fb2:FuncId:=213
abbrev fdE:FuncId:=214
abbrev fdv:FuncId:=215
abbrev fdl:FuncId:=216
abbrev fdq:FuncId:=217
abbrev fdy:FuncId:=218
abbrev fdC:FuncId:=219
abbrev fdB:FuncId:=220
abbrev fao:FuncId:=221
abbrev fbg:FuncId:=222
abbrev fdV:FuncId:=223
abbrev fdX:FuncId:=224
abbrev fax:FuncId:=225
abbrev fav:FuncId:=226
abbrev faz:FuncId:=227
abbrev fas:FuncId:=228
abbrev faw:FuncId:=229
abbrev fau:FuncId:=230
abbrev fbZ:FuncId:=231
abbrev fdz:FuncId:=232
abbrev fdx:FuncId:=233
abbrev fb1:FuncId:=234
abbrev faE:FuncId:=235
abbrev fbW:FuncId:=237
abbrev fb3:FuncId:=238
abbrev fad:FuncId:=239
abbrev fdJ:FuncId:=240
abbrev fca:FuncId:=241
abbrev fai:FuncId:=242
abbrev fce:FuncId:=243
abbrev fdw:FuncId:=244
abbrev fdA:FuncId:=245
abbrev fds:FuncId:=246
abbrev fa2:FuncId:=247
abbrev fbm:FuncId:=248
abbrev fae:FuncId:=249
abbrev fb6:FuncId:=250
abbrev fcc:FuncId:=251
abbrev fb4:FuncId:=253
abbrev fcf:FuncId:=254
abbrev fdQ:FuncId:=255
abbrev faK:FuncId:=256
abbrev fbc:FuncId:=257
abbrev fa9:FuncId:=258
abbrev fbt:FuncId:=259
abbrev faf:FuncId:=260
abbrev fag:FuncId:=261
abbrev fcd:FuncId:=262
abbrev fac:FuncId:=263
abbrev fb8:FuncId:=264
abbrev fcg:FuncId:=265
abbrev faa:FuncId:=266
abbrev fah:FuncId:=267
abbrev faF:FuncId:=268
abbrev fab:FuncId:=269
abbrev fb5:FuncId:=270
def aF:List Sh:=[.o 0 [],.o 2 [],.o 0 []]
@[go_sem] theorem axZ:aF=[.o 0 [],.o 2 [],.o 0 []]:=θ _
def aC:List Sh:=[.o 0 [],.o 2 [],.o 0 [],.o 0 [],.o 2 [],.o 0 [],.o 0 []]
@[go_sem] theorem ax0:aC=[.o 0 [],.o 2 [],.o 0 [],.o 0 [],.o 2 [],.o 0 [],.o 0 []]:=θ _
noncomputable section
def g0(f:Func)(l:cP):Cmd:=gK Tryz.prog [] f l 0 []
def g1(H:List (Nat×Nat))(f:Func)(l:cP)(k:Nat)(L:List Cmd):Cmd:=gK Tryz.prog H f l k L
def aDd:cP:=[[7,8,9,10,11,12,13],[7,8,9,10,11,12,13,32],[14],[7,8,9,10,11,12,13,66],[14],[7,8,9,10,12,13,15,16],[7,8,9,10,13,15,16,17,18],[7,8,9,10,13,15,17,86],[14],[7,8,9,13,15,17,19],[7,8,9,13,15,17,19,20,21],[7,8,9,13,15,17,19,20,21,22,23],[7,8,9,13,15,19,20,21,22,23,24,25],[7,8,13,15,19,146],[4,5,14,15,25,26,35,36],[14],[7,8,13,15,19,153],[14],[13,15,19,26],[15,19,26,162,163,164],[],[15,19,26,162,163,164],[10,15,26,162],[15,19,26,162,163,164,165],[15,19,26,162,163,164],[15,19,26,28,162,163,164],[15,19,26,29,30,162,163,164],[15,19,26,162,163,164,179],[14],[15,19,26,162,163,164],[14]]
def aCi:Cmd:=ao (g1 [] Tryz.f8 aDd 1 [])
@[go_sem] def aDu(a:Cmd):Cmd:=ao (g1 [] Tryz.f8 aDd 0 [a])
def aBS:Cmd:=aDu aCi
def aBb:FD:=⟨7,[[]],[.t 14],aBS⟩
def Mj:Cmd:=ao (g1 [(6,0)] Tryz.f12 [[],[1],[1,2],[1,3],[0,5,1,5,0,7,1,7,2,7,3,7,4,7,5,7,6,7],[3,4],[0],[7,8,31,32]] 0 [])
def DP:FD:=⟨0,[[]],[.t 0],Mj⟩
def pS:Cmd:=ao (g0 Tryz.f13 [[1,2],[1,2,35],[4],[1,2,5],[1,5,45],[4],[4]])
def kS:FD:=⟨2,[[]],[.t 4],pS⟩
def aAC:Cmd:=ao (g0 Tryz.f15 [[3,4,5],[6]])
def aAj:FD:=⟨3,[[]],[.t 6],aAC⟩
def Mk:cP:=[[2,3,4],[2,3,4,12],[4,5],[2,3,4,6],[2,4,6,18,19,20],[2,4,6],[2,4,6,18,19,20],[2,3,4,6],[2,4,6,18,19,20,21],[2,4,6,18,19,20],[2,4,6,8,18,19,20],[2,4,6,18,19,20],[1000009,26,1,6,3,6,1,8],[2,4,6,18,19,20],[4,5]]
def Tj:Cmd:=ao (g1 [] Tryz.f16 Mk 1 [])
@[go_sem] def abY(a:Cmd):Cmd:=ao (g1 [] Tryz.f16 Mk 0 [a])
def abZ:Cmd:=abY Tj
def Yv:FD:=⟨2,[[.o 0 [],.o 5 [.o 2 [],.o 0 [],.o 2 [],.o 0 []]],[]],[.cell 4 2 true,.t 5],abZ⟩
def fG:Cmd:=ao (g0 Tryz.f17 [[2,3],[2,3,12],[4],[4]])
def dX:FD:=⟨2,[[]],[.t 4],fG⟩
def aAL:Cmd:=ao (g0 Tryz.f20 [[3,6,7,8,10,11],[12]])
def aAp:FD:=⟨6,[[]],[.t 12],aAL⟩
def aAH:cP:=[[1,2],[1,2,11],[4],[1,2,5],[],[1,2,5],[2],[1,2,5,15],[1,2,5],[1,2,5,28],[],[4],[1,2,5],[4]]
def azp:Cmd:=ao (g1 [] Tryz.f21 aAH 1 [])
@[go_sem] def aBe(a:Cmd):Cmd:=ao (g1 [] Tryz.f21 aAH 0 [a])
def aAA:Cmd:=aBe azp
def az5:FD:=⟨2,[[]],[.t 4],aAA⟩
def mN:Cmd:=ao (g0 Tryz.f22 [[2,3],[2,3,12],[4],[4]])
def jn:FD:=⟨2,[[]],[.t 4],mN⟩
def aCh:Cmd:=ao (g0 Tryz.f23 [[1,3,5,6],[5,6,8,9],[5,6,8,18],[6,7],[6,8,9],[6,7]])
def aBq:FD:=⟨3,[aF,[]],[.cell 6 3 true,.t 7],aCh⟩
def aA8:Cmd:=ao (g0 Tryz.f24 [[1,3,5],[3,5,7,8],[3,5,7,19],[6],[3,9,10],[6]])
def aAO:FD:=⟨3,[[]],[.t 6],aA8⟩
def P8:Cmd:=ao (g0 Tryz.f25 [[0,2],[2]])
def HD:FD:=⟨1,[aC],[.cell 2 7 true],P8⟩
def gE:cP:=[[0],[0,3],[0,3,9,10,11],[0,3],[0,3,9,10,11],[],[0,3,9,10,11,12],[0,3,9,10,11],[0,3,5,9,10,11],[0,3,9,10,11],[0,3,9,10,11,20],[0,3,9,10,11],[0,3,9,10,11],[0,6],[6,25,26,27],[6],[6,25,26,27],[33,2192],[6,25,26,27,28],[6,25,26,27],[6,8,25,26,27],[6,25,26,27],[6,25,26,27],[2]]
def fR:Cmd:=ao (g1 [] Tryz.f26 gE 1 [])
def kE:Cmd:=ao (g1 [] Tryz.f26 gE 2 [])
@[go_sem] def wG(a b:Cmd):Cmd:=ao (g1 [] Tryz.f26 gE 0 [a,b])
def lV:Cmd:=wG fR kE
def gF:FD:=⟨1,[[.o 5 [.o 2 [],.o 0 [],.o 2 [],.o 0 []]]],[.t 2],lV⟩
def Ml:cP:=[[2,3,4],[2,3,4,12],[4,5],[2,3,4,6],[4,6,22,23,24],[4,6],[4,6,22,23,24],[4,2128],[4,6,22,23,24,25],[4,6,22,23,24],[4,6,8,22,23,24],[4,6,22,23,24],[4,6,22,23,24],[4,5]]
def sA:Cmd:=ao (g1 [] Tryz.f27 Ml 1 [])
@[go_sem] def ab0(a:Cmd):Cmd:=ao (g1 [] Tryz.f27 Ml 0 [a])
def HE:Cmd:=ab0 sA
def BF:FD:=⟨2,[[.o 0 [],.o 5 [.o 2 [],.o 0 [],.o 2 [],.o 0 []]],[]],[.cell 4 2 true,.t 5],HE⟩
def BG:Cmd:=ao (g0 Tryz.f29 [[3,4,5,6],[3,4,5,6,14],[6],[3,4,5,6,7,8],[6],[0,9,1,9]])
def uE:FD:=⟨3,[[.o 0 [],.o 5 [.o 2 [],.o 0 [],.o 2 [],.o 0 []],.o 0 [],.o 2 [],.o 0 [],.o 0 [],.o 2 [],.o 0 [],.o 0 []]],[.cell 6 9 true],BG⟩
def Mm:Cmd:=ao (g0 Tryz.f30 [[3,4,5,6],[3,4,5,6,14],[6],[3,4,5,6,7,8],[6],[0,9,1,9]])
def DQ:FD:=⟨3,[[.o 0 [],.o 5 [.o 2 [],.o 0 [],.o 2 [],.o 0 []],.o 0 [],.o 2 [],.o 0 [],.o 0 [],.o 2 [],.o 0 [],.o 0 []]],[.cell 6 9 true],Mm⟩
def xE:Cmd:=ao (g0 Tryz.f31 [[1],[1,11],[2],[2]])
def qF:FD:=⟨1,[[]],[.t 2],xE⟩
def BH:cP:=[[2,3,4],[2,3,4],[2,3,4,16],[4,5],[2,3,4,22],[12,13],[4,5],[2,3,4,6],[3,4,6,46,47,48],[4,6],[3,4,6,46,47,48],[2,3,4,2352],[3,4,6,46,47,48,49],[3,4,6,46,47,48],[3,4,6,8,46,47,48],[3,4,6,8,46,47,48,53,54,55],[3,4,6,46,47,48],[3,4,6,8,46,47,48,53,54,55],[2,3,4,8,2352],[3,4,6,8,46,47,48,53,54,55,56],[3,4,6,8,46,47,48,53,54,55],[3,4,6,8,10,46,47,48,53,54,55],[3,4,6,8,10,11,12,46,47,48,53,54,55],[3,4,6,8,10,11,46,47,48,53,54,55,68],[4,5],[3,4,6,8,10,11,13,46,47,48,53,54,55],[3,4,6,8,11,13,46,47,48,53,54,55,74,75,76],[3,4,6,8,11,13,46,47,48,53,54,55],[3,4,6,8,11,13,46,47,48,53,54,55,74,75,76],[2,3,4,8,10,11,2352,2576],[3,4,6,8,11,13,46,47,48,53,54,55,74,75,76,77],[3,4,6,8,11,13,46,47,48,53,54,55,74,75,76],[3,4,6,8,11,13,14,15,46,47,48,53,54,55,74,75,76],[3,4,6,8,11,13,46,47,48,53,54,55,74,75,76],[3,4,6,8,11,13,46,47,48,53,54,55,74,75,76],[3,4,6,8,46,47,48,53,54,55],[3,4,6,8,46,47,48,53,54,55],[3,4,6,46,47,48],[4,5]]
def jL:Cmd:=ao (g1 [] Tryz.f32 BH 1 [])
@[go_sem] def Tk(a:Cmd):Cmd:=ao (g1 [] Tryz.f32 BH 2 [a])
def jM:Cmd:=Tk jL
@[go_sem] def Tl(a b:Cmd):Cmd:=ao (g1 [] Tryz.f32 BH 3 [a,b])
def sB:Cmd:=Tl jL jM
@[go_sem] def ab1(a b c:Cmd):Cmd:=ao (g1 [] Tryz.f32 BH 0 [a,b,c])
def vH:Cmd:=ab1 jL jM sB
def pT:FD:=⟨2,[[.o 0 [],.o 5 [.o 2 [],.o 0 [],.o 2 [],.o 0 []]],[]],[.cell 4 2 true,.t 5],vH⟩
def BI:Cmd:=ao (g1 [(62,0)] Tryz.f33 [[3,4,5,6],[3,4,5,6,17],[6],[3,4,5,6,7],[3,4,5,6,7,8,9],[3,4,5,6,7,8,9,10,11],[5,7,5,9,1,12,3,12,5,12,7,12,9,12,11,12,1,13,3,13,5,13,7,13,9,13,11,13,12,13],[6],[0,8,1,8,8,9,8,11,0,13,1,13,8,15,13,15,8,17,13,17,0,19,1,19,0,20,1,20,0,21,1,21]] 0 [])
def uF:FD:=⟨3,[[.o 0 [],.o 5 [.o 2 [],.o 0 [],.o 2 [],.o 0 []],.o 0 [],.o 2 [],.o 0 [],.o 0 [],.o 2 [],.o 0 [],.o 0 []]],[.cell 6 9 true],BI⟩
def So:Cmd:=ao (g0 Tryz.f35 [[0,2],[0,2,3],[0,2,3,7],[0,2,3],[2]])
def HG:FD:=⟨1,[aF],[.cell 2 3 true],So⟩
def aAu:Cmd:=ao (g0 Tryz.f36 [[2,3,4],[2,3,4,13],[4,5],[4,5]])
def az6:FD:=⟨2,[aF,[]],[.cell 4 3 true,.t 5],aAu⟩
def wz:Cmd:=ao (g0 Tryz.f37 [[0],[0,4],[2],[2]])
def nc:FD:=⟨1,[[]],[.t 2],wz⟩
def aAk:cP:=[[1,2,4],[1,2,4,22],[4,5],[1,2,4,6],[1,2,4],[1,2,4,6],[2,4],[1,2,4,6,27],[1,2,4,6],[1,2,4,6,35],[4,5],[1,2,4,6],[1,2,4,7],[1,2,4,7,8],[4,7],[1,2,4,7,8],[2,4,7],[1,2,4,7,8,41],[1,2,4,7,8],[1,2,4,7,8,9],[1,2,4,7,8,9,10],[1,2,4,7,8,9],[1,2,4,7,8,9,10],[2,4,7,9],[1,2,4,7,8,9,10,53],[1,2,4,7,8,9,10],[1,2,4,7,8,9,10],[1,2,4,7,8,9,10,11],[],[1,2,4,7,8,9,10,75],[4,5],[1,2,4,7,8,9,10],[1,2,4,7,8,9],[1,2,4,7,8,12],[1,2,4,7,8,84],[4,5],[1,2,4,7,8],[4,5]]
def azm:Cmd:=ao (g1 [] Tryz.f38 aAk 1 [])
@[go_sem] def aAZ(a:Cmd):Cmd:=ao (g1 [] Tryz.f38 aAk 2 [a])
def azq:Cmd:=aAZ azm
def azo:Cmd:=ao (g1 [] Tryz.f38 aAk 3 [])
@[go_sem] def aBt(a b c:Cmd):Cmd:=ao (g1 [] Tryz.f38 aAk 0 [a,b,c])
def aAo:Cmd:=aBt azm azq azo
def azU:FD:=⟨2,[aF,[]],[.cell 4 3 true,.t 5],aAo⟩
def aAv:Cmd:=ao (g0 Tryz.f39 [[2,3,4],[2,3,4,13],[4,5],[4,5]])
def az7:FD:=⟨2,[aF,[]],[.cell 4 3 true,.t 5],aAv⟩
def aAw:Cmd:=ao (g0 Tryz.f40 [[2,3,4],[2,3,4,13],[4,5],[4,5],[0,2]])
def az9:FD:=⟨2,[aF,[]],[.cell 4 3 true,.t 5],aAw⟩
def pn:Cmd:=ao (g0 Tryz.f41 [[2,3],[2,3,5,6],[1,2],[2,3,5,6,13],[16],[4],[4],[2,3,5,18],[4],[2,3,5,23],[1,2],[31],[1,2],[4],[4],[4],[0,2]])
def kJ:FD:=⟨2,[[]],[.t 4],pn⟩
def Iy:Cmd:=ao (g0 Tryz.f44 [[3,4,5,6],[3,4,5,6,24],[6],[3,4,5,6,7],[3,4,5,6,7,8,9],[3,4,5,6,7,8,9],[3,4,5,6,8,9,10],[0,2,2,4,2,7,5,7,2,9,5,9,2,11,5,11,2,14,5,14,12,14,0,16,1,16,2,16,4,16,5,16,7,16,9,16,11,16,12,16,14,16,15,16],[6],[0,8,1,8,8,9,8,11,0,12,1,12]])
def AE:FD:=⟨3,[[.o 0 [],.o 5 [.o 2 [],.o 0 [],.o 2 [],.o 0 []],.o 0 [],.o 2 [],.o 0 [],.o 0 [],.o 2 [],.o 0 [],.o 0 []]],[.cell 6 9 true],Iy⟩
def kl:Cmd:=ao (g0 Tryz.f45 [[1],[1,5],[1,3],[2],[2]])
def gR:FD:=⟨1,[[]],[.t 2],kl⟩
def ko:Cmd:=ao (g0 Tryz.f47 [[1,2,4],[1,2,4,16],[4],[2,4,5,6],[2,4,5,28],[4],[2,4,6,7],[2,4,7,43],[4],[4]])
def gY:FD:=⟨2,[aF],[.cell 4 3 true],ko⟩
def Iz:cP:=[[2,3,4],[2,3,4,18],[4,5],[2,3,4,6],[3,4,6,24,25,26],[4,6],[3,4,6,24,25,26],[2,3,4,2176],[3,4,6,24,25,26,27],[3,4,6,24,25,26],[3,4,6,8,24,25,26],[3,4,6,8,24,25,26,33],[3,4,6,8,9,10,24,25,26],[3,4,6,8,9,24,25,26,42],[4,5],[3,4,6,24,25,26],[3,4,6,24,25,26],[4,5]]
def OE:Cmd:=ao (g1 [] Tryz.f48 Iz 1 [])
@[go_sem] def Vv(a:Cmd):Cmd:=ao (g1 [] Tryz.f48 Iz 0 [a])
def Vw:Cmd:=Vv OE
def Tm:FD:=⟨2,[[.o 0 [],.o 5 [.o 2 [],.o 0 [],.o 2 [],.o 0 []]],[]],[.cell 4 2 true,.t 5],Vw⟩
def Gw:Cmd:=ao (g0 Tryz.f49 [[2,3,4,6],[6],[0,2]])
def zp:FD:=⟨3,[aC],[.cell 6 7 true],Gw⟩
def DR:Cmd:=ao (g0 Tryz.f50 [[1,2],[1,2,5],[2],[2]])
def wH:FD:=⟨1,[aC],[.cell 2 7 true],DR⟩
def rJ:Cmd:=ao (g0 Tryz.f54 [[0,1],[4]])
def jf:FD:=⟨2,[[]],[.t 4],rJ⟩
def aCQ:Cmd:=ao (g0 Tryz.f56 [[2,3,4,5],[7]])
def aCn:FD:=⟨4,[[]],[.t 7],aCQ⟩
def Mn:Cmd:=ao (g0 Tryz.f57 [[2,3,4],[2,3,4,11],[4],[2,3,4,5,6],[1,2,1,7,2,7,3,7],[2,3,4,5,22],[4],[4],[0,3]])
def DS:FD:=⟨2,[[.o 0 [],.o 5 [.o 2 [],.o 0 [],.o 2 [],.o 0 []],.o 0 [],.o 2 [],.o 0 [],.o 0 [],.o 2 [],.o 0 [],.o 0 []]],[.cell 4 9 true],Mn⟩
def JC:Cmd:=ao (g0 Tryz.f58 [[1,2],[2]])
def C8:FD:=⟨1,[aF],[.cell 2 3 true],JC⟩
def ng:Cmd:=ao (g0 Tryz.f59 [[0,1],[4]])
def fT:FD:=⟨2,[[]],[.t 4],ng⟩
def AG:Cmd:=ao (g0 Tryz.f61 [[1,2],[1,2,6],[2],[2],[2,4]])
def tQ:FD:=⟨1,[aC],[.cell 2 7 true],AG⟩
def xS:Cmd:=ao (g0 Tryz.f63 [[2,3],[4]])
def qj:FD:=⟨2,[[]],[.t 4],xS⟩
def DT:Cmd:=ao (g0 Tryz.f64 [[0],[0]])
def wI:FD:=⟨0,[aC],[.cell 0 7 true],DT⟩
def zu:Cmd:=ao (g0 Tryz.f65 [[1,2,3,6],[1,2,3,6,13],[6],[6,7,8],[3,4,0,12,3,12,4,12,7,12,8,12],[6,7,28],[6],[6]])
def sC:FD:=⟨3,[aC],[.cell 6 7 true],zu⟩
def JD:cP:=[[2,3],[2,3,37],[21,23],[4],[2,3,5],[],[2,3,5],[2,3],[2,3,5,43],[2,3,5],[2,3,5,56],[],[4],[2,3,5],[4]]
def kq:Cmd:=ao (g1 [] Tryz.f66 JD 1 [])
@[go_sem] def Yw(a:Cmd):Cmd:=ao (g1 [] Tryz.f66 JD 0 [a])
def pU:Cmd:=Yw kq
def kT:FD:=⟨2,[[]],[.t 4],pU⟩
def qG:Cmd:=ao (g0 Tryz.f68 [[2,3,4,6],[2,3,4,6,21],[6],[6]])
def lu:FD:=⟨3,[aC],[.cell 6 7 true],qG⟩
def eY:Cmd:=ao (g0 Tryz.f69 [[1],[1,3],[1,3,36],[2],[2]])
def dG:FD:=⟨1,[[]],[.t 2],eY⟩
def JE:cP:=[[1],[1,29],[2],[1,3],[],[1,3],[1],[1,3,34],[1,3],[1,3,61],[17,21,20,21],[2],[1,3],[2]]
def gG:Cmd:=ao (g1 [] Tryz.f70 JE 1 [])
@[go_sem] def Yy(a:Cmd):Cmd:=ao (g1 [] Tryz.f70 JE 0 [a])
def pW:Cmd:=Yy gG
def kU:FD:=⟨1,[[]],[.t 2],pW⟩
def lK:Cmd:=ao (g0 Tryz.f71 [[2,3],[2,3,36],[21,23],[4],[4]])
def iQ:FD:=⟨2,[[]],[.t 4],lK⟩
def xd:Cmd:=ao (g0 Tryz.f73 [[1,2,4],[2,4,5,6],[2,4,5,21],[4],[4],[0,1]])
def qH:FD:=⟨2,[[.o 0 [],.o 5 [.o 2 [],.o 0 [],.o 2 [],.o 0 []],.o 0 [],.o 2 [],.o 0 [],.o 0 [],.o 2 [],.o 0 [],.o 0 []]],[.cell 4 9 true],xd⟩
def zz:Cmd:=ao (g0 Tryz.f75 [[0,1,4],[0,1,4,22],[4,5],[0,1,4,6],[0,4,6],[4,6,7],[4,7],[4,5]])
def tr:FD:=⟨2,[[.o 0 [],.o 5 [.o 2 [],.o 0 [],.o 2 [],.o 0 []]],[]],[.cell 4 2 true,.t 5],zz⟩
def OF:Cmd:=ao (g0 Tryz.f76 [[0],[0]])
def F4:FD:=⟨0,[aC],[.cell 0 7 true],OF⟩
def Cz:Cmd:=ao (g0 Tryz.f77 [[1],[2]])
def vJ:FD:=⟨1,[[]],[.t 2],Cz⟩
def qI:Cmd:=ao (g0 Tryz.f78 [[0,1],[4]])
def iH:FD:=⟨2,[[]],[.t 4],qI⟩
def xG:Cmd:=ao (g0 Tryz.f79 [[1,2],[3]])
def qJ:FD:=⟨2,[[]],[.t 3],xG⟩
def Fd:Cmd:=ao (g0 Tryz.f80 [[1],[2]])
def xT:FD:=⟨1,[[]],[.t 2],Fd⟩
def CA:Cmd:=ao (g0 Tryz.f81 [[1,2],[4]])
def vK:FD:=⟨2,[[]],[.t 4],CA⟩
def vL:Cmd:=ao (g0 Tryz.f82 [[2,3,4,6],[2,3,4,6,20],[6],[2,3,4,6,7,8],[6,7,8,9,10],[6]])
def po:FD:=⟨3,[aC],[.cell 6 7 true],vL⟩
def AI:Cmd:=ao (g0 Tryz.f83 [[1,2,3,6],[1,2,3,6,10],[6],[6]])
def tT:FD:=⟨3,[aC],[.cell 6 7 true],AI⟩
def BJ:Cmd:=ao (g0 Tryz.f84 [[2,3],[4]])
def uH:FD:=⟨2,[[]],[.t 4],BJ⟩
def zA:Cmd:=ao (g0 Tryz.f85 [[1,2],[1,2,11],[2],[2],[1,5,5,7]])
def sE:FD:=⟨1,[aF],[.cell 2 3 true],zA⟩
def ni:Cmd:=ao (g0 Tryz.f86 [[2,3],[2,3,14],[4],[2,3,5,6],[1,2],[2,3,5],[2,3,5,6,19],[4],[2,3,5,23],[4],[2,3,5,27],[4],[4]])
def jN:FD:=⟨2,[[]],[.t 4],ni⟩
def az3:Cmd:=ao (g0 Tryz.f87 [[2,3],[2,3,12],[4],[4]])
def azR:FD:=⟨2,[[]],[.t 4],az3⟩
def kr:Cmd:=ao (g0 Tryz.f88 [[1],[1,6],[2],[2]])
def gZ:FD:=⟨1,[[]],[.t 2],kr⟩
def iJ:Cmd:=ao (g0 Tryz.f89 [[0,1],[0,1,6],[0,1],[7777777,100000],[0,1],[0,1,16],[7777777,100000],[0],[7777777,100000],[4]])
def eS:FD:=⟨2,[[]],[.t 4],iJ⟩
def Vx:Cmd:=ao (g0 Tryz.f90 [[0],[2]])
def IC:FD:=⟨1,[[]],[.t 2],Vx⟩
def jo:Cmd:=ao (g1 [(83,1),(35,0)] Tryz.f91 [[0,1,5],[0,1,5,14],[0,1,5,6,7],[0,1,5,6,26],[],[1000013,33,5,8,8,9,5,10,5,12],[0,6,8,9],[4,14,8,14,9,14,10,14],[],[0,6,8,67],[],[0,6,8,73],[],[],[]] 0 [])
def fV:FD:=⟨3,[],[],jo⟩
def iR:Cmd:=ao (g0 Tryz.f92 [[0,2],[0,2],[0,2,4],[2,3],[4,5],[0,2,15],[2,3],[2,3]])
def fC:FD:=⟨1,[[.o 0 [],.o 5 [.o 2 [],.o 0 [],.o 2 [],.o 0 []]],[]],[.cell 2 2 true,.t 3],iR⟩
def JF:Cmd:=ao (g0 Tryz.f94 [[1,2],[2],[1,4]])
def CB:FD:=⟨1,[[.o 0 [],.o 5 [.o 2 [],.o 0 [],.o 2 [],.o 0 []],.o 0 [],.o 2 [],.o 0 [],.o 0 [],.o 2 [],.o 0 [],.o 0 []]],[.cell 2 9 true],JF⟩
def zB:Cmd:=ao (g0 Tryz.f95 [[2,4,5,7,8],[4,5,7,8,13],[8],[4,7,8,9,10,11],[4,7,8,9,10,24],[8],[8],[0,5]])
def sF:FD:=⟨4,[[.o 0 [],.o 5 [.o 2 [],.o 0 [],.o 2 [],.o 0 []],.o 0 [],.o 2 [],.o 0 [],.o 0 [],.o 2 [],.o 0 [],.o 0 []]],[.cell 8 9 true],zB⟩
def ID:cP:=[[1],[1,18],[2],[1,20,21,22],[],[1,20,21,22],[1],[1,20,21,22,23],[1,20,21,22],[1,3,4,20,21,22],[1,3,4,20,21,22,45],[2],[1,3,4,20,21,22,54],[2],[1,20,21,22,69],[],[2],[1,20,21,22],[2]]
def dY:Cmd:=ao (g1 [] Tryz.f96 ID 1 [])
@[go_sem] def Vy(a:Cmd):Cmd:=ao (g1 [] Tryz.f96 ID 0 [a])
def qK:Cmd:=Vy dY
def lM:FD:=⟨1,[[]],[.t 2],qK⟩
def Gx:cP:=[[0],[0,3],[3,6,7,8],[3],[3,6,7,8],[],[3,6,7,8,9],[3,6,7,8],[3,5,6,7,8],[3,6,7,8],[3,6,7,8],[2]]
def rK:Cmd:=ao (g1 [] Tryz.f97 Gx 1 [])
@[go_sem] def To(a:Cmd):Cmd:=ao (g1 [] Tryz.f97 Gx 0 [a])
def IE:Cmd:=To rK
def AJ:FD:=⟨1,[[]],[.t 2],IE⟩
def kV:Cmd:=ao (g0 Tryz.f98 [[2,3,4],[2,3,4,15],[4,5],[2,3,4,26],[4,5],[2,3,4,36],[2,4],[4,5],[2,3,4,6],[4,5]])
def iw:FD:=⟨2,[aF,[]],[.cell 4 3 true,.t 5],kV⟩
def JG:cP:=[[0,2,4,6],[0,4,6,9,10,11],[4,6],[0,4,6,9,10,11],[4,6],[0,4,6,9,10,11,12],[0,4,6,9,10,11],[0,4,6,8,9,10,11],[0,4,6,9,10,11],[0,4,6,9,10,11],[6]]
def mP:Cmd:=ao (g1 [] Tryz.f99 JG 1 [])
@[go_sem] def Yz(a:Cmd):Cmd:=ao (g1 [] Tryz.f99 JG 0 [a])
def Mq:Cmd:=Yz mP
def DV:FD:=⟨3,[aC],[.cell 6 7 true],Mq⟩
def vM:Cmd:=ao (g0 Tryz.f100 [[2,3,4,6],[2,3,4,6,16],[6],[6]])
def pp:FD:=⟨3,[aC],[.cell 6 7 true],vM⟩
def IF:Cmd:=ao (g0 Tryz.f101 [[0,2],[2]])
def AK:FD:=⟨1,[aC],[.cell 2 7 true],IF⟩
def DW:Cmd:=ao (g0 Tryz.f102 [[0,2],[0,2,3],[0,2,3,7],[0,2,3],[2]])
def xH:FD:=⟨1,[aF],[.cell 2 3 true],DW⟩
def sG:Cmd:=ao (g0 Tryz.f103 [[1],[],[1,3],[2],[13],[2],[2]])
def mQ:FD:=⟨1,[[]],[.t 2],sG⟩
def MZ:Cmd:=ao (g0 Tryz.f104 [[0,1,2,6],[0,1,2,6],[0,1,2,6,12],[6],[0,1,2,6,7],[6]])
def Fe:FD:=⟨3,[aF],[.cell 6 3 true],MZ⟩
def jg:Cmd:=ao (g0 Tryz.f105 [[1],[1,7],[2],[1,48],[2],[1,3],[2]])
def gh:FD:=⟨1,[[]],[.t 2],jg⟩
def aAm:Cmd:=ao (g0 Tryz.f106 [[1,2],[1,2,6],[2,3],[2,3]])
def azS:FD:=⟨1,[aF,[]],[.cell 2 3 true,.t 3],aAm⟩
def aAD:Cmd:=ao (g0 Tryz.f107 [[2,3,4],[4],[1,9,3,9,9,11,9,13]])
def aAh:FD:=⟨2,[aF],[.cell 4 3 true],aAD⟩
def JH:cP:=[[1],[1,17],[2],[1,3],[],[1,3],[1],[1,3,22],[1,3],[1,3,54],[],[2],[1,3],[2]]
def kt:Cmd:=ao (g1 [] Tryz.f108 JH 1 [])
@[go_sem] def YA(a:Cmd):Cmd:=ao (g1 [] Tryz.f108 JH 0 [a])
def tu:Cmd:=YA kt
def nj:FD:=⟨1,[[]],[.t 2],tu⟩
def aAI:cP:=[[2,3,4,6],[3,6],[2,3,4,6],[3,4,6],[2,3,4,6,10],[2,3,4,6],[2,3,4,6],[2,3,4,6,8],[2,3,4,6,20],[6,7],[2,3,4,6],[6,7]]
def azx:Cmd:=ao (g1 [] Tryz.f109 aAI 1 [])
@[go_sem] def aBf(a:Cmd):Cmd:=ao (g1 [] Tryz.f109 aAI 0 [a])
def aAM:Cmd:=aBf azx
def aAq:FD:=⟨3,[aF,[]],[.cell 6 3 true,.t 7],aAM⟩
def yC:Cmd:=ao (g0 Tryz.f110 [[2,3,4],[2,3,4,11],[4],[2,3,4,16],[4],[2,3,4,5],[2,3,4,5,6,7],[6,8,6,10],[2,3,4,5,6,7,41],[4],[1,4],[2,3,4,5,6,7,52],[4],[1,4],[4],[1,4]])
def rL:FD:=⟨2,[aF],[.cell 4 3 true],yC⟩
def Da:Cmd:=ao (g0 Tryz.f111 [[1],[1,6],[2],[8],[2],[2]])
def xf:FD:=⟨1,[[]],[.t 2],Da⟩
def JI:Cmd:=ao (g0 Tryz.f112 [[1],[1,6],[2],[2],[2,4]])
def Db:FD:=⟨1,[[]],[.t 2],JI⟩
def IG:cP:=[[1,2,4,5],[1,2,4,5,12],[4,5],[1,2,4,5,6,7],[2,4],[1,4,5,6,7,22,23,24],[4,5,6,7],[1,4,5,6,7,22,23,24],[2,4,5,2136,2160],[1,4,5,6,7,22,23,24,25],[1,4,5,6,7,22,23,24],[1,4,5,6,7,9,22,23,24],[1,4,5,6,7,9,22,23,24,32],[1,4,5,6,7,22,23,24],[1,4,5,6,7,22,23,24],[1,4,5,6,7,22,23,24],[7777777,6,7],[4,5],[7,8]]
def lv:Cmd:=ao (g1 [] Tryz.f113 IG 1 [])
@[go_sem] def Vz(a:Cmd):Cmd:=ao (g1 [] Tryz.f113 IG 0 [a])
def DX:Cmd:=Vz lv
def xI:FD:=⟨2,[[.o 0 [],.o 5 [.o 2 [],.o 0 [],.o 2 [],.o 0 []]],[.o 0 [],.o 5 [.o 2 [],.o 0 [],.o 2 [],.o 0 []]]],[.cell 4 2 true,.cell 5 2 true],DX⟩
def IH:cP:=[[1,2,4,5],[1,2,4,5],[1,2,4,5,14],[4,5,6],[1,2,4,5,20],[4,5,6],[1,2,4,5,7,8],[2,4],[1,4,5,7,8,36,37,38],[4,5,7,8],[1,4,5,7,8,36,37,38],[2,4,5,2248,2272],[1,4,5,7,8,36,37,38,39],[1,4,5,7,8,36,37,38],[1,4,5,7,8,10,36,37,38],[1,4,5,7,8,10,11,12,36,37,38],[1,4,5,7,8,10,11,36,37,38,50],[4,5,6],[1,4,5,7,8,10,11,12,13,36,37,38],[1,4,5,7,8,10,11,13,36,37,38,61],[4,5,6],[1,4,5,7,8,10,11,13,36,37,38,67],[1,4,5,7,8,10,13,36,37,38],[1,4,5,7,8,10,13,36,37,38,76],[1,4,5,7,8,36,37,38],[1,4,5,7,8,36,37,38],[7777777,7,8],[4,5,6],[7,8]]
def eU:Cmd:=ao (g1 [] Tryz.f114 IH 1 [])
@[go_sem] def VA(a:Cmd):Cmd:=ao (g1 [] Tryz.f114 IH 0 [a])
def uI:Cmd:=VA eU
def oH:FD:=⟨2,[[.o 0 [],.o 5 [.o 2 [],.o 0 [],.o 2 [],.o 0 []]],[.o 0 [],.o 5 [.o 2 [],.o 0 [],.o 2 [],.o 0 []]],[]],[.cell 4 2 true,.cell 5 2 true,.t 6],uI⟩
def kW:Cmd:=ao (g0 Tryz.f115 [[1],[2]])
def ie:FD:=⟨1,[[]],[.t 2],kW⟩
def CU:cP:=[[0],[5,6,7],[],[5,6,7],[],[5,6,7,8],[5,6,7],[4,5,6,7],[5,6,7,17],[2],[5,6,7],[2]]
def ig:Cmd:=ao (g1 [] Tryz.f116 CU 1 [])
@[go_sem] def M0(a:Cmd):Cmd:=ao (g1 [] Tryz.f116 CU 0 [a])
def xU:Cmd:=M0 ig
def qk:FD:=⟨1,[[]],[.t 2],xU⟩
def rM:Cmd:=ao (g0 Tryz.f117 [[0],[2]])
def lw:FD:=⟨1,[[]],[.t 2],rM⟩
def Ff:Cmd:=ao (g0 Tryz.f118 [[2,3,4,6],[6,7]])
def xV:FD:=⟨3,[aF,[]],[.cell 6 3 true,.t 7],Ff⟩
def Gy:Cmd:=ao (g0 Tryz.f119 [[1,2,4],[1,2,4,13],[4,5],[4,5]])
def zC:FD:=⟨2,[aF,[]],[.cell 4 3 true,.t 5],Gy⟩
def jX:cP:=[[0,1],[0,1,7,8],[],[0,1,7,8],[1000],[0,1,7,8,9],[0,1,7,8],[0,1,5,7,8],[0,1,5,7,8,16],[4],[0,1,7,8],[4]]
def rN:Cmd:=ao (g1 [] Tryz.f121 jX 1 [])
@[go_sem] def ur(a:Cmd):Cmd:=ao (g1 [] Tryz.f121 jX 0 [a])
def ut:Cmd:=ur rN
def jY:FD:=⟨2,[[]],[.t 4],ut⟩
def gL:cP:=[[0,1],[0,1,7,8],[],[0,1,7,8],[1000],[0,1,7,8,9],[0,1,7,8],[0,1,5,7,8],[0,1,5,7,8,16],[4],[0,1,7,8],[4]]
def ns:Cmd:=ao (g1 [] Tryz.f122 gL 1 [])
@[go_sem] def pq(a:Cmd):Cmd:=ao (g1 [] Tryz.f122 gL 0 [a])
def pt:Cmd:=pq ns
def gM:FD:=⟨2,[[]],[.t 4],pt⟩
def zD:Cmd:=ao (g0 Tryz.f123 [[1,2,3],[6]])
def sH:FD:=⟨3,[[]],[.t 6],zD⟩
def II:Cmd:=ao (g0 Tryz.f124 [[0],[0]])
def AL:FD:=⟨0,[aC],[.cell 0 7 true],II⟩
def jq:Cmd:=ao (g0 Tryz.f125 [[2,3,4],[2,3,4],[2,3,4,7],[4,5],[2,3,4,17],[4,5],[2,3,4,21],[4,5],[4,6],[4,6,4,8,1,11,3,11,4,11,6,11,8,11,9,11],[4,6,41],[4,5],[4,5]])
def go:FD:=⟨2,[aC,[]],[.cell 4 7 true,.t 5],jq⟩
def AM:cP:=[[1,2,3,6],[1,2,3,6,17],[6],[1,2,3,6,7],[1,2,6,7,22,23,24],[6,7],[1,2,6,7,22,23,24],[3,6,7],[1,2,6,7,22,23,24,25],[1,2,6,7,22,23,24],[1,2,6,7,9,22,23,24],[1,2,6,7,9,10,22,23,24],[1,2,6,7,10,22,23,24,32,33,34],[1,2,6,7,10,22,23,24],[1,2,6,7,10,22,23,24,32,33,34],[3,6,7,9,10],[1,2,6,7,10,22,23,24,32,33,34,35],[1,2,6,7,10,22,23,24,32,33,34],[1,2,6,7,10,11,12,22,23,24,32,33,34],[1,2,6,7,10,11,12,22,23,24,32,33,34,40],[1,2,6,7,10,22,23,24,32,33,34],[0,7],[1,2,6,7,10,22,23,24,32,33,34],[1,2,6,7,22,23,24],[1,2,6,7,22,23,24],[6]]
def gp:Cmd:=ao (g1 [] Tryz.f126 AM 1 [])
@[go_sem] def M1(a:Cmd):Cmd:=ao (g1 [] Tryz.f126 AM 2 [a])
def ku:Cmd:=M1 gp
@[go_sem] def Tp(a b:Cmd):Cmd:=ao (g1 [] Tryz.f126 AM 0 [a,b])
def CC:Cmd:=Tp gp ku
def vO:FD:=⟨3,[aC],[.cell 6 7 true],CC⟩
def uJ:cP:=[[1,2,3,6],[1,2,3,6,19],[6],[1,2,3,6,7,8],[1,2,3,6,7,31],[6],[],[1,6,9,10],[1,6,9,50],[6],[1,6,9,56,57],[6,9],[1,6,9,56,57],[6,2368],[1,6,9,56,57,58],[1,6,9,56,57],[1,6,9,11,56,57],[1,6,9,11,56,57],[1,6,9,56,57],[1,6,9,56,57],[6,9,12],[6,12,80,81,82],[6,12],[6,12,80,81,82],[6,12,2368],[6,12,80,81,82,83],[6,12,80,81,82],[6,12,14,80,81,82],[6,12,80,81,82],[6,12,80,81,82],[6]]
def my:Cmd:=ao (g1 [] Tryz.f127 uJ 1 [])
def mA:Cmd:=ao (g1 [] Tryz.f127 uJ 2 [])
@[go_sem] def LN(a b:Cmd):Cmd:=ao (g1 [] Tryz.f127 uJ 0 [a,b])
def jH:Cmd:=LN my mA
def gr:FD:=⟨3,[aC],[.cell 6 7 true],jH⟩
def zE:Cmd:=ao (g0 Tryz.f128 [[1],[1,11],[2],[2]])
def sJ:FD:=⟨1,[[]],[.t 2],zE⟩
def tv:Cmd:=ao (g0 Tryz.f129 [[1],[1,4],[2],[2]])
def nu:FD:=⟨1,[[]],[.t 2],tv⟩
def HI:Cmd:=ao (g0 Tryz.f130 [[1,2],[4]])
def B4:FD:=⟨2,[[]],[.t 4],HI⟩
def tU:Cmd:=ao (g0 Tryz.f132 [[1],[],[1,3],[2],[1,8],[2],[13],[2],[2]])
def nv:FD:=⟨1,[[]],[.t 2],tU⟩
def DY:cP:=[[2,3,4,5,6,10],[2,3,4,10,11],[2,3,4,10,11,12],[2,3,4,10,12,40,41],[10,12],[2,3,4,10,12,40,41],[10,12],[2,3,4,10,12,40,41,42],[2,3,4,10,12,40,41],[2,3,4,10,12,13,14,40,41],[2,3,4,10,12,13,14,15,16,40,41],[2,3,4,10,12,13,15,16,17,18,40,41],[2,3,4,10,12,13,15,17,40,41,70],[10],[2,3,4,10,12,13,15,17,40,41,80],[2,3,4,10,12,13,17,40,41],[2,3,4,10,12,17,40,41,91],[2,3,4,10,12,40,41],[2,3,4,10,12,40,41],[10]]
def bw:Cmd:=ao (g1 [] Tryz.f133 DY 1 [])
@[go_sem] def OH(a:Cmd):Cmd:=ao (g1 [] Tryz.f133 DY 0 [a])
def Fg:Cmd:=OH bw
def xW:FD:=⟨5,[aC],[.cell 10 7 true],Fg⟩
def Fh:Cmd:=ao (g0 Tryz.f134 [[2,3,4,6],[6,7]])
def xX:FD:=⟨3,[aF,[]],[.cell 6 3 true,.t 7],Fh⟩
def IK:Cmd:=ao (g0 Tryz.f135 [[2,3,4,6],[6,7]])
def AN:FD:=⟨3,[aF,[]],[.cell 6 3 true,.t 7],IK⟩
def zF:Cmd:=ao (g0 Tryz.f136 [[1,2],[3]])
def qL:FD:=⟨2,[[]],[.t 3],zF⟩
def HJ:Cmd:=ao (g0 Tryz.f137 [[0],[2]])
def BK:FD:=⟨1,[[]],[.t 2],HJ⟩
def nC:Cmd:=ao (g0 Tryz.f138 [[2,3],[2,3,16],[4],[4]])
def jO:FD:=⟨2,[[]],[.t 4],nC⟩
def Fi:Cmd:=ao (g0 Tryz.f139 [[1,2],[3]])
def xY:FD:=⟨2,[[]],[.t 3],Fi⟩
def Dc:Cmd:=ao (g0 Tryz.f140 [[1,2],[4]])
def xg:FD:=⟨2,[[]],[.t 4],Dc⟩
def jt:cP:=[[0,1],[0,1,7,8],[],[0,1,7,8],[1000],[0,1,7,8,9],[0,1,7,8],[0,1,5,7,8],[0,1,5,7,8,16],[4],[0,1,7,8],[4]]
def qM:Cmd:=ao (g1 [] Tryz.f141 jt 1 [])
@[go_sem] def sK(a:Cmd):Cmd:=ao (g1 [] Tryz.f141 jt 0 [a])
def sL:Cmd:=sK qM
def ju:FD:=⟨2,[[]],[.t 4],sL⟩
def Fj:Cmd:=ao (g0 Tryz.f142 [[1,2],[3]])
def xZ:FD:=⟨2,[[]],[.t 3],Fj⟩
def IL:Cmd:=ao (g0 Tryz.f143 [[2,3,4,6],[6,7]])
def AO:FD:=⟨3,[aF,[]],[.cell 6 3 true,.t 7],IL⟩
def tV:Cmd:=ao (g0 Tryz.f144 [[1,3,4,6,8],[4,6,8,14],[8],[8]])
def nD:FD:=⟨4,[aC],[.cell 8 7 true],tV⟩
def p9:Cmd:=ao (g0 Tryz.f145 [[0],[0,4],[2],[2]])
def jv:FD:=⟨1,[[.o 2 []]],[.t 2],p9⟩
def rO:Cmd:=ao (g0 Tryz.f146 [[2,3],[2,3,5,6],[1,2],[2,3],[2,3,5,6,12],[4],[2,3,16],[4],[2,3,7],[4],[6,8,6,10]])
def lW:FD:=⟨2,[[]],[.t 4],rO⟩
def kv:Cmd:=ao (g0 Tryz.f147 [[1],[1,3],[2]])
def gS:FD:=⟨1,[[]],[.t 2],kv⟩
def fM:cP:=[[0,1,2],[0,1,2,8],[0,1,2,8,9,10],[0,1,2,8,9],[0,1,2,8,9,10],[],[0,1,2,8,9,10,17],[0,1,2,8,9,10],[0,1,2,8,9,10,11],[0,1,2,8,9,10,11,31],[0,1,2,8,9,10],[0,1,2,8,9,10],[6,7]]
def bK:Cmd:=ao (g1 [] Tryz.f148 fM 1 [])
@[go_sem] def mR(a:Cmd):Cmd:=ao (g1 [] Tryz.f148 fM 0 [a])
def fW:Cmd:=mR bK
def dw:FD:=⟨3,[[],[]],[.t 6,.t 7],fW⟩
def xi:Cmd:=ao (g0 Tryz.f149 [[1,2],[4]])
def oB:FD:=⟨2,[[]],[.t 4],xi⟩
def DZ:Cmd:=ao (g0 Tryz.f150 [[0,1],[0,1,5],[0,1,5,12],[4],[4]])
def xJ:FD:=⟨2,[[]],[.t 4],DZ⟩
def dq:Cmd:=ao (g0 Tryz.f151 [[0,1,2],[0,1,2],[0,1,2,7],[0,1,2,7,16],[6],[0,1,2,7,8],[0,1,2,7,8,22],[6],[0,1,2,7,8,31],[0,1,2,7,9],[0,1,7,9],[9],[],[6],[0,1,2,7,8],[0,1,2,7,8,68],[0,1,2],[],[0],[7777777,200000],[6],[0,1,7],[0],[6]])
def bu:FD:=⟨3,[[]],[.t 6],dq⟩
def IM:Cmd:=ao (g0 Tryz.f152 [[1,2],[1,2],[2]])
def AP:FD:=⟨1,[aF],[.cell 2 3 true],IM⟩
def zG:Cmd:=ao (g0 Tryz.f153 [[2,3,4],[2,3,4,13],[4,5],[4,5]])
def sM:FD:=⟨2,[aF,[]],[.cell 4 3 true,.t 5],zG⟩
def lX:Cmd:=ao (g1 [(31,2)] Tryz.f154 [[0,1,2],[0,1,2],[0,1,2,16],[6],[0,1,2,7],[0,7],[],[0],[7777777,100000,200000],[6]] 0 [])
def gH:FD:=⟨3,[[]],[.t 6],lX⟩
def Gz:cP:=[[0,1],[0,1,5,6],[0,1,5,6,14],[4],[0,1,17],[4],[0,1,7],[],[0,1,7],[],[0,1,7,21],[0,1,7],[0,1,7,32],[],[4],[0,1,7,41],[],[4],[0,1,7],[4]]
def kw:Cmd:=ao (g1 [] Tryz.f155 Gz 1 [])
@[go_sem] def Ts(a:Cmd):Cmd:=ao (g1 [] Tryz.f155 Gz 0 [a])
def sN:Cmd:=Ts kw
def mS:FD:=⟨2,[[]],[.t 4],sN⟩
def F5:Cmd:=ao (g0 Tryz.f157 [[2,3,4,5],[2,4,5,7,8],[2,4,5,8,9,10],[2,4,5,8,9,27],[4,5,6],[1,2],[2,4,5,8,9],[4,5,6],[0,6,6,7,6,9,6,11,0,12,6,14,12,14,0,15]])
def zH:FD:=⟨2,[[.o 0 [],.o 5 [.o 2 [],.o 0 [],.o 2 [],.o 0 []]],aC,[]],[.cell 4 2 true,.cell 5 7 true,.t 6],F5⟩
def zJ:Cmd:=ao (g0 Tryz.f158 [[0,1],[4]])
def n9:FD:=⟨2,[[]],[.t 4],zJ⟩
def AQ:Cmd:=ao (g0 Tryz.f159 [[0],[2]])
def tW:FD:=⟨1,[[]],[.t 2],AQ⟩
def IP:Cmd:=ao (g0 Tryz.f160 [[0],[2]])
def AR:FD:=⟨1,[[]],[.t 2],IP⟩
def CD:Cmd:=ao (g0 Tryz.f161 [[0,1],[0,1,9],[4,5],[4,5]])
def vP:FD:=⟨2,[[.o 2 []],[]],[.t 4,.t 5],CD⟩
def x9:Cmd:=ao (g0 Tryz.f162 [[1,2],[1,2,6],[2,3],[2,3]])
def qp:FD:=⟨1,[aF,[]],[.cell 2 3 true,.t 3],x9⟩
def uL:Cmd:=ao (g0 Tryz.f163 [[0,1,2,6],[0,1,2,6],[0,1,2,6,14],[6],[0,1,2,6,7],[0,2,6,7,8],[6]])
def nY:FD:=⟨3,[aF],[.cell 6 3 true],uL⟩
def Fk:Cmd:=ao (g0 Tryz.f164 [[2,3,4,6],[6,7]])
def yb:FD:=⟨3,[aF,[]],[.cell 6 3 true,.t 7],Fk⟩
def IQ:Cmd:=ao (g0 Tryz.f165 [[2,3,4,6],[6,7]])
def AS:FD:=⟨3,[aF,[]],[.cell 6 3 true,.t 7],IQ⟩
def Mr:cP:=[[0],[0,3],[0,3],[0,3],[],[0,3,15],[0,3],[0,3],[2]]
def IR:Cmd:=ao (g1 [] Tryz.f166 Mr 1 [])
@[go_sem] def ab5(a:Cmd):Cmd:=ao (g1 [] Tryz.f166 Mr 0 [a])
def OI:Cmd:=ab5 IR
def F6:FD:=⟨1,[[.o 2 []]],[.t 2],OI⟩
def JJ:cP:=[[0],[0,3],[3],[0,3],[],[0,3,14],[0,3],[0,3],[2]]
def vQ:Cmd:=ao (g1 [] Tryz.f167 JJ 1 [])
@[go_sem] def YB(a:Cmd):Cmd:=ao (g1 [] Tryz.f167 JJ 0 [a])
def Ms:Cmd:=YB vQ
def D0:FD:=⟨1,[[]],[.t 2],Ms⟩
def JK:cP:=[[0,1],[0,1,12],[4],[0,1],[0,1,5],[0,1,5,6],[5],[0,1,5,6],[51],[0,1,5,6,20],[0,1,5,6],[0,1,5,6,7],[0,1,5,6,7,32],[0,1,5,6,7],[0,1,5,6],[0,1,5,6],[4]]
def fE:Cmd:=ao (g1 [] Tryz.f168 JK 1 [])
@[go_sem] def YC(a:Cmd):Cmd:=ao (g1 [] Tryz.f168 JK 0 [a])
def F7:Cmd:=YC fE
def zK:FD:=⟨2,[[.o 2 []]],[.t 4],F7⟩
def Mt:cP:=[[0],[0,7],[2],[0,3],[3,4],[3],[3,4],[],[3,4,19],[3,4],[3,4],[3,4],[2]]
def xK:Cmd:=ao (g1 [] Tryz.f169 Mt 1 [])
@[go_sem] def ab6(a:Cmd):Cmd:=ao (g1 [] Tryz.f169 Mt 0 [a])
def HK:Cmd:=ab6 xK
def BL:FD:=⟨1,[[]],[.t 2],HK⟩
def aAg:cP:=[[0,1],[0,1,5],[0,1,5,6],[5],[0,1,5,6],[18],[0,1,5,6,22],[0,1,5,6],[0,1,5,6,7],[0,1,5,6,7,8],[0,1,5,6,7],[0,1,5,6,7,8],[18],[0,1,5,6,7,8,28],[0,1,5,6,7,8],[0,1,5,6,8,9],[],[0,1,5,6,8,9],[0,1,5,6,7,8],[0,1,5,6,7,8],[0,1,5,6,7,10],[0,1,5,6],[0,1,5,6,7,10],[18],[0,1,5,6,7,10,67],[0,1,5,6,7,10],[0,1,5,6,10,11],[0,1,5,6,10,11],[0,1,5,6,7,10],[0,1,5,6,7,10],[0,1,5,6],[4]]
def azy:Cmd:=ao (g1 [] Tryz.f170 aAg 1 [])
def azQ:Cmd:=ao (g1 [] Tryz.f170 aAg 2 [])
@[go_sem] def aAT(a b:Cmd):Cmd:=ao (g1 [] Tryz.f170 aAg 3 [a,b])
def azT:Cmd:=aAT azy azQ
@[go_sem] def aBg(a b c:Cmd):Cmd:=ao (g1 [] Tryz.f170 aAg 0 [a,b,c])
def aAN:Cmd:=aBg azy azQ azT
def aAr:FD:=⟨2,[[.o 2 []]],[.t 4],aAN⟩
def Mu:cP:=[[0,3],[3,24],[4],[3,5],[3,5,6],[5],[3,5,6],[3],[3,5,6,29],[3,5,6],[3,5,6,45],[4],[3,5,6],[3,5,6],[4]]
def jP:Cmd:=ao (g1 [] Tryz.f171 Mu 1 [])
@[go_sem] def ab7(a:Cmd):Cmd:=ao (g1 [] Tryz.f171 Mu 0 [a])
def vR:Cmd:=ab7 jP
def pX:FD:=⟨2,[[]],[.t 4],vR⟩
def Mv:cP:=[[0,1],[0,1,5],[0,1,5,6],[0,1,5,6,7],[5,6],[0,1,5,6,7],[11,34],[0,1,5,6,7,15],[0,1,5,6,7],[0,1,5,7,8],[0,1,5,7,8],[0,1,5,6,7],[0,1,5,6,7],[4]]
def xL:Cmd:=ao (g1 [] Tryz.f172 Mv 1 [])
@[go_sem] def ab8(a:Cmd):Cmd:=ao (g1 [] Tryz.f172 Mv 0 [a])
def OJ:Cmd:=ab8 xL
def F8:FD:=⟨2,[[.o 2 []]],[.t 4],OJ⟩
def Mw:cP:=[[0,1],[0,1,5],[0,1,5,6],[0,1,5,6,7],[5,6],[0,1,5,6,7],[49],[0,1,5,6,7,18],[0,1,5,6,7],[0,1,5,7,8],[0,1,5,7,8,25],[0,1,5,7,8],[0,1,5,7,8,36],[0,1,5,7,8],[0,1,5,7,8],[0,1,5,6,7],[0,1,5,6,7],[4]]
def eM:Cmd:=ao (g1 [] Tryz.f173 Mw 1 [])
@[go_sem] def ab9(a:Cmd):Cmd:=ao (g1 [] Tryz.f173 Mw 0 [a])
def OK:Cmd:=ab9 eM
def F9:FD:=⟨2,[[.o 2 []]],[.t 4],OK⟩
def GA:cP:=[[0,1],[0,1,10],[15],[4],[4],[0,1,5],[],[0,1,5],[],[0,1,5,20],[0,1,5],[0,1,5,31],[],[4],[0,1,5,40],[],[4],[0,1,5],[4]]
def fm:Cmd:=ao (g1 [] Tryz.f174 GA 1 [])
@[go_sem] def Tt(a:Cmd):Cmd:=ao (g1 [] Tryz.f174 GA 0 [a])
def sO:Cmd:=Tt fm
def vS:FD:=⟨2,[[]],[.t 4],sO⟩
def JL:cP:=[[0,1],[0,1,5],[0,1,5,6],[0,1,5,6,7],[5],[0,1,5,6,7],[41],[0,1,5,6,7,13],[0,1,5,6,7],[0,1,5,7,8],[0,1,5,7,8,20],[0,1,5,7,8],[0,1,5,7,9],[0,1,5,7,9],[0,1,5,6,7],[0,1,5,6,7],[4]]
def fF:Cmd:=ao (g1 [] Tryz.f175 JL 1 [])
@[go_sem] def YD(a:Cmd):Cmd:=ao (g1 [] Tryz.f175 JL 0 [a])
def My:Cmd:=YD fF
def D3:FD:=⟨2,[[.o 2 []]],[.t 4],My⟩
def jy:Cmd:=ao (g0 Tryz.f176 [[1,2,4],[1,2,4,6,7],[1,2,4,6,7,20],[4,5],[2,4,6,7,8],[2,4,6,7,8,30],[4,5],[2,4,6,8,9],[4,6,8,9,11],[4,6,8,47],[4,6,8],[4,6,8,47,48],[4,5],[4,6,8,51],[4,5],[4,6,8,70],[4,5],[4,5]])
def gx:FD:=⟨2,[aF,[]],[.cell 4 3 true,.t 5],jy⟩
def zL:Cmd:=ao (g0 Tryz.f177 [[2,3,4],[2,3,4,13],[4,5],[4,5],[0,2]])
def sP:FD:=⟨2,[aF,[]],[.cell 4 3 true,.t 5],zL⟩
def xk:Cmd:=ao (g0 Tryz.f178 [[2,3,4,5,8],[2,3,4,5,8,10],[2,3,4,5,8,10,19],[8,9],[2,3,4,5,8],[2,3,4,5,8,22],[8,9],[2,3,4,5,8,33],[8,9],[2,3,4,5,8,48],[1,2],[2,3,4,5,8],[2,3,4,8,11,12],[2,3,4,8,11,12,66],[8,9],[8,9]])
def nE:FD:=⟨4,[aF,[]],[.cell 8 3 true,.t 9],xk⟩
def wJ:Cmd:=ao (g0 Tryz.f179 [[0],[2]])
def pu:FD:=⟨1,[[]],[.t 2],wJ⟩
def vT:Cmd:=ao (g0 Tryz.f180 [[1,2],[4]])
def px:FD:=⟨2,[[]],[.t 4],vT⟩
def zM:Cmd:=ao (g0 Tryz.f181 [[2,3,4],[2,3,4,8],[4],[4]])
def rP:FD:=⟨2,[aF],[.cell 4 3 true],zM⟩
def zN:Cmd:=ao (g0 Tryz.f182 [[2,3,4],[2,3,4,8],[4],[4]])
def rQ:FD:=⟨2,[aF],[.cell 4 3 true],zN⟩
def CE:Cmd:=ao (g0 Tryz.f183 [[1,2,3,6],[1,2,3,6,8],[6],[6],[2,3]])
def vU:FD:=⟨3,[aC],[.cell 6 7 true],CE⟩
def Fl:cP:=[[1],[1,14],[2,3],[1,4],[4,20,21,22],[4],[4,20,21,22],[1,18],[4,20,21,22,23],[4,20,21,22],[4,6,20,21,22],[4,20,21,22],[3,6],[4,20,21,22],[2,3]]
def lY:Cmd:=ao (g1 [] Tryz.f184 Fl 1 [])
@[go_sem] def P9(a:Cmd):Cmd:=ao (g1 [] Tryz.f184 Fl 0 [a])
def vV:Cmd:=P9 lY
def py:FD:=⟨1,[[.o 4 aF],[]],[.t 2,.t 3],vV⟩
def qN:Cmd:=ao (g0 Tryz.f185 [[3,4,5,6,8],[3,4,5,8,9,10],[1,4,3,4,1,5,3,5,4,5,3,6],[3,4,5,8,9,10,23],[3,4,5,8,9,10],[3,4,5,8,10,11,12],[3,4,8,11,12,13,14],[3,4,8,11,13,43],[8],[3,4,8,12,13,15],[8,12,14,15,16],[8,15,16,64],[8],[8]])
def gy:FD:=⟨4,[aC],[.cell 8 7 true],qN⟩
def lA:cP:=[[1,2],[2,6],[2,6,26,27,28],[2,6],[2,6,26,27,28],[2,21,24,2624],[2,6,26,27,28,29],[2,6,26,27,28],[2,6,8,26,27,28],[2,6,26,27,28,33,34,35],[2,6,26,27,28],[2,6,26,27,28,33,34,35],[2,8,21,24,2624],[2,6,26,27,28,33,34,35,36],[2,6,26,27,28,33,34,35],[2,6,9,10,26,27,28,33,34,35],[2,6,26,27,28,33,34,35],[],[2,6,26,27,28,33,34,35],[2,6,26,27,28],[2,6,11],[2,6,11,60,61,62],[2,6,11],[2,6,11,60,61,62],[2,21,24,2624],[2,6,11,60,61,62,63],[2,6,11,60,61,62],[2,6,11,13,60,61,62],[2,6,11,60,61,62],[2,6,11,60,61,62,71],[4,5],[2,6,11,60,61,62],[2,6],[6,82,83,84],[6],[6,82,83,84],[2,21,24,2624],[6,82,83,84,85],[6,82,83,84],[6,15,82,83,84],[6,15,16,82,83,84],[6,15,16,82,83,84,89,90,91],[6,15,16,82,83,84],[6,15,16,82,83,84,89,90,91],[2,15,21,24,2624],[6,15,16,82,83,84,89,90,91,92],[6,15,16,82,83,84,89,90,91],[6,15,16,17,18,82,83,84,89,90,91],[6,15,16,82,83,84,89,90,91],[6,15,16,82,83,84,89,90,91],[6,82,83,84],[3,7],[6,82,83,84],[4,5]]
def jI:Cmd:=ao (g1 [] Tryz.f186 lA 1 [])
@[go_sem] def LO(a:Cmd):Cmd:=ao (g1 [] Tryz.f186 lA 2 [a])
def lZ:Cmd:=LO jI
def gU:Cmd:=ao (g1 [] Tryz.f186 lA 3 [])
def l6:Cmd:=ao (g1 [] Tryz.f186 lA 4 [])
@[go_sem] def LP(a b c d:Cmd):Cmd:=ao (g1 [] Tryz.f186 lA 5 [a,b,c,d])
def qt:Cmd:=LP jI lZ gU l6
@[go_sem] def Qa(a b c d e:Cmd):Cmd:=ao (g1 [] Tryz.f186 lA 0 [a,b,c,d,e])
def GB:Cmd:=Qa jI lZ gU l6 qt
def zO:FD:=⟨2,[[],[]],[.t 4,.t 5],GB⟩
def CV:Cmd:=ao (g0 Tryz.f187 [[1,3,5],[1,3,5,6],[1,3,6,7],[2,3,2,4,2,7,1,9,2,9,3,9,4,9,7,9,8,9],[1,3,6,7,8],[]])
def uM:FD:=⟨3,[],[],CV⟩
def xp:Cmd:=ao (g0 Tryz.f188 [[1,2],[1,2,4],[]])
def oC:FD:=⟨2,[],[],xp⟩
def zP:Cmd:=ao (g0 Tryz.f189 [[2,3,4],[2,3,4,9],[4],[4],[4,6,4,8]])
def rR:FD:=⟨2,[aC],[.cell 4 7 true],zP⟩
def OL:cP:=[[0],[0,3],[0,3,4],[3],[0,3,4],[],[0,3,4,8],[0,3,4],[0,3,4],[0,3,4],[2]]
def zQ:Cmd:=ao (g1 [] Tryz.f190 OL 1 [])
@[go_sem] def ad0(a:Cmd):Cmd:=ao (g1 [] Tryz.f190 OL 0 [a])
def Sq:Cmd:=ad0 zQ
def HL:FD:=⟨1,[[]],[.t 2],Sq⟩
def zS:Cmd:=ao (g0 Tryz.f191 [[1],[2]])
def tw:FD:=⟨1,[[]],[.t 2],zS⟩
def HM:Cmd:=ao (g0 Tryz.f192 [[0],[2]])
def BM:FD:=⟨1,[[]],[.t 2],HM⟩
def Ga:cP:=[[0],[0,3],[],[0,3],[],[0,3,10],[0,3],[0,3,17],[0,3,4],[4,5],[4],[4,5],[],[4,5,25],[4,5],[4,5],[4,5],[2],[0,3],[2]]
def lN:Cmd:=ao (g1 [] Tryz.f193 Ga 1 [])
@[go_sem] def Tu(a:Cmd):Cmd:=ao (g1 [] Tryz.f193 Ga 2 [a])
def iD:Cmd:=Tu lN
@[go_sem] def aca(a b:Cmd):Cmd:=ao (g1 [] Tryz.f193 Ga 0 [a,b])
def HN:Cmd:=aca lN iD
def Mz:FD:=⟨1,[[]],[.t 2],HN⟩
def xr:Cmd:=ao (g0 Tryz.f194 [[2,3,4,5,8],[2,3,4,5,8,10],[2,3,4,5,8,10,21],[8,9],[2,3,4,5,8],[2,3,4,5,8,24],[8,9],[2,3,4,5,8,30],[8,9],[2,3,4,5,8,11],[3,5],[2,3,4,5,8,11,12,13],[3,5],[8,9],[1,14,3,14,7,14,11,14]])
def qO:FD:=⟨4,[aF,[]],[.cell 8 3 true,.t 9],xr⟩
def GC:cP:=[[0,1],[0,7,8,9],[0],[0,7,8,9],[],[0,7,8,9,10],[0,7,8,9],[0,6,7,8,9],[0,7,8,9,15],[4],[0,7,8,9],[19],[4],[4]]
def nF:Cmd:=ao (g1 [] Tryz.f195 GC 1 [])
@[go_sem] def Tv(a:Cmd):Cmd:=ao (g1 [] Tryz.f195 GC 0 [a])
def xM:Cmd:=Tv nF
def qQ:FD:=⟨2,[[]],[.t 4],xM⟩
def CF:Cmd:=ao (g0 Tryz.f196 [[1],[1,5],[2],[2]])
def vW:FD:=⟨1,[[]],[.t 2],CF⟩
def zT:Cmd:=ao (g0 Tryz.f197 [[1],[1,11],[2],[2],[2,4]])
def sQ:FD:=⟨1,[[]],[.t 2],zT⟩
def GD:cP:=[[0,1],[0,1],[0,1,14],[19],[4],[4],[0,1,5],[],[0,1,5],[],[0,1,5,24],[0,1,5],[0,1,5],[0,1,5,27],[],[4],[0,1,5,37],[],[4],[0,1,5],[4]]
def iK:Cmd:=ao (g1 [] Tryz.f198 GD 1 [])
@[go_sem] def Tw(a:Cmd):Cmd:=ao (g1 [] Tryz.f198 GD 0 [a])
def IS:Cmd:=Tw iK
def qR:FD:=⟨2,[[]],[.t 4],IS⟩
def D4:Cmd:=ao (g0 Tryz.f199 [[0,1],[5],[4]])
def wK:FD:=⟨2,[[.o 2 []]],[.t 4],D4⟩
def pz:Cmd:=ao (g0 Tryz.f200 [[0,1],[0,1,5],[0,1,5,6],[0,1,6,11],[12],[4],[4],[0,1,13],[4],[0,1,16],[4],[19],[4],[4]])
def jZ:FD:=⟨2,[[]],[.t 4],pz⟩
def sR:cP:=[[0,1],[0,1,9,10,11],[0,1],[0,1,9,10,11],[],[0,1,9,10,11,12],[0,1,9,10,11],[0,1,5,6,9,10,11],[0,1,5,6,9,10,11,19],[4],[0,1,6,7,9,10,11],[0,1,8,9,10,11],[0,1,8,9,10,11,28],[4],[0,1,9,10,11],[35],[4],[4]]
def eR:Cmd:=ao (g1 [] Tryz.f201 sR 1 [])
@[go_sem] def Dd(a:Cmd):Cmd:=ao (g1 [] Tryz.f201 sR 0 [a])
def mB:Cmd:=Dd eR
def iF:FD:=⟨2,[[]],[.t 4],mB⟩
def zU:Cmd:=ao (g0 Tryz.f204 [[2,3,4],[2,3,4,24],[2,3,4,28],[2,4],[4,5],[2,3,4,6],[2,3,4,6,7,8],[1,2],[2,3,4,6,63],[4,5],[2,3,4,6,9,10],[6,8,6,10],[2,3,4,6,9,10,83],[2,4,6,11],[4,5],[2,3,4,6,9,10,101],[2,4,6,9,10],[2,4,6,13],[4,5]])
def lO:FD:=⟨2,[aF,[]],[.cell 4 3 true,.t 5],zU⟩
def qS:cP:=[[0,1],[0,1,7,8],[],[0,1,7,8],[],[0,1,7,8,9],[0,1,7,8],[0,1,5,7,8],[0,1,5,7,8,16],[4],[0,1,7,8],[4]]
def zV:Cmd:=ao (g1 [] Tryz.f205 qS 1 [])
@[go_sem] def B5(a:Cmd):Cmd:=ao (g1 [] Tryz.f205 qS 0 [a])
def B6:Cmd:=B5 zV
def qT:FD:=⟨2,[[]],[.t 4],B6⟩
def AT:Cmd:=ao (g0 Tryz.f206 [[0],[0],[0,7],[2],[2]])
def tY:FD:=⟨1,[[]],[.t 2],AT⟩
def GE:Cmd:=ao (g0 Tryz.f207 [[0],[2]])
def zW:FD:=⟨1,[[]],[.t 2],GE⟩
def AU:Cmd:=ao (g0 Tryz.f208 [[0],[0],[0,8],[2,3],[2,3]])
def tZ:FD:=⟨1,[[.o 2 []],[]],[.t 2,.t 3],AU⟩
def AW:cP:=[[0,1],[0,1,5],[1,5,18,19,20],[5],[1,5,18,19,20],[17],[1,5,18,19,20,21],[1,5,18,19,20],[1,5,6,7,18,19,20],[1,5,6,7,8,18,19,20],[1,5,6,7,8,18,19,20,25,26,27],[1,5,6,8,18,19,20],[1,5,6,7,8,18,19,20,25,26,27],[17],[1,5,6,7,8,18,19,20,25,26,27,28],[1,5,6,7,8,18,19,20,25,26,27],[1,5,6,7,8,9,10,18,19,20,25,26,27],[1,5,6,7,9,11,18,19,20,25,26,27],[1,5,6,7,8,18,19,20,25,26,27],[1,5,6,7,8,18,19,20,25,26,27],[1,5,18,19,20],[1,5,18,19,20],[4]]
def nG:Cmd:=ao (g1 [] Tryz.f209 AW 1 [])
@[go_sem] def M2(a:Cmd):Cmd:=ao (g1 [] Tryz.f209 AW 2 [a])
def rS:Cmd:=M2 nG
@[go_sem] def Tx(a b:Cmd):Cmd:=ao (g1 [] Tryz.f209 AW 0 [a,b])
def IT:Cmd:=Tx nG rS
def AX:FD:=⟨2,[[.o 2 []]],[.t 4],IT⟩
def Fn:cP:=[[0],[0,3],[0,3],[0,3],[],[0,3,15],[0,3],[0,3],[2]]
def l7:Cmd:=ao (g1 [] Tryz.f210 Fn 1 [])
@[go_sem] def Qb(a:Cmd):Cmd:=ao (g1 [] Tryz.f210 Fn 0 [a])
def GF:Cmd:=Qb l7
def zX:FD:=⟨1,[[.o 2 []]],[.t 2],GF⟩
def CW:cP:=[[0],[0,3],[0,3],[0,3],[],[0,3,15],[0,3],[0,3],[2]]
def j5:Cmd:=ao (g1 [] Tryz.f211 CW 1 [])
@[go_sem] def M3(a:Cmd):Cmd:=ao (g1 [] Tryz.f211 CW 0 [a])
def D5:Cmd:=M3 j5
def wL:FD:=⟨1,[[.o 2 []]],[.t 2],D5⟩
def IU:cP:=[[0],[0,3],[3,6,7,8],[3],[3,6,7,8],[],[3,6,7,8,9],[3,6,7,8],[3,5,6,7,8],[3,5,6,7,8,13],[2],[3,6,7,8],[3,6,7,8],[2]]
def ub:Cmd:=ao (g1 [] Tryz.f212 IU 1 [])
@[go_sem] def VE(a:Cmd):Cmd:=ao (g1 [] Tryz.f212 IU 0 [a])
def JM:Cmd:=VE ub
def CG:FD:=⟨1,[[]],[.t 2],JM⟩
def xN:Cmd:=ao (g0 Tryz.f213 [[0,1],[0,1],[0,1,6],[4,5],[0,1,10],[4,5],[4,5]])
def qU:FD:=⟨2,[[.o 2 []],[]],[.t 4,.t 5],xN⟩
def qV:Cmd:=ao (g0 Tryz.f214 [[0],[2]])
def jT:FD:=⟨1,[[.o 2 []]],[.t 2],qV⟩
def xt:Cmd:=ao (g0 Tryz.f215 [[2,3,4,5,8],[2,3,4,5,8,10],[2,3,4,5,8,10,19],[8,9],[2,3,4,5,8,31],[8,9],[2,3,4,5,8,11],[8,9]])
def qW:FD:=⟨4,[aF,[]],[.cell 8 3 true,.t 9],xt⟩
def JN:Cmd:=ao (g0 Tryz.f216 [[1,2,4],[4,5]])
def CH:FD:=⟨2,[aF,[]],[.cell 4 3 true,.t 5],JN⟩
def OM:Cmd:=ao (g0 Tryz.f217 [[1,2,4],[4,5]])
def Gb:FD:=⟨2,[aF,[]],[.cell 4 3 true,.t 5],OM⟩
def CI:Cmd:=ao (g0 Tryz.f218 [[1,2,3,6],[1,2,3,6,8],[1,2,3,6,8,14],[6,7],[6,7],[1,3]])
def vX:FD:=⟨3,[aF,[]],[.cell 6 3 true,.t 7],CI⟩
def MA:Cmd:=ao (g0 Tryz.f219 [[2,3,4,6],[3,4,6,8],[1,3],[3,4,6,8,31],[1,2],[3,4,6,8],[3,4,6,8,9],[3,4,6,8,9],[3,4,6,8,9,11],[3,4,6,8,9,11,46],[3,4,6,8,9,10,11],[3,4,6,8,9,10,11],[6,8,9,10,11,68],[6,8,11,12],[6,7],[6,8,9,10,11,79],[6,8,9,10,11],[6,8,9,10,11,89],[6,8,14],[6,7],[6,8,11,16],[6,7]])
def uN:FD:=⟨3,[[.o 2 [],.o 0 [],.o 0 []],[]],[.cell 6 3 true,.t 7],MA⟩
def vY:Cmd:=ao (g0 Tryz.f220 [[0,2,3,5,8],[0,8,10,11],[8,10,11,25],[8,10,11],[8,9]])
def pA:FD:=⟨4,[aF,[]],[.cell 8 3 true,.t 9],vY⟩
def yc:Cmd:=ao (g0 Tryz.f221 [[1],[2]])
def qu:FD:=⟨1,[[]],[.t 2],yc⟩
def iL:Cmd:=ao (g0 Tryz.f222 [[1,2,3,6],[1,2,3,6,27],[6],[1,2,3,6,30],[6],[1,2,3,6,35],[1,2,3,6],[1,2,3,6,7,8],[6,7,8,9,10],[6]])
def fH:FD:=⟨3,[aC],[.cell 6 7 true],iL⟩
def uO:cP:=[[0,1],[0,1,7,8],[],[0,1,7,8],[],[0,1,7,8,9],[0,1,7,8],[0,1,5,7,8],[0,1,5,7,8,16],[4],[0,1,7,8],[4]]
def dT:Cmd:=ao (g1 [] Tryz.f223 uO 1 [])
@[go_sem] def EY(a:Cmd):Cmd:=ao (g1 [] Tryz.f223 uO 0 [a])
def wA:Cmd:=EY dT
def nH:FD:=⟨2,[[]],[.t 4],wA⟩
def iI:cP:=[[0,1],[0,1,10],[0,1],[0,5,6],[0,6,26],[0,6],[0,7],[7,8],[7],[7,8],[30],[7,8,37],[7,8],[7,8],[],[4]]
def cJ:Cmd:=ao (g1 [] Tryz.f224 iI 1 [])
@[go_sem] def qX(a:Cmd):Cmd:=ao (g1 [] Tryz.f224 iI 0 [a])
def iS:Cmd:=qX cJ
def eF:FD:=⟨2,[[]],[.t 4],iS⟩
def B7:cP:=[[0,1],[0,1,5],[5,13,14,15],[5],[5,13,14,15],[1000],[5,13,14,15,16],[5,13,14,15],[5,7,13,14,15],[5,13,14,15],[5,13,14,15],[4]]
def jz:Cmd:=ao (g1 [] Tryz.f225 B7 1 [])
@[go_sem] def LQ(a:Cmd):Cmd:=ao (g1 [] Tryz.f225 B7 0 [a])
def CX:Cmd:=LQ jz
def uP:FD:=⟨2,[[]],[.t 4],CX⟩
def As:cP:=[[0,1,2,6],[0,1,2,6,15,16],[],[0,1,2,6,15,16],[1000,1001,1002,1003,1004],[0,1,2,6,15,16,17],[0,1,2,6,15,16],[0,1,2,6,7,15,16],[0,1,2,6,7,15,16,31],[],[0,1,2,6,15,16],[0,1,2,6,15,16]]
def qY:Cmd:=ao (g1 [] Tryz.f226 As 1 [])
@[go_sem] def JO(a:Cmd):Cmd:=ao (g1 [] Tryz.f226 As 0 [a])
def uQ:Cmd:=JO qY
def nZ:FD:=⟨3,[],[],uQ⟩
def mC:cP:=[[0,1,2,3,4,5,13,14],[0,1,2,3,5],[0,1,2,3,4,5,13,14],[1000,1001,1002,1003,1004],[0,1,2,3,4,5,13,14,15],[0,1,2,3,4,5,13,14],[0,1,2,3,4,5,8,13,14],[0,1,2,3,4,5,8,9,13,14],[0,1,2,3,4,5,13,14],[0,1,2,3,4,5,8,9,13,14],[1000,1001,1002,1003,1004],[0,1,2,3,4,5,8,9,13,14,21],[0,1,2,3,4,5,8,9,13,14],[0,1,2,3,4,5,8,9,10,13,14],[0,1,2,3,4,5,8,9,13,14],[0,24,3,24,5,24,6,24,9,24,12,24,0,25,3,25],[0,1,2,3,4,5,8,9,13,14],[0,1,2,3,4,5,13,14],[0,1,2,3,5,11],[0,1,2,3,5,11,12],[],[0,1,2,3,5,11,12],[11,1000,1001,1002,1003,1004],[0,1,2,3,5,11,12,61],[0,1,2,3,5,11,12],[0,1,2,3,5,11,12],[0,1,2,3,5,11,12],[0,22,3,22],[0,1,2,3,5,11,12]]
def iq:Cmd:=ao (g1 [] Tryz.f227 mC 1 [])
def it:Cmd:=ao (g1 [] Tryz.f227 mC 2 [])
@[go_sem] def Gc(a b:Cmd):Cmd:=ao (g1 [] Tryz.f227 mC 3 [a,b])
def kK:Cmd:=Gc iq it
@[go_sem] def I4(a b c:Cmd):Cmd:=ao (g1 [] Tryz.f227 mC 0 [a,b,c])
def At:Cmd:=I4 iq it kK
def rT:FD:=⟨6,[],[],At⟩
def D6:Cmd:=ao (g0 Tryz.f228 [[0,4,5,6],[6],[]])
def wM:FD:=⟨3,[aC],[.cell 6 7 true],D6⟩
def D7:Cmd:=ao (g0 Tryz.f229 [[0,4,5,6],[6],[]])
def wN:FD:=⟨3,[aC],[.cell 6 7 true],D7⟩
def jd:cP:=[[0,1,2,3,6],[0,1,2,3,6,7],[0,1,2,3],[0,1,2,3,6,7],[6,1000,1001,1002,1003],[0,1,2,3,6,7,14],[0,1,2,3,6,7],[0,1,2,3,6,7],[0,6,1,6,0,7,1,7,6,12,7,12,8,12,10,12,11,12,6,15,7,15,8,15,10,15,11,15],[0,1,2,3,6,7],[0,25,3,25],[0,1,2,3,6,7],[0,1,2,3,8],[],[0,1,2,3,8],[1000,1001,1002,1003],[0,1,2,3,8,63],[0,1,2,3,8],[0,1,2,3,8,9],[0,1,2,3,8],[0,1,2,3,8,9],[1000,1001,1002,1003],[0,1,2,3,8,9,69],[0,1,2,3,8,9],[0,1,2,3,8,9],[0,33,3,33],[0,1,2,3,8,9],[0,1,2,3,8]]
def eZ:Cmd:=ao (g1 [] Tryz.f230 jd 1 [])
@[go_sem] def B8(a:Cmd):Cmd:=ao (g1 [] Tryz.f230 jd 2 [a])
def hF:Cmd:=B8 eZ
def hH:Cmd:=ao (g1 [] Tryz.f230 jd 3 [])
@[go_sem] def D8(a b c:Cmd):Cmd:=ao (g1 [] Tryz.f230 jd 0 [a,b,c])
def uR:Cmd:=D8 eZ hF hH
def mD:FD:=⟨4,[],[],uR⟩
def D9:Cmd:=ao (g0 Tryz.f231 [[0,1],[0,1],[0,1,9],[4,5,6],[0,1,14],[4,5,6],[7,8],[4,5,6]])
def wO:FD:=⟨2,[[.o 2 []],[.o 2 []],[]],[.t 4,.t 5,.t 6],D9⟩
def MB:Cmd:=ao (g0 Tryz.f232 [[0,1],[5],[4]])
def Ea:FD:=⟨2,[[.o 2 []]],[.t 4],MB⟩
def zY:Cmd:=ao (g0 Tryz.f233 [[0],[2]])
def rU:FD:=⟨1,[[]],[.t 2],zY⟩
def sT:Cmd:=ao (g0 Tryz.f234 [[0,1],[0,1],[0,1,6],[4,5],[0,1,10],[4,5],[4,5]])
def mT:FD:=⟨2,[[.o 2 []],[]],[.t 4,.t 5],sT⟩
def Eb:Cmd:=ao (g0 Tryz.f235 [[0],[2]])
def wQ:FD:=⟨1,[[]],[.t 2],Eb⟩
def CJ:Cmd:=ao (g0 Tryz.f237 [[0,1],[0,1,9],[4,5],[4,5]])
def vZ:FD:=⟨2,[[.o 2 []],[]],[.t 4,.t 5],CJ⟩
def xO:Cmd:=ao (g0 Tryz.f238 [[0,1],[0,1],[0,1,6],[4,5],[0,1,11],[4,5],[4,5]])
def qZ:FD:=⟨2,[[.o 2 []],[]],[.t 4,.t 5],xO⟩
def JP:Cmd:=ao (g0 Tryz.f239 [[0,2],[0,2,4],[0],[0,2],[0,2,8],[0,2],[0,2],[2]])
def oJ:FD:=⟨1,[[]],[.t 2],JP⟩
def tH:Cmd:=ao (g0 Tryz.f240 [[0,1],[4]])
def jQ:FD:=⟨2,[[]],[.t 4],tH⟩
def Ec:Cmd:=ao (g0 Tryz.f241 [[0],[2]])
def wR:FD:=⟨1,[[]],[.t 2],Ec⟩
def GG:cP:=[[0,1],[0,1],[0,1,15],[4],[0,1],[0,1,5],[0,1,5,23,24,25],[5],[0,1,5,23,24,25],[22],[0,1,5,23,24,25,26],[0,1,5,23,24,25],[0,1,5,6,7,23,24,25],[0,1,5,6,8,23,24,25],[0,1,5,6,8,23,24,25,36],[0,1,5,6,8,23,24,25],[0,1,5,23,24,25],[0,1,5,23,24,25],[4]]
def nI:Cmd:=ao (g1 [] Tryz.f243 GG 1 [])
@[go_sem] def Ty(a:Cmd):Cmd:=ao (g1 [] Tryz.f243 GG 0 [a])
def CK:Cmd:=Ty nI
def v9:FD:=⟨2,[[.o 2 []]],[.t 4],CK⟩
def ON:Cmd:=ao (g0 Tryz.f244 [[1,2],[2]])
def Gd:FD:=⟨1,[[.o 2 [],.o 0 [],.o 0 []]],[.cell 2 3 true],ON⟩
def Ge:Cmd:=ao (g0 Tryz.f245 [[0,1],[0,1,11],[0,1],[0,1,6],[4,5]])
def zZ:FD:=⟨2,[[.o 2 []],[]],[.t 4,.t 5],Ge⟩
def MC:Cmd:=ao (g0 Tryz.f246 [[1,2,3,6],[1,2,3,6,8],[1,4],[1,2,3,6,8,10],[],[1,2,3,6,8,10,29],[1,2,6,8,9,10],[1,2,6,8,10,11,12],[1,2,6,8,9,10],[1,2,6,8,9,55],[1,2,6,8,9],[1,2,6,8,9,66],[1,6,67],[6,7],[1,6,9],[6,8,9],[6,7]])
def uS:FD:=⟨3,[aF,[]],[.cell 6 3 true,.t 7],MC⟩
def AY:Cmd:=ao (g0 Tryz.f247 [[1,2],[1,2,10],[2],[1,2,3],[2,3,5],[2]])
def ud:FD:=⟨1,[aC],[.cell 2 7 true],AY⟩
def we:Cmd:=ao (g0 Tryz.f248 [[1,2,3,4,8],[1,2,3,4,8,14],[8,10,11],[8,9],[1,2,4,8,28],[8,9],[8,9]])
def pB:FD:=⟨4,[aF,[]],[.cell 8 3 true,.t 9],we⟩
def OO:Cmd:=ao (g0 Tryz.f249 [[0,1],[6,7],[4,5],[8,9],[4,5]])
def Gf:FD:=⟨2,[[],[]],[.t 4,.t 5],OO⟩
def qw:cP:=[[0,1],[0,1],[0,1,25],[4,5],[0,1,30],[6,7],[4,5],[0,1,8],[0,8,9,10],[8,9,10],[0,8,9,10],[63,2408],[0,8,9,10,60],[0,8,9,10],[0,8,9,10],[8,9,10,11],[8,9,10,11,12],[8,9,10,11,12,13],[8,9,11,12],[8,9,10,11,12,13],[63,70,2408],[8,9,10,11,12,13,77],[8,9,10,11,12,13],[8,9,10,11,12,13,14],[],[8,9,10,11,12,13,14,120],[8,9,10,11,12,13,14],[8,9,10,11,12,13,14,15],[8,9,10,11,12,13,14,15,123,124,125],[8,9,10,11,12,13,14,15],[8,9,10,11,12,13,14,15,123,124,125],[63,70,2408],[8,9,10,11,12,13,14,15,123,124,125,126],[8,9,10,11,12,13,14,15,123,124,125],[8,9,10,11,12,13,14,15,16,17,123,124,125],[8,9,10,11,12,13,14,15,123,124,125],[8,9,10,11,12,13,14,15,123,124,125],[8,9,10,11,12,13,14],[8,9,10,11,12,13],[8,9,10,11,12,13],[4,5]]
def ij:Cmd:=ao (g1 [] Tryz.f250 qw 1 [])
@[go_sem] def I5(a:Cmd):Cmd:=ao (g1 [] Tryz.f250 qw 2 [a])
def j6:Cmd:=I5 ij
def Au:Cmd:=ao (g1 [] Tryz.f250 qw 3 [])
@[go_sem] def M4(a b c:Cmd):Cmd:=ao (g1 [] Tryz.f250 qw 0 [a,b,c])
def ye:Cmd:=M4 ij j6 Au
def qx:FD:=⟨2,[[.o 2 []],[.o 2 []]],[.t 4,.t 5],ye⟩
def GH:cP:=[[0,1],[0,1],[0,1,5],[0,1,5,6],[1,5,6,21,22,23],[5,6],[1,5,6,21,22,23],[20,38],[1,5,6,21,22,23,24],[1,5,6,21,22,23],[1,5,6,8,21,22,23],[1,5,9,21,22,23],[1,5,6,21,22,23],[1,5,6,21,22,23],[4]]
def rW:Cmd:=ao (g1 [] Tryz.f251 GH 1 [])
@[go_sem] def Tz(a:Cmd):Cmd:=ao (g1 [] Tryz.f251 GH 0 [a])
def IV:Cmd:=Tz rW
def AZ:FD:=⟨2,[[]],[.t 4],IV⟩
def GI:cP:=[[0,1],[0,1,14],[0,1],[0,1,5],[0,1,5,6],[0,1,5,6,21,22,23],[0,5,6],[0,1,5,6,21,22,23],[20],[0,1,5,6,21,22,23,24],[0,1,5,6,21,22,23],[0,1,5,6,7,8,21,22,23],[0,1,5,6,7,8,9,21,22,23],[0,1,5,6,7,8,9,21,22,23,31],[0,1,5,6,7,8,9,21,22,23],[0,1,5,6,21,22,23],[0,1,5,6,21,22,23],[5],[4]]
def kB:Cmd:=ao (g1 [] Tryz.f253 GI 1 [])
@[go_sem] def TA(a:Cmd):Cmd:=ao (g1 [] Tryz.f253 GI 0 [a])
def IW:Cmd:=TA kB
def wh:FD:=⟨2,[[.o 2 []]],[.t 4],IW⟩
def GJ:cP:=[[0,1],[0,1],[0,1,5],[0,1,5,6],[1,5,6,17,18,19],[5],[1,5,6,17,18,19],[16],[1,5,6,17,18,19,20],[1,5,6,17,18,19],[1,5,6,7,8,17,18,19],[1,5,6,7,8,9,17,18,19],[1,5,6,7,8,9,17,18,19,27],[1,5,6,7,8,9,17,18,19],[1,5,6,17,18,19],[1,5,6,17,18,19],[4]]
def nJ:Cmd:=ao (g1 [] Tryz.f254 GJ 1 [])
@[go_sem] def TB(a:Cmd):Cmd:=ao (g1 [] Tryz.f254 GJ 0 [a])
def IX:Cmd:=TB nJ
def A6:FD:=⟨2,[[.o 2 []]],[.t 4],IX⟩
def kX:cP:=[[0,1],[0,1,7,8],[],[0,1,7,8],[],[0,1,7,8,9],[0,1,7,8],[0,1,5,7,8],[0,1,5,7,8,16],[4],[0,1,7,8],[4]]
def tJ:Cmd:=ao (g1 [] Tryz.f255 kX 1 [])
@[go_sem] def wj(a:Cmd):Cmd:=ao (g1 [] Tryz.f255 kX 0 [a])
def wk:Cmd:=wj tJ
def kY:FD:=⟨2,[[]],[.t 4],wk⟩
def sU:Cmd:=ao (g0 Tryz.f256 [[0,1,2,6],[0,1,2,6,15],[6,7],[6,7]])
def mU:FD:=⟨3,[aF,[]],[.cell 6 3 true,.t 7],sU⟩
def A7:Cmd:=ao (g0 Tryz.f257 [[1,2],[1,2,7],[2,3],[1,2,11],[2,3],[2,3],[2,4]])
def ue:FD:=⟨1,[aF,[]],[.cell 2 3 true,.t 3],A7⟩
def GK:Cmd:=ao (g0 Tryz.f258 [[1,2],[1,2,7],[2,3],[2,3],[2,4]])
def Aa:FD:=⟨1,[aF,[]],[.cell 2 3 true,.t 3],GK⟩
def CY:cP:=[[1,2,3,4,5,10],[1,2,4,5,10,12,13],[1,2,4,5,10,12,13,14],[10,12,13],[1,2,4,5,10,12,13,14],[5,10,12],[1,2,4,5,10,12,13,14,28],[1,2,4,5,10,12,13,14],[1,2,4,5,10,12,13,14],[1,2,4,5,10,12,13,14],[10,11]]
def aW:Cmd:=ao (g1 [] Tryz.f259 CY 1 [])
@[go_sem] def M5(a:Cmd):Cmd:=ao (g1 [] Tryz.f259 CY 0 [a])
def Ed:Cmd:=M5 aW
def qy:FD:=⟨5,[aF,[]],[.cell 10 3 true,.t 11],Ed⟩
def VF:Cmd:=ao (g0 Tryz.f260 [[0,1],[6],[4,5]])
def TC:FD:=⟨2,[[],[]],[.t 4,.t 5],VF⟩
def JQ:Cmd:=ao (g0 Tryz.f261 [[0,1],[0,1,6],[0,1,6,7],[0,1,6,7,8],[0,1,6,7,8,9],[0,1,6,7,8,9,10],[0,1,6,7,9,11],[0,1,6,7,9,11,12],[0,1,6,7,9,12,13],[0,1,7,9,12,13],[0,1,4],[4,5]])
def CL:FD:=⟨2,[[],[]],[.t 4,.t 5],JQ⟩
def Ee:cP:=[[0,1],[0,1,6],[0,1,6,7],[0,1,6,7,8],[6,7],[0,1,6,7,8],[11],[0,1,6,7,8,16],[0,1,6,7,8],[0,1,6,7,8],[0,1,6,7,8],[4,5]]
def kZ:Cmd:=ao (g1 [] Tryz.f262 Ee 1 [])
@[go_sem] def OP(a:Cmd):Cmd:=ao (g1 [] Tryz.f262 Ee 0 [a])
def Fo:Cmd:=OP kZ
def yf:FD:=⟨2,[[.o 2 []],[]],[.t 4,.t 5],Fo⟩
def yD:Cmd:=ao (g0 Tryz.f263 [[0],[2]])
def pY:FD:=⟨1,[[]],[.t 2],yD⟩
def Ac:Cmd:=ao (g0 Tryz.f264 [[0,1,2,3,4],[0,1,2,3,4,14],[10],[2,3,4,11],[10],[]])
def rX:FD:=⟨5,[[]],[.t 10],Ac⟩
def Fq:cP:=[[0,1,2],[0,1,2,7,8],[0,1,2,7,8,14,15,16],[0,1,7,8],[0,1,2,7,8,14,15,16],[1000],[0,1,2,7,8,14,15,16,17],[0,1,2,7,8,14,15,16],[0,1,2,7,8,9,10,14,15,16],[0,1,2,8,9,11,14,15,16],[0,1,2,7,8,9,11,14,15,16],[0,1,2,7,9,12,14,15,16],[0,1,2,7,8,14,15,16],[0,1,2,7,8,14,15,16],[0,1,13],[13],[6]]
def l8:Cmd:=ao (g1 [] Tryz.f265 Fq 1 [])
@[go_sem] def Qc(a:Cmd):Cmd:=ao (g1 [] Tryz.f265 Fq 0 [a])
def GL:Cmd:=Qc l8
def Ad:FD:=⟨3,[[]],[.t 6],GL⟩
def JR:Cmd:=ao (g0 Tryz.f266 [[0,1,2],[8],[6,8],[6,7]])
def CM:FD:=⟨3,[[],[]],[.t 6,.t 7],JR⟩
def JS:Cmd:=ao (g0 Tryz.f267 [[0,1,2],[0,1,6],[6,7]])
def CN:FD:=⟨3,[[],[]],[.t 6,.t 7],JS⟩
def Ae:Cmd:=ao (g0 Tryz.f268 [[1,2],[1,2,11],[2],[2],[2,4]])
def sW:FD:=⟨1,[aF],[.cell 2 3 true],Ae⟩
def JT:Cmd:=ao (g0 Tryz.f269 [[0,1,2],[0,1,2,15],[0,1,2],[2,8],[6,7],[]])
def CO:FD:=⟨3,[[],[]],[.t 6,.t 7],JT⟩
def Ef:cP:=[[0,1,2,3,4],[0],[0,1,2,3,4],[],[0,1,2,3,4,24],[0,1,2,3,4],[0,1,2,3,4],[0,1,2,3,4],[10]]
def gu:Cmd:=ao (g1 [] Tryz.f270 Ef 1 [])
@[go_sem] def OQ(a:Cmd):Cmd:=ao (g1 [] Tryz.f270 Ef 0 [a])
def Fr:Cmd:=OQ gu
def yg:FD:=⟨5,[[]],[.t 10],Fr⟩
end
noncomputable def aiW:List (Nat×FD):=[(239,oJ),
 (249,Gf),
 (260,TC),
 (261,CL),
 (263,pY),
 (266,CM),
 (267,CN),
 (269,CO),
 (161,vP),
 (198,qR),
 (206,tY),
 (207,zW),
 (208,tZ),
 (209,AX),
 (210,zX),
 (213,qU),
 (231,wO),
 (234,mT),
 (237,vZ),
 (238,qZ),
 (241,wR),
 (243,v9),
 (250,qx),
 (251,AZ),
 (253,wh),
 (254,A6),
 (262,yf),
 (264,rX),
 (265,Ad),
 (270,yg),
 (200,jZ),
 (235,wQ),
 (26,gF),
 (37,nc),
 (54,jf),
 (59,fT),
 (78,iH),
 (89,eS),
 (121,jY),
 (122,gM),
 (141,ju),
 (145,jv),
 (148,dw),
 (151,bu),
 (154,gH),
 (158,n9),
 (201,iF),
 (205,qT),
 (214,jT),
 (223,nH),
 (224,eF),
 (240,jQ),
 (255,kY),
 (85,sE),
 (86,jN),
 (88,gZ),
 (98,iw),
 (102,xH),
 (103,mQ),
 (119,zC),
 (146,lW),
 (147,gS),
 (153,sM),
 (160,AR),
 (162,qp),
 (163,nY),
 (177,sP),
 (179,pu),
 (196,vW),
 (197,sQ),
 (199,wK),
 (204,lO),
 (211,wL),
 (212,CG),
 (256,mU),
 (268,sW),
 (118,xV),
 (134,xX),
 (135,AN),
 (140,xg),
 (143,AO),
 (164,yb),
 (165,AS),
 (176,gx),
 (178,nE),
 (194,qO),
 (195,qQ),
 (215,qW),
 (216,CH),
 (217,Gb),
 (218,vX),
 (219,uN),
 (220,pA),
 (232,Ea),
 (233,rU),
 (244,Gd),
 (245,zZ),
 (246,uS),
 (17,dX),
 (22,jn),
 (45,gR),
 (47,gY),
 (49,zp),
 (50,wH),
 (61,tQ),
 (63,qj),
 (64,wI),
 (68,lu),
 (82,po),
 (100,pp),
 (115,ie),
 (116,qk),
 (117,lw),
 (125,go),
 (132,nv),
 (133,xW),
 (144,nD),
 (181,rP),
 (182,rQ),
 (189,rR),
 (222,fH),
 (247,ud),
 (248,pB),
 (257,ue),
 (258,Aa),
 (259,qy),
 (65,sC),
 (123,sH),
 (124,AL),
 (126,vO),
 (127,gr),
 (180,px),
 (183,vU),
 (184,py),
 (185,gy),
 (186,zO),
 (187,uM),
 (188,oC),
 (221,qu),
 (225,uP),
 (226,nZ),
 (227,rT),
 (228,wM),
 (229,wN),
 (230,mD),
 (16,Yv),
 (27,BF),
 (31,qF),
 (32,pT),
 (48,Tm),
 (75,tr),
 (84,uH),
 (90,IC),
 (91,fV),
 (92,fC),
 (96,lM),
 (97,AJ),
 (113,xI),
 (114,oH),
 (149,oB),
 (150,xJ),
 (152,AP),
 (159,tW),
 (29,uE),
 (30,DQ),
 (33,uF),
 (44,AE),
 (57,DS),
 (69,dG),
 (71,iQ),
 (73,qH),
 (81,vK),
 (83,tT),
 (94,CB),
 (95,sF),
 (99,DV),
 (101,AK),
 (136,qL),
 (139,xY),
 (142,xZ),
 (157,zH),
 (193,Mz),
 (35,HG),
 (36,az6),
 (39,az7),
 (40,az9),
 (41,kJ),
 (58,C8),
 (104,Fe),
 (105,gh),
 (106,azS),
 (107,aAh),
 (110,rL),
 (111,xf),
 (112,Db),
 (166,F6),
 (167,D0),
 (168,zK),
 (169,BL),
 (170,aAr),
 (172,F8),
 (173,F9),
 (174,vS),
 (175,D3),
 (130,B4),
 (192,BM),
 (87,azR),
 (129,nu),
 (137,BK),
 (138,jO),
 (191,tw),
 (21,az5),
 (23,aBq),
 (24,aAO),
 (38,azU),
 (66,kT),
 (70,kU),
 (76,F4),
 (108,nj),
 (109,aAq),
 (128,sJ),
 (155,mS),
 (171,pX),
 (190,HL),
 (8,aBb),
 (12,DP),
 (13,kS),
 (15,aAj),
 (20,aAp),
 (25,HD),
 (56,aCn),
 (77,vJ),
 (79,qJ),
 (80,xT)]
def shL:List (Nat×List (List Sh)):=[(161,[[.o 2 []],[.o 2 []]]),
 (198,[[.o 2 []],[.o 2 []]]),
 (206,[[.o 2 []]]),
 (207,[[.o 2 [.o 2 []]]]),
 (208,[[.o 2 []]]),
 (209,[[.o 2 []],[.o 2 []]]),
 (210,[[.o 2 []]]),
 (213,[[.o 2 []],[]]),
 (231,[[.o 2 []],[.o 2 []]]),
 (234,[[.o 2 []],[]]),
 (237,[[.o 2 []],[.o 2 []]]),
 (238,[[.o 2 []],[.o 2 []]]),
 (241,[[.o 2 []]]),
 (243,[[.o 2 []],[]]),
 (250,[[.o 2 []],[.o 2 []]]),
 (251,[[.o 2 []],[]]),
 (253,[[.o 2 []],[.o 2 []]]),
 (254,[[.o 2 []],[.o 2 []]]),
 (262,[[.o 2 []],[]]),
 (265,[[.o 2 []],[.o 2 []],[]]),
 (26,[[.o 2 [.o 5 [.o 2 [],.o 0 [],.o 2 [],.o 0 []]]]]),
 (37,[[.o 2 []]]),
 (54,[[.o 5 [.o 2 [],.o 0 [],.o 2 [],.o 0 []]],[]]),
 (59,[[.o 8 aC],[]]),
 (78,[[.o 10 [.o 0 [],.o 5 [],.o 0 [],.o 2 [],.o 0 [],.o 0 [],.o 2 [],.o 0 [],.o 0 []]],[]]),
 (121,[[.o 5 [.o 2 [],.o 0 [],.o 2 [],.o 0 []]],[]]),
 (122,[[.o 8 aC],[]]),
 (141,[[.o 10 [.o 0 [],.o 5 [],.o 0 [],.o 2 [],.o 0 [],.o 0 [],.o 2 [],.o 0 [],.o 0 []]],[]]),
 (145,[[.o 2 []]]),
 (148,[[.o 5 [.o 2 [],.o 0 [],.o 2 [],.o 0 []]],[.o 2 []],[]]),
 (151,[[],[],[.o 5 [.o 2 [],.o 0 [],.o 2 [],.o 0 []]]]),
 (158,[[.o 2 []],[]]),
 (201,[[.o 2 []],[.o 2 []]]),
 (203,[[.o 5 [.o 2 [],.o 0 [],.o 2 [],.o 0 []]],[]]),
 (205,[[.o 2 []],[]]),
 (214,[[.o 2 []]]),
 (223,[[.o 2 []],[]]),
 (224,[[.o 8 aC],[]]),
 (240,[[.o 2 [.o 2 []]],[]]),
 (255,[[.o 2 [.o 2 []]],[]]),
 (85,[aF]),
 (86,[aF,aF]),
 (88,[aF]),
 (98,[aF,aF]),
 (103,[aF]),
 (119,[aF,[]]),
 (146,[aF,aF]),
 (147,[aF]),
 (153,[aF,aF]),
 (160,[[.o 2 []]]),
 (162,[aF]),
 (163,[[],[.o 2 []],[]]),
 (177,[aF,aF]),
 (196,[aF]),
 (197,[aF]),
 (199,[[.o 2 []],[]]),
 (204,[aF,aF]),
 (211,[[.o 2 []]]),
 (212,[[.o 2 []]]),
 (256,[[],[.o 2 []],[]]),
 (268,[aF]),
 (118,[aF,aF,[]]),
 (134,[aF,aF,[]]),
 (135,[aF,aF,[]]),
 (140,[aF,[]]),
 (143,[aF,aF,[]]),
 (164,[aF,aF,[]]),
 (165,[aF,aF,[]]),
 (176,[aF,[]]),
 (178,[aF,aF,[],[]]),
 (194,[aF,aF,[],[]]),
 (195,[[],[.o 4 aF]]),
 (215,[aF,aF,[],[]]),
 (216,[aF,[]]),
 (217,[aF,[]]),
 (218,[aF,[],[]]),
 (219,[aF,aF,[]]),
 (220,[[],[.o 2 [],.o 0 [],.o 0 []],[],[]]),
 (232,[[.o 2 []],[]]),
 (244,[aF]),
 (245,[[.o 2 []],[]]),
 (246,[[.o 2 [],.o 0 [],.o 0 []],[],[]]),
 (17,[aC,aC]),
 (22,[aC,aF]),
 (45,[aC]),
 (47,[aC,[]]),
 (49,[aC,aC,[]]),
 (50,[aF]),
 (61,[aC]),
 (63,[aC,aC]),
 (68,[aC,aC,[]]),
 (82,[aC,aC,[]]),
 (100,[aC,aC,[]]),
 (115,[aF]),
 (116,[[.o 8 aC]]),
 (125,[aC,aC]),
 (132,[aC]),
 (133,[aC,aC,[],[],[]]),
 (144,[aF,[],aF,[]]),
 (181,[aF,aF]),
 (182,[aF,aF]),
 (189,[aC,aC]),
 (222,[aC,[],[]]),
 (247,[aC]),
 (248,[aF,[],[],[]]),
 (257,[aC]),
 (258,[aC]),
 (259,[aF,[],[],[],[]]),
 (65,[[.o 0 [],.o 5 [.o 2 [],.o 0 [],.o 2 [],.o 0 []]],[.o 8 aC],[]]),
 (123,[[.o 0 [],.o 5 [.o 2 [],.o 0 [],.o 2 [],.o 0 []]],[.o 8 aC],[]]),
 (126,[[.o 0 [],.o 5 [.o 2 [],.o 0 [],.o 2 [],.o 0 []]],[.o 8 aC],[]]),
 (127,[[.o 0 [],.o 5 [.o 2 [],.o 0 [],.o 2 [],.o 0 []]],[.o 8 aC],[]]),
 (180,[[.o 0 [],.o 5 [.o 2 [],.o 0 [],.o 2 [],.o 0 []]],[.o 8 aC]]),
 (183,[aC,[],[]]),
 (184,[[.o 0 [],.o 5 [.o 2 [],.o 0 [],.o 2 [],.o 0 []]]]),
 (185,[aF,aF,aC,[]]),
 (186,[[.o 0 [],.o 5 [.o 2 [],.o 0 [],.o 2 [],.o 0 []]],[]]),
 (187,[[],[],aC]),
 (221,[aC]),
 (228,[[],aC,aC]),
 (229,[[],aC,aC]),
 (16,[[.o 0 [],.o 5 [.o 2 [],.o 0 [],.o 2 [],.o 0 []]],[.o 0 [],.o 5 [.o 2 [],.o 0 [],.o 2 [],.o 0 []]]]),
 (27,[[.o 0 [],.o 5 [.o 2 [],.o 0 [],.o 2 [],.o 0 []]],[.o 0 [],.o 5 [.o 2 [],.o 0 [],.o 2 [],.o 0 []]]]),
 (31,[[.o 0 [],.o 5 [.o 2 [],.o 0 [],.o 2 [],.o 0 []]]]),
 (32,[[.o 0 [],.o 5 [.o 2 [],.o 0 [],.o 2 [],.o 0 []]],[.o 0 [],.o 5 [.o 2 [],.o 0 [],.o 2 [],.o 0 []]]]),
 (48,[[.o 0 [],.o 5 [.o 2 [],.o 0 [],.o 2 [],.o 0 []]],aF]),
 (84,[[.o 0 [],.o 5 [.o 2 [],.o 0 [],.o 2 [],.o 0 []]],[.o 0 [],.o 5 [.o 2 [],.o 0 [],.o 2 [],.o 0 []]]]),
 (91,[[],[.o 2 []],aF]),
 (96,[[.o 0 [],.o 5 [.o 2 [],.o 0 [],.o 2 [],.o 0 []]]]),
 (97,[[.o 2 []]]),
 (113,[[.o 0 [],.o 5 [.o 2 [],.o 0 [],.o 2 [],.o 0 []]],[]]),
 (114,[[.o 0 [],.o 5 [.o 2 [],.o 0 [],.o 2 [],.o 0 []]],[]]),
 (149,[[.o 2 [],.o 0 [],.o 2 [],.o 0 []],[.o 2 []]]),
 (150,[[.o 2 []],[.o 2 []]]),
 (152,[aF]),
 (29,[[.o 8 aC,.o 0 [],.o 0 []],[.o 0 [],.o 5 [.o 2 [],.o 0 [],.o 2 [],.o 0 []],.o 0 [],.o 2 [],.o 0 [],.o 0 [],.o 2 [],.o 0 [],.o 0 []],[.o 0 [],.o 5 [.o 2 [],.o 0 [],.o 2 [],.o 0 []],.o 0 [],.o 2 [],.o 0 [],.o 0 [],.o 2 [],.o 0 [],.o 0 []]]),
 (30,[[.o 8 aC,.o 0 [],.o 0 []],[.o 0 [],.o 5 [.o 2 [],.o 0 [],.o 2 [],.o 0 []],.o 0 [],.o 2 [],.o 0 [],.o 0 [],.o 2 [],.o 0 [],.o 0 []],[.o 0 [],.o 5 [.o 2 [],.o 0 [],.o 2 [],.o 0 []],.o 0 [],.o 2 [],.o 0 [],.o 0 [],.o 2 [],.o 0 [],.o 0 []]]),
 (33,[[.o 8 aC,.o 0 [],.o 0 []],[.o 0 [],.o 5 [.o 2 [],.o 0 [],.o 2 [],.o 0 []],.o 0 [],.o 2 [],.o 0 [],.o 0 [],.o 2 [],.o 0 [],.o 0 []],[.o 0 [],.o 5 [.o 2 [],.o 0 [],.o 2 [],.o 0 []],.o 0 [],.o 2 [],.o 0 [],.o 0 [],.o 2 [],.o 0 [],.o 0 []]]),
 (44,[[.o 8 aC,.o 0 [],.o 0 []],[.o 0 [],.o 5 [.o 2 [],.o 0 [],.o 2 [],.o 0 []],.o 0 [],.o 2 [],.o 0 [],.o 0 [],.o 2 [],.o 0 [],.o 0 []],aC]),
 (57,[[.o 8 aC,.o 0 [],.o 0 []],[.o 0 [],.o 5 [.o 2 [],.o 0 [],.o 2 [],.o 0 []],.o 0 [],.o 2 [],.o 0 [],.o 0 [],.o 2 [],.o 0 [],.o 0 []]]),
 (69,[[.o 8 aC,.o 0 [],.o 0 []]]),
 (71,[[.o 8 aC,.o 0 [],.o 0 []],[.o 0 [],.o 5 [.o 2 [],.o 0 [],.o 2 [],.o 0 []],.o 0 [],.o 2 [],.o 0 [],.o 0 [],.o 2 [],.o 0 [],.o 0 []]]),
 (73,[[.o 8 aC,.o 0 [],.o 0 []],[]]),
 (81,[[.o 8 aC,.o 0 [],.o 0 []],[.o 10 [.o 0 [],.o 5 [],.o 0 [],.o 2 [],.o 0 [],.o 0 [],.o 2 [],.o 0 [],.o 0 []]]]),
 (83,[[.o 0 [],.o 5 [.o 2 [],.o 0 [],.o 2 [],.o 0 []]],[.o 8 aC],[]]),
 (94,[[.o 8 aC,.o 0 [],.o 0 []]]),
 (95,[[.o 8 aC,.o 0 [],.o 0 []],[.o 0 [],.o 5 [.o 2 [],.o 0 [],.o 2 [],.o 0 []]],[],aC]),
 (99,[[],aC,[.o 8 aC]]),
 (136,[aC]),
 (139,[[.o 2 [],.o 0 [],.o 2 [],.o 0 []]]),
 (142,[[.o 0 [],.o 5 [.o 2 [],.o 0 [],.o 2 [],.o 0 []],.o 0 [],.o 2 [],.o 0 [],.o 0 [],.o 2 [],.o 0 [],.o 0 []]]),
 (157,[[.o 8 aC,.o 0 [],.o 0 []],[.o 0 [],.o 5 [.o 2 [],.o 0 [],.o 2 [],.o 0 []]]]),
 (193,[[.o 2 []]]),
 (36,[aF,aF]),
 (39,[aF,aF]),
 (40,[aF,aF]),
 (41,[aF,aF]),
 (58,[aF]),
 (104,[[],[.o 2 []],[]]),
 (105,[aF]),
 (106,[aF]),
 (107,[aF,aF]),
 (110,[aF,aF]),
 (111,[aF]),
 (112,[aF]),
 (166,[[.o 2 []]]),
 (167,[[.o 2 []]]),
 (168,[[.o 2 []],[]]),
 (169,[[.o 2 []]]),
 (170,[[.o 2 []],[.o 2 []]]),
 (172,[[.o 2 []],[]]),
 (173,[[.o 2 []],[.o 2 []]]),
 (174,[[.o 2 []],[.o 2 []]]),
 (175,[[.o 2 []],[.o 2 []]]),
 (130,[aF,[]]),
 (87,[aC,aF]),
 (129,[aC]),
 (138,[aC,aC]),
 (191,[aF]),
 (21,[[.o 8 aC,.o 0 [],.o 0 []],[.o 4 aF]]),
 (23,[[.o 0 [],.o 5 [.o 2 [],.o 0 [],.o 2 [],.o 0 []],.o 0 [],.o 2 [],.o 0 [],.o 0 [],.o 2 [],.o 0 [],.o 0 []],[.o 4 aF],aF]),
 (24,[[.o 0 [],.o 5 [.o 2 [],.o 0 [],.o 2 [],.o 0 []],.o 0 [],.o 2 [],.o 0 [],.o 0 [],.o 2 [],.o 0 [],.o 0 []],[.o 4 aF],aF]),
 (38,[[.o 0 [],.o 5 [.o 2 [],.o 0 [],.o 2 [],.o 0 []]],[.o 4 aF]]),
 (66,[[.o 8 aC,.o 0 [],.o 0 []],[.o 0 [],.o 5 [.o 2 [],.o 0 [],.o 2 [],.o 0 []],.o 0 [],.o 2 [],.o 0 [],.o 0 [],.o 2 [],.o 0 [],.o 0 []]]),
 (70,[[.o 8 aC,.o 0 [],.o 0 []]]),
 (108,[[.o 0 [],.o 5 [.o 2 [],.o 0 [],.o 2 [],.o 0 []]]]),
 (109,[aF,aF,[]]),
 (128,[[.o 0 [],.o 5 [.o 2 [],.o 0 [],.o 2 [],.o 0 []]]]),
 (155,[[.o 2 []],[.o 2 []]]),
 (171,[[],[.o 2 [],.o 0 [],.o 2 [],.o 0 []]]),
 (190,[[.o 2 []]]),
 (8,[[.o 8 aC,.o 0 [],.o 0 []],[.o 0 [],.o 5 [.o 2 [],.o 0 [],.o 2 [],.o 0 []],.o 0 [],.o 2 [],.o 0 [],.o 0 [],.o 2 [],.o 0 [],.o 0 []],[.o 0 [],.o 5 [.o 2 [],.o 0 [],.o 2 [],.o 0 []],.o 0 [],.o 2 [],.o 0 [],.o 0 [],.o 2 [],.o 0 [],.o 0 []],[.o 4 aF],aF,aF,aC]),
 (13,[[.o 8 aC,.o 0 [],.o 0 []],[.o 10 [.o 0 [],.o 5 [],.o 0 [],.o 2 [],.o 0 [],.o 0 [],.o 2 [],.o 0 [],.o 0 []]]]),
 (15,[[.o 8 aC,.o 0 [],.o 0 []],[.o 0 [],.o 5 [.o 2 [],.o 0 [],.o 2 [],.o 0 []],.o 0 [],.o 2 [],.o 0 [],.o 0 [],.o 2 [],.o 0 [],.o 0 []],[.o 0 [],.o 5 [.o 2 [],.o 0 [],.o 2 [],.o 0 []],.o 0 [],.o 2 [],.o 0 [],.o 0 [],.o 2 [],.o 0 [],.o 0 []]]),
 (20,[[.o 8 aC,.o 0 [],.o 0 []],[.o 0 [],.o 5 [.o 2 [],.o 0 [],.o 2 [],.o 0 []],.o 0 [],.o 2 [],.o 0 [],.o 0 [],.o 2 [],.o 0 [],.o 0 []],[.o 0 [],.o 5 [.o 2 [],.o 0 [],.o 2 [],.o 0 []],.o 0 [],.o 2 [],.o 0 [],.o 0 [],.o 2 [],.o 0 [],.o 0 []],[.o 4 aF],aF,aF]),
 (56,[[.o 0 [],.o 5 [.o 2 [],.o 0 [],.o 2 [],.o 0 []],.o 0 [],.o 2 [],.o 0 [],.o 0 [],.o 2 [],.o 0 [],.o 0 []],aF,[]]),
 (77,[aC]),
 (79,[[.o 0 [],.o 5 [.o 2 [],.o 0 [],.o 2 [],.o 0 []],.o 0 [],.o 2 [],.o 0 [],.o 0 [],.o 2 [],.o 0 [],.o 0 []]]),
 (80,[[.o 2 [],.o 0 [],.o 2 [],.o 0 []]])]
def mdL:List (Nat×List Nat):=[(265,[1,0,0]),(148,[3,0,0]),(151,[2,0,0]),(154,[2,0,0]),(202,[0,1])]
def keepL:List Nat:=[55,56,79,136,139,142,225,228,229]
def ab:List Nat->Nat
 |[]=>0
 |x::l=>x+4294967296*ab l
def Lb(m:List Nat):Prop:=∀x∈m,x<4294967296
def dE:Nat->Nat->List Nat
 |0,_=>[]
 |k+1,n=>n%4294967296::dE k (n/4294967296)
def av(n:Nat):List Nat:=if h:n=0 then []else n%4294967296::av (n/4294967296)
termination_by n
decreasing_by omega
theorem ft:av 0=[]:=by grind[av]
theorem re{n}(h:n≠0):av n=n%4294967296::av (n/4294967296):=by rw[av,dif_neg h]
theorem oL{n}:av n=[]↔n=0:=by
 grind[re,ft]
theorem aN(n):ab (av n)=n:=by
 induction n using Nat.strongRecOn with
 |ind n ih=>
  grind[ft,re,ab]
theorem bc(n):Lb (av n):=by
 induction n using Nat.strongRecOn with
 |ind n ih=>
  by_cases h:n=0
  ·subst h;rw[ft];intro x hx;grind
  ·rw[re h];intro x hx;rcases List.mem_cons.1 hx with rfl|hx
   ·omega
   ·exact ih _ ω x hx
theorem JU:Lb []:=fun x hx=>by grind
theorem iT{x}{l}:Lb (x::l)↔x<4294967296/\Lb l:=by
 constructor
 ·intro h;exact⟨h x σ,fun y hy=>h y γ⟩
 ·rintro⟨h1,h2⟩ y hy
  rcases List.mem_cons.1 hy with rfl|hy
  ·omega
  ·exact h2 y hy
theorem pC{l r}:Lb (l++r)↔Lb l/\Lb r:=by
 constructor
 ·intro h;exact⟨fun x hx=>h x γ,fun x hx=>h x γ⟩
 ·rintro⟨h1,h2⟩ x hx
  rcases List.mem_append.1 hx with hx|hx
  ·exact h1 x hx
  ·exact h2 x hx
theorem fj{l}(h:Lb l)(n):Lb (l.take n):=fun x hx=>h x (List.mem_of_mem_take hx)
theorem mV{l}(h:Lb l)(n):Lb (l.drop n):=fun x hx=>h x (List.mem_of_mem_drop hx)
theorem bO{l}(h:Lb l)(i):l.getD i 0<4294967296:=by
 rw[List.getD_eq_getElem?_getD];cases hq:l[i]? with
 |none=>simp
 |some x=>exact h x (List.mem_of_getElem? hq)
theorem dZ(l r):ab (l++r)=ab l+4294967296^l.length*ab r:=by
 induction l with
 |nil=>simp[ab]
 |cons x l ih=>
  simp only[ayW,ab,ih,ayL,ayZ,Nat.mul_add];grind
theorem cI{l}(h:Lb l):ab l<4294967296^l.length:=by
 induction l with
 |nil=>simp[ab]
 |cons x l ih=>
  obtain⟨h1,h2⟩:=iT.1 h;grind[ab,ayL,ayZ]
theorem cT(k n):(dE k n).length=k:=by
 induction k generalizing n with
 |zero=>rfl
 |succ k ih=>grind[dE]
theorem oM(k n):Lb (dE k n):=by
 induction k generalizing n with
 |zero=>exact JU
 |succ k ih=>exact iT.2 ⟨by omega,ih _⟩
theorem lP(k n):ab (dE k n)=n%4294967296^k:=by
 induction k generalizing n with
 |zero=>simp[dE,ab,Nat.mod_one]
 |succ k ih=>
  rw[dE,ab,ih,ayZ,ayy (4294967296^k),Nat.mod_mul]
theorem HO{l}(h:Lb l):dE l.length (ab l)=l:=by
 induction l with
 |nil=>rfl
 |cons x l ih=>
  obtain⟨h1,h2⟩:=iT.1 h;grind[ayL,dE,ab]
theorem Sr(n):ab (aya n 0)=0:=by
 induction n with
 |zero=>rfl
 |succ n ih=>simp[List.replicate_succ,ab,ih]
def mJ(m:List Nat):Nat->Nat
 |0=>0
 |n+1=>if m.getD n 0=0 then mJ m n else n+1
theorem Eg(m):∀n,mJ m n<=n
 |0=>ayd _
 |n+1=>by
  unfold mJ;have:=Eg m n;split<;>omega
theorem Zt(m):∀n,mJ m n=0\/m.getD (mJ m n-1) 0≠0
 |0=>.inl rfl
 |n+1=>by
  unfold mJ;split
  ·exact Zt m n
  ·rename_i h;exact .inr h
theorem VG(m):∀n i,mJ m n<=i->i<n->m.getD i 0=0
 |0,i,_,h=>by omega
 |n+1,i,h1,h2=>by
  unfold mJ at h1;split at h1
  ·rename_i h;by_cases e:i=n
   ·rw[e];exact h
   ·exact VG m n i h1 ω
  ·omega
def BN(m:List Nat):Prop:=m=[]\/m.getD (m.length-1) 0≠0
theorem Qd(x)(l)(i):(x::l).getD (i+1) 0=l.getD i 0:=γ
theorem OR{x}{l}(h:BN (x::l)):BN l:=by
 rcases h with h|h
 ·grind
 ·cases l with
  |nil=>exact .inl rfl
  |cons y l=>
   refine .inr ?_;grind
theorem JV{l}(h:BN l)(hne:l≠[]):ab l≠0:=by
 induction l with
 |nil=>grind
 |cons x l ih=>
  cases l with
  |nil=>
   rcases h with h|h
   all_goals grind[ab]
  |cons y l=>
   grind[OR,ab]
theorem GM{l}(h1:Lb l)(h2:BN l):av (ab l)=l:=by
 induction l with
 |nil=>exact ft
 |cons x l ih=>
  obtain⟨h3,h4⟩:=iT.1 h1;grind[re,JV,ab,OR]
theorem JW(n):BN (av n):=by
 induction n using Nat.strongRecOn with
 |ind n ih=>
  by_cases h:n=0
  ·subst h;rw[ft];exact .inl rfl
  ·refine .inr ?_;rcases ih (n/4294967296) ω with h2|h2
   all_goals grind[av,ayL,Nat.add_sub_cancel,Qd]
theorem VH(m):ab (m.take (mJ m m.length))=ab m:=by
 have h:m=m.take (mJ m m.length)++m.drop (mJ m m.length):=(List.take_append_drop _ _).symm;have hz:m.drop (mJ m m.length)=aya (m.length-mJ m m.length) 0:=by
  rw[List.eq_replicate_iff];refine⟨by simp,fun x hx=>?_⟩;obtain⟨i,hi⟩:=List.getElem?_of_mem hx;rw[List.getElem?_drop]at hi;have hl:=(List.getElem?_eq_some_iff.1 hi).1;have:=VG m m.length (mJ m m.length+i) ω hl;grind
 grind[dZ,Sr]
theorem Qe(m:List Nat):BN (m.take (mJ m m.length)):=by
 rcases Zt m m.length with h|h
 ·rw[h];exact .inl rfl
 ·by_cases h0:mJ m m.length=0
  ·rw[h0];exact .inl rfl
  ·refine .inr ?_;grind
theorem M6{m}(h:Lb m):m.take (mJ m m.length)=av (ab m):=by
 rw[←GM (fj h _) (Qe m),VH]
theorem jR{n k}(h:n<4294967296^k):(av n).length<=k:=by
 induction k generalizing n with
 |zero=>
  grind[ft]
 |succ k ih=>
  grind[re,ayL,ayZ,Nat.div_lt_of_lt_mul,ayy]
theorem gA(n):n<4294967296^ (av n).length:=by
 grind[cI,bc,aN]
theorem Ss{n}(h:n≠0):4294967296^ ((av n).length-1)<=n:=by
 induction n using Nat.strongRecOn with
 |ind n ih=>
  grind[av,Nat.succ_pred_eq_of_pos,Nat.add_sub_cancel,ayZ]
def tz(n:Nat):Nat:=if h:n=0 then 0 else if n%2=1 then 0 else tz (n/2)+1
termination_by n
decreasing_by omega
theorem xu{n}(h:n%2=1):tz n=0:=by
 rw[tz,dif_neg ω,if_pos h]
theorem ad1{n}(h:n≠0):tz (2*n)=tz n+1:=by
 rw[tz,dif_neg ω,if_neg ω,Nat.mul_div_cancel_left n δ]
theorem JX{n}(k)(h:n≠0):tz (2^k*n)=k+tz n:=by
 induction k with
 |zero=>rw[Nat.pow_zero,Nat.one_mul,ayc]
 |succ k ih=>
  grind[ayZ,ayy,ayD,ad1,Nat.mul_ne_zero,Nat.ne_of_gt,ayr]
theorem tC{n}(h:n≠0):n=2^tz n*(n/2^tz n)/\n/2^tz n%2=1:=by
 induction n using Nat.strongRecOn with
 |ind n ih=>
  by_cases h1:n%2=1
  ·simp_all[xu,Nat.pow_zero,Nat.div_one,Nat.one_mul]
  ·have hn:n=2*(n/2):=ω
   grind[tz,ayZ,ayy,Nat.div_div_eq_div_mul,ayD]
theorem amh{x k}(y)(h:x≠0)(hx:x<2^k):tz (x+2^k*y)=tz x:=by
 obtain⟨e1,e2⟩:=tC h;generalize x/2^tz x=q at e1 e2;have hle:2^tz x<=x:=by
  conv=>rhs;rw[e1]
  exact Nat.le_mul_of_pos_right _ ω
 have hk:=(Nat.pow_lt_pow_iff_right δ).1 (ayS hle hx);generalize hz:2^ (k-tz x-1)*y=z;have e3:x+2^k*y=2^tz x*(q+2*z):=by
  have e4:2^k=2^tz x*(2*2^ (k-tz x-1)):=by
   rw[←Nat.pow_succ',←ayn];grind
  grind
 have e5:(q+2*z) %2=1:=ω
 rw[e3,JX _ ω,xu e5,ayF]
theorem Ul{x k}(h:x≠0)(hx:x<2^k):tz x<k:=by
 obtain⟨e1,e2⟩:=tC h;generalize x/2^tz x=q at e1 e2;have hle:2^tz x<=x:=by
  conv=>rhs;rw[e1]
  exact Nat.le_mul_of_pos_right _ ω
 exact(Nat.pow_lt_pow_iff_right δ).1 (ayS hle hx)
def Su:Nat->Nat->Nat
 |0,_=>0
 |k+1,n=>if n%2=1 then 0 else Su k (n/2)+1
theorem ami:∀k x,x≠0->x<2^k->Su k x=tz x:=by
 intro k;induction k with
 |zero=>omega
 |succ k ih=>
  intro x h0 h1;unfold Su;by_cases h:x%2=1
  ·rw[if_pos h,xu h]
  ·have:=ad1 (n:=x/2) ω;grind
def tzF(zas:List AV)(hs:List Ob):Option (AV×List Ob):=match zas with
 |[.v (.int .u32 n)]=>if 0<n/\n<4294967296/\hs=[]then some (.v (.int .i64 (Su 32 n.toNat:Nat)),[])else none
 |_=>none
def Zu(k:Nat)(zas:List AV)(hs:List Ob):Option (AV×List Ob):=match zas,hs with
 |[.sl k0 (_::_),.rsl 1000 none k1 _ _],[.ar k2 rows]=>if k0=k/\k1=k/\k2=k then some (B false,[.ar k2 rows])else none
 |_,_=>none
def clF(zas:List AV)(hs:List Ob):Option (AV×List Ob):=match zas,hs with
 |[.sl 1 []],[]=>some (.sl 1 [],[])
 |[.sl 1 (r::rs)],[]=>if(rs.length+1)*8<=140737488355328 then some (.osl 1 (r::rs),[])else none
 |_,_=>none
def VJ(k bytes:Nat)(zas:List AV)(hs:List Ob):Option (AV×List Ob):=match zas,hs with
 |[.emp,.v (.int .i64 0),.sl k0 [r]],[]=>if k0=k then some (.osl k [r],[])else none
 |[.rsl 1000 none k1 0 n,.v (.int .i64 i),.sl k0 [r]],[.ar k2 rows]=>
  if k0=k/\k1=k/\k2=k/\n=rows.length/\0<=i/\i<=n/\(n+1)*bytes<=140737488355328 then some (.osl k (rows.take i.toNat++r::rows.drop i.toNat),[.dead])else none
 |_,_=>none
def Um:List (Nat× (List AV->List Ob->Option (AV×List Ob))):=[(fai,tzF),(fdY,Zu 4)]
def amj:List (Nat× (List AV->List Ob->Option (AV×List Ob))):=(fdF,clF)::(fdW,VJ 4 64)::Um
noncomputable def cK:Env:=⟨fun f=>amj.lookup f,fun f=>aiW.lookup f,⟨fun f=>(mdL.lookup f).getD [],fun f=>(shL.lookup f).getD [],fun f=>keepL.contains f,false⟩⟩
noncomputable def az (b:Bool):Mode:={cK.md with nm:=b}
noncomputable def R:iG:=kj cK
theorem OS{f:FuncId}{fd:FD}{args:List AV}{hs:List Ob}{r:AV×List Ob}(b:Bool)(hE:cK.E f=none)(hC:cK.C f=some fd)(hk:cK.md.keep f=b)(h1:args.length=fd.np)(h2:hs.length<=1000)
  (hz:ip b fd.rs fd.res hs.length (aj R (az b) fd.body (uw args) (aq hs))=some r):R f args hs=some r:=by
 refine Sj hE hC ?_;unfold abV;rw[if_pos ⟨h1,h2⟩];subst hk;exact hz
@[go_sem] theorem axw(b:Bool):(az b).nm=b:=θ _
abbrev MD(f:FuncId):Prop:=∀ (b:Bool) (h:ac) (d:Nat) (zas:List AV),bF R (az b) h d zas (.fn f [] [])=(bS h [] zas).bind (Hz R (az b) d f)
abbrev Ft(f:FuncId)(l:List (List Sh)):Prop:=∀b:Bool,(az b).sh f=l
abbrev Fu(f:FuncId)(l:List Nat):Prop:=∀b:Bool,(az b).m f=l
abbrev Fv(f:FuncId)(l:Bool):Prop:=∀b:Bool,(az b).keep f=l
theorem Eh{f:FuncId}{l:List (List Sh)}(h:cK.md.sh f=l):Ft f l:=fun _=>h
theorem Ei{f:FuncId}{l:List Nat}(h:cK.md.m f=l):Fu f l:=fun _=>h
theorem Ej{f:FuncId}{l:Bool}(h:cK.md.keep f=l):Fv f l:=fun _=>h
theorem HP{f:FuncId}(hm:∀b,(az b).m f=[]):MD f:=fun b _ d _=>HA d (hm b)
abbrev QL(f:FuncId)(l:List (List Sh)):Prop:=Ft f l/\Fu f []/\MD f/\Fv f false
abbrev QE(f:FuncId)(l:List (List Sh))(fd:FD):Prop:=QL f l/\cK.E f=none/\cK.C f=some fd
theorem ql{f:FuncId}{l:List (List Sh)}(h:(cK.md.sh f,cK.md.m f,cK.md.keep f)=(l,[],false)):QL f l:=by
 simp only[Prod.mk.injEq]at h;exact⟨fun _=>h.1,fun _=>h.2.1,HP fun _=>h.2.1,fun _=>h.2.2⟩
theorem qe{f:FuncId}{l:List (List Sh)}{fd:FD}(h:(cK.md.sh f,cK.md.m f,cK.md.keep f,cK.E f,cK.C f)=(l,[],false,none,some fd)):QE f l fd:=by
 simp only[Prod.mk.injEq]at h;exact⟨⟨fun _=>h.1,fun _=>h.2.1,HP fun _=>h.2.1,fun _=>h.2.2.1⟩,h.2.2.2⟩
@[go_sem] theorem aDv:QE fbu [[.o 8 aC,.o 0 [],.o 0 []],[.o 0 [],.o 5 [.o 2 [],.o 0 [],.o 2 [],.o 0 []],.o 0 [],.o 2 [],.o 0 [],.o 0 [],.o 2 [],.o 0 [],.o 0 []],[.o 0 [],.o 5 [.o 2 [],.o 0 [],.o 2 [],.o 0 []],.o 0 [],.o 2 [],.o 0 [],.o 0 [],.o 2 [],.o 0 [],.o 0 []],[.o 4 aF],aF,aF,aC] aBb:=qe κ
@[go_sem] theorem YE:QE fbw [] DP:=qe κ
@[go_sem] theorem YF:QE fbx [[.o 8 aC,.o 0 [],.o 0 []],[.o 10 [.o 0 [],.o 5 [],.o 0 [],.o 2 [],.o 0 [],.o 0 [],.o 2 [],.o 0 [],.o 0 []]]] kS:=qe κ
@[go_sem] theorem aBu:QE fbC [[.o 8 aC,.o 0 [],.o 0 []],[.o 0 [],.o 5 [.o 2 [],.o 0 [],.o 2 [],.o 0 []],.o 0 [],.o 2 [],.o 0 [],.o 0 [],.o 2 [],.o 0 [],.o 0 []],[.o 0 [],.o 5 [.o 2 [],.o 0 [],.o 2 [],.o 0 []],.o 0 [],.o 2 [],.o 0 [],.o 0 [],.o 2 [],.o 0 [],.o 0 []]] aAj:=qe κ
@[go_sem] theorem aps:QE fco [[.o 0 [],.o 5 [.o 2 [],.o 0 [],.o 2 [],.o 0 []]],[.o 0 [],.o 5 [.o 2 [],.o 0 [],.o 2 [],.o 0 []]]] Yv:=qe κ
@[go_sem] theorem LR:QE fa8 [aC,aC] dX:=qe κ
@[go_sem] theorem aBh:QE fbD [[.o 8 aC,.o 0 [],.o 0 []],[.o 0 [],.o 5 [.o 2 [],.o 0 [],.o 2 [],.o 0 []],.o 0 [],.o 2 [],.o 0 [],.o 0 [],.o 2 [],.o 0 [],.o 0 []],[.o 0 [],.o 5 [.o 2 [],.o 0 [],.o 2 [],.o 0 []],.o 0 [],.o 2 [],.o 0 [],.o 0 [],.o 2 [],.o 0 [],.o 0 []],[.o 4 aF],aF,aF] aAp:=qe κ
@[go_sem] theorem aBi:QE fdc [[.o 8 aC,.o 0 [],.o 0 []],[.o 4 aF]] az5:=qe κ
@[go_sem] theorem Qg:QE fa6 [aC,aF] jn:=qe κ
@[go_sem] theorem aC0:QE fdg [[.o 0 [],.o 5 [.o 2 [],.o 0 [],.o 2 [],.o 0 []],.o 0 [],.o 2 [],.o 0 [],.o 0 [],.o 2 [],.o 0 [],.o 0 []],[.o 4 aF],aF] aBq:=qe κ
@[go_sem] theorem aCG:QE fdb [[.o 0 [],.o 5 [.o 2 [],.o 0 [],.o 2 [],.o 0 []],.o 0 [],.o 2 [],.o 0 [],.o 0 [],.o 2 [],.o 0 [],.o 0 []],[.o 4 aF],aF] aAO:=qe κ
@[go_sem] theorem Zv:QE fbB [] HD:=qe κ
@[go_sem] theorem wS:QE fdI [[.o 2 [.o 5 [.o 2 [],.o 0 [],.o 2 [],.o 0 []]]]] gF:=qe κ
@[go_sem] theorem acd:QE fci [[.o 0 [],.o 5 [.o 2 [],.o 0 [],.o 2 [],.o 0 []]],[.o 0 [],.o 5 [.o 2 [],.o 0 [],.o 2 [],.o 0 []]]] BF:=qe κ
@[go_sem] theorem ME:QE fbE [[.o 8 aC,.o 0 [],.o 0 []],[.o 0 [],.o 5 [.o 2 [],.o 0 [],.o 2 [],.o 0 []],.o 0 [],.o 2 [],.o 0 [],.o 0 [],.o 2 [],.o 0 [],.o 0 []],[.o 0 [],.o 5 [.o 2 [],.o 0 [],.o 2 [],.o 0 []],.o 0 [],.o 2 [],.o 0 [],.o 0 [],.o 2 [],.o 0 [],.o 0 []]] uE:=qe κ
@[go_sem] theorem YG:QE fbI [[.o 8 aC,.o 0 [],.o 0 []],[.o 0 [],.o 5 [.o 2 [],.o 0 [],.o 2 [],.o 0 []],.o 0 [],.o 2 [],.o 0 [],.o 0 [],.o 2 [],.o 0 [],.o 0 []],[.o 0 [],.o 5 [.o 2 [],.o 0 [],.o 2 [],.o 0 []],.o 0 [],.o 2 [],.o 0 [],.o 0 [],.o 2 [],.o 0 [],.o 0 []]] DQ:=qe κ
@[go_sem] theorem TD:QE fcj [[.o 0 [],.o 5 [.o 2 [],.o 0 [],.o 2 [],.o 0 []]]] qF:=qe κ
@[go_sem] theorem acf:QE fck [[.o 0 [],.o 5 [.o 2 [],.o 0 [],.o 2 [],.o 0 []]],[.o 0 [],.o 5 [.o 2 [],.o 0 [],.o 2 [],.o 0 []]]] pT:=qe κ
@[go_sem] theorem MF:QE fbF [[.o 8 aC,.o 0 [],.o 0 []],[.o 0 [],.o 5 [.o 2 [],.o 0 [],.o 2 [],.o 0 []],.o 0 [],.o 2 [],.o 0 [],.o 0 [],.o 2 [],.o 0 [],.o 0 []],[.o 0 [],.o 5 [.o 2 [],.o 0 [],.o 2 [],.o 0 []],.o 0 [],.o 2 [],.o 0 [],.o 0 [],.o 2 [],.o 0 [],.o 0 []]] uF:=qe κ
@[go_sem] theorem ad4:QE fcE [] HG:=qe κ
@[go_sem] theorem aBK:QE fcF [aF,aF] az6:=qe κ
@[go_sem] theorem Ya:QL fdF [[.o 2 []]]:=ql κ
@[go_sem] theorem aBv:QE fc6 [[.o 0 [],.o 5 [.o 2 [],.o 0 [],.o 2 [],.o 0 []]],[.o 4 aF]] azU:=qe κ
@[go_sem] theorem aBL:QE fcB [aF,aF] az7:=qe κ
@[go_sem] theorem aBM:QE fcK [aF,aF] az9:=qe κ
@[go_sem] theorem ad5:QE fcD [aF,aF] kJ:=qe κ
@[go_sem] theorem TE:QE fbH [[.o 8 aC,.o 0 [],.o 0 []],[.o 0 [],.o 5 [.o 2 [],.o 0 [],.o 2 [],.o 0 []],.o 0 [],.o 2 [],.o 0 [],.o 0 [],.o 2 [],.o 0 [],.o 0 []],aC] AE:=qe κ
@[go_sem] theorem M8:QE fbj [aC] gR:=qe κ
@[go_sem] theorem Qh:QE fbb [aC,[]] gY:=qe κ
@[go_sem] theorem amk:QE fcm [[.o 0 [],.o 5 [.o 2 [],.o 0 [],.o 2 [],.o 0 []]],aF] Tm:=qe κ
@[go_sem] theorem Qi:QE fbi [aC,aC,[]] zp:=qe κ
@[go_sem] theorem M9:QE fbf [aF] wH:=qe κ
@[go_sem] theorem bT:QE fdM [[.o 5 [.o 2 [],.o 0 [],.o 2 [],.o 0 []]],[]] jf:=qe κ
theorem aDp:cK.C fbv=some aCn:=by kernel_rfl
theorem aDq:cK.E fbv=none:=by kernel_rfl
@[go_sem] theorem aDi:Ft fbv [[.o 0 [],.o 5 [.o 2 [],.o 0 [],.o 2 [],.o 0 []],.o 0 [],.o 2 [],.o 0 [],.o 0 [],.o 2 [],.o 0 [],.o 0 []],aF,[]]:=Eh κ
@[go_sem] theorem aDc:Fu fbv []:=Ei κ
@[go_sem] theorem aD0:MD fbv:=HP aDc
@[go_sem] theorem aC6:Fv fbv true:=Ej κ
@[go_sem] theorem YH:QE fbG [[.o 8 aC,.o 0 [],.o 0 []],[.o 0 [],.o 5 [.o 2 [],.o 0 [],.o 2 [],.o 0 []],.o 0 [],.o 2 [],.o 0 [],.o 0 [],.o 2 [],.o 0 [],.o 0 []]] DS:=qe κ
@[go_sem] theorem ad8:QE fcG [aF] C8:=qe κ
@[go_sem] theorem aQ:QE fdK [[.o 8 aC],[]] fT:=qe κ
@[go_sem] theorem Qj:QE fbe [aC] tQ:=qe κ
@[go_sem] theorem Na:QE fa5 [aC,aC] qj:=qe κ
@[go_sem] theorem Nb:QE fbl [] wI:=qe κ
@[go_sem] theorem VM:QE fak [[.o 0 [],.o 5 [.o 2 [],.o 0 [],.o 2 [],.o 0 []]],[.o 8 aC],[]] sC:=qe κ
@[go_sem] theorem YI:QE fdf [[.o 8 aC,.o 0 [],.o 0 []],[.o 0 [],.o 5 [.o 2 [],.o 0 [],.o 2 [],.o 0 []],.o 0 [],.o 2 [],.o 0 [],.o 0 [],.o 2 [],.o 0 [],.o 0 []]] kT:=qe κ
@[go_sem] theorem Qk:QE fa4 [aC,aC,[]] lu:=qe κ
@[go_sem] theorem JY:QE fbK [[.o 8 aC,.o 0 [],.o 0 []]] dG:=qe κ
@[go_sem] theorem YJ:QE fdd [[.o 8 aC,.o 0 [],.o 0 []]] kU:=qe κ
@[go_sem] theorem TH:QE fbJ [[.o 8 aC,.o 0 [],.o 0 []],[.o 0 [],.o 5 [.o 2 [],.o 0 [],.o 2 [],.o 0 []],.o 0 [],.o 2 [],.o 0 [],.o 0 [],.o 2 [],.o 0 [],.o 0 []]] iQ:=qe κ
@[go_sem] theorem YK:QE fbN [[.o 8 aC,.o 0 [],.o 0 []],[]] qH:=qe κ
@[go_sem] theorem acg:QE fcr [] tr:=qe κ
@[go_sem] theorem ach:QE fde [] F4:=qe κ
@[go_sem] theorem CP:QE fby [aC] vJ:=qe κ
@[go_sem] theorem aY:QE fdL [[.o 10 [.o 0 [],.o 5 [],.o 0 [],.o 2 [],.o 0 [],.o 0 [],.o 2 [],.o 0 [],.o 0 []]],[]] iH:=qe κ
theorem TJ:cK.C fbz=some qJ:=by kernel_rfl
theorem TK:cK.E fbz=none:=by kernel_rfl
@[go_sem] theorem Ql:Ft fbz [[.o 0 [],.o 5 [.o 2 [],.o 0 [],.o 2 [],.o 0 []],.o 0 [],.o 2 [],.o 0 [],.o 0 [],.o 2 [],.o 0 [],.o 0 []]]:=Eh κ
@[go_sem] theorem IY:Fu fbz []:=Ei κ
@[go_sem] theorem ag7:MD fbz:=HP IY
@[go_sem] theorem Ek:Fv fbz true:=Ej κ
@[go_sem] theorem Fw:QE fbA [[.o 2 [],.o 0 [],.o 2 [],.o 0 []]] xT:=qe κ
@[go_sem] theorem TL:QE fbP [[.o 8 aC,.o 0 [],.o 0 []],[.o 10 [.o 0 [],.o 5 [],.o 0 [],.o 2 [],.o 0 [],.o 0 [],.o 2 [],.o 0 [],.o 0 []]]] vK:=qe κ
@[go_sem] theorem Qm:QE fa3 [aC,aC,[]] po:=qe κ
@[go_sem] theorem Qn:QE fbT [[.o 0 [],.o 5 [.o 2 [],.o 0 [],.o 2 [],.o 0 []]],[.o 8 aC],[]] tT:=qe κ
@[go_sem] theorem YL:QE fcz [[.o 0 [],.o 5 [.o 2 [],.o 0 [],.o 2 [],.o 0 []]],[.o 0 [],.o 5 [.o 2 [],.o 0 [],.o 2 [],.o 0 []]]] uH:=qe κ
@[go_sem] theorem VO:QE faM [aF] sE:=qe κ
@[go_sem] theorem VP:QE faI [aF,aF] jN:=qe κ
@[go_sem] theorem aBN:QE fcZ [aC,aF] azR:=qe κ
@[go_sem] theorem Qo:QE faR [aF] gZ:=qe κ
@[go_sem] theorem nK:QE fdP [] eS:=qe κ
@[go_sem] theorem VQ:QE fcx [] IC:=qe κ
@[go_sem] theorem aS:QE fcs [[],[.o 2 []],aF] fV:=qe κ
@[go_sem] theorem br:QE fcu [] fC:=qe κ
@[go_sem] theorem VR:QE fbS [[.o 8 aC,.o 0 [],.o 0 []]] CB:=qe κ
@[go_sem] theorem VU:QE fbR [[.o 8 aC,.o 0 [],.o 0 []],[.o 0 [],.o 5 [.o 2 [],.o 0 [],.o 2 [],.o 0 []]],[],aC] sF:=qe κ
@[go_sem] theorem VV:QE fcp [[.o 0 [],.o 5 [.o 2 [],.o 0 [],.o 2 [],.o 0 []]]] lM:=qe κ
@[go_sem] theorem TM:QE fcw [[.o 2 []]] AJ:=qe κ
@[go_sem] theorem VW:QE faL [aF,aF] iw:=qe κ
@[go_sem] theorem YM:QE fbU [[],aC,[.o 8 aC]] DV:=qe κ
@[go_sem] theorem Qp:QE fbd [aC,aC,[]] pp:=qe κ
@[go_sem] theorem TN:QE fbV [] AK:=qe κ
@[go_sem] theorem VX:QE faJ [] xH:=qe κ
@[go_sem] theorem TO:QE faO [aF] mQ:=qe κ
@[go_sem] theorem ag8:QE fcH [[],[.o 2 []],[]] Fe:=qe κ
@[go_sem] theorem YN:QE fcN [aF] gh:=qe κ
@[go_sem] theorem aA0:QE fcC [aF] azS:=qe κ
@[go_sem] theorem aA1:QE fcI [aF,aF] aAh:=qe κ
@[go_sem] theorem YO:QE fc7 [[.o 0 [],.o 5 [.o 2 [],.o 0 [],.o 2 [],.o 0 []]]] nj:=qe κ
@[go_sem] theorem aBj:QE fda [aF,aF,[]] aAq:=qe κ
@[go_sem] theorem ad9:QE fcL [aF,aF] rL:=qe κ
@[go_sem] theorem acj:QE fcJ [aF] xf:=qe κ
@[go_sem] theorem aea:QE fcM [aF] Db:=qe κ
@[go_sem] theorem VY:QE fcn [[.o 0 [],.o 5 [.o 2 [],.o 0 [],.o 2 [],.o 0 []]],[]] xI:=qe κ
@[go_sem] theorem VZ:QE fcl [[.o 0 [],.o 5 [.o 2 [],.o 0 [],.o 2 [],.o 0 []]],[]] oH:=qe κ
@[go_sem] theorem JZ:QE fbk [aF] ie:=qe κ
@[go_sem] theorem Nc:QE fbo [[.o 8 aC]] qk:=qe κ
@[go_sem] theorem HQ:QE fbs [] lw:=qe κ
@[go_sem] theorem OT:QE fdh [aF,aF,[]] xV:=qe κ
@[go_sem] theorem Qq:QE faN [aF,[]] zC:=qe κ
@[go_sem] theorem cp:QE fdT [[.o 5 [.o 2 [],.o 0 [],.o 2 [],.o 0 []]],[]] jY:=qe κ
@[go_sem] theorem aK:QE fdR [[.o 8 aC],[]] gM:=qe κ
@[go_sem] theorem V0:QE fap [[.o 0 [],.o 5 [.o 2 [],.o 0 [],.o 2 [],.o 0 []]],[.o 8 aC],[]] sH:=qe κ
@[go_sem] theorem TP:QE faC [] AL:=qe κ
@[go_sem] theorem OU:QE fba [aC,aC] go:=qe κ
@[go_sem] theorem TQ:QE fam [[.o 0 [],.o 5 [.o 2 [],.o 0 [],.o 2 [],.o 0 []]],[.o 8 aC],[]] vO:=qe κ
@[go_sem] theorem jJ:QE faj [[.o 0 [],.o 5 [.o 2 [],.o 0 [],.o 2 [],.o 0 []]],[.o 8 aC],[]] gr:=qe κ
@[go_sem] theorem V1:QE fc5 [[.o 0 [],.o 5 [.o 2 [],.o 0 [],.o 2 [],.o 0 []]]] sJ:=qe κ
@[go_sem] theorem YP:QE fc2 [aC] nu:=qe κ
@[go_sem] theorem ag9:QE fcX [aF,[]] B4:=qe κ
@[go_sem] theorem OV:QE fbh [aC] nv:=qe κ
@[go_sem] theorem OW:QE fbn [aC,aC,[],[],[]] xW:=qe κ
@[go_sem] theorem pE:QE fdj [aF,aF,[]] xX:=qe κ
@[go_sem] theorem s6:QE fdk [aF,aF,[]] AN:=qe κ
theorem HR:cK.C fbL=some qL:=by kernel_rfl
theorem HS:cK.E fbL=none:=by kernel_rfl
@[go_sem] theorem Zw:Ft fbL [aC]:=Eh κ
@[go_sem] theorem Af:Fu fbL []:=Ei κ
@[go_sem] theorem Yb:MD fbL:=HP Af
@[go_sem] theorem wB:Fv fbL true:=Ej κ
@[go_sem] theorem ack:QE fc1 [] BK:=qe κ
@[go_sem] theorem V3:QE fc0 [aC,aC] jO:=qe κ
theorem OX:cK.C fbM=some xY:=by kernel_rfl
theorem OY:cK.E fbM=none:=by kernel_rfl
@[go_sem] theorem Nd:Ft fbM [[.o 2 [],.o 0 [],.o 2 [],.o 0 []]]:=Eh κ
@[go_sem] theorem Fx:Fu fbM []:=Ei κ
@[go_sem] theorem aeb:MD fbM:=HP Fx
@[go_sem] theorem B9:Fv fbM true:=Ej κ
@[go_sem] theorem acl:QE fdm [aF,[]] xg:=qe κ
@[go_sem] theorem bX:QE fdS [[.o 10 [.o 0 [],.o 5 [],.o 0 [],.o 2 [],.o 0 [],.o 0 [],.o 2 [],.o 0 [],.o 0 []]],[]] ju:=qe κ
theorem OZ:cK.C fbQ=some xZ:=by kernel_rfl
theorem O0:cK.E fbQ=none:=by kernel_rfl
@[go_sem] theorem Nf:Ft fbQ [[.o 0 [],.o 5 [.o 2 [],.o 0 [],.o 2 [],.o 0 []],.o 0 [],.o 2 [],.o 0 [],.o 0 [],.o 2 [],.o 0 [],.o 0 []]]:=Eh κ
@[go_sem] theorem Fy:Fu fbQ []:=Ei κ
@[go_sem] theorem aec:MD fbQ:=HP Fy
@[go_sem] theorem Ca:Fv fbQ true:=Ej κ
@[go_sem] theorem TR:QE fdi [aF,aF,[]] AO:=qe κ
@[go_sem] theorem O1:QE fbq [aF,[],aF,[]] nD:=qe κ
@[go_sem] theorem Ar:QE fdG [[.o 2 []]] jv:=qe κ
@[go_sem] theorem Ng:QE faU [aF,aF] lW:=qe κ
@[go_sem] theorem Nh:QE faW [aF] gS:=qe κ
theorem mW:cK.C fdD=some dw:=by kernel_rfl
theorem mX:cK.E fdD=none:=by kernel_rfl
@[go_sem] theorem fN:Ft fdD [[.o 5 [.o 2 [],.o 0 [],.o 2 [],.o 0 []]],[.o 2 []],[]]:=Eh κ
@[go_sem] theorem fX:Fu fdD [3,0,0]:=Ei κ
@[go_sem] theorem fA:Fv fdD false:=Ej κ
@[go_sem] theorem Gg:QE fct [[.o 2 [],.o 0 [],.o 2 [],.o 0 []],[.o 2 []]] oB:=qe κ
@[go_sem] theorem V4:QE fcy [[.o 2 []],[.o 2 []]] xJ:=qe κ
@[go_sem] theorem lB:Ft fdW [[],[],[.o 5 [.o 2 [],.o 0 [],.o 2 [],.o 0 []]]]:=Eh κ
@[go_sem] theorem l9:Fu fdW [2,0,0]:=Ei κ
@[go_sem] theorem kF:Fv fdW false:=Ej κ
@[go_sem] theorem TS:QE fcv [aF] AP:=qe κ
@[go_sem] theorem V5:QE faG [aF,aF] sM:=qe κ
theorem wT:cK.C fdO=some gH:=by kernel_rfl
theorem wU:cK.E fdO=none:=by kernel_rfl
@[go_sem] theorem wl:Ft fdO []:=Eh κ
@[go_sem] theorem wV:Fu fdO [2,0,0]:=Ei κ
@[go_sem] theorem kG:Fv fdO false:=Ej κ
@[go_sem] theorem TT:QE fc4 [[.o 2 []],[.o 2 []]] mS:=qe κ
@[go_sem] theorem YQ:QE fbO [[.o 8 aC,.o 0 [],.o 0 []],[.o 0 [],.o 5 [.o 2 [],.o 0 [],.o 2 [],.o 0 []]]] zH:=qe κ
@[go_sem] theorem jA:QE fdN [[.o 2 []],[]] n9:=qe κ
@[go_sem] theorem GN:QE fcq [] tW:=qe κ
@[go_sem] theorem TU:QE faZ [[.o 2 []]] AR:=qe κ
@[go_sem] theorem TV:QE fb0 [[.o 2 []],[.o 2 []]] vP:=qe κ
@[go_sem] theorem Ni:QE faT [aF] qp:=qe κ
@[go_sem] theorem J0:QE faS [[],[.o 2 []],[]] nY:=qe κ
@[go_sem] theorem pF:QE fdn [aF,aF,[]] yb:=qe κ
@[go_sem] theorem s7:QE fdo [aF,aF,[]] AS:=qe κ
@[go_sem] theorem acm:QE fcV [[.o 2 []]] F6:=qe κ
@[go_sem] theorem YR:QE fcW [[.o 2 []]] D0:=qe κ
@[go_sem] theorem YS:QE fcT [[.o 2 []],[]] zK:=qe κ
@[go_sem] theorem acn:QE fcO [[.o 2 []]] BL:=qe κ
@[go_sem] theorem aBk:QE fcU [[.o 2 []],[.o 2 []]] aAr:=qe κ
@[go_sem] theorem aco:QE fc9 [[],[.o 2 [],.o 0 [],.o 2 [],.o 0 []]] pX:=qe κ
@[go_sem] theorem acp:QE fcQ [[.o 2 []],[]] F8:=qe κ
@[go_sem] theorem acq:QE fcS [[.o 2 []],[.o 2 []]] F9:=qe κ
@[go_sem] theorem TW:QE fcP [[.o 2 []],[.o 2 []]] vS:=qe κ
@[go_sem] theorem YT:QE fcR [[.o 2 []],[.o 2 []]] D3:=qe κ
@[go_sem] theorem V7:QE fdp [aF,[]] gx:=qe κ
@[go_sem] theorem V8:QE faP [aF,aF] sP:=qe κ
@[go_sem] theorem MG:QE fdr [aF,aF,[],[]] nE:=qe κ
@[go_sem] theorem LT:QE faV [] pu:=qe κ
@[go_sem] theorem Qs:QE fan [[.o 0 [],.o 5 [.o 2 [],.o 0 [],.o 2 [],.o 0 []]],[.o 8 aC]] px:=qe κ
@[go_sem] theorem O2:QE fbr [aF,aF] rP:=qe κ
@[go_sem] theorem O3:QE fbp [aF,aF] rQ:=qe κ
@[go_sem] theorem TY:QE faB [aC,[],[]] vU:=qe κ
@[go_sem] theorem Qt:QE fal [[.o 0 [],.o 5 [.o 2 [],.o 0 [],.o 2 [],.o 0 []]]] py:=qe κ
@[go_sem] theorem V9:QE faA [aF,aF,aC,[]] gy:=qe κ
@[go_sem] theorem A8:QE faq [[.o 0 [],.o 5 [.o 2 [],.o 0 [],.o 2 [],.o 0 []]],[]] zO:=qe κ
@[go_sem] theorem gV:QE fay [[],[],aC] uM:=qe κ
@[go_sem] theorem eB:QE fat [] oC:=qe κ
@[go_sem] theorem O4:QE fa7 [aC,aC] rR:=qe κ
@[go_sem] theorem aed:QE fc8 [[.o 2 []]] HL:=qe κ
@[go_sem] theorem acr:QE fc3 [aF] tw:=qe κ
@[go_sem] theorem acs:QE fcY [] BM:=qe κ
@[go_sem] theorem act:QE fcA [[.o 2 []]] Mz:=qe κ
@[go_sem] theorem YV:QE fdt [aF,aF,[],[]] qO:=qe κ
@[go_sem] theorem TZ:QE fdu [[],[.o 4 aF]] qQ:=qe κ
@[go_sem] theorem T0:QE faH [aF] vW:=qe κ
@[go_sem] theorem Wa:QE faQ [aF] sQ:=qe κ
@[go_sem] theorem T1:QE fbY [[.o 2 []],[.o 2 []]] qR:=qe κ
@[go_sem] theorem Nj:QE faY [[.o 2 []],[]] wK:=qe κ
@[go_sem] theorem J1:QE faD [] jZ:=qe κ
@[go_sem] theorem De:QE fdH [[.o 2 []],[.o 2 []]] iF:=qe κ
@[go_sem] theorem Wb:QE fa0 [aF,aF] lO:=qe κ
@[go_sem] theorem fg:QE fdU [[.o 2 []],[]] qT:=qe κ
@[go_sem] theorem Qu:QE fbX [[.o 2 []]] tY:=qe κ
@[go_sem] theorem Qv:QE fb9 [[.o 2 [.o 2 []]]] zW:=qe κ
@[go_sem] theorem Qw:QE fb7 [[.o 2 []]] tZ:=qe κ
@[go_sem] theorem T2:QE fcb [[.o 2 []],[.o 2 []]] AX:=qe κ
@[go_sem] theorem Qx:QE fch [[.o 2 []]] zX:=qe κ
@[go_sem] theorem Nk:QE fa1 [[.o 2 []]] wL:=qe κ
@[go_sem] theorem Wc:QE faX [[.o 2 []]] CG:=qe κ
@[go_sem] theorem T3:QE fb2 [[.o 2 []],[]] qU:=qe κ
@[go_sem] theorem A9:QE fdE [[.o 2 []]] jT:=qe κ
@[go_sem] theorem YW:QE fdv [aF,aF,[],[]] qW:=qe κ
@[go_sem] theorem Wd:QE fdl [aF,[]] CH:=qe κ
@[go_sem] theorem acu:QE fdq [aF,[]] Gb:=qe κ
@[go_sem] theorem T4:QE fdy [aF,[],[]] vX:=qe κ
@[go_sem] theorem YX:QE fdC [aF,aF,[]] uN:=qe κ
@[go_sem] theorem Qy:QE fdB [[],[.o 2 [],.o 0 [],.o 0 []],[],[]] pA:=qe κ
@[go_sem] theorem El:QE fao [aC] qu:=qe κ
@[go_sem] theorem Nl:QE fbg [aC,[],[]] fH:=qe κ
@[go_sem] theorem EZ:QE fdV [[.o 2 []],[]] nH:=qe κ
@[go_sem] theorem rg:QE fdX [[.o 8 aC],[]] eF:=qe κ
theorem LU:cK.C fax=some uP:=by kernel_rfl
theorem LV:cK.E fax=none:=by kernel_rfl
@[go_sem] theorem aee:Ft fax []:=Eh κ
@[go_sem] theorem me:Fu fax []:=Ei κ
@[go_sem] theorem acv:MD fax:=HP me
@[go_sem] theorem Ag:Fv fax true:=Ej κ
@[go_sem] theorem bA:QE fav [] nZ:=qe κ
@[go_sem] theorem eJ:QE faz [] rT:=qe κ
theorem Nm:cK.C fas=some wM:=by kernel_rfl
theorem Nn:cK.E fas=none:=by kernel_rfl
@[go_sem] theorem LW:Ft fas [[],aC,aC]:=Eh κ
@[go_sem] theorem yi:Fu fas []:=Ei κ
@[go_sem] theorem adk:MD fas:=HP yi
@[go_sem] theorem Av:Fv fas true:=Ej κ
theorem No:cK.C faw=some wN:=by kernel_rfl
theorem Np:cK.E faw=none:=by kernel_rfl
@[go_sem] theorem LX:Ft faw [[],aC,aC]:=Eh κ
@[go_sem] theorem yj:Fu faw []:=Ei κ
@[go_sem] theorem adl:MD faw:=HP yj
@[go_sem] theorem Aw:Fv faw true:=Ej κ
@[go_sem] theorem cZ:QE fau [] mD:=qe κ
@[go_sem] theorem Nq:QE fbZ [[.o 2 []],[.o 2 []]] wO:=qe κ
@[go_sem] theorem YY:QE fdz [[.o 2 []],[]] Ea:=qe κ
@[go_sem] theorem O5:QE fdx [] rU:=qe κ
@[go_sem] theorem T5:QE fb1 [[.o 2 []],[]] mT:=qe κ
@[go_sem] theorem Nr:QE faE [] wQ:=qe κ
@[go_sem] theorem T6:QE fbW [[.o 2 []],[.o 2 []]] vZ:=qe κ
@[go_sem] theorem T7:QE fb3 [[.o 2 []],[.o 2 []]] qZ:=qe κ
@[go_sem] theorem We:QE fad [] oJ:=qe κ
@[go_sem] theorem dH:QE fdJ [[.o 2 [.o 2 []]],[]] jQ:=qe κ
@[go_sem] theorem Em:QE fca [[.o 2 []]] wR:=qe κ
@[go_sem] theorem YZ:QL fai []:=ql κ
@[go_sem] theorem T8:QE fce [[.o 2 []],[]] v9:=qe κ
@[go_sem] theorem acw:QE fdw [aF] Gd:=qe κ
@[go_sem] theorem Y0:QE fdA [[.o 2 []],[]] zZ:=qe κ
@[go_sem] theorem Y3:QE fds [[.o 2 [],.o 0 [],.o 0 []],[],[]] uS:=qe κ
@[go_sem] theorem Qz:QE fa2 [aC] ud:=qe κ
@[go_sem] theorem GO:QE fbm [aF,[],[],[]] pB:=qe κ
@[go_sem] theorem acx:QE fae [] Gf:=qe κ
@[go_sem] theorem En:QE fb6 [[.o 2 []],[.o 2 []]] qx:=qe κ
@[go_sem] theorem T9:QE fcc [[.o 2 []],[]] AZ:=qe κ
@[go_sem] theorem Ua:QE fb4 [[.o 2 []],[.o 2 []]] wh:=qe κ
@[go_sem] theorem Ub:QE fcf [[.o 2 []],[.o 2 []]] A6:=qe κ
@[go_sem] theorem di:QE fdQ [[.o 2 [.o 2 []]],[]] kY:=qe κ
@[go_sem] theorem Uc:QE faK [[],[.o 2 []],[]] mU:=qe κ
@[go_sem] theorem QA:QE fbc [aC] ue:=qe κ
@[go_sem] theorem QB:QE fa9 [aC] Aa:=qe κ
@[go_sem] theorem Eo:QE fbt [aF,[],[],[],[]] qy:=qe κ
@[go_sem] theorem aml:QL faf []:=ql κ
@[go_sem] theorem Wf:QE fag [] CL:=qe κ
@[go_sem] theorem O6:QE fcd [[.o 2 []],[]] yf:=qe κ
@[go_sem] theorem GQ:QE fac [] pY:=qe κ
@[go_sem] theorem O7:QE fb8 [] rX:=qe κ
theorem QC:cK.C fcg=some Ad:=by kernel_rfl
theorem QD:cK.E fcg=none:=by kernel_rfl
@[go_sem] theorem O8:Ft fcg [[.o 2 []],[.o 2 []],[]]:=Eh κ
@[go_sem] theorem QF:Fu fcg [1,0,0]:=Ei κ
@[go_sem] theorem CZ:Fv fcg false:=Ej κ
@[go_sem] theorem Wg:QE faa [] CM:=qe κ
@[go_sem] theorem Wh:QE fah [] CN:=qe κ
@[go_sem] theorem Wi:QE faF [aF] sW:=qe κ
@[go_sem] theorem Wj:QE fab [] CO:=qe κ
@[go_sem] theorem O9:QE fb5 [] yg:=qe κ
attribute [go_sem_proc ↓] reduceIte
attribute [go_sem_proc] Nat.reduceEqDiff Nat.reduceMul Nat.reduceAdd Nat.reduceLeDiff Nat.reduceLT Nat.reduceBEq
end Go.Ab
