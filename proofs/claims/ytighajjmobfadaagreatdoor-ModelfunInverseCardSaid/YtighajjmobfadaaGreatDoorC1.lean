/-
  A law of tapes on models holds at every input that the statement speaks of, under the conditions that its card names. Part C1.
-/
import Derived.Test.YtighajjmobfadaaGreatDoorProg
import Derived.KernelRfl
import Derived.Test.YtighajjmobfadaaGreatDoorB1
open Nat renaming add_zero → aDm, le_refl → aCJ, lt_of_le_of_lt → aDe, mul_assoc → aC9, mul_comm → aC6, pow_add → aCU, pow_succ → aDw, two_pow_pos → aC1, zero_add → aCI
open List renaming cons_append → aDd, length_cons → aDp, replicate → aCG
set_option linter.all false
namespace Go.Ab
open Go
open Go.Proofs
set_option maxRecDepth 100000
set_option maxHeartbeats 4000000
variable{f:FuncId}{l:List (List Sh)}
abbrev feu:FuncId:=3
abbrev fbN:FuncId:=6
abbrev fbQ:FuncId:=7
abbrev fb2:FuncId:=8
abbrev fbO:FuncId:=9
abbrev fb0:FuncId:=10
abbrev fci:FuncId:=11
abbrev fev:FuncId:=12
abbrev fbj:FuncId:=13
abbrev fbM:FuncId:=14
abbrev fdb:FuncId:=15
abbrev fdI:FuncId:=16
abbrev fdj:FuncId:=17
abbrev fdf:FuncId:=18
abbrev fdk:FuncId:=20
abbrev fb6:FuncId:=23
abbrev fbV:FuncId:=29
abbrev fcg:FuncId:=30
abbrev fbZ:FuncId:=31
abbrev fdG:FuncId:=32
abbrev fbR:FuncId:=33
abbrev fed:FuncId:=34
abbrev fbS:FuncId:=35
abbrev fee:FuncId:=36
abbrev fbT:FuncId:=37
abbrev fef:FuncId:=38
abbrev fbU:FuncId:=39
abbrev fb3:FuncId:=40
abbrev fcX:FuncId:=41
abbrev fcS:FuncId:=42
abbrev fbz:FuncId:=43
abbrev fb5:FuncId:=44
abbrev fdP:FuncId:=45
abbrev fbP:FuncId:=46
abbrev fbo:FuncId:=47
abbrev fb9:FuncId:=48
abbrev fcc:FuncId:=49
abbrev fcT:FuncId:=50
abbrev fcd:FuncId:=51
abbrev fcb:FuncId:=52
abbrev fce:FuncId:=53
abbrev fbq:FuncId:=54
abbrev fbX:FuncId:=55
abbrev fbw:FuncId:=56
abbrev fcp:FuncId:=57
abbrev fco:FuncId:=58
abbrev fcj:FuncId:=59
abbrev fbi:FuncId:=60
abbrev fcm:FuncId:=61
abbrev fcn:FuncId:=62
abbrev fbr:FuncId:=63
abbrev faX:FuncId:=64
abbrev faO:FuncId:=65
abbrev fdw:FuncId:=66
abbrev fde:FuncId:=67
abbrev fdB:FuncId:=68
abbrev fc8:FuncId:=69
abbrev fdl:FuncId:=70
abbrev fds:FuncId:=71
abbrev fbY:FuncId:=72
abbrev fcZ:FuncId:=74
abbrev fcf:FuncId:=75
abbrev fdA:FuncId:=76
abbrev fdJ:FuncId:=83
abbrev fch:FuncId:=84
abbrev fa8:FuncId:=85
abbrev fcl:FuncId:=86
abbrev fei:FuncId:=87
abbrev fbl:FuncId:=88
abbrev fbB:FuncId:=89
abbrev fbh:FuncId:=90
abbrev fdx:FuncId:=91
abbrev fdy:FuncId:=92
abbrev fdv:FuncId:=93
abbrev fdH:FuncId:=94
abbrev fel:FuncId:=95
abbrev fem:FuncId:=96
abbrev fen:FuncId:=97
abbrev faP:FuncId:=98
abbrev fb4:FuncId:=99
abbrev feg:FuncId:=100
abbrev fcY:FuncId:=101
abbrev fc4:FuncId:=102
abbrev fc6:FuncId:=103
abbrev fbA:FuncId:=104
abbrev fdX:FuncId:=105
abbrev faN:FuncId:=106
abbrev fbF:FuncId:=107
abbrev fbJ:FuncId:=108
abbrev fdK:FuncId:=109
abbrev faT:FuncId:=110
abbrev fca:FuncId:=111
abbrev fc7:FuncId:=112
abbrev fc5:FuncId:=113
abbrev faR:FuncId:=114
abbrev fd8:FuncId:=115
abbrev fc0:FuncId:=116
abbrev fc2:FuncId:=117
abbrev faq:FuncId:=118
abbrev fb8:FuncId:=119
abbrev fbE:FuncId:=120
abbrev fdQ:FuncId:=121
abbrev fdR:FuncId:=122
abbrev faU:FuncId:=123
abbrev fbs:FuncId:=124
abbrev fb1:FuncId:=125
abbrev fbW:FuncId:=126
abbrev fby:FuncId:=127
abbrev fb7:FuncId:=128
abbrev fcq:FuncId:=129
abbrev fdM:FuncId:=130
abbrev fdN:FuncId:=131
abbrev fbt:FuncId:=132
abbrev faS:FuncId:=133
abbrev fa2:FuncId:=134
abbrev fa0:FuncId:=135
abbrev fdt:FuncId:=136
abbrev fdu:FuncId:=137
abbrev fdr:FuncId:=138
abbrev fdC:FuncId:=139
abbrev fdF:FuncId:=140
abbrev fc9:FuncId:=141
abbrev fdi:FuncId:=142
abbrev fcR:FuncId:=143
abbrev fdD:FuncId:=144
abbrev fdg:FuncId:=153
abbrev fbb:FuncId:=154
abbrev fbd:FuncId:=155
abbrev fba:FuncId:=156
abbrev fbe:FuncId:=157
abbrev fdL:FuncId:=158
abbrev fbH:FuncId:=159
abbrev fdz:FuncId:=160
abbrev fda:FuncId:=161
abbrev faY:FuncId:=162
abbrev feo:FuncId:=163
abbrev faJ:FuncId:=164
abbrev fea:FuncId:=165
abbrev fd0:FuncId:=166
abbrev fa5:FuncId:=167
abbrev fdU:FuncId:=168
abbrev fa1:FuncId:=169
abbrev faZ:FuncId:=170
abbrev fcv:FuncId:=171
abbrev fd6:FuncId:=172
abbrev fc1:FuncId:=173
abbrev feq:FuncId:=174
abbrev fc3:FuncId:=175
abbrev faM:FuncId:=176
abbrev feh:FuncId:=177
abbrev faw:FuncId:=178
abbrev faI:FuncId:=179
abbrev fbn:FuncId:=180
abbrev fat:FuncId:=181
abbrev fap:FuncId:=182
abbrev fcV:FuncId:=183
abbrev fcU:FuncId:=184
abbrev fdY:FuncId:=185
abbrev fcW:FuncId:=186
abbrev fcQ:FuncId:=187
abbrev fbC:FuncId:=188
abbrev fdW:FuncId:=189
abbrev fbg:FuncId:=190
abbrev fbD:FuncId:=191
abbrev fd9:FuncId:=192
abbrev faW:FuncId:=193
abbrev fct:FuncId:=194
abbrev fa4:FuncId:=195
abbrev fdE:FuncId:=196
abbrev fdc:FuncId:=197
abbrev fdo:FuncId:=198
abbrev fdq:FuncId:=199
abbrev fdm:FuncId:=200
abbrev fdp:FuncId:=201
abbrev fbv:FuncId:=213
abbrev fdn:FuncId:=214
abbrev faL:FuncId:=215
abbrev fbf:FuncId:=216
abbrev fbc:FuncId:=217
abbrev fbu:FuncId:=218
abbrev fad:FuncId:=219
abbrev fdh:FuncId:=220
abbrev fdd:FuncId:=221
abbrev fa7:FuncId:=222
abbrev fa3:FuncId:=223
abbrev fcx:FuncId:=224
abbrev fd7:FuncId:=225
abbrev faK:FuncId:=226
abbrev fcs:FuncId:=227
abbrev fd1:FuncId:=228
abbrev fd5:FuncId:=229
abbrev fd4:FuncId:=230
abbrev fcF:FuncId:=231
abbrev fcC:FuncId:=232
abbrev fcH:FuncId:=233
abbrev fcP:FuncId:=234
abbrev fes:FuncId:=235
abbrev fet:FuncId:=236
abbrev fa6:FuncId:=237
abbrev fau:FuncId:=238
abbrev fbI:FuncId:=239
abbrev fbG:FuncId:=240
abbrev faH:FuncId:=241
abbrev fas:FuncId:=242
abbrev faG:FuncId:=243
abbrev fax:FuncId:=244
abbrev faE:FuncId:=245
abbrev faz:FuncId:=246
abbrev fbk:FuncId:=247
abbrev fdS:FuncId:=248
abbrev faV:FuncId:=249
abbrev feb:FuncId:=250
abbrev fcu:FuncId:=251
abbrev fd2:FuncId:=252
abbrev fbp:FuncId:=253
abbrev fbm:FuncId:=254
abbrev fbK:FuncId:=255
abbrev fdT:FuncId:=256
abbrev fdO:FuncId:=257
abbrev fcw:FuncId:=258
abbrev fac:FuncId:=266
abbrev fbx:FuncId:=267
abbrev fao:FuncId:=268
abbrev fcL:FuncId:=269
abbrev faj:FuncId:=270
abbrev fdZ:FuncId:=271
abbrev fd3:FuncId:=272
abbrev fcr:FuncId:=273
abbrev fcy:FuncId:=274
abbrev fdV:FuncId:=275
abbrev fec:FuncId:=276
abbrev fcG:FuncId:=277
abbrev fav:FuncId:=279
abbrev fep:FuncId:=280
abbrev fer:FuncId:=281
abbrev faD:FuncId:=282
abbrev faB:FuncId:=283
abbrev faF:FuncId:=284
abbrev fay:FuncId:=285
abbrev faC:FuncId:=286
abbrev faA:FuncId:=287
abbrev fej:FuncId:=288
abbrev fcB:FuncId:=289
abbrev fcJ:FuncId:=290
abbrev fab:FuncId:=291
abbrev faa:FuncId:=292
abbrev fae:FuncId:=294
abbrev faf:FuncId:=298
abbrev fa9:FuncId:=299
abbrev fcz:FuncId:=300
abbrev fcM:FuncId:=301
abbrev faQ:FuncId:=302
abbrev fek:FuncId:=303
abbrev fak:FuncId:=305
abbrev fcK:FuncId:=306
abbrev fai:FuncId:=307
abbrev fcE:FuncId:=308
abbrev fcO:FuncId:=309
abbrev fag:FuncId:=310
abbrev fan:FuncId:=316
abbrev fal:FuncId:=317
abbrev fam:FuncId:=318
abbrev fah:FuncId:=319
abbrev fcA:FuncId:=320
def aD:List Sh:=[.o 0 [],.o 2 [],.o 0 []]
theorem aCq:aD=[.o 0 [],.o 2 [],.o 0 []]:=θ _
def aH:List Sh:=[.o 0 [],.o 2 [],.o 0 [],.o 0 [],.o 2 [],.o 0 [],.o 0 []]
theorem aCr:aH=[.o 0 [],.o 2 [],.o 0 [],.o 0 [],.o 2 [],.o 0 [],.o 0 []]:=θ _
def ft:List Sh:=[.o 0 [],.o 5 [.o 2 [],.o 0 [],.o 2 [],.o 0 []],.o 0 [],.o 2 [],.o 0 [],.o 0 [],.o 2 [],.o 0 [],.o 0 []]
theorem aCs:ft=[.o 0 [],.o 5 [.o 2 [],.o 0 [],.o 2 [],.o 0 []],.o 0 [],.o 2 [],.o 0 [],.o 0 [],.o 2 [],.o 0 [],.o 0 []]:=θ _
def gu:List Sh:=[.o 8 aH,.o 0 [],.o 0 []]
theorem aCt:gu=[.o 8 aH,.o 0 [],.o 0 []]:=θ _
def Qn:List Sh:=[.o 0 [],.o 5 [],.o 0 [],.o 2 [],.o 0 [],.o 0 [],.o 2 [],.o 0 [],.o 0 []]
theorem aCu:Qn=[.o 0 [],.o 5 [],.o 0 [],.o 2 [],.o 0 [],.o 0 [],.o 2 [],.o 0 [],.o 0 []]:=θ _
def eU:List Sh:=[.o 0 [],.o 5 [.o 2 [],.o 0 [],.o 2 [],.o 0 []]]
theorem aCv:eU=[.o 0 [],.o 5 [.o 2 [],.o 0 [],.o 2 [],.o 0 []]]:=θ _
def DS:List Sh:=[.o 2 [],.o 0 [],.o 2 [],.o 0 []]
theorem aCw:DS=[.o 2 [],.o 0 [],.o 2 [],.o 0 []]:=θ _
noncomputable section
def zs:Nat->Nat->Nat->List Nat
 |0,_,_=>[]
 |f+1,i,n=>if n=0 then []else if n%2=1 then i::zs f (i+1) (n/2)else zs f (i+1) (n/2)
def zd:Nat->Nat->Nat->List Nat
 |0,_,_=>[]
 |f+1,b,n=>if n=0 then []else(n%b-1)::zd f b (n/b)
def zz(l:List Nat):NLL:=l.map fun n=>if n%2=0 then zs 600 0 (n/2)else zd 600 (if n%4=1 then 512 else 8388608) (n/4)
def g0(f:Func)(l:List Nat):Cmd:=gK Tryz.prog [] f (zz l) 0 []
def g1(H:List (Nat×Nat))(f:Func)(l:List Nat)(k:Nat)(L:List Cmd):Cmd:=gK Tryz.prog H f (zz l) k L
def abj:FD:=⟨4,[[]],[.t 8],aq (g0 Tryz.f3 [240,137438953712,37,3296,7392,1221618356052292387408201013104561021265925,15520,366001226041877119344968239575878271104887826437,9151516071966741,37,58528,37,12288])⟩
def FH:FD:=⟨0,[[]],[.t 0],aq (g0 Tryz.f6 [0,4,12,147790688873647968261,2,222858510437527132578002969])⟩
def mG:FD:=⟨2,[[]],[.t 4],aq (g0 Tryz.f7 [12,26220553,21,76,30421001,21,21])⟩
def jV:FD:=⟨2,[[]],[.t 4],aq (g0 Tryz.f8 [24,38805517,49241,21,21])⟩
def La:List Nat:=[368,816,1840,231216,1840,231216,268435824,493360,231216,237360,231216,231216,384]
def jW:Cmd:=aq (g1 [] Tryz.f9 La 1 [])
def aaw(a:Cmd):Cmd:=aq (g1 [] Tryz.f9 La 0 [a])
def NU:Cmd:=aaw jW
def FI:FD:=⟨3,[[.o 4 aD],aD],[.t 6,.cell 7 3 true],NU⟩
def BO:FD:=⟨3,[ft],[.cell 6 9 true],aq (g1 [(62,0)] Tryz.f10 [240,262384,29,496,2032,8176,207876541078935957183952707548336827679556965777209474723098344059011397165531161,29,85492934459311453833681162965897973184398650618279305516849929998313878030824062863365] 0 [])⟩
def wm:FD:=⟨2,[ft],[.cell 4 9 true],aq (g0 Tryz.f11 [56,120,65592,21,21])⟩
def abl:FD:=⟨3,[ft],[.cell 6 9 true],aq (g0 Tryz.f12 [240,1264,29,29,2686461957])⟩
def kv:FD:=⟨2,[[]],[.t 4],aq (g0 Tryz.f13 [24,8216,21,21])⟩
def Uo:List Nat:=[184,440,14768,432,14768,2097328,31152,14768,15792,14768,14768,29]
def oT:Cmd:=aq (g1 [] Tryz.f14 Uo 1 [])
def ajY(a:Cmd):Cmd:=aq (g1 [] Tryz.f14 Uo 0 [a])
def Xx:Cmd:=ajY oT
def Lc:FD:=⟨3,[aH],[.cell 6 7 true],Xx⟩
def Jg:FD:=⟨1,[aD],[.cell 2 3 true],aq (g0 Tryz.f15 [10,26,282,26,8])⟩
def BP:FD:=⟨3,[aD,[]],[.cell 6 3 true,.t 7],aq (g0 Tryz.f16 [212,1728,524992,384,1664,384])⟩
def xW:FD:=⟨1,[[]],[.t 2],aq (g0 Tryz.f17 [4,132,8,8,40])⟩
def xX:FD:=⟨2,[aD],[.cell 4 3 true],aq (g0 Tryz.f18 [56,21,517231101608258981897])⟩
def iD:FD:=⟨1,[[]],[.t 2],aq (g0 Tryz.f20 [4,260,8,100361,8,20,8])⟩
def sK:FD:=⟨2,[ft],[.cell 4 9 true],aq (g0 Tryz.f23 [44,232,4194408,21,21,6])⟩
def aax:FD:=⟨0,[gu],[.cell 0 3 true],aq (g0 Tryz.f29 [2,2])⟩
def BQ:FD:=⟨2,[ft],[.cell 4 9 true],aq (g0 Tryz.f30 [56,21])⟩
def uU:FD:=⟨3,[aH],[.cell 6 7 true],aq (g0 Tryz.f31 [184,524472,29,29,5375016985])⟩
def Le:List Nat:=[4,61449,8,20,0,20,4,36708361,20,65019913,11833225289,8,20,8]
def iS:Cmd:=aq (g1 [] Tryz.f32 Le 1 [])
def aay(a:Cmd):Cmd:=aq (g1 [] Tryz.f32 Le 0 [a])
def rQ:Cmd:=aay iS
def mH:FD:=⟨1,[[]],[.t 2],rQ⟩
def pf:FD:=⟨1,[[]],[.t 2],aq (g0 Tryz.f33 [4,8])⟩
def hH:FD:=⟨2,[[]],[.t 4],aq (g0 Tryz.f34 [6,21])⟩
def xY:FD:=⟨2,[[]],[.t 3],aq (g0 Tryz.f35 [12,16])⟩
def jQ:FD:=⟨2,[[]],[.t 4],aq (g0 Tryz.f36 [6,21])⟩
def pg:FD:=⟨2,[[]],[.t 3],aq (g0 Tryz.f37 [12,16])⟩
def kl:FD:=⟨2,[[]],[.t 4],aq (g0 Tryz.f38 [6,21])⟩
def uq:FD:=⟨2,[[]],[.t 3],aq (g0 Tryz.f39 [12,16])⟩
def ey:FD:=⟨1,[[]],[.t 2],aq (g0 Tryz.f40 [4,20,38805513,8,8])⟩
def Kd:List Nat:=[4,38921,8,14680068,0,14680068,4,31457284,14680068,14680116,70368758857780,8,36028797033644084,8,19253824628745,0,8,14680068,8]
def fh:Cmd:=aq (g1 [] Tryz.f41 Kd 1 [])
def Xy(a:Cmd):Cmd:=aq (g1 [] Tryz.f41 Kd 0 [a])
def sL:Cmd:=Xy fh
def nH:FD:=⟨1,[[]],[.t 2],sL⟩
def sM:FD:=⟨1,[[]],[.t 2],aq (g0 Tryz.f42 [4,4100,8,8])⟩
def jk:FD:=⟨1,[[]],[.t 2],aq (g0 Tryz.f43 [4,68,20,8,8])⟩
def Ap:FD:=⟨2,[[]],[.t 3],aq (g0 Tryz.f44 [12,16])⟩
def zK:FD:=⟨2,[[]],[.t 4],aq (g0 Tryz.f45 [12,21])⟩
def pi:FD:=⟨3,[aD],[.cell 5 3 true],aq (g0 Tryz.f46 [92,220,2268,208,262224,80,786512,25,8388688,25,25])⟩
def jv:FD:=⟨2,[aD],[.cell 4 3 true],aq (g0 Tryz.f47 [44,131116,21,232,536871016,21,424,23630718989,21,21])⟩
def xZ:FD:=⟨2,[[]],[.t 4],aq (g0 Tryz.f48 [12,21])⟩
def El:FD:=⟨1,[ft],[.cell 2 9 true],aq (g0 Tryz.f49 [12,8,36])⟩
def DB:List Nat:=[56,56,131128,96,8388664,24576,96,184,985162418487472,160,985162418487472,5555864168503512611684367,2111062325330096,985162418487472,985162418487984,127085951984861872,985162418487472,127085951984861872,46605966620266647169690650017807,271201140060717744,127085951984861872,127085951984863920,127085951984876208,590422896310690519728,96,127085951984884400,264452650126652116849328,127085951984882352,264452650126652116849328,30130321034817237314439143818217433437795630366851087,566684105030309410525872,264452650126652116849328,264452650126652116947632,264452650126652116849328,264452650126652116849328,127085951984861872,127085951984861872,985162418487472,96]
def kX:Cmd:=aq (g1 [] Tryz.f50 DB 1 [])
def Ve(a:Cmd):Cmd:=aq (g1 [] Tryz.f50 DB 2 [a])
def kY:Cmd:=Ve kX
def Vf(a b:Cmd):Cmd:=aq (g1 [] Tryz.f50 DB 3 [a,b])
def uV:Cmd:=Vf kX kY
def aeh(a b c:Cmd):Cmd:=aq (g1 [] Tryz.f50 DB 0 [a,b,c])
def x9:Cmd:=aeh kX kY uV
def rR:FD:=⟨2,[eU,[]],[.cell 4 2 true,.t 5],x9⟩
def ww:FD:=⟨3,[aH],[.cell 6 7 true],aq (g0 Tryz.f51 [156,2204,29,29])⟩
def uW:FD:=⟨4,[ft],[.cell 8 9 true],aq (g0 Tryz.f52 [872,17248,37,7968,33558304,37,37,66])⟩
def Lf:List Nat:=[170,7330,160,7330,160,15522,7330,7842,7330,7330,29]
def pj:Cmd:=aq (g1 [] Tryz.f53 Lf 1 [])
def aaz(a:Cmd):Cmd:=aq (g1 [] Tryz.f53 Lf 0 [a])
def NV:Cmd:=aaz pj
def FJ:FD:=⟨3,[aH],[.cell 6 7 true],NV⟩
def rn:FD:=⟨3,[aH],[.cell 6 7 true],aq (g0 Tryz.f54 [184,131256,29,29])⟩
def yb:FD:=⟨2,[aH],[.cell 4 7 true],aq (g0 Tryz.f55 [56,1080,21,21,5912938525])⟩
def pN:FD:=⟨1,[[]],[.t 2],aq (g0 Tryz.f56 [4,0,20,8,516,8,57,8,8])⟩
def yW:FD:=⟨1,[ft],[.cell 2 9 true],aq (g0 Tryz.f57 [12,8,6])⟩
def DT:List Nat:=[184,440,2097592,29,952,1944,1221618356052292387408201013104561021265925,3992,8088,67813441309699098203400197,16280,7064,16280,11715398520034891269235039659183444786104359714816019,70368744193944,16280,16280,27893361792949561179578280454149,16280,22936,37272,47164262659688194033083858711547690275463630405386697191445,4504,69776,58123108321164106742636549,49408925725,29,29]
def iT:Cmd:=aq (g1 [] Tryz.f58 DT 1 [])
def Nn(a:Cmd):Cmd:=aq (g1 [] Tryz.f58 DT 0 [a])
def sk:Cmd:=Nn iT
def mI:FD:=⟨3,[ft],[.cell 6 9 true],sk⟩
def abk:FD:=⟨3,[aH],[.cell 5 7 true],aq (g0 Tryz.f59 [92,196,131933179001068787462701095254350946082009053593079813,1048768,25,25])⟩
def m8:FD:=⟨3,[aH],[.cell 6 7 true],aq (g0 Tryz.f60 [184,4194488,29,29])⟩
def wW:FD:=⟨1,[aH],[.cell 2 7 true],aq (g0 Tryz.f61 [10,8])⟩
def sn:FD:=⟨3,[aH],[.cell 6 7 true],aq (g0 Tryz.f62 [156,668,29,29,24])⟩
def wx:FD:=⟨1,[aH],[.cell 2 7 true],aq (g0 Tryz.f63 [12,140,8,8,40])⟩
def jy:FD:=⟨1,[[]],[.t 2],aq (g0 Tryz.f64 [4,132,8,8])⟩
def kZ:FD:=⟨2,[[]],[.t 4],aq (g0 Tryz.f65 [24,32792,21,216,12,88,1048792,21,16777304,21,268435544,21,21])⟩
def FK:FD:=⟨1,[aH],[.cell 2 7 true],aq (g0 Tryz.f66 [12,8])⟩
def GT:FD:=⟨3,[aD],[.cell 6 3 true],aq (g0 Tryz.f67 [142,142,8334,29,398,29])⟩
def DC:List Nat:=[44,8388652,96,172,44,172,40,268435628,172,68719476908,96,172,300,812,288,812,296,4398046511916,812,1836,3884,1836,3884,1320,18014398509485868,3884,3884,7980,0,2804699142591353985033,96,3884,1836,9004,11965164711581705,96,812,96]
def jN:Cmd:=aq (g1 [] Tryz.f68 DC 1 [])
def Vg(a:Cmd):Cmd:=aq (g1 [] Tryz.f68 DC 2 [a])
def nI:Cmd:=Vg jN
def lg:Cmd:=aq (g1 [] Tryz.f68 DC 3 [])
def aei(a b c:Cmd):Cmd:=aq (g1 [] Tryz.f68 DC 0 [a,b,c])
def EU:Cmd:=aei jN nI lg
def zL:FD:=⟨2,[aD,[]],[.cell 4 3 true,.t 5],EU⟩
def BR:FD:=⟨2,[aD,[]],[.cell 4 3 true,.t 5],aq (g0 Tryz.f69 [56,16440,96,96])⟩
def NW:List Nat:=[2,258,8,18,48,16,48,0,1048624,48,48,48,8]
def Ae:Cmd:=aq (g1 [] Tryz.f70 NW 1 [])
def aej(a:Cmd):Cmd:=aq (g1 [] Tryz.f70 NW 0 [a])
def BS:Cmd:=aej Ae
def vU:FD:=⟨1,[[]],[.t 2],BS⟩
def BT:List Nat:=[6,70,198,25,198,77,8388806,198,454,966,454,966,77,536871878,966,1734,0,1734,966,966,2502,198,2502,77,4901466709738655749,2502,6342,6342,2502,2502,198,21]
def pn:Cmd:=aq (g1 [] Tryz.f71 BT 1 [])
def sN:Cmd:=aq (g1 [] Tryz.f71 BT 2 [])
def Sc(a b:Cmd):Cmd:=aq (g1 [] Tryz.f71 BT 3 [a,b])
def yc:Cmd:=Sc pn sN
def aaA(a b c:Cmd):Cmd:=aq (g1 [] Tryz.f71 BT 0 [a,b,c])
def NX:Cmd:=aaA pn sN yc
def FL:FD:=⟨2,[[.o 2 []]],[.t 4],NX⟩
def po:FD:=⟨2,[ft],[.cell 4 9 true],aq (g0 Tryz.f72 [56,1048632,21,120,504,21,22827701386266471550190255878149])⟩
def vV:FD:=⟨2,[eU,[]],[.cell 4 2 true,.t 5],aq (g0 Tryz.f74 [38,8388646,96,166,162,416,288,96])⟩
def ye:FD:=⟨1,[aH],[.cell 2 7 true],aq (g0 Tryz.f75 [10,8])⟩
def H2:List Nat:=[6,198,32966,21,262150,21,262,0,262,0,4194566,262,8589934854,0,21,22556971013,0,21,262,21]
def lU:Cmd:=aq (g1 [] Tryz.f76 H2 1 [])
def Vh(a:Cmd):Cmd:=aq (g1 [] Tryz.f76 H2 0 [a])
def uX:Cmd:=Vh lU
def pq:FD:=⟨2,[[]],[.t 4],uX⟩
def aaB:FD:=⟨3,[aH],[.cell 6 7 true],aq (g0 Tryz.f83 [142,396,1408,29])⟩
def yX:FD:=⟨3,[aH],[.cell 5 7 true],aq (g0 Tryz.f84 [92,25,1409579279726609])⟩
def BU:FD:=⟨2,[aH],[.cell 4 7 true],aq (g0 Tryz.f85 [44,2097196,21,21,80])⟩
def A7:List Nat:=[38,102,230,96,230,96,2278,230,230,10,230,21]
def dM:Cmd:=aq (g1 [] Tryz.f86 A7 1 [])
def Jh(a:Cmd):Cmd:=aq (g1 [] Tryz.f86 A7 0 [a])
def BV:Cmd:=Jh dM
def sO:FD:=⟨2,[aH],[.cell 4 7 true],BV⟩
def dy:List Nat:=[14,32782,29,458764,0,458764,0,983052,458764,459532,460300,2147942412,29,458764,29]
def aK:Cmd:=aq (g1 [] Tryz.f87 dy 1 [])
def iF(a:Cmd):Cmd:=aq (g1 [] Tryz.f87 dy 0 [a])
def cx:Cmd:=iF aK
def bB:FD:=⟨3,[[]],[.t 6],cx⟩
def fj:FD:=⟨2,[[]],[.t 4],aq (g0 Tryz.f88 [24,8216,21,21])⟩
def yY:FD:=⟨0,[aH],[.cell 0 7 true],aq (g0 Tryz.f89 [2,2])⟩
def rp:FD:=⟨3,[aH],[.cell 6 7 true],aq (g0 Tryz.f90 [184,2097336,29,952,3968,29])⟩
def DD:FD:=⟨1,[[]],[.t 2],aq (g0 Tryz.f91 [2,8])⟩
def pO:FD:=⟨1,[[]],[.t 2],aq (g0 Tryz.f92 [4,36,8,8])⟩
def lh:FD:=⟨2,[[]],[.t 4],aq (g0 Tryz.f93 [24,131096,21,21])⟩
def HC:FD:=⟨0,[aH],[.cell 0 7 true],aq (g0 Tryz.f94 [2,2])⟩
def jd:List Nat:=[6,774,0,774,4007,1798,774,838,131910,21,774,21]
def pP:Cmd:=aq (g1 [] Tryz.f95 jd 1 [])
def ru(a:Cmd):Cmd:=aq (g1 [] Tryz.f95 jd 0 [a])
def ry:Cmd:=ru pP
def je:FD:=⟨2,[[]],[.t 4],ry⟩
def kw:List Nat:=[6,774,0,774,4007,1798,774,838,131910,21,774,21]
def sP:Cmd:=aq (g1 [] Tryz.f96 kw 1 [])
def uY(a:Cmd):Cmd:=aq (g1 [] Tryz.f96 kw 0 [a])
def uZ:Cmd:=uY sP
def kC:FD:=⟨2,[[]],[.t 4],uZ⟩
def lH:List Nat:=[6,774,0,774,4007,1798,774,838,131910,21,774,21]
def ur:Cmd:=aq (g1 [] Tryz.f97 lH 1 [])
def wL(a:Cmd):Cmd:=aq (g1 [] Tryz.f97 lH 0 [a])
def wM:Cmd:=wL ur
def lI:FD:=⟨2,[[]],[.t 4],wM⟩
def Af:FD:=⟨1,[aD],[.cell 2 3 true],aq (g0 Tryz.f98 [10,26,282,26,8])⟩
def sQ:FD:=⟨2,[[]],[.t 3],aq (g0 Tryz.f99 [12,16])⟩
def qI:FD:=⟨2,[[]],[.t 4],aq (g0 Tryz.f100 [6,21])⟩
def wz:FD:=⟨1,[[]],[.t 2],aq (g0 Tryz.f101 [2,8])⟩
def H3:List Nat:=[2,18,912,16,912,0,1936,912,976,912,912,8]
def ut:Cmd:=aq (g1 [] Tryz.f102 H3 1 [])
def Vi(a:Cmd):Cmd:=aq (g1 [] Tryz.f102 H3 0 [a])
def Ke:Cmd:=Vi ut
def CR:FD:=⟨1,[[]],[.t 2],Ke⟩
def Ag:FD:=⟨2,[[]],[.t 4],aq (g0 Tryz.f103 [6,70,8262,21,21])⟩
def jD:FD:=⟨1,[[]],[.t 2],aq (g0 Tryz.f104 [4,8])⟩
def H4:List Nat:=[6,1794,2,1794,0,3842,1794,1922,67330,21,1794,81,21,21]
def pR:Cmd:=aq (g1 [] Tryz.f105 H4 1 [])
def Vj(a:Cmd):Cmd:=aq (g1 [] Tryz.f105 H4 0 [a])
def Ah:Cmd:=Vj pR
def sR:FD:=⟨2,[[]],[.t 4],Ah⟩
def yf:FD:=⟨1,[[]],[.t 2],aq (g0 Tryz.f106 [4,68,8,8])⟩
def EF:List Nat:=[2,448,0,448,0,960,448,480,262592,8,448,8]
def jE:Cmd:=aq (g1 [] Tryz.f107 EF 1 [])
def Ox(a:Cmd):Cmd:=aq (g1 [] Tryz.f107 EF 0 [a])
def Aq:Cmd:=Ox jE
def so:FD:=⟨1,[[]],[.t 2],Aq⟩
def m9:FD:=⟨1,[[]],[.t 2],aq (g0 Tryz.f108 [2,8])⟩
def Ar:FD:=⟨3,[aD,[]],[.cell 6 3 true,.t 7],aq (g0 Tryz.f109 [184,384])⟩
def wA:FD:=⟨2,[aD,[]],[.cell 4 3 true,.t 5],aq (g0 Tryz.f110 [44,16428,96,96])⟩
def As:FD:=⟨2,[[]],[.t 3],aq (g0 Tryz.f111 [12,16])⟩
def wX:FD:=⟨2,[[]],[.t 4],aq (g0 Tryz.f112 [24,21])⟩
def Kf:FD:=⟨1,[[]],[.t 2],aq (g0 Tryz.f113 [2,8])⟩
def jO:FD:=⟨2,[aD,[]],[.cell 4 3 true,.t 5],aq (g0 Tryz.f114 [56,65592,96,134217784,96,19869474829,40,96,184,96])⟩
def pS:FD:=⟨1,[[]],[.t 2],aq (g0 Tryz.f115 [2,34,8,8])⟩
def ic:FD:=⟨3,[],[],aq (g1 [(83,1),(35,0)] Tryz.f116 [70,32838,454,134217926,0,10695780211066255578661069196795822789044396312347445063130614075,1666,554197069564870686741,0,36516673541,0,39737899013,0,0,0] 0 [])⟩
def gD:FD:=⟨1,[eU,[]],[.cell 2 2 true,.t 3],aq (g0 Tryz.f117 [10,10,42,24,96,65546,24,24])⟩
def u9:FD:=⟨3,[aH],[.cell 6 7 true],aq (g0 Tryz.f118 [156,16540,29,896,33003607327229182966653946701841,30425117,29,29])⟩
def BW:FD:=⟨2,[eU,aH,[]],[.cell 4 2 true,.cell 5 7 true,.t 6],aq (g0 Tryz.f119 [120,872,3688,268437096,224,12,1640,224,2787943418306246314338229536181283776903173])⟩
def FM:List Nat:=[2296,6200,14392,6597069776952,10240,6597069776952,10240,15393162799160,6597069776952,6597069826104,6597070022712,6597070776376,2361183248031892727864,45,2417851639235855419533368,6597070055480,1739383349096430710038541,6597069776952,6597069776952,45]
def bJ:Cmd:=aq (g1 [] Tryz.f120 FM 1 [])
def Qo(a:Cmd):Cmd:=aq (g1 [] Tryz.f120 FM 0 [a])
def GU:Cmd:=Qo bJ
def At:FD:=⟨5,[aH],[.cell 10 7 true],GU⟩
def Au:FD:=⟨3,[aD,[]],[.cell 6 3 true,.t 7],aq (g0 Tryz.f121 [184,384])⟩
def CS:FD:=⟨3,[aD,[]],[.cell 6 3 true,.t 7],aq (g0 Tryz.f122 [184,384])⟩
def pu:FD:=⟨1,[[]],[.t 2],aq (g0 Tryz.f123 [4,0,20,8,57,8,8])⟩
def y5:FD:=⟨1,[aH],[.cell 2 7 true],aq (g0 Tryz.f124 [12,76,8,8])⟩
def BX:FD:=⟨3,[ft],[.cell 6 9 true],aq (g0 Tryz.f125 [240,33008,29,1008,29,5370826757])⟩
def BY:FD:=⟨3,[ft],[.cell 6 9 true],aq (g0 Tryz.f126 [240,33008,29,1008,29,5370826757])⟩
def BZ:FD:=⟨3,[aH],[.cell 6 7 true],aq (g0 Tryz.f127 [184,29,10])⟩
def yg:FD:=⟨3,[ft],[.cell 6 9 true],aq (g0 Tryz.f128 [240,4336,29,160,29])⟩
def kS:FD:=⟨3,[[]],[.t 6],aq (g0 Tryz.f129 [112,848,25382819374389488446444837808141,3840,25382819374389488446444837808141,4294969088,29,5888,29])⟩
def Av:FD:=⟨3,[aD,[]],[.cell 6 3 true,.t 7],aq (g0 Tryz.f130 [184,384])⟩
def CT:FD:=⟨3,[aD,[]],[.cell 6 3 true,.t 7],aq (g0 Tryz.f131 [184,384])⟩
def gI:FD:=⟨3,[aH],[.cell 6 7 true],aq (g0 Tryz.f132 [156,268435612,29,2147483804,29,68719476892,156,924,3968,29])⟩
def ve:FD:=⟨1,[aD],[.cell 2 3 true],aq (g0 Tryz.f133 [12,4108,8,8,4301271049])⟩
def jl:FD:=⟨1,[[]],[.t 2],aq (g0 Tryz.f134 [4,20,8])⟩
def nP:FD:=⟨2,[[]],[.t 4],aq (g0 Tryz.f135 [24,216,12,24,8408,21,131096,21,280,21,5912938525])⟩
def NY:List Nat:=[2,18,18,18,0,65554,18,18,8]
def Kg:Cmd:=aq (g1 [] Tryz.f136 NY 1 [])
def aek(a:Cmd):Cmd:=aq (g1 [] Tryz.f136 NY 0 [a])
def Qp:Cmd:=aek Kg
def HD:FD:=⟨1,[[.o 2 []]],[.t 2],Qp⟩
def Lg:List Nat:=[2,18,16,18,0,32786,18,18,8]
def yi:Cmd:=aq (g1 [] Tryz.f137 Lg 1 [])
def aaC(a:Cmd):Cmd:=aq (g1 [] Tryz.f137 Lg 0 [a])
def NZ:Cmd:=aaC yi
def FN:FD:=⟨1,[[]],[.t 2],NZ⟩
def Lh:List Nat:=[6,8198,21,6,70,198,25,198,209,2097350,198,454,8589935046,454,198,198,21]
def gE:Cmd:=aq (g1 [] Tryz.f138 Lh 1 [])
def aaD(a:Cmd):Cmd:=aq (g1 [] Tryz.f138 Lh 0 [a])
def HE:Cmd:=aaD gE
def B0:FD:=⟨2,[[.o 2 []]],[.t 4],HE⟩
def Li:List Nat:=[4,36873,8,20,0,20,4,8388628,20,57679881,0,8,20,8]
def lW:Cmd:=aq (g1 [] Tryz.f139 Li 1 [])
def aaE(a:Cmd):Cmd:=aq (g1 [] Tryz.f139 Li 0 [a])
def vW:Cmd:=aaE lW
def pT:FD:=⟨1,[[]],[.t 2],vW⟩
def Lj:List Nat:=[184,144,184,176,2232,184,184,696,2097336,384,184,384]
def px:Cmd:=aq (g1 [] Tryz.f140 Lj 1 [])
def aaF(a:Cmd):Cmd:=aq (g1 [] Tryz.f140 Lj 0 [a])
def N0:Cmd:=aaF px
def FO:FD:=⟨3,[aD,[]],[.cell 6 3 true,.t 7],N0⟩
def yj:FD:=⟨1,[aD,[]],[.cell 2 3 true,.t 3],aq (g0 Tryz.f141 [12,140,24,24])⟩
def uu:FD:=⟨2,[aD],[.cell 4 3 true],aq (g0 Tryz.f142 [56,4152,21,131128,21,120,504,5912938525,4398046511608,21,36,9007199254741496,21,36,21,36])⟩
def Ai:FD:=⟨2,[eU,[]],[.cell 4 2 true,.t 5],aq (g0 Tryz.f143 [50,50,306,96,65586,96,178,67109042,160,9444733810164258113815,96])⟩
def Qq:List Nat:=[2,18,50,16,50,0,562,50,50,50,8]
def B1:Cmd:=aq (g1 [] Tryz.f144 Qq 1 [])
def agy(a:Cmd):Cmd:=aq (g1 [] Tryz.f144 Qq 0 [a])
def Up:Cmd:=agy B1
def Ji:FD:=⟨1,[[]],[.t 2],Up⟩
def Xz:FD:=⟨2,[aD,[]],[.cell 4 3 true,.t 5],aq (g0 Tryz.f153 [44,16428,96,96])⟩
def Aw:FD:=⟨2,[[]],[.t 4],aq (g0 Tryz.f154 [12,21])⟩
def uv:FD:=⟨1,[[]],[.t 2],aq (g0 Tryz.f155 [4,8])⟩
def Ax:FD:=⟨2,[aH],[.cell 4 7 true],aq (g0 Tryz.f156 [56,2104,21,21])⟩
def su:FD:=⟨2,[aH],[.cell 4 7 true],aq (g0 Tryz.f157 [44,1068,21,108,236,21,844702495545349])⟩
def CU:FD:=⟨3,[aD,[]],[.cell 6 3 true,.t 7],aq (g0 Tryz.f158 [184,384])⟩
def pU:FD:=⟨4,[aH],[.cell 8 7 true],aq (g0 Tryz.f159 [692,33440,37,37])⟩
def vX:FD:=⟨1,[[]],[.t 2],aq (g0 Tryz.f160 [4,8])⟩
def mu:FD:=⟨2,[[]],[.t 4],aq (g0 Tryz.f161 [24,216,12,16600,69,21,21,524376,21,16777304,12,129,12,21,21,21,10])⟩
def qC:FD:=⟨3,[aD],[.cell 6 3 true],aq (g0 Tryz.f162 [142,142,32910,29,398,906,29])⟩
def sT:List Nat:=[6,774,0,774,4007,1798,774,838,131910,21,774,21]
def B3:Cmd:=aq (g1 [] Tryz.f163 sT 1 [])
def DU(a:Cmd):Cmd:=aq (g1 [] Tryz.f163 sT 0 [a])
def DV:Cmd:=DU B3
def sU:FD:=⟨2,[[]],[.t 4],DV⟩
def lJ:FD:=⟨2,[[]],[.t 4],aq (g0 Tryz.f164 [6,70,198,4230,53,21,21,16390,21,131078,21,81,21,21])⟩
def vf:List Nat:=[6,7174,6,7174,0,15366,7174,7366,1055942,21,7558,7686,536878598,21,7174,145,21,21]
def fO:Cmd:=aq (g1 [] Tryz.f165 vf 1 [])
def EV(a:Cmd):Cmd:=aq (g1 [] Tryz.f165 vf 0 [a])
def oH:Cmd:=EV fO
def jP:FD:=⟨2,[[]],[.t 4],oH⟩
def uw:FD:=⟨1,[[]],[.t 2],aq (g0 Tryz.f166 [2,8])⟩
def CV:FD:=⟨1,[[]],[.t 2],aq (g0 Tryz.f167 [2,8])⟩
def zN:Cmd:=aq (g0 Tryz.f168 [632,2680,1051256,1536,632,8389240,1536,17179869816,1536,562949953421944,12,632,12856,4829691691261763597,1536,1536])
def pW:FD:=⟨4,[aD,[]],[.cell 8 3 true,.t 9],zN⟩
def rz:FD:=⟨1,[[]],[.t 2],aq (g0 Tryz.f169 [2,8])⟩
def sv:FD:=⟨1,[aD,[]],[.cell 2 3 true,.t 3],aq (g0 Tryz.f170 [12,140,24,24])⟩
def yk:FD:=⟨2,[[.o 2 []],[]],[.t 4,.t 5],aq (g0 Tryz.f171 [6,1030,96,96])⟩
def gR:List Nat:=[14,526,3598,1550,3598,0,265742,3598,7694,4294974990,3598,3598,384]
def bY:Cmd:=aq (g1 [] Tryz.f172 gR 1 [])
def py(a:Cmd):Cmd:=aq (g1 [] Tryz.f172 gR 0 [a])
def ie:Cmd:=py bY
def dT:FD:=⟨3,[[],[]],[.t 6,.t 7],ie⟩
def qL:FD:=⟨2,[[]],[.t 4],aq (g0 Tryz.f173 [12,21])⟩
def bG:FD:=⟨3,[[]],[.t 6],aq (g0 Tryz.f174 [14,14,270,131342,29,782,8389390,29,4294968078,1294,1286,41,0,29,782,9713364895797253,14,0,2,6710951065547,29,262,2,29])⟩
def CW:FD:=⟨1,[aD],[.cell 2 3 true],aq (g0 Tryz.f175 [12,12,8])⟩
def vg:FD:=⟨2,[aD,[]],[.cell 4 3 true,.t 5],aq (g0 Tryz.f176 [56,16440,96,96])⟩
def iU:FD:=⟨3,[[]],[.t 6],aq (g1 [(31,2)] Tryz.f177 [14,14,131086,29,270,258,0,2,56295280172615776203,29] 0 [])⟩
def vj:FD:=⟨3,[[]],[.t 6],aq (g0 Tryz.f178 [28,29])⟩
def CX:FD:=⟨0,[aH],[.cell 0 7 true],aq (g0 Tryz.f179 [2,2])⟩
def iG:FD:=⟨2,[aH,[]],[.cell 4 7 true,.t 5],aq (g0 Tryz.f180 [56,56,312,96,262200,96,4194360,96,160,2094105673112556338230553441894041358710805,44054549,96,96])⟩
def CY:List Nat:=[156,262300,29,412,58720652,384,58720652,400,125829516,58720652,58721676,58723724,60188264844,58722700,60188264844,3472,128907741580,60188264844,60188277132,2259211532684,60188264844,258,60188264844,58720652,58720652,29]
def iH:Cmd:=aq (g1 [] Tryz.f181 CY 1 [])
def Oy(a:Cmd):Cmd:=aq (g1 [] Tryz.f181 CY 2 [a])
def lX:Cmd:=Oy iH
def Vk(a b:Cmd):Cmd:=aq (g1 [] Tryz.f181 CY 0 [a,b])
def Em:Cmd:=Vk iH lX
def ym:FD:=⟨3,[aH],[.cell 6 7 true],Em⟩
def wY:List Nat:=[156,1048732,29,924,4294967708,29,0,3204,27390916617,29,15973530744841,1152,15973530744841,79490449439,8319485343709193,15973530744841,8178448818255881,8178448818255881,15973530744841,15973530744841,9344,22858974652445,8320,22858974652445,666814220263751711,11844807996499997,22858974652445,11703795024160797,22858974652445,22858974652445,29]
def oI:Cmd:=aq (g1 [] Tryz.f182 wY 1 [])
def oJ:Cmd:=aq (g1 [] Tryz.f182 wY 2 [])
def No(a b:Cmd):Cmd:=aq (g1 [] Tryz.f182 wY 0 [a,b])
def kT:Cmd:=No oI oJ
def iI:FD:=⟨3,[aH],[.cell 6 7 true],kT⟩
def Kh:List Nat:=[108,8300,96,492,40,58720740,480,58720740,42803019844179897019978058039311,125829604,58720740,58721764,8648656356,58720740,58720740,58720740,2251800079677387,96,768]
def nc:Cmd:=aq (g1 [] Tryz.f183 Kh 1 [])
def XA(a:Cmd):Cmd:=aq (g1 [] Tryz.f183 Kh 0 [a])
def FP:Cmd:=XA nc
def Aj:FD:=⟨2,[eU,eU],[.cell 4 2 true,.cell 5 2 true],FP⟩
def Ki:List Nat:=[108,108,32876,224,2097260,224,876,40,962072675172,864,962072675172,45021408659031821513297420615695,2061584302948,962072675172,962072677220,962072689508,2252761886366564,224,962072705892,4611686980500085604,224,295147906141425523556,962072693604,151115727452790719531876,962072675172,962072675172,2533275089942475,224,768]
def fQ:Cmd:=aq (g1 [] Tryz.f184 Ki 1 [])
def XB(a:Cmd):Cmd:=aq (g1 [] Tryz.f184 Ki 0 [a])
def wZ:Cmd:=XB fQ
def qR:FD:=⟨2,[eU,eU,[]],[.cell 4 2 true,.cell 5 2 true,.t 6],wZ⟩
def sW:FD:=⟨4,[aD,[]],[.cell 8 3 true,.t 9],aq (g0 Tryz.f185 [632,2680,1051256,1536,4294967928,1536,4728,1536])⟩
def N1:List Nat:=[56,8248,96,184,3670184,168,3670184,184,7864488,3670184,3670696,3670184,105228120675419323001568740627968499918038242232619,3670184,96]
def qS:Cmd:=aq (g1 [] Tryz.f186 N1 1 [])
def ael(a:Cmd):Cmd:=aq (g1 [] Tryz.f186 N1 0 [a])
def Jj:Cmd:=ael qS
def DE:FD:=⟨2,[eU,[]],[.cell 4 2 true,.t 5],Jj⟩
def N2:List Nat:=[56,8248,96,184,58720416,160,58720416,71437385751,125829280,58720416,58720928,58720416,58720416,96]
def vo:Cmd:=aq (g1 [] Tryz.f187 N2 1 [])
def aem(a:Cmd):Cmd:=aq (g1 [] Tryz.f187 N2 0 [a])
def Jk:Cmd:=aem vo
def DF:FD:=⟨2,[eU,[]],[.cell 4 2 true,.t 5],Jk⟩
def nQ:FD:=⟨2,[aD,[]],[.cell 4 3 true,.t 5],aq (g0 Tryz.f188 [44,131116,96,416,106518104577814527031126025,96])⟩
def s7:FD:=⟨4,[aD,[]],[.cell 8 3 true,.t 9],aq (g0 Tryz.f189 [632,2680,4196984,1536,632,33555064,1536,2147484280,1536,4728,80,29304,80,1536,554269126609147557897])⟩
def wB:FD:=⟨1,[aH],[.cell 2 7 true],aq (g0 Tryz.f190 [12,2060,8,28,88,8])⟩
def rA:FD:=⟨4,[aD,[]],[.cell 8 3 true,.t 9],aq (g0 Tryz.f191 [572,33340,6656,1536,536871468,1536,1536])⟩
def kD:FD:=⟨1,[[.o 2 []]],[.t 2],aq (g0 Tryz.f192 [2,34,8,8])⟩
def vA:FD:=⟨1,[[]],[.t 2],aq (g0 Tryz.f193 [4,4100,8,8,40])⟩
def H5:List Nat:=[6,6,32774,81,21,21,70,0,70,0,33554502,70,70,268435526,0,21,20407390213,0,21,70,21]
def jS:Cmd:=aq (g1 [] Tryz.f194 H5 1 [])
def Vl(a:Cmd):Cmd:=aq (g1 [] Tryz.f194 H5 0 [a])
def Kj:Cmd:=Vl jS
def s9:FD:=⟨2,[[]],[.t 4],Kj⟩
def y6:FD:=⟨2,[[.o 2 []]],[.t 4],aq (g0 Tryz.f195 [6,25,21])⟩
def N3:List Nat:=[18,51217,21,80,208,25,208,16,1073742032,208,24703414289,21,208,208,21]
def lj:Cmd:=aq (g1 [] Tryz.f196 N3 1 [])
def aen(a:Cmd):Cmd:=aq (g1 [] Tryz.f196 N3 0 [a])
def yn:Cmd:=aen lj
def rS:FD:=⟨2,[[]],[.t 4],yn⟩
def B4:FD:=⟨2,[aD,[]],[.cell 4 3 true,.t 5],aq (g0 Tryz.f197 [56,16440,96,96])⟩
def N4:List Nat:=[6,70,198,454,192,454,71729,65990,454,838,838,454,454,21]
def Ak:Cmd:=aq (g1 [] Tryz.f198 N4 1 [])
def aeo(a:Cmd):Cmd:=aq (g1 [] Tryz.f198 N4 0 [a])
def Qs:Cmd:=aeo Ak
def HF:FD:=⟨2,[[.o 2 []]],[.t 4],Qs⟩
def N5:List Nat:=[6,70,198,454,192,454,201,524742,454,838,67109702,838,137438954310,838,838,454,454,21]
def fK:Cmd:=aq (g1 [] Tryz.f199 N5 1 [])
def aep(a:Cmd):Cmd:=aq (g1 [] Tryz.f199 N5 0 [a])
def Qt:Cmd:=aep fK
def HG:FD:=⟨2,[[.o 2 []]],[.t 4],Qt⟩
def H6:List Nat:=[6,2054,65,21,21,70,0,70,0,2097222,70,4294967366,0,21,22018002949,0,21,70,21]
def gk:Cmd:=aq (g1 [] Tryz.f200 H6 1 [])
def Vm(a:Cmd):Cmd:=aq (g1 [] Tryz.f200 H6 0 [a])
def vB:Cmd:=Vm gk
def yp:FD:=⟨2,[[]],[.t 4],vB⟩
def Ll:List Nat:=[6,70,198,454,25,454,169,16838,454,838,2097990,838,1350,1350,454,454,21]
def gG:Cmd:=aq (g1 [] Tryz.f201 Ll 1 [])
def aaG(a:Cmd):Cmd:=aq (g1 [] Tryz.f201 Ll 0 [a])
def N6:Cmd:=aaG gG
def FQ:FD:=⟨2,[[.o 2 []]],[.t 4],N6⟩
def sx:FD:=⟨2,[aH],[.cell 4 7 true],aq (g0 Tryz.f213 [44,8236,21,236,992,21])⟩
def Qu:FD:=⟨1,[[]],[.t 2],aq (g0 Tryz.f214 [2,8])⟩
def vC:FD:=⟨1,[aD],[.cell 2 3 true],aq (g0 Tryz.f215 [12,4108,8,8,40])⟩
def y7:FD:=⟨1,[aH],[.cell 2 7 true],aq (g0 Tryz.f216 [10,8])⟩
def y8:FD:=⟨2,[[]],[.cell 4 1 true],aq (g0 Tryz.f217 [38,21])⟩
def nR:FD:=⟨2,[aH],[.cell 4 7 true],aq (g0 Tryz.f218 [44,262188,21,236,992,21])⟩
def kE:FD:=⟨3,[aH],[.cell 6 7 true],aq (g0 Tryz.f219 [184,696,29,29,1127553472403461])⟩
def zO:FD:=⟨1,[[]],[.t 2],aq (g0 Tryz.f220 [4,132,8,37,8,8])⟩
def EW:FD:=⟨1,[aD],[.cell 2 3 true],aq (g0 Tryz.f221 [12,8])⟩
def EG:List Nat:=[2,18,18,18,0,65554,18,18,8]
def lK:Cmd:=aq (g1 [] Tryz.f222 EG 1 [])
def Oz(a:Cmd):Cmd:=aq (g1 [] Tryz.f222 EG 0 [a])
def FR:Cmd:=Oz lK
def y9:FD:=⟨1,[[.o 2 []]],[.t 2],FR⟩
def Kk:List Nat:=[2,18,912,16,912,0,1936,912,976,17360,8,912,912,8]
def wC:Cmd:=aq (g1 [] Tryz.f223 Kk 1 [])
def XC(a:Cmd):Cmd:=aq (g1 [] Tryz.f223 Kk 0 [a])
def Lm:Cmd:=XC wC
def En:FD:=⟨1,[[]],[.t 2],Lm⟩
def te:FD:=⟨2,[[.o 2 []],[]],[.t 4,.t 5],aq (g0 Tryz.f224 [6,6,134,96,2054,96,96])⟩
def lA:FD:=⟨1,[[.o 2 []]],[.t 2],aq (g0 Tryz.f225 [2,8])⟩
def ze:FD:=⟨1,[[]],[.t 2],aq (g0 Tryz.f226 [2,8])⟩
def wD:FD:=⟨1,[[]],[.t 2],aq (g0 Tryz.f227 [2,2,258,8,8])⟩
def yq:FD:=⟨3,[aD,[]],[.cell 6 3 true,.t 7],aq (g0 Tryz.f228 [156,668,33436,384,384,20])⟩
def N7:Cmd:=aq (g0 Tryz.f229 [184,688,20,4294967984,12,688,1712,1712,5808,140737488361136,7856,7856,9714191147485213,12928,384,11262303519393821,7808,12669678402947101,33408,384,135808,384])
def w9:FD:=⟨3,[[.o 2 [],.o 0 [],.o 0 []],[]],[.cell 6 3 true,.t 7],N7⟩
def rB:FD:=⟨4,[aD,[]],[.cell 8 3 true,.t 9],aq (g0 Tryz.f230 [602,6658,67115520,6656,1536])⟩
def B5:FD:=⟨1,[[]],[.t 2],aq (g0 Tryz.f231 [2,8])⟩
def wE:FD:=⟨1,[[.o 2 []],[]],[.t 2,.t 3],aq (g0 Tryz.f232 [2,2,514,24,24])⟩
def CZ:List Nat:=[6,70,3670084,25,3670084,73,7864388,3670084,3670468,3670980,473433028,3670724,473433028,73,1010303940,473433028,473436100,473437636,473433028,473433028,3670084,3670084,21]
def pX:Cmd:=aq (g1 [] Tryz.f233 CZ 1 [])
def OA(a:Cmd):Cmd:=aq (g1 [] Tryz.f233 CZ 2 [a])
def uz:Cmd:=OA pX
def Vn(a b:Cmd):Cmd:=aq (g1 [] Tryz.f233 CZ 0 [a,b])
def Kl:Cmd:=Vn pX uz
def C0:FD:=⟨2,[[.o 2 []]],[.t 4],Kl⟩
def GV:List Nat:=[2,18,18,18,0,65554,18,18,8]
def nS:Cmd:=aq (g1 [] Tryz.f234 GV 1 [])
def Sd(a:Cmd):Cmd:=aq (g1 [] Tryz.f234 GV 0 [a])
def H7:Cmd:=Sd nS
def B6:FD:=⟨1,[[.o 2 []]],[.t 2],H7⟩
def B7:Cmd:=aq (g0 Tryz.f237 [56,33554488,536870968,40,96,184,952,12,17595949391885,96,3256,5912938525,6054388764100272141,4264,96,7351425456782974989,3240,16552,96])
def nJ:FD:=⟨2,[aD,[]],[.cell 4 3 true,.t 5],B7⟩
def rC:FD:=⟨2,[[]],[.t 4],aq (g0 Tryz.f238 [12,21])⟩
def uA:FD:=⟨2,[aD],[.cell 4 3 true],aq (g0 Tryz.f239 [56,568,21,21])⟩
def uB:FD:=⟨2,[aD],[.cell 4 3 true],aq (g0 Tryz.f240 [56,568,21,21])⟩
def yr:FD:=⟨3,[aH],[.cell 6 7 true],aq (g0 Tryz.f241 [156,668,29,29,24])⟩
def GW:List Nat:=[4,30729,24,36,14680096,21,14680096,38921,31457312,14680096,14680224,14680096,144,14680096,24]
def nT:Cmd:=aq (g1 [] Tryz.f242 GW 1 [])
def Se(a:Cmd):Cmd:=aq (g1 [] Tryz.f242 GW 0 [a])
def yt:Cmd:=Se nT
def rD:FD:=⟨1,[[.o 4 aD],[]],[.t 2,.t 3],yt⟩
def iN:FD:=⟨4,[aH],[.cell 8 7 true],aq (g0 Tryz.f243 [752,3696,17766973566932098869183561869321,16780912,3696,14960,62000,17592186065456,37,90672,238080,34914467877,37,37])⟩
def ng:List Nat:=[12,136,939524232,136,939524232,6198106015803284498939919,2013266056,939524232,939524744,121198608520,939524232,121198608520,51993481709015558774083572203535,258637561992,121198608520,121198611592,121198608520,0,121198608520,939524232,4232,8883536958339085,4232,8883536958339085,6198106015803284498939919,4620569555385726989,8883536958339085,4548370923748603917,8883536958339085,5197030307689150477,96,8883536958339085,136,45722277917,29,45722277917,6198106015803284498939919,23685222275101,45722277917,23409806311453,11985820832530461,1741194670286728823078941,11985820832530461,1741194670286728823078941,51993481709015558774083807084559,901182004463570834804473885,1741194670286728823078941,8733280120896081158078398592,1741194670286728823078941,1741194670286728823078941,45722277917,272,45722277917,96]
def kU:Cmd:=aq (g1 [] Tryz.f244 ng 1 [])
def Np(a:Cmd):Cmd:=aq (g1 [] Tryz.f244 ng 2 [a])
def nU:Cmd:=Np kU
def jn:Cmd:=aq (g1 [] Tryz.f244 ng 3 [])
def nV:Cmd:=aq (g1 [] Tryz.f244 ng 4 [])
def Nq(a b c d:Cmd):Cmd:=aq (g1 [] Tryz.f244 ng 5 [a,b,c,d])
def sy:Cmd:=Nq kU nU jn nV
def Sf(a b c d e:Cmd):Cmd:=aq (g1 [] Tryz.f244 ng 0 [a,b,c,d,e])
def H8:Cmd:=Sf kU nU jn nV sy
def B8:FD:=⟨2,[[],[]],[.t 4,.t 5],H8⟩
def xc:FD:=⟨3,[],[],aq (g0 Tryz.f245 [84,212,404,457523833467684490667101000461896595677559922701,916,0])⟩
def qM:FD:=⟨2,[],[],aq (g0 Tryz.f246 [12,44,0])⟩
def uC:FD:=⟨2,[aH],[.cell 4 7 true],aq (g0 Tryz.f247 [56,1080,21,21,4837095445])⟩
def iO:FD:=⟨2,[aD,[]],[.cell 4 3 true,.t 5],aq (g0 Tryz.f248 [44,428,2097580,96,936,2147484584,96,1704,5792,25779255317,672,13494796695573,96,27926738965,96,38127286293,96,96])⟩
def vD:FD:=⟨2,[aD,[]],[.cell 4 3 true,.t 5],aq (g0 Tryz.f249 [56,16440,96,96,10])⟩
def iV:List Nat:=[2,18,7186,18,7186,0,15378,7186,7250,7186,2104338,7186,7186,130,469762176,29,469762176,73584869515,1006633088,469762176,469762688,469762176,469762176,8]
def gY:Cmd:=aq (g1 [] Tryz.f250 iV 1 [])
def mh:Cmd:=aq (g1 [] Tryz.f250 iV 2 [])
def zf(a b:Cmd):Cmd:=aq (g1 [] Tryz.f250 iV 0 [a,b])
def nX:Cmd:=zf gY mh
def iW:FD:=⟨1,[[.o 5 DS]],[.t 2],nX⟩
def zg:FD:=⟨2,[[.o 2 []],[.o 2 []],[]],[.t 4,.t 5,.t 6],aq (g0 Tryz.f251 [6,6,1030,224,32774,224,768,224])⟩
def FS:FD:=⟨2,[[.o 2 []]],[.t 4],aq (g0 Tryz.f252 [6,25,21])⟩
def wF:FD:=⟨1,[aD,[]],[.cell 2 3 true,.t 3],aq (g0 Tryz.f253 [12,268,24,4108,24,24,40])⟩
def B9:FD:=⟨1,[aD,[]],[.cell 2 3 true,.t 3],aq (g0 Tryz.f254 [12,268,24,24,40])⟩
def EH:List Nat:=[2172,26732,59500,26624,59500,10304,536930412,59500,59500,59500,6144]
def be:Cmd:=aq (g1 [] Tryz.f255 EH 1 [])
def OB(a:Cmd):Cmd:=aq (g1 [] Tryz.f255 EH 0 [a])
def FT:Cmd:=OB be
def sz:FD:=⟨5,[aD,[]],[.cell 10 3 true,.t 11],FT⟩
def HI:FD:=⟨2,[aD,[]],[.cell 4 3 true,.t 5],aq (g0 Tryz.f256 [44,96])⟩
def Eo:FD:=⟨2,[aD,[]],[.cell 4 3 true,.t 5],aq (g0 Tryz.f257 [44,96])⟩
def pz:FD:=⟨2,[[.o 2 []],[]],[.t 4,.t 5],aq (g0 Tryz.f258 [6,6,134,96,2054,96,96])⟩
def A8:List Nat:=[56,248,504,232,504,248,504,504,3759155205,504,134218232,504,21,2149588997]
def gh:Cmd:=aq (g1 [] Tryz.f266 A8 1 [])
def Jl(a:Cmd):Cmd:=aq (g1 [] Tryz.f266 A8 0 [a])
def Ca:Cmd:=Jl gh
def th:FD:=⟨2,[aH],[.cell 4 7 true],Ca⟩
def mJ:FD:=⟨2,[aH],[.cell 4 7 true],aq (g0 Tryz.f267 [44,100,524388,21,484,1952,21])⟩
def H9:List Nat:=[6,6,65542,21,6,70,117440582,25,117440582,93,251658310,117440582,117440966,117441222,137556394694,117441222,117440582,117440582,21]
def pY:Cmd:=aq (g1 [] Tryz.f269 H9 1 [])
def Vo(a:Cmd):Cmd:=aq (g1 [] Tryz.f269 H9 0 [a])
def Ep:Cmd:=Vo pY
def yu:FD:=⟨2,[[.o 2 []]],[.t 4],Ep⟩
def Ln:Cmd:=aq (g0 Tryz.f270 [10,42,2,10,522,10,10,8])
def qT:FD:=⟨1,[[]],[.t 2],Ln⟩
def HJ:FD:=⟨1,[[.o 2 [],.o 0 [],.o 0 []]],[.cell 2 3 true],aq (g0 Tryz.f271 [12,8])⟩
def Cb:FD:=⟨2,[[.o 2 []],[]],[.t 4,.t 5],aq (g0 Tryz.f272 [6,4102,6,134,96])⟩
def yv:FD:=⟨2,[[.o 2 []],[]],[.t 4,.t 5],aq (g0 Tryz.f273 [6,1030,96,96])⟩
def tj:FD:=⟨2,[[.o 2 []],[]],[.t 4,.t 5],aq (g0 Tryz.f274 [6,6,134,96,4102,96,96])⟩
def N8:Cmd:=aq (g0 Tryz.f275 [156,668,36,2716,0,1073744540,3724,14988,3724,7884052966152201,1676,9432165338060809,71317513,384,1156,1664,384])
def xd:FD:=⟨3,[aD,[]],[.cell 6 3 true,.t 7],N8⟩
def lk:FD:=⟨2,[[]],[.t 4],aq (g0 Tryz.f276 [6,21])⟩
def zi:FD:=⟨1,[[]],[.t 2],aq (g0 Tryz.f277 [2,8])⟩
def sA:FD:=⟨1,[[]],[.t 2],aq (g0 Tryz.f279 [4,8])⟩
def xe:List Nat:=[6,774,0,774,0,1798,774,838,131910,21,774,21]
def eW:Cmd:=aq (g1 [] Tryz.f280 xe 1 [])
def GC(a:Cmd):Cmd:=aq (g1 [] Tryz.f280 xe 0 [a])
def yN:Cmd:=GC eW
def pZ:FD:=⟨2,[[]],[.t 4],yN⟩
def jR:List Nat:=[6,2054,6,194,28325893,130,258,768,33,768,125,39864353,768,768,0,21]
def dm:Cmd:=aq (g1 [] Tryz.f281 jR 1 [])
def tl(a:Cmd):Cmd:=aq (g1 [] Tryz.f281 jR 0 [a])
def jX:Cmd:=tl dm
def fF:FD:=⟨2,[[]],[.t 4],jX⟩
def DW:List Nat:=[6,70,114752,25,114752,4007,245824,114752,115008,114752,114752,21]
def kF:Cmd:=aq (g1 [] Tryz.f282 DW 1 [])
def Nr(a:Cmd):Cmd:=aq (g1 [] Tryz.f282 DW 0 [a])
def EI:Cmd:=Nr kF
def xf:FD:=⟨2,[[]],[.t 4],EI⟩
def Cx:List Nat:=[142,196750,0,196750,19906078202337171540375077130151,458894,196750,197006,4295164302,0,196750,196750]
def tp:Cmd:=aq (g1 [] Tryz.f283 Cx 1 [])
def Lo(a:Cmd):Cmd:=aq (g1 [] Tryz.f283 Cx 0 [a])
def xg:Cmd:=Lo tp
def qD:FD:=⟨3,[],[],xg⟩
def oL:List Nat:=[49278,94,49278,19906078202337171540375077130151,114814,49278,49790,50814,49278,50814,19906078202337171540375077130151,4245118,50814,52862,50814,4531217279244683142886786666402527540463621,50814,49278,4190,12382,0,12382,166984286856751215880962695014576554035,4611686018427400286,12382,12382,12382,12352272389,12382]
def jJ:Cmd:=aq (g1 [] Tryz.f284 oL 1 [])
def jK:Cmd:=aq (g1 [] Tryz.f284 oL 2 [])
def HK(a b:Cmd):Cmd:=aq (g1 [] Tryz.f284 oL 3 [a,b])
def my:Cmd:=HK jJ jK
def KC(a b c:Cmd):Cmd:=aq (g1 [] Tryz.f284 oL 0 [a,b,c])
def Cy:Cmd:=KC jJ jK my
def uD:FD:=⟨6,[],[],Cy⟩
def zj:FD:=⟨3,[aH],[.cell 6 7 true],aq (g0 Tryz.f285 [226,29,0])⟩
def zk:FD:=⟨3,[aH],[.cell 6 7 true],aq (g0 Tryz.f286 [226,29,0])⟩
def kh:List Nat:=[158,414,30,414,19886271159347421933066858266655,33182,414,414,905954287985209342859259171468729372632662352900330558533113472919764219909,414,13962891269,414,542,0,542,2370628256719997159608231,9009675306536965,542,1566,542,1566,2370628256719997159608231,5045441433590304773,1566,1566,18257874949,1566,542]
def fV:Cmd:=aq (g1 [] Tryz.f287 kh 1 [])
def DX(a:Cmd):Cmd:=aq (g1 [] Tryz.f287 kh 2 [a])
def jz:Cmd:=DX fV
def jA:Cmd:=aq (g1 [] Tryz.f287 kh 3 [])
def FU(a b c:Cmd):Cmd:=aq (g1 [] Tryz.f287 kh 0 [a,b,c])
def xi:Cmd:=FU fV jz jA
def oM:FD:=⟨4,[],[],xi⟩
def fR:FD:=⟨2,[[]],[.t 4],aq (g0 Tryz.f288 [6,134,6,3355507865547,6,131078,3355507865547,2,3355507865547,21])⟩
def sB:List Nat:=[6,6,27267077,96,32509957,384,96,518,3586,3584,3586,80832626947,16773468407813,3586,3586,7680,15872,32256,13824,32256,678073221278335235,5622466239662149669,32256,65024,0,4465194903652984180773,65024,130560,625133048504600439241869119525,130560,625133048504600439241869119525,678073221278335235,322608385506474868419404483285029,625133048504600439241869119525,163874877886570643521691071147954213,625133048504600439241869119525,625133048504600439241869119525,65024,32256,32256,96]
def jF:Cmd:=aq (g1 [] Tryz.f289 sB 1 [])
def KD(a:Cmd):Cmd:=aq (g1 [] Tryz.f289 sB 2 [a])
def lM:Cmd:=KD jF
def Cz:Cmd:=aq (g1 [] Tryz.f289 sB 3 [])
def OD(a b c:Cmd):Cmd:=aq (g1 [] Tryz.f289 sB 0 [a,b,c])
def Ay:Cmd:=OD jF lM Cz
def sC:FD:=⟨2,[[.o 2 []],[.o 2 []]],[.t 4,.t 5],Ay⟩
def Ia:List Nat:=[6,6,70,198,29360324,192,29360324,79957,62914756,29360324,29360836,29361220,29360324,29360324,21]
def uE:Cmd:=aq (g1 [] Tryz.f290 Ia 1 [])
def Vp(a:Cmd):Cmd:=aq (g1 [] Tryz.f290 Ia 0 [a])
def Km:Cmd:=Vp uE
def C1:FD:=⟨2,[[]],[.t 4],Km⟩
def tq:FD:=⟨3,[aH],[.cell 6 7 true],aq (g0 Tryz.f291 [240,29])⟩
def tr:FD:=⟨3,[aH],[.cell 6 7 true],aq (g0 Tryz.f292 [240,29])⟩
def tu:FD:=⟨3,[aH],[.cell 6 7 true],aq (g0 Tryz.f294 [240,29])⟩
def lF:FD:=⟨2,[[]],[.t 4],aq (g0 Tryz.f298 [24,200,21,5120])⟩
def xk:FD:=⟨1,[aH],[.cell 2 7 true],aq (g0 Tryz.f299 [12,56,4120,8,8,12])⟩
def Ib:List Nat:=[6,32774,6,70,198,29360326,194,29360326,85,62914758,29360326,29361094,29362118,4324329414,29362118,29360326,29360326,25,21]
def lY:Cmd:=aq (g1 [] Tryz.f300 Ib 1 [])
def Vq(a:Cmd):Cmd:=aq (g1 [] Tryz.f300 Ib 0 [a])
def Kn:Cmd:=Vq lY
def yw:FD:=⟨2,[[.o 2 []]],[.t 4],Kn⟩
def Ic:List Nat:=[6,6,70,198,1835204,25,1835204,69,3932356,1835204,1835972,1836996,270272452,1836996,1835204,1835204,21]
def qf:Cmd:=aq (g1 [] Tryz.f301 Ic 1 [])
def Vr(a:Cmd):Cmd:=aq (g1 [] Tryz.f301 Ic 0 [a])
def Ko:Cmd:=Vr qf
def C2:FD:=⟨2,[[.o 2 []]],[.t 4],Ko⟩
def pA:FD:=⟨3,[aD,[]],[.cell 6 3 true,.t 7],aq (g0 Tryz.f302 [142,65678,384,384])⟩
def mK:List Nat:=[6,774,0,774,0,1798,774,838,131910,21,774,21]
def wn:Cmd:=aq (g1 [] Tryz.f303 mK 1 [])
def yx(a:Cmd):Cmd:=aq (g1 [] Tryz.f303 mK 0 [a])
def yy:Cmd:=yx wn
def mL:FD:=⟨2,[[]],[.t 4],yy⟩
def HL:FD:=⟨2,[[],[]],[.t 4,.t 5],aq (g0 Tryz.f305 [6,384,96,1536,96])⟩
def FV:List Nat:=[6,134,390,902,384,902,49,131974,902,902,902,96]
def mM:Cmd:=aq (g1 [] Tryz.f306 FV 1 [])
def Qv(a:Cmd):Cmd:=aq (g1 [] Tryz.f306 FV 0 [a])
def GX:Cmd:=Qv mM
def Az:FD:=⟨2,[[.o 2 []],[]],[.t 4,.t 5],GX⟩
def rT:FD:=⟨1,[[]],[.t 2],aq (g0 Tryz.f307 [2,8])⟩
def uF:FD:=⟨5,[[]],[.t 10],aq (g0 Tryz.f308 [62,32830,45,4152,45,0])⟩
def GY:List Nat:=[14,782,230158,774,230158,4007,492302,230158,233230,235022,235278,238862,230158,230158,16390,57,29]
def nY:Cmd:=aq (g1 [] Tryz.f309 GY 1 [])
def Sg(a:Cmd):Cmd:=aq (g1 [] Tryz.f309 GY 0 [a])
def Ie:Cmd:=Sg nY
def Cc:FD:=⟨3,[[]],[.t 6],Ie⟩
def Es:FD:=⟨3,[[],[]],[.t 6,.t 7],aq (g0 Tryz.f310 [14,37,640,384])⟩
def Et:FD:=⟨3,[[],[]],[.t 6,.t 7],aq (g0 Tryz.f316 [14,134,384])⟩
def Vs:FD:=⟨2,[[],[]],[.t 4,.t 5],aq (g0 Tryz.f317 [6,29,96])⟩
def Eu:FD:=⟨2,[[],[]],[.t 4,.t 5],aq (g0 Tryz.f318 [6,134,390,902,1926,3974,5510,13702,25990,25862,38,96])⟩
def Ew:FD:=⟨3,[[],[]],[.t 6,.t 7],aq (g0 Tryz.f319 [14,65550,14,520,384,0])⟩
def FW:List Nat:=[62,2,62,0,33554494,62,62,62,45]
def iJ:Cmd:=aq (g1 [] Tryz.f320 FW 1 [])
def Qw(a:Cmd):Cmd:=aq (g1 [] Tryz.f320 FW 0 [a])
def GZ:Cmd:=Qw iJ
def AA:FD:=⟨5,[[]],[.t 10],GZ⟩
attribute [go_sem] aCq aCr aCs aCt aCu aCv aCw aaw ajY aay Xy Ve Vf aeh aaz Nn Vg aei aej Sc aaA Vh Jh iF ru uY wL Vi Vj Ox Qo aek aaC aaD aaE aaF agy DU EV py Oy Vk No XA XB ael aem Vl aen aeo aep Vm aaG Oz XC OA Vn Sd Se Np Nq Sf zf OB Jl Vo GC tl Nr Lo HK KC DX FU KD OD Vp Vq Vr yx Qv Sg Qw
end
noncomputable def ama:List (Nat×FD):=[(270,qT),
 (305,HL),
 (307,rT),
 (310,Es),
 (316,Et),
 (317,Vs),
 (318,Eu),
 (319,Ew),
 (171,yk),
 (194,s9),
 (224,te),
 (227,wD),
 (231,B5),
 (232,wE),
 (233,C0),
 (234,B6),
 (251,zg),
 (258,pz),
 (269,yu),
 (273,yv),
 (274,tj),
 (277,zi),
 (289,sC),
 (290,C1),
 (300,yw),
 (301,C2),
 (306,Az),
 (308,uF),
 (309,Cc),
 (320,AA),
 (164,lJ),
 (226,ze),
 (34,hH),
 (36,jQ),
 (38,kl),
 (87,bB),
 (95,je),
 (96,kC),
 (97,lI),
 (100,qI),
 (115,pS),
 (163,sU),
 (165,jP),
 (172,dT),
 (174,bG),
 (177,iU),
 (192,kD),
 (225,lA),
 (250,iW),
 (276,lk),
 (280,pZ),
 (281,fF),
 (288,fR),
 (303,mL),
 (64,jy),
 (65,kZ),
 (98,Af),
 (106,yf),
 (110,wA),
 (114,jO),
 (123,pu),
 (133,ve),
 (134,jl),
 (135,nP),
 (162,qC),
 (167,CV),
 (169,rz),
 (170,sv),
 (176,vg),
 (193,vA),
 (195,y6),
 (215,vC),
 (222,y9),
 (223,En),
 (237,nJ),
 (249,vD),
 (302,pA),
 (45,zK),
 (105,sR),
 (109,Ar),
 (121,Au),
 (122,CS),
 (130,Av),
 (131,CT),
 (158,CU),
 (166,uw),
 (168,pW),
 (185,sW),
 (189,s7),
 (228,yq),
 (229,w9),
 (230,rB),
 (248,iO),
 (252,FS),
 (256,HI),
 (257,Eo),
 (271,HJ),
 (272,Cb),
 (275,xd),
 (13,kv),
 (43,jk),
 (47,jv),
 (54,rn),
 (56,pN),
 (60,m8),
 (63,wx),
 (88,fj),
 (89,yY),
 (90,rp),
 (104,jD),
 (107,so),
 (108,m9),
 (120,At),
 (124,y5),
 (127,BZ),
 (132,gI),
 (159,pU),
 (180,iG),
 (188,nQ),
 (190,wB),
 (191,rA),
 (213,sx),
 (218,nR),
 (239,uA),
 (240,uB),
 (247,uC),
 (253,wF),
 (254,B9),
 (255,sz),
 (267,mJ),
 (118,u9),
 (178,vj),
 (179,CX),
 (181,ym),
 (182,iI),
 (238,rC),
 (241,yr),
 (242,rD),
 (243,iN),
 (244,B8),
 (245,xc),
 (246,qM),
 (279,sA),
 (282,xf),
 (283,qD),
 (284,uD),
 (285,zj),
 (286,zk),
 (287,oM),
 (41,nH),
 (42,sM),
 (50,rR),
 (74,vV),
 (101,wz),
 (102,CR),
 (103,Ag),
 (112,wX),
 (113,Kf),
 (116,ic),
 (117,gD),
 (143,Ai),
 (173,qL),
 (175,CW),
 (183,Aj),
 (184,qR),
 (186,DE),
 (187,DF),
 (8,jV),
 (10,BO),
 (23,sK),
 (31,uU),
 (40,ey),
 (44,Ap),
 (48,xZ),
 (49,El),
 (51,ww),
 (52,uW),
 (53,FJ),
 (55,yb),
 (72,po),
 (75,ye),
 (99,sQ),
 (111,As),
 (119,BW),
 (125,BX),
 (126,BY),
 (128,yg),
 (15,Jg),
 (17,xW),
 (18,xX),
 (20,iD),
 (67,GT),
 (69,BR),
 (70,vU),
 (71,FL),
 (136,HD),
 (137,FN),
 (138,B0),
 (141,yj),
 (142,uu),
 (153,Xz),
 (161,mu),
 (197,B4),
 (198,HF),
 (199,HG),
 (200,yp),
 (201,FQ),
 (214,Qu),
 (220,zO),
 (221,EW),
 (66,FK),
 (91,DD),
 (92,pO),
 (93,lh),
 (160,vX),
 (16,BP),
 (32,mH),
 (68,zL),
 (76,pq),
 (83,aaB),
 (94,HC),
 (139,pT),
 (140,FO),
 (144,Ji),
 (196,rS),
 (3,abj),
 (6,FH),
 (7,mG),
 (9,FI),
 (14,Lc),
 (29,aax),
 (33,pf),
 (35,xY),
 (37,pg),
 (39,uq),
 (46,pi),
 (11,wm),
 (12,abl),
 (30,BQ),
 (57,yW),
 (58,mI),
 (59,abk),
 (61,wW),
 (62,sn),
 (84,yX),
 (85,BU),
 (86,sO),
 (129,kS),
 (154,Aw),
 (155,uv),
 (156,Ax),
 (157,su),
 (216,y7),
 (217,y8),
 (219,kE),
 (266,th),
 (291,tq),
 (292,tr),
 (294,tu),
 (298,lF),
 (299,xk)]
def shL:List (Nat×List (List Sh)):=[(171,[[.o 2 []],[.o 2 []]]),
 (194,[[.o 2 []],[.o 2 []]]),
 (224,[[.o 2 []],[]]),
 (227,[[.o 2 []]]),
 (231,[[.o 2 [.o 2 []]]]),
 (232,[[.o 2 []]]),
 (233,[[.o 2 []],[.o 2 []]]),
 (234,[[.o 2 []]]),
 (251,[[.o 2 []],[.o 2 []]]),
 (258,[[.o 2 []],[]]),
 (269,[[.o 2 []],[]]),
 (273,[[.o 2 []],[.o 2 []]]),
 (274,[[.o 2 []],[.o 2 []]]),
 (277,[[.o 2 []]]),
 (289,[[.o 2 []],[.o 2 []]]),
 (290,[[.o 2 []],[]]),
 (300,[[.o 2 []],[.o 2 []]]),
 (301,[[.o 2 []],[.o 2 []]]),
 (306,[[.o 2 []],[]]),
 (309,[[.o 2 []],[.o 2 []],[]]),
 (34,[[.o 8 aH],[]]),
 (36,[[.o 10 Qn],[]]),
 (38,[[.o 5 DS],[]]),
 (87,[[.o 8 aH],[.o 8 aH],[]]),
 (95,[[.o 8 aH],[]]),
 (96,[[.o 10 Qn],[]]),
 (97,[[.o 5 DS],[]]),
 (100,[[.o 2 []],[]]),
 (115,[[.o 2 []]]),
 (163,[[.o 2 []],[]]),
 (165,[[.o 2 []],[.o 2 []]]),
 (172,[[.o 5 DS],[.o 2 []],[]]),
 (174,[[],[],[.o 5 DS]]),
 (192,[[.o 2 []]]),
 (225,[[.o 2 []]]),
 (236,[[.o 5 DS],[]]),
 (250,[[.o 2 [.o 5 DS]]]),
 (276,[[.o 2 [.o 2 []]],[]]),
 (280,[[.o 2 []],[]]),
 (281,[[.o 8 aH],[]]),
 (303,[[.o 2 [.o 2 []]],[]]),
 (64,[aD]),
 (65,[aD,aD]),
 (106,[aD]),
 (110,[aD,[]]),
 (114,[aD,aD]),
 (123,[aD]),
 (133,[aD]),
 (134,[aD]),
 (135,[aD,aD]),
 (162,[[],[.o 2 []],[]]),
 (167,[[.o 2 []]]),
 (170,[aD]),
 (176,[aD,aD]),
 (193,[aD]),
 (195,[[.o 2 []],[]]),
 (215,[aD]),
 (222,[[.o 2 []]]),
 (223,[[.o 2 []]]),
 (237,[aD,aD]),
 (249,[aD,aD]),
 (302,[[],[.o 2 []],[]]),
 (45,[aD,[]]),
 (105,[[],[.o 4 aD]]),
 (109,[aD,aD,[]]),
 (121,[aD,aD,[]]),
 (122,[aD,aD,[]]),
 (130,[aD,aD,[]]),
 (131,[aD,aD,[]]),
 (158,[aD,aD,[]]),
 (168,[aD,aD,[],[]]),
 (185,[aD,aD,[],[]]),
 (189,[aD,aD,[],[]]),
 (228,[aD,[],[]]),
 (229,[aD,aD,[]]),
 (230,[[],[.o 2 [],.o 0 [],.o 0 []],[],[]]),
 (248,[aD,[]]),
 (252,[[.o 2 []],[]]),
 (256,[aD,[]]),
 (257,[aD,[]]),
 (271,[aD]),
 (272,[[.o 2 []],[]]),
 (275,[[.o 2 [],.o 0 [],.o 0 []],[],[]]),
 (13,[aH,aD]),
 (43,[aH]),
 (47,[aH,[]]),
 (54,[aH,aH,[]]),
 (56,[aH]),
 (60,[aH,aH,[]]),
 (63,[aH]),
 (88,[aH,aH]),
 (90,[aH,aH,[]]),
 (104,[aD]),
 (107,[[.o 8 aH]]),
 (120,[aH,aH,[],[],[]]),
 (124,[aD]),
 (127,[aH,aH,[]]),
 (132,[aH,[],[]]),
 (159,[aD,[],aD,[]]),
 (180,[aH,aH]),
 (188,[aH,[]]),
 (190,[aH]),
 (191,[aD,[],[],[]]),
 (213,[aH,[]]),
 (218,[aH,[]]),
 (239,[aD,aD]),
 (240,[aD,aD]),
 (247,[aH,aH]),
 (253,[aH]),
 (254,[aH]),
 (255,[aD,[],[],[],[]]),
 (267,[aH,[]]),
 (118,[eU,[.o 8 aH],[]]),
 (178,[eU,[.o 8 aH],[]]),
 (181,[eU,[.o 8 aH],[]]),
 (182,[eU,[.o 8 aH],[]]),
 (238,[eU,[.o 8 aH]]),
 (241,[aH,[],[]]),
 (242,[eU]),
 (243,[aD,aD,aH,[]]),
 (244,[eU,[]]),
 (245,[[],[],aH]),
 (279,[aH]),
 (285,[[],aH,aH]),
 (286,[[],aH,aH]),
 (41,[eU]),
 (42,[eU]),
 (50,[eU,eU]),
 (102,[[.o 2 []]]),
 (103,[[.o 2 []],[.o 2 []]]),
 (112,[eU,eU]),
 (116,[[],[.o 2 []],aD]),
 (143,[[],aD]),
 (173,[DS,[.o 2 []]]),
 (175,[aD]),
 (183,[eU,[]]),
 (184,[eU,[]]),
 (186,[eU,eU]),
 (187,[eU,eU]),
 (8,[gu,ft]),
 (10,[gu,ft,ft]),
 (23,[gu,[]]),
 (31,[gu,ft,[.o 8 aH]]),
 (40,[gu]),
 (44,[DS]),
 (48,[gu,[.o 10 Qn]]),
 (49,[gu]),
 (51,[eU,[.o 8 aH],[]]),
 (52,[gu,eU,[],aH]),
 (53,[[],aH,[.o 8 aH]]),
 (55,[gu,ft]),
 (72,[gu,aH]),
 (99,[aH]),
 (111,[ft]),
 (119,[gu,eU]),
 (125,[gu,ft,ft]),
 (126,[gu,ft,ft]),
 (128,[gu,ft,aH]),
 (17,[aD]),
 (18,[aD,aD]),
 (20,[aD]),
 (67,[[],[.o 2 []],[]]),
 (69,[aD,aD]),
 (70,[[.o 2 []]]),
 (71,[[.o 2 []],[.o 2 []]]),
 (136,[[.o 2 []]]),
 (137,[[.o 2 []]]),
 (138,[[.o 2 []],[]]),
 (141,[aD]),
 (142,[aD,aD]),
 (153,[aD,[]]),
 (161,[aD,aD]),
 (197,[aD,aD]),
 (198,[[.o 2 []],[]]),
 (199,[[.o 2 []],[.o 2 []]]),
 (200,[[.o 2 []],[.o 2 []]]),
 (201,[[.o 2 []],[.o 2 []]]),
 (220,[aD]),
 (221,[aD]),
 (66,[aD]),
 (92,[aH]),
 (93,[aH,aH]),
 (160,[aD]),
 (16,[ft,[.o 4 aD],aD]),
 (32,[gu]),
 (68,[eU,[.o 4 aD]]),
 (76,[[.o 2 []],[.o 2 []]]),
 (139,[eU]),
 (140,[aD,aD,[]]),
 (144,[[.o 2 []]]),
 (196,[[],DS]),
 (3,[gu,ft,ft,[.o 2 []]]),
 (7,[gu,[.o 10 Qn]]),
 (9,[gu,ft,[.o 2 []]]),
 (14,[gu,ft,[.o 4 aD]]),
 (33,[aD]),
 (35,[aH]),
 (37,[ft]),
 (39,[DS]),
 (46,[aH,[]]),
 (11,[gu,ft]),
 (12,[gu,ft,ft]),
 (30,[gu,ft]),
 (57,[gu]),
 (58,[gu,ft,[]]),
 (59,[aH,[]]),
 (62,[aH,[],[]]),
 (84,[aH,[]]),
 (85,[aH,[]]),
 (129,[gu,ft,ft]),
 (154,[aH,[]]),
 (155,[aD]),
 (156,[aH,aH]),
 (157,[aD,[]]),
 (219,[[],aH,[]]),
 (266,[[],aH]),
 (291,[[],aH,aH]),
 (292,[[],aH,aH]),
 (294,[[],aH,aH]),
 (298,[[],aH]),
 (299,[aH])]
def mdL:List (Nat×List Nat):=[(309,[1,0,0]),(172,[3,0,0]),(174,[2,0,0]),(177,[2,0,0]),(235,[0,1])]
def keepL:List Nat:=[35,39,44,46,59,84,99,111,203,208,211,261,282,285,286]
def ab:List Nat->Nat
 |[]=>0
 |x::l=>x+4294967296*ab l
def Lb(m:List Nat):Prop:=∀x∈m,x<4294967296
def dO:Nat->Nat->List Nat
 |0,_=>[]
 |k+1,n=>n%4294967296::dO k (n/4294967296)
def aA(n:Nat):List Nat:=if h:n=0 then []else n%4294967296::aA (n/4294967296)
termination_by n
decreasing_by omega
theorem go:aA 0=[]:=by grind[aA]
theorem qU{n}(h:n≠0):aA n=n%4294967296::aA (n/4294967296):=by rw[aA,dif_neg h]
theorem pB{n}:aA n=[]↔n=0:=by
 grind[qU,go]
theorem aT(n):ab (aA n)=n:=by
 induction n using Nat.strongRecOn with
 |ind n ih=>
  grind[go,qU,ab]
theorem bh(n):Lb (aA n):=by
 induction n using Nat.strongRecOn with
 |ind n ih=>
  by_cases h:n=0
  ·subst h;rw[go];intro x hx;grind
  ·rw[qU h];intro x hx;rcases List.mem_cons.1 hx with rfl|hx
   ·omega
   ·exact ih _ ω x hx
theorem If:Lb []:=fun x hx=>by grind
theorem ig{x}{l}:Lb (x::l)↔x<4294967296/\Lb l:=by
 constructor
 ·intro h;exact⟨h x σ,fun y hy=>h y γ⟩
 ·rintro⟨h1,h2⟩ y hy
  rcases List.mem_cons.1 hy with rfl|hy
  ·omega
  ·exact h2 y hy
theorem mN{l r}:Lb (l++r)↔Lb l/\Lb r:=by
 constructor
 ·intro h;exact⟨fun x hx=>h x γ,fun x hx=>h x γ⟩
 ·rintro⟨h1,h2⟩ x hx
  rcases List.mem_append.1 hx with hx|hx
  ·exact h1 x hx
  ·exact h2 x hx
theorem gH{l}(h:Lb l)(n):Lb (l.take n):=fun x hx=>h x (List.mem_of_mem_take hx)
theorem lZ{l}(h:Lb l)(n):Lb (l.drop n):=fun x hx=>h x (List.mem_of_mem_drop hx)
theorem bZ{l}(h:Lb l)(i):l.getD i 0<4294967296:=by
 rw[List.getD_eq_getElem?_getD];cases hq:l[i]? with
 |none=>simp
 |some x=>exact h x (List.mem_of_getElem? hq)
theorem ez(l r):ab (l++r)=ab l+4294967296^l.length*ab r:=by
 induction l with
 |nil=>simp[ab]
 |cons x l ih=>
  simp only[aDd,ab,ih,aDp,aDw,Nat.mul_add];grind
theorem di{l}(h:Lb l):ab l<4294967296^l.length:=by
 induction l with
 |nil=>simp[ab]
 |cons x l ih=>
  obtain⟨h1,h2⟩:=ig.1 h;grind[ab,aDp,aDw]
theorem cZ(k n):(dO k n).length=k:=by
 induction k generalizing n with
 |zero=>rfl
 |succ k ih=>grind[dO]
theorem ni(k n):Lb (dO k n):=by
 induction k generalizing n with
 |zero=>exact If
 |succ k ih=>exact ig.2 ⟨by omega,ih _⟩
theorem l6(k n):ab (dO k n)=n%4294967296^k:=by
 induction k generalizing n with
 |zero=>simp[dO,ab,Nat.mod_one]
 |succ k ih=>
  rw[dO,ab,ih,aDw,aC6 (4294967296^k),Nat.mod_mul]
theorem Jm{l}(h:Lb l):dO l.length (ab l)=l:=by
 induction l with
 |nil=>rfl
 |cons x l ih=>
  obtain⟨h1,h2⟩:=ig.1 h;grind[aDp,dO,ab]
theorem Uq(n):ab (aCG n 0)=0:=by
 induction n with
 |zero=>rfl
 |succ n ih=>simp[List.replicate_succ,ab,ih]
def oV(m:List Nat):Nat->Nat
 |0=>0
 |n+1=>if m.getD n 0=0 then oV m n else n+1
theorem FX(m):∀n,oV m n<=n
 |0=>aCJ _
 |n+1=>by
  unfold oV;have:=FX m n;split<;>omega
theorem abB(m):∀n,oV m n=0\/m.getD (oV m n-1) 0≠0
 |0=>.inl rfl
 |n+1=>by
  unfold oV;split
  ·exact abB m n
  ·rename_i h;exact .inr h
theorem XD(m):∀n i,oV m n<=i->i<n->m.getD i 0=0
 |0,i,_,h=>by omega
 |n+1,i,h1,h2=>by
  unfold oV at h1;split at h1
  ·rename_i h;by_cases e:i=n
   ·rw[e];exact h
   ·exact XD m n i h1 ω
  ·omega
def DG(m:List Nat):Prop:=m=[]\/m.getD (m.length-1) 0≠0
theorem Si(x)(l)(i):(x::l).getD (i+1) 0=l.getD i 0:=γ
theorem Qx{x}{l}(h:DG (x::l)):DG l:=by
 rcases h with h|h
 ·grind
 ·cases l with
  |nil=>exact .inl rfl
  |cons y l=>
   refine .inr ?_;grind
theorem Lp{l}(h:DG l)(hne:l≠[]):ab l≠0:=by
 induction l with
 |nil=>grind
 |cons x l ih=>
  cases l with
  |nil=>
   rcases h with h|h
   all_goals grind[ab]
  |cons y l=>
   grind[Qx,ab]
theorem Ig{l}(h1:Lb l)(h2:DG l):aA (ab l)=l:=by
 induction l with
 |nil=>exact go
 |cons x l ih=>
  obtain⟨h3,h4⟩:=ig.1 h1;grind[qU,Lp,ab,Qx]
theorem Lq(n):DG (aA n):=by
 induction n using Nat.strongRecOn with
 |ind n ih=>
  by_cases h:n=0
  ·subst h;rw[go];exact .inl rfl
  ·refine .inr ?_;rcases ih (n/4294967296) ω with h2|h2
   all_goals grind[aA,aDp,Nat.add_sub_cancel,Si]
theorem XE(m):ab (m.take (oV m m.length))=ab m:=by
 have h:m=m.take (oV m m.length)++m.drop (oV m m.length):=(List.take_append_drop _ _).symm;have hz:m.drop (oV m m.length)=aCG (m.length-oV m m.length) 0:=by
  rw[List.eq_replicate_iff];refine⟨by simp,fun x hx=>?_⟩;obtain⟨i,hi⟩:=List.getElem?_of_mem hx;rw[List.getElem?_drop]at hi;have hl:=(List.getElem?_eq_some_iff.1 hi).1;have:=XD m m.length (oV m m.length+i) ω hl;grind
 grind[ez,Uq]
theorem Sj(m:List Nat):DG (m.take (oV m m.length)):=by
 rcases abB m m.length with h|h
 ·rw[h];exact .inl rfl
 ·by_cases h0:oV m m.length=0
  ·rw[h0];exact .inl rfl
  ·refine .inr ?_;grind
theorem OE{m}(h:Lb m):m.take (oV m m.length)=aA (ab m):=by
 rw[←Ig (gH h _) (Sj m),XE]
theorem lq{n k}(h:n<4294967296^k):(aA n).length<=k:=by
 induction k generalizing n with
 |zero=>
  grind[go]
 |succ k ih=>
  grind[qU,aDp,aDw,Nat.div_lt_of_lt_mul,aC6]
theorem iP(n):n<4294967296^ (aA n).length:=by
 grind[di,bh,aT]
theorem Ur{n}(h:n≠0):4294967296^ ((aA n).length-1)<=n:=by
 induction n using Nat.strongRecOn with
 |ind n ih=>
  grind[aA,Nat.succ_pred_eq_of_pos,Nat.add_sub_cancel,aDw]
def tz(n:Nat):Nat:=if h:n=0 then 0 else if n%2=1 then 0 else tz (n/2)+1
termination_by n
decreasing_by omega
theorem xp{n}(h:n%2=1):tz n=0:=by
 rw[tz,dif_neg ω,if_pos h]
theorem agz{n}(h:n≠0):tz (2*n)=tz n+1:=by
 rw[tz,dif_neg ω,if_neg ω,Nat.mul_div_cancel_left n δ]
theorem Lr{n}(k)(h:n≠0):tz (2^k*n)=k+tz n:=by
 induction k with
 |zero=>rw[Nat.pow_zero,Nat.one_mul,aCI]
 |succ k ih=>
  grind[aDw,aC6,aC9,agz,Nat.mul_ne_zero,Nat.ne_of_gt,aC1]
theorem yz{n}(h:n≠0):n=2^tz n*(n/2^tz n)/\n/2^tz n%2=1:=by
 induction n using Nat.strongRecOn with
 |ind n ih=>
  by_cases h1:n%2=1
  ·simp_all[xp,Nat.pow_zero,Nat.div_one,Nat.one_mul]
  ·have hn:n=2*(n/2):=ω
   grind[tz,aDw,aC6,Nat.div_div_eq_div_mul,aC9]
theorem ap1{x k}(y)(h:x≠0)(hx:x<2^k):tz (x+2^k*y)=tz x:=by
 obtain⟨e1,e2⟩:=yz h;generalize x/2^tz x=q at e1 e2;have hle:2^tz x<=x:=by
  conv=>rhs;rw[e1]
  exact Nat.le_mul_of_pos_right _ ω
 have hk:=(Nat.pow_lt_pow_iff_right δ).1 (aDe hle hx);generalize hz:2^ (k-tz x-1)*y=z;have e3:x+2^k*y=2^tz x*(q+2*z):=by
  have e4:2^k=2^tz x*(2*2^ (k-tz x-1)):=by
   rw[←Nat.pow_succ',←aCU];grind
  grind
 have e5:(q+2*z) %2=1:=ω
 rw[e3,Lr _ ω,xp e5,aDm]
theorem Wh{x k}(h:x≠0)(hx:x<2^k):tz x<k:=by
 obtain⟨e1,e2⟩:=yz h;generalize x/2^tz x=q at e1 e2;have hle:2^tz x<=x:=by
  conv=>rhs;rw[e1]
  exact Nat.le_mul_of_pos_right _ ω
 exact(Nat.pow_lt_pow_iff_right δ).1 (aDe hle hx)
def Us:Nat->Nat->Nat
 |0,_=>0
 |k+1,n=>if n%2=1 then 0 else Us k (n/2)+1
theorem ap2:∀k x,x≠0->x<2^k->Us k x=tz x:=by
 intro k;induction k with
 |zero=>omega
 |succ k ih=>
  intro x h0 h1;unfold Us;by_cases h:x%2=1
  ·rw[if_pos h,xp h]
  ·have:=agz (n:=x/2) ω;grind
def tzF(zas:List AV)(hs:List Ob):Option (AV×List Ob):=match zas with
 |[.v (.int .u32 n)]=>if 0<n/\n<4294967296/\hs=[]then some (.v (.int .i64 (Us 32 n.toNat:Nat)),[])else none
 |_=>none
def ovF(k:Nat)(zas:List AV)(hs:List Ob):Option (AV×List Ob):=match zas,hs with
 |[.sl k0 (_::_),.rsl 1000 none k1 _ _],[.ar k2 rows]=>if k0=k/\k1=k/\k2=k then some (B false,[.ar k2 rows])else none
 |_,_=>none
def clF(zas:List AV)(hs:List Ob):Option (AV×List Ob):=match zas,hs with
 |[.sl 1 []],[]=>some (.sl 1 [],[])
 |[.sl 1 (r::rs)],[]=>if(rs.length+1)*8<=140737488355328 then some (.osl 1 (r::rs),[])else none
 |_,_=>none
def XF(k bytes:Nat)(zas:List AV)(hs:List Ob):Option (AV×List Ob):=match zas,hs with
 |[.emp,.v (.int .i64 0),.sl k0 [r]],[]=>if k0=k then some (.osl k [r],[])else none
 |[.rsl 1000 none k1 0 n,.v (.int .i64 i),.sl k0 [r]],[.ar k2 rows]=>
  if k0=k/\k1=k/\k2=k/\n=rows.length/\0<=i/\i<=n/\(n+1)*bytes<=140737488355328 then some (.osl k (rows.take i.toNat++r::rows.drop i.toNat),[.dead])else none
 |_,_=>none
def Wi:List (Nat× (List AV->List Ob->Option (AV×List Ob))):=[(fao,tzF),(fes,ovF 4)]
def ap3:List (Nat× (List AV->List Ob->Option (AV×List Ob))):=(fd8,clF)::(feq,XF 4 64)::Wi
noncomputable def cW:Env:=⟨fun f=>ap3.lookup f,fun f=>ama.lookup f,⟨fun f=>(mdL.lookup f).getD [],fun f=>(shL.lookup f).getD [],fun f=>keepL.contains f,false⟩⟩
noncomputable def az (b:Bool):Mode:={cW.md with nm:=b}
noncomputable def R:jt:=iw cW
theorem Qy{fd:FD}{args:List AV}{hs:List Ob}{r:AV×List Ob}(b:Bool)(hE:cW.E f=none)(hC:cW.C f=some fd)(hk:cW.md.keep f=b)(h1:args.length=fd.np)(h2:hs.length<=1000)
  (hz:kj b fd.rs fd.res hs.length (am R (az b) fd.body (wk args) (ax hs))=some r):R f args hs=some r:=by
 refine K9 hE hC ?_;unfold Xr;rw[if_pos ⟨h1,h2⟩];subst hk;exact hz
theorem aBT(b:Bool):(az b).nm=b:=θ _
abbrev G0(f:FuncId):Prop:=∀ (b:Bool) (h:ae) (d:Nat) (zas:List AV),bF R (az b) h d zas (.fn f [] [])=(cu h [] zas).bind (Jd R (az b) d f)
abbrev CA(f:FuncId)(l:List (List Sh)):Prop:=∀b:Bool,(az b).sh f=l
abbrev CB(f:FuncId)(l:List Nat):Prop:=∀b:Bool,(az b).m f=l
abbrev CC(f:FuncId)(l:Bool):Prop:=∀b:Bool,(az b).keep f=l
theorem AB(h:cW.md.sh f=l):CA f l:=fun _=>h
theorem AC{l:List Nat}(h:cW.md.m f=l):CB f l:=fun _=>h
theorem AD{l:Bool}(h:cW.md.keep f=l):CC f l:=fun _=>h
theorem C3(hm:∀b,(az b).m f=[]):G0 f:=fun b _ d _=>Je d (hm b)
abbrev QL(f:FuncId)(l:List (List Sh)):Prop:=CA f l/\CB f []/\G0 f/\CC f false
abbrev QE(f:FuncId)(l:List (List Sh))(fd:FD):Prop:=QL f l/\cW.E f=none/\cW.C f=some fd
theorem ql(h:(cW.md.sh f,cW.md.m f,cW.md.keep f)=(l,[],false)):QL f l:=by
 simp only[Prod.mk.injEq]at h;exact⟨fun _=>h.1,fun _=>h.2.1,C3 fun _=>h.2.1,fun _=>h.2.2⟩
theorem qe{fd:FD}(h:(cW.md.sh f,cW.md.m f,cW.md.keep f,cW.E f,cW.C f)=(l,[],false,none,some fd)):QE f l fd:=by
 simp only[Prod.mk.injEq]at h;exact⟨⟨fun _=>h.1,fun _=>h.2.1,C3 fun _=>h.2.1,fun _=>h.2.2.1⟩,h.2.2.2⟩
theorem abG:QE feu [gu,ft,ft,[.o 2 []]] abj:=qe κ
theorem aaH:QE fbN [] FH:=qe κ
theorem aaI:QE fbQ [gu,[.o 10 Qn]] mG:=qe κ
theorem Vt:QE fb2 [gu,ft] jV:=qe κ
theorem aaJ:QE fbO [gu,ft,[.o 2 []]] FI:=qe κ
theorem aaK:QE fb0 [gu,ft,ft] BO:=qe κ
theorem Ls:QE fci [gu,ft] wm:=qe κ
theorem acH:QE fev [gu,ft,ft] abl:=qe κ
theorem Sk:QE fbj [aH,aD] kv:=qe κ
theorem ajZ:QE fbM [gu,ft,[.o 4 aD]] Lc:=qe κ
theorem agB:QE fdb [] Jg:=qe κ
theorem aaL:QE fdI [ft,[.o 4 aD],aD] BP:=qe κ
theorem Ut:QE fdj [aD] xW:=qe κ
theorem Kp:QE fdf [aD,aD] xX:=qe κ
theorem aaM:QE fdk [aD] iD:=qe κ
theorem aaN:QE fb6 [gu,[]] sK:=qe κ
theorem att:QL fbV []:=ql κ
theorem Sl:QE fcg [gu,ft] BQ:=qe κ
theorem XG:QE fbZ [gu,ft,[.o 8 aH]] uU:=qe κ
theorem aaO:QE fdG [gu] mH:=qe κ
theorem Vu:QE fbR [aD] pf:=qe κ
theorem aI:QE fed [[.o 8 aH],[]] hH:=qe κ
theorem Vv:cW.C fbS=some xY:=by kernel_rfl
theorem Vw:cW.E fbS=none:=by kernel_rfl
theorem Sn:CA fbS [aH]:=AB κ
theorem Kq:CB fbS []:=AC κ
theorem aj0:G0 fbS:=C3 Kq
theorem FY:CC fbS true:=AD κ
theorem bj:QE fee [[.o 10 Qn],[]] jQ:=qe κ
theorem qV:QE fbT [ft] pg:=qe κ
theorem br:QE fef [[.o 5 DS],[]] kl:=qe κ
theorem Qz:cW.C fbU=some uq:=by kernel_rfl
theorem QA:cW.E fbU=none:=by kernel_rfl
theorem OG:CA fbU [[.o 2 [],.o 0 [],.o 2 [],.o 0 []]]:=AB κ
theorem G1:CB fbU []:=AC κ
theorem agC:G0 fbU:=C3 G1
theorem DY:CC fbU true:=AD κ
theorem Lt:QE fb3 [gu] ey:=qe κ
theorem XH:QE fcX [eU] nH:=qe κ
theorem Vx:QE fcS [eU] sM:=qe κ
theorem OH:QE fbz [aH] jk:=qe κ
theorem QB:cW.C fb5=some Ap:=by kernel_rfl
theorem QC:cW.E fb5=none:=by kernel_rfl
theorem OI:CA fb5 [[.o 2 [],.o 0 [],.o 2 [],.o 0 []]]:=AB κ
theorem G2:CB fb5 []:=AC κ
theorem agD:G0 fb5:=C3 G2
theorem DZ:CC fb5 true:=AD κ
theorem aeq:QE fdP [aD,[]] zK:=qe κ
theorem Vy:cW.C fbP=some pi:=by kernel_rfl
theorem Vz:cW.E fbP=none:=by kernel_rfl
theorem So:CA fbP [aH,[]]:=AB κ
theorem Kr:CB fbP []:=AC κ
theorem aj1:G0 fbP:=C3 Kr
theorem FZ:CC fbP true:=AD κ
theorem Sp:QE fbo [aH,[]] jv:=qe κ
theorem VA:QE fb9 [gu,[.o 10 Qn]] xZ:=qe κ
theorem XI:QE fcc [gu] El:=qe κ
theorem aer:QE fcT [eU,eU] rR:=qe κ
theorem Sr:QE fcd [eU,[.o 8 aH],[]] ww:=qe κ
theorem XJ:QE fcb [gu,eU,[],aH] uW:=qe κ
theorem aaP:QE fce [[],aH,[.o 8 aH]] FJ:=qe κ
theorem Ss:QE fbq [aH,aH,[]] rn:=qe κ
theorem VB:QE fbX [gu,ft] yb:=qe κ
theorem QD:QE fbw [aH] pN:=qe κ
theorem OJ:QE fcp [gu] yW:=qe κ
theorem dv:QE fco [gu,ft,[]] mI:=qe κ
theorem ab2:cW.C fcj=some abk:=by kernel_rfl
theorem acF:cW.E fcj=none:=by kernel_rfl
theorem abD:CA fcj [aH,[]]:=AB κ
theorem Jo:CB fcj []:=AC κ
theorem Z9:G0 fcj:=C3 Jo
theorem aaa:CC fcj true:=AD κ
theorem Su:QE fbi [aH,aH,[]] m8:=qe κ
theorem Ns:QE fcm [] wW:=qe κ
theorem F0:QE fcn [aH,[],[]] sn:=qe κ
theorem Sv:QE fbr [aH] wx:=qe κ
theorem Sw:QE faX [aD] jy:=qe κ
theorem XK:QE faO [aD,aD] kZ:=qe κ
theorem aaQ:QE fdw [aD] FK:=qe κ
theorem aj2:QE fde [[],[.o 2 []],[]] GT:=qe κ
theorem aes:QE fdB [eU,[.o 4 aD]] zL:=qe κ
theorem agE:QE fc8 [aD,aD] BR:=qe κ
theorem QF:QE fdl [[.o 2 []]] vU:=qe κ
theorem aaR:QE fds [[.o 2 []],[.o 2 []]] FL:=qe κ
theorem VC:QE fbY [gu,aH] po:=qe κ
theorem aet:QE fcZ [] vV:=qe κ
theorem Ks:QE fcf [] ye:=qe κ
theorem VD:QE fdA [[.o 2 []],[.o 2 []]] pq:=qe κ
theorem OK:cW.C fch=some yX:=by kernel_rfl
theorem OL:cW.E fch=none:=by kernel_rfl
theorem Nu:CA fch [aH,[]]:=AB κ
theorem F1:CB fch []:=AC κ
theorem afP:G0 fch:=C3 F1
theorem CD:CC fch true:=AD κ
theorem Sx:QE fa8 [aH,[]] BU:=qe κ
theorem Jp:QE fcl [] sO:=qe κ
theorem iK:QE fei [[.o 8 aH],[.o 8 aH],[]] bB:=qe κ
theorem Nv:QE fbl [aH,aH] fj:=qe κ
theorem OM:QE fbB [] yY:=qe κ
theorem Sy:QE fbh [aH,aH,[]] rp:=qe κ
theorem aeu:QE fdx [] DD:=qe κ
theorem aaS:QE fdy [aH] pO:=qe κ
theorem XL:QE fdv [aH,aH] lh:=qe κ
theorem aev:QE fdH [] HC:=qe κ
theorem aS:QE fel [[.o 8 aH],[]] je:=qe κ
theorem cG:QE fem [[.o 10 Qn],[]] kC:=qe κ
theorem cO:QE fen [[.o 5 DS],[]] lI:=qe κ
theorem XM:QE faP [] Af:=qe κ
theorem Jq:cW.C fb4=some sQ:=by kernel_rfl
theorem Jr:cW.E fb4=none:=by kernel_rfl
theorem abE:CA fb4 [aH]:=AB κ
theorem Cd:CB fb4 []:=AC κ
theorem aab:G0 fb4:=C3 Cd
theorem yO:CC fb4 true:=AD κ
theorem kG:QE feg [[.o 2 []],[]] qI:=qe κ
theorem Ih:QE fcY [] wz:=qe κ
theorem VE:QE fc4 [[.o 2 []]] CR:=qe κ
theorem XN:QE fc6 [[.o 2 []],[.o 2 []]] Ag:=qe κ
theorem Lu:QE fbA [aD] jD:=qe κ
theorem VF:QE fdX [[],[.o 4 aD]] sR:=qe κ
theorem VG:QE faN [aD] yf:=qe κ
theorem ON:QE fbF [[.o 8 aH]] so:=qe κ
theorem Js:QE fbJ [] m9:=qe κ
theorem QG:QE fdK [aD,aD,[]] Ar:=qe κ
theorem Ii:QE faT [aD,[]] wA:=qe κ
theorem QH:cW.C fca=some As:=by kernel_rfl
theorem QI:cW.E fca=none:=by kernel_rfl
theorem OP:CA fca [ft]:=AB κ
theorem G3:CB fca []:=AC κ
theorem agF:G0 fca:=C3 G3
theorem D0:CC fca true:=AD κ
theorem aaT:QE fc7 [eU,eU] wX:=qe κ
theorem XO:QE fc5 [] Kf:=qe κ
theorem XP:QE faR [aD,aD] jO:=qe κ
theorem aac:QL fd8 [[.o 2 []]]:=ql κ
theorem aW:QE fc0 [[],[.o 2 []],aD] ic:=qe κ
theorem bD:QE fc2 [] gD:=qe κ
theorem XQ:QE faq [eU,[.o 8 aH],[]] u9:=qe κ
theorem aaU:QE fb8 [gu,eU] BW:=qe κ
theorem QJ:QE fbE [aH,aH,[],[],[]] At:=qe κ
theorem rF:QE fdQ [aD,aD,[]] Au:=qe κ
theorem vE:QE fdR [aD,aD,[]] CS:=qe κ
theorem VH:QE faU [aD] pu:=qe κ
theorem OQ:QE fbs [aD] y5:=qe κ
theorem aaV:QE fb1 [gu,ft,ft] BX:=qe κ
theorem aaW:QE fbW [gu,ft,ft] BY:=qe κ
theorem Sz:QE fby [aH,aH,[]] BZ:=qe κ
theorem VJ:QE fb7 [gu,ft,aH] yg:=qe κ
theorem uG:QE fcq [gu,ft,ft] kS:=qe κ
theorem rG:QE fdM [aD,aD,[]] Av:=qe κ
theorem vF:QE fdN [aD,aD,[]] CT:=qe κ
theorem OR:QE fbt [aH,[],[]] gI:=qe κ
theorem XR:QE faS [aD] ve:=qe κ
theorem OS:QE fa2 [aD] jl:=qe κ
theorem OT:QE fa0 [aD,aD] nP:=qe κ
theorem aew:QE fdt [[.o 2 []]] HD:=qe κ
theorem aaX:QE fdu [[.o 2 []]] FN:=qe κ
theorem aaY:QE fdr [[.o 2 []],[]] B0:=qe κ
theorem aaZ:QE fdC [eU] pT:=qe κ
theorem aa0:QE fdF [aD,aD,[]] FO:=qe κ
theorem VK:QE fc9 [aD] yj:=qe κ
theorem agG:QE fdi [aD,aD] uu:=qe κ
theorem XS:QE fcR [[],aD] Ai:=qe κ
theorem agH:QE fdD [[.o 2 []]] Ji:=qe κ
theorem QK:QE fbb [aH,[]] Aw:=qe κ
theorem KE:QE fbd [aD] uv:=qe κ
theorem QM:QE fba [aH,aH] Ax:=qe κ
theorem F3:QE fbe [aD,[]] su:=qe κ
theorem VL:QE fdL [aD,aD,[]] CU:=qe κ
theorem QN:QE fbH [aD,[],aD,[]] pU:=qe κ
theorem aex:QE fdz [aD] vX:=qe κ
theorem agI:QE fda [aD,aD] mu:=qe κ
theorem Lv:QE faY [[],[.o 2 []],[]] qC:=qe κ
theorem fW:QE feo [[.o 2 []],[]] sU:=qe κ
theorem Lw:QE faJ [] lJ:=qe κ
theorem EX:QE fea [[.o 2 []],[.o 2 []]] jP:=qe κ
theorem QO:QE fd0 [] uw:=qe κ
theorem VN:QE fa5 [[.o 2 []]] CV:=qe κ
theorem N9:QE fdU [aD,aD,[],[]] pW:=qe κ
theorem Nw:QE fa1 [] rz:=qe κ
theorem OU:QE faZ [aD] sv:=qe κ
theorem VO:QE fcv [[.o 2 []],[.o 2 []]] yk:=qe κ
theorem pC:cW.C fd6=some dT:=by kernel_rfl
theorem pF:cW.E fd6=none:=by kernel_rfl
theorem gS:CA fd6 [[.o 5 [.o 2 [],.o 0 [],.o 2 [],.o 0 []]],[.o 2 []],[]]:=AB κ
theorem ij:CB fd6 [3,0,0]:=AC κ
theorem gy:CC fd6 false:=AD κ
theorem HM:QE fc1 [DS,[.o 2 []]] qL:=qe κ
theorem nj:CA feq [[],[],[.o 5 [.o 2 [],.o 0 [],.o 2 [],.o 0 []]]]:=AB κ
theorem nZ:CB feq [2,0,0]:=AC κ
theorem mj:CC feq false:=AD κ
theorem VP:QE fc3 [aD] CW:=qe κ
theorem XT:QE faM [aD,aD] vg:=qe κ
theorem zo:cW.C feh=some iU:=by kernel_rfl
theorem zp:cW.E feh=none:=by kernel_rfl
theorem yA:CA feh []:=AB κ
theorem zu:CB feh [2,0,0]:=AC κ
theorem mq:CC feh false:=AD κ
theorem XU:QE faw [eU,[.o 8 aH],[]] vj:=qe κ
theorem VQ:QE faI [] CX:=qe κ
theorem QP:QE fbn [aH,aH] iG:=qe κ
theorem VR:QE fat [eU,[.o 8 aH],[]] ym:=qe κ
theorem kV:QE fap [eU,[.o 8 aH],[]] iI:=qe κ
theorem XV:QE fcV [eU,[]] Aj:=qe κ
theorem XW:QE fcU [eU,[]] qR:=qe κ
theorem aa1:QE fdY [aD,aD,[],[]] sW:=qe κ
theorem aey:QE fcW [eU,eU] DE:=qe κ
theorem aez:QE fcQ [eU,eU] DF:=qe κ
theorem AE:QE fbC [aH,[]] nQ:=qe κ
theorem aa2:QE fdW [aD,aD,[],[]] s7:=qe κ
theorem SA:QE fbg [aH] wB:=qe κ
theorem Ij:QE fbD [aD,[],[],[]] rA:=qe κ
theorem Cv:QE fd9 [[.o 2 []]] kD:=qe κ
theorem XX:QE faW [aD] vA:=qe κ
theorem VU:QE fct [[.o 2 []],[.o 2 []]] s9:=qe κ
theorem OV:QE fa4 [[.o 2 []],[]] y6:=qe κ
theorem aeA:QE fdE [[],DS] rS:=qe κ
theorem agJ:QE fdc [aD,aD] B4:=qe κ
theorem aeB:QE fdo [[.o 2 []],[]] HF:=qe κ
theorem aeC:QE fdq [[.o 2 []],[.o 2 []]] HG:=qe κ
theorem VV:QE fdm [[.o 2 []],[.o 2 []]] yp:=qe κ
theorem aa3:QE fdp [[.o 2 []],[.o 2 []]] FQ:=qe κ
theorem OW:QE fbv [aH,[]] sx:=qe κ
theorem XY:QE faL [aD] vC:=qe κ
theorem OX:QE fbf [] y7:=qe κ
theorem OY:QE fbc [] y8:=qe κ
theorem OZ:QE fbu [aH,[]] nR:=qe κ
theorem yQ:QE fad [[],aH,[]] kE:=qe κ
theorem aeD:QE fdh [aD] zO:=qe κ
theorem agK:QE fdd [aD] EW:=qe κ
theorem O0:QE fa7 [[.o 2 []]] y9:=qe κ
theorem X1:QE fa3 [[.o 2 []]] En:=qe κ
theorem VW:QE fcx [[.o 2 []],[]] te:=qe κ
theorem C4:QE fd7 [[.o 2 []]] lA:=qe κ
theorem O1:QE faK [] ze:=qe κ
theorem SB:QE fcs [[.o 2 []]] wD:=qe κ
theorem VX:QE fd1 [aD,[],[]] yq:=qe κ
theorem aa4:QE fd5 [aD,aD,[]] w9:=qe κ
theorem SC:QE fd4 [[],[.o 2 [],.o 0 [],.o 0 []],[],[]] rB:=qe κ
theorem SD:QE fcF [[.o 2 [.o 2 []]]] B5:=qe κ
theorem SE:QE fcC [[.o 2 []]] wE:=qe κ
theorem VY:QE fcH [[.o 2 []],[.o 2 []]] C0:=qe κ
theorem SF:QE fcP [[.o 2 []]] B6:=qe κ
theorem X3:QE fa6 [aD,aD] nJ:=qe κ
theorem SG:QE fau [eU,[.o 8 aH]] rC:=qe κ
theorem QQ:QE fbI [aD,aD] uA:=qe κ
theorem QR:QE fbG [aD,aD] uB:=qe κ
theorem VZ:QE faH [aH,[],[]] yr:=qe κ
theorem SH:QE fas [eU] rD:=qe κ
theorem X4:QE faG [aD,aD,aH,[]] iN:=qe κ
theorem C5:QE fax [eU,[]] B8:=qe κ
theorem jo:QE faE [[],[],aH] xc:=qe κ
theorem fC:QE faz [] qM:=qe κ
theorem QS:QE fbk [aH,aH] uC:=qe κ
theorem X5:QE fdS [aD,[]] iO:=qe κ
theorem X6:QE faV [aD,aD] vD:=qe κ
theorem zA:QE feb [[.o 2 [.o 5 DS]]] iW:=qe κ
theorem O3:QE fcu [[.o 2 []],[.o 2 []]] zg:=qe κ
theorem aa5:QE fd2 [[.o 2 []],[]] FS:=qe κ
theorem SI:QE fbp [aH] wF:=qe κ
theorem SJ:QE fbm [aH] B9:=qe κ
theorem F4:QE fbK [aD,[],[],[],[]] sz:=qe κ
theorem aeE:QE fdT [aD,[]] HI:=qe κ
theorem X7:QE fdO [aD,[]] Eo:=qe κ
theorem V0:QE fcw [[.o 2 []],[]] pz:=qe κ
theorem Jt:QE fac [[],aH] th:=qe κ
theorem Nx:QE fbx [aH,[]] mJ:=qe κ
theorem aa6:QL fao []:=ql κ
theorem V1:QE fcL [[.o 2 []],[]] yu:=qe κ
theorem X8:QE faj [] qT:=qe κ
theorem aeF:QE fdZ [aD] HJ:=qe κ
theorem aa7:QE fd3 [[.o 2 []],[]] Cb:=qe κ
theorem V3:QE fcr [[.o 2 []],[.o 2 []]] yv:=qe κ
theorem V4:QE fcy [[.o 2 []],[.o 2 []]] tj:=qe κ
theorem aa8:QE fdV [[.o 2 [],.o 0 [],.o 0 []],[],[]] xd:=qe κ
theorem eA:QE fec [[.o 2 [.o 2 []]],[]] lk:=qe κ
theorem F5:QE fcG [[.o 2 []]] zi:=qe κ
theorem F6:QE fav [aH] sA:=qe κ
theorem GD:QE fep [[.o 2 []],[]] pZ:=qe κ
theorem tv:QE fer [[.o 8 aH],[]] fF:=qe κ
theorem Ny:cW.C faD=some xf:=by kernel_rfl
theorem Nz:cW.E faD=none:=by kernel_rfl
theorem agL:CA faD []:=AB κ
theorem n7:CB faD []:=AC κ
theorem aeG:G0 faD:=C3 n7
theorem Ce:CC faD true:=AD κ
theorem bK:QE faB [] qD:=qe κ
theorem fH:QE faF [] uD:=qe κ
theorem O4:cW.C fay=some zj:=by kernel_rfl
theorem O5:cW.E fay=none:=by kernel_rfl
theorem NA:CA fay [[],aH,aH]:=AB κ
theorem AF:CB fay []:=AC κ
theorem afQ:G0 fay:=C3 AF
theorem CE:CC fay true:=AD κ
theorem O6:cW.C faC=some zk:=by kernel_rfl
theorem O7:cW.E faC=none:=by kernel_rfl
theorem NB:CA faC [[],aH,aH]:=AB κ
theorem AG:CB faC []:=AC κ
theorem afR:G0 faC:=C3 AG
theorem CF:CC faC true:=AD κ
theorem dC:QE faA [] oM:=qe κ
theorem qh:QE fej [] fR:=qe κ
theorem F7:QE fcB [[.o 2 []],[.o 2 []]] sC:=qe κ
theorem V5:QE fcJ [[.o 2 []],[]] C1:=qe κ
theorem Ju:QE fab [[],aH,aH] tq:=qe κ
theorem Jv:QE faa [[],aH,aH] tr:=qe κ
theorem Jw:QE fae [[],aH,aH] tu:=qe κ
theorem HN:QE faf [[],aH] lF:=qe κ
theorem NC:QE fa9 [aH] xk:=qe κ
theorem V6:QE fcz [[.o 2 []],[.o 2 []]] yw:=qe κ
theorem V7:QE fcM [[.o 2 []],[.o 2 []]] C2:=qe κ
theorem V8:QE faQ [[],[.o 2 []],[]] pA:=qe κ
theorem dF:QE fek [[.o 2 [.o 2 []]],[]] mL:=qe κ
theorem aeH:QE fak [] HL:=qe κ
theorem QT:QE fcK [[.o 2 []],[]] Az:=qe κ
theorem Ik:QE fai [] rT:=qe κ
theorem QU:QE fcE [] uF:=qe κ
theorem SK:cW.C fcO=some Cc:=by kernel_rfl
theorem SL:cW.E fcO=none:=by kernel_rfl
theorem QV:CA fcO [[.o 2 []],[.o 2 []],[]]:=AB κ
theorem SM:CB fcO [1,0,0]:=AC κ
theorem EJ:CC fcO false:=AD κ
theorem X9:QE fag [] Es:=qe κ
theorem Ya:QE fan [] Et:=qe κ
theorem ap4:QL fal []:=ql κ
theorem Yb:QE fam [] Eu:=qe κ
theorem Yc:QE fah [] Ew:=qe κ
theorem QW:QE fcA [] AA:=qe κ
attribute [go_sem] aBT abG aaH aaI Vt aaJ aaK Ls acH Sk ajZ agB aaL Ut Kp aaM aaN att Sl XG aaO Vu aI Sn Kq aj0 FY bj qV br OG G1 agC DY Lt XH Vx OH OI G2 agD DZ aeq So Kr aj1 FZ Sp VA XI aer Sr XJ aaP Ss VB QD OJ dv abD Jo Z9 aaa Su Ns F0 Sv Sw XK aaQ aj2 aes agE QF aaR VC aet Ks VD Nu F1 afP CD Sx Jp iK Nv OM Sy aeu aaS XL aev aS cG cO XM abE Cd aab yO kG Ih VE XN Lu VF VG ON Js QG Ii OP G3 agF D0 aaT XO XP aac aW bD XQ aaU QJ rF vE VH OQ aaV aaW Sz VJ uG rG vF OR XR OS OT aew aaX aaY aaZ aa0 VK agG XS agH QK KE QM F3 VL QN aex agI Lv fW Lw EX QO VN N9 Nw OU VO gS ij gy HM nj nZ mj VP XT yA zu mq XU VQ QP VR kV XV XW aa1 aey aez AE aa2 SA Ij Cv XX VU OV aeA agJ aeB aeC VV aa3 OW XY OX OY OZ yQ aeD agK O0 X1 VW C4 O1 SB VX aa4 SC SD SE VY SF X3 SG QQ QR VZ SH X4 C5 jo fC QS X5 X6 zA O3 aa5 SI SJ F4 aeE X7 V0 Jt Nx aa6 V1 X8 aeF aa7 V3 V4 aa8 eA F5 F6 GD tv agL n7 aeG Ce bK fH NA AF afQ CE NB AG afR CF dC qh F7 V5 Ju Jv Jw HN NC V6 V7 V8 dF aeH QT Ik QU QV SM EJ X9 Ya ap4 Yb Yc QW
attribute [go_sem_proc ↓] reduceIte
attribute [go_sem_proc] Nat.reduceEqDiff Nat.reduceMul Nat.reduceAdd Nat.reduceLeDiff Nat.reduceLT Nat.reduceBEq
end Go.Ab
