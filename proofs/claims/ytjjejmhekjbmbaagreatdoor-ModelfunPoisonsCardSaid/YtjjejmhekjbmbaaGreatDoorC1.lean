/-
  A law of tapes on models holds at every input that the statement speaks of, under the conditions that its card names. Part C1.
-/
import Derived.Test.YtjjejmhekjbmbaaGreatDoorProg
import Derived.KernelRfl
import Derived.Test.YtjjejmhekjbmbaaGreatDoorB1
open Nat renaming add_zero → aBR, le_refl → aBh, lt_of_le_of_lt → aBU, mul_assoc → aBH, mul_comm → aBD, pow_add → aBx, pow_succ → aB6, two_pow_pos → aBA, zero_add → aBi
open List renaming cons_append → aBF, getD_eq_getElem?_getD → aCl, getElem?_of_mem → aB5, length_cons → aB0, mem_of_getElem? → aBs, replicate → aBg
set_option linter.all false
namespace Go.Ab
open Go
open Go.Proofs
set_option maxRecDepth 100000
set_option maxHeartbeats 4000000
variable{f:FuncId}{l:List (List Sh)}
def aL:List Sh:=[.o 0 [],.o 2 [],.o 0 []]
theorem aAZ:aL=[.o 0 [],.o 2 [],.o 0 []]:=θ _
def aF:List Sh:=[.o 0 [],.o 2 [],.o 0 [],.o 0 [],.o 2 [],.o 0 [],.o 0 []]
theorem aA0:aF=[.o 0 [],.o 2 [],.o 0 [],.o 0 [],.o 2 [],.o 0 [],.o 0 []]:=θ _
def df:List Sh:=[.o 0 [],.o 5 [.o 2 [],.o 0 [],.o 2 [],.o 0 []],.o 0 [],.o 2 [],.o 0 [],.o 0 [],.o 2 [],.o 0 [],.o 0 []]
theorem aA1:df=[.o 0 [],.o 5 [.o 2 [],.o 0 [],.o 2 [],.o 0 []],.o 0 [],.o 2 [],.o 0 [],.o 0 [],.o 2 [],.o 0 [],.o 0 []]:=θ _
def eH:List Sh:=[.o 8 aF,.o 0 [],.o 0 []]
theorem aA2:eH=[.o 8 aF,.o 0 [],.o 0 []]:=θ _
def WX:List Sh:=[.o 0 [],.o 5 [],.o 0 [],.o 2 [],.o 0 [],.o 0 [],.o 2 [],.o 0 [],.o 0 []]
theorem aA3:WX=[.o 0 [],.o 5 [],.o 0 [],.o 2 [],.o 0 [],.o 0 [],.o 2 [],.o 0 [],.o 0 []]:=θ _
def fH:List Sh:=[.o 0 [],.o 5 [.o 2 [],.o 0 [],.o 2 [],.o 0 []]]
theorem aA4:fH=[.o 0 [],.o 5 [.o 2 [],.o 0 [],.o 2 [],.o 0 []]]:=θ _
def Fc:List Sh:=[.o 2 [],.o 0 [],.o 2 [],.o 0 []]
theorem aA5:Fc=[.o 2 [],.o 0 [],.o 2 [],.o 0 []]:=θ _
noncomputable section
def zs:Nat->Nat->Nat->List Nat
 |0,_,_=>[]
 |f+1,i,n=>if n=0 then []else if n%2=1 then i::zs f (i+1) (n/2)else zs f (i+1) (n/2)
def zd:Nat->Nat->Nat->List Nat
 |0,_,_=>[]
 |f+1,b,n=>if n=0 then []else(n%b-1)::zd f b (n/b)
def zz(l:List Nat):NLL:=l.map fun n=>if n%2=0 then zs 600 0 (n/2)else zd 600 (if n%4=1 then 512 else 8388608) (n/4)
def g0(f:Func)(l:List Nat):Cmd:=gK Tryz.prog [] f (zz l) 0 []
def g1(H:List (Nat×Nat))(f:Func)(l:List Nat)(k:Nat)(L:List Cmd):Cmd:=gK Tryz.prog H f (zz l) k L
def zi:List Nat:=[240,1264,2288,34359738608,37,12373270210577,37,492581209243888,224,492581209243888,224,1055531162665200,492581209243888,492581209252080,492581209260272,2881157467322611410961,37,492581209243888,32829,183803113538610262051032964516784831281459049688466589680803369747623893098552926688322499844160779225933841,37]
def kE:Cmd:=ak (g1 [(45,3)] Tryz.f3 zi 1 [])
def Hx(a:Cmd):Cmd:=ak (g1 [(45,3)] Tryz.f3 zi 0 [a])
def ic:Cmd:=Hx kE
def ft:FD:=⟨4,[[]],[.t 8],ic⟩
def kF:FD:=⟨1,[[]],[.t 2],ak (g0 Tryz.f4 [4,8])⟩
def kG:FD:=⟨2,[[]],[.t 3],ak (g0 Tryz.f5 [12,16])⟩
def kh:FD:=⟨2,[[]],[.t 4],ak (g0 Tryz.f6 [6,21])⟩
def jP:FD:=⟨2,[[]],[.t 3],ak (g0 Tryz.f7 [12,16])⟩
def Fd:FD:=⟨0,[[]],[.t 0],ak (g0 Tryz.f8 [0,4,12,147790688873647968261,2,222858510437527132578002969])⟩
def j5:FD:=⟨2,[[]],[.t 4],ak (g0 Tryz.f9 [24,38805517,49241,21,21])⟩
def Fe:FD:=⟨4,[df],[.cell 8 9 true],ak (g0 Tryz.f10 [902,1924,896,3972,37,67460,37,4196224,37,134219648,37,4294969216,37,19873677341,37,37])⟩
def qQ:FD:=⟨3,[df],[.cell 6 9 true],ak (g0 Tryz.f11 [240,1264,29,29,2686461957])⟩
def lW:List Nat:=[6,774,0,774,4007,1798,774,838,131910,21,774,21]
def ue:Cmd:=ak (g1 [] Tryz.f12 lW 1 [])
def wu(a:Cmd):Cmd:=ak (g1 [] Tryz.f12 lW 0 [a])
def wv:Cmd:=wu ue
def lX:FD:=⟨2,[[]],[.t 4],wv⟩
def sv:FD:=⟨2,[df],[.cell 4 9 true],ak (g0 Tryz.f13 [44,232,4194408,21,21,6])⟩
def ZK:FD:=⟨0,[eH],[.cell 0 3 true],ak (g0 Tryz.f14 [2,2])⟩
def vV:FD:=⟨2,[df],[.cell 4 9 true],ak (g0 Tryz.f15 [56,21])⟩
def kH:FD:=⟨2,[[]],[.t 4],ak (g0 Tryz.f16 [24,8216,21,21])⟩
def uL:FD:=⟨3,[aF],[.cell 6 7 true],ak (g0 Tryz.f17 [184,524472,29,29,5375016985])⟩
def IJ:FD:=⟨1,[aL],[.cell 2 3 true],ak (g0 Tryz.f18 [10,26,282,26,8])⟩
def gO:FD:=⟨2,[df],[.cell 4 9 true],ak (g0 Tryz.f19 [56,120,65592,21,21])⟩
def ej:FD:=⟨1,[[]],[.t 2],ak (g0 Tryz.f20 [4,20,38805513,8,8])⟩
def JO:List Nat:=[4,38921,8,14680068,0,14680068,4,31457284,14680068,14680116,70368758857780,8,36028797033644084,8,19253824628745,0,8,14680068,8]
def eU:Cmd:=ak (g1 [] Tryz.f21 JO 1 [])
def WY(a:Cmd):Cmd:=ak (g1 [] Tryz.f21 JO 0 [a])
def sx:Cmd:=WY eU
def nK:FD:=⟨1,[[]],[.t 2],sx⟩
def sy:FD:=⟨1,[[]],[.t 2],ak (g0 Tryz.f22 [4,4100,8,8])⟩
def jk:FD:=⟨1,[[]],[.t 2],ak (g0 Tryz.f23 [4,68,20,8,8])⟩
def zT:FD:=⟨2,[[]],[.t 3],ak (g0 Tryz.f24 [12,16])⟩
def zj:FD:=⟨2,[[]],[.t 4],ak (g0 Tryz.f25 [12,21])⟩
def D9:List Nat:=[184,33554616,29,440,147790688873647968261,6442451376,384,6442451376,432,15032385968,6442451376,6442451376,6442451376,29]
def jE:Cmd:=ak (g1 [] Tryz.f26 D9 1 [])
def NP(a:Cmd):Cmd:=ak (g1 [] Tryz.f26 D9 0 [a])
def mj:Cmd:=NP jE
def jl:FD:=⟨3,[df],[.cell 6 9 true],mj⟩
def Bo:FD:=⟨2,[df],[.cell 4 9 true],ak (g0 Tryz.f27 [56,568,21,21])⟩
def Bp:FD:=⟨2,[df],[.cell 4 9 true],ak (g0 Tryz.f28 [56,21])⟩
def Bq:FD:=⟨2,[df],[.cell 4 9 true],ak (g0 Tryz.f29 [56,21])⟩
def zU:FD:=⟨2,[df],[.cell 4 9 true],ak (g0 Tryz.f30 [56,568,21,21])⟩
def yB:FD:=⟨1,[df],[.cell 2 9 true],ak (g0 Tryz.f31 [12,8,6])⟩
def Br:FD:=⟨3,[df],[.cell 6 9 true],ak (g1 [(62,0)] Tryz.f32 [240,262384,29,496,2032,8176,207876541078935957183952707548336827679556965777209474723098344059011397165531161,29,85492934459311453833681162965897973184398650618279305516849929998313878030824062863365] 0 [])⟩
def vC:FD:=⟨2,[fH,[]],[.cell 4 2 true,.t 5],ak (g0 Tryz.f33 [38,8388646,96,166,162,416,288,96])⟩
def DU:FD:=⟨1,[df],[.cell 2 9 true],ak (g0 Tryz.f34 [12,8,36])⟩
def xH:FD:=⟨1,[aF],[.cell 2 7 true],ak (g0 Tryz.f35 [10,8])⟩
def ZL:FD:=⟨3,[aF],[.cell 6 7 true],ak (g0 Tryz.f36 [142,396,1408,29])⟩
def Dt:List Nat:=[184,440,2097592,29,952,1944,1221618356052292387408201013104561021265925,3992,8088,67813441309699098203400197,16280,7064,16280,11715398520034891269235039659183444786104359714816019,70368744193944,16280,16280,27893361792949561179578280454149,16280,22936,37272,47164262659688194033083858711547690275463630405386697191445,4504,69776,58123108321164106742636549,49408925725,29,29]
def eW:Cmd:=ak (g1 [] Tryz.f37 Dt 1 [])
def MK(a:Cmd):Cmd:=ak (g1 [] Tryz.f37 Dt 0 [a])
def jn:Cmd:=MK eW
def fW:FD:=⟨3,[df],[.cell 6 9 true],jn⟩
def yC:FD:=⟨3,[aF],[.cell 5 7 true],ak (g0 Tryz.f38 [92,25,1409579279726609])⟩
def ng:FD:=⟨3,[aF],[.cell 6 7 true],ak (g0 Tryz.f39 [184,4194488,29,29])⟩
def Bs:FD:=⟨2,[aF],[.cell 4 7 true],ak (g0 Tryz.f40 [44,2097196,21,21,80])⟩
def AB:List Nat:=[38,102,230,96,230,96,2278,230,230,10,230,21]
def dF:Cmd:=ak (g1 [] Tryz.f41 AB 1 [])
def IK(a:Cmd):Cmd:=ak (g1 [] Tryz.f41 AB 0 [a])
def Bu:Cmd:=IK dF
def sz:FD:=⟨2,[aF],[.cell 4 7 true],Bu⟩
def jy:FD:=⟨1,[[]],[.t 2],ak (g0 Tryz.f42 [4,132,8,8])⟩
def lA:FD:=⟨2,[[]],[.t 4],ak (g0 Tryz.f43 [24,32792,21,216,12,88,1048792,21,16777304,21,268435544,21,21])⟩
def xI:FD:=⟨2,[[]],[.t 4],ak (g0 Tryz.f44 [12,21])⟩
def du:List Nat:=[14,32782,29,458764,0,458764,0,983052,458764,459532,460300,2147942412,29,458764,29]
def aI:Cmd:=ak (g1 [] Tryz.f45 du 1 [])
def iD(a:Cmd):Cmd:=ak (g1 [] Tryz.f45 du 0 [a])
def cz:Cmd:=iD aI
def bD:FD:=⟨3,[[]],[.t 6],cz⟩
def eX:FD:=⟨2,[[]],[.t 4],ak (g0 Tryz.f46 [24,8216,21,21])⟩
def yD:FD:=⟨0,[aF],[.cell 0 7 true],ak (g0 Tryz.f47 [2,2])⟩
def qR:FD:=⟨3,[aF],[.cell 6 7 true],ak (g0 Tryz.f48 [184,2097336,29,952,3968,29])⟩
def vW:FD:=⟨3,[aF],[.cell 6 7 true],ak (g0 Tryz.f49 [156,2204,29,29])⟩
def Gs:FD:=⟨3,[aL],[.cell 6 3 true],ak (g0 Tryz.f50 [142,142,8334,29,398,29])⟩
def xJ:FD:=⟨2,[aF],[.cell 4 7 true],ak (g0 Tryz.f51 [56,1080,21,21,5912938525])⟩
def pJ:FD:=⟨1,[[]],[.t 2],ak (g0 Tryz.f52 [4,0,20,8,516,8,57,8,8])⟩
def ni:FD:=⟨3,[aF],[.cell 5 7 true],ak (g0 Tryz.f53 [92,196,131933179001068787462701095254350946082009053593079813,1048768,25,25])⟩
def wE:FD:=⟨1,[aF],[.cell 2 7 true],ak (g0 Tryz.f54 [10,8])⟩
def rQ:FD:=⟨3,[aF],[.cell 6 7 true],ak (g0 Tryz.f55 [156,668,29,29,24])⟩
def vX:FD:=⟨1,[aF],[.cell 2 7 true],ak (g0 Tryz.f56 [12,140,8,8,40])⟩
def zH:FD:=⟨1,[aL],[.cell 2 3 true],ak (g0 Tryz.f57 [10,26,282,26,8])⟩
def ie:FD:=⟨2,[[]],[.t 4],ak (g0 Tryz.f58 [6,21])⟩
def sA:FD:=⟨2,[[]],[.t 3],ak (g0 Tryz.f59 [12,16])⟩
def qx:FD:=⟨2,[[]],[.t 4],ak (g0 Tryz.f60 [6,21])⟩
def vY:FD:=⟨1,[[]],[.t 2],ak (g0 Tryz.f61 [2,8])⟩
def Hy:List Nat:=[2,18,912,16,912,0,1936,912,976,912,912,8]
def ug:Cmd:=ak (g1 [] Tryz.f62 Hy 1 [])
def UR(a:Cmd):Cmd:=ak (g1 [] Tryz.f62 Hy 0 [a])
def JP:Cmd:=UR ug
def Cp:FD:=⟨1,[[]],[.t 2],JP⟩
def zJ:FD:=⟨2,[[]],[.t 4],ak (g0 Tryz.f63 [6,70,8262,21,21])⟩
def jF:FD:=⟨1,[[]],[.t 2],ak (g0 Tryz.f64 [4,8])⟩
def Hz:List Nat:=[6,1794,2,1794,0,3842,1794,1922,67330,21,1794,81,21,21]
def pK:Cmd:=ak (g1 [] Tryz.f65 Hz 1 [])
def US(a:Cmd):Cmd:=ak (g1 [] Tryz.f65 Hz 0 [a])
def zK:Cmd:=US pK
def sB:FD:=⟨2,[[]],[.t 4],zK⟩
def xK:FD:=⟨1,[[]],[.t 2],ak (g0 Tryz.f66 [4,68,8,8])⟩
def pj:FD:=⟨2,[df],[.cell 4 9 true],ak (g0 Tryz.f67 [56,1048632,21,120,504,21,22827701386266471550190255878149])⟩
def oL:FD:=⟨2,[[]],[.t 4],ak (g0 Tryz.f68 [24,25,21])⟩
def ML:FD:=⟨3,[aF],[.cell 5 7 true],ak (g0 Tryz.f69 [92,604,25,196,275722588402556246551766419140865500696406978337543123874535435853793374177851351673606252042222688038559749,31471641,25,25])⟩
def PL:FD:=⟨2,[aF],[.cell 4 7 true],ak (g0 Tryz.f70 [44,32812,21,21,80])⟩
def qS:FD:=⟨3,[aF],[.cell 6 7 true],ak (g0 Tryz.f71 [184,131256,29,29])⟩
def wF:FD:=⟨3,[df],[.cell 6 9 true],ak (g0 Tryz.f72 [240,29])⟩
def Du:List Nat:=[92,220,24796,220,24796,2363544426646582467756051,57564,24796,25052,24796,3763349509,24796,25,686241147349996954289048905084501120374501550085]
def IL:Cmd:=ak (g1 [] Tryz.f73 Du 1 [])
def MN(a:Cmd):Cmd:=ak (g1 [] Tryz.f73 Du 0 [a])
def MO:Cmd:=MN IL
def KL:FD:=⟨3,[aF],[.cell 5 7 true],MO⟩
def NQ:FD:=⟨2,[aF],[.cell 4 7 true],ak (g0 Tryz.f74 [44,16777260,21,236,992,21])⟩
def rR:FD:=⟨2,[aF],[.cell 4 7 true],ak (g0 Tryz.f75 [44,8236,21,236,992,21])⟩
def Dd:List Nat:=[56,56,131128,96,8388664,24576,96,184,985162418487472,160,985162418487472,5555864168503512611684367,2111062325330096,985162418487472,985162418487984,127085951984861872,985162418487472,127085951984861872,46605966620266647169690650017807,271201140060717744,127085951984861872,127085951984863920,127085951984876208,590422896310690519728,96,127085951984884400,264452650126652116849328,127085951984882352,264452650126652116849328,30130321034817237314439143818217433437795630366851087,566684105030309410525872,264452650126652116849328,264452650126652116947632,264452650126652116849328,264452650126652116849328,127085951984861872,127085951984861872,985162418487472,96]
def lB:Cmd:=ak (g1 [] Tryz.f76 Dd 1 [])
def UT(a:Cmd):Cmd:=ak (g1 [] Tryz.f76 Dd 2 [a])
def lC:Cmd:=UT lB
def UU(a b:Cmd):Cmd:=ak (g1 [] Tryz.f76 Dd 3 [a,b])
def uM:Cmd:=UU lB lC
def adk(a b c:Cmd):Cmd:=ak (g1 [] Tryz.f76 Dd 0 [a,b,c])
def xL:Cmd:=adk lB lC uM
def rC:FD:=⟨2,[fH,[]],[.cell 4 2 true,.t 5],xL⟩
def uN:FD:=⟨4,[df],[.cell 8 9 true],ak (g0 Tryz.f77 [872,17248,37,7968,33558304,37,37,66])⟩
def KM:List Nat:=[170,7330,160,7330,160,15522,7330,7842,7330,7330,29]
def pn:Cmd:=ak (g1 [] Tryz.f78 KM 1 [])
def ZM(a:Cmd):Cmd:=ak (g1 [] Tryz.f78 KM 0 [a])
def Nu:Cmd:=ZM pn
def Ff:FD:=⟨3,[aF],[.cell 6 7 true],Nu⟩
def JQ:FD:=⟨1,[[]],[.t 2],ak (g0 Tryz.f79 [2,8])⟩
def ig:FD:=⟨3,[],[],ak (g1 [(83,1),(35,0)] Tryz.f80 [70,32838,454,134217926,0,10695780211066255578661069196795822789044396312347445063130614075,1666,554197069564870686741,0,36516673541,0,39737899013,0,0,0] 0 [])⟩
def gG:FD:=⟨1,[fH,[]],[.cell 2 2 true,.t 3],ak (g0 Tryz.f81 [10,10,42,24,96,65546,24,24])⟩
def yE:FD:=⟨1,[aF],[.cell 2 7 true],ak (g0 Tryz.f82 [12,76,8,8])⟩
def WZ:FD:=⟨2,[aL,[]],[.cell 4 3 true,.t 5],ak (g0 Tryz.f83 [44,16428,96,96])⟩
def jz:FD:=⟨2,[aL],[.cell 4 3 true],ak (g0 Tryz.f84 [44,131116,21,232,536871016,21,424,23630718989,21,21])⟩
def Bv:FD:=⟨3,[df],[.cell 6 9 true],ak (g0 Tryz.f85 [240,33008,29,1008,29,5370826757])⟩
def Bw:FD:=⟨3,[df],[.cell 6 9 true],ak (g0 Tryz.f86 [240,33008,29,1008,29,5370826757])⟩
def Bz:FD:=⟨3,[aF],[.cell 6 7 true],ak (g0 Tryz.f87 [184,29,10])⟩
def xM:FD:=⟨3,[df],[.cell 6 9 true],ak (g0 Tryz.f88 [240,4336,29,160,29])⟩
def kZ:FD:=⟨3,[[]],[.t 6],ak (g0 Tryz.f89 [112,848,25382819374389488446444837808141,3840,25382819374389488446444837808141,4294969088,29,5888,29])⟩
def Ea:List Nat:=[2,448,0,448,0,960,448,480,262592,8,448,8]
def jG:Cmd:=ak (g1 [] Tryz.f90 Ea 1 [])
def NR(a:Cmd):Cmd:=ak (g1 [] Tryz.f90 Ea 0 [a])
def zV:Cmd:=NR jG
def rS:FD:=⟨1,[[]],[.t 2],zV⟩
def nj:FD:=⟨1,[[]],[.t 2],ak (g0 Tryz.f91 [2,8])⟩
def Fg:List Nat:=[2296,6200,14392,6597069776952,10240,6597069776952,10240,15393162799160,6597069776952,6597069826104,6597070022712,6597070776376,2361183248031892727864,45,2417851639235855419533368,6597070055480,1739383349096430710038541,6597069776952,6597069776952,45]
def bK:Cmd:=ak (g1 [] Tryz.f92 Fg 1 [])
def PM(a:Cmd):Cmd:=ak (g1 [] Tryz.f92 Fg 0 [a])
def Gt:Cmd:=PM bK
def zW:FD:=⟨5,[aF],[.cell 10 7 true],Gt⟩
def zX:FD:=⟨3,[aL,[]],[.cell 6 3 true,.t 7],ak (g0 Tryz.f93 [184,384])⟩
def Cq:FD:=⟨3,[aL,[]],[.cell 6 3 true,.t 7],ak (g0 Tryz.f94 [184,384])⟩
def zY:FD:=⟨2,[[]],[.t 4],ak (g0 Tryz.f95 [12,21])⟩
def ui:FD:=⟨1,[[]],[.t 2],ak (g0 Tryz.f96 [4,8])⟩
def zZ:FD:=⟨2,[aF],[.cell 4 7 true],ak (g0 Tryz.f97 [56,2104,21,21])⟩
def rT:FD:=⟨2,[aF],[.cell 4 7 true],ak (g0 Tryz.f98 [44,1068,21,108,236,21,844702495545349])⟩
def jo:FD:=⟨1,[[]],[.t 2],ak (g0 Tryz.f99 [4,20,8])⟩
def po:FD:=⟨1,[[]],[.t 2],ak (g0 Tryz.f100 [4,0,20,8,57,8,8])⟩
def nS:FD:=⟨2,[[]],[.t 4],ak (g0 Tryz.f101 [24,216,12,24,8408,21,131096,21,280,21,5912938525])⟩
def jS:FD:=⟨2,[[]],[.t 4],ak (g0 Tryz.f102 [6,21])⟩
def Aa:FD:=⟨2,[[]],[.t 3],ak (g0 Tryz.f103 [12,16])⟩
def Ac:FD:=⟨3,[aL,[]],[.cell 6 3 true,.t 7],ak (g0 Tryz.f104 [184,384])⟩
def Cr:FD:=⟨3,[aL,[]],[.cell 6 3 true,.t 7],ak (g0 Tryz.f105 [184,384])⟩
def pM:FD:=⟨4,[aF],[.cell 8 7 true],ak (g0 Tryz.f106 [692,33440,37,37])⟩
def uO:FD:=⟨3,[aF],[.cell 6 7 true],ak (g0 Tryz.f107 [156,16540,29,896,33003607327229182966653946701841,30425117,29,29])⟩
def Nv:List Nat:=[2,18,18,18,0,65554,18,18,8]
def JR:Cmd:=ak (g1 [] Tryz.f108 Nv 1 [])
def adl(a:Cmd):Cmd:=ak (g1 [] Tryz.f108 Nv 0 [a])
def PN:Cmd:=adl JR
def Ha:FD:=⟨1,[[.o 2 []]],[.t 2],PN⟩
def KN:List Nat:=[2,18,16,18,0,32786,18,18,8]
def xN:Cmd:=ak (g1 [] Tryz.f109 KN 1 [])
def ZN(a:Cmd):Cmd:=ak (g1 [] Tryz.f109 KN 0 [a])
def Nw:Cmd:=ZN xN
def Fh:FD:=⟨1,[[]],[.t 2],Nw⟩
def KO:List Nat:=[6,8198,21,6,70,198,25,198,209,2097350,198,454,8589935046,454,198,198,21]
def gH:Cmd:=ak (g1 [] Tryz.f110 KO 1 [])
def ZO(a:Cmd):Cmd:=ak (g1 [] Tryz.f110 KO 0 [a])
def Hb:Cmd:=ZO gH
def BA:FD:=⟨2,[[.o 2 []]],[.t 4],Hb⟩
def gI:FD:=⟨3,[aF],[.cell 6 7 true],ak (g0 Tryz.f111 [156,268435612,29,2147483804,29,68719476892,156,924,3968,29])⟩
def uP:FD:=⟨1,[aL],[.cell 2 3 true],ak (g0 Tryz.f112 [12,4108,8,8,4301271049])⟩
def qu:FD:=⟨3,[aL],[.cell 6 3 true],ak (g0 Tryz.f113 [142,142,32910,29,398,906,29])⟩
def iZ:List Nat:=[6,774,0,774,4007,1798,774,838,131910,21,774,21]
def pN:Cmd:=ak (g1 [] Tryz.f114 iZ 1 [])
def qT(a:Cmd):Cmd:=ak (g1 [] Tryz.f114 iZ 0 [a])
def qU:Cmd:=qT pN
def i9:FD:=⟨2,[[]],[.t 4],qU⟩
def sC:List Nat:=[6,774,0,774,4007,1798,774,838,131910,21,774,21]
def BB:Cmd:=ak (g1 [] Tryz.f115 sC 1 [])
def Dv(a:Cmd):Cmd:=ak (g1 [] Tryz.f115 sC 0 [a])
def Dw:Cmd:=Dv BB
def sD:FD:=⟨2,[[]],[.t 4],Dw⟩
def lZ:FD:=⟨2,[[]],[.t 4],ak (g0 Tryz.f116 [6,70,198,4230,53,21,21,16390,21,131078,21,81,21,21])⟩
def uQ:List Nat:=[6,7174,6,7174,0,15366,7174,7366,1055942,21,7558,7686,536878598,21,7174,145,21,21]
def fQ:Cmd:=ak (g1 [] Tryz.f117 uQ 1 [])
def Eo(a:Cmd):Cmd:=ak (g1 [] Tryz.f117 uQ 0 [a])
def oM:Cmd:=Eo fQ
def jQ:FD:=⟨2,[[]],[.t 4],oM⟩
def uj:FD:=⟨1,[[]],[.t 2],ak (g0 Tryz.f118 [2,8])⟩
def Cs:FD:=⟨1,[[]],[.t 2],ak (g0 Tryz.f119 [2,8])⟩
def zL:FD:=⟨2,[fH,[]],[.cell 4 2 true,.t 5],ak (g0 Tryz.f120 [50,50,306,96,65586,96,178,67109042,160,9444733810164258113815,96])⟩
def HA:FD:=⟨2,[aF],[.cell 4 7 true],ak (g0 Tryz.f121 [44,8236,6,21,108,236,484,22857412022803934197325820338185,740,13894185427720556277409093103502134464983922852004450142752244690916493317726794763910303658356419673263853224620728325,21,502482134767069931340307510669213681485162225669])⟩
def Ad:FD:=⟨3,[aL,[]],[.cell 6 3 true,.t 7],ak (g0 Tryz.f122 [184,384])⟩
def Ct:FD:=⟨3,[aL,[]],[.cell 6 3 true,.t 7],ak (g0 Tryz.f123 [184,384])⟩
def IM:FD:=⟨4,[aF],[.cell 6 7 true],ak (g0 Tryz.f124 [188,444,4532,404,266676,404,16781748,404,1073742260,404,404,29,3763349509])⟩
def UV:FD:=⟨2,[aF],[.cell 4 7 true],ak (g0 Tryz.f125 [44,21])⟩
def UW:FD:=⟨2,[aF],[.cell 4 7 true],ak (g0 Tryz.f126 [44,21])⟩
def MP:FD:=⟨2,[aL,[]],[.cell 4 3 true,.t 5],ak (g0 Tryz.f127 [44,96])⟩
def PO:FD:=⟨2,[aL,[]],[.cell 4 3 true,.t 5],ak (g0 Tryz.f128 [44,96])⟩
def vZ:FD:=⟨2,[aL,[]],[.cell 4 3 true,.t 5],ak (g0 Tryz.f129 [44,16428,96,96])⟩
def wG:FD:=⟨2,[[]],[.t 4],ak (g0 Tryz.f130 [24,21])⟩
def jR:FD:=⟨2,[aL,[]],[.cell 4 3 true,.t 5],ak (g0 Tryz.f131 [56,65592,96,134217784,96,19869474829,40,96,184,96])⟩
def pO:FD:=⟨1,[[]],[.t 2],ak (g0 Tryz.f132 [2,34,8,8])⟩
def BC:FD:=⟨2,[fH,aF,[]],[.cell 4 2 true,.cell 5 7 true,.t 6],ak (g0 Tryz.f133 [120,872,3688,268437096,224,12,1640,224,2787943418306246314338229536181283776903173])⟩
def gW:List Nat:=[14,526,3598,1550,3598,0,265742,3598,7694,4294974990,3598,3598,384]
def bZ:Cmd:=ak (g1 [] Tryz.f134 gW 1 [])
def pp(a:Cmd):Cmd:=ak (g1 [] Tryz.f134 gW 0 [a])
def ij:Cmd:=pp bZ
def dL:FD:=⟨3,[[],[]],[.t 6,.t 7],ij⟩
def qy:FD:=⟨2,[[]],[.t 4],ak (g0 Tryz.f135 [12,21])⟩
def bI:FD:=⟨3,[[]],[.t 6],ak (g0 Tryz.f136 [14,14,270,131342,29,782,8389390,29,4294968078,1294,1286,41,0,29,782,9713364895797253,14,0,2,6710951065547,29,262,2,29])⟩
def Cu:FD:=⟨1,[aL],[.cell 2 3 true],ak (g0 Tryz.f137 [12,12,8])⟩
def uR:FD:=⟨2,[aL,[]],[.cell 4 3 true,.t 5],ak (g0 Tryz.f138 [56,16440,96,96])⟩
def iT:FD:=⟨3,[[]],[.t 6],ak (g1 [(31,2)] Tryz.f139 [14,14,131086,29,270,258,0,2,56295280172615776203,29] 0 [])⟩
def W0:FD:=⟨1,[[]],[.t 2],ak (g0 Tryz.f140 [4,260,8,100361,8,20,8])⟩
def PP:FD:=⟨1,[[]],[.t 2],ak (g0 Tryz.f141 [2,8])⟩
def RK:FD:=⟨1,[aL,[]],[.cell 2 3 true,.t 3],ak (g0 Tryz.f142 [12,140,24,24])⟩
def Nx:List Nat:=[56,8248,96,184,3670184,168,3670184,184,7864488,3670184,3670696,3670184,105228120675419323001568740627968499918038242232619,3670184,96]
def qB:Cmd:=ak (g1 [] Tryz.f143 Nx 1 [])
def adm(a:Cmd):Cmd:=ak (g1 [] Tryz.f143 Nx 0 [a])
def IN:Cmd:=adm qB
def De:FD:=⟨2,[fH,[]],[.cell 4 2 true,.t 5],IN⟩
def Ny:List Nat:=[56,8248,96,184,58720416,160,58720416,71437385751,125829280,58720416,58720928,58720416,58720416,96]
def uS:Cmd:=ak (g1 [] Tryz.f144 Ny 1 [])
def adn(a:Cmd):Cmd:=ak (g1 [] Tryz.f144 Ny 0 [a])
def IP:Cmd:=adn uS
def Df:FD:=⟨2,[fH,[]],[.cell 4 2 true,.t 5],IP⟩
def nT:FD:=⟨2,[aL,[]],[.cell 4 3 true,.t 5],ak (g0 Tryz.f145 [44,131116,96,416,106518104577814527031126025,96])⟩
def sE:FD:=⟨4,[aL,[]],[.cell 8 3 true,.t 9],ak (g0 Tryz.f146 [632,2680,4196984,1536,632,33555064,1536,2147484280,1536,4728,80,29304,80,1536,554269126609147557897])⟩
def uT:FD:=⟨1,[aL],[.cell 2 3 true],ak (g0 Tryz.f147 [12,4108,8,8,40])⟩
def yF:FD:=⟨1,[aF],[.cell 2 7 true],ak (g0 Tryz.f148 [10,8])⟩
def uU:FD:=⟨1,[[]],[.t 2],ak (g0 Tryz.f149 [4,4100,8,8,40])⟩
def yG:FD:=⟨2,[[]],[.cell 4 1 true],ak (g0 Tryz.f150 [38,21])⟩
def nU:FD:=⟨2,[aF],[.cell 4 7 true],ak (g0 Tryz.f151 [44,262188,21,236,992,21])⟩
def kJ:FD:=⟨3,[aF],[.cell 6 7 true],ak (g0 Tryz.f152 [184,696,29,29,1127553472403461])⟩
def HB:List Nat:=[6,6,32774,81,21,21,70,0,70,0,33554502,70,70,268435526,0,21,20407390213,0,21,70,21]
def jV:Cmd:=ak (g1 [] Tryz.f153 HB 1 [])
def UX(a:Cmd):Cmd:=ak (g1 [] Tryz.f153 HB 0 [a])
def JS:Cmd:=UX jV
def sF:FD:=⟨2,[[]],[.t 4],JS⟩
def yH:FD:=⟨2,[[.o 2 []]],[.t 4],ak (g0 Tryz.f154 [6,25,21])⟩
def kK:List Nat:=[6,774,0,774,4007,1798,774,838,131910,21,774,21]
def sG:Cmd:=ak (g1 [] Tryz.f155 kK 1 [])
def uV(a:Cmd):Cmd:=ak (g1 [] Tryz.f155 kK 0 [a])
def uW:Cmd:=uV sG
def kL:FD:=⟨2,[[]],[.t 4],uW⟩
def zk:Cmd:=ak (g0 Tryz.f156 [632,2680,1051256,1536,632,8389240,1536,17179869816,1536,562949953421944,12,632,12856,4829691691261763597,1536,1536])
def pP:FD:=⟨4,[aL,[]],[.cell 8 3 true,.t 9],zk⟩
def uX:FD:=⟨3,[[]],[.t 6],ak (g0 Tryz.f157 [28,29])⟩
def Cv:FD:=⟨0,[aF],[.cell 0 7 true],ak (g0 Tryz.f158 [2,2])⟩
def iF:FD:=⟨2,[aF,[]],[.cell 4 7 true,.t 5],ak (g0 Tryz.f159 [56,56,312,96,262200,96,4194360,96,160,2094105673112556338230553441894041358710805,44054549,96,96])⟩
def Cw:List Nat:=[156,262300,29,412,58720652,384,58720652,400,125829516,58720652,58721676,58723724,60188264844,58722700,60188264844,3472,128907741580,60188264844,60188277132,2259211532684,60188264844,258,60188264844,58720652,58720652,29]
def iG:Cmd:=ak (g1 [] Tryz.f160 Cw 1 [])
def NS(a:Cmd):Cmd:=ak (g1 [] Tryz.f160 Cw 2 [a])
def mq:Cmd:=NS iG
def UY(a b:Cmd):Cmd:=ak (g1 [] Tryz.f160 Cw 0 [a,b])
def DV:Cmd:=UY iG mq
def xO:FD:=⟨3,[aF],[.cell 6 7 true],DV⟩
def wH:List Nat:=[156,1048732,29,924,4294967708,29,0,3204,27390916617,29,15973530744841,1152,15973530744841,79490449439,8319485343709193,15973530744841,8178448818255881,8178448818255881,15973530744841,15973530744841,9344,22858974652445,8320,22858974652445,666814220263751711,11844807996499997,22858974652445,11703795024160797,22858974652445,22858974652445,29]
def oO:Cmd:=ak (g1 [] Tryz.f161 wH 1 [])
def oQ:Cmd:=ak (g1 [] Tryz.f161 wH 2 [])
def MQ(a b:Cmd):Cmd:=ak (g1 [] Tryz.f161 wH 0 [a,b])
def lg:Cmd:=MQ oO oQ
def iH:FD:=⟨3,[aF],[.cell 6 7 true],lg⟩
def v9:FD:=⟨1,[aF],[.cell 2 7 true],ak (g0 Tryz.f162 [12,2060,8,28,88,8])⟩
def qV:FD:=⟨4,[aL,[]],[.cell 8 3 true,.t 9],ak (g0 Tryz.f163 [572,33340,6656,1536,536871468,1536,1536])⟩
def gX:FD:=⟨1,[[.o 2 []]],[.t 2],ak (g0 Tryz.f164 [2,34,8,8])⟩
def Eb:List Nat:=[2,18,18,18,0,65554,18,18,8]
def l6:Cmd:=ak (g1 [] Tryz.f165 Eb 1 [])
def NT(a:Cmd):Cmd:=ak (g1 [] Tryz.f165 Eb 0 [a])
def Fi:Cmd:=NT l6
def yI:FD:=⟨1,[[.o 2 []]],[.t 2],Fi⟩
def JT:List Nat:=[2,18,912,16,912,0,1936,912,976,17360,8,912,912,8]
def we:Cmd:=ak (g1 [] Tryz.f166 JT 1 [])
def W7(a:Cmd):Cmd:=ak (g1 [] Tryz.f166 JT 0 [a])
def KP:Cmd:=W7 we
def DW:FD:=⟨1,[[]],[.t 2],KP⟩
def sH:FD:=⟨2,[[.o 2 []],[]],[.t 4,.t 5],ak (g0 Tryz.f167 [6,6,134,96,2054,96,96])⟩
def lJ:FD:=⟨1,[[.o 2 []]],[.t 2],ak (g0 Tryz.f168 [2,8])⟩
def yJ:FD:=⟨1,[[]],[.t 2],ak (g0 Tryz.f169 [2,8])⟩
def wh:FD:=⟨1,[[]],[.t 2],ak (g0 Tryz.f170 [2,2,258,8,8])⟩
def sJ:FD:=⟨3,[aF],[.cell 6 7 true],ak (g0 Tryz.f171 [240,29])⟩
def sK:FD:=⟨3,[aF],[.cell 6 7 true],ak (g0 Tryz.f172 [240,29])⟩
def AC:List Nat:=[56,120,488,12686448265038921150739754522629,1000,424,1000,488,525288,1000,1000,1000,17757079642466509018378855788549,1000,21,2149588997]
def Ga:Cmd:=ak (g1 [] Tryz.f173 AC 1 [])
def IQ(a:Cmd):Cmd:=ak (g1 [] Tryz.f173 AC 0 [a])
def IR:Cmd:=IQ Ga
def HC:FD:=⟨2,[aF],[.cell 4 7 true],IR⟩
def sL:FD:=⟨3,[aF],[.cell 6 7 true],ak (g0 Tryz.f174 [240,29])⟩
def NU:FD:=⟨1,[aF],[.cell 2 7 true],ak (g0 Tryz.f175 [10,1034,8,26,8,48376069969147649765414917])⟩
def sM:FD:=⟨4,[aL,[]],[.cell 8 3 true,.t 9],ak (g0 Tryz.f176 [632,2680,1051256,1536,4294967928,1536,4728,1536])⟩
def RL:FD:=⟨3,[aF],[.cell 6 7 true],ak (g0 Tryz.f177 [156,16777372,29,34359738524,29,924,13472779737097,48,29,1692,2966252706507830087772561200317147119630357,9572901749528585,29,10558064168015881,29,7324,5550126619813748749,7320,11543777956077581,5272,93343773,1152,29])⟩
def UZ:FD:=⟨3,[aL,[]],[.cell 6 3 true,.t 7],ak (g0 Tryz.f178 [156,668,33555100,668,8589935260,384,1180,281474976711836,1180,3228,7324,23708,384,520])⟩
def qW:FD:=⟨1,[[]],[.t 2],ak (g0 Tryz.f179 [2,8])⟩
def rU:FD:=⟨1,[aL,[]],[.cell 2 3 true,.t 3],ak (g0 Tryz.f180 [12,140,24,24])⟩
def xQ:FD:=⟨2,[[.o 2 []],[]],[.t 4,.t 5],ak (g0 Tryz.f181 [6,1030,96,96])⟩
def JU:List Nat:=[108,8300,96,492,40,58720740,480,58720740,42803019844179897019978058039311,125829604,58720740,58721764,8648656356,58720740,58720740,58720740,2251800079677387,96,768]
def ns:Cmd:=ak (g1 [] Tryz.f182 JU 1 [])
def W8(a:Cmd):Cmd:=ak (g1 [] Tryz.f182 JU 0 [a])
def Fj:Cmd:=W8 ns
def zN:FD:=⟨2,[fH,fH],[.cell 4 2 true,.cell 5 2 true],Fj⟩
def JV:List Nat:=[108,108,32876,224,2097260,224,876,40,962072675172,864,962072675172,45021408659031821513297420615695,2061584302948,962072675172,962072677220,962072689508,2252761886366564,224,962072705892,4611686980500085604,224,295147906141425523556,962072693604,151115727452790719531876,962072675172,962072675172,2533275089942475,224,768]
def fR:Cmd:=ak (g1 [] Tryz.f183 JV 1 [])
def W9(a:Cmd):Cmd:=ak (g1 [] Tryz.f183 JV 0 [a])
def wI:Cmd:=W9 fR
def qC:FD:=⟨2,[fH,fH,[]],[.cell 4 2 true,.cell 5 2 true,.t 6],wI⟩
def BD:Cmd:=ak (g0 Tryz.f186 [56,33554488,536870968,40,96,184,952,12,17595949391885,96,3256,5912938525,6054388764100272141,4264,96,7351425456782974989,3240,16552,96])
def nM:FD:=⟨2,[aL,[]],[.cell 4 3 true,.t 5],BD⟩
def Nz:List Nat:=[2,258,8,18,48,16,48,0,1048624,48,48,48,8]
def U0:Cmd:=ak (g1 [] Tryz.f187 Nz 1 [])
def ado(a:Cmd):Cmd:=ak (g1 [] Tryz.f187 Nz 0 [a])
def adp:Cmd:=ado U0
def ZP:FD:=⟨1,[[]],[.t 2],adp⟩
def iU:List Nat:=[2,18,7186,18,7186,0,15378,7186,7250,7186,2104338,7186,7186,130,469762176,29,469762176,73584869515,1006633088,469762176,469762688,469762176,469762176,8]
def hH:Cmd:=ak (g1 [] Tryz.f188 iU 1 [])
def mC:Cmd:=ak (g1 [] Tryz.f188 iU 2 [])
def yK(a b:Cmd):Cmd:=ak (g1 [] Tryz.f188 iU 0 [a,b])
def nV:Cmd:=yK hH mC
def iV:FD:=⟨1,[[.o 5 Fc]],[.t 2],nV⟩
def yL:FD:=⟨2,[[.o 2 []],[.o 2 []],[]],[.t 4,.t 5,.t 6],ak (g0 Tryz.f189 [6,6,1030,224,32774,224,768,224])⟩
def Fk:FD:=⟨2,[[.o 2 []]],[.t 4],ak (g0 Tryz.f190 [6,25,21])⟩
def qX:FD:=⟨4,[aL,[]],[.cell 8 3 true,.t 9],ak (g0 Tryz.f191 [602,6658,67115520,6656,1536])⟩
def DX:FD:=⟨2,[aL,[]],[.cell 4 3 true,.t 5],ak (g0 Tryz.f192 [44,96])⟩
def Hc:FD:=⟨2,[aL,[]],[.cell 4 3 true,.t 5],ak (g0 Tryz.f193 [44,96])⟩
def AD:List Nat:=[56,248,504,232,504,248,504,504,3759155205,504,134218232,504,21,2149588997]
def ge:Cmd:=ak (g1 [] Tryz.f194 AD 1 [])
def IS(a:Cmd):Cmd:=ak (g1 [] Tryz.f194 AD 0 [a])
def BE:Cmd:=IS ge
def sN:FD:=⟨2,[aF],[.cell 4 7 true],BE⟩
def mP:FD:=⟨2,[aF],[.cell 4 7 true],ak (g0 Tryz.f195 [44,100,524388,21,484,1952,21])⟩
def Gu:List Nat:=[2,18,18,18,0,65554,18,18,8]
def nX:Cmd:=ak (g1 [] Tryz.f196 Gu 1 [])
def RM(a:Cmd):Cmd:=ak (g1 [] Tryz.f196 Gu 0 [a])
def HD:Cmd:=RM nX
def BF:FD:=⟨1,[[.o 2 []]],[.t 2],HD⟩
def pq:FD:=⟨2,[[.o 2 []],[]],[.t 4,.t 5],ak (g0 Tryz.f197 [6,6,134,96,2054,96,96])⟩
def xR:FD:=⟨3,[aL,[]],[.cell 6 3 true,.t 7],ak (g0 Tryz.f198 [156,668,33436,384,384,20])⟩
def NA:Cmd:=ak (g0 Tryz.f199 [184,688,20,4294967984,12,688,1712,1712,5808,140737488361136,7856,7856,9714191147485213,12928,384,11262303519393821,7808,12669678402947101,33408,384,135808,384])
def wJ:FD:=⟨3,[[.o 2 [],.o 0 [],.o 0 []],[]],[.cell 6 3 true,.t 7],NA⟩
def qY:FD:=⟨2,[[]],[.t 4],ak (g0 Tryz.f200 [12,21])⟩
def uk:FD:=⟨2,[aL],[.cell 4 3 true],ak (g0 Tryz.f201 [56,568,21,21])⟩
def uo:FD:=⟨2,[aL],[.cell 4 3 true],ak (g0 Tryz.f202 [56,568,21,21])⟩
def xS:FD:=⟨3,[aF],[.cell 6 7 true],ak (g0 Tryz.f203 [156,668,29,29,24])⟩
def Gv:List Nat:=[4,30729,24,36,14680096,21,14680096,38921,31457312,14680096,14680224,14680096,144,14680096,24]
def nY:Cmd:=ak (g1 [] Tryz.f204 Gv 1 [])
def RN(a:Cmd):Cmd:=ak (g1 [] Tryz.f204 Gv 0 [a])
def xT:Cmd:=RN nY
def qZ:FD:=⟨1,[[.o 4 aL],[]],[.t 2,.t 3],xT⟩
def iM:FD:=⟨4,[aF],[.cell 8 7 true],ak (g0 Tryz.f205 [752,3696,17766973566932098869183561869321,16780912,3696,14960,62000,17592186065456,37,90672,238080,34914467877,37,37])⟩
def nu:List Nat:=[12,136,939524232,136,939524232,6198106015803284498939919,2013266056,939524232,939524744,121198608520,939524232,121198608520,51993481709015558774083572203535,258637561992,121198608520,121198611592,121198608520,0,121198608520,939524232,4232,8883536958339085,4232,8883536958339085,6198106015803284498939919,4620569555385726989,8883536958339085,4548370923748603917,8883536958339085,5197030307689150477,96,8883536958339085,136,45722277917,29,45722277917,6198106015803284498939919,23685222275101,45722277917,23409806311453,11985820832530461,1741194670286728823078941,11985820832530461,1741194670286728823078941,51993481709015558774083807084559,901182004463570834804473885,1741194670286728823078941,8733280120896081158078398592,1741194670286728823078941,1741194670286728823078941,45722277917,272,45722277917,96]
def lh:Cmd:=ak (g1 [] Tryz.f206 nu 1 [])
def MR(a:Cmd):Cmd:=ak (g1 [] Tryz.f206 nu 2 [a])
def nZ:Cmd:=MR lh
def jq:Cmd:=ak (g1 [] Tryz.f206 nu 3 [])
def n7:Cmd:=ak (g1 [] Tryz.f206 nu 4 [])
def MS(a b c d:Cmd):Cmd:=ak (g1 [] Tryz.f206 nu 5 [a,b,c,d])
def rW:Cmd:=MS lh nZ jq n7
def RP(a b c d e:Cmd):Cmd:=ak (g1 [] Tryz.f206 nu 0 [a,b,c,d,e])
def HE:Cmd:=RP lh nZ jq n7 rW
def BG:FD:=⟨2,[[],[]],[.t 4,.t 5],HE⟩
def wK:FD:=⟨3,[],[],ak (g0 Tryz.f207 [84,212,404,457523833467684490667101000461896595677559922701,916,0])⟩
def qz:FD:=⟨2,[],[],ak (g0 Tryz.f208 [12,44,0])⟩
def uq:FD:=⟨2,[aF],[.cell 4 7 true],ak (g0 Tryz.f209 [56,1080,21,21,4837095445])⟩
def wj:FD:=⟨1,[aL,[]],[.cell 2 3 true,.t 3],ak (g0 Tryz.f210 [12,268,24,4108,24,24,40])⟩
def BH:FD:=⟨1,[aL,[]],[.cell 2 3 true,.t 3],ak (g0 Tryz.f211 [12,268,24,24,40])⟩
def Ec:List Nat:=[2172,26732,59500,26624,59500,10304,536930412,59500,59500,59500,6144]
def aY:Cmd:=ak (g1 [] Tryz.f212 Ec 1 [])
def NV(a:Cmd):Cmd:=ak (g1 [] Tryz.f212 Ec 0 [a])
def Fl:Cmd:=NV aY
def rX:FD:=⟨5,[aL,[]],[.cell 10 3 true,.t 11],Fl⟩
def BI:FD:=⟨1,[[]],[.t 2],ak (g0 Tryz.f214 [2,8])⟩
def wk:FD:=⟨1,[[.o 2 []],[]],[.t 2,.t 3],ak (g0 Tryz.f215 [2,2,514,24,24])⟩
def HF:List Nat:=[6,6,65542,21,6,70,117440582,25,117440582,93,251658310,117440582,117440966,117441222,137556394694,117441222,117440582,117440582,21]
def pR:Cmd:=ak (g1 [] Tryz.f216 HF 1 [])
def U1(a:Cmd):Cmd:=ak (g1 [] Tryz.f216 HF 0 [a])
def DY:Cmd:=U1 pR
def xU:FD:=⟨2,[[.o 2 []]],[.t 4],DY⟩
def KQ:Cmd:=ak (g0 Tryz.f217 [10,42,2,10,522,10,10,8])
def qD:FD:=⟨1,[[]],[.t 2],KQ⟩
def lM:FD:=⟨2,[[]],[.t 4],ak (g0 Tryz.f218 [24,200,21,5120])⟩
def wL:FD:=⟨1,[aF],[.cell 2 7 true],ak (g0 Tryz.f219 [12,56,4120,8,8,12])⟩
def MT:FD:=⟨1,[[]],[.t 2],ak (g0 Tryz.f220 [2,8])⟩
def RQ:FD:=⟨0,[aF],[.cell 0 7 true],ak (g0 Tryz.f221 [2,2])⟩
def PQ:FD:=⟨3,[aF],[.cell 6 7 true],ak (g0 Tryz.f222 [156,32924,65680,29,29,412,1932,7564,34359745928,7560,549755820424,2440,1649267448200,2440,9345848842632,2440,140737488361864,2440,29])⟩
def PR:FD:=⟨3,[[]],[.t 6],ak (g0 Tryz.f223 [28,284,40,788,1812,3860,6928,77484884688187423008495625,14864,31248,12244144780525982010555344007657976222106594799464104705754705795023199371158852187990272017,61968,139792,73,8242016663672785723936738350670554832959101909870545117035636741,29])⟩
def Gw:List Nat:=[2,4098,24,34,65570,24,66,24,66,0,66,194,578,20410544133,24,66]
def MU:Cmd:=ak (g1 [] Tryz.f224 Gw 1 [])
def RU(a:Cmd):Cmd:=ak (g1 [] Tryz.f224 Gw 0 [a])
def RW:Cmd:=RU MU
def PS:FD:=⟨1,[[.o 2 []],[]],[.t 2,.t 3],RW⟩
def NB:Cmd:=ak (g0 Tryz.f225 [156,668,36,2716,0,1073744540,3724,14988,3724,7884052966152201,1676,9432165338060809,71317513,384,1156,1664,384])
def wM:FD:=⟨3,[aL,[]],[.cell 6 3 true,.t 7],NB⟩
def Cx:List Nat:=[6,70,3670084,25,3670084,73,7864388,3670084,3670468,3670980,473433028,3670724,473433028,73,1010303940,473433028,473436100,473437636,473433028,473433028,3670084,3670084,21]
def pS:Cmd:=ak (g1 [] Tryz.f226 Cx 1 [])
def NW(a:Cmd):Cmd:=ak (g1 [] Tryz.f226 Cx 2 [a])
def ur:Cmd:=NW pS
def U2(a b:Cmd):Cmd:=ak (g1 [] Tryz.f226 Cx 0 [a,b])
def JW:Cmd:=U2 pS ur
def Cy:FD:=⟨2,[[.o 2 []]],[.t 4],JW⟩
def iN:FD:=⟨2,[aL,[]],[.cell 4 3 true,.t 5],ak (g0 Tryz.f227 [44,428,2097580,96,936,2147484584,96,1704,5792,25779255317,672,13494796695573,96,27926738965,96,38127286293,96,96])⟩
def uY:FD:=⟨2,[aL,[]],[.cell 4 3 true,.t 5],ak (g0 Tryz.f228 [56,16440,96,96,10])⟩
def xV:FD:=⟨2,[[.o 2 []],[]],[.t 4,.t 5],ak (g0 Tryz.f230 [6,1030,96,96])⟩
def sO:FD:=⟨2,[[.o 2 []],[]],[.t 4,.t 5],ak (g0 Tryz.f231 [6,6,134,96,4102,96,96])⟩
def fS:FD:=⟨2,[[]],[.t 4],ak (g0 Tryz.f232 [6,134,6,3355507865547,6,131078,3355507865547,2,3355507865547,21])⟩
def rY:List Nat:=[6,6,27267077,96,32509957,384,96,518,3586,3584,3586,80832626947,16773468407813,3586,3586,7680,15872,32256,13824,32256,678073221278335235,5622466239662149669,32256,65024,0,4465194903652984180773,65024,130560,625133048504600439241869119525,130560,625133048504600439241869119525,678073221278335235,322608385506474868419404483285029,625133048504600439241869119525,163874877886570643521691071147954213,625133048504600439241869119525,625133048504600439241869119525,65024,32256,32256,96]
def jH:Cmd:=ak (g1 [] Tryz.f233 rY 1 [])
def J8(a:Cmd):Cmd:=ak (g1 [] Tryz.f233 rY 2 [a])
def l7:Cmd:=J8 jH
def B9:Cmd:=ak (g1 [] Tryz.f233 rY 3 [])
def NX(a b c:Cmd):Cmd:=ak (g1 [] Tryz.f233 rY 0 [a,b,c])
def Ae:Cmd:=NX jH l7 B9
def rZ:FD:=⟨2,[[.o 2 []],[.o 2 []]],[.t 4,.t 5],Ae⟩
def HG:List Nat:=[6,6,70,198,29360324,192,29360324,79957,62914756,29360324,29360836,29361220,29360324,29360324,21]
def ut:Cmd:=ak (g1 [] Tryz.f234 HG 1 [])
def U3(a:Cmd):Cmd:=ak (g1 [] Tryz.f234 HG 0 [a])
def JX:Cmd:=U3 ut
def Cz:FD:=⟨2,[[]],[.t 4],JX⟩
def Hd:FD:=⟨1,[[.o 2 [],.o 0 [],.o 0 []]],[.cell 2 3 true],ak (g0 Tryz.f235 [12,8])⟩
def BJ:FD:=⟨2,[[.o 2 []],[]],[.t 4,.t 5],ak (g0 Tryz.f236 [6,4102,6,134,96])⟩
def se:FD:=⟨1,[[]],[.t 2],ak (g0 Tryz.f237 [4,8])⟩
def wN:List Nat:=[6,774,0,774,0,1798,774,838,131910,21,774,21]
def eM:Cmd:=ak (g1 [] Tryz.f238 wN 1 [])
def Gb(a:Cmd):Cmd:=ak (g1 [] Tryz.f238 wN 0 [a])
def yr:Cmd:=Gb eM
def pT:FD:=⟨2,[[]],[.t 4],yr⟩
def jT:List Nat:=[6,2054,6,194,28325893,130,258,768,33,768,125,39864353,768,768,0,21]
def dm:Cmd:=ak (g1 [] Tryz.f239 jT 1 [])
def sP(a:Cmd):Cmd:=ak (g1 [] Tryz.f239 jT 0 [a])
def j6:Cmd:=sP dm
def fF:FD:=⟨2,[[]],[.t 4],j6⟩
def Dx:List Nat:=[6,70,114752,25,114752,4007,245824,114752,115008,114752,114752,21]
def kN:Cmd:=ak (g1 [] Tryz.f240 Dx 1 [])
def MV(a:Cmd):Cmd:=ak (g1 [] Tryz.f240 Dx 0 [a])
def Ed:Cmd:=MV kN
def wO:FD:=⟨2,[[]],[.t 4],Ed⟩
def Ca:List Nat:=[142,196750,0,196750,19906078202337171540375077130151,458894,196750,197006,4295164302,0,196750,196750]
def sQ:Cmd:=ak (g1 [] Tryz.f241 Ca 1 [])
def KR(a:Cmd):Cmd:=ak (g1 [] Tryz.f241 Ca 0 [a])
def wQ:Cmd:=KR sQ
def qw:FD:=⟨3,[],[],wQ⟩
def oR:List Nat:=[49278,94,49278,19906078202337171540375077130151,114814,49278,49790,50814,49278,50814,19906078202337171540375077130151,4245118,50814,52862,50814,4531217279244683142886786666402527540463621,50814,49278,4190,12382,0,12382,166984286856751215880962695014576554035,4611686018427400286,12382,12382,12382,12352272389,12382]
def jM:Cmd:=ak (g1 [] Tryz.f242 oR 1 [])
def jN:Cmd:=ak (g1 [] Tryz.f242 oR 2 [])
def He(a b:Cmd):Cmd:=ak (g1 [] Tryz.f242 oR 3 [a,b])
def mH:Cmd:=He jM jN
def J9(a b c:Cmd):Cmd:=ak (g1 [] Tryz.f242 oR 0 [a,b,c])
def Cb:Cmd:=J9 jM jN mH
def uu:FD:=⟨6,[],[],Cb⟩
def yM:FD:=⟨3,[aF],[.cell 6 7 true],ak (g0 Tryz.f243 [226,29,0])⟩
def yN:FD:=⟨3,[aF],[.cell 6 7 true],ak (g0 Tryz.f244 [226,29,0])⟩
def kg:List Nat:=[158,414,30,414,19886271159347421933066858266655,33182,414,414,905954287985209342859259171468729372632662352900330558533113472919764219909,414,13962891269,414,542,0,542,2370628256719997159608231,9009675306536965,542,1566,542,1566,2370628256719997159608231,5045441433590304773,1566,1566,18257874949,1566,542]
def fX:Cmd:=ak (g1 [] Tryz.f245 kg 1 [])
def Dy(a:Cmd):Cmd:=ak (g1 [] Tryz.f245 kg 2 [a])
def jA:Cmd:=Dy fX
def jB:Cmd:=ak (g1 [] Tryz.f245 kg 3 [])
def Fn(a b c:Cmd):Cmd:=ak (g1 [] Tryz.f245 kg 0 [a,b,c])
def wR:Cmd:=Fn fX jA jB
def oS:FD:=⟨4,[],[],wR⟩
def lD:FD:=⟨2,[[]],[.t 4],ak (g0 Tryz.f246 [6,21])⟩
def yO:FD:=⟨1,[[]],[.t 2],ak (g0 Tryz.f247 [2,8])⟩
def MW:FD:=⟨2,[[.o 0 [],.o 2 []],[]],[.cell 4 2 true,.t 5],ak (g0 Tryz.f248 [44,172,424,936,1696,3744,19616,68768,199840,4469967771616163861,197792,18975719176213,196768,96,132])⟩
def Fo:List Nat:=[108,236,492,364,876,96,876,360,876,876,67109740,96,12,1900,4294969196,1900,137438955372,876,876,876]
def KS:Cmd:=ak (g1 [] Tryz.f249 Fo 1 [])
def PT(a:Cmd):Cmd:=ak (g1 [] Tryz.f249 Fo 0 [a])
def PU:Cmd:=PT KS
def NY:FD:=⟨2,[[.o 0 [],.o 2 []],[.o 0 [],.o 2 []]],[.cell 4 2 true,.cell 5 2 true],PU⟩
def IT:FD:=⟨1,[[.o 0 [],.o 2 []]],[.cell 2 2 true],ak (g0 Tryz.f250 [12,8])⟩
def RX:FD:=⟨3,[aF],[.cell 6 7 true],ak (g0 Tryz.f251 [156,412,1676,165419218565820960854246423641721527740357815617406551272749095278041887507501821492857706873402507622619141,7308,30856,13750886217741,29,14472,30848,37057746973,29,29])⟩
def Xa:FD:=⟨1,[[.o 0 [],.o 2 []]],[.cell 2 2 true],ak (g0 Tryz.f252 [10,56,8,72])⟩
def RY:FD:=⟨2,[[.o 2 []]],[.t 4],ak (g0 Tryz.f253 [6,25,21])⟩
def PV:FD:=⟨2,[[.o 2 []]],[.t 4],ak (g0 Tryz.f254 [6,25,21])⟩
def PW:FD:=⟨1,[[.o 0 [],.o 2 []]],[.cell 2 2 true],ak (g0 Tryz.f255 [10,24,8,132])⟩
def IU:FD:=⟨3,[[.o 0 [],.o 2 []]],[.cell 6 2 true],ak (g0 Tryz.f256 [184,440,29,4299177993])⟩
def PX:FD:=⟨2,[[.o 0 [],.o 2 []]],[.cell 4 2 true],ak (g0 Tryz.f257 [56,232,680,30427157,544,6,21])⟩
def Xb:FD:=⟨2,[[.o 0 [],.o 2 []]],[.cell 4 2 true],ak (g0 Tryz.f258 [44,108,4204,21,132,21,516])⟩
def KT:FD:=⟨2,[[.o 0 [],.o 2 []]],[.cell 4 2 true],ak (g0 Tryz.f259 [56,16440,104,21,4294967352,56,296,21])⟩
def Ka:FD:=⟨1,[[]],[.t 2],ak (g0 Tryz.f260 [4,8])⟩
def HI:List Nat:=[6,32774,6,70,198,29360326,194,29360326,85,62914758,29360326,29361094,29362118,4324329414,29362118,29360326,29360326,25,21]
def mr:Cmd:=ak (g1 [] Tryz.f261 HI 1 [])
def U4(a:Cmd):Cmd:=ak (g1 [] Tryz.f261 HI 0 [a])
def JY:Cmd:=U4 mr
def xW:FD:=⟨2,[[.o 2 []]],[.t 4],JY⟩
def pu:FD:=⟨3,[aL,[]],[.cell 6 3 true,.t 7],ak (g0 Tryz.f262 [142,65678,384,384])⟩
def HJ:List Nat:=[6,6,70,198,1835204,25,1835204,69,3932356,1835204,1835972,1836996,270272452,1836996,1835204,1835204,21]
def pU:Cmd:=ak (g1 [] Tryz.f264 HJ 1 [])
def U5(a:Cmd):Cmd:=ak (g1 [] Tryz.f264 HJ 0 [a])
def JZ:Cmd:=U5 pU
def CA:FD:=⟨2,[[.o 2 []]],[.t 4],JZ⟩
def Fq:List Nat:=[6,134,390,902,384,902,49,131974,902,902,902,96]
def mQ:Cmd:=ak (g1 [] Tryz.f265 Fq 1 [])
def PY(a:Cmd):Cmd:=ak (g1 [] Tryz.f265 Fq 0 [a])
def Gx:Cmd:=PY mQ
def Af:FD:=⟨2,[[.o 2 []],[]],[.t 4,.t 5],Gx⟩
def rD:FD:=⟨1,[[]],[.t 2],ak (g0 Tryz.f266 [2,8])⟩
def uv:FD:=⟨5,[[]],[.t 10],ak (g0 Tryz.f267 [62,32830,45,4152,45,0])⟩
def Gy:List Nat:=[14,782,230158,774,230158,4007,492302,230158,233230,235022,235278,238862,230158,230158,16390,57,29]
def n9:Cmd:=ak (g1 [] Tryz.f268 Gy 1 [])
def RZ(a:Cmd):Cmd:=ak (g1 [] Tryz.f268 Gy 0 [a])
def HK:Cmd:=RZ n9
def BK:FD:=⟨3,[[]],[.t 6],HK⟩
def DZ:FD:=⟨3,[[],[]],[.t 6,.t 7],ak (g0 Tryz.f269 [14,37,640,384])⟩
def Hf:FD:=⟨2,[[],[]],[.t 4,.t 5],ak (g0 Tryz.f270 [6,384,96,1536,96])⟩
def mR:List Nat:=[6,774,0,774,0,1798,774,838,131910,21,774,21]
def vJ:Cmd:=ak (g1 [] Tryz.f271 mR 1 [])
def xX(a:Cmd):Cmd:=ak (g1 [] Tryz.f271 mR 0 [a])
def xY:Cmd:=xX vJ
def mS:FD:=⟨2,[[]],[.t 4],xY⟩
def MX:FD:=⟨2,[[.o 0 [],.o 2 []]],[.cell 4 2 true],ak (g0 Tryz.f272 [44,104,20,21])⟩
def MY:FD:=⟨2,[[.o 0 [],.o 2 []]],[.cell 4 2 true],ak (g0 Tryz.f273 [44,104,21])⟩
def D0:FD:=⟨3,[[],[]],[.t 6,.t 7],ak (g0 Tryz.f274 [14,134,384])⟩
def D3:FD:=⟨3,[[],[]],[.t 6,.t 7],ak (g0 Tryz.f275 [14,65550,14,520,384,0])⟩
def Fr:List Nat:=[62,2,62,0,33554494,62,62,62,45]
def iI:Cmd:=ak (g1 [] Tryz.f276 Fr 1 [])
def PZ(a:Cmd):Cmd:=ak (g1 [] Tryz.f276 Fr 0 [a])
def Gz:Cmd:=PZ iI
def Ag:FD:=⟨5,[[]],[.t 10],Gz⟩
def U6:FD:=⟨2,[[],[]],[.t 4,.t 5],ak (g0 Tryz.f277 [6,29,96])⟩
def D4:FD:=⟨2,[[],[]],[.t 4,.t 5],ak (g0 Tryz.f278 [6,134,390,902,1926,3974,5510,13702,25990,25862,38,96])⟩
def AE:List Nat:=[44,108,236,21,236,2363544426365107457490959,236,236,65772,21,492,33554924,492,236,236]
def Gc:Cmd:=ak (g1 [] Tryz.f279 AE 1 [])
def IV(a:Cmd):Cmd:=ak (g1 [] Tryz.f279 AE 0 [a])
def IW:Cmd:=IV Gc
def HL:FD:=⟨2,[[.o 0 [],.o 2 []]],[.cell 4 2 true],IW⟩
def Kb:FD:=⟨2,[[.o 0 [],.o 2 []]],[.cell 3 2 true],ak (g0 Tryz.f280 [28,16])⟩
attribute [go_sem] aAZ aA0 aA1 aA2 aA3 aA4 aA5 Hx wu WY NP MK IK iD UR US MN UT UU adk ZM NR PM adl ZN ZO qT Dv Eo pp adm adn UX uV NS UY MQ NT W7 IQ W8 W9 ado yK IS RM RN MR MS RP NV U1 RU NW U2 J8 NX U3 Gb sP MV KR He J9 Dy Fn PT U4 U5 PY RZ xX PZ IV
end
noncomputable def akI:List (Nat×FD):=[(217,qD),
 (266,rD),
 (269,DZ),
 (270,Hf),
 (274,D0),
 (275,D3),
 (277,U6),
 (278,D4),
 (153,sF),
 (167,sH),
 (170,wh),
 (181,xQ),
 (189,yL),
 (196,BF),
 (197,pq),
 (214,BI),
 (215,wk),
 (216,xU),
 (224,PS),
 (226,Cy),
 (230,xV),
 (231,sO),
 (233,rZ),
 (234,Cz),
 (247,yO),
 (261,xW),
 (264,CA),
 (265,Af),
 (267,uv),
 (268,BK),
 (276,Ag),
 (116,lZ),
 (169,yJ),
 (6,kh),
 (12,lX),
 (45,bD),
 (58,ie),
 (60,qx),
 (102,jS),
 (114,i9),
 (115,sD),
 (117,jQ),
 (132,pO),
 (134,dL),
 (136,bI),
 (139,iT),
 (155,kL),
 (164,gX),
 (168,lJ),
 (188,iV),
 (232,fS),
 (238,pT),
 (239,fF),
 (246,lD),
 (271,mS),
 (42,jy),
 (43,lA),
 (57,zH),
 (66,xK),
 (99,jo),
 (100,po),
 (101,nS),
 (112,uP),
 (113,qu),
 (119,Cs),
 (129,vZ),
 (131,jR),
 (138,uR),
 (147,uT),
 (149,uU),
 (154,yH),
 (165,yI),
 (166,DW),
 (179,qW),
 (180,rU),
 (186,nM),
 (228,uY),
 (262,pu),
 (25,zj),
 (65,sB),
 (93,zX),
 (94,Cq),
 (104,Ac),
 (105,Cr),
 (118,uj),
 (122,Ad),
 (123,Ct),
 (127,MP),
 (128,PO),
 (146,sE),
 (156,pP),
 (176,sM),
 (178,UZ),
 (190,Fk),
 (191,qX),
 (192,DX),
 (193,Hc),
 (198,xR),
 (199,wJ),
 (225,wM),
 (227,iN),
 (235,Hd),
 (236,BJ),
 (16,kH),
 (23,jk),
 (39,ng),
 (46,eX),
 (47,yD),
 (48,qR),
 (52,pJ),
 (56,vX),
 (64,jF),
 (71,qS),
 (74,NQ),
 (75,rR),
 (82,yE),
 (84,jz),
 (87,Bz),
 (90,rS),
 (91,nj),
 (92,zW),
 (106,pM),
 (111,gI),
 (145,nT),
 (151,nU),
 (159,iF),
 (162,v9),
 (163,qV),
 (195,mP),
 (201,uk),
 (202,uo),
 (209,uq),
 (210,wj),
 (211,BH),
 (212,rX),
 (107,uO),
 (157,uX),
 (158,Cv),
 (160,xO),
 (161,iH),
 (200,qY),
 (203,xS),
 (204,qZ),
 (205,iM),
 (206,BG),
 (207,wK),
 (208,qz),
 (237,se),
 (240,wO),
 (241,qw),
 (242,uu),
 (243,yM),
 (244,yN),
 (245,oS),
 (21,nK),
 (22,sy),
 (33,vC),
 (61,vY),
 (62,Cp),
 (63,zJ),
 (76,rC),
 (79,JQ),
 (80,ig),
 (81,gG),
 (120,zL),
 (130,wG),
 (135,qy),
 (137,Cu),
 (143,De),
 (144,Df),
 (182,zN),
 (183,qC),
 (9,j5),
 (13,sv),
 (17,uL),
 (20,ej),
 (24,zT),
 (32,Br),
 (34,DU),
 (35,xH),
 (44,xI),
 (49,vW),
 (51,xJ),
 (59,sA),
 (67,pj),
 (77,uN),
 (78,Ff),
 (85,Bv),
 (86,Bw),
 (88,xM),
 (103,Aa),
 (133,BC),
 (18,IJ),
 (50,Gs),
 (83,WZ),
 (108,Ha),
 (109,Fh),
 (110,BA),
 (140,W0),
 (141,PP),
 (142,RK),
 (187,ZP),
 (36,ZL),
 (3,ft),
 (4,kF),
 (5,kG),
 (7,jP),
 (8,Fd),
 (10,Fe),
 (14,ZK),
 (11,qQ),
 (15,vV),
 (19,gO),
 (26,jl),
 (27,Bo),
 (28,Bp),
 (29,Bq),
 (30,zU),
 (31,yB),
 (37,fW),
 (38,yC),
 (40,Bs),
 (41,sz),
 (53,ni),
 (54,wE),
 (55,rQ),
 (68,oL),
 (69,ML),
 (70,PL),
 (72,wF),
 (73,KL),
 (89,kZ),
 (95,zY),
 (96,ui),
 (97,zZ),
 (98,rT),
 (121,HA),
 (124,IM),
 (125,UV),
 (126,UW),
 (148,yF),
 (150,yG),
 (152,kJ),
 (171,sJ),
 (172,sK),
 (173,HC),
 (174,sL),
 (175,NU),
 (177,RL),
 (194,sN),
 (218,lM),
 (219,wL),
 (220,MT),
 (221,RQ),
 (222,PQ),
 (223,PR),
 (248,MW),
 (249,NY),
 (250,IT),
 (251,RX),
 (252,Xa),
 (253,RY),
 (254,PV),
 (255,PW),
 (256,IU),
 (257,PX),
 (258,Xb),
 (259,KT),
 (260,Ka),
 (272,MX),
 (273,MY),
 (279,HL),
 (280,Kb)]
def shL:List (Nat×List (List Sh)):=[(153,[[.o 2 []],[.o 2 []]]),
 (167,[[.o 2 []],[]]),
 (170,[[.o 2 []]]),
 (181,[[.o 2 []],[.o 2 []]]),
 (189,[[.o 2 []],[.o 2 []]]),
 (196,[[.o 2 []]]),
 (197,[[.o 2 []],[]]),
 (214,[[.o 2 [.o 2 []]]]),
 (215,[[.o 2 []]]),
 (216,[[.o 2 []],[]]),
 (224,[[.o 2 []]]),
 (226,[[.o 2 []],[.o 2 []]]),
 (230,[[.o 2 []],[.o 2 []]]),
 (231,[[.o 2 []],[.o 2 []]]),
 (233,[[.o 2 []],[.o 2 []]]),
 (234,[[.o 2 []],[]]),
 (247,[[.o 2 []]]),
 (261,[[.o 2 []],[.o 2 []]]),
 (264,[[.o 2 []],[.o 2 []]]),
 (265,[[.o 2 []],[]]),
 (268,[[.o 2 []],[.o 2 []],[]]),
 (6,[[.o 5 Fc],[]]),
 (12,[[.o 5 Fc],[]]),
 (45,[[.o 8 aF],[.o 8 aF],[]]),
 (58,[[.o 8 aF],[]]),
 (60,[[.o 2 []],[]]),
 (102,[[.o 10 WX],[]]),
 (114,[[.o 8 aF],[]]),
 (115,[[.o 2 []],[]]),
 (117,[[.o 2 []],[.o 2 []]]),
 (132,[[.o 2 []]]),
 (134,[[.o 5 Fc],[.o 2 []],[]]),
 (136,[[],[],[.o 5 Fc]]),
 (155,[[.o 10 WX],[]]),
 (164,[[.o 2 []]]),
 (168,[[.o 2 []]]),
 (185,[[.o 5 Fc],[]]),
 (188,[[.o 2 [.o 5 Fc]]]),
 (238,[[.o 2 []],[]]),
 (239,[[.o 8 aF],[]]),
 (246,[[.o 2 [.o 2 []]],[]]),
 (271,[[.o 2 [.o 2 []]],[]]),
 (42,[aL]),
 (43,[aL,aL]),
 (66,[aL]),
 (99,[aL]),
 (100,[aL]),
 (101,[aL,aL]),
 (112,[aL]),
 (113,[[],[.o 2 []],[]]),
 (119,[[.o 2 []]]),
 (129,[aL,[]]),
 (131,[aL,aL]),
 (138,[aL,aL]),
 (147,[aL]),
 (149,[aL]),
 (154,[[.o 2 []],[]]),
 (165,[[.o 2 []]]),
 (166,[[.o 2 []]]),
 (180,[aL]),
 (186,[aL,aL]),
 (228,[aL,aL]),
 (262,[[],[.o 2 []],[]]),
 (25,[aL,[]]),
 (65,[[],[.o 4 aL]]),
 (93,[aL,aL,[]]),
 (94,[aL,aL,[]]),
 (104,[aL,aL,[]]),
 (105,[aL,aL,[]]),
 (122,[aL,aL,[]]),
 (123,[aL,aL,[]]),
 (127,[aL,[]]),
 (128,[aL,[]]),
 (146,[aL,aL,[],[]]),
 (156,[aL,aL,[],[]]),
 (176,[aL,aL,[],[]]),
 (178,[aL,[],[]]),
 (190,[[.o 2 []],[]]),
 (191,[[],[.o 2 [],.o 0 [],.o 0 []],[],[]]),
 (192,[aL,[]]),
 (193,[aL,[]]),
 (198,[aL,[],[]]),
 (199,[aL,aL,[]]),
 (225,[[.o 2 [],.o 0 [],.o 0 []],[],[]]),
 (227,[aL,[]]),
 (235,[aL]),
 (236,[[.o 2 []],[]]),
 (16,[aF,aL]),
 (23,[aF]),
 (39,[aF,aF,[]]),
 (46,[aF,aF]),
 (48,[aF,aF,[]]),
 (52,[aF]),
 (56,[aF]),
 (64,[aL]),
 (71,[aF,aF,[]]),
 (74,[aF,[]]),
 (75,[aF,[]]),
 (82,[aL]),
 (84,[aF,[]]),
 (87,[aF,aF,[]]),
 (90,[[.o 8 aF]]),
 (92,[aF,aF,[],[],[]]),
 (106,[aL,[],aL,[]]),
 (111,[aF,[],[]]),
 (145,[aF,[]]),
 (151,[aF,[]]),
 (159,[aF,aF]),
 (162,[aF]),
 (163,[aL,[],[],[]]),
 (195,[aF,[]]),
 (201,[aL,aL]),
 (202,[aL,aL]),
 (209,[aF,aF]),
 (210,[aF]),
 (211,[aF]),
 (212,[aL,[],[],[],[]]),
 (107,[fH,[.o 8 aF],[]]),
 (157,[fH,[.o 8 aF],[]]),
 (160,[fH,[.o 8 aF],[]]),
 (161,[fH,[.o 8 aF],[]]),
 (200,[fH,[.o 8 aF]]),
 (203,[aF,[],[]]),
 (204,[fH]),
 (205,[aL,aL,aF,[]]),
 (206,[fH,[]]),
 (207,[[],[],aF]),
 (237,[aF]),
 (243,[[],aF,aF]),
 (244,[[],aF,aF]),
 (21,[fH]),
 (22,[fH]),
 (62,[[.o 2 []]]),
 (63,[[.o 2 []],[.o 2 []]]),
 (76,[fH,fH]),
 (80,[[],[.o 2 []],aL]),
 (120,[[],aL]),
 (130,[fH,fH]),
 (135,[Fc,[.o 2 []]]),
 (137,[aL]),
 (143,[fH,fH]),
 (144,[fH,fH]),
 (182,[fH,[]]),
 (183,[fH,[]]),
 (9,[eH,df]),
 (13,[eH,[]]),
 (17,[eH,df,[.o 8 aF]]),
 (20,[eH]),
 (24,[Fc]),
 (32,[eH,df,df]),
 (34,[eH]),
 (44,[eH,[.o 10 WX]]),
 (49,[fH,[.o 8 aF],[]]),
 (51,[eH,df]),
 (59,[aF]),
 (67,[eH,aF]),
 (77,[eH,fH,[],aF]),
 (78,[[],aF,[.o 8 aF]]),
 (85,[eH,df,df]),
 (86,[eH,df,df]),
 (88,[eH,df,aF]),
 (103,[df]),
 (133,[eH,fH]),
 (50,[[],[.o 2 []],[]]),
 (83,[aL,[]]),
 (108,[[.o 2 []]]),
 (109,[[.o 2 []]]),
 (110,[[.o 2 []],[]]),
 (140,[aL]),
 (142,[aL]),
 (187,[[.o 2 []]]),
 (3,[eH,df,df,[]]),
 (4,[aL]),
 (5,[df]),
 (7,[Fc]),
 (10,[[],[],eH,df]),
 (11,[eH,df,df]),
 (15,[eH,df]),
 (19,[eH,df]),
 (26,[eH,df,[]]),
 (27,[eH,df]),
 (28,[eH,df]),
 (29,[eH,df]),
 (30,[eH,df]),
 (31,[eH]),
 (37,[eH,df,[]]),
 (38,[aF,[]]),
 (40,[aF,[]]),
 (53,[aF,[]]),
 (55,[aF,[],[]]),
 (68,[eH,df]),
 (69,[aF,[]]),
 (70,[aF,[]]),
 (72,[eH,df,[]]),
 (73,[aF,[]]),
 (89,[eH,df,df]),
 (95,[aF,[]]),
 (96,[aL]),
 (97,[aF,aF]),
 (98,[aL,[]]),
 (121,[aL,[]]),
 (124,[aF,[]]),
 (125,[aF,[]]),
 (126,[aF,[]]),
 (152,[[],aF,[]]),
 (171,[[],aF,aF]),
 (172,[[],aF,aF]),
 (173,[[],aF]),
 (174,[[],aF,aF]),
 (177,[aF,[],[]]),
 (194,[[],aF]),
 (218,[[],aF]),
 (219,[aF]),
 (222,[aL,[],[]]),
 (223,[aF,[],[]]),
 (248,[aL,[]]),
 (249,[[.o 0 [],.o 2 []],[]]),
 (250,[[.o 0 [],.o 2 []]]),
 (251,[[.o 0 [],.o 2 []],[],[]]),
 (253,[[.o 2 []],[]]),
 (254,[[.o 2 []],[]]),
 (256,[[.o 0 [],.o 2 []],[.o 0 [],.o 2 []],[]]),
 (257,[[.o 0 [],.o 2 []],[.o 0 [],.o 2 []]]),
 (258,[aL,[]]),
 (259,[[.o 0 [],.o 2 []],[.o 0 [],.o 2 []]]),
 (260,[[.o 0 [],.o 2 []]]),
 (272,[[.o 0 [],.o 2 []],[]]),
 (279,[[.o 0 [],.o 2 []],[]]),
 (280,[[.o 0 [],.o 2 []]])]
def mdL:List (Nat×List Nat):=[(268,[1,0,0]),(134,[3,0,0]),(136,[2,0,0]),(139,[2,0,0]),(184,[0,1])]
def keepL:List Nat:=[7,24,38,53,59,69,73,103,124,240,243,244,280]
def ab:List Nat->Nat
 |[]=>0
 |x::l=>x+4294967296*ab l
def Lb(m:List Nat):Prop:=∀x∈m,x<4294967296
def fw:Nat->Nat->List Nat
 |0,_=>[]
 |k+1,n=>n%4294967296::fw k (n/4294967296)
def aA(n:Nat):List Nat:=if h:n=0 then []else n%4294967296::aA (n/4294967296)
termination_by n
decreasing_by omega
theorem gh:aA 0=[]:=by grind[aA]
theorem qE{n}(h:n≠0):aA n=n%4294967296::aA (n/4294967296):=by rw[aA,dif_neg h]
theorem py{n}:aA n=[]↔n=0:=by
 grind[qE,gh]
theorem bp(n):ab (aA n)=n:=by
 induction n using Nat.strongRecOn with
 |ind n ih=>
  grind[gh,qE,ab]
theorem bJ(n):Lb (aA n):=by
 induction n using Nat.strongRecOn with
 |ind n ih=>
  by_cases h:n=0
  ·subst h;rw[gh];intro x hx;grind
  ·rw[qE h];intro x hx;rcases List.mem_cons.1 hx with rfl|hx
   ·omega
   ·exact ih _ ω x hx
theorem P0:Lb []:=fun x hx=>by grind
theorem lk{x}{l}:Lb (x::l)↔x<4294967296/\Lb l:=by
 constructor
 ·intro h;exact⟨h x σ,fun y hy=>h y γ⟩
 ·rintro⟨h1,h2⟩ y hy
  rcases List.mem_cons.1 hy with rfl|hy
  ·omega
  ·exact h2 y hy
theorem tG{l r}:Lb (l++r)↔Lb l/\Lb r:=by
 constructor
 ·intro h;exact⟨fun x hx=>h x γ,fun x hx=>h x γ⟩
 ·rintro⟨h1,h2⟩ x hx
  rcases List.mem_append.1 hx with hx|hx
  ·exact h1 x hx
  ·exact h2 x hx
theorem iW{l}(h:Lb l)(n):Lb (l.take n):=fun x hx=>h x (List.mem_of_mem_take hx)
theorem pA{l}(h:Lb l)(n):Lb (l.drop n):=fun x hx=>h x (List.mem_of_mem_drop hx)
theorem cX{l}(h:Lb l)(i):l.getD i 0<4294967296:=by
 rw[aCl];cases hq:l[i]? with
 |none=>simp
 |some x=>exact h x (aBs hq)
theorem fM(l r):ab (l++r)=ab l+4294967296^l.length*ab r:=by
 induction l with
 |nil=>simp[ab]
 |cons x l ih=>
  simp only[aBF,ab,ih,aB0,aB6,Nat.mul_add];grind
theorem dN{l}(h:Lb l):ab l<4294967296^l.length:=by
 induction l with
 |nil=>simp[ab]
 |cons x l ih=>
  obtain⟨h1,h2⟩:=lk.1 h;grind[ab,aB0,aB6]
theorem dO(k n):(fw k n).length=k:=by
 induction k generalizing n with
 |zero=>rfl
 |succ k ih=>grind[fw]
theorem sR(k n):Lb (fw k n):=by
 induction k generalizing n with
 |zero=>exact P0
 |succ k ih=>exact lk.2 ⟨by omega,ih _⟩
theorem rF(k n):ab (fw k n)=n%4294967296^k:=by
 induction k generalizing n with
 |zero=>simp[fw,ab,Nat.mod_one]
 |succ k ih=>
  rw[fw,ab,ih,aB6,aBD (4294967296^k),Nat.mod_mul]
theorem IX{l}(h:Lb l):fw l.length (ab l)=l:=by
 induction l with
 |nil=>rfl
 |cons x l ih=>
  obtain⟨h1,h2⟩:=lk.1 h;grind[aB0,fw,ab]
theorem Uc(n):ab (aBg n 0)=0:=by
 induction n with
 |zero=>rfl
 |succ n ih=>simp[List.replicate_succ,ab,ih]
def oZ(m:List Nat):Nat->Nat
 |0=>0
 |n+1=>if m.getD n 0=0 then oZ m n else n+1
theorem Ft(m):∀n,oZ m n<=n
 |0=>aBh _
 |n+1=>by
  unfold oZ;have:=Ft m n;split<;>omega
theorem aaB(m):∀n,oZ m n=0\/m.getD (oZ m n-1) 0≠0
 |0=>.inl rfl
 |n+1=>by
  unfold oZ;split
  ·exact aaB m n
  ·rename_i h;exact .inr h
theorem Xc(m):∀n i,oZ m n<=i->i<n->m.getD i 0=0
 |0,i,_,h=>by omega
 |n+1,i,h1,h2=>by
  unfold oZ at h1;split at h1
  ·rename_i h;by_cases e:i=n
   ·rw[e];exact h
   ·exact Xc m n i h1 ω
  ·omega
def IY(m:List Nat):Prop:=m=[]\/m.getD (m.length-1) 0≠0
theorem R1(x)(l)(i):(x::l).getD (i+1) 0=l.getD i 0:=γ
theorem P1{x}{l}(h:IY (x::l)):IY l:=by
 rcases h with h|h
 ·grind
 ·cases l with
  |nil=>exact .inl rfl
  |cons y l=>
   refine .inr ?_;grind
theorem aff{l}(h:IY l)(hne:l≠[]):ab l≠0:=by
 induction l with
 |nil=>grind
 |cons x l ih=>
  cases l with
  |nil=>
   rcases h with h|h
   all_goals grind[ab]
  |cons y l=>
   grind[P1,ab]
theorem aaC{l}(h1:Lb l)(h2:IY l):aA (ab l)=l:=by
 induction l with
 |nil=>exact gh
 |cons x l ih=>
  obtain⟨h3,h4⟩:=lk.1 h1;grind[qE,aff,ab,P1]
theorem afg(n):IY (aA n):=by
 induction n using Nat.strongRecOn with
 |ind n ih=>
  by_cases h:n=0
  ·subst h;rw[gh];exact .inl rfl
  ·refine .inr ?_;rcases ih (n/4294967296) ω with h2|h2
   all_goals grind[aA,aB0,Nat.add_sub_cancel,R1]
theorem Xd(m):ab (m.take (oZ m m.length))=ab m:=by
 have h:m=m.take (oZ m m.length)++m.drop (oZ m m.length):=(List.take_append_drop _ _).symm;have hz:m.drop (oZ m m.length)=aBg (m.length-oZ m m.length) 0:=by
  rw[List.eq_replicate_iff];refine⟨by simp,fun x hx=>?_⟩;obtain⟨i,hi⟩:=aB5 hx;rw[List.getElem?_drop]at hi;have hl:=(List.getElem?_eq_some_iff.1 hi).1;have:=Xc m m.length (oZ m m.length+i) ω hl;grind
 grind[fM,Uc]
theorem R2(m:List Nat):IY (m.take (oZ m m.length)):=by
 rcases aaB m m.length with h|h
 ·rw[h];exact .inl rfl
 ·by_cases h0:oZ m m.length=0
  ·rw[h0];exact .inl rfl
  ·refine .inr ?_;grind
theorem NZ{m}(h:Lb m):m.take (oZ m m.length)=aA (ab m):=by
 rw[←aaC (iW h _) (R2 m),Xd]
theorem lE{n k}(h:n<4294967296^k):(aA n).length<=k:=by
 induction k generalizing n with
 |zero=>
  grind[gh]
 |succ k ih=>
  grind[qE,aB0,aB6,Nat.div_lt_of_lt_mul,aBD]
theorem iO(n):n<4294967296^ (aA n).length:=by
 grind[dN,bJ,bp]
theorem Ud{n}(h:n≠0):4294967296^ ((aA n).length-1)<=n:=by
 induction n using Nat.strongRecOn with
 |ind n ih=>
  grind[aA,Nat.succ_pred_eq_of_pos,Nat.add_sub_cancel,aB6]
def tz(n:Nat):Nat:=if h:n=0 then 0 else if n%2=1 then 0 else tz (n/2)+1
termination_by n
decreasing_by omega
theorem zo{n}(h:n%2=1):tz n=0:=by
 rw[tz,dif_neg ω,if_pos h]
theorem afh{n}(h:n≠0):tz (2*n)=tz n+1:=by
 rw[tz,dif_neg ω,if_neg ω,Nat.mul_div_cancel_left n δ]
theorem KU{n}(k)(h:n≠0):tz (2^k*n)=k+tz n:=by
 induction k with
 |zero=>rw[Nat.pow_zero,Nat.one_mul,aBi]
 |succ k ih=>
  grind[aB6,aBD,aBH,afh,Nat.mul_ne_zero,Nat.ne_of_gt,aBA]
theorem AF{n}(h:n≠0):n=2^tz n*(n/2^tz n)/\n/2^tz n%2=1:=by
 induction n using Nat.strongRecOn with
 |ind n ih=>
  by_cases h1:n%2=1
  ·simp_all[zo,Nat.pow_zero,Nat.div_one,Nat.one_mul]
  ·have hn:n=2*(n/2):=ω
   grind[tz,aB6,aBD,Nat.div_div_eq_div_mul,aBH]
theorem aoF{x k}(y)(h:x≠0)(hx:x<2^k):tz (x+2^k*y)=tz x:=by
 obtain⟨e1,e2⟩:=AF h;generalize x/2^tz x=q at e1 e2;have hle:2^tz x<=x:=by
  conv=>rhs;rw[e1]
  exact Nat.le_mul_of_pos_right _ ω
 have hk:=(Nat.pow_lt_pow_iff_right δ).1 (aBU hle hx);generalize hz:2^ (k-tz x-1)*y=z;have e3:x+2^k*y=2^tz x*(q+2*z):=by
  have e4:2^k=2^tz x*(2*2^ (k-tz x-1)):=by
   rw[←Nat.pow_succ',←aBx];grind
  grind
 have e5:(q+2*z) %2=1:=ω
 rw[e3,KU _ ω,zo e5,aBR]
theorem VJ{x k}(h:x≠0)(hx:x<2^k):tz x<k:=by
 obtain⟨e1,e2⟩:=AF h;generalize x/2^tz x=q at e1 e2;have hle:2^tz x<=x:=by
  conv=>rhs;rw[e1]
  exact Nat.le_mul_of_pos_right _ ω
 exact(Nat.pow_lt_pow_iff_right δ).1 (aBU hle hx)
def Ue:Nat->Nat->Nat
 |0,_=>0
 |k+1,n=>if n%2=1 then 0 else Ue k (n/2)+1
theorem aoG:∀k x,x≠0->x<2^k->Ue k x=tz x:=by
 intro k;induction k with
 |zero=>omega
 |succ k ih=>
  intro x h0 h1;unfold Ue;by_cases h:x%2=1
  ·rw[if_pos h,zo h]
  ·have:=afh (n:=x/2) ω;grind
def tzF(zas:List AV)(hs:List Ob):Option (AV×List Ob):=match zas with
 |[.v (.int .u32 n)]=>if 0<n/\n<4294967296/\hs=[]then some (.v (.int .i64 (Ue 32 n.toNat)),[])else none
 |_=>none
def ovF(k:Nat)(zas:List AV)(hs:List Ob):Option (AV×List Ob):=match zas,hs with
 |[.sl k0 (_::_),.rsl 1000 none k1 _ _],[.ar k2 rows]=>if k0=k/\k1=k/\k2=k then some (B false,[.ar k2 rows])else none
 |_,_=>none
def clF(zas:List AV)(hs:List Ob):Option (AV×List Ob):=match zas,hs with
 |[.sl 1 []],[]=>some (.sl 1 [],[])
 |[.sl 1 (r::rs)],[]=>if(rs.length+1)*8<=140737488355328 then some (.osl 1 (r::rs),[])else none
 |_,_=>none
def clU(zas:List AV)(hs:List Ob):Option (AV×List Ob):=match zas,hs with
 |[.sl 1 []],[]=>some (.sl 1 [],[])
 |[.sl 1 (r::rs)],[]=>if(rs.length+1)*4<=140737488355328 then some (.sl 1 (r::rs),[])else none
 |_,_=>none
def Xe(k bytes:Nat)(zas:List AV)(hs:List Ob):Option (AV×List Ob):=match zas,hs with
 |[.emp,.v (.int .i64 0),.sl k0 [r]],[]=>if k0=k then some (.osl k [r],[])else none
 |[.rsl 1000 none k1 0 n,.v (.int .i64 i),.sl k0 [r]],[.ar k2 rows]=>
  if k0=k/\k1=k/\k2=k/\n=rows.length/\0<=i/\i<=n/\(n+1)*bytes<=140737488355328 then some (.osl k (rows.take i.toNat++r::rows.drop i.toNat),[.dead])else none
 |_,_=>none
def VK:List (Nat× (List AV->List Ob->Option (AV×List Ob))):=[(213,tzF),(184,ovF 4)]
def aoH:List (Nat× (List AV->List Ob->Option (AV×List Ob))):=(164,clU)::(132,clF)::(136,Xe 4 64)::VK
noncomputable def cQ:Env:=⟨fun f=>aoH.lookup f,fun f=>akI.lookup f,⟨fun f=>(mdL.lookup f).getD [],fun f=>(shL.lookup f).getD [],fun f=>keepL.contains f,false⟩⟩
noncomputable def aC (b:Bool):Mode:={cQ.md with nm:=b}
noncomputable def R:jJ:=jj cQ
theorem KV{fd:FD}{args:List AV}{hs:List Ob}{r:AV×List Ob}(b:Bool)(hE:cQ.E f=none)(hC:cQ.C f=some fd)(hk:cQ.md.keep f=b)(h1:args.length=fd.np)(h2:hs.length<=1000)
  (hz:lI b fd.rs fd.res hs.length (ap R (aC b) fd.body (vH args) (au hs))=some r):R f args hs=some r:=by
 refine KJ hE hC ?_;unfold WQ;rw[if_pos ⟨h1,h2⟩];subst hk;exact hz
theorem aAr(b:Bool):(aC b).nm=b:=θ _
abbrev Fu(f:FuncId):Prop:=∀ (b:Bool) (h:ah) (d:Nat) (zas:List AV),bB R (aC b) h d zas (.fn f [] [])=(ce h [] zas).bind (IH R (aC b) d f)
abbrev BL(f:FuncId)(l:List (List Sh)):Prop:=∀b:Bool,(aC b).sh f=l
abbrev BM(f:FuncId)(l:List Nat):Prop:=∀b:Bool,(aC b).m f=l
abbrev BN(f:FuncId)(l:Bool):Prop:=∀b:Bool,(aC b).keep f=l
theorem yQ(h:cQ.md.sh f=l):BL f l:=fun _=>h
theorem yR{l:List Nat}(h:cQ.md.m f=l):BM f l:=fun _=>h
theorem yS{l:Bool}(h:cQ.md.keep f=l):BN f l:=fun _=>h
theorem BO(hm:∀b,(aC b).m f=[]):Fu f:=fun b _ d _=>II d (hm b)
abbrev QL(f:FuncId)(l:List (List Sh)):Prop:=BL f l/\BM f []/\Fu f/\BN f false
abbrev QE(f:FuncId)(l:List (List Sh))(fd:FD):Prop:=QL f l/\cQ.E f=none/\cQ.C f=some fd
theorem ql(h:(cQ.md.sh f,cQ.md.m f,cQ.md.keep f)=(l,[],false)):QL f l:=by
 simp only[Prod.mk.injEq]at h;exact⟨fun _=>h.1,fun _=>h.2.1,BO fun _=>h.2.1,fun _=>h.2.2⟩
theorem qe{fd:FD}(h:(cQ.md.sh f,cQ.md.m f,cQ.md.keep f,cQ.E f,cQ.C f)=(l,[],false,none,some fd)):QE f l fd:=by
 simp only[Prod.mk.injEq]at h;exact⟨⟨fun _=>h.1,fun _=>h.2.1,BO fun _=>h.2.1,fun _=>h.2.2.1⟩,h.2.2.2⟩
theorem HM:QE 3 [eH,df,df,[]] ft:=qe κ
theorem Ge:QE 4 [aL] kF:=qe κ
theorem jd:QE 5 [df] kG:=qe κ
theorem bF:QE 6 [[.o 5 Fc],[]] kh:=qe κ
theorem Ep:cQ.C 7=some jP:=by kernel_rfl
theorem Es:cQ.E 7=none:=by kernel_rfl
theorem D5:BL 7 [[.o 2 [],.o 0 [],.o 2 [],.o 0 []]]:=yQ κ
theorem wl:BM 7 []:=yR κ
theorem R4:Fu 7:=BO wl
theorem sT:BN 7 true:=yS κ
theorem ZQ:QE 8 [] Fd:=qe κ
theorem U7:QE 9 [eH,df] j5:=qe κ
theorem ZR:QE 10 [[],[],eH,df] Fe:=qe κ
theorem MZ:QE 11 [eH,df,df] qQ:=qe κ
theorem cJ:QE 12 [[.o 5 Fc],[]] lX:=qe κ
theorem ZS:QE 13 [eH,[]] sv:=qe κ
theorem ar4:QL 14 []:=ql κ
theorem HN:QE 15 [eH,df] vV:=qe κ
theorem R5:QE 16 [aF,aL] kH:=qe κ
theorem Xf:QE 17 [eH,df,[.o 8 aF]] uL:=qe κ
theorem afk:QE 18 [] IJ:=qe κ
theorem mT:QE 19 [eH,df] gO:=qe κ
theorem KW:QE 20 [eH] ej:=qe κ
theorem Xg:QE 21 [fH] nK:=qe κ
theorem U8:QE 22 [fH] sy:=qe κ
theorem N0:QE 23 [aF] jk:=qe κ
theorem P2:cQ.C 24=some zT:=by kernel_rfl
theorem P3:cQ.E 24=none:=by kernel_rfl
theorem aiz:BL 24 [[.o 2 [],.o 0 [],.o 2 [],.o 0 []]]:=yQ κ
theorem GA:BM 24 []:=yR κ
theorem afl:Fu 24:=BO GA
theorem Dz:BN 24 true:=yS κ
theorem adq:QE 25 [aL,[]] zj:=qe κ
theorem N1:QE 26 [eH,df,[]] jl:=qe κ
theorem R6:QE 27 [eH,df] Bo:=qe κ
theorem R7:QE 28 [eH,df] Bp:=qe κ
theorem R8:QE 29 [eH,df] Bq:=qe κ
theorem P4:QE 30 [eH,df] zU:=qe κ
theorem N2:QE 31 [eH] yB:=qe κ
theorem ZT:QE 32 [eH,df,df] Br:=qe κ
theorem adr:QE 33 [] vC:=qe κ
theorem Xh:QE 34 [eH] DU:=qe κ
theorem J0:QE 35 [] xH:=qe κ
theorem aX:QE 37 [eH,df,[]] fW:=qe κ
theorem N3:cQ.C 38=some yC:=by kernel_rfl
theorem N4:cQ.E 38=none:=by kernel_rfl
theorem M0:BL 38 [aF,[]]:=yQ κ
theorem Fv:BM 38 []:=yR κ
theorem aew:Fu 38:=BO Fv
theorem Cc:BN 38 true:=yS κ
theorem R9:QE 39 [aF,aF,[]] ng:=qe κ
theorem Sa:QE 40 [aF,[]] Bs:=qe κ
theorem IZ:QE 41 [] sz:=qe κ
theorem Sc:QE 42 [aL] jy:=qe κ
theorem Xi:QE 43 [aL,aL] lA:=qe κ
theorem U9:QE 44 [eH,[.o 10 WX]] xI:=qe κ
theorem iJ:QE 45 [[.o 8 aF],[.o 8 aF],[]] bD:=qe κ
theorem M1:QE 46 [aF,aF] eX:=qe κ
theorem N5:QE 47 [] yD:=qe κ
theorem Sd:QE 48 [aF,aF,[]] qR:=qe κ
theorem Se:QE 49 [fH,[.o 8 aF],[]] vW:=qe κ
theorem aiA:QE 50 [[],[.o 2 []],[]] Gs:=qe κ
theorem Va:QE 51 [eH,df] xJ:=qe κ
theorem P5:QE 52 [aF] pJ:=qe κ
theorem I1:cQ.C 53=some ni:=by kernel_rfl
theorem I2:cQ.E 53=none:=by kernel_rfl
theorem aaE:BL 53 [aF,[]]:=yQ κ
theorem BP:BM 53 []:=yR κ
theorem Zo:Fu 53:=BO BP
theorem yt:BN 53 true:=yS κ
theorem M2:QE 54 [] wE:=qe κ
theorem Fw:QE 55 [aF,[],[]] rQ:=qe κ
theorem Sf:QE 56 [aF] vX:=qe κ
theorem Xj:QE 57 [] zH:=qe κ
theorem bc:QE 58 [[.o 8 aF],[]] ie:=qe κ
theorem I3:cQ.C 59=some sA:=by kernel_rfl
theorem I4:cQ.E 59=none:=by kernel_rfl
theorem aaF:BL 59 [aF]:=yQ κ
theorem BQ:BM 59 []:=yR κ
theorem Zp:Fu 59:=BO BQ
theorem yu:BN 59 true:=yS κ
theorem kO:QE 60 [[.o 2 []],[]] qx:=qe κ
theorem HO:QE 61 [] vY:=qe κ
theorem Vb:QE 62 [[.o 2 []]] Cp:=qe κ
theorem Xk:QE 63 [[.o 2 []],[.o 2 []]] zJ:=qe κ
theorem KX:QE 64 [aL] jF:=qe κ
theorem Vc:QE 65 [[],[.o 4 aL]] sB:=qe κ
theorem Vd:QE 66 [aL] xK:=qe κ
theorem Ve:QE 67 [eH,aF] pj:=qe κ
theorem Kc:QE 68 [eH,df] oL:=qe κ
theorem ah0:BL 69 [aF,[]]:=yQ κ
theorem N6:BM 69 []:=yR κ
theorem aex:Fu 69:=BO N6
theorem aey:BN 69 true:=yS κ
theorem Sg:QE 71 [aF,aF,[]] qS:=qe κ
theorem M3:QE 72 [eH,df,[]] wF:=qe κ
theorem afm:BL 73 [aF,[]]:=yQ κ
theorem M4:BM 73 []:=yR κ
theorem ads:Fu 73:=BO M4
theorem adt:BN 73 true:=yS κ
theorem N7:QE 75 [aF,[]] rR:=qe κ
theorem adu:QE 76 [fH,fH] rC:=qe κ
theorem Xl:QE 77 [eH,fH,[],aF] uN:=qe κ
theorem ZU:QE 78 [[],aF,[.o 8 aF]] Ff:=qe κ
theorem Xm:QE 79 [] JQ:=qe κ
theorem aV:QE 80 [[],[.o 2 []],aL] ig:=qe κ
theorem bG:QE 81 [] gG:=qe κ
theorem N8:QE 82 [aL] yE:=qe κ
theorem Si:QE 84 [aF,[]] jz:=qe κ
theorem ZV:QE 85 [eH,df,df] Bv:=qe κ
theorem ZW:QE 86 [eH,df,df] Bw:=qe κ
theorem Sj:QE 87 [aF,aF,[]] Bz:=qe κ
theorem Vf:QE 88 [eH,df,aF] xM:=qe κ
theorem uw:QE 89 [eH,df,df] kZ:=qe κ
theorem N9:QE 90 [[.o 8 aF]] rS:=qe κ
theorem I5:QE 91 [] nj:=qe κ
theorem P6:QE 92 [aF,aF,[],[],[]] zW:=qe κ
theorem re:QE 93 [aL,aL,[]] zX:=qe κ
theorem uZ:QE 94 [aL,aL,[]] Cq:=qe κ
theorem P7:QE 95 [aF,[]] zY:=qe κ
theorem Kd:QE 96 [aL] ui:=qe κ
theorem P8:QE 97 [aF,aF] zZ:=qe κ
theorem Fy:QE 98 [aL,[]] rT:=qe κ
theorem Oa:QE 99 [aL] jo:=qe κ
theorem Vg:QE 100 [aL] po:=qe κ
theorem Oc:QE 101 [aL,aL] nS:=qe κ
theorem cR:QE 102 [[.o 10 WX],[]] jS:=qe κ
theorem P9:cQ.C 103=some Aa:=by kernel_rfl
theorem Qa:cQ.E 103=none:=by kernel_rfl
theorem aiB:BL 103 [df]:=yQ κ
theorem GB:BM 103 []:=yR κ
theorem afn:Fu 103:=BO GB
theorem DA:BN 103 true:=yS κ
theorem Qb:QE 104 [aL,aL,[]] Ac:=qe κ
theorem Vh:QE 105 [aL,aL,[]] Cr:=qe κ
theorem Qc:QE 106 [aL,[],aL,[]] pM:=qe κ
theorem Xn:QE 107 [fH,[.o 8 aF],[]] uO:=qe κ
theorem adv:QE 108 [[.o 2 []]] Ha:=qe κ
theorem ZX:QE 109 [[.o 2 []]] Fh:=qe κ
theorem ZY:QE 110 [[.o 2 []],[]] BA:=qe κ
theorem Od:QE 111 [aF,[],[]] gI:=qe κ
theorem Xo:QE 112 [aL] uP:=qe κ
theorem KY:QE 113 [[],[.o 2 []],[]] qu:=qe κ
theorem aQ:QE 114 [[.o 8 aF],[]] i9:=qe κ
theorem fY:QE 115 [[.o 2 []],[]] sD:=qe κ
theorem KZ:QE 116 [] lZ:=qe κ
theorem Et:QE 117 [[.o 2 []],[.o 2 []]] jQ:=qe κ
theorem Qd:QE 118 [] uj:=qe κ
theorem Vi:QE 119 [[.o 2 []]] Cs:=qe κ
theorem Xq:QE 120 [[],aL] zL:=qe κ
theorem rg:QE 122 [aL,aL,[]] Ad:=qe κ
theorem u9:QE 123 [aL,aL,[]] Ct:=qe κ
theorem adw:BL 124 [aF,[]]:=yQ κ
theorem Ke:BM 124 []:=yR κ
theorem ZZ:Fu 124:=BO Ke
theorem Z0:BN 124 true:=yS κ
theorem HP:QE 129 [aL,[]] vZ:=qe κ
theorem Z3:QE 130 [fH,fH] wG:=qe κ
theorem Xr:QE 131 [aL,aL] jR:=qe κ
theorem Zq:QL 132 [[.o 2 []]]:=ql κ
theorem Z4:QE 133 [eH,fH] BC:=qe κ
theorem pB:cQ.C 134=some dL:=by kernel_rfl
theorem pC:cQ.E 134=none:=by kernel_rfl
theorem gY:BL 134 [[.o 5 [.o 2 [],.o 0 [],.o 2 [],.o 0 []]],[.o 2 []],[]]:=yQ κ
theorem io:BM 134 [3,0,0]:=yR κ
theorem gw:BN 134 false:=yS κ
theorem Hg:QE 135 [Fc,[.o 2 []]] qy:=qe κ
theorem nv:BL 136 [[],[],[.o 5 [.o 2 [],.o 0 [],.o 2 [],.o 0 []]]]:=yQ κ
theorem og:BM 136 [2,0,0]:=yR κ
theorem mD:BN 136 false:=yS κ
theorem Vj:QE 137 [aL] Cu:=qe κ
theorem Xs:QE 138 [aL,aL] uR:=qe κ
theorem yU:cQ.C 139=some iT:=by kernel_rfl
theorem yV:cQ.E 139=none:=by kernel_rfl
theorem xZ:BL 139 []:=yQ κ
theorem yW:BM 139 [2,0,0]:=yR κ
theorem mE:BN 139 false:=yS κ
theorem adx:QE 143 [fH,fH] De:=qe κ
theorem ady:QE 144 [fH,fH] Df:=qe κ
theorem Ah:QE 145 [aF,[]] nT:=qe κ
theorem Z5:QE 146 [aL,aL,[],[]] sE:=qe κ
theorem Xt:QE 147 [aL] uT:=qe κ
theorem Oe:QE 148 [] yF:=qe κ
theorem Xu:QE 149 [aL] uU:=qe κ
theorem Of:QE 150 [] yG:=qe κ
theorem Og:QE 151 [aF,[]] nU:=qe κ
theorem yv:QE 152 [[],aF,[]] kJ:=qe κ
theorem Vk:QE 153 [[.o 2 []],[.o 2 []]] sF:=qe κ
theorem Oh:QE 154 [[.o 2 []],[]] yH:=qe κ
theorem cI:QE 155 [[.o 10 WX],[]] kL:=qe κ
theorem NC:QE 156 [aL,aL,[],[]] pP:=qe κ
theorem Xv:QE 157 [fH,[.o 8 aF],[]] uX:=qe κ
theorem Vl:QE 158 [] Cv:=qe κ
theorem Qe:QE 159 [aF,aF] iF:=qe κ
theorem Vm:QE 160 [fH,[.o 8 aF],[]] xO:=qe κ
theorem lq:QE 161 [fH,[.o 8 aF],[]] iH:=qe κ
theorem Sk:QE 162 [aF] v9:=qe κ
theorem HQ:QE 163 [aL,[],[],[]] qV:=qe κ
theorem B7:QL 164 [[.o 2 []]]:=ql κ
theorem Oi:QE 165 [[.o 2 []]] yI:=qe κ
theorem Xw:QE 166 [[.o 2 []]] DW:=qe κ
theorem Vn:QE 167 [[.o 2 []],[]] sH:=qe κ
theorem CB:QE 168 [[.o 2 []]] lJ:=qe κ
theorem Oj:QE 169 [] yJ:=qe κ
theorem Sl:QE 170 [[.o 2 []]] wh:=qe κ
theorem I6:QE 171 [[],aF,aF] sJ:=qe κ
theorem I7:QE 172 [[],aF,aF] sK:=qe κ
theorem I8:QE 174 [[],aF,aF] sL:=qe κ
theorem Z6:QE 176 [aL,aL,[],[]] sM:=qe κ
theorem M5:QE 179 [] qW:=qe κ
theorem Ol:QE 180 [aL] rU:=qe κ
theorem Vo:QE 181 [[.o 2 []],[.o 2 []]] xQ:=qe κ
theorem Xx:QE 182 [fH,[]] zN:=qe κ
theorem Xy:QE 183 [fH,[]] qC:=qe κ
theorem Xz:QE 186 [aL,aL] nM:=qe κ
theorem yX:QE 188 [[.o 2 [.o 5 Fc]]] iV:=qe κ
theorem Om:QE 189 [[.o 2 []],[.o 2 []]] yL:=qe κ
theorem Z7:QE 190 [[.o 2 []],[]] Fk:=qe κ
theorem Sn:QE 191 [[],[.o 2 [],.o 0 [],.o 0 []],[],[]] qX:=qe κ
theorem XA:QE 192 [aL,[]] DX:=qe κ
theorem adz:QE 193 [aL,[]] Hc:=qe κ
theorem I9:QE 194 [[],aF] sN:=qe κ
theorem M6:QE 195 [aF,[]] mP:=qe κ
theorem So:QE 196 [[.o 2 []]] BF:=qe κ
theorem Vp:QE 197 [[.o 2 []],[]] pq:=qe κ
theorem Vq:QE 198 [aL,[],[]] xR:=qe κ
theorem Z8:QE 199 [aL,aL,[]] wJ:=qe κ
theorem Sp:QE 200 [fH,[.o 8 aF]] qY:=qe κ
theorem Qf:QE 201 [aL,aL] uk:=qe κ
theorem Qg:QE 202 [aL,aL] uo:=qe κ
theorem Vr:QE 203 [aF,[],[]] xS:=qe κ
theorem Sr:QE 204 [fH] qZ:=qe κ
theorem XB:QE 205 [aL,aL,aF,[]] iM:=qe κ
theorem CC:QE 206 [fH,[]] BG:=qe κ
theorem jt:QE 207 [[],[],aF] wK:=qe κ
theorem fy:QE 208 [] qz:=qe κ
theorem Qh:QE 209 [aF,aF] uq:=qe κ
theorem Ss:QE 210 [aF] wj:=qe κ
theorem Su:QE 211 [aF] BH:=qe κ
theorem Fz:QE 212 [aL,[],[],[],[]] rX:=qe κ
theorem Z9:QL 213 []:=ql κ
theorem Sv:QE 214 [[.o 2 [.o 2 []]]] BI:=qe κ
theorem Sw:QE 215 [[.o 2 []]] wk:=qe κ
theorem Vs:QE 216 [[.o 2 []],[]] xU:=qe κ
theorem XC:QE 217 [] qD:=qe κ
theorem Hh:QE 218 [[],aF] lM:=qe κ
theorem M7:QE 219 [aF] wL:=qe κ
theorem aaa:QE 225 [[.o 2 [],.o 0 [],.o 0 []],[],[]] wM:=qe κ
theorem Vt:QE 226 [[.o 2 []],[.o 2 []]] Cy:=qe κ
theorem XD:QE 227 [aL,[]] iN:=qe κ
theorem XE:QE 228 [aL,aL] uY:=qe κ
theorem Vu:QE 230 [[.o 2 []],[.o 2 []]] xV:=qe κ
theorem Vv:QE 231 [[.o 2 []],[.o 2 []]] sO:=qe κ
theorem pW:QE 232 [] fS:=qe κ
theorem FA:QE 233 [[.o 2 []],[.o 2 []]] rZ:=qe κ
theorem Vw:QE 234 [[.o 2 []],[]] Cz:=qe κ
theorem adA:QE 235 [aL] Hd:=qe κ
theorem aab:QE 236 [[.o 2 []],[]] BJ:=qe κ
theorem FB:QE 237 [aF] se:=qe κ
theorem Gf:QE 238 [[.o 2 []],[]] pT:=qe κ
theorem sU:QE 239 [[.o 8 aF],[]] fF:=qe κ
theorem M8:cQ.C 240=some wO:=by kernel_rfl
theorem M9:cQ.E 240=none:=by kernel_rfl
theorem afo:BL 240 []:=yQ κ
theorem oj:BM 240 []:=yR κ
theorem adB:Fu 240:=BO oj
theorem BR:BN 240 true:=yS κ
theorem bL:QE 241 [] qw:=qe κ
theorem fJ:QE 242 [] uu:=qe κ
theorem On:cQ.C 243=some yM:=by kernel_rfl
theorem Oo:cQ.E 243=none:=by kernel_rfl
theorem Na:BL 243 [[],aF,aF]:=yQ κ
theorem Ai:BM 243 []:=yR κ
theorem aez:Fu 243:=BO Ai
theorem Cd:BN 243 true:=yS κ
theorem Oq:cQ.C 244=some yN:=by kernel_rfl
theorem Ot:cQ.E 244=none:=by kernel_rfl
theorem Nb:BL 244 [[],aF,aF]:=yQ κ
theorem Aj:BM 244 []:=yR κ
theorem aeA:Fu 244:=BO Aj
theorem Ce:BN 244 true:=yS κ
theorem dA:QE 245 [] oS:=qe κ
theorem eu:QE 246 [[.o 2 [.o 2 []]],[]] lD:=qe κ
theorem FC:QE 247 [[.o 2 []]] yO:=qe κ
theorem Vx:QE 261 [[.o 2 []],[.o 2 []]] xW:=qe κ
theorem Vy:QE 262 [[],[.o 2 []],[]] pu:=qe κ
theorem Vz:QE 264 [[.o 2 []],[.o 2 []]] CA:=qe κ
theorem Qi:QE 265 [[.o 2 []],[]] Af:=qe κ
theorem HR:QE 266 [] rD:=qe κ
theorem Qj:QE 267 [] uv:=qe κ
theorem Sx:cQ.C 268=some BK:=by kernel_rfl
theorem Sy:cQ.E 268=none:=by kernel_rfl
theorem Qk:BL 268 [[.o 2 []],[.o 2 []],[]]:=yQ κ
theorem Sz:BM 268 [1,0,0]:=yR κ
theorem Ee:BN 268 false:=yS κ
theorem XF:QE 269 [] DZ:=qe κ
theorem adC:QE 270 [] Hf:=qe κ
theorem dE:QE 271 [[.o 2 [.o 2 []]],[]] mS:=qe κ
theorem XG:QE 274 [] D0:=qe κ
theorem XH:QE 275 [] D3:=qe κ
theorem Ql:QE 276 [] Ag:=qe κ
theorem aoI:QL 277 []:=ql κ
theorem XI:QE 278 [] D4:=qe κ
attribute [go_sem] aAr HM Ge jd bF D5 wl R4 sT ZQ U7 ZR MZ cJ ZS ar4 HN R5 Xf afk mT KW Xg U8 N0 aiz GA afl Dz adq N1 R6 R7 R8 P4 N2 ZT adr Xh J0 aX M0 Fv aew Cc R9 Sa IZ Sc Xi U9 iJ M1 N5 Sd Se aiA Va P5 aaE BP Zo yt M2 Fw Sf Xj bc aaF BQ Zp yu kO HO Vb Xk KX Vc Vd Ve Kc ah0 N6 aex aey Sg M3 afm M4 ads adt N7 adu Xl ZU Xm aV bG N8 Si ZV ZW Sj Vf uw N9 I5 P6 re uZ P7 Kd P8 Fy Oa Vg Oc cR aiB GB afn DA Qb Vh Qc Xn adv ZX ZY Od Xo KY aQ fY KZ Et Qd Vi Xq rg u9 adw Ke ZZ Z0 HP Z3 Xr Zq Z4 gY io gw Hg nv og mD Vj Xs xZ yW mE adx ady Ah Z5 Xt Oe Xu Of Og yv Vk Oh cI NC Xv Vl Qe Vm lq Sk HQ B7 Oi Xw Vn CB Oj Sl I6 I7 I8 Z6 M5 Ol Vo Xx Xy Xz yX Om Z7 Sn XA adz I9 M6 So Vp Vq Z8 Sp Qf Qg Vr Sr XB CC jt fy Qh Ss Su Fz Z9 Sv Sw Vs XC Hh M7 aaa Vt XD XE Vu Vv pW FA Vw adA aab FB Gf sU afo oj adB BR bL fJ Na Ai aez Cd Nb Aj aeA Ce dA eu FC Vx Vy Vz Qi HR Qj Qk Sz Ee XF adC dE XG XH Ql aoI XI
attribute [go_sem_proc ↓] reduceIte
attribute [go_sem_proc] Nat.reduceEqDiff Nat.reduceMul Nat.reduceAdd Nat.reduceLeDiff Nat.reduceLT Nat.reduceBEq
end Go.Ab
