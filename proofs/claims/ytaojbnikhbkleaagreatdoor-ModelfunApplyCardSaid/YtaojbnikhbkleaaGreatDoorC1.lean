/-
  ModelfunApply holds at every input of its card. Part C1.
-/
import Derived.Test.YtaojbnikhbkleaaGreatDoorProg
import Derived.KernelRfl
import Derived.Test.YtaojbnikhbkleaaGreatDoorB1
open Nat renaming add_zero → aFA, le_refl → aET, lt_of_le_of_lt → aFl, mul_assoc → aFj, mul_comm → aFd, pow_add → aE2, pow_succ → aFJ, two_pow_pos → aE7, zero_add → aES
open List renaming length → O, cons_append → aFb, getD_eq_getElem?_getD → aF3, getElem?_of_mem → aFL, length_cons → aFk, mem_of_getElem? → aE6, replicate → aER
set_option linter.all false
namespace Go.Ab
open Go
open Go.Proofs
set_option maxRecDepth 100000
set_option maxHeartbeats 4000000
variable{f:FuncId}{l:List (List Sh)}
def aL:List Sh:=[a9,aR,a9]
def aEx:aL=[a9,aR,a9]:=θ _
def aF:List Sh:=[a9,aR,a9,a9,aR,a9,a9]
def aEy:aF=[a9,aR,a9,a9,aR,a9,a9]:=θ _
def dp:List Sh:=[a9,.o 5 [aR,a9,aR,a9],a9,aR,a9,a9,aR,a9,a9]
def aEz:dp=[a9,.o 5 [aR,a9,aR,a9],a9,aR,a9,a9,aR,a9,a9]:=θ _
def eE:List Sh:=[.o 8 aF,a9,a9]
def aEA:eE=[.o 8 aF,a9,a9]:=θ _
def Fq:List Sh:=[a9,.o 5 [],a9,aR,a9,a9,aR,a9,a9]
def aEB:Fq=[a9,.o 5 [],a9,aR,a9,a9,aR,a9,a9]:=θ _
def fm:List Sh:=[a9,.o 5 [aR,a9,aR,a9]]
def aEC:fm=[a9,.o 5 [aR,a9,aR,a9]]:=θ _
def Gi:List Sh:=[aR,a9,aR,a9]
def aED:Gi=[aR,a9,aR,a9]:=θ _
noncomputable section
def zs:Nat->Nat->Nat->List Nat
 |0,_,_=>[]
 |f+1,i,n=>if n=0 then []else if n%2=1 then i::zs f (i+1) (n/2)else zs f (i+1) (n/2)
def zd:Nat->Nat->Nat->List Nat
 |0,_,_=>[]
 |f+1,b,n=>if n=0 then []else(n%b-1)::zd f b (n/b)
def zz(l:List Nat):NLL:=l.map fun n=>if n%2=0 then zs 600 0 (n/2)else zd 600 (if n%4=1 then 512 else 8388608) (n/4)
def g0(f:Func)(l:List Nat):Cmd:=gK Tryz.prog [] f (zz l) 0 []
def g1(H:List (Nat×Nat))(f:Func)(l:List Nat)(k:Nat)(L:List Cmd):Cmd:=gK Tryz.prog H f (zz l) k L
def ao4:FD:=⟨5,[[]],[.t 10],aq (g0 Tryz.f3 [1612,4195916,45,5708,1073747532,4160,3221231180,45,34,550829561420,45,34,140738562102860,45,34,36028798092711500,45,18,4611686019501135436,45,34,5048257010678634505,5048257010678634505,5048257010678634505,5048257010678634505,5048257010678634505,9854927557892105,45,66,45])⟩
def aGt:FD:=⟨0,[[]],[.t 0],aq (g0 Tryz.f6 [0,4,12,147790688873647968261,2,222858510437527132578002969])⟩
def ayh:FD:=⟨2,[[]],[.t 4],aq (g0 Tryz.f7 [12,26220553,21,76,30421001,21,21])⟩
def uq:FD:=⟨5,[dp],[.cell 10 9 true],aq (g0 Tryz.f8 [3660,7752,2112,15944,45,532040,45,33562184,45,2147491400,45,137438960200,45,4398046517832,45,13200593537049,45,14574983071769,45,15949372606489,45,17323762141209,45,36518774809,45,45])⟩
def aHc:FD:=⟨2,[[]],[.t 4],aq (g0 Tryz.f9 [24,21])⟩
def C3:FD:=⟨3,[dp],[.cell 6 9 true],aq (g0 Tryz.f10 [240,33008,29,1008,29,5370826757])⟩
def C4:FD:=⟨3,[dp],[.cell 6 9 true],aq (g0 Tryz.f11 [240,33008,29,1008,29,5370826757])⟩
def C5:FD:=⟨3,[dp],[.cell 6 9 true],aq (g1 [(62,0)] Tryz.f12 [240,262384,29,496,2032,8176,207876541078935957183952707548336827679556965777209474723098344059011397165531161,29,85492934459311453833681162965897973184398650618279305516849929998313878030824062863365] 0 [])⟩
def yO:FD:=⟨2,[dp],[.cell 4 9 true],aq (g0 Tryz.f13 [56,4152,21,248,295437262284342171657,8388728,21,21,18])⟩
def sO:FD:=⟨3,[dp],[.cell 6 9 true],aq (g0 Tryz.f14 [240,1264,29,29,2686461957])⟩
def aGX:FD:=⟨4,[dp],[.cell 8 9 true],aq (g0 Tryz.f15 [902,1924,896,3972,37,67460,37,4196224,37,134219648,37,4294969216,37,19873677341,37,37])⟩
def qM:FD:=⟨2,[dp],[.cell 4 9 true],aq (g0 Tryz.f23 [56,1048632,21,120,504,21,22827701386266471550190255878149])⟩
def uI:FD:=⟨2,[dp],[.cell 4 9 true],aq (g0 Tryz.f24 [44,232,4194408,21,21,6])⟩
def aIl:FD:=⟨0,[eE],[.cell 0 3 true],aq (g0 Tryz.f25 [2,2])⟩
def C7:FD:=⟨2,[dp],[.cell 4 9 true],aq (g0 Tryz.f26 [56,21])⟩
def lJ:FD:=⟨2,[[]],[.t 4],aq (g0 Tryz.f27 [24,8216,21,21])⟩
def aD9:FD:=⟨3,[aF],[.cell 6 7 true],aq (g0 Tryz.f28 [184,524472,29,29,5375016985])⟩
def aGR:FD:=⟨1,[aL],[.cell 2 3 true],aq (g0 Tryz.f29 [10,26,282,26,8])⟩
def mU:FD:=⟨2,[dp],[.cell 4 9 true],aq (g0 Tryz.f30 [56,120,65592,21,21])⟩
def kO:FD:=⟨2,[[]],[.t 4],aq (g0 Tryz.f31 [24,38805517,49241,21,21])⟩
def aGY:List Nat:=[4,61449,8,20,0,20,4,36708361,20,65019913,11833225289,8,20,8]
def aoU:Cmd:=aq (g1 [] Tryz.f32 aGY 1 [])
def aIm(a:Cmd):Cmd:=aq (g1 [] Tryz.f32 aGY 0 [a])
def ayq:Cmd:=aIm aoU
def ayi:FD:=⟨1,[[]],[.t 2],ayq⟩
def ayj:FD:=⟨1,[[]],[.t 2],aq (g0 Tryz.f33 [4,8])⟩
def aF5:FD:=⟨1,[[]],[.t 2],aq (g0 Tryz.f34 [4,132,8,8,40])⟩
def aoF:FD:=⟨1,[[]],[.t 2],aq (g0 Tryz.f35 [4,260,8,100361,8,20,8])⟩
def iN:FD:=⟨2,[[]],[.t 4],aq (g0 Tryz.f36 [6,21])⟩
def aF6:FD:=⟨2,[[]],[.t 3],aq (g0 Tryz.f37 [12,16])⟩
def kE:FD:=⟨2,[[]],[.t 4],aq (g0 Tryz.f38 [6,21])⟩
def ayk:FD:=⟨2,[[]],[.t 3],aq (g0 Tryz.f39 [12,16])⟩
def lE:FD:=⟨2,[[]],[.t 4],aq (g0 Tryz.f40 [6,21])⟩
def ays:FD:=⟨2,[[]],[.t 3],aq (g0 Tryz.f41 [12,16])⟩
def Gj:List Nat:=[184,33554616,29,440,147790688873647968261,6442451376,384,6442451376,432,15032385968,6442451376,6442451376,6442451376,29]
def jZ:Cmd:=aq (g1 [] Tryz.f42 Gj 1 [])
def Qn(a:Cmd):Cmd:=aq (g1 [] Tryz.f42 Gj 0 [a])
def nj:Cmd:=Qn jZ
def jL:FD:=⟨3,[dp],[.cell 6 9 true],nj⟩
def yj:FD:=⟨2,[dp],[.cell 4 9 true],aq (g0 Tryz.f43 [56,568,21,21])⟩
def C8:FD:=⟨2,[dp],[.cell 4 9 true],aq (g0 Tryz.f44 [56,21])⟩
def C9:FD:=⟨2,[dp],[.cell 4 9 true],aq (g0 Tryz.f45 [56,21])⟩
def wm:FD:=⟨2,[dp],[.cell 4 9 true],aq (g0 Tryz.f46 [56,568,21,21])⟩
def AE:FD:=⟨1,[dp],[.cell 2 9 true],aq (g0 Tryz.f47 [12,8,6])⟩
def aGu:FD:=⟨2,[[]],[.t 4],aq (g0 Tryz.f48 [24,21])⟩
def aiZ:List Nat:=[14,32782,29,458764,0,458764,0,983052,458764,459532,460300,2147942412,29,458764,29]
def afm:Cmd:=aq (g1 [] Tryz.f49 aiZ 1 [])
def aph(a:Cmd):Cmd:=aq (g1 [] Tryz.f49 aiZ 0 [a])
def ajU:Cmd:=aph afm
def ai9:FD:=⟨3,[[]],[.t 6],ajU⟩
def aGT:FD:=⟨2,[[]],[.t 4],aq (g0 Tryz.f50 [24,21])⟩
def aEe:List Nat:=[6,2054,21,24582,0,24582,0,57350,24582,24646,33579014,0,21,24582,21]
def aiq:Cmd:=aq (g1 [] Tryz.f51 aEe 1 [])
def aGA(a:Cmd):Cmd:=aq (g1 [] Tryz.f51 aEe 0 [a])
def ayo:Cmd:=aGA aiq
def ao8:FD:=⟨2,[[]],[.t 4],ayo⟩
def zW:FD:=⟨2,[[]],[.t 4],aq (g0 Tryz.f52 [12,21])⟩
def F0:FD:=⟨1,[dp],[.cell 2 9 true],aq (g0 Tryz.f53 [12,8,36])⟩
def PX:List Nat:=[56,8248,96,184,58720416,160,58720416,71437385751,125829280,58720416,58720928,58720416,58720416,96]
def wU:Cmd:=aq (g1 [] Tryz.f54 PX 1 [])
def agL(a:Cmd):Cmd:=aq (g1 [] Tryz.f54 PX 0 [a])
def KV:Cmd:=agL wU
def E6:FD:=⟨2,[fm,[]],[.cell 4 2 true,.t 5],KV⟩
def wV:FD:=⟨4,[dp],[.cell 8 9 true],aq (g0 Tryz.f55 [872,17248,37,7968,33558304,37,37,66])⟩
def sP:FD:=⟨3,[aF],[.cell 6 7 true],aq (g0 Tryz.f56 [184,2097336,29,952,3968,29])⟩
def PY:List Nat:=[56,8248,96,184,3670184,168,3670184,184,7864488,3670184,3670696,3670184,105228120675419323001568740627968499918038242232619,3670184,96]
def rZ:Cmd:=aq (g1 [] Tryz.f57 PY 1 [])
def agM(a:Cmd):Cmd:=aq (g1 [] Tryz.f57 PY 0 [a])
def KW:Cmd:=agM rZ
def E7:FD:=⟨2,[fm,[]],[.cell 4 2 true,.t 5],KW⟩
def Da:FD:=⟨3,[aF],[.cell 6 7 true],aq (g0 Tryz.f58 [184,29,10])⟩
def E8:List Nat:=[56,56,131128,96,8388664,24576,96,184,985162418487472,160,985162418487472,5555864168503512611684367,2111062325330096,985162418487472,985162418487984,127085951984861872,985162418487472,127085951984861872,46605966620266647169690650017807,271201140060717744,127085951984861872,127085951984863920,127085951984876208,590422896310690519728,96,127085951984884400,264452650126652116849328,127085951984882352,264452650126652116849328,30130321034817237314439143818217433437795630366851087,566684105030309410525872,264452650126652116849328,264452650126652116947632,264452650126652116849328,264452650126652116849328,127085951984861872,127085951984861872,985162418487472,96]
def mH:Cmd:=aq (g1 [] Tryz.f59 E8 1 [])
def Xy(a:Cmd):Cmd:=aq (g1 [] Tryz.f59 E8 2 [a])
def mI:Cmd:=Xy mH
def Xz(a b:Cmd):Cmd:=aq (g1 [] Tryz.f59 E8 3 [a,b])
def wW:Cmd:=Xz mH mI
def agN(a b c:Cmd):Cmd:=aq (g1 [] Tryz.f59 E8 0 [a,b,c])
def zX:Cmd:=agN mH mI wW
def tM:FD:=⟨2,[fm,[]],[.cell 4 2 true,.t 5],zX⟩
def yk:FD:=⟨3,[aF],[.cell 6 7 true],aq (g0 Tryz.f60 [156,2204,29,29])⟩
def M3:List Nat:=[170,7330,160,7330,160,15522,7330,7842,7330,7330,29]
def qN:Cmd:=aq (g1 [] Tryz.f61 M3 1 [])
def acN(a:Cmd):Cmd:=aq (g1 [] Tryz.f61 M3 0 [a])
def PZ:Cmd:=acN qN
def Hq:FD:=⟨3,[aF],[.cell 6 7 true],PZ⟩
def sQ:FD:=⟨3,[aF],[.cell 6 7 true],aq (g0 Tryz.f62 [184,131256,29,29])⟩
def LW:List Nat:=[56,524344,96,184,234881200,160,234881200,5140295918010983832879119,503316656,234881200,234881712,17414750896,234884784,8796327904944,96,234881200,234881200,96]
def jS:Cmd:=aq (g1 [] Tryz.f63 LW 1 [])
def ZM(a:Cmd):Cmd:=aq (g1 [] Tryz.f63 LW 0 [a])
def Db:Cmd:=ZM jS
def wX:FD:=⟨2,[fm,[]],[.cell 4 2 true,.t 5],Db⟩
def Bq:FD:=⟨1,[aL],[.cell 2 3 true],aq (g0 Tryz.f64 [10,26,282,26,8])⟩
def ym:FD:=⟨1,[aF],[.cell 2 7 true],aq (g0 Tryz.f65 [12,140,8,8,40])⟩
def eX:FD:=⟨1,[[]],[.t 2],aq (g0 Tryz.f75 [4,20,38805513,8,8])⟩
def jM:FD:=⟨1,[[]],[.t 2],aq (g0 Tryz.f77 [4,68,20,8,8])⟩
def jT:FD:=⟨2,[aL],[.cell 4 3 true],aq (g0 Tryz.f78 [44,131116,21,232,536871016,21,424,23630718989,21,21])⟩
def Br:FD:=⟨2,[fm,[]],[.cell 4 2 true,.t 5],aq (g0 Tryz.f79 [50,50,306,96,65586,96,178,67109042,160,9444733810164258113815,96])⟩
def AF:FD:=⟨1,[aF],[.cell 2 7 true],aq (g0 Tryz.f80 [12,76,8,8])⟩
def xL:FD:=⟨2,[fm,[]],[.cell 4 2 true,.t 5],aq (g0 Tryz.f81 [38,8388646,96,166,162,416,288,96])⟩
def zY:FD:=⟨1,[aF],[.cell 2 7 true],aq (g0 Tryz.f82 [10,8])⟩
def aIn:FD:=⟨3,[aF],[.cell 6 7 true],aq (g0 Tryz.f83 [142,396,1408,29])⟩
def Fr:List Nat:=[184,440,2097592,29,952,1944,1221618356052292387408201013104561021265925,3992,8088,67813441309699098203400197,16280,7064,16280,11715398520034891269235039659183444786104359714816019,70368744193944,16280,16280,27893361792949561179578280454149,16280,22936,37272,47164262659688194033083858711547690275463630405386697191445,4504,69776,58123108321164106742636549,49408925725,29,29]
def fP:Cmd:=aq (g1 [] Tryz.f84 Fr 1 [])
def Pj(a:Cmd):Cmd:=aq (g1 [] Tryz.f84 Fr 0 [a])
def jN:Cmd:=Pj fP
def gS:FD:=⟨3,[dp],[.cell 6 9 true],jN⟩
def AG:FD:=⟨3,[aF],[.cell 5 7 true],aq (g0 Tryz.f85 [92,25,1409579279726609])⟩
def oM:FD:=⟨3,[aF],[.cell 6 7 true],aq (g0 Tryz.f86 [184,4194488,29,29])⟩
def iw:FD:=⟨2,[aF],[.cell 4 7 true],aq (g0 Tryz.f87 [44,2097196,21,21,80])⟩
def Cf:List Nat:=[38,102,230,96,230,96,2278,230,230,10,230,21]
def dY:Cmd:=aq (g1 [] Tryz.f88 Cf 1 [])
def KX(a:Cmd):Cmd:=aq (g1 [] Tryz.f88 Cf 0 [a])
def Dc:Cmd:=KX dY
def uL:FD:=⟨2,[aF],[.cell 4 7 true],Dc⟩
def jU:FD:=⟨1,[[]],[.t 2],aq (g0 Tryz.f89 [4,132,8,8])⟩
def mJ:FD:=⟨2,[[]],[.t 4],aq (g0 Tryz.f90 [24,32792,21,216,12,88,1048792,21,16777304,21,268435544,21,21])⟩
def aim:List Nat:=[14,32782,29,458764,0,458764,0,983052,458764,459532,460300,2147942412,29,458764,29]
def afi:Cmd:=aq (g1 [] Tryz.f91 aim 1 [])
def aoJ(a:Cmd):Cmd:=aq (g1 [] Tryz.f91 aim 0 [a])
def afu:Cmd:=aoJ afi
def afk:FD:=⟨3,[[]],[.t 6],afu⟩
def fQ:FD:=⟨2,[[]],[.t 4],aq (g0 Tryz.f92 [24,8216,21,21])⟩
def AH:FD:=⟨0,[aF],[.cell 0 7 true],aq (g0 Tryz.f93 [2,2])⟩
def aGC:FD:=⟨3,[aL],[.cell 6 3 true],aq (g0 Tryz.f94 [142,142,8334,29,398,29])⟩
def zZ:FD:=⟨2,[aF],[.cell 4 7 true],aq (g0 Tryz.f95 [56,1080,21,21,5912938525])⟩
def rg:FD:=⟨1,[[]],[.t 2],aq (g0 Tryz.f96 [4,0,20,8,516,8,57,8,8])⟩
def oO:FD:=⟨3,[aF],[.cell 5 7 true],aq (g0 Tryz.f97 [92,196,131933179001068787462701095254350946082009053593079813,1048768,25,25])⟩
def yR:FD:=⟨1,[aF],[.cell 2 7 true],aq (g0 Tryz.f98 [10,8])⟩
def ur:FD:=⟨3,[aF],[.cell 6 7 true],aq (g0 Tryz.f99 [156,668,29,29,24])⟩
def LX:List Nat:=[4,38921,8,14680068,0,14680068,4,31457284,14680068,14680116,70368758857780,8,36028797033644084,8,19253824628745,0,8,14680068,8]
def fR:Cmd:=aq (g1 [] Tryz.f100 LX 1 [])
def ZO(a:Cmd):Cmd:=aq (g1 [] Tryz.f100 LX 0 [a])
def uM:Cmd:=ZO fR
def pj:FD:=⟨1,[[]],[.t 2],uM⟩
def uN:FD:=⟨1,[[]],[.t 2],aq (g0 Tryz.f101 [4,4100,8,8])⟩
def BE:FD:=⟨2,[[]],[.t 3],aq (g0 Tryz.f102 [12,16])⟩
def Bc:FD:=⟨2,[[]],[.t 4],aq (g0 Tryz.f103 [12,21])⟩
def aGn:FD:=⟨1,[[]],[.t 2],aq (g0 Tryz.f104 [2,8])⟩
def aym:FD:=⟨1,[[]],[.t 2],aq (g0 Tryz.f105 [4,36,8,8])⟩
def apc:FD:=⟨2,[[]],[.t 4],aq (g0 Tryz.f106 [24,131096,21,21])⟩
def aGK:FD:=⟨0,[aF],[.cell 0 7 true],aq (g0 Tryz.f107 [2,2])⟩
def aHd:List Nat:=[2,258,8,18,48,16,48,0,1048624,48,48,48,8]
def aGb:Cmd:=aq (g1 [] Tryz.f108 aHd 1 [])
def aI0(a:Cmd):Cmd:=aq (g1 [] Tryz.f108 aHd 0 [a])
def aGj:Cmd:=aI0 aGb
def aEb:FD:=⟨1,[[]],[.t 2],aGj⟩
def jD:List Nat:=[6,774,0,774,4007,1798,774,838,131910,21,774,21]
def rh:Cmd:=aq (g1 [] Tryz.f109 jD 1 [])
def sR(a:Cmd):Cmd:=aq (g1 [] Tryz.f109 jD 0 [a])
def sT:Cmd:=sR rh
def jE:FD:=⟨2,[[]],[.t 4],sT⟩
def lK:List Nat:=[6,774,0,774,4007,1798,774,838,131910,21,774,21]
def uO:Cmd:=aq (g1 [] Tryz.f110 lK 1 [])
def wY(a:Cmd):Cmd:=aq (g1 [] Tryz.f110 lK 0 [a])
def wZ:Cmd:=wY uO
def lM:FD:=⟨2,[[]],[.t 4],wZ⟩
def mV:List Nat:=[6,774,0,774,4007,1798,774,838,131910,21,774,21]
def wo:Cmd:=aq (g1 [] Tryz.f111 mV 1 [])
def yF(a:Cmd):Cmd:=aq (g1 [] Tryz.f111 mV 0 [a])
def yG:Cmd:=yF wo
def mW:FD:=⟨2,[[]],[.t 4],yG⟩
def qu:FD:=⟨2,[[]],[.t 4],aq (g0 Tryz.f112 [24,25,21])⟩
def pG:FD:=⟨3,[aF],[.cell 5 7 true],aq (g0 Tryz.f113 [92,604,25,196,275722588402556246551766419140865500696406978337543123874535435853793374177851351673606252042222688038559749,31471641,25,25])⟩
def jV:FD:=⟨2,[aF],[.cell 4 7 true],aq (g0 Tryz.f114 [44,32812,21,21,80])⟩
def yS:FD:=⟨3,[dp],[.cell 6 9 true],aq (g0 Tryz.f115 [240,29])⟩
def Ft:List Nat:=[92,220,24796,220,24796,2363544426646582467756051,57564,24796,25052,24796,3763349509,24796,25,686241147349996954289048905084501120374501550085]
def jo:Cmd:=aq (g1 [] Tryz.f116 Ft 1 [])
def Pk(a:Cmd):Cmd:=aq (g1 [] Tryz.f116 Ft 0 [a])
def Gk:Cmd:=Pk jo
def yU:FD:=⟨3,[aF],[.cell 5 7 true],Gk⟩
def gV:FD:=⟨2,[aF],[.cell 4 7 true],aq (g0 Tryz.f117 [44,16777260,21,236,992,21])⟩
def mq:FD:=⟨2,[aF],[.cell 4 7 true],aq (g0 Tryz.f118 [44,8236,21,236,992,21])⟩
def aGP:List Nat:=[6,2054,65,21,21,70,0,70,0,2097222,70,4294967366,0,21,22018002949,0,21,70,21]
def ake:Cmd:=aq (g1 [] Tryz.f119 aGP 1 [])
def aHT(a:Cmd):Cmd:=aq (g1 [] Tryz.f119 aGP 0 [a])
def aEa:Cmd:=aHT ake
def aF8:FD:=⟨2,[[]],[.t 4],aEa⟩
def BF:FD:=⟨2,[[]],[.t 3],aq (g0 Tryz.f120 [12,16])⟩
def yV:FD:=⟨2,[[]],[.t 4],aq (g0 Tryz.f121 [24,21])⟩
def LY:FD:=⟨1,[[]],[.t 2],aq (g0 Tryz.f122 [2,8])⟩
def jq:List Nat:=[2,18,7186,18,7186,0,15378,7186,7250,7186,2104338,7186,7186,130,469762176,29,469762176,73584869515,1006633088,469762176,469762688,469762176,469762176,8]
def iM:Cmd:=aq (g1 [] Tryz.f123 jq 1 [])
def nK:Cmd:=aq (g1 [] Tryz.f123 jq 2 [])
def AI(a b:Cmd):Cmd:=aq (g1 [] Tryz.f123 jq 0 [a,b])
def pH:Cmd:=AI iM nK
def jt:FD:=⟨1,[[.o 5 Gi]],[.t 2],pH⟩
def iO:FD:=⟨3,[],[],aq (g1 [(83,1),(35,0)] Tryz.f124 [70,32838,454,134217926,0,10695780211066255578661069196795822789044396312347445063130614075,1666,554197069564870686741,0,36516673541,0,39737899013,0,0,0] 0 [])⟩
def ig:FD:=⟨1,[fm,[]],[.cell 2 2 true,.t 3],aq (g0 Tryz.f125 [10,10,42,24,96,65546,24,24])⟩
def Dd:FD:=⟨2,[fm,aF,[]],[.cell 4 2 true,.cell 5 7 true,.t 6],aq (g0 Tryz.f126 [120,872,3688,268437096,224,12,1640,224,2787943418306246314338229536181283776903173])⟩
def Gl:List Nat:=[2,448,0,448,0,960,448,480,262592,8,448,8]
def j5:Cmd:=aq (g1 [] Tryz.f127 Gl 1 [])
def Qo(a:Cmd):Cmd:=aq (g1 [] Tryz.f127 Gl 0 [a])
def BG:Cmd:=Qo j5
def ut:FD:=⟨1,[[]],[.t 2],BG⟩
def oQ:FD:=⟨1,[[]],[.t 2],aq (g0 Tryz.f128 [2,8])⟩
def BH:FD:=⟨3,[aL,[]],[.cell 6 3 true,.t 7],aq (g0 Tryz.f129 [184,384])⟩
def D9:FD:=⟨3,[aL,[]],[.cell 6 3 true,.t 7],aq (g0 Tryz.f130 [184,384])⟩
def ri:FD:=⟨4,[aF],[.cell 8 7 true],aq (g0 Tryz.f131 [692,33440,37,37])⟩
def w9:FD:=⟨1,[aL],[.cell 2 3 true],aq (g0 Tryz.f132 [12,4108,8,8,4301271049])⟩
def ku:FD:=⟨2,[aL,[]],[.cell 4 3 true,.t 5],aq (g0 Tryz.f133 [56,65592,96,134217784,96,19869474829,40,96,184,96])⟩
def rk:FD:=⟨1,[[]],[.t 2],aq (g0 Tryz.f134 [2,34,8,8])⟩
def xc:FD:=⟨3,[aF],[.cell 6 7 true],aq (g0 Tryz.f135 [156,16540,29,896,33003607327229182966653946701841,30425117,29,29])⟩
def Hs:List Nat:=[2296,6200,14392,6597069776952,10240,6597069776952,10240,15393162799160,6597069776952,6597069826104,6597070022712,6597070776376,2361183248031892727864,45,2417851639235855419533368,6597070055480,1739383349096430710038541,6597069776952,6597069776952,45]
def bK:Cmd:=aq (g1 [] Tryz.f136 Hs 1 [])
def SE(a:Cmd):Cmd:=aq (g1 [] Tryz.f136 Hs 0 [a])
def IF:Cmd:=SE bK
def BI:FD:=⟨5,[aF],[.cell 10 7 true],IF⟩
def BJ:FD:=⟨3,[aL,[]],[.cell 6 3 true,.t 7],aq (g0 Tryz.f137 [184,384])⟩
def Ea:FD:=⟨3,[aL,[]],[.cell 6 3 true,.t 7],aq (g0 Tryz.f138 [184,384])⟩
def rL:FD:=⟨3,[aL],[.cell 6 3 true],aq (g0 Tryz.f139 [142,142,32910,29,398,906,29])⟩
def BK:FD:=⟨3,[aL,[]],[.cell 6 3 true,.t 7],aq (g0 Tryz.f145 [184,384])⟩
def Eb:FD:=⟨3,[aL,[]],[.cell 6 3 true,.t 7],aq (g0 Tryz.f146 [184,384])⟩
def uP:FD:=⟨2,[[]],[.t 3],aq (g0 Tryz.f147 [12,16])⟩
def j6:FD:=⟨1,[[]],[.t 2],aq (g0 Tryz.f149 [4,8])⟩
def lP:FD:=⟨2,[aL,[]],[.cell 4 3 true,.t 5],aq (g0 Tryz.f150 [44,16428,96,96])⟩
def aH0:FD:=⟨2,[aL,[]],[.cell 4 3 true,.t 5],aq (g0 Tryz.f151 [44,16428,96,96])⟩
def Aa:FD:=⟨3,[dp],[.cell 6 9 true],aq (g0 Tryz.f152 [240,4336,29,160,29])⟩
def mr:FD:=⟨3,[[]],[.t 6],aq (g0 Tryz.f153 [112,848,25382819374389488446444837808141,3840,25382819374389488446444837808141,4294969088,29,5888,29])⟩
def iY:FD:=⟨2,[[]],[.t 4],aq (g0 Tryz.f154 [12,21])⟩
def wr:FD:=⟨1,[[]],[.t 2],aq (g0 Tryz.f155 [4,8])⟩
def BL:FD:=⟨2,[aF],[.cell 4 7 true],aq (g0 Tryz.f156 [56,2104,21,21])⟩
def uu:FD:=⟨2,[aF],[.cell 4 7 true],aq (g0 Tryz.f157 [44,1068,21,108,236,21,844702495545349])⟩
def jO:FD:=⟨1,[[]],[.t 2],aq (g0 Tryz.f158 [4,20,8])⟩
def qO:FD:=⟨1,[[]],[.t 2],aq (g0 Tryz.f159 [4,0,20,8,57,8,8])⟩
def pI:FD:=⟨2,[[]],[.t 4],aq (g0 Tryz.f160 [24,216,12,24,8408,21,131096,21,280,21,5912938525])⟩
def aHe:List Nat:=[2,18,18,18,0,65554,18,18,8]
def aGU:Cmd:=aq (g1 [] Tryz.f161 aHe 1 [])
def aI1(a:Cmd):Cmd:=aq (g1 [] Tryz.f161 aHe 0 [a])
def aHr:Cmd:=aI1 aGU
def aGL:FD:=⟨1,[[aR]],[.t 2],aHr⟩
def aGZ:List Nat:=[2,18,16,18,0,32786,18,18,8]
def aF9:Cmd:=aq (g1 [] Tryz.f162 aGZ 1 [])
def aIo(a:Cmd):Cmd:=aq (g1 [] Tryz.f162 aGZ 0 [a])
def aHf:Cmd:=aIo aF9
def aGv:FD:=⟨1,[[]],[.t 2],aHf⟩
def aG0:List Nat:=[6,8198,21,6,70,198,25,198,209,2097350,198,454,8589935046,454,198,198,21]
def ak3:Cmd:=aq (g1 [] Tryz.f163 aG0 1 [])
def aIp(a:Cmd):Cmd:=aq (g1 [] Tryz.f163 aG0 0 [a])
def aGM:Cmd:=aIp ak3
def aGk:FD:=⟨2,[[aR]],[.t 4],aGM⟩
def io:FD:=⟨3,[aF],[.cell 6 7 true],aq (g0 Tryz.f164 [156,268435612,29,2147483804,29,68719476892,156,924,3968,29])⟩
def rO:FD:=⟨2,[[]],[.t 4],aq (g0 Tryz.f165 [6,21])⟩
def yp:FD:=⟨1,[[]],[.t 2],aq (g0 Tryz.f166 [2,8])⟩
def JL:List Nat:=[2,18,912,16,912,0,1936,912,976,912,912,8]
def ws:Cmd:=aq (g1 [] Tryz.f167 JL 1 [])
def XG(a:Cmd):Cmd:=aq (g1 [] Tryz.f167 JL 0 [a])
def L5:Cmd:=XG ws
def Ec:FD:=⟨1,[[]],[.t 2],L5⟩
def Bs:FD:=⟨2,[[]],[.t 4],aq (g0 Tryz.f168 [6,70,8262,21,21])⟩
def JM:List Nat:=[6,1794,2,1794,0,3842,1794,1922,67330,21,1794,81,21,21]
def rm:Cmd:=aq (g1 [] Tryz.f169 JM 1 [])
def XH(a:Cmd):Cmd:=aq (g1 [] Tryz.f169 JM 0 [a])
def Bu:Cmd:=XH rm
def uQ:FD:=⟨2,[[]],[.t 4],Bu⟩
def Ac:FD:=⟨1,[[]],[.t 2],aq (g0 Tryz.f170 [4,68,8,8])⟩
def aEc:FD:=⟨1,[[]],[.t 2],aq (g0 Tryz.f171 [4,8])⟩
def ar3:FD:=⟨2,[[]],[.t 4],aq (g0 Tryz.f172 [24,216,12,16600,69,21,21,524376,21,16777304,12,129,12,21,21,21,10])⟩
def gD:FD:=⟨2,[aF],[.cell 4 7 true],aq (g0 Tryz.f173 [44,8236,6,21,108,236,484,22857412022803934197325820338185,740,13894185427720556277409093103502134464983922852004450142752244690916493317726794763910303658356419673263853224620728325,21,502482134767069931340307510669213681485162225669])⟩
def ju:FD:=⟨4,[aF],[.cell 6 7 true],aq (g0 Tryz.f174 [188,444,4532,404,266676,404,16781748,404,1073742260,404,404,29,3763349509])⟩
def F1:FD:=⟨2,[aF],[.cell 4 7 true],aq (g0 Tryz.f175 [44,21])⟩
def F3:FD:=⟨2,[aF],[.cell 4 7 true],aq (g0 Tryz.f176 [44,21])⟩
def AJ:FD:=⟨2,[aL,[]],[.cell 4 3 true,.t 5],aq (g0 Tryz.f177 [44,96])⟩
def De:FD:=⟨2,[aL,[]],[.cell 4 3 true,.t 5],aq (g0 Tryz.f178 [44,96])⟩
def gN:FD:=⟨2,[[]],[.t 4],aq (g0 Tryz.f179 [6,134,6,3355507865547,6,131078,3355507865547,2,3355507865547,21])⟩
def iD:List Nat:=[14,526,3598,1550,3598,0,265742,3598,7694,4294974990,3598,3598,384]
def cj:Cmd:=aq (g1 [] Tryz.f180 iD 1 [])
def qQ(a:Cmd):Cmd:=aq (g1 [] Tryz.f180 iD 0 [a])
def iP:Cmd:=qQ cj
def ez:FD:=⟨3,[[],[]],[.t 6,.t 7],iP⟩
def rR:FD:=⟨2,[[]],[.t 4],aq (g0 Tryz.f181 [12,21])⟩
def bJ:FD:=⟨3,[[]],[.t 6],aq (g0 Tryz.f182 [14,14,270,131342,29,782,8389390,29,4294968078,1294,1286,41,0,29,782,9713364895797253,14,0,2,6710951065547,29,262,2,29])⟩
def Ed:FD:=⟨1,[aL],[.cell 2 3 true],aq (g0 Tryz.f183 [12,12,8])⟩
def xd:FD:=⟨2,[aL,[]],[.cell 4 3 true,.t 5],aq (g0 Tryz.f184 [56,16440,96,96])⟩
def jv:FD:=⟨3,[[]],[.t 6],aq (g1 [(31,2)] Tryz.f185 [14,14,131086,29,270,258,0,2,56295280172615776203,29] 0 [])⟩
def L6:List Nat:=[108,8300,96,492,40,58720740,480,58720740,42803019844179897019978058039311,125829604,58720740,58721764,8648656356,58720740,58720740,58720740,2251800079677387,96,768]
def oR:Cmd:=aq (g1 [] Tryz.f186 L6 1 [])
def ZS(a:Cmd):Cmd:=aq (g1 [] Tryz.f186 L6 0 [a])
def Ht:Cmd:=ZS oR
def Bv:FD:=⟨2,[fm,fm],[.cell 4 2 true,.cell 5 2 true],Ht⟩
def L7:List Nat:=[108,108,32876,224,2097260,224,876,40,962072675172,864,962072675172,45021408659031821513297420615695,2061584302948,962072675172,962072677220,962072689508,2252761886366564,224,962072705892,4611686980500085604,224,295147906141425523556,962072693604,151115727452790719531876,962072675172,962072675172,2533275089942475,224,768]
def gO:Cmd:=aq (g1 [] Tryz.f187 L7 1 [])
def ZT(a:Cmd):Cmd:=aq (g1 [] Tryz.f187 L7 0 [a])
def yY:Cmd:=ZT gO
def sf:FD:=⟨2,[fm,fm,[]],[.cell 4 2 true,.cell 5 2 true,.t 6],yY⟩
def Be:Cmd:=aq (g0 Tryz.f188 [632,2680,1051256,1536,632,8389240,1536,17179869816,1536,562949953421944,12,632,12856,4829691691261763597,1536,1536])
def rp:FD:=⟨4,[aL,[]],[.cell 8 3 true,.t 9],Be⟩
def iF:FD:=⟨1,[[aR]],[.t 2],aq (g0 Tryz.f189 [2,34,8,8])⟩
def Ee:FD:=⟨1,[[]],[.t 2],aq (g0 Tryz.f190 [2,8])⟩
def Ad:FD:=⟨2,[[aR],[]],[.t 4,.t 5],aq (g0 Tryz.f191 [6,1030,96,96])⟩
def uv:FD:=⟨1,[aL,[]],[.cell 2 3 true,.t 3],aq (g0 Tryz.f192 [12,140,24,24])⟩
def xe:FD:=⟨3,[[]],[.t 6],aq (g0 Tryz.f193 [28,29])⟩
def Ef:FD:=⟨0,[aF],[.cell 0 7 true],aq (g0 Tryz.f194 [2,2])⟩
def iZ:FD:=⟨2,[aF,[]],[.cell 4 7 true,.t 5],aq (g0 Tryz.f195 [56,56,312,96,262200,96,4194360,96,160,2094105673112556338230553441894041358710805,44054549,96,96])⟩
def Eg:List Nat:=[156,262300,29,412,58720652,384,58720652,400,125829516,58720652,58721676,58723724,60188264844,58722700,60188264844,3472,128907741580,60188264844,60188277132,2259211532684,60188264844,258,60188264844,58720652,58720652,29]
def i9:Cmd:=aq (g1 [] Tryz.f196 Eg 1 [])
def Qq(a:Cmd):Cmd:=aq (g1 [] Tryz.f196 Eg 2 [a])
def nv:Cmd:=Qq i9
def XI(a b:Cmd):Cmd:=aq (g1 [] Tryz.f196 Eg 0 [a,b])
def F4:Cmd:=XI i9 nv
def Ae:FD:=⟨3,[aF],[.cell 6 7 true],F4⟩
def y7:List Nat:=[156,1048732,29,924,4294967708,29,0,3204,27390916617,29,15973530744841,1152,15973530744841,79490449439,8319485343709193,15973530744841,8178448818255881,8178448818255881,15973530744841,15973530744841,9344,22858974652445,8320,22858974652445,666814220263751711,11844807996499997,22858974652445,11703795024160797,22858974652445,22858974652445,29]
def qw:Cmd:=aq (g1 [] Tryz.f197 y7 1 [])
def qx:Cmd:=aq (g1 [] Tryz.f197 y7 2 [])
def Pm(a b:Cmd):Cmd:=aq (g1 [] Tryz.f197 y7 0 [a,b])
def mu:Cmd:=Pm qw qx
def jd:FD:=⟨3,[aF],[.cell 6 7 true],mu⟩
def uR:FD:=⟨4,[aL,[]],[.cell 8 3 true,.t 9],aq (g0 Tryz.f198 [632,2680,1051256,1536,4294967928,1536,4728,1536])⟩
def Gm:List Nat:=[2,18,18,18,0,65554,18,18,8]
def mX:Cmd:=aq (g1 [] Tryz.f199 Gm 1 [])
def Qs(a:Cmd):Cmd:=aq (g1 [] Tryz.f199 Gm 0 [a])
def Hu:Cmd:=Qs mX
def AK:FD:=⟨1,[[aR]],[.t 2],Hu⟩
def L8:List Nat:=[2,18,912,16,912,0,1936,912,976,17360,8,912,912,8]
def yq:Cmd:=aq (g1 [] Tryz.f200 L8 1 [])
def ZU(a:Cmd):Cmd:=aq (g1 [] Tryz.f200 L8 0 [a])
def M4:Cmd:=ZU yq
def F5:FD:=⟨1,[[]],[.t 2],M4⟩
def uS:FD:=⟨2,[[aR],[]],[.t 4,.t 5],aq (g0 Tryz.f201 [6,6,134,96,2054,96,96])⟩
def mQ:FD:=⟨1,[[aR]],[.t 2],aq (g0 Tryz.f202 [2,8])⟩
def uU:FD:=⟨4,[aL,[]],[.cell 8 3 true,.t 9],aq (g0 Tryz.f209 [632,2680,4196984,1536,632,33555064,1536,2147484280,1536,4728,80,29304,80,1536,554269126609147557897])⟩
def s7:FD:=⟨1,[[]],[.t 2],aq (g0 Tryz.f212 [2,8])⟩
def aHs:FD:=⟨1,[[]],[.t 2],aq (g0 Tryz.f213 [2,8])⟩
def aHE:FD:=⟨1,[aL,[]],[.cell 2 3 true,.t 3],aq (g0 Tryz.f214 [12,140,24,24])⟩
def pJ:FD:=⟨2,[aL,[]],[.cell 4 3 true,.t 5],aq (g0 Tryz.f215 [44,131116,96,416,106518104577814527031126025,96])⟩
def xf:FD:=⟨1,[aL],[.cell 2 3 true],aq (g0 Tryz.f216 [12,4108,8,8,40])⟩
def AL:FD:=⟨1,[aF],[.cell 2 7 true],aq (g0 Tryz.f217 [10,8])⟩
def xg:FD:=⟨1,[[]],[.t 2],aq (g0 Tryz.f218 [4,4100,8,8,40])⟩
def AM:FD:=⟨2,[[]],[.cell 4 1 true],aq (g0 Tryz.f219 [38,21])⟩
def pK:FD:=⟨2,[aF],[.cell 4 7 true],aq (g0 Tryz.f220 [44,262188,21,236,992,21])⟩
def lQ:FD:=⟨3,[aF],[.cell 6 7 true],aq (g0 Tryz.f221 [184,696,29,29,1127553472403461])⟩
def JN:List Nat:=[6,6,32774,81,21,21,70,0,70,0,33554502,70,70,268435526,0,21,20407390213,0,21,70,21]
def kH:Cmd:=aq (g1 [] Tryz.f222 JN 1 [])
def XJ(a:Cmd):Cmd:=aq (g1 [] Tryz.f222 JN 0 [a])
def L9:Cmd:=XJ kH
def uV:FD:=⟨2,[[]],[.t 4],L9⟩
def AN:FD:=⟨2,[[aR]],[.t 4],aq (g0 Tryz.f223 [6,25,21])⟩
def yt:FD:=⟨1,[aF],[.cell 2 7 true],aq (g0 Tryz.f224 [12,2060,8,28,88,8])⟩
def s9:FD:=⟨4,[aL,[]],[.cell 8 3 true,.t 9],aq (g0 Tryz.f225 [572,33340,6656,1536,536871468,1536,1536])⟩
def uW:List Nat:=[6,774,0,774,4007,1798,774,838,131910,21,774,21]
def Dh:Cmd:=aq (g1 [] Tryz.f226 uW 1 [])
def Fu(a:Cmd):Cmd:=aq (g1 [] Tryz.f226 uW 0 [a])
def Fv:Cmd:=Fu Dh
def uX:FD:=⟨2,[[]],[.t 4],Fv⟩
def mY:FD:=⟨2,[[]],[.t 4],aq (g0 Tryz.f227 [6,70,198,4230,53,21,21,16390,21,131078,21,81,21,21])⟩
def xi:List Nat:=[6,7174,6,7174,0,15366,7174,7366,1055942,21,7558,7686,536878598,21,7174,145,21,21]
def gG:Cmd:=aq (g1 [] Tryz.f228 xi 1 [])
def GF(a:Cmd):Cmd:=aq (g1 [] Tryz.f228 xi 0 [a])
def qy:Cmd:=GF gG
def kC:FD:=⟨2,[[]],[.t 4],qy⟩
def wt:FD:=⟨1,[[]],[.t 2],aq (g0 Tryz.f229 [2,8])⟩
def aGa:FD:=⟨1,[[]],[.t 2],aq (g0 Tryz.f230 [4,132,8,37,8,8])⟩
def aD8:FD:=⟨2,[aL],[.cell 4 3 true],aq (g0 Tryz.f231 [56,4152,21,131128,21,120,504,5912938525,4398046511608,21,36,9007199254741496,21,36,21,36])⟩
def aGq:FD:=⟨1,[aL],[.cell 2 3 true],aq (g0 Tryz.f232 [12,8])⟩
def uY:FD:=⟨3,[aF],[.cell 6 7 true],aq (g0 Tryz.f233 [240,29])⟩
def uZ:FD:=⟨3,[aF],[.cell 6 7 true],aq (g0 Tryz.f234 [240,29])⟩
def Cg:List Nat:=[56,120,488,12686448265038921150739754522629,1000,424,1000,488,525288,1000,1000,1000,17757079642466509018378855788549,1000,21,2149588997]
def fA:Cmd:=aq (g1 [] Tryz.f235 Cg 1 [])
def KY(a:Cmd):Cmd:=aq (g1 [] Tryz.f235 Cg 0 [a])
def Di:Cmd:=KY fA
def iQ:FD:=⟨2,[aF],[.cell 4 7 true],Di⟩
def u9:FD:=⟨3,[aF],[.cell 6 7 true],aq (g0 Tryz.f236 [240,29])⟩
def je:FD:=⟨1,[aF],[.cell 2 7 true],aq (g0 Tryz.f237 [10,1034,8,26,8,48376069969147649765414917])⟩
def dm:FD:=⟨3,[aF],[.cell 6 7 true],aq (g0 Tryz.f238 [156,16777372,29,34359738524,29,924,13472779737097,48,29,1692,2966252706507830087772561200317147119630357,9572901749528585,29,10558064168015881,29,7324,5550126619813748749,7320,11543777956077581,5272,93343773,1152,29])⟩
def gx:FD:=⟨3,[aL,[]],[.cell 6 3 true,.t 7],aq (g0 Tryz.f239 [156,668,33555100,668,8589935260,384,1180,281474976711836,1180,3228,7324,23708,384,520])⟩
def Dj:Cmd:=aq (g0 Tryz.f242 [56,33554488,536870968,40,96,184,952,12,17595949391885,96,3256,5912938525,6054388764100272141,4264,96,7351425456782974989,3240,16552,96])
def pn:FD:=⟨2,[aL,[]],[.cell 4 3 true,.t 5],Dj⟩
def ji:FD:=⟨2,[aL,[]],[.cell 4 3 true,.t 5],aq (g0 Tryz.f243 [44,428,2097580,96,936,2147484584,96,1704,5792,25779255317,672,13494796695573,96,27926738965,96,38127286293,96,96])⟩
def xk:FD:=⟨2,[aL,[]],[.cell 4 3 true,.t 5],aq (g0 Tryz.f244 [56,16440,96,96,10])⟩
def Af:FD:=⟨3,[aL,[]],[.cell 6 3 true,.t 7],aq (g0 Tryz.f245 [156,668,33436,384,384,20])⟩
def P2:Cmd:=aq (g0 Tryz.f246 [184,688,20,4294967984,12,688,1712,1712,5808,140737488361136,7856,7856,9714191147485213,12928,384,11262303519393821,7808,12669678402947101,33408,384,135808,384])
def y8:FD:=⟨3,[[aR,a9,a9],[]],[.cell 6 3 true,.t 7],P2⟩
def te:FD:=⟨4,[aL,[]],[.cell 8 3 true,.t 9],aq (g0 Tryz.f247 [602,6658,67115520,6656,1536])⟩
def yu:FD:=⟨1,[[]],[.t 2],aq (g0 Tryz.f248 [2,2,258,8,8])⟩
def Dk:FD:=⟨1,[[]],[.t 2],aq (g0 Tryz.f249 [2,8])⟩
def yv:FD:=⟨1,[[aR],[]],[.t 2,.t 3],aq (g0 Tryz.f250 [2,2,514,24,24])⟩
def Eh:List Nat:=[6,70,3670084,25,3670084,73,7864388,3670084,3670468,3670980,473433028,3670724,473433028,73,1010303940,473433028,473436100,473437636,473433028,473433028,3670084,3670084,21]
def ry:Cmd:=aq (g1 [] Tryz.f251 Eh 1 [])
def Qt(a:Cmd):Cmd:=aq (g1 [] Tryz.f251 Eh 2 [a])
def wu:Cmd:=Qt ry
def XK(a b:Cmd):Cmd:=aq (g1 [] Tryz.f251 Eh 0 [a,b])
def Ma:Cmd:=XK ry wu
def Ei:FD:=⟨2,[[aR]],[.t 4],Ma⟩
def IG:List Nat:=[2,18,18,18,0,65554,18,18,8]
def pM:Cmd:=aq (g1 [] Tryz.f252 IG 1 [])
def Ux(a:Cmd):Cmd:=aq (g1 [] Tryz.f252 IG 0 [a])
def JO:Cmd:=Ux pM
def Dl:FD:=⟨1,[[aR]],[.t 2],JO⟩
def tj:FD:=⟨2,[[]],[.t 4],aq (g0 Tryz.f253 [12,21])⟩
def wv:FD:=⟨2,[aL],[.cell 4 3 true],aq (g0 Tryz.f254 [56,568,21,21])⟩
def ww:FD:=⟨2,[aL],[.cell 4 3 true],aq (g0 Tryz.f255 [56,568,21,21])⟩
def Ag:FD:=⟨3,[aF],[.cell 6 7 true],aq (g0 Tryz.f256 [156,668,29,29,24])⟩
def IH:List Nat:=[4,30729,24,36,14680096,21,14680096,38921,31457312,14680096,14680224,14680096,144,14680096,24]
def pN:Cmd:=aq (g1 [] Tryz.f257 IH 1 [])
def Uy(a:Cmd):Cmd:=aq (g1 [] Tryz.f257 IH 0 [a])
def Ah:Cmd:=Uy pN
def tp:FD:=⟨1,[[.o 4 aL],[]],[.t 2,.t 3],Ah⟩
def jj:FD:=⟨4,[aF],[.cell 8 7 true],aq (g0 Tryz.f258 [752,3696,17766973566932098869183561869321,16780912,3696,14960,62000,17592186065456,37,90672,238080,34914467877,37,37])⟩
def oS:List Nat:=[12,136,939524232,136,939524232,6198106015803284498939919,2013266056,939524232,939524744,121198608520,939524232,121198608520,51993481709015558774083572203535,258637561992,121198608520,121198611592,121198608520,0,121198608520,939524232,4232,8883536958339085,4232,8883536958339085,6198106015803284498939919,4620569555385726989,8883536958339085,4548370923748603917,8883536958339085,5197030307689150477,96,8883536958339085,136,45722277917,29,45722277917,6198106015803284498939919,23685222275101,45722277917,23409806311453,11985820832530461,1741194670286728823078941,11985820832530461,1741194670286728823078941,51993481709015558774083807084559,901182004463570834804473885,1741194670286728823078941,8733280120896081158078398592,1741194670286728823078941,1741194670286728823078941,45722277917,272,45722277917,96]
def my:Cmd:=aq (g1 [] Tryz.f259 oS 1 [])
def Pn(a:Cmd):Cmd:=aq (g1 [] Tryz.f259 oS 2 [a])
def pO:Cmd:=Pn my
def jP:Cmd:=aq (g1 [] Tryz.f259 oS 3 [])
def pP:Cmd:=aq (g1 [] Tryz.f259 oS 4 [])
def Po(a b c d:Cmd):Cmd:=aq (g1 [] Tryz.f259 oS 5 [a,b,c,d])
def uw:Cmd:=Po my pO jP pP
def Uz(a b c d e:Cmd):Cmd:=aq (g1 [] Tryz.f259 oS 0 [a,b,c,d,e])
def JP:Cmd:=Uz my pO jP pP uw
def Dm:FD:=⟨2,[[],[]],[.t 4,.t 5],JP⟩
def y9:FD:=⟨3,[],[],aq (g0 Tryz.f260 [84,212,404,457523833467684490667101000461896595677559922701,916,0])⟩
def rS:FD:=⟨2,[],[],aq (g0 Tryz.f261 [12,44,0])⟩
def wx:FD:=⟨2,[aF],[.cell 4 7 true],aq (g0 Tryz.f262 [56,1080,21,21,4837095445])⟩
def JQ:List Nat:=[6,6,65542,21,6,70,117440582,25,117440582,93,251658310,117440582,117440966,117441222,137556394694,117441222,117440582,117440582,21]
def rz:Cmd:=aq (g1 [] Tryz.f264 JQ 1 [])
def XL(a:Cmd):Cmd:=aq (g1 [] Tryz.f264 JQ 0 [a])
def F6:Cmd:=XL rz
def Ai:FD:=⟨2,[[aR]],[.t 4],F6⟩
def pR:FD:=⟨2,[[aR],[aR],[]],[.t 4,.t 5,.t 6],aq (g0 Tryz.f266 [6,6,1030,224,32774,224,768,224])⟩
def Hv:FD:=⟨2,[[aR]],[.t 4],aq (g0 Tryz.f267 [6,25,21])⟩
def F7:FD:=⟨2,[aL,[]],[.cell 4 3 true,.t 5],aq (g0 Tryz.f270 [44,96])⟩
def Jn:FD:=⟨2,[aL,[]],[.cell 4 3 true,.t 5],aq (g0 Tryz.f271 [44,96])⟩
def Ch:List Nat:=[56,248,504,232,504,248,504,504,3759155205,504,134218232,504,21,2149588997]
def fC:Cmd:=aq (g1 [] Tryz.f272 Ch 1 [])
def KZ(a:Cmd):Cmd:=aq (g1 [] Tryz.f272 Ch 0 [a])
def Do:Cmd:=KZ fC
def iS:FD:=⟨2,[aF],[.cell 4 7 true],Do⟩
def nY:FD:=⟨2,[aF],[.cell 4 7 true],aq (g0 Tryz.f273 [44,100,524388,21,484,1952,21])⟩
def qR:FD:=⟨2,[[aR],[]],[.t 4,.t 5],aq (g0 Tryz.f274 [6,6,134,96,2054,96,96])⟩
def yw:FD:=⟨1,[aL,[]],[.cell 2 3 true,.t 3],aq (g0 Tryz.f275 [12,268,24,4108,24,24,40])⟩
def yx:FD:=⟨1,[aL,[]],[.cell 2 3 true,.t 3],aq (g0 Tryz.f276 [12,268,24,24,40])⟩
def Gn:List Nat:=[2172,26732,59500,26624,59500,10304,536930412,59500,59500,59500,6144]
def bc:Cmd:=aq (g1 [] Tryz.f277 Gn 1 [])
def Qu(a:Cmd):Cmd:=aq (g1 [] Tryz.f277 Gn 0 [a])
def Hw:Cmd:=Qu bc
def uz:FD:=⟨5,[aL,[]],[.cell 10 3 true,.t 11],Hw⟩
def AO:FD:=⟨1,[[]],[.t 2],aq (g0 Tryz.f278 [2,8])⟩
def aHg:List Nat:=[6,70,198,454,192,454,71729,65990,454,838,838,454,454,21]
def aGd:Cmd:=aq (g1 [] Tryz.f279 aHg 1 [])
def aI2(a:Cmd):Cmd:=aq (g1 [] Tryz.f279 aHg 0 [a])
def aHt:Cmd:=aI2 aGd
def aGN:FD:=⟨2,[[aR]],[.t 4],aHt⟩
def aHh:List Nat:=[6,70,198,454,192,454,201,524742,454,838,67109702,838,137438954310,838,838,454,454,21]
def ajm:Cmd:=aq (g1 [] Tryz.f280 aHh 1 [])
def aI3(a:Cmd):Cmd:=aq (g1 [] Tryz.f280 aHh 0 [a])
def aHu:Cmd:=aI3 ajm
def aGO:FD:=⟨2,[[aR]],[.t 4],aHu⟩
def aG1:List Nat:=[6,70,198,454,25,454,169,16838,454,838,2097990,838,1350,1350,454,454,21]
def alu:Cmd:=aq (g1 [] Tryz.f281 aG1 1 [])
def aIq(a:Cmd):Cmd:=aq (g1 [] Tryz.f281 aG1 0 [a])
def aHi:Cmd:=aIq alu
def aGw:FD:=⟨2,[[aR]],[.t 4],aHi⟩
def jF:FD:=⟨2,[[]],[.t 4],aq (g0 Tryz.f282 [24,200,21,5120])⟩
def tq:FD:=⟨1,[aF],[.cell 2 7 true],aq (g0 Tryz.f283 [12,56,4120,8,8,12])⟩
def uA:FD:=⟨1,[[]],[.t 2],aq (g0 Tryz.f284 [2,8])⟩
def Ej:FD:=⟨0,[aF],[.cell 0 7 true],aq (g0 Tryz.f285 [2,2])⟩
def dy:FD:=⟨3,[aF],[.cell 6 7 true],aq (g0 Tryz.f286 [156,32924,65680,29,29,412,1932,7564,34359745928,7560,549755820424,2440,1649267448200,2440,9345848842632,2440,140737488361864,2440,29])⟩
def yy:FD:=⟨3,[[]],[.t 6],aq (g0 Tryz.f287 [28,284,40,788,1812,3860,6928,77484884688187423008495625,14864,31248,12244144780525982010555344007657976222106594799464104705754705795023199371158852187990272017,61968,139792,73,8242016663672785723936738350670554832959101909870545117035636741,29])⟩
def II:List Nat:=[2,4098,24,34,65570,24,66,24,66,0,66,194,578,20410544133,24,66]
def mA:Cmd:=aq (g1 [] Tryz.f288 II 1 [])
def UA(a:Cmd):Cmd:=aq (g1 [] Tryz.f288 II 0 [a])
def Ek:Cmd:=UA mA
def lR:FD:=⟨1,[[aR],[]],[.t 2,.t 3],Ek⟩
def P3:Cmd:=aq (g0 Tryz.f289 [156,668,36,2716,0,1073744540,3724,14988,3724,7884052966152201,1676,9432165338060809,71317513,384,1156,1664,384])
def ze:FD:=⟨3,[aL,[]],[.cell 6 3 true,.t 7],P3⟩
def Aj:FD:=⟨2,[[aR],[]],[.t 4,.t 5],aq (g0 Tryz.f291 [6,1030,96,96])⟩
def ve:FD:=⟨2,[[aR],[]],[.t 4,.t 5],aq (g0 Tryz.f292 [6,6,134,96,4102,96,96])⟩
def Jo:FD:=⟨1,[[aR,a9,a9]],[.cell 2 3 true],aq (g0 Tryz.f293 [12,8])⟩
def Dp:FD:=⟨2,[[aR],[]],[.t 4,.t 5],aq (g0 Tryz.f294 [6,4102,6,134,96])⟩
def M6:Cmd:=aq (g0 Tryz.f295 [10,42,2,10,522,10,10,8])
def si:FD:=⟨1,[[]],[.t 2],M6⟩
def mK:FD:=⟨2,[[]],[.t 4],aq (g0 Tryz.f296 [6,21])⟩
def AP:FD:=⟨1,[[]],[.t 2],aq (g0 Tryz.f297 [2,8])⟩
def uB:FD:=⟨1,[[]],[.t 2],aq (g0 Tryz.f298 [4,8])⟩
def zf:List Nat:=[6,774,0,774,0,1798,774,838,131910,21,774,21]
def fH:Cmd:=aq (g1 [] Tryz.f299 zf 1 [])
def Is(a:Cmd):Cmd:=aq (g1 [] Tryz.f299 zf 0 [a])
def Aw:Cmd:=Is fH
def rA:FD:=⟨2,[[]],[.t 4],Aw⟩
def kF:List Nat:=[6,2054,6,194,28325893,130,258,768,33,768,125,39864353,768,768,0,21]
def dA:Cmd:=aq (g1 [] Tryz.f300 kF 1 [])
def vf(a:Cmd):Cmd:=aq (g1 [] Tryz.f300 kF 0 [a])
def kQ:Cmd:=vf dA
def gj:FD:=⟨2,[[]],[.t 4],kQ⟩
def Fw:List Nat:=[6,70,114752,25,114752,4007,245824,114752,115008,114752,114752,21]
def lW:Cmd:=aq (g1 [] Tryz.f301 Fw 1 [])
def Pp(a:Cmd):Cmd:=aq (g1 [] Tryz.f301 Fw 0 [a])
def Gp:Cmd:=Pp lW
def zg:FD:=⟨2,[[]],[.t 4],Gp⟩
def DR:List Nat:=[142,196750,0,196750,19906078202337171540375077130151,458894,196750,197006,4295164302,0,196750,196750]
def vg:Cmd:=aq (g1 [] Tryz.f302 DR 1 [])
def M7(a:Cmd):Cmd:=aq (g1 [] Tryz.f302 DR 0 [a])
def zi:Cmd:=M7 vg
def rM:FD:=⟨3,[],[],zi⟩
def qz:List Nat:=[49278,94,49278,19906078202337171540375077130151,114814,49278,49790,50814,49278,50814,19906078202337171540375077130151,4245118,50814,52862,50814,4531217279244683142886786666402527540463621,50814,49278,4190,12382,0,12382,166984286856751215880962695014576554035,4611686018427400286,12382,12382,12382,12352272389,12382]
def kh:Cmd:=aq (g1 [] Tryz.f303 qz 1 [])
def kj:Cmd:=aq (g1 [] Tryz.f303 qz 2 [])
def Jp(a b:Cmd):Cmd:=aq (g1 [] Tryz.f303 qz 3 [a,b])
def nQ:Cmd:=Jp kh kj
def Mn(a b c:Cmd):Cmd:=aq (g1 [] Tryz.f303 qz 0 [a,b,c])
def DS:Cmd:=Mn kh kj nQ
def wA:FD:=⟨6,[],[],DS⟩
def AQ:FD:=⟨3,[aF],[.cell 6 7 true],aq (g0 Tryz.f304 [226,29,0])⟩
def AR:FD:=⟨3,[aF],[.cell 6 7 true],aq (g0 Tryz.f305 [226,29,0])⟩
def lk:List Nat:=[158,414,30,414,19886271159347421933066858266655,33182,414,414,905954287985209342859259171468729372632662352900330558533113472919764219909,414,13962891269,414,542,0,542,2370628256719997159608231,9009675306536965,542,1566,542,1566,2370628256719997159608231,5045441433590304773,1566,1566,18257874949,1566,542]
def gU:Cmd:=aq (g1 [] Tryz.f306 lk 1 [])
def Fy(a:Cmd):Cmd:=aq (g1 [] Tryz.f306 lk 2 [a])
def jW:Cmd:=Fy gU
def jX:Cmd:=aq (g1 [] Tryz.f306 lk 3 [])
def Hx(a b c:Cmd):Cmd:=aq (g1 [] Tryz.f306 lk 0 [a,b,c])
def zj:Cmd:=Hx gU jW jX
def qA:FD:=⟨4,[],[],zj⟩
def uC:List Nat:=[6,6,27267077,96,32509957,384,96,518,3586,3584,3586,80832626947,16773468407813,3586,3586,7680,15872,32256,13824,32256,678073221278335235,5622466239662149669,32256,65024,0,4465194903652984180773,65024,130560,625133048504600439241869119525,130560,625133048504600439241869119525,678073221278335235,322608385506474868419404483285029,625133048504600439241869119525,163874877886570643521691071147954213,625133048504600439241869119525,625133048504600439241869119525,65024,32256,32256,96]
def j7:Cmd:=aq (g1 [] Tryz.f307 uC 1 [])
def Mo(a:Cmd):Cmd:=aq (g1 [] Tryz.f307 uC 2 [a])
def mZ:Cmd:=Mo j7
def DT:Cmd:=aq (g1 [] Tryz.f307 uC 3 [])
def Qv(a b c:Cmd):Cmd:=aq (g1 [] Tryz.f307 uC 0 [a,b,c])
def rB:Cmd:=Qv j7 mZ DT
def mB:FD:=⟨2,[[aR],[aR]],[.t 4,.t 5],rB⟩
def JR:List Nat:=[6,6,70,198,29360324,192,29360324,79957,62914756,29360324,29360836,29361220,29360324,29360324,21]
def wB:Cmd:=aq (g1 [] Tryz.f308 JR 1 [])
def XM(a:Cmd):Cmd:=aq (g1 [] Tryz.f308 JR 0 [a])
def Mb:Cmd:=XM wB
def El:FD:=⟨2,[[]],[.t 4],Mb⟩
def gr:FD:=⟨2,[[a9,aR],[]],[.cell 4 2 true,.t 5],aq (g0 Tryz.f309 [44,172,424,936,1696,3744,19616,68768,199840,4469967771616163861,197792,18975719176213,196768,96,132])⟩
def Hy:List Nat:=[108,236,492,364,876,96,876,360,876,876,67109740,96,12,1900,4294969196,1900,137438955372,876,876,876]
def cW:Cmd:=aq (g1 [] Tryz.f310 Hy 1 [])
def SJ(a:Cmd):Cmd:=aq (g1 [] Tryz.f310 Hy 0 [a])
def IJ:Cmd:=SJ cW
def nD:FD:=⟨2,[[a9,aR],[a9,aR]],[.cell 4 2 true,.cell 5 2 true],IJ⟩
def wC:FD:=⟨1,[[a9,aR]],[.cell 2 2 true],aq (g0 Tryz.f311 [12,8])⟩
def ij:FD:=⟨3,[aF],[.cell 6 7 true],aq (g0 Tryz.f312 [156,412,1676,165419218565820960854246423641721527740357815617406551272749095278041887507501821492857706873402507622619141,7308,30856,13750886217741,29,14472,30848,37057746973,29,29])⟩
def Hz:FD:=⟨1,[[a9,aR]],[.cell 2 2 true],aq (g0 Tryz.f313 [10,56,8,72])⟩
def Ak:FD:=⟨2,[[aR]],[.t 4],aq (g0 Tryz.f314 [6,25,21])⟩
def yz:FD:=⟨2,[[aR]],[.t 4],aq (g0 Tryz.f315 [6,25,21])⟩
def Dq:FD:=⟨1,[[a9,aR]],[.cell 2 2 true],aq (g0 Tryz.f316 [10,24,8,132])⟩
def wD:FD:=⟨3,[[a9,aR]],[.cell 6 2 true],aq (g0 Tryz.f317 [184,440,29,4299177993])⟩
def tr:FD:=⟨2,[[a9,aR]],[.cell 4 2 true],aq (g0 Tryz.f318 [56,232,680,30427157,544,6,21])⟩
def Dr:FD:=⟨2,[[a9,aR]],[.cell 4 2 true],aq (g0 Tryz.f319 [44,108,4204,21,132,21,516])⟩
def nZ:FD:=⟨2,[[a9,aR]],[.cell 4 2 true],aq (g0 Tryz.f320 [56,16440,104,21,4294967352,56,296,21])⟩
def xV:FD:=⟨1,[[]],[.t 2],aq (g0 Tryz.f321 [4,8])⟩
def JS:List Nat:=[6,32774,6,70,198,29360326,194,29360326,85,62914758,29360326,29361094,29362118,4324329414,29362118,29360326,29360326,25,21]
def nE:Cmd:=aq (g1 [] Tryz.f322 JS 1 [])
def XN(a:Cmd):Cmd:=aq (g1 [] Tryz.f322 JS 0 [a])
def Mc:Cmd:=XN nE
def Al:FD:=⟨2,[[aR]],[.t 4],Mc⟩
def qS:FD:=⟨3,[aL,[]],[.cell 6 3 true,.t 7],aq (g0 Tryz.f323 [142,65678,384,384])⟩
def JT:List Nat:=[6,6,70,198,1835204,25,1835204,69,3932356,1835204,1835972,1836996,270272452,1836996,1835204,1835204,21]
def rC:Cmd:=aq (g1 [] Tryz.f325 JT 1 [])
def XO(a:Cmd):Cmd:=aq (g1 [] Tryz.f325 JT 0 [a])
def Md:Cmd:=XO rC
def Em:FD:=⟨2,[[aR]],[.t 4],Md⟩
def n7:List Nat:=[6,774,0,774,0,1798,774,838,131910,21,774,21]
def xW:Cmd:=aq (g1 [] Tryz.f326 n7 1 [])
def Am(a:Cmd):Cmd:=aq (g1 [] Tryz.f326 n7 0 [a])
def An:Cmd:=Am xW
def n9:FD:=⟨2,[[]],[.t 4],An⟩
def Jq:FD:=⟨2,[[],[]],[.t 4,.t 5],aq (g0 Tryz.f327 [6,384,96,1536,96])⟩
def HA:List Nat:=[6,134,390,902,384,902,49,131974,902,902,902,96]
def og:Cmd:=aq (g1 [] Tryz.f328 HA 1 [])
def SK(a:Cmd):Cmd:=aq (g1 [] Tryz.f328 HA 0 [a])
def IK:Cmd:=SK og
def BN:FD:=⟨2,[[aR],[]],[.t 4,.t 5],IK⟩
def tN:FD:=⟨1,[[]],[.t 2],aq (g0 Tryz.f329 [2,8])⟩
def wE:FD:=⟨5,[[]],[.t 10],aq (g0 Tryz.f330 [62,32830,45,4152,45,0])⟩
def IL:List Nat:=[14,782,230158,774,230158,4007,492302,230158,233230,235022,235278,238862,230158,230158,16390,57,29]
def pS:Cmd:=aq (g1 [] Tryz.f331 IL 1 [])
def UB(a:Cmd):Cmd:=aq (g1 [] Tryz.f331 IL 0 [a])
def JU:Cmd:=UB pS
def Ds:FD:=⟨3,[[]],[.t 6],JU⟩
def F8:FD:=⟨3,[[],[]],[.t 6,.t 7],aq (g0 Tryz.f332 [14,37,640,384])⟩
def AS:FD:=⟨2,[[a9,aR]],[.cell 4 2 true],aq (g0 Tryz.f333 [44,104,20,21])⟩
def AT:FD:=⟨2,[[a9,aR]],[.cell 4 2 true],aq (g0 Tryz.f334 [44,104,21])⟩
def F9:FD:=⟨3,[[],[]],[.t 6,.t 7],aq (g0 Tryz.f335 [14,134,384])⟩
def XP:FD:=⟨2,[[],[]],[.t 4,.t 5],aq (g0 Tryz.f336 [6,29,96])⟩
def Ga:FD:=⟨2,[[],[]],[.t 4,.t 5],aq (g0 Tryz.f337 [6,134,390,902,1926,3974,5510,13702,25990,25862,38,96])⟩
def Gb:FD:=⟨3,[[],[]],[.t 6,.t 7],aq (g0 Tryz.f338 [14,65550,14,520,384,0])⟩
def HB:List Nat:=[62,2,62,0,33554494,62,62,62,45]
def jf:Cmd:=aq (g1 [] Tryz.f339 HB 1 [])
def SL(a:Cmd):Cmd:=aq (g1 [] Tryz.f339 HB 0 [a])
def IM:Cmd:=SL jf
def BO:FD:=⟨5,[[]],[.t 10],IM⟩
def Ci:List Nat:=[44,108,236,21,236,2363544426365107457490959,236,236,65772,21,492,33554924,492,236,236]
def dZ:Cmd:=aq (g1 [] Tryz.f340 Ci 1 [])
def K0(a:Cmd):Cmd:=aq (g1 [] Tryz.f340 Ci 0 [a])
def Dt:Cmd:=K0 dZ
def oT:FD:=⟨2,[[a9,aR]],[.cell 4 2 true],Dt⟩
def xX:FD:=⟨2,[[a9,aR]],[.cell 3 2 true],aq (g0 Tryz.f341 [28,16])⟩
attribute [go_sem] aEx aEy aEz aEA aEB aEC aED aIm Qn aph aGA agL agM Xy Xz agN acN ZM Pj KX aoJ ZO aI0 sR wY yF Pk aHT AI Qo SE aI1 aIo aIp XG XH qQ ZS ZT Qq XI Pm Qs ZU XJ Fu GF KY Qt XK Ux Uy Pn Po Uz XL KZ Qu aI2 aI3 aIq UA Is vf Pp M7 Jp Mn Fy Hx Mo Qv XM SJ XN XO Am SK UB SL K0
end
noncomputable def aoI:List (Nat×FD):=[(295,si),
 (327,Jq),
 (329,tN),
 (332,F8),
 (335,F9),
 (336,XP),
 (337,Ga),
 (338,Gb),
 (191,Ad),
 (201,uS),
 (222,uV),
 (248,yu),
 (249,Dk),
 (250,yv),
 (251,Ei),
 (252,Dl),
 (264,Ai),
 (266,pR),
 (274,qR),
 (288,lR),
 (291,Aj),
 (292,ve),
 (297,AP),
 (307,mB),
 (308,El),
 (322,Al),
 (325,Em),
 (328,BN),
 (330,wE),
 (331,Ds),
 (339,BO),
 (227,mY),
 (278,AO),
 (36,iN),
 (38,kE),
 (40,lE),
 (49,ai9),
 (51,ao8),
 (91,afk),
 (109,jE),
 (110,lM),
 (111,mW),
 (123,jt),
 (134,rk),
 (165,rO),
 (179,gN),
 (180,ez),
 (182,bJ),
 (185,jv),
 (189,iF),
 (202,mQ),
 (226,uX),
 (228,kC),
 (296,mK),
 (299,rA),
 (300,gj),
 (326,n9),
 (64,Bq),
 (89,jU),
 (90,mJ),
 (132,w9),
 (133,ku),
 (139,rL),
 (150,lP),
 (158,jO),
 (159,qO),
 (160,pI),
 (170,Ac),
 (184,xd),
 (190,Ee),
 (192,uv),
 (199,AK),
 (200,F5),
 (212,s7),
 (216,xf),
 (218,xg),
 (223,AN),
 (242,pn),
 (244,xk),
 (323,qS),
 (103,Bc),
 (129,BH),
 (130,D9),
 (137,BJ),
 (138,Ea),
 (145,BK),
 (146,Eb),
 (169,uQ),
 (177,AJ),
 (178,De),
 (188,rp),
 (198,uR),
 (209,uU),
 (229,wt),
 (239,gx),
 (243,ji),
 (245,Af),
 (246,y8),
 (247,te),
 (267,Hv),
 (270,F7),
 (271,Jn),
 (289,ze),
 (293,Jo),
 (294,Dp),
 (27,lJ),
 (56,sP),
 (58,Da),
 (62,sQ),
 (65,ym),
 (77,jM),
 (78,jT),
 (80,AF),
 (86,oM),
 (92,fQ),
 (93,AH),
 (96,rg),
 (117,gV),
 (118,mq),
 (127,ut),
 (128,oQ),
 (131,ri),
 (136,BI),
 (149,j6),
 (164,io),
 (195,iZ),
 (215,pJ),
 (220,pK),
 (224,yt),
 (225,s9),
 (254,wv),
 (255,ww),
 (262,wx),
 (273,nY),
 (275,yw),
 (276,yx),
 (277,uz),
 (135,xc),
 (193,xe),
 (194,Ef),
 (196,Ae),
 (197,jd),
 (253,tj),
 (256,Ag),
 (257,tp),
 (258,jj),
 (259,Dm),
 (260,y9),
 (261,rS),
 (298,uB),
 (301,zg),
 (302,rM),
 (303,wA),
 (304,AQ),
 (305,AR),
 (306,qA),
 (54,E6),
 (57,E7),
 (59,tM),
 (63,wX),
 (79,Br),
 (81,xL),
 (100,pj),
 (101,uN),
 (121,yV),
 (122,LY),
 (124,iO),
 (125,ig),
 (166,yp),
 (167,Ec),
 (168,Bs),
 (181,rR),
 (183,Ed),
 (186,Bv),
 (187,sf),
 (10,C3),
 (11,C4),
 (12,C5),
 (13,yO),
 (23,qM),
 (24,uI),
 (28,aD9),
 (31,kO),
 (52,zW),
 (53,F0),
 (55,wV),
 (60,yk),
 (61,Hq),
 (75,eX),
 (82,zY),
 (95,zZ),
 (102,BE),
 (120,BF),
 (126,Dd),
 (147,uP),
 (152,Aa),
 (29,aGR),
 (34,aF5),
 (35,aoF),
 (48,aGu),
 (94,aGC),
 (108,aEb),
 (119,aF8),
 (151,aH0),
 (161,aGL),
 (162,aGv),
 (163,aGk),
 (172,ar3),
 (213,aHs),
 (214,aHE),
 (230,aGa),
 (231,aD8),
 (232,aGq),
 (279,aGN),
 (280,aGO),
 (281,aGw),
 (104,aGn),
 (105,aym),
 (106,apc),
 (171,aEc),
 (32,ayi),
 (83,aIn),
 (107,aGK),
 (3,ao4),
 (6,aGt),
 (7,ayh),
 (9,aHc),
 (15,aGX),
 (25,aIl),
 (33,ayj),
 (37,aF6),
 (39,ayk),
 (41,ays),
 (50,aGT),
 (8,uq),
 (14,sO),
 (26,C7),
 (30,mU),
 (42,jL),
 (43,yj),
 (44,C8),
 (45,C9),
 (46,wm),
 (47,AE),
 (84,gS),
 (85,AG),
 (87,iw),
 (88,uL),
 (97,oO),
 (98,yR),
 (99,ur),
 (112,qu),
 (113,pG),
 (114,jV),
 (115,yS),
 (116,yU),
 (153,mr),
 (154,iY),
 (155,wr),
 (156,BL),
 (157,uu),
 (173,gD),
 (174,ju),
 (175,F1),
 (176,F3),
 (217,AL),
 (219,AM),
 (221,lQ),
 (233,uY),
 (234,uZ),
 (235,iQ),
 (236,u9),
 (237,je),
 (238,dm),
 (272,iS),
 (282,jF),
 (283,tq),
 (284,uA),
 (285,Ej),
 (286,dy),
 (287,yy),
 (309,gr),
 (310,nD),
 (311,wC),
 (312,ij),
 (313,Hz),
 (314,Ak),
 (315,yz),
 (316,Dq),
 (317,wD),
 (318,tr),
 (319,Dr),
 (320,nZ),
 (321,xV),
 (333,AS),
 (334,AT),
 (340,oT),
 (341,xX)]
def shL:List (Nat×List (List Sh)):=[(191,[[aR],[aR]]),
 (201,[[aR],[]]),
 (222,[[aR],[aR]]),
 (248,[[aR]]),
 (249,[[.o 2 [aR]]]),
 (250,[[aR]]),
 (251,[[aR],[aR]]),
 (252,[[aR]]),
 (264,[[aR],[]]),
 (266,[[aR],[aR]]),
 (274,[[aR],[]]),
 (288,[[aR]]),
 (291,[[aR],[aR]]),
 (292,[[aR],[aR]]),
 (297,[[aR]]),
 (307,[[aR],[aR]]),
 (308,[[aR],[]]),
 (322,[[aR],[aR]]),
 (325,[[aR],[aR]]),
 (328,[[aR],[]]),
 (331,[[aR],[aR],[]]),
 (36,[[.o 8 aF],[]]),
 (38,[[.o 10 Fq],[]]),
 (40,[[.o 5 Gi],[]]),
 (49,[[.o 5 Gi],[.o 5 Gi],[]]),
 (51,[[aR],[aR]]),
 (91,[[.o 8 aF],[.o 8 aF],[]]),
 (109,[[.o 8 aF],[]]),
 (110,[[.o 10 Fq],[]]),
 (111,[[.o 5 Gi],[]]),
 (123,[[.o 2 [.o 5 Gi]]]),
 (134,[[aR]]),
 (165,[[aR],[]]),
 (180,[[.o 5 Gi],[aR],[]]),
 (182,[[],[],[.o 5 Gi]]),
 (189,[[aR]]),
 (202,[[aR]]),
 (226,[[aR],[]]),
 (228,[[aR],[aR]]),
 (241,[[.o 5 Gi],[]]),
 (296,[[.o 2 [aR]],[]]),
 (299,[[aR],[]]),
 (300,[[.o 8 aF],[]]),
 (326,[[.o 2 [aR]],[]]),
 (89,[aL]),
 (90,[aL,aL]),
 (132,[aL]),
 (133,[aL,aL]),
 (139,[[],[aR],[]]),
 (150,[aL,[]]),
 (158,[aL]),
 (159,[aL]),
 (160,[aL,aL]),
 (170,[aL]),
 (184,[aL,aL]),
 (190,[[aR]]),
 (192,[aL]),
 (199,[[aR]]),
 (200,[[aR]]),
 (216,[aL]),
 (218,[aL]),
 (223,[[aR],[]]),
 (242,[aL,aL]),
 (244,[aL,aL]),
 (323,[[],[aR],[]]),
 (103,[aL,[]]),
 (129,[aL,aL,[]]),
 (130,[aL,aL,[]]),
 (137,[aL,aL,[]]),
 (138,[aL,aL,[]]),
 (145,[aL,aL,[]]),
 (146,[aL,aL,[]]),
 (169,[[],[.o 4 aL]]),
 (177,[aL,[]]),
 (178,[aL,[]]),
 (188,[aL,aL,[],[]]),
 (198,[aL,aL,[],[]]),
 (209,[aL,aL,[],[]]),
 (239,[aL,[],[]]),
 (243,[aL,[]]),
 (245,[aL,[],[]]),
 (246,[aL,aL,[]]),
 (247,[[],[aR,a9,a9],[],[]]),
 (267,[[aR],[]]),
 (270,[aL,[]]),
 (271,[aL,[]]),
 (289,[[aR,a9,a9],[],[]]),
 (293,[aL]),
 (294,[[aR],[]]),
 (27,[aF,aL]),
 (56,[aF,aF,[]]),
 (58,[aF,aF,[]]),
 (62,[aF,aF,[]]),
 (65,[aF]),
 (77,[aF]),
 (78,[aF,[]]),
 (80,[aL]),
 (86,[aF,aF,[]]),
 (92,[aF,aF]),
 (96,[aF]),
 (117,[aF,[]]),
 (118,[aF,[]]),
 (127,[[.o 8 aF]]),
 (131,[aL,[],aL,[]]),
 (136,[aF,aF,[],[],[]]),
 (149,[aL]),
 (164,[aF,[],[]]),
 (195,[aF,aF]),
 (215,[aF,[]]),
 (220,[aF,[]]),
 (224,[aF]),
 (225,[aL,[],[],[]]),
 (254,[aL,aL]),
 (255,[aL,aL]),
 (262,[aF,aF]),
 (273,[aF,[]]),
 (275,[aF]),
 (276,[aF]),
 (277,[aL,[],[],[],[]]),
 (135,[fm,[.o 8 aF],[]]),
 (193,[fm,[.o 8 aF],[]]),
 (196,[fm,[.o 8 aF],[]]),
 (197,[fm,[.o 8 aF],[]]),
 (253,[fm,[.o 8 aF]]),
 (256,[aF,[],[]]),
 (257,[fm]),
 (258,[aL,aL,aF,[]]),
 (259,[fm,[]]),
 (260,[[],[],aF]),
 (298,[aF]),
 (304,[[],aF,aF]),
 (305,[[],aF,aF]),
 (54,[fm,fm]),
 (57,[fm,fm]),
 (59,[fm,fm]),
 (63,[fm,aL]),
 (79,[[],aL]),
 (100,[fm]),
 (101,[fm]),
 (121,[fm,fm]),
 (124,[[],[aR],aL]),
 (167,[[aR]]),
 (168,[[aR],[aR]]),
 (181,[Gi,[aR]]),
 (183,[aL]),
 (186,[fm,[]]),
 (187,[fm,[]]),
 (10,[eE,dp,dp]),
 (11,[eE,dp,dp]),
 (12,[eE,dp,dp]),
 (13,[eE,dp]),
 (23,[eE,aF]),
 (24,[eE,[]]),
 (28,[eE,dp,[.o 8 aF]]),
 (31,[eE,dp]),
 (52,[eE,[.o 10 Fq]]),
 (53,[eE]),
 (55,[eE,fm,[],aF]),
 (60,[fm,[.o 8 aF],[]]),
 (61,[[],aF,[.o 8 aF]]),
 (75,[eE]),
 (95,[eE,dp]),
 (102,[Gi]),
 (120,[dp]),
 (126,[eE,fm]),
 (147,[aF]),
 (152,[eE,dp,aF]),
 (34,[aL]),
 (35,[aL]),
 (48,[aL,aL]),
 (94,[[],[aR],[]]),
 (108,[[aR]]),
 (119,[[aR],[aR]]),
 (151,[aL,[]]),
 (161,[[aR]]),
 (162,[[aR]]),
 (163,[[aR],[]]),
 (172,[aL,aL]),
 (214,[aL]),
 (230,[aL]),
 (231,[aL,aL]),
 (232,[aL]),
 (279,[[aR],[]]),
 (280,[[aR],[aR]]),
 (281,[[aR],[aR]]),
 (105,[aF]),
 (106,[aF,aF]),
 (171,[aL]),
 (32,[eE]),
 (3,[eE,[],[],dp,dp]),
 (7,[eE,[.o 10 Fq]]),
 (9,[dp,dp]),
 (15,[[],[],eE,dp]),
 (33,[aL]),
 (37,[aF]),
 (39,[dp]),
 (41,[Gi]),
 (50,[Gi,Gi]),
 (8,[eE,[],[],dp,dp]),
 (14,[eE,dp,dp]),
 (26,[eE,dp]),
 (30,[eE,dp]),
 (42,[eE,dp,[]]),
 (43,[eE,dp]),
 (44,[eE,dp]),
 (45,[eE,dp]),
 (46,[eE,dp]),
 (47,[eE]),
 (84,[eE,dp,[]]),
 (85,[aF,[]]),
 (87,[aF,[]]),
 (97,[aF,[]]),
 (99,[aF,[],[]]),
 (112,[eE,dp]),
 (113,[aF,[]]),
 (114,[aF,[]]),
 (115,[eE,dp,[]]),
 (116,[aF,[]]),
 (153,[eE,dp,dp]),
 (154,[aF,[]]),
 (155,[aL]),
 (156,[aF,aF]),
 (157,[aL,[]]),
 (173,[aL,[]]),
 (174,[aF,[]]),
 (175,[aF,[]]),
 (176,[aF,[]]),
 (221,[[],aF,[]]),
 (233,[[],aF,aF]),
 (234,[[],aF,aF]),
 (235,[[],aF]),
 (236,[[],aF,aF]),
 (238,[aF,[],[]]),
 (272,[[],aF]),
 (282,[[],aF]),
 (283,[aF]),
 (286,[aL,[],[]]),
 (287,[aF,[],[]]),
 (309,[aL,[]]),
 (310,[[a9,aR],[]]),
 (311,[[a9,aR]]),
 (312,[[a9,aR],[],[]]),
 (314,[[aR],[]]),
 (315,[[aR],[]]),
 (317,[[a9,aR],[a9,aR],[]]),
 (318,[[a9,aR],[a9,aR]]),
 (319,[aL,[]]),
 (320,[[a9,aR],[a9,aR]]),
 (321,[[a9,aR]]),
 (333,[[a9,aR],[]]),
 (340,[[a9,aR],[]]),
 (341,[[a9,aR]])]
def mdL:List (Nat×List Nat):=[(331,[1,0,0]),(180,[3,0,0]),(182,[2,0,0]),(185,[2,0,0]),(240,[0,1])]
def keepL:List Nat:=[37,41,85,97,102,113,116,120,147,174,206,301,304,305,341]
def ab:List Nat->Nat
 |[]=>0
 |x::l=>x+4294967296*ab l
def Lb(m:List Nat):Prop:=∀x∈m,x<4294967296
def fS:Nat->Nat->List Nat
 |0,_=>[]
 |k+1,n=>n%4294967296::fS k (n/4294967296)
def ax(n:Nat):List Nat:=if h:n=0 then []else n%4294967296::ax (n/4294967296)
termination_by n
decreasing_by omega
theorem cO:ax 0=[]:=by grind[ax]
theorem vj{n}(h:n≠0):ax n=n%4294967296::ax (n/4294967296):=by rw[ax,dif_neg h]
def sj{n}:ax n=[]↔n=0:=by
 grind[vj,cO]
theorem aJ(n):ab (ax n)=n:=by
 induction n using Nat.strongRecOn with
 |ind n ih=>
  grind[cO,vj,ab]
theorem aH(n):Lb (ax n):=by
 induction n using Nat.strongRecOn with
 |ind n ih=>
  by_cases h:n=0
  ·subst h;rw[cO];intro x hx;grind
  ·rw[vj h];intro x hx;rcases List.mem_cons.1 hx with rfl|hx
   ·omega
   ·exact ih _ ω x hx
def JV:Lb []:=fun x hx=>by grind
theorem mC{x}{l}:Lb (x::l)↔x<4294967296/\Lb l:=by
 constructor
 ·intro h;exact⟨h x σ,fun y hy=>h y γ⟩
 ·rintro⟨h1,h2⟩ y hy
  rcases List.mem_cons.1 hy with rfl|hy
  ·omega
  ·exact h2 y hy
theorem vL{l r}:Lb (l++r)↔Lb l/\Lb r:=by
 constructor
 ·intro h;exact⟨fun x hx=>h x γ,fun x hx=>h x γ⟩
 ·rintro⟨h1,h2⟩ x hx
  rcases List.mem_append.1 hx with hx|hx
  ·exact h1 x hx
  ·exact h2 x hx
theorem jy{l}(h:Lb l)(n):Lb (l.take n):=fun x hx=>h x (List.mem_of_mem_take hx)
theorem sk{l}(h:Lb l)(n):Lb (l.drop n):=fun x hx=>h x (List.mem_of_mem_drop hx)
theorem dD{l}(h:Lb l)(i):l.getD i 0<4294967296:=by
 rw[aF3];cases hq:l[i]? with
 |none=>simp
 |some x=>exact h x (aE6 hq)
theorem gu(l r):ab (l++r)=ab l+4294967296^O l*ab r:=by
 induction l with
 |nil=>simp[ab]
 |cons x l ih=>
  simp only[aFb,ab,ih,aFk,aFJ,Nat.mul_add];grind
theorem ft{l}(h:Lb l):ab l<4294967296^O l:=by
 induction l with
 |nil=>simp[ab]
 |cons x l ih=>
  obtain⟨h1,h2⟩:=mC.1 h;grind[ab,aFk,aFJ]
theorem dv(k n):O (fS k n)=k:=by
 induction k generalizing n with
 |zero=>rfl
 |succ k ih=>grind[fS]
theorem qT(k n):Lb (fS k n):=by
 induction k generalizing n with
 |zero=>exact JV
 |succ k ih=>exact mC.2 ⟨by omega,ih _⟩
theorem po(k n):ab (fS k n)=n%4294967296^k:=by
 induction k generalizing n with
 |zero=>simp[fS,ab,Nat.mod_one]
 |succ k ih=>
  rw[fS,ab,ih,aFJ,aFd (4294967296^k),Nat.mod_mul]
def K1{l}(h:Lb l):fS (O l) (ab l)=l:=by
 induction l with
 |nil=>rfl
 |cons x l ih=>
  obtain⟨h1,h2⟩:=mC.1 h;grind[aFk,fS,ab]
theorem WC(n):ab (aER n 0)=0:=by
 induction n with
 |zero=>rfl
 |succ n ih=>simp[List.replicate_succ,ab,ih]
def tu(m:List Nat):Nat->Nat
 |0=>0
 |n+1=>if m.getD n 0=0 then tu m n else n+1
theorem M8(m):∀n,tu m n<=n
 |0=>aET _
 |n+1=>by
  unfold tu;have:=M8 m n;split<;>omega
def adE(m):∀n,tu m n=0\/m.getD (tu m n-1) 0≠0
 |0=>.inl rfl
 |n+1=>by
  unfold tu;split
  ·exact adE m n
  ·rename_i h;exact .inr h
def ZX(m):∀n i,tu m n<=i->i<n->m.getD i 0=0
 |0,i,_,h=>by omega
 |n+1,i,h1,h2=>by
  unfold tu at h1;split at h1
  ·rename_i h;by_cases e:i=n
   ·rw[e];exact h
   ·exact ZX m n i h1 ω
  ·omega
def K2(m:List Nat):Prop:=m=[]\/m.getD (O m-1) 0≠0
theorem UC(x)(l)(i):(x::l).getD (i+1) 0=l.getD i 0:=γ
theorem SM{x}{l}(h:K2 (x::l)):K2 l:=by
 rcases h with h|h
 ·grind
 ·cases l with
  |nil=>exact .inl rfl
  |cons y l=>
   refine .inr ?_;grind
theorem ai6{l}(h:K2 l)(hne:l≠[]):ab l≠0:=by
 induction l with
 |nil=>grind
 |cons x l ih=>
  cases l with
  |nil=>
   rcases h with h|h
   all_goals grind[ab]
  |cons y l=>
   grind[SM,ab]
theorem adF{l}(h1:Lb l)(h2:K2 l):ax (ab l)=l:=by
 induction l with
 |nil=>exact cO
 |cons x l ih=>
  obtain⟨h3,h4⟩:=mC.1 h1;grind[vj,ai6,ab,SM]
def ai7(n):K2 (ax n):=by
 induction n using Nat.strongRecOn with
 |ind n ih=>
  by_cases h:n=0
  ·subst h;rw[cO];exact .inl rfl
  ·refine .inr ?_;rcases ih (n/4294967296) ω with h2|h2
   all_goals grind[ax,aFk,Nat.add_sub_cancel,UC]
theorem ZY(m):ab (m.take (tu m (O m)))=ab m:=by
 have h:m=m.take (tu m (O m))++m.drop (tu m (O m)):=(List.take_append_drop _ _).symm;have hz:m.drop (tu m (O m))=aER (O m-tu m (O m)) 0:=by
  rw[List.eq_replicate_iff];refine⟨by simp,fun x hx=>?_⟩;obtain⟨i,hi⟩:=aFL hx;rw[List.getElem?_drop]at hi;have hl:=(List.getElem?_eq_some_iff.1 hi).1;have:=ZX m (O m) (tu m (O m)+i) ω hl;grind
 grind[gu,WC]
theorem UD(m:List Nat):K2 (m.take (tu m (O m))):=by
 rcases adE m (O m) with h|h
 ·rw[h];exact .inl rfl
 ·by_cases h0:tu m (O m)=0
  ·rw[h0];exact .inl rfl
  ·refine .inr ?_;grind
theorem ZZ{m}(h:Lb m):m.take (tu m (O m))=ax (ab m):=by
 rw[←adF (jy h _) (UD m),ZY]
def eN{n k}(h:n<4294967296^k):O (ax n)<=k:=by
 induction k generalizing n with
 |zero=>
  grind[cO]
 |succ k ih=>
  grind[vj,aFk,aFJ,Nat.div_lt_of_lt_mul,aFd]
theorem fJ(n):n<4294967296^ O (ax n):=by
 grind[ft,aH,aJ]
def WD{n}(h:n≠0):4294967296^ (O (ax n)-1)<=n:=by
 induction n using Nat.strongRecOn with
 |ind n ih=>
  grind[ax,Nat.succ_pred_eq_of_pos,Nat.add_sub_cancel,aFJ]
def tz(n:Nat):Nat:=if h:n=0 then 0 else if n%2=1 then 0 else tz (n/2)+1
termination_by n
decreasing_by omega
theorem Du{n}(h:n%2=1):tz n=0:=by
 rw[tz,dif_neg ω,if_pos h]
theorem ai8{n}(h:n≠0):tz (2*n)=tz n+1:=by
 rw[tz,dif_neg ω,if_neg ω,Nat.mul_div_cancel_left n δ]
theorem M9{n}(k)(h:n≠0):tz (2^k*n)=k+tz n:=by
 induction k with
 |zero=>rw[Nat.pow_zero,Nat.one_mul,aES]
 |succ k ih=>
  grind[aFJ,aFd,aFj,ai8,Nat.mul_ne_zero,Nat.ne_of_gt,aE7]
theorem Cj{n}(h:n≠0):n=2^tz n*(n/2^tz n)/\n/2^tz n%2=1:=by
 induction n using Nat.strongRecOn with
 |ind n ih=>
  by_cases h1:n%2=1
  ·simp_all[Du,Nat.pow_zero,Nat.div_one,Nat.one_mul]
  ·have hn:n=2*(n/2):=ω
   grind[tz,aFJ,aFd,Nat.div_div_eq_div_mul,aFj]
def asw{x k}(y)(h:x≠0)(hx:x<2^k):tz (x+2^k*y)=tz x:=by
 obtain⟨e1,e2⟩:=Cj h;generalize x/2^tz x=q at e1 e2;have hle:2^tz x<=x:=by
  conv=>rhs;rw[e1]
  exact Nat.le_mul_of_pos_right _ ω
 have hk:=(Nat.pow_lt_pow_iff_right δ).1 (aFl hle hx);generalize hz:2^ (k-tz x-1)*y=z;have e3:x+2^k*y=2^tz x*(q+2*z):=by
  have e4:2^k=2^tz x*(2*2^ (k-tz x-1)):=by
   rw[←Nat.pow_succ',←aE2];grind
  grind
 have e5:(q+2*z) %2=1:=ω
 rw[e3,M9 _ ω,Du e5,aFA]
theorem agT{x k}(h:x≠0)(hx:x<2^k):tz x<k:=by
 obtain⟨e1,e2⟩:=Cj h;generalize x/2^tz x=q at e1 e2;have hle:2^tz x<=x:=by
  conv=>rhs;rw[e1]
  exact Nat.le_mul_of_pos_right _ ω
 exact(Nat.pow_lt_pow_iff_right δ).1 (aFl hle hx)
def WE:Nat->Nat->Nat
 |0,_=>0
 |k+1,n=>if n%2=1 then 0 else WE k (n/2)+1
theorem asx:∀k x,x≠0->x<2^k->WE k x=tz x:=by
 intro k;induction k with
 |zero=>omega
 |succ k ih=>
  intro x h0 h1;unfold WE;by_cases h:x%2=1
  ·rw[if_pos h,Du h]
  ·have:=ai8 (n:=x/2) ω;grind
def tzF(zas:List AV)(hs:List Ob):Option (AV×List Ob):=match zas with
 |[.v (.int .u32 n)]=>if 0<n/\n<4294967296/\hs=[]then some (.v (.int .i64 (WE 32 n.toNat)),[])else none
 |_=>none
def ovF(k:Nat)(zas:List AV)(hs:List Ob):Option (AV×List Ob):=match zas,hs with
 |[.sl k0 (_::_),.rsl 1000 none k1 _ _],[.ar k2 rows]=>if k0=k/\k1=k/\k2=k then some (B false,[.ar k2 rows])else none
 |_,_=>none
def clF(zas:List AV)(hs:List Ob):Option (AV×List Ob):=match zas,hs with
 |[.sl 1 []],[]=>some (.sl 1 [],[])
 |[.sl 1 (r::rs)],[]=>if(O rs+1)*8<=140737488355328 then some (.osl 1 (r::rs),[])else none
 |_,_=>none
def clU(zas:List AV)(hs:List Ob):Option (AV×List Ob):=match zas,hs with
 |[.sl 1 []],[]=>some (.sl 1 [],[])
 |[.sl 1 (r::rs)],[]=>if(O rs+1)*4<=140737488355328 then some (.sl 1 (r::rs),[])else none
 |_,_=>none
def Z0(k bytes:Nat)(zas:List AV)(hs:List Ob):Option (AV×List Ob):=match zas,hs with
 |[.emp,.v (.int .i64 0),.sl k0 [r]],[]=>if k0=k then some (.osl k [r],[])else none
 |[.rsl 1000 none k1 0 n,.v (.int .i64 i),.sl k0 [r]],[.ar k2 rows]=>
  if k0=k/\k1=k/\k2=k/\n=O rows/\0<=i/\i<=n/\(n+1)*bytes<=140737488355328 then some (.osl k (rows.take i.toNat++r::rows.drop i.toNat),[.dead])else none
 |_,_=>none
def YA:List (Nat× (List AV->List Ob->Option (AV×List Ob))):=[(263,tzF),(240,ovF 4)]
def asy:List (Nat× (List AV->List Ob->Option (AV×List Ob))):=(189,clU)::(134,clF)::(182,Z0 4 64)::YA
noncomputable def cB:Env:=⟨fun f=>asy.lookup f,fun f=>aoI.lookup f,⟨fun f=>(mdL.lookup f).getD [],fun f=>(shL.lookup f).getD [],fun f=>keepL.contains f,false⟩⟩
noncomputable def aA (b:Bool):Mode:={cB.md with nm:=b}
noncomputable def R:j8:=iL cB
theorem Na{fd:FD}{args:List AV}{hs:List Ob}{r:AV×List Ob}(b:Bool)(hE:cB.E f=none)(hC:cB.C f=some fd)(hk:cB.md.keep f=b)(h1:O args=fd.np)(h2:O hs<=1000)
  (hz:fk b fd.rs fd.res (O hs) (am R (aA b) fd.body (iW args) (az hs))=some r):R f args hs=some r:=by
 refine M2 hE hC ?_;unfold ZF;rw[if_pos ⟨h1,h2⟩];subst hk;exact hz
def aD0(b:Bool):(aA b).nm=b:=θ _
abbrev Gq(f:FuncId):Prop:=∀ (b:Bool) (h:aj) (d:Nat) (zas:List AV),bF R (aA b) h d zas (.fn f [] [])=(cr h [] zas).bind (KT R (aA b) d f)
abbrev Ck(f:FuncId)(l:List (List Sh)):Prop:=∀b:Bool,(aA b).sh f=l
abbrev Cm(f:FuncId)(l:List Nat):Prop:=∀b:Bool,(aA b).m f=l
abbrev Cn(f:FuncId)(l:Bool):Prop:=∀b:Bool,(aA b).keep f=l
def zk(h:cB.md.sh f=l):Ck f l:=fun _=>h
def zo{l:List Nat}(h:cB.md.m f=l):Cm f l:=fun _=>h
def zp{l:Bool}(h:cB.md.keep f=l):Cn f l:=fun _=>h
def BP(hm:∀b,(aA b).m f=[]):Gq f:=fun b _ d _=>KU d (hm b)
abbrev QL(f:FuncId)(l:List (List Sh)):Prop:=Ck f l/\Cm f []/\Gq f/\Cn f false
abbrev QE(f:FuncId)(l:List (List Sh))(fd:FD):Prop:=QL f l/\cB.E f=none/\cB.C f=some fd
def ql(h:(cB.md.sh f,cB.md.m f,cB.md.keep f)=(l,[],false)):QL f l:=by
 simp only[Prod.mk.injEq]at h;exact⟨fun _=>h.1,fun _=>h.2.1,BP fun _=>h.2.1,fun _=>h.2.2⟩
def qe{fd:FD}(h:(cB.md.sh f,cB.md.m f,cB.md.keep f,cB.E f,cB.C f)=(l,[],false,none,some fd)):QE f l fd:=by
 simp only[Prod.mk.injEq]at h;exact⟨⟨fun _=>h.1,fun _=>h.2.1,BP fun _=>h.2.1,fun _=>h.2.2.1⟩,h.2.2.2⟩
def aIa:QE 3 [eE,[],[],dp,dp] ao4:=qe κ
def aIr:QE 6 [] aGt:=qe κ
def aIs:QE 7 [eE,[.o 10 Fq]] ayh:=qe κ
def HC:QE 8 [eE,[],[],dp,dp] uq:=qe κ
def aKx:QE 9 [dp,dp] aHc:=qe κ
def acR:QE 10 [eE,dp,dp] C3:=qe κ
def acS:QE 11 [eE,dp,dp] C4:=qe κ
def acT:QE 12 [eE,dp,dp] C5:=qe κ
def acU:QE 13 [eE,dp] yO:=qe κ
def Pq:QE 14 [eE,dp,dp] sO:=qe κ
def aIL:QE 15 [[],[],eE,dp] aGX:=qe κ
def XQ:QE 23 [eE,aF] qM:=qe κ
def acV:QE 24 [eE,[]] uI:=qe κ
def aLI:QL 25 []:=ql κ
def UE:QE 26 [eE,dp] C7:=qe κ
def UF:QE 27 [aF,aL] lJ:=qe κ
def aH1:QE 28 [eE,dp,[.o 8 aF]] aD9:=qe κ
def aJw:QE 29 [] aGR:=qe κ
def zu:QE 30 [eE,dp] mU:=qe κ
def XR:QE 31 [eE,dp] kO:=qe κ
def aIt:QE 32 [eE] ayi:=qe κ
def aHU:QE 33 [aL] ayj:=qe κ
def aHM:QE 34 [aL] aF5:=qe κ
def aIu:QE 35 [aL] aoF:=qe κ
def bg:QE 36 [[.o 8 aF],[]] iN:=qe κ
def aHV:cB.C 37=some aF6:=by kernel_rfl
def aHW:cB.E 37=none:=by kernel_rfl
theorem aHF:Ck 37 [aF]:=zk κ
def aGV:Cm 37 []:=zo κ
def aKc:Gq 37:=BP aGV
def aGx:Cn 37 true:=zp κ
def cX:QE 38 [[.o 10 Fq],[]] kE:=qe κ
def ayp:QE 39 [dp] ayk:=qe κ
def dj:QE 40 [[.o 5 Gi],[]] lE:=qe κ
def aHv:cB.C 41=some ays:=by kernel_rfl
def aHw:cB.E 41=none:=by kernel_rfl
theorem aHl:Ck 41 [[aR,a9,aR,a9]]:=zk κ
def aGD:Cm 41 []:=zo κ
def aJx:Gq 41:=BP aGD
def aGo:Cn 41 true:=zp κ
def Qw:QE 42 [eE,dp,[]] jL:=qe κ
def JW:QE 43 [eE,dp] yj:=qe κ
def UG:QE 44 [eE,dp] C8:=qe κ
def UH:QE 45 [eE,dp] C9:=qe κ
def IN:QE 46 [eE,dp] wm:=qe κ
def Qx:QE 47 [eE] AE:=qe κ
def aIv:QE 48 [aL,aL] aGu:=qe κ
def aGW:QE 49 [[.o 5 Gi],[.o 5 Gi],[]] ai9:=qe κ
def aIC:QE 50 [Gi,Gi] aGT:=qe κ
def aGB:QE 51 [[aR],[aR]] ao8:=qe κ
def XS:QE 52 [eE,[.o 10 Fq]] zW:=qe κ
def Z3:QE 53 [eE] F0:=qe κ
def agU:QE 54 [fm,fm] E6:=qe κ
def Z4:QE 55 [eE,fm,[],aF] wV:=qe κ
def UI:QE 56 [aF,aF,[]] sP:=qe κ
def agV:QE 57 [fm,fm] E7:=qe κ
def UJ:QE 58 [aF,aF,[]] Da:=qe κ
def agW:QE 59 [fm,fm] tM:=qe κ
def UK:QE 60 [fm,[.o 8 aF],[]] yk:=qe κ
def acW:QE 61 [[],aF,[.o 8 aF]] Hq:=qe κ
def UM:QE 62 [aF,aF,[]] sQ:=qe κ
def Z5:QE 63 [fm,aL] wX:=qe κ
def Z6:QE 64 [] Bq:=qe κ
def UN:QE 65 [aF] ym:=qe κ
def Nb:QE 75 [eE] eX:=qe κ
def Qy:QE 77 [aF] jM:=qe κ
def UO:QE 78 [aF,[]] jT:=qe κ
def Z7:QE 79 [[],aL] Br:=qe κ
def Qz:QE 80 [aL] AF:=qe κ
def agX:QE 81 [] xL:=qe κ
def Me:QE 82 [] zY:=qe κ
def bw:QE 84 [eE,dp,[]] gS:=qe κ
def QA:cB.C 85=some AG:=by kernel_rfl
def QB:cB.E 85=none:=by kernel_rfl
theorem alL:Ck 85 [aF,[]]:=zk κ
def HD:Cm 85 []:=zo κ
def aih:Gq 85:=BP HD
def DU:Cn 85 true:=zp κ
def UP:QE 86 [aF,aF,[]] oM:=qe κ
def JX:QE 87 [aF,[]] iw:=qe κ
def K3:QE 88 [] uL:=qe κ
def UQ:QE 89 [aL] jU:=qe κ
def Z8:QE 90 [aL,aL] mJ:=qe κ
def aoL:QE 91 [[.o 8 aF],[.o 8 aF],[]] afk:=qe κ
def Pt:QE 92 [aF,aF] fQ:=qe κ
def QC:QE 93 [] AH:=qe κ
def aKd:QE 94 [[],[aR],[]] aGC:=qe κ
def XT:QE 95 [eE,dp] zZ:=qe κ
def SQ:QE 96 [aF] rg:=qe κ
def K4:cB.C 97=some oO:=by kernel_rfl
def K5:cB.E 97=none:=by kernel_rfl
def adJ:Ck 97 [aF,[]]:=zk κ
def Dv:Cm 97 []:=zo κ
def acr:Gq 97:=BP Dv
def Ax:Cn 97 true:=zp κ
def Pu:QE 98 [] yR:=qe κ
def HE:QE 99 [aF,[],[]] ur:=qe κ
def Z9:QE 100 [fm] pj:=qe κ
def XU:QE 101 [fm] uN:=qe κ
def SR:cB.C 102=some BE:=by kernel_rfl
def ST:cB.E 102=none:=by kernel_rfl
def aml:Ck 102 [[aR,a9,aR,a9]]:=zk κ
def IQ:Cm 102 []:=zo κ
def aja:Gq 102:=BP IQ
def Fz:Cn 102 true:=zp κ
def agY:QE 103 [aL,[]] Bc:=qe κ
def aI4:QE 104 [] aGn:=qe κ
def aIw:QE 105 [aF] aym:=qe κ
def aH2:QE 106 [aF,aF] apc:=qe κ
def aI5:QE 107 [] aGK:=qe κ
def aHx:QE 108 [[aR]] aEb:=qe κ
def aT:QE 109 [[.o 8 aF],[]] jE:=qe κ
def cH:QE 110 [[.o 10 Fq],[]] lM:=qe κ
def cR:QE 111 [[.o 5 Gi],[]] mW:=qe κ
def Mp:QE 112 [eE,dp] qu:=qe κ
def QD:cB.C 113=some pG:=by kernel_rfl
def QF:cB.E 113=none:=by kernel_rfl
def alM:Ck 113 [aF,[]]:=zk κ
def HF:Cm 113 []:=zo κ
def aii:Gq 113:=BP HF
def DV:Cn 113 true:=zp κ
def UR:QE 114 [aF,[]] jV:=qe κ
def Pw:QE 115 [eE,dp,[]] yS:=qe κ
def Px:cB.C 116=some yU:=by kernel_rfl
def Py:cB.E 116=none:=by kernel_rfl
def ajb:Ck 116 [aF,[]]:=zk κ
def Gr:Cm 116 []:=zo κ
def agZ:Gq 116:=BP Gr
def Dw:Cn 116 true:=zp κ
def SU:QE 117 [aF,[]] gV:=qe κ
def HG:QE 118 [aF,[]] mq:=qe κ
def aHX:QE 119 [[aR],[aR]] aF8:=qe κ
def SV:cB.C 120=some BF:=by kernel_rfl
def SW:cB.E 120=none:=by kernel_rfl
def amm:Ck 120 [dp]:=zk κ
def IR:Cm 120 []:=zo κ
def ajc:Gq 120:=BP IR
def FA:Cn 120 true:=zp κ
def acX:QE 121 [fm,fm] yV:=qe κ
def aaa:QE 122 [] LY:=qe κ
def AU:QE 123 [[.o 2 [.o 5 Gi]]] jt:=qe κ
def aV:QE 124 [[],[aR],aL] iO:=qe κ
def bE:QE 125 [] ig:=qe κ
def acY:QE 126 [eE,fm] Dd:=qe κ
def QG:QE 127 [[.o 8 aF]] ut:=qe κ
def K6:QE 128 [] oQ:=qe κ
def SX:QE 129 [aL,aL,[]] BH:=qe κ
def XV:QE 130 [aL,aL,[]] D9:=qe κ
def SY:QE 131 [aL,[],aL,[]] ri:=qe κ
def aab:QE 132 [aL] w9:=qe κ
def aac:QE 133 [aL,aL] ku:=qe κ
def acs:QL 134 [[aR]]:=ql κ
def aad:QE 135 [fm,[.o 8 aF],[]] xc:=qe κ
def SZ:QE 136 [aF,aF,[],[],[]] BI:=qe κ
def tv:QE 137 [aL,aL,[]] BJ:=qe κ
def xp:QE 138 [aL,aL,[]] Ea:=qe κ
def Nc:QE 139 [[],[aR],[]] rL:=qe κ
def tw:QE 145 [aL,aL,[]] BK:=qe κ
def xr:QE 146 [aL,aL,[]] Eb:=qe κ
def K7:cB.C 147=some uP:=by kernel_rfl
def K8:cB.E 147=none:=by kernel_rfl
def adK:Ck 147 [aF]:=zk κ
def Dx:Cm 147 []:=zo κ
def act:Gq 147:=BP Dx
def Ay:Cn 147 true:=zp κ
def Nd:QE 149 [aL] j6:=qe κ
def En:QE 150 [aL,[]] lP:=qe κ
def XX:QE 152 [eE,dp,aF] Aa:=qe κ
def wF:QE 153 [eE,dp,dp] mr:=qe κ
def yA:QE 154 [aF,[]] iY:=qe κ
def Mr:QE 155 [aL] wr:=qe κ
def S0:QE 156 [aF,aF] BL:=qe κ
def HI:QE 157 [aL,[]] uu:=qe κ
def QH:QE 158 [aL] jO:=qe κ
def XY:QE 159 [aL] qO:=qe κ
def QI:QE 160 [aL,aL] pI:=qe κ
def aI6:QE 161 [[aR]] aGL:=qe κ
def aIx:QE 162 [[aR]] aGv:=qe κ
def aIy:QE 163 [[aR],[]] aGk:=qe κ
def QJ:QE 164 [aF,[],[]] io:=qe κ
def cJ:QE 165 [[aR],[]] rO:=qe κ
def JY:QE 166 [] yp:=qe κ
def X1:QE 167 [[aR]] Ec:=qe κ
def aaf:QE 168 [[aR],[aR]] Bs:=qe κ
def X3:QE 169 [[],[.o 4 aL]] uQ:=qe κ
def X4:QE 170 [aL] Ac:=qe κ
def aI7:QE 171 [aL] aEc:=qe κ
def aJy:QE 172 [aL,aL] ar3:=qe κ
def K9:QE 173 [aL,[]] gD:=qe κ
def Ms:cB.C 174=some ju:=by kernel_rfl
def Mt:cB.E 174=none:=by kernel_rfl
def ag0:Ck 174 [aF,[]]:=zk κ
def DW:Cm 174 []:=zo κ
def acZ:Gq 174:=BP DW
def Bg:Cn 174 true:=zp κ
def aag:QE 175 [aF,[]] F1:=qe κ
def aah:QE 176 [aF,[]] F3:=qe κ
def QK:QE 177 [aL,[]] AJ:=qe κ
def US:QE 178 [aL,[]] De:=qe κ
def rD:QE 179 [] gN:=qe κ
def qU:cB.C 180=some ez:=by kernel_rfl
def qV:cB.E 180=none:=by kernel_rfl
theorem iG:Ck 180 [[.o 5 [aR,a9,aR,a9]],[aR],[]]:=zk κ
theorem iT:Cm 180 [3,0,0]:=zo κ
def hH:Cn 180 false:=zp κ
def Jr:QE 181 [Gi,[aR]] rR:=qe κ
def oV:Ck 182 [[],[],[.o 5 [aR,a9,aR,a9]]]:=zk κ
def pT:Cm 182 [2,0,0]:=zo κ
def nM:Cn 182 false:=zp κ
def X5:QE 183 [aL] Ed:=qe κ
def aai:QE 184 [aL,aL] xd:=qe κ
def AW:cB.C 185=some jv:=by kernel_rfl
def AX:cB.E 185=none:=by kernel_rfl
def Ap:Ck 185 []:=zk κ
def AY:Cm 185 [2,0,0]:=zo κ
def nN:Cn 185 false:=zp κ
def aaj:QE 186 [fm,[]] Bv:=qe κ
def aak:QE 187 [fm,[]] sf:=qe κ
def P4:QE 188 [aL,aL,[],[]] rp:=qe κ
def DP:QL 189 [[aR]]:=ql κ
def X6:QE 190 [[aR]] Ee:=qe κ
def X7:QE 191 [[aR],[aR]] Ad:=qe κ
def QM:QE 192 [aL] uv:=qe κ
def aal:QE 193 [fm,[.o 8 aF],[]] xe:=qe κ
def X8:QE 194 [] Ef:=qe κ
def S1:QE 195 [aF,aF] iZ:=qe κ
def X9:QE 196 [fm,[.o 8 aF],[]] Ae:=qe κ
def mD:QE 197 [fm,[.o 8 aF],[]] jd:=qe κ
def ac0:QE 198 [aL,aL,[],[]] uR:=qe κ
def QN:QE 199 [[aR]] AK:=qe κ
def aam:QE 200 [[aR]] F5:=qe κ
def Ya:QE 201 [[aR],[]] uS:=qe κ
def Eo:QE 202 [[aR]] mQ:=qe κ
def ac2:QE 209 [aL,aL,[],[]] uU:=qe κ
def Pz:QE 212 [] s7:=qe κ
def BQ:QE 215 [aF,[]] pJ:=qe κ
def aao:QE 216 [aL] xf:=qe κ
def QO:QE 217 [] AL:=qe κ
def aap:QE 218 [aL] xg:=qe κ
def QP:QE 219 [] AM:=qe κ
def QQ:QE 220 [aF,[]] pK:=qe κ
def Az:QE 221 [[],aF,[]] lQ:=qe κ
def Yb:QE 222 [[aR],[aR]] uV:=qe κ
def QR:QE 223 [[aR],[]] AN:=qe κ
def UV:QE 224 [aF] yt:=qe κ
def J0:QE 225 [aL,[],[],[]] s9:=qe κ
def bT:QE 226 [[aR],[]] uX:=qe κ
def Nf:QE 227 [] mY:=qe κ
def GG:QE 228 [[aR],[aR]] kC:=qe κ
def S6:QE 229 [] wt:=qe κ
def aI8:QE 230 [aL] aGa:=qe κ
def aJz:QE 231 [aL,aL] aD8:=qe κ
def aJA:QE 232 [aL] aGq:=qe κ
def La:QE 233 [[],aF,aF] uY:=qe κ
def Lc:QE 234 [[],aF,aF] uZ:=qe κ
def Le:QE 235 [[],aF] iQ:=qe κ
def Lf:QE 236 [[],aF,aF] u9:=qe κ
def S7:QE 237 [] je:=qe κ
def Yc:QE 238 [aF,[],[]] dm:=qe κ
def aaq:QE 239 [aL,[],[]] gx:=qe κ
def aar:QE 242 [aL,aL] pn:=qe κ
def aas:QE 243 [aL,[]] ji:=qe κ
def aat:QE 244 [aL,aL] xk:=qe κ
def Yd:QE 245 [aL,[],[]] Af:=qe κ
def ac5:QE 246 [aL,aL,[]] y8:=qe κ
def UW:QE 247 [[],[aR,a9,a9],[],[]] te:=qe κ
def UX:QE 248 [[aR]] yu:=qe κ
def UY:QE 249 [[.o 2 [aR]]] Dk:=qe κ
def UZ:QE 250 [[aR]] yv:=qe κ
def Ye:QE 251 [[aR],[aR]] Ei:=qe κ
def U0:QE 252 [[aR]] Dl:=qe κ
def U1:QE 253 [fm,[.o 8 aF]] tj:=qe κ
def S8:QE 254 [aL,aL] wv:=qe κ
def S9:QE 255 [aL,aL] ww:=qe κ
def Yf:QE 256 [aF,[],[]] Ag:=qe κ
def U2:QE 257 [fm] tp:=qe κ
def aau:QE 258 [aL,aL,aF,[]] jj:=qe κ
def Ep:QE 259 [fm,[]] Dm:=qe κ
def jQ:QE 260 [[],[],aF] y9:=qe κ
def fX:QE 261 [] rS:=qe κ
def Ta:QE 262 [aF,aF] wx:=qe κ
def ac6:QL 263 []:=ql κ
def Yg:QE 264 [[aR],[]] Ai:=qe κ
def BR:QE 266 [[aR],[aR]] pR:=qe κ
def ac7:QE 267 [[aR],[]] Hv:=qe κ
def aav:QE 270 [aL,[]] F7:=qe κ
def ag2:QE 271 [aL,[]] Jn:=qe κ
def Lg:QE 272 [[],aF] iS:=qe κ
def PA:QE 273 [aF,[]] nY:=qe κ
def Yh:QE 274 [[aR],[]] qR:=qe κ
def U3:QE 275 [aF] yw:=qe κ
def J1:QE 276 [aF] yx:=qe κ
def HJ:QE 277 [aL,[],[],[],[]] uz:=qe κ
def QS:QE 278 [] AO:=qe κ
def aI9:QE 279 [[aR],[]] aGN:=qe κ
def aJa:QE 280 [[aR],[aR]] aGO:=qe κ
def aIz:QE 281 [[aR],[aR]] aGw:=qe κ
def Bh:QE 282 [[],aF] jF:=qe κ
def Gt:QE 283 [aF] tq:=qe κ
def QT:QE 284 [] uA:=qe κ
def Yi:QE 285 [] Ej:=qe κ
def U4:QE 286 [aL,[],[]] dy:=qe κ
def J2:QE 287 [aF,[],[]] yy:=qe κ
def J3:QE 288 [[aR]] lR:=qe κ
def ac8:QE 289 [[aR,a9,a9],[],[]] ze:=qe κ
def Yj:QE 291 [[aR],[aR]] Aj:=qe κ
def Yk:QE 292 [[aR],[aR]] ve:=qe κ
def ag3:QE 293 [aL] Jo:=qe κ
def ac9:QE 294 [[aR],[]] Dp:=qe κ
def aaw:QE 295 [] si:=qe κ
def eY:QE 296 [[.o 2 [aR]],[]] mK:=qe κ
def HK:QE 297 [[aR]] AP:=qe κ
def HL:QE 298 [aF] uB:=qe κ
def It:QE 299 [[aR],[]] rA:=qe κ
def vo:QE 300 [[.o 8 aF],[]] gj:=qe κ
def PB:cB.C 301=some zg:=by kernel_rfl
def PC:cB.E 301=none:=by kernel_rfl
def aje:Ck 301 []:=zk κ
def pU:Cm 301 []:=zo κ
def ag4:Gq 301:=BP pU
def Dy:Cn 301 true:=zp κ
def bL:QE 302 [] rM:=qe κ
def go:QE 303 [] wA:=qe κ
def QU:cB.C 304=some AQ:=by kernel_rfl
def QV:cB.E 304=none:=by kernel_rfl
theorem PD:Ck 304 [[],aF,aF]:=zk κ
def BS:Cm 304 []:=zo κ
def aij:Gq 304:=BP BS
def DX:Cn 304 true:=zp κ
def QW:cB.C 305=some AR:=by kernel_rfl
def QX:cB.E 305=none:=by kernel_rfl
theorem PE:Ck 305 [[],aF,aF]:=zk κ
def BT:Cm 305 []:=zo κ
def aik:Gq 305:=BP BT
def DY:Cn 305 true:=zp κ
def dL:QE 306 [] qA:=qe κ
def wG:QE 307 [[aR],[aR]] mB:=qe κ
def Yl:QE 308 [[aR],[]] El:=qe κ
def QY:QE 309 [aL,[]] gr:=qe κ
def Tc:QE 310 [[a9,aR],[]] nD:=qe κ
def Mu:QE 311 [[a9,aR]] wC:=qe κ
def Ym:QE 312 [[a9,aR],[],[]] ij:=qe κ
def ada:QE 313 [] Hz:=qe κ
def Yn:QE 314 [[aR],[]] Ak:=qe κ
def U5:QE 315 [[aR],[]] yz:=qe κ
def U6:QE 316 [] Dq:=qe κ
def Mv:QE 317 [[a9,aR],[a9,aR],[]] wD:=qe κ
def Es:QE 318 [[a9,aR],[a9,aR]] tr:=qe κ
def adb:QE 319 [aL,[]] Dr:=qe κ
def PF:QE 320 [[a9,aR],[a9,aR]] nZ:=qe κ
def Ng:QE 321 [[a9,aR]] xV:=qe κ
def Yo:QE 322 [[aR],[aR]] Al:=qe κ
def Yp:QE 323 [[],[aR],[]] qS:=qe κ
def Yq:QE 325 [[aR],[aR]] Em:=qe κ
def dU:QE 326 [[.o 2 [aR]],[]] n9:=qe κ
def ag5:QE 327 [] Jq:=qe κ
def Td:QE 328 [[aR],[]] BN:=qe κ
def J4:QE 329 [] tN:=qe κ
def Te:QE 330 [] wE:=qe κ
def U7:cB.C 331=some Ds:=by kernel_rfl
def U8:cB.E 331=none:=by kernel_rfl
def Tf:Ck 331 [[aR],[aR],[]]:=zk κ
def U9:Cm 331 [1,0,0]:=zo κ
def Gu:Cn 331 false:=zp κ
def aax:QE 332 [] F8:=qe κ
def QZ:QE 333 [[a9,aR],[]] AS:=qe κ
def Q0:QE 334 [] AT:=qe κ
def aay:QE 335 [] F9:=qe κ
def asz:QL 336 []:=ql κ
def aaz:QE 337 [] Ga:=qe κ
def aaA:QE 338 [] Gb:=qe κ
def Tg:QE 339 [] BO:=qe κ
def lX:QE 340 [[a9,aR],[]] oT:=qe κ
def Nh:cB.C 341=some xX:=by kernel_rfl
def Ni:cB.E 341=none:=by kernel_rfl
def ail:Ck 341 [[a9,aR]]:=zk κ
def FB:Cm 341 []:=zo κ
def adL:Gq 341:=BP FB
def Co:Cn 341 true:=zp κ
attribute [go_sem] aD0 aIa aIr aIs HC aKx acR acS acT acU Pq aIL XQ acV aLI UE UF aH1 aJw zu XR aIt aHU aHM aIu bg aHF aGV aKc aGx cX ayp dj aHl aGD aJx aGo Qw JW UG UH IN Qx aIv aGW aIC aGB XS Z3 agU Z4 UI agV UJ agW UK acW UM Z5 Z6 UN Nb Qy UO Z7 Qz agX Me bw alL HD aih DU UP JX K3 UQ Z8 aoL Pt QC aKd XT SQ adJ Dv acr Ax Pu HE Z9 XU aml IQ aja Fz agY aI4 aIw aH2 aI5 aHx aT cH cR Mp alM HF aii DV UR Pw ajb Gr agZ Dw SU HG aHX amm IR ajc FA acX aaa AU aV bE acY QG K6 SX XV SY aab aac acs aad SZ tv xp Nc tw xr adK Dx act Ay Nd En XX wF yA Mr S0 HI QH XY QI aI6 aIx aIy QJ cJ JY X1 aaf X3 X4 aI7 aJy K9 ag0 DW acZ Bg aag aah QK US rD iG iT hH Jr oV pT nM X5 aai Ap AY nN aaj aak P4 DP X6 X7 QM aal X8 S1 X9 mD ac0 QN aam Ya Eo ac2 Pz BQ aao QO aap QP QQ Az Yb QR UV J0 bT Nf GG S6 aI8 aJz aJA La Lc Le Lf S7 Yc aaq aar aas aat Yd ac5 UW UX UY UZ Ye U0 U1 S8 S9 Yf U2 aau Ep jQ fX Ta ac6 Yg BR ac7 aav ag2 Lg PA Yh U3 J1 HJ QS aI9 aJa aIz Bh Gt QT Yi U4 J2 J3 ac8 Yj Yk ag3 ac9 aaw eY HK HL It vo aje pU ag4 Dy bL go PD BS aij DX PE BT aik DY dL wG Yl QY Tc Mu Ym ada Yn U5 U6 Mv Es adb PF Ng Yo Yp Yq dU ag5 Td J4 Te Tf U9 Gu aax QZ Q0 aay asz aaz aaA Tg lX ail FB adL Co
attribute [go_sem_proc ↓] reduceIte
attribute [go_sem_proc] Nat.reduceEqDiff Nat.reduceMul Nat.reduceAdd Nat.reduceLeDiff Nat.reduceLT Nat.reduceBEq
end Go.Ab
