/-
  A law of ranges holds at every input that the statement speaks of, under the conditions that its card names. Part A1.
-/
import GoSem.Core.Code
import GoSem.Core.View
import GoSem.Core.Program
import GoSem.Core.Region
import Derived.Calls
import Derived.Laws.World
import Derived.Laws.Sem
import Derived.Below
import Derived.Laws.Slices
import Derived.Laws.Entries
import Derived.Laws.Cells
import Derived.Laws.CopyRow
import Derived.Laws.AppendOwn
import Derived.Orders
import Derived.LoopN
set_option linter.all false
namespace Go.Ab
open Go
inductive AV where
 |any
 |und
 |v (x:Value)
 |emp
 |sl (k:Nat) (rows:List (List AV))
 |osl (k:Nat) (rows:List (List AV))
 |obx (cs:List AV)
 |agg (cs:List AV)
 |tup (vs:List AV)
 |ref (id:Nat) (sub:Option Nat) (k i j:Nat)
 |rsl (id:Nat) (sub:Option Nat) (k lo n:Nat)
 |rsc (id k lo n c:Nat)
 |ipt (cs:List AV)
 |fn (f:FuncId) (first cap:List AV)
 deriving Inhabited
abbrev I(n:Int):AV:=.v (.int .i64 n)
abbrev U(n:Int):AV:=.v (.int .u32 n)
abbrev W(n:Int):AV:=.v (.int .u64 n)
abbrev B(b:Bool):AV:=.v (.bool b)
abbrev S(x:ByteArray):AV:=.v (.string x)
inductive Ob where
 |dead
 |bx (cs:List AV)
 |ar (k:Nat) (rows:List (List AV))
 |fz (k:Nat) (rows:List (List AV))
 deriving Inhabited
abbrev af:=Nat->AV
abbrev ac:=Nat->Ob
def upd{α:Type}(s:Nat->α)(d:Nat)(x:α):Nat->α:=fun i=>if i=d then x else s i
theorem ed{α:Type}(s:Nat->α)(d:Nat)(x:α)(i:Nat):upd s d x i=if i=d then x else s i:=_root_.id rfl
structure St where
 s:af
 h:ac
inductive Opd where
 |t (n:Nat)
 |c (a:AV)
inductive POp where
 |mv (x:Opd)
 |pick (c a b:Opd)
 |nilck (x:Opd)
 |nilq (neq:Bool) (x:Opd)
 |bin (op:BinOp) (x y:Opd)
 |un (op:UnOp) (x:Opd)
 |cv (k:IntKind) (x:Opd)
 |cv0 (x:Opd)
 |slc (k:Nat) (x:Opd) (lo hi mx:Option Opd)
 |slcS (x:Opd) (lo hi:Option Opd)
 |fadr (off:Nat) (x:Opd)
 |fld (off k:Nat) (agg:Bool) (x:Opd)
 |iadrS (k:Nat) (x i:Opd)
 |iadrA (n k:Nat) (x i:Opd)
 |idxS (x i:Opd)
 |idxA (n k:Nat) (agg:Bool) (x i:Opd)
 |ext (i:Nat) (x:Opd)
 |len (str:Bool) (x:Opd)
 |eqc (neq:Bool) (tc:Nat) (x y:Opd)
 |capp (x:Opd)
 |mnx (isMin:Bool) (x:Opd) (ys:List Opd)
 |build (zero:List AV) (parts:List (Nat×Nat×Opd))
 |mkF (f:FuncId) (first cap:List Opd)
inductive AOp where
 |p (op:POp)
 |alloc (zero:List AV)
 |box (k:Nat) (x:Opd)
 |buildSl (k:Nat) (zero:List AV) (n:Nat) (parts:List (Nat×Opd))
 |mkSl (k:Nat) (zero:List AV) (bytes:Nat) (l c:Opd)
 |load (k:Nat) (agg:Bool) (x:Opd)
 |store (k:Nat) (x y:Opd)
 |app (k bytes:Nat) (x y:Opd)
 |cpy (k:Nat) (x y:Opd)
 |slcM (k:Nat) (x:Opd) (lo hi:Option Opd)
 |clr (k:Nat) (zero:List AV) (x:Opd)
 |appz (k bytes:Nat) (zero:List AV) (x n:Opd)
 |take (x:Opd)
 |call (f:Opd) (args:List Opd)
 |callC (f:Opd) (args:List Opd)
 |bad
structure COp where
 d:Option Nat
 g:Option (Nat×Bool)
 op:AOp
inductive Cmd where
 |skip
 |ops (ks:List Nat) (l:List COp)
 |dops (ks:List Nat) (l:List COp) (ps:List (Nat×Nat))
 |seq (a b:Cmd)
 |cond (c:Opd) (a b:Cmd)
 |block (id:Nat) (ks:List Nat) (a:Cmd)
 |loop (ks hs:List Nat) (a:Cmd)
 |exit (id:Nat)
 |ret
 |frz (is:List Nat) (a:Cmd)
inductive Ex where
 |normal|exit (id:Nat)|ret
inductive Rv where
 |t (n:Nat)
 |cell (n k:Nat) (agg:Bool)
abbrev ef:=FuncId->List AV->List Ob->Option (AV×List Ob)
def ev(s:af):Opd->AV
 | .t n=>s n
 | .c a=>a
def evo(s:af):Option Opd->Option AV
 |none=>none
 |some x=>some (ev s x)
def fC:AV->Option (List AV)
 | .agg cs=>some cs
 | .any| .und| .tup _| .osl _ _| .obx _=>none
 |a=>some [a]
def setRow(row:List AV)(j:Nat):List AV->List AV
 |[]=>row
 |c::cs=>setRow (row.set j c) (j+1) cs
def Ej(c a b:AV):Option AV:=match c with
 | .v (.bool t)=>some (if t then a else b)
 |_=>none
def CI:AV->Option AV
 | .ref id sub k i j=>some (.ref id sub k i j)
 | .ipt cs=>some (.ipt cs)
 | .fn f a b=>some (.fn f a b)
 |_=>none
def oL(op:BinOp)(k:IntKind)(a b:Int):Option Value:=match op with
 | .add=>some (.int k (k.wrap (a+b)))
 | .sub=>some (.int k (k.wrap (a-b)))
 | .mul=>some (.int k (k.wrap (a*b)))
 | .quo=>if b=0 then none else some (.int k (k.wrap (a.tdiv b)))
 | .rem=>if b=0 then none else some (.int k (a.tmod b))
 | .and=>some (.int k (k.wrap ((BitVec.ofInt k.bits a&&&BitVec.ofInt k.bits b).toNat)))
 | .or=>some (.int k (k.wrap ((BitVec.ofInt k.bits a|||BitVec.ofInt k.bits b).toNat)))
 | .xor=>some (.int k (k.wrap ((BitVec.ofInt k.bits a^^^BitVec.ofInt k.bits b).toNat)))
 | .andNot=>some (.int k (k.wrap ((BitVec.ofInt k.bits a&&& ~~~BitVec.ofInt k.bits b).toNat)))
 | .lss=>some (.bool (decide (a<b)))
 | .leq=>some (.bool (decide (a<=b)))
 | .gtr=>some (.bool (decide (a>b)))
 | .geq=>some (.bool (decide (a≥b)))
 | .eql=>some (.bool (a==b))
 | .neq=>some (.bool (a !=b))
 |_=>none
def Yw(k:IntKind)(a b:Int):Option Value:=if b<0 then none else some (.int k (k.wrap (a*2^ (min b.toNat k.bits))))
def Yx(k:IntKind)(a b:Int):Option Value:=if b<0 then none else some (.int k (a.fdiv (2^ (min b.toNat k.bits))))
def acZ(op:BinOp)(a b:ByteArray):Option Value:=match op with
 | .add=>if((a.size+b.size:Nat):Int)>IntKind.i64.max then none else some (.string (a++b))
 | .eql=>some (.bool (a.toList==b.toList))
 | .neq=>some (.bool (!(a.toList==b.toList)))
 |_=>none
def ip(op:BinOp):Value->Value->Option Value
 | .int k a,.int k' b=>match op with
  | .shl=>Yw k a b
  | .shr=>Yx k a b
  |op=>if k=k' then oL op k a b else none
 | .string a,.string b=>acZ op a b
 |_,_=>none
def cO(op:BinOp):AV->AV->Option AV
 | .v a,.v b=>(ip op a b).map .v
 |_,_=>none
def M7(n:Bool)(tc:Nat):AV->AV->Option AV
 | .v (.bool a),.v (.bool b)=>if tc=0 then some (B (n != (a==b)))else none
 | .ref _ _ _ _ _,.v (.pointer none)=>if tc=1 then some (B n)else none
 | .v (.pointer none),.v (.pointer none)=>if tc=1 then some (B (!n))else none
 | .fn _ _ _,.v .nilFunc=>if tc=2 then some (B n)else none
 | .v .nilFunc,.v .nilFunc=>if tc=2 then some (B (!n))else none
 |_,_=>none
def Ek(n:Bool):AV->Option AV
 | .sl _ (_::_)=>some (B n)
 | .rsl _ _ _ _ m=>if 0<m then some (B n)else none
 |_=>none
def M8(op:UnOp):AV->Option AV
 | .v (.int k n)=>match op with
  | .neg=>some (.v (.int k (k.wrap (0-n))))
  | .xor=>some (.v (.int k (k.wrap ((BitVec.ofInt k.bits (if k.signed then-1 else k.max)^^^BitVec.ofInt k.bits n).toNat))))
  |_=>none
 | .v (.bool b)=>match op with
  | .not=>some (B (!b))
  |_=>none
 |_=>none
def VO(k:IntKind):AV->Option AV
 | .v (.int _ n)=>some (.v (.int k (k.wrap n)))
 |_=>none
def Tu:AV->Option AV
 | .v (.string x)=>some (.v (.string x))
 |_=>none
def lB(d:Nat)(n:Nat):Option AV->Option Nat
 |none=>some d
 |some (.v (.int _ i))=>if 0<=i/\i<=n then some i.toNat else none
 |_=>none
def nO(n:Nat)(lo hi mx:Option AV):Option (Nat×Nat):=
 match mx with
 |none=>(lB n n hi).bind fun h=>(lB 0 h lo).bind fun l=>some (l,h)
 |some m=>(lB n n (some m)).bind fun m=>match hi with
  |none=>none
  |some hi=>(lB n m (some hi)).bind fun h=>(lB 0 h lo).bind fun l=>some (l,h)
def CJ:Option AV->Bool
 |some (.v (.int _ 0))=>true
 |_=>false
def M9(k id l0 n c:Nat):Option AV->Option AV->Option AV->Option AV
 |none,some hi,none=>(lB n c (some hi)).map fun r=>.rsc id k l0 r c
 |some lo,hi,none=>(nO n (some lo) hi none).map fun p=>.rsl id none k (l0+p.1) (p.2-p.1)
 |_,_,_=>none
def gh(k:Nat)(x:AV)(lo hi mx:Option AV):Option AV:=match x with
 | .emp=>(nO 0 lo hi mx).map fun _=>.emp
 | .sl k' rows=>if k'=k then(nO rows.length lo hi mx).map fun p=>(if CJ mx then .emp else .sl k ((rows.drop p.1).take (p.2-p.1)))else none
 | .rsl id sub k' l0 n=>if k'=k then(nO n lo hi mx).map fun p=>(if mx.isNone then .rsl id sub k (l0+p.1) (p.2-p.1)else .any)else none
 | .rsc id k' l0 n c=>if k'=k then M9 k id l0 n c lo hi mx else none
 |_=>none
def ML(x:AV)(lo hi:Option AV):Option AV:=match x with
 | .v (.string b)=>(nO b.size lo hi none).map fun p=>.v (.string (b.extract p.1 p.2))
 |_=>none
def uU(off:Nat):AV->Option AV
 | .ref id sub k i j=>some (.ref id sub k i (j+off))
 | .ipt cs=>some (.ipt (cs.drop off))
 |_=>none
def jR(k:Nat)(agg:Bool)(cs:List AV)(off:Nat):Option AV:=
 if agg then(if off+k<=cs.length then some (.agg ((cs.drop off).take k))else none)else cs[off]?
def Na(off k:Nat)(agg:Bool):AV->Option AV
 | .agg cs=>jR k agg cs off
 |_=>none
def aV(rows:List (List AV))(i:Int):Option AV:=if 0<=i then(rows[i.toNat]?).map .ipt else none
def qN(k:Nat):AV->AV->Option AV
 | .sl k' rows,.v (.int _ i)=>if k'=k then aV rows i else none
 | .rsl id sub k' lo n,.v (.int _ i)=>if k'=k then(if 0<=i/\i<n then some (.ref id sub k (lo+i.toNat) 0)else none)else none
 |_,_=>none
def Ap(n k:Nat):AV->AV->Option AV
 | .ref id sub k' a j,.v (.int _ i)=>if 0<=i/\i<n then some (.ref id sub k' a (j+i.toNat*k))else none
 | .ipt cs,.v (.int _ i)=>if 0<=i/\i<n then some (.ipt (cs.drop (i.toNat*k)))else none
 |_,_=>none
def El:AV->AV->Option AV
 | .v (.string b),.v (.int _ i)=>if 0<=i then(b[i.toNat]?).map fun x=>.v (.int .u8 x.toNat)else none
 |_,_=>none
def Em(n k:Nat)(agg:Bool):AV->AV->Option AV
 | .agg cs,.v (.int _ i)=>if 0<=i/\i<n then jR k agg cs (i.toNat*k)else none
 |_,_=>none
def Nb(i:Nat):AV->Option AV
 | .tup vs=>vs[i]?
 |_=>none
def lC(str:Bool):AV->Option AV
 | .sl _ rows=>if str then none else some (I rows.length)
 | .emp=>if str then none else some (I 0)
 | .rsl _ _ _ _ n=>if str then none else some (I n)
 | .rsc _ _ _ n _=>if str then none else some (I n)
 | .v (.string b)=>if str then some (I b.size)else none
 |_=>none
def Nc:AV->Option AV
 | .emp=>some (I 0)
 | .rsc _ _ _ _ c=>some (I c)
 |_=>none
def Ji(isMin:Bool):AV->AV->Option AV
 | .v (.int k x),.v (.int _ y)=>some (.v (.int k (if isMin then(if y<x then y else x)else(if x<y then y else x))))
 |_,_=>none
def zK(isMin:Bool):AV->List AV->Option AV
 |a,[]=>some a
 |a,b::l=>(Ji isMin a b).bind fun c=>zK isMin c l
def sw(zero:List AV):List (Nat×Nat×AV)->Option (List AV)
 |[]=>some zero
 | (off,k,a)::ps=>(fC a).bind fun cs=>if cs.length=k/\off+k<=zero.length then sw (setRow zero off cs) ps else none
def eO(s:af):POp->Option AV
 | .mv x=>some (ev s x)
 | .pick c a b=>Ej (ev s c) (ev s a) (ev s b)
 | .nilck x=>CI (ev s x)
 | .nilq n x=>Ek n (ev s x)
 | .bin op x y=>cO op (ev s x) (ev s y)
 | .un op x=>M8 op (ev s x)
 | .cv k x=>VO k (ev s x)
 | .cv0 x=>Tu (ev s x)
 | .slc k x lo hi mx=>gh k (ev s x) (evo s lo) (evo s hi) (evo s mx)
 | .slcS x lo hi=>ML (ev s x) (evo s lo) (evo s hi)
 | .fadr off x=>uU off (ev s x)
 | .fld off k g x=>Na off k g (ev s x)
 | .iadrS k x i=>qN k (ev s x) (ev s i)
 | .iadrA n k x i=>Ap n k (ev s x) (ev s i)
 | .idxS x i=>El (ev s x) (ev s i)
 | .idxA n k g x i=>Em n k g (ev s x) (ev s i)
 | .ext i x=>Nb i (ev s x)
 | .len m x=>lC m (ev s x)
 | .eqc m t x y=>M7 m t (ev s x) (ev s y)
 | .capp x=>Nc (ev s x)
 | .mnx m x ys=>zK m (ev s x) (ys.map (ev s))
 | .build z ps=>(sw z (ps.map fun p=>(p.1,p.2.1,ev s p.2.2))).map .agg
 | .mkF f a b=>some (.fn f (a.map (ev s)) (b.map (ev s)))
def aB:AV->Bool
 | .any| .v _| .emp| .sl _ _=>true
 | .fn _ a b=>a.isEmpty&&b.isEmpty
 |_=>false
def dat:AV->Bool
 | .agg cs=>cs.all aB
 |a=>aB a
def gS(K:List (Nat×Bool))(id:Nat)(sub:Option Nat):Bool:=K.any fun p=>p.1==id&& (!p.2||sub.isSome)
def me(K:List (Nat×Bool)):AV->Bool
 | .ref id sub _ _ _=>gS K id sub
 | .rsl id sub _ _ _=>gS K id sub
 | .rsc id _ _ _ _=>gS K id none
 | .fn _ a b=>!(a.isEmpty&&b.isEmpty)
 | .agg _| .tup _| .osl _ _| .obx _=>true
 |_=>false
def zL(K:List (Nat×Bool)):AV->Bool
 | .agg cs=>cs.any (me K)
 | .fn _ a b=>a.any (me K)||b.any (me K)
 |a=>me K a
def RU(K:List (Nat×Bool)):AV->Bool
 | .tup vs=>vs.any (zL K)
 |a=>zL K a
def nY(K:List (Nat×Bool))(a:AV):AV:=if RU K a then .any else a
def gJ(K:List (Nat×Bool))(s:af):af:=match K with
 |[]=>s
 |K=>fun i=>nY K (s i)
inductive Sh where
 |o (k:Nat) (cs:List Sh)
 deriving Inhabited
mutual
def nrmL:Sh->AV->AV
 | .o 0 _,a=>a
 | .o (k+1) _,.emp=>.sl k []
 | .o (_+1) cs,.sl k' rows=>.sl k' (rows.map (dB cs))
 | .o (_+1) cs,.osl k' rows=>.sl k' (rows.map (dB cs))
 | .o (_+1) _,a=>a
def dB:List Sh->List AV->List AV
 |s::ss,a::l=>nrmL s a::dB ss l
 |_,l=>l
end
def nrmV(ss:List Sh):AV->AV
 | .agg cs=>.agg (dB ss cs)
 |a=>nrmL (ss.headD (.o 0 [])) a
def bv:List (List Sh)->List AV->List AV
 |s::ss,a::l=>nrmV s a::bv ss l
 |_,l=>l
structure FD where
 np:Nat
 rs:List (List Sh)
 res:List Rv
 body:Cmd
abbrev K:=List (Nat×Bool)
def aQ(id:Nat):Bool:=decide (1000<=id/\id<2000)
abbrev R3:=AV×ac×K
def iJ:AV->AV
 | .osl k r=>.sl k r
 |a=>a
def aW:AV->Bool
 | .osl _ _=>true
 |_=>false
def ap1(c:AV):Bool:=aW c||aB c
def nP(k lo n:Nat)(rows:List (List AV)):AV:=.sl k ((rows.drop lo).take n)
def pC(cs:List AV):List (List AV):=cs.map fun c=>[iJ c]
def mf(h:ac)(id k lo n:Nat):Ob->Option R3
 | .ar k' rows=>if k'=k/\lo+n<=rows.length then some (nP k lo n rows,upd h id (.fz k rows),[])else none
 | .fz k' rows=>if k'=k/\lo+n<=rows.length then some (nP k lo n rows,h,[])else none
 | .bx cs=>if k=1/\lo+n<=cs.length/\cs.all ap1=true then some (nP 1 lo n (pC cs),upd h id (.fz 1 (pC cs)),[(id,true)])else none
 | .dead=>none
def Yy(h:ac)(id p k lo n:Nat)(cs:List AV):Option AV->Option R3
 |some (.osl k' rows)=>if k'=k/\lo+n<=rows.length then some (nP k lo n rows,upd h id (.bx (cs.set p (.sl k' rows))),[(id,true)])else none
 |_=>none
def CK(h:ac)(id p k lo n:Nat):Ob->Option R3
 | .bx cs=>Yy h id p k lo n cs cs[p]?
 |_=>none
def gL(h:ac):AV->Option R3
 | .rsl id none k lo n=>mf h id k lo n (h id)
 | .rsl id (some p) k lo n=>CK h id p k lo n (h id)
 |a=>if aB a then some (a,h,[])else none
def fV(h:ac):List AV->Option (List AV×ac×K)
 |[]=>some ([],h,[])
 |a::l=>(gL h a).bind fun p=>(fV p.2.1 l).bind fun q=>some (p.1::q.1,q.2.1,p.2.2++q.2.2)
def vA(h:ac):AV->Option R3
 | .agg cs=>(fV h cs).bind fun p=>some (.agg p.1,p.2)
 |a=>gL h a
def vB:Ob->Option (Nat×List (List AV))
 | .ar k rows=>some (k,rows)
 | .fz k rows=>some (k,rows)
 |_=>none
def ub:Option AV->Option (Nat×List (List AV))
 |some (.osl k rows)=>some (k,rows)
 |_=>none
def jl(p:Nat):Ob->Option (Nat×List (List AV))
 | .bx cs=>ub cs[p]?
 |_=>none
def vC(h:ac)(id:Nat):Option Nat->Option (Nat×List (List AV))
 |none=>vB (h id)
 |some p=>jl p (h id)
def uV(id p:Nat):AV->AV
 | .osl k rows=>.rsl id (some p) k 0 rows.length
 |a=>a
def Bj(h:ac)(id p k:Nat)(agg:Bool)(cs:List AV):Option R3:=
 if agg then
  (if p+k<=cs.length then
   (if((cs.drop p).take k).any aW then some (.agg (((cs.map iJ).drop p).take k),upd h id (.bx (cs.map iJ)),[(id,true)])
    else some (.agg ((cs.drop p).take k),h,[]))
   else none)
 else(cs[p]?).map fun c=>(uV id p c,h,[])
def lh(h:ac)(k:Nat)(agg:Bool)(k0 i j:Nat):Option (Nat×List (List AV))->Option R3
 |some (k',rows)=>if k'=k0 then(rows[i]?).bind fun row=>(jR k agg row j).map fun a=>(a,h,[])else none
 |none=>none
def uW(h:ac)(k:Nat)(agg:Bool)(id k0 i j:Nat):Ob->Option R3
 | .bx cs=>Bj h id (i*k0+j) k agg cs
 | .ar k' rows=>lh h k agg k0 i j (some (k',rows))
 | .fz k' rows=>lh h k agg k0 i j (some (k',rows))
 | .dead=>none
def fW(h:ac)(k:Nat)(agg:Bool):AV->Option R3
 | .ipt cs=>(jR k agg cs 0).map fun a=>(a,h,[])
 | .ref id none k0 i j=>uW h k agg id k0 i j (h id)
 | .ref id (some p) k0 i j=>lh h k agg k0 i j (jl p (h id))
 |_=>none
def K3(h:ac)(id k lo n:Nat):Ob->Option R3
 | .ar k' rows=>if k'=k then(if lo=0/\n=rows.length then some (.osl k rows,upd h id .dead,[(id,false)])else if lo=0/\n<=rows.length then some (.osl k (rows.take n),upd h id .dead,[(id,false)])else mf h id k lo n (.ar k' rows))else none
 |o=>mf h id k lo n o
def inP(h:ac)(a:AV):Ob->Option R3
 | .bx _=>some (a,h,[])
 |_=>none
def Ch(h:ac)(a:AV):Option R3:=match a with
 | .rsl id none k lo n=>K3 h id k lo n (h id)
 | .rsl id (some p) k lo n=>CK h id p k lo n (h id)
 | .ref id none _ _ _=>inP h a (h id)
 | .fn _ x y=>if x.all aB&&y.all aB then some (a,h,[])else none
 |a=>if aB a then some (a,h,[])else none
def F6(h:ac)(id p:Nat)(x:AV)(ks:K):Ob->Option (ac×K)
 | .bx cs=>if p<cs.length then some (upd h id (.bx (cs.set p x)),ks++(if(cs[p]?).any aW then [(id,true)]else []))else none
 |_=>none
def wN(ks:K)(xs:List AV):List AV:=match ks with
 |[]=>xs
 |ks=>xs.map (nY ks)
def mU(h:ac)(id p:Nat):Nat->List AV->Option (ac×K)
 |_,[]=>some (h,[])
 |0,_=>none
 |n+1,x::xs=>(Ch h x).bind fun r=>(F6 r.2.1 id p r.1 r.2.2 (r.2.1 id)).bind fun q=>(mU q.1 id (p+1) n (wN q.2 xs)).bind fun t=>some (t.1,q.2++t.2)
def nQ(k k0 i j:Nat)(cs:List AV)(k':Nat)(rows:List (List AV)):Option (List (List AV)):=
 if k'=k0 then(rows[i]?).bind fun row=>if j+k<=row.length then some (rows.set i (setRow row j cs))else none else none
def Tv(h:ac)(id p k k0 i j:Nat)(xs cs:List AV)(ks:K):Option AV->Option R3
 |some (.osl k' rows)=>(nQ k k0 i j xs k' rows).map fun q=>(.und,upd h id (.bx (cs.set p (.osl k' q))),ks)
 |_=>none
def Jj(h:ac)(id p k:Nat)(xs cs:List AV):Option R3:=
 if p+k<=cs.length then
  (if xs.all aB then some (.und,upd h id (.bx (setRow cs p xs)),if((cs.drop p).take k).any aW then [(id,true)]else [])
   else(mU h id p xs.length xs).map fun q=>(.und,q.1,q.2))
 else none
def Jk(h:ac)(id k k0 i j:Nat)(xs:List AV)(ks:K):Ob->Option R3
 | .ar k' rows=>(nQ k k0 i j xs k' rows).map fun q=>(.und,upd h id (.ar k' q),ks)
 |_=>none
def zM(h:ac)(k id k0 i j:Nat)(xs:List AV):Ob->Option R3
 | .bx cs=>Jj h id (i*k0+j) k xs cs
 | .ar _ _=>(fV h xs).bind fun q=>Jk q.2.1 id k k0 i j q.1 q.2.2 (q.2.1 id)
 |_=>none
def Bk(h:ac)(k id p k0 i j:Nat)(xs:List AV)(ks:K):Ob->Option R3
 | .bx cs=>Tv h id p k k0 i j xs cs ks cs[p]?
 |_=>none
def iQ(h:ac)(k:Nat)(a x:AV):Option R3:=(fC x).bind fun xs=>
 if xs.length=k then match a with
  | .ref id none k0 i j=>zM h k id k0 i j xs (h id)
  | .ref id (some p) k0 i j=>(fV h xs).bind fun q=>Bk q.2.1 k id p k0 i j q.1 q.2.2 (q.2.1 id)
  |_=>none
 else none
def xx(h:ac)(d:Nat)(a:AV)(o:Ob)(ks:K):Ob->Option R3
 | .dead=>some (a,upd h d o,ks)
 |_=>none
def jt(h:ac)(d:Nat)(cs:List AV)(ks:K):Option R3:=xx h d (.ref d none 0 0 0) (.bx cs) ks (h d)
def F7(id p:Nat)(xs:List AV)(r:R3):Option R3:=(mU r.2.1 id p xs.length xs).map fun q=>(r.1,q.1,r.2.2++q.2)
def aq2(h:ac)(d:Nat)(k:Nat)(x:AV):Option R3:=(fC x).bind fun xs=>if xs.length=k then
 (if xs.all aB then jt h d xs []else(jt h d (List.replicate k .any) []).bind (F7 d 0 xs))else none
def dA(h:ac)(d k:Nat)(rows:List (List AV))(n:Nat)(ks:K):Option R3:=xx h d (.rsl d none k 0 n) (.ar k rows) ks (h d)
def eW(k:Nat)(h:ac)(rows:List (List AV)):List (Nat×AV)->Option (List (List AV)×ac×K)
 |[]=>some (rows,h,[])
 | (i,a)::ps=>(fC a).bind fun cs=>if cs.length=k/\i<rows.length then(fV h cs).bind fun q=>(eW k q.2.1 (rows.set i q.1) ps).bind fun r=>some (r.1,r.2.1,q.2.2++r.2.2)else none
def pD(l c:AV):Option (Nat×Nat):=match l,c with
 | .v (.int .i64 l),.v (.int .i64 c)=>if 0<=l/\l<=c/\c<9223372036854775808 then some (l.toNat,c.toNat)else none
 |_,_=>none
def gx(k lo n:Nat):Option (Nat×List (List AV))->Option (List (List AV))
 |some (k',rows)=>if k'=k/\lo+n<=rows.length then some ((rows.drop lo).take n)else none
 |none=>none
def pE(h:ac)(k:Nat):AV->Option (List (List AV))
 | .emp=>some []
 | .sl k' rows=>if k'=k then some rows else none
 | .rsl id sub k' lo n=>if k'=k then gx k lo n (vC h id sub)else none
 |_=>none
def Yz(h:ac)(d k bytes id k' lo n:Nat)(ys:List (List AV))(k0:Nat)(rows:List (List AV)):Option R3:=
 if k0=k/\k'=k/\lo+n+ys.length<=rows.length then some (.rsl id none k lo (n+ys.length),upd h id (.ar k (rows.take (lo+n)++ys++rows.drop (lo+n+ys.length))),[])
 else if k0=k/\k'=k/\lo=0/\n=rows.length/\(n+ys.length)*bytes<=140737488355328 then dA (upd h id .dead) d k (rows++ys) (n+ys.length) [(id,false)]
 else none
def Nd(h:ac)(d k bytes id k' lo n:Nat)(ys:List (List AV)):Ob->Option R3
 | .ar k0 rows=>if k0=k/\k'=k/\lo=0/\n=rows.length/\(id<1000\/2000<=id)/\(n+ys.length)*bytes<=140737488355328 then
   some (.rsl id none k 0 (n+ys.length),upd h id (.ar k (rows++ys)),[(id,false)])else Yz h d k bytes id k' lo n ys k0 rows
 |_=>none
def ac1(h:ac)(d k bytes id p k' lo n:Nat)(ys:List (List AV))(cs:List AV):Option AV->Option R3
 |some (.osl k0 rows)=>if k0=k/\k'=k/\lo=0/\n=rows.length/\(n+ys.length)*bytes<=140737488355328 then
   dA (upd h id (.bx (cs.set p .any))) d k (rows++ys) (n+ys.length) [(id,true)]else none
 |_=>none
def YA(h:ac)(d k bytes id p k' lo n:Nat)(ys:List (List AV)):Ob->Option R3
 | .bx cs=>ac1 h d k bytes id p k' lo n ys cs cs[p]?
 |_=>none
def Nf(h:ac)(d k:Nat):List (List AV)->Option R3
 |[]=>some (.emp,h,[])
 |y::ys=>dA h d k (y::ys) (ys.length+1) []
def Jl(h:ac)(d k bytes:Nat)(x y:AV):Option R3:=(pE h k y).bind fun ys=>match x with
 | .emp=>if ys.length*bytes<=140737488355328 then Nf h d k ys else none
 | .rsl id none k' lo n=>Nd h d k bytes id k' lo n ys (h id)
 | .rsl id (some p) k' lo n=>YA h d k bytes id p k' lo n ys (h id)
 |_=>none
def Ng(m:Nat):AV->AV
 | .sl k rows=>.sl k (rows.take m)
 | .rsl id sub k lo n=>.rsl id sub k lo (min m n)
 |a=>a
def Nh:AV->Option Nat
 | .emp=>some 0
 | .sl _ rows=>some rows.length
 | .rsl _ _ _ _ n=>some n
 |_=>none
def Ni(h:ac)(id k k' lo n l:Nat)(ys:List (List AV)):Ob->Option R3
 | .ar k0 rows=>if k0=k/\k'=k/\lo<=rows.length/\ys.length=min l n then some (.v (.int .i64 ys.length),upd h id (.ar k (rows.take lo++ys++rows.drop (lo+ys.length))),[])else none
 |_=>none
def Jm(h:ac)(k:Nat)(x y:AV):Option R3:=match x with
 | .rsl id none k' lo n=>(Nh y).bind fun l=>(pE h k (Ng n y)).bind fun ys=>Ni h id k k' lo n l ys (h id)
 |_=>none
def He(h:ac)(k id l0:Nat)(lo hi:Option AV):Ob->Option R3
 | .ar k0 rows=>if k0=k/\hi.isSome=true/\l0<=rows.length then(nO (rows.length-l0) lo hi none).map fun p=>(.rsl id none k (l0+p.1) (p.2-p.1),h,[])else none
 |_=>none
def En(h:ac)(k:Nat)(x:AV)(lo hi:Option AV):Option R3:=match x with
 | .rsl id none k' l0 _=>if k'=k then He h k id l0 lo hi (h id)else none
 |_=>none
def Nj(h:ac)(k id lo n:Nat)(z:List AV):Ob->Option R3
 | .ar k0 rows=>if k0=k/\lo+n<=rows.length then some (.tup [],upd h id (.ar k (rows.take lo++List.replicate n z++rows.drop (lo+n))),[])else none
 |_=>none
def Jn(h:ac)(k:Nat)(z:List AV)(x:AV):Option R3:=match x with
 | .rsl id none k' lo n=>if k'=k then Nj h k id lo n z (h id)else none
 |_=>none
def Hf(h:ac)(d k bytes _id i m:Nat)(z:List AV):Ob->Option R3
 | .ar k0 rows=>if k0=k/\i<=rows.length/\(i+m)*bytes<=140737488355328 then dA h d k (rows.take i++List.replicate m z) (i+m) []else none
 |_=>none
def Eo(h:ac)(d k bytes:Nat)(z:List AV)(x n:AV):Option R3:=match x,n with
 | .emp,.v (.int .i64 c)=>if 0<c/\c.toNat*bytes<=140737488355328 then dA h d k (List.replicate c.toNat z) c.toNat []else none
 | .rsc id k' lo i c,.v (.int .i64 m)=>if k'=k/\lo=0/\0<m/\c<i+m.toNat then Hf h d k bytes id i m.toNat z (h id)else none
 |_,_=>none
def Ep(h:ac)(d id p:Nat)(cs:List AV):Option AV->Option R3
 |some (.osl k rows)=>dA (upd h id (.bx (cs.set p .any))) d k rows rows.length [(id,true)]
 |some .emp=>some (.emp,h,[])
 |_=>none
def MM(h:ac)(d id p:Nat):Ob->Option R3
 | .bx cs=>Ep h d id p cs cs[p]?
 |_=>none
def Hg(h:ac)(d:Nat)(x:AV):Option R3:=match x with
 | .ref id none k0 i j=>MM h d id (i*k0+j) (h id)
 |_=>none
structure Mode where
 m:FuncId->List Nat
 sh:FuncId->List (List Sh)
 keep:FuncId->Bool
 nm:Bool
def aiL:Ob->Bool
 | .ar _ _=>true
 |_=>false
def de(h:ac)(m:Nat)(a:AV):Option R3:=match a with
 | .rsl id none _ _ _=>if m=0 then gL h a else if m=1||aiL (h id)then some (a,h,[])else none
 | .ref _ none _ _ _=>some (a,h,[])
 | .ipt _=>some (a,h,[])
 | .fn _ _ _=>some (a,h,[])
 |a=>vA h a
def cr(h:ac):List Nat->List AV->Option (List AV×ac×K)
 |_,[]=>some ([],h,[])
 |ms,a::l=>(de h (ms.headD 0) a).bind fun p=>(cr p.2.1 ms.tail l).bind fun q=>some (p.1::q.1,q.2.1,p.2.2++q.2.2)
def iq:AV->List Nat
 | .ref id _ _ _ _=>[id]
 | .rsl id _ _ _ _=>[id]
 |_=>[]
def cj:AV->List Nat
 | .agg cs=>cs.flatMap iq
 | .fn _ a b=>a.flatMap iq++b.flatMap iq
 |a=>iq a
def bV(l:List Nat):List Nat->List Nat
 |[]=>l
 |a::r=>bV (if l.contains a then l else l++[a]) r
def mh:Ob->List Nat
 | .bx cs=>cs.flatMap cj
 |_=>[]
def cq(h:ac):Nat->List Nat->Nat->List Nat
 |0,l,_=>l
 |n+1,l,i=>match l[i]? with
  |none=>l
  |some a=>cq h n (bV l (mh (h a))) (i+1)
def bq(l:List Nat)(a:Nat):Nat:=1000+l.idxOf a
def lD(g:Nat->Nat):AV->AV
 | .ref id sub k i j=>.ref (g id) sub k i j
 | .rsl id sub k i j=>.rsl (g id) sub k i j
 |a=>a
def ey(g:Nat->Nat):AV->AV
 | .agg cs=>.agg (cs.map (lD g))
 | .fn f a b=>.fn f (a.map (lD g)) (b.map (lD g))
 |a=>lD g a
def Nk(g:Nat->Nat):AV->AV
 | .tup vs=>.tup (vs.map (ey g))
 |a=>ey g a
def dp(g:Nat->Nat):Ob->Ob
 | .bx cs=>.bx (cs.map (ey g))
 |o=>o
def bm(l:List Nat):AV->Bool
 | .ref id sub _ _ _=>l.contains id&&sub.isNone
 | .rsl id sub _ _ _=>l.contains id&&sub.isNone
 | .rsc _ _ _ _ _=>false
 | .fn _ a b=>a.isEmpty&&b.isEmpty
 | .agg _| .tup _| .osl _ _| .obx _=>false
 |_=>true
def aZ(l:List Nat):AV->Bool
 | .agg cs=>cs.all (bm l)
 | .fn _ a b=>a.all (bm l)&&b.all (bm l)
 |a=>bm l a
def gy(l:List Nat)(c:AV):Bool:=aW c||aZ l c
def aO(l:List Nat):Ob->Bool
 | .bx cs=>cs.all (gy l)
 |_=>true
def ao(hs:List Ob):ac:=fun i=>if 1000<=i then(hs[i-1000]?).getD .dead else .dead
def dq(n:Nat)(h:ac):AV->AV×ac
 | .osl k rows=>(.rsl n none k 0 rows.length,upd h n (.ar k rows))
 | .obx cs=>(.ref n none 0 0 0,upd h n (.bx cs))
 |a=>(a,h)
def bO(n:Nat)(h:ac):List AV->List AV×ac
 |[]=>([],h)
 |a::l=>((dq n h a).1::(bO (n+1) (dq n h a).2 l).1,(bO (n+1) (dq n h a).2 l).2)
def mat(n:Nat)(h:ac):AV->AV×ac
 | .tup vs=>(.tup (bO n h vs).1,(bO n h vs).2)
 |a=>dq n h a
def uX:List Nat->List AV->K
 |_,[]=>[]
 |ms,a::l=>(if ms.headD 0=2 then(iq a).map (·,false)else [])++uX ms.tail l
def aqL(h:ac):K->ac
 |[]=>h
 |p::l=>aqL (upd h p.1 .dead) l
def cY:Ob->Bool
 | .dead=>true
 |_=>false
def dK(h:ac)(n:Nat):Nat->Bool
 |0=>true
 |m+1=>cY (h n)&&dK h (n+1) m
def cP:AV->Nat
 | .tup vs=>vs.length
 |_=>1
def bf:Ob->Bool
 | .bx _=>true
 | .fz _ _=>true
 |_=>false
def fw(h:ac)(gv:K):List Nat->List Ob->Bool
 |a::l,o::r=>(!bf (h a)||bf o)&& (gv.any (·.1==a)||!cY o)&&fw h gv l r
 |_,_=>true
def cu(n:Nat):List Nat:=List.range' 1000 n
def Nl(h:ac)(gv:K):Bool:=gv.all fun p=>!bf (h p.1)
def gj(l:List Nat):AV->Bool
 | .osl _ _=>true
 | .obx cs=>cs.all ap1
 |c=>aZ l c
def apL(l:List Nat):AV->Bool
 | .tup vs=>vs.all (gj l)
 |c=>gj l c
def cX(ids:List Nat)(i:Nat):Nat:=if i<2000 then ids.getD (i-1000) 0 else i
def eM(h:ac)(ids:List Nat):List Nat->List Ob->ac
 |a::l,o::r=>eM (upd h a (dp (cX ids) o)) ids l r
 |_,_=>h
def Hh(ids:List Nat)(gv:K):List Nat:=match gv with
 |[]=>cu ids.length
 |gv=>(cu ids.length).filter fun i=>!gv.any fun p=>p.1==cX ids i
def yO(h:ac)(ids:List Nat)(gv:K)(r:AV×List Ob):Bool:=Nl h gv&& (apL (Hh ids gv) r.1&&r.2.all (aO (Hh ids gv)))
def gz(kp:Bool)(h:ac)(d:Nat)(ids:List Nat)(ks gv:K)(r:AV×List Ob):Option R3:=
 if r.2.length=ids.length/\ids.length<=1000/\cP r.1<=8/\dK h (2000+8*d) (cP r.1)=true/\fw h gv ids r.2=true/\yO h ids gv r=true then
  some (Nk (cX ids) (mat (2000+8*d) (aqL (eM h ids ids r.2) gv) r.1).1,(mat (2000+8*d) (aqL (eM h ids ids r.2) gv) r.1).2,ks++((if kp then []else ids.map (·,true))++gv))
 else none
def mj(call:ef)(md:Mode)(h:ac)(d:Nat)(f:FuncId)(ids:List Nat)(args:List AV)(ks:K):Option R3:=
 if args.all (aZ ids)&& (ids.all fun a=>aO ids (h a)&&!cY (h a))then
  (call f (args.map (ey (bq ids))) (ids.map fun a=>dp (bq ids) (h a))).bind (gz (md.keep f) h d ids ks (uX (md.m f) args))
 else none
def eP(call:ef)(md:Mode)(h:ac)(d:Nat)(args:List AV):AV->Option R3
 | .fn f a b=>(cr h (md.m f) (a++args++b)).bind fun p=>mj call md p.2.1 d f (cq p.2.1 40 (bV [] (p.1.flatMap cj)) 0) (bv (md.sh f) p.1) p.2.2
 |_=>none
def YB(h:ac):AV->Option AV
 | .rsl id sub k lo n=>(gx k lo n (vC h id sub)).map (.sl k)
 | .v x=>some (.v x)
 | .emp=>some .emp
 | .sl k r=>some (.sl k r)
 | .fn f [] []=>some (.fn f [] [])
 |_=>none
def Nm(h:ac):List AV->Option (List AV)
 |[]=>some []
 |a::l=>(YB h a).bind fun b=>(Nm h l).bind fun q=>some (b::q)
def sx:AV->Bool
 | .v _=>true
 |_=>false
def CL:AV->Bool
 | .tup vs=>vs.all sx
 |a=>sx a
def YC(h:ac):AV×List Ob->Option R3
 | (r,[])=>if CL r=true then some (r,h,[])else none
 |_=>none
def Tw:AV->Bool
 | .rsl _ _ _ _ _=>false
 | .rsc _ _ _ _ _=>false
 |_=>true
def sy(md:Mode)(args:List AV):AV->Bool
 | .fn f a b=>(md.m f).contains 3&& (a++args++b).any fun x=>!Tw x
 |_=>false
def MN(call:ef)(md:Mode)(h:ac)(args:List AV):AV->Option R3
 | .fn f a b=>(Nm h (a++args++b)).bind fun zas=>(call f (bv (md.sh f) zas) []).bind (YC h)
 |_=>none
def bI(call:ef)(md:Mode)(h:ac)(d:Nat)(args:List AV)(f:AV):Option R3:=if sy md args f=true then MN call md h args f else eP call md h d args f
def sz(d:Nat)(r:R3):Option R3:=match r.1 with
 | .rsl id none k lo n=>if id=2000+8*d then(gL r.2.1 (.rsl id none k lo n)).map fun q=>(q.1,q.2.1,r.2.2++q.2.2)else none
 |_=>some r
def xz(h:ac)(x:Option AV):Option R3:=x.map fun a=>(a,h,[])
def step(call:ef)(md:Mode)(d:Nat)(op:AOp)(s:af)(h:ac):Option R3:=
 match op with
 | .p op=>xz h (eO s op)
 | .alloc z=>jt h d z []
 | .box k x=>aq2 h d k (ev s x)
 | .buildSl k z n ps=>(eW k h (List.replicate n z) (ps.map fun p=>(p.1,ev s p.2))).bind fun q=>dA q.2.1 d k q.1 n q.2.2
 | .mkSl k z b l c=>(pD (ev s l) (ev s c)).bind fun p=>
  if p.2*b<=140737488355328 then dA h d k (List.replicate p.1 z) p.1 []else none
 | .load k g x=>fW h k g (ev s x)
 | .store k x y=>iQ h k (ev s x) (ev s y)
 | .app k b x y=>Jl h d k b (ev s x) (ev s y)
 | .cpy k x y=>Jm h k (ev s x) (ev s y)
 | .slcM k x lo hi=>En h k (ev s x) (evo s lo) (evo s hi)
 | .clr k z x=>Jn h k z (ev s x)
 | .appz k b z x n=>Eo h d k b z (ev s x) (ev s n)
 | .take x=>Hg h d (ev s x)
 | .call f args=>bI call md h d (args.map (ev s)) (ev s f)
 | .callC f args=>(bI call md h d (args.map (ev s)) (ev s f)).bind (sz d)
 | .bad=>none
def dY(s:af)(d:Option Nat)(x:AV):af:=match d with
 |some d=>upd s d x
 |none=>s
def mn(nm:Bool)(ks:K):Bool:=!nm||ks.all fun p=>!aQ p.1
def aqv(nm:Bool)(s:af)(d:Option Nat)(r:Option R3):Option St:=match r with
 |some (x,h,ks)=>if mn nm ks then some ⟨dY (gJ ks s) d x,h⟩else none
 |none=>none
def aqQ(d:Option Nat)(want:Bool)(st:Option St)(s:af)(h:ac):AV->Option St
 | .v (.bool b)=>if b=want then st else some ⟨dY s d .und,h⟩
 | .und=>some ⟨dY s d .und,h⟩
 |_=>none
def iZ(call:ef)(md:Mode)(o:COp)(s:af)(h:ac):Option St:=match o.g with
 |none=>aqv md.nm s o.d (step call md (o.d.getD 0) o.op s h)
 |some g=>aqQ o.d g.2 (aqv md.nm s o.d (step call md (o.d.getD 0) o.op s h)) s h (s g.1)
def aT{β:Type}(x:Option St)(f:af->ac->Option β):Option β:=match x with
 |none=>none
 |some t=>f t.s t.h
def aC(call:ef)(md:Mode):List COp->af->ac->Option St
 |[],s,h=>some ⟨s,h⟩
 |o::rest,s,h=>aT (iZ call md o s h) (aC call md rest)
def fE:Opd->List Nat
 | .t n=>[n]
 | .c _=>[]
def lj(l:List Opd):List Nat:=l.flatMap fE
def Hi:POp->List Nat
 | .mv x| .nilck x| .nilq _ x| .un _ x| .cv _ x| .cv0 x| .fadr _ x| .fld _ _ _ x| .ext _ x| .len _ x| .capp x=>fE x
 | .pick c a b=>fE c++(fE a++fE b)
 | .bin _ x y| .eqc _ _ x y| .iadrS _ x y| .iadrA _ _ x y| .idxS x y| .idxA _ _ _ x y=>fE x++fE y
 | .mnx _ x ys=>fE x++lj ys
 | .slc _ x lo hi mx=>fE x++(lj lo.toList++(lj hi.toList++lj mx.toList))
 | .slcS x lo hi=>fE x++(lj lo.toList++lj hi.toList)
 | .build _ ps=>ps.flatMap fun p=>fE p.2.2
 | .mkF _ a b=>lj a++lj b
def Hj:AOp->List Nat
 | .p op=>Hi op
 | .alloc _=>[]
 | .box _ x=>fE x
 | .buildSl _ _ _ ps=>ps.flatMap fun p=>fE p.2
 | .mkSl _ _ _ l c=>fE l++fE c
 | .load _ _ x=>fE x
 | .store _ x y=>fE x++fE y
 | .app _ _ x y=>fE x++fE y
 | .cpy _ x y=>fE x++fE y
 | .slcM _ x lo hi=>fE x++(lj lo.toList++lj hi.toList)
 | .clr _ _ x=>fE x
 | .appz _ _ _ x n=>fE x++fE n
 | .take x=>fE x
 | .call f args=>fE f++lj args
 | .callC f args=>fE f++lj args
 | .bad=>[]
def iR(o:COp):List Nat:=(match o.g with|some g=>[g.1]|none=>[])++Hj o.op
def wO(a b:COp):Bool:=
 (match a.d with|some d=>!(iR b).contains d|none=>true)&& (match b.d with|some d=>!(iR a).contains d|none=>true)&&
 (match a.d,b.d with|some x,some y=>x !=y|_,_=>true)
abbrev Fp:=Option (List Nat×List Nat)
def cJ(i:Nat):Nat:=if i<2000 then i else i-i%8
def mV:AV->Bool
 | .rsl _ _ _ _ _=>false
 | .rsc _ _ _ _ _=>false
 |_=>true
def sA:AV->Bool
 | .agg cs=>cs.all mV
 | .fn _ a b=>a.all mV&&b.all mV
 |a=>mV a
def oM:AV->Fp
 | .ipt _=>some ([],[])
 | .ref id _ _ _ _=>some ([cJ id],[])
 |_=>none
def uY(y:AV):AV->Fp
 | .ref id _ _ _ _=>if dat y then some ([cJ id],[cJ id])else none
 |_=>none
def Nn:Value->Value->Bool
 | .int k a,.int k' b=>decide (k=k')&&decide (a=b)
 | .bool a,.bool b=>a==b
 | .string a,.string b=>decide (a.data.toList=b.data.toList)
 | .pointer none,.pointer none=>true
 | .nilFunc,.nilFunc=>true
 |_,_=>false
mutual
def No:AV->AV->Bool
 | .any,.any=>true
 | .und,.und=>true
 | .emp,.emp=>true
 | .v a,.v b=>Nn a b
 | .sl k r,.sl k' r'=>decide (k=k')&&Ci r r'
 | .osl k r,.osl k' r'=>decide (k=k')&&Ci r r'
 | .obx c,.obx c'=>tM c c'
 | .agg c,.agg c'=>tM c c'
 | .ref a b c d e,.ref a' b' c' d' e'=>decide (a=a'/\b=b'/\c=c'/\d=d'/\e=e')
 | .rsl a b c d e,.rsl a' b' c' d' e'=>decide (a=a'/\b=b'/\c=c'/\d=d'/\e=e')
 | .ipt c,.ipt c'=>tM c c'
 | .fn f a b,.fn f' a' b'=>decide (f=f')&& (tM a a'&&tM b b')
 |_,_=>false
def tM:List AV->List AV->Bool
 |[],[]=>true
 |a::l,b::r=>No a b&&tM l r
 |_,_=>false
def Ci:List (List AV)->List (List AV)->Bool
 |[],[]=>true
 |a::l,b::r=>tM a b&&Ci l r
 |_,_=>false
end
def Er:Ob->Ob->Bool
 | .dead,.dead=>true
 | .bx c,.bx c'=>tM c c'
 | .ar k r,.ar k' r'=>decide (k=k')&&Ci r r'
 | .fz k r,.fz k' r'=>decide (k=k')&&Ci r r'
 |_,_=>false
def CM(h h':ac)(ids:List Nat):List Nat:=ids.filter fun a=>!Er (h a) (h' a)
def gk(h:ac)(d:Nat)(l:List AV)(h':ac):Fp:=
 if l.all dat then some ([],[2000+8*d])
 else if l.all sA then some ((cq h 40 (bV [] (l.flatMap cj)) 0).map cJ,(CM h h' (cq h 40 (bV [] (l.flatMap cj)) 0)).map cJ++[2000+8*d])
 else none
def kj(l:List AV):AV->List AV
 | .fn _ a b=>a++l++b
 |_=>l
def CN(d:Nat)(_h:ac)(l:List AV):Fp:=if l.all dat then some ([],[2000+8*d])else none
def fM(d:Nat)(op:AOp)(s:af)(h h':ac):Fp:=match op with
 | .p _=>some ([],[])
 | .alloc _=>some ([],[cJ d])
 | .box _ x=>if dat (ev s x)then some ([],[cJ d])else none
 | .buildSl _ _ _ ps=>if ps.all fun p=>dat (ev s p.2)then some ([],[cJ d])else none
 | .mkSl _ _ _ _ _=>some ([],[cJ d])
 | .load _ _ x=>oM (ev s x)
 | .store _ x y=>uY (ev s y) (ev s x)
 | .app _ _ _ _=>none
 | .cpy _ _ _=>none
 | .slcM _ _ _ _=>none
 | .clr _ _ _=>none
 | .appz _ _ _ _ _=>none
 | .take _=>none
 | .call f args=>gk h d (kj (args.map (ev s)) (ev s f)) h'
 | .callC f args=>CN d h (kj (args.map (ev s)) (ev s f))
 | .bad=>none
def vZ(a b:List Nat):Bool:=a.all fun x=>!b.contains x
def j6:Fp->Fp->Bool
 |none,none=>false
 |none,some b=>b.1.isEmpty&&b.2.isEmpty
 |some a,none=>a.1.isEmpty&&a.2.isEmpty
 |some a,some b=>vZ a.2 (b.1++b.2)&&vZ b.2 a.1
def jS(s:af)(d:Option Nat)(f:ac->Fp)(r:Option R3):Option (St×Fp):=match r with
 |some (x,h,[])=>some (⟨dY s d x,h⟩,f h)
 |_=>none
def mo(d:Option Nat)(want:Bool)(st:Option (St×Fp))(s:af)(h:ac):AV->Option (St×Fp)
 | .v (.bool b)=>if b=want then st else some (⟨dY s d .und,h⟩,some ([],[]))
 | .und=>some (⟨dY s d .und,h⟩,some ([],[]))
 |_=>none
def df(call:ef)(md:Mode)(o:COp)(s:af)(h:ac):Option (St×Fp):=match o.g with
 |none=>jS s o.d (fM (o.d.getD 0) o.op s h) (step call md (o.d.getD 0) o.op s h)
 |some g=>mo o.d g.2 (jS s o.d (fM (o.d.getD 0) o.op s h) (step call md (o.d.getD 0) o.op s h)) s h (s g.1)
def fF(call:ef)(md:Mode):List COp->af->ac->Option (St×List Fp)
 |[],s,h=>some (⟨s,h⟩,[])
 |o::rest,s,h=>(df call md o s h).bind fun r=>(fF call md rest r.1.s r.1.h).bind fun q=>some (q.1,r.2::q.2)
def isP:AOp->Bool
 | .p _=>true
 |_=>false
def Np:AOp->Bool
 | .load _ _ _=>true
 |_=>false
def rQ(l:List Fp)(p:Nat×Nat):Bool:=match l[p.1]?,l[p.2]? with
 |some a,some b=>j6 a b
 |_,_=>false
def vD(call:ef)(md:Mode)(l:List COp)(ps:List (Nat×Nat))(s:af)(h:ac):Option St:=
 (fF call md l s h).bind fun r=>if ps.all (rQ r.2)then some r.1 else none
def Hk(i:Nat)(s:af)(h:ac)(id p k lo n:Nat)(cs:List AV):Option AV->Option (af×ac×K)
 |some (.osl k' rows)=>if k'=k/\lo=0/\n=rows.length/\cY (h i)=true then
   some (upd (gJ [(id,true)] s) i (.rsl i none k 0 n),upd (upd h id (.bx (cs.set p .any))) i (.ar k rows),[(id,true)])else none
 |_=>none
def RW(i:Nat)(s:af)(h:ac)(id p k lo n:Nat):Ob->Option (af×ac×K)
 | .bx cs=>Hk i s h id p k lo n cs cs[p]?
 |_=>none
def K4(i:Nat)(s:af)(h:ac):AV->Option (af×ac×K)
 | .rsl id (some p) k lo n=>if aQ i=false then RW i s h id p k lo n (h id)else none
 | .emp=>some (s,h,[])
 |_=>none
def nZ(nm:Bool)(g:Nat)(s:af)(h:ac):Option St:=match g with
 |0=>some ⟨s,h⟩
 |i+1=>(K4 i s h (s i)).bind fun r=>if mn nm r.2.2 then some ⟨r.1,r.2.1⟩else none
def Bl(call:ef)(md:Mode)(l:List COp)(m g:Nat)(ps:List (Nat×Nat))(s:af)(h:ac):Option St:=
 (fF call md (l.take m) s h).bind fun r=>if ps.all (rQ r.2)then aT (nZ md.nm g r.1.s r.1.h) (aC call md (l.drop m))else none
def uZ:List (Nat×Nat)->Option (Nat×Nat)
 | (p,g)::_=>if 1000000<=p then some (p-1000000,g)else none
 |[]=>none
def mq(call:ef)(md:Mode)(l:List COp)(ps:List (Nat×Nat))(s:af)(h:ac):Option St:=match uZ ps with
 |some q=>Bl call md l q.1 q.2 ps.tail s h
 |none=>vD call md l ps s h
def mk{α:Type}(d:α)(f:Nat->α):List Nat->Nat->α
 |[]=>fun _=>d
 |i::l=>upd (mk d f l) i (f i)
def knownL(l:List Nat):AV->Bool
 | .ref id _ _ _ _=>l.contains id
 | .rsl id _ _ _ _=>l.contains id
 | .rsc _ _ _ _ _=>false
 | .fn _ a b=>a.isEmpty&&b.isEmpty
 | .agg _| .tup _| .osl _ _| .obx _=>false
 |_=>true
def knownA(l:List Nat):AV->Bool
 | .agg cs=>cs.all (knownL l)
 | .fn _ a b=>a.all (knownL l)&&b.all (knownL l)
 |a=>knownL l a
def eN(hs:List Nat)(a:AV):AV:=if knownA hs a then a else .any
def nR(body:af->ac->Option (Ex×St))(ks hs:List Nat):Nat->af->ac->Option (Ex×St)
 |0,_,_=>none
 |n+1,s,h=>if hs.all fun a=>aO hs (h a)then(match body (mk .any (fun i=>eN hs (s i)) ks) (mk .dead h hs)with
  |some (.normal,t)=>nR body ks hs n t.s t.h
  |r=>r)else none
def bL(x:Option (Ex×St))(f:af->ac->Option (Ex×St)):Option (Ex×St):=match x with
 |none=>none
 |some (.normal,t)=>f t.s t.h
 |some (.exit i,t)=>some (.exit i,t)
 |some (.ret,t)=>some (.ret,t)
def CO(i:Nat)(s:af)(h:ac):AV->Option (af×ac×K)
 | .rsl id sub k lo n=>(gL h (.rsl id sub k lo n)).map fun r=>(upd (gJ r.2.2 s) i r.1,r.2.1,r.2.2)
 | .ref id none _ _ _=>match h id with
  | .bx cs=>some (gJ [(id,true)] s,upd h id (.bx (cs.map iJ)),[(id,true)])
  |_=>none
 | .sl _ _=>some (s,h,[])
 |_=>none
def Es(h:ac):AV->ac
 | .rsl id none _ lo n=>match h id with
  | .ar k rows=>upd h id (.ar k (rows.take (lo+n)))
  |_=>h
 |_=>h
def CP(i:Nat)(s:af)(h:ac)(id k lo n:Nat):Ob->Option (af×ac×K)
 | .ar k' rows=>if k'=k/\lo=0/\aQ i=false/\cY (h i)=true then
   some (upd (gJ [(id,false)] s) i (.rsl i none k 0 n),upd (upd h id .dead) i (.ar k rows),[(id,false)])else none
 |_=>none
def Jo(i:Nat)(s:af)(h:ac):AV->Option (af×ac×K)
 | .rsl id none k lo n=>CP i s h id k lo n (h id)
 | .rsc id k lo n _=>CP i s h id k lo n (h id)
 | .emp=>some (s,h,[])
 |_=>none
def ud(nm:Bool):List Nat->af->ac->Option St
 |[],s,h=>some ⟨s,h⟩
 |i::l,s,h=>if 200000<=i then(Jo (i-200000) s h (s (i-200000))).bind fun r=>if mn nm r.2.2 then ud nm l r.1 r.2.1 else none else if 100000<=i then ud nm l s (Es h (s (i-100000)))else(CO i s h (s i)).bind fun r=>if mn nm r.2.2 then ud nm l r.1 r.2.1 else none
def am(id:Nat)(ks:List Nat):Option (Ex×St)->Option (Ex×St)
 |none=>none
 |some (.normal,t)=>some (.normal,⟨mk .any t.s ks,t.h⟩)
 |some (.exit i,t)=>if i=id then some (.normal,⟨mk .any t.s ks,t.h⟩)else some (.exit i,t)
 |some (.ret,t)=>some (.ret,t)
def mr(a b:Option (Ex×St)):AV->Option (Ex×St)
 | .v (.bool t)=>if t then a else b
 |_=>none
def bF(call:ef)(md:Mode)(lf:Nat):Cmd->af->ac->Option (Ex×St)
 | .skip,s,h=>some (.normal,⟨s,h⟩)
 | .ops ks l,s,h=>aT (aC call md l s h) fun s h=>some (.normal,⟨mk .any s ks,h⟩)
 | .dops ks l ps,s,h=>aT (mq call md l ps s h) fun s h=>some (.normal,⟨mk .any s ks,h⟩)
 | .seq a b,s,h=>bL (bF call md lf a s h) (bF call md lf b)
 | .cond c a b,s,h=>mr (bF call md lf a s h) (bF call md lf b s h) (ev s c)
 | .block id ks a,s,h=>am id ks (bF call md lf a s h)
 | .loop ks hs a,s,h=>nR (bF call md lf a) ks hs lf s h
 | .exit id,s,h=>some (.exit id,⟨s,h⟩)
 | .ret,s,h=>some (.ret,⟨s,h⟩)
 | .frz is a,s,h=>aT (ud md.nm is s h) (bF call md lf a)
def zN(k lo n:Nat):Ob->Option AV
 | .ar k' rows=>if k'=k/\lo+n<=rows.length then(if lo=0/\n=rows.length then some (.osl k rows)else some (nP k lo n rows))else none
 | .fz k' rows=>if k'=k/\lo+n<=rows.length then some (nP k lo n rows)else none
 | .bx cs=>if k=1/\lo+n<=cs.length/\cs.all ap1=true then some (nP 1 lo n (pC cs))else none
 | .dead=>none
def Tx:Ob->Option AV
 | .bx cs=>if cs.all ap1 then some (.obx cs)else none
 |_=>none
def ac3(k lo n:Nat):Option (Nat×List (List AV))->Option AV
 |some (k',rows)=>if k'=k/\lo+n<=rows.length then some (nP k lo n rows)else none
 |none=>none
def jZ(h:ac)(a:AV):Option AV:=match a with
 | .rsl id none k lo n=>if aQ id then none else zN k lo n (h id)
 | .rsl id (some p) k lo n=>if aQ id then none else ac3 k lo n (jl p (h id))
 | .ref id none k i j=>if aQ id then some a else if k=0/\i=0/\j=0 then Tx (h id)else none
 |a=>if aB a then some a else none
def v9:AV->Option AV
 | .osl k rows=>some (.sl k rows)
 |a=>if aB a then some a else none
def i7(h:ac):List AV->Option (List AV)
 |[]=>some []
 |a::l=>(jZ h a).bind fun b=>(v9 b).bind fun c=>(i7 h l).bind fun q=>some (c::q)
def oN(h:ac):AV->Option AV
 | .agg cs=>(i7 h cs).map .agg
 |a=>jZ h a
def u9(h:ac):List AV->Option (List AV)
 |[]=>some []
 |a::l=>(oN h a).bind fun b=>(u9 h l).bind fun q=>some (b::q)
def kl:List Nat->Bool
 |[]=>true
 |a::l=>!l.contains a&&kl l
def yP:List AV->AV
 |[a]=>a
 |l=>.tup l
def Nq(ks:K)(a:AV):AV:=match ks with
 |[]=>a
 |ks=>nY ks a
def ac4(s:af)(h:ac):Rv->Option R3
 | .t n=>some (s n,h,[])
 | .cell n k g=>fW h k g (s n)
def ve(s:af)(h:ac):List Rv->Option (List AV×ac×K)
 |[]=>some ([],h,[])
 |r::l=>(ac4 s h r).bind fun p=>(ve (gJ p.2.2 s) p.2.1 l).bind fun q=>some (Nq q.2.2 p.1::q.1,q.2.1,p.2.2++q.2.2)
def zO(rs:List (List Sh))(n:Nat)(h:ac)(vs:List AV):Option (AV×List Ob):=
 if kl ((vs.flatMap cj).filter fun i=>!aQ i)&& ((cu n).all fun i=>aO (cu n) (h i))then(u9 h vs).map fun us=>(yP (bv rs us),(cu n).map h)else none
def xA(nm:Bool)(rs:List (List Sh))(res:List Rv)(n:Nat)(s:af)(h:ac):Option (AV×List Ob):=(ve s h res).bind fun q=>if mn nm q.2.2 then zO rs n q.2.1 q.1 else none
def gM(nm:Bool)(rs:List (List Sh))(res:List Rv)(n:Nat):Option (Ex×St)->Option (AV×List Ob)
 |some (.normal,t)=>xA nm rs res n t.s t.h
 |some (.ret,t)=>xA nm rs res n t.s t.h
 |_=>none
def oO(args:List AV):af:=fun i=>(args[i]?).getD .any
def CQ(call:ef)(md:Mode)(lf:Nat)(fd:FD)(args:List AV)(hs:List Ob):Option (AV×List Ob):=
 if args.length=fd.np/\hs.length<=1000 then gM md.nm fd.rs fd.res hs.length (bF call md lf fd.body (oO args) (ao hs))else none
structure Env where
 E:FuncId->Option (List AV->List Ob->Option (AV×List Ob))
 C:FuncId->Option FD
 md:Mode
def iK(e:Env):Nat->ef
 |0=>fun _ _ _=>none
 |n+1=>fun f args hs=>match e.E f with
  |some g=>g args hs
  |none=>(e.C f).bind fun fd=>CQ (iK e n) {e.md with nm:=e.md.keep f} n fd args hs
def Nr:Value->Option AV
 | .slice none 0 0=>some .emp
 | .bool b=>some (.v (.bool b))
 | .int k n=>some (.v (.int k n))
 | .string s=>some (.v (.string s))
 | .pointer none=>some (.v (.pointer none))
 | .nilFunc=>some (.v .nilFunc)
 | .nilIface=>some (.v .nilIface)
 | .map none=>some (.v (.map none))
 |_=>none
def CR:List Value->Option (List AV)
 |[]=>some []
 |v::l=>(Nr v).bind fun a=>(CR l).bind fun q=>some (a::q)
def bG:Operand->Option Opd
 | .tmp t=>some (.t t)
 | .const v=>(Nr v).map .c
 | .func f=>some (.c (.fn f [] []))
 | .global _=>some (.c .any)
def mu:List Operand->Option (List Opd)
 |[]=>some []
 |v::l=>(bG v).bind fun a=>(mu l).bind fun q=>some (a::q)
def yQ:Option Operand->Option (Option Opd)
 |none=>some none
 |some x=>(bG x).map some
def nS(P:Program)(t:TypeId):Option Bool:=match P.underlying t with
 |some (.struct _)=>some true
 |some (.array _ _)=>some true
 |some _=>some false
 |none=>none
def bo(P:Program)(t:TypeId):Option Nat:=(P.info? t).map (·.size)
def mW(P:Program)(t:TypeId):Option Nat:=(P.info? t).map (·.bytes)
def iD(P:Program)(t:TypeId):Option (List AV):=(P.info? t).bind fun i=>i.zero.bind fun z=>if z.cells.size=i.size then CR z.cells.toList else none
def qZ(P:Program)(t:TypeId):Option TypeId:=match P.underlying t with
 |some (.slice e)=>some e
 |_=>none
def Aq(P:Program)(t:TypeId)(f:Nat):Option Field:=match P.underlying t with
 |some (.struct fs)=>fs[f]?
 |_=>none
def CS:BinOp->Option Bool
 | .eql=>some false
 | .neq=>some true
 |_=>none
def ac5(P:Program)(op:BinOp)(t:TypeId)(x y:Opd):Option POp:=match P.underlying t with
 |some .bool=>(CS op).map fun n=>.eqc n 0 x y
 |some (.pointer _)=>(CS op).map fun n=>.eqc n 1 x y
 |some (.func _ _ _)=>(CS op).map fun n=>.eqc n 2 x y
 |some (.int _)=>some (.bin op x y)
 |some .string=>some (.bin op x y)
 |some (.slice _)=>(match y with| .c .emp=>(CS op).map fun n=>.nilq n x|_=>none)
 |_=>none
def aaC(P:Program)(src dst:TypeId)(x:Opd):Option POp:=match P.underlying src,P.underlying dst with
 |some (.int _),some (.int k)=>some (.cv k x)
 |some .string,some .string=>some (.cv0 x)
 |_,_=>none
def VP(P:Program)(t:TypeId)(x:Opd)(lo hi mx:Option Opd):Option POp:=match P.underlying t with
 |some (.slice e)=>(bo P e).map fun k=>.slc k x lo hi mx
 |some .string=>match mx with
  |none=>some (.slcS x lo hi)
  |some _=>none
 |_=>none
def aaD(P:Program)(t:TypeId)(x i:Opd):Option POp:=match P.underlying t with
 |some (.slice e)=>(bo P e).map fun k=>.iadrS k x i
 |some (.array n e)=>(bo P e).map fun k=>.iadrA n k x i
 |_=>none
def ac6(P:Program)(t:TypeId)(x i:Opd):Option POp:=match P.underlying t with
 |some .string=>some (.idxS x i)
 |some (.array n e)=>(bo P e).bind fun k=>(nS P e).map fun g=>.idxA n k g x i
 |_=>none
def ac7(P:Program)(t:TypeId)(x:Opd):Option POp:=match P.underlying t with
 |some (.slice _)=>some (.len false x)
 |some .string=>some (.len true x)
 |some (.array n _)=>some (.mv (.c (I n)))
 |_=>none
def ac8(P:Program)(t:TypeId)(x:Opd):Option POp:=match P.underlying t with
 |some (.slice _)=>some (.capp x)
 |_=>none
def xB(P:Program)(fs:Nat->Option (Nat×Nat)):List (Nat×Operand)->Option (List (Nat×Nat×Opd))
 |[]=>some []
 | (i,x)::l=>(fs i).bind fun p=>(bG x).bind fun a=>(xB P fs l).bind fun q=>some ((p.1,p.2,a)::q)
def Ar:List (Nat×Operand)->Option (List (Nat×Opd))
 |[]=>some []
 | (i,x)::l=>(bG x).bind fun a=>(Ar l).bind fun q=>some ((i,a)::q)
def Et(P:Program)(fs:Array Field)(i:Nat):Option (Nat×Nat):=(fs[i]?).bind fun f=>(bo P f.type).map fun k=>(f.offset,k)
def Ns(P:Program)(t:TypeId)(ps:List (Nat×Operand)):Option POp:=(iD P t).bind fun z=>match P.underlying t with
 |some (.struct fs)=>if fs.all (fun f=>(bo P f.type).isSome)then(xB P (Et P fs) ps).map fun q=>.build z q else none
 |some (.array _ e)=>(bo P e).bind fun k=>(xB P (fun i=>some (i*k,k)) ps).map fun q=>.build z q
 |_=>none
def Eu(P:Program)(t:TypeId)(n:Nat)(ps:List (Nat×Operand)):Option AOp:=(qZ P t).bind fun e=>(bo P e).bind fun k=>
 if n*k<=16777216/\0<k then(iD P e).bind fun z=>(Ar ps).map fun q=>.buildSl k z n q else none
def MO(P:Program)(t:TypeId)(l c:Opd):Option AOp:=(qZ P t).bind fun e=>(bo P e).bind fun k=>(mW P e).bind fun b=>
 if 0<k then(iD P e).map fun z=>.mkSl k z b l c else none
def Ty(P:Program)(u:TypeId):Bool:=match P.underlying u with
 |some (.int .i64)=>true
 |_=>false
def MP(P:Program)(t:TypeId)(x y:Operand):Option AOp:=(qZ P t).bind fun e=>(bo P e).bind fun k=>(mW P e).bind fun b=>(bG x).bind fun x=>(bG y).bind fun y=>
  (iD P e).bind fun z=>if 0<k/\0<b then some (.appz k b z x y)else none
def Tz(P:Program)(ts:List TypeId)(zas:List Operand):Option AOp:=match ts,zas with
 |[t,u],[x,y]=>if Ty P u=true then MP P t x y else(qZ P t).bind fun e=>(qZ P u).bind fun _=>(bo P e).bind fun k=>(mW P e).bind fun b=>(bG x).bind fun x=>(bG y).bind fun y=>
  if 0<k/\0<b/\(iD P e).isSome=true then some (.app k b x y)else none
 |_,_=>none
def MQ(P:Program)(ts:List TypeId)(zas:List Operand):Option AOp:=match ts,zas with
 |[t,_],[x,y]=>(qZ P t).bind fun e=>(bo P e).bind fun k=>(bG x).bind fun x=>(bG y).bind fun y=>if 0<k then some (.cpy k x y)else none
 |_,_=>none
def Hl(P:Program)(ts:List TypeId)(zas:List Operand):Option AOp:=match ts,zas with
 |[t],[x]=>(qZ P t).bind fun e=>(bo P e).bind fun k=>(bG x).bind fun x=>(iD P e).bind fun z=>if 0<k then some (.clr k z x)else none
 |_,_=>none
def Bm(P:Program)(b:Builtin)(ts:List TypeId)(zas:List Operand):Option AOp:=match b,ts,zas with
 | .len,t::_,[x]=>(bG x).bind fun x=>(ac7 P t x).map .p
 | .cap,t::_,[x]=>(bG x).bind fun x=>(ac8 P t x).map .p
 | .min,_,x::l=>(bG x).bind fun x=>(mu l).map fun ys=>.p (.mnx true x ys)
 | .max,_,x::l=>(bG x).bind fun x=>(mu l).map fun ys=>.p (.mnx false x ys)
 | .append,ts,zas=>Tz P ts zas
 | .copy,ts,zas=>MQ P ts zas
 | .clear,ts,zas=>Hl P ts zas
 |_,_,_=>none
def MR(P:Program)(c:Call):Option AOp:=match c.callee with
 | .builtin b=>Bm P b c.argTypes.toList c.args.toList
 | .value f=>(bG f).bind fun f=>(mu c.args.toList).map fun l=>.call f l
 | .invoke _ _=>none
def CT(P:Program)(op:Op):Option AOp:=match op with
 | .move x| .assign x=>(bG x).map fun x=>.p (.mv x)
 | .pick c a b=>(bG c).bind fun c=>(bG a).bind fun a=>(bG b).map fun b=>.p (.pick c a b)
 | .alloc t=>(iD P t).map .alloc
 | .box t x=>(bo P t).bind fun k=>(bG x).map fun x=>.box k x
 | .build t ps=>(Ns P t ps.toList).map .p
 | .buildSlice t n ps=>Eu P t n ps.toList
 | .load t x=>(nS P t).bind fun g=>(bo P t).bind fun k=>(bG x).bind fun x=>if g||k==1 then some (.load k g x)else none
 | .store t x y=>(bo P t).bind fun k=>(bG x).bind fun x=>(bG y).map fun y=>.store k x y
 | .nilCheck x=>(bG x).map fun x=>.p (.nilck x)
 | .binOp op t x y _=>(bG x).bind fun x=>(bG y).bind fun y=>(ac5 P op t x y).map .p
 | .unOp op _ x=>(bG x).map fun x=>.p (.un op x)
 | .convert s d x=>(bG x).bind fun x=>(aaC P s d x).map .p
 | .makeFunc (.func f) a b=>(mu a.toList).bind fun a=>(mu b.toList).map fun b=>.p (.mkF f a b)
 | .makeSlice t l c=>(bG l).bind fun l=>(bG c).bind fun c=>MO P t l c
 | .slice t x lo hi mx=>(bG x).bind fun x=>(yQ lo).bind fun lo=>(yQ hi).bind fun hi=>(yQ mx).bind fun mx=>(VP P t x lo hi mx).map .p
 | .fieldAddr t x f=>(bG x).bind fun x=>(Aq P t f).bind fun f=>(bo P f.type).bind fun k=>if k=0 then none else some (.p (.fadr f.offset x))
 | .field t x f=>(bG x).bind fun x=>(Aq P t f).bind fun f=>(bo P f.type).bind fun k=>(nS P f.type).map fun g=>.p (.fld f.offset k g x)
 | .indexAddr t x i=>(bG x).bind fun x=>(bG i).bind fun i=>(aaD P t x i).map .p
 | .index t x i=>(bG x).bind fun x=>(bG i).bind fun i=>(ac6 P t x i).map .p
 | .extract x i=>(bG x).map fun x=>.p (.ext i x)
 | .call c=>MR P c
 |_=>none
def cOp(P:Program)(op:Op):Option AOp:=some ((CT P op).getD .bad)
def Hm(ops:Array Oper):Option (Nat×Bool)->Option (Option (Nat×Bool))
 |none=>some none
 |some (j,b)=>((ops[j]?).bind (·.dst)).map fun d=>some (d,b)
def AOp.gives:AOp->Bool
 | .store _ _ _=>false
 | .call _ _=>false
 | .callC _ _=>false
 | .bad=>false
 | .clr _ _ _=>false
 |_=>true
def Nu(P:Program)(hint:AOp)(op:Op):Option AOp:=match hint,op with
 | .slcM _ _ _ _,.slice t x lo hi none=>(qZ P t).bind fun e=>(bo P e).bind fun k=>(bG x).bind fun x=>(yQ lo).bind fun lo=>(yQ hi).bind fun hi=>if 0<k then some (.slcM k x lo hi)else none
 | .callC _ _,.call c=>match c.callee with
  | .value f=>(bG f).bind fun f=>(mu c.args.toList).map fun l=>.callC f l
  |_=>none
 | .take _,.load t x=>(nS P t).bind fun g=>(bG x).bind fun x=>if g=true then none else some (.take x)
 |_,_=>none
def YD(P:Program)(hint:AOp)(op:Op):Option AOp:=match Nu P hint op with
 |some a=>some a
 |none=>cOp P op
def ac9:List COp->AOp
 |o::_=>o.op
 |[]=>.bad
def Ew(P:Program)(N:Nat)(ops:Array Oper)(hint:AOp)(o:Oper):Option COp:=(Hm ops o.guard).bind fun g=>(YD P hint o.op).bind fun op=>
 if(!op.gives||o.dst.isSome)&&decide (o.dst.getD 0<N)then some ⟨o.dst,g,op⟩else none
def mX(P:Program)(N:Nat)(ops:Array Oper):List COp->List Oper->Option (List COp)
 |_,[]=>some []
 |hs,o::l=>(Ew P N ops (ac9 hs) o).bind fun a=>(mX P N ops hs.tail l).bind fun q=>some (a::q)
def mw(o:Oper):List Nat:=(o.after.toList.filter (Region.binds .any)).map (·.on)
def RX:List Nat->List Nat->List Nat
 |acc,[]=>acc
 |acc,a::l=>match acc.contains a with
  |true=>RX acc l
  |false=>RX (a::acc) l
def Bn(o:Oper)(acc:List (List Nat)):List Nat:=RX [] (mw o++(mw o).flatMap fun d=>acc.getD d [])
def lE:List Oper->List (List Nat)->List (List Nat)
 |[],acc=>acc
 |o::l,acc=>lE l (acc++[Bn o acc])
def TA(ps:List (Nat×Nat))(i j:Nat)(a b:COp):Bool:=wO a b&& (isP a.op||isP b.op|| (Np a.op&&Np b.op)||ps.contains (i,j))
def TB(g:Nat)(a b:COp):Bool:=match a with
 | ⟨some e,none,.p (.mv (.t n))⟩=>wO a b&& (g==0|| (g !=e+1&&g !=n+1))
 |_=>false
def Ey(m g:Nat)(ps:List (Nat×Nat))(i j:Nat)(a b:COp):Bool:=if j<m then TA ps i j a b else decide (i<m)&&TB g a b
def aaE(ps:List (Nat×Nat)):Nat->Nat->COp->COp->Bool:=match uZ ps with
 |some q=>Ey q.1 q.2 ps.tail
 |none=>TA ps
def Ez(C:Nat->Nat->COp->COp->Bool)(j:Nat)(b:COp)(bf:List Nat):Nat->List COp->Bool
 |_,[]=>true
 |i,a::l=>(bf.contains i||C i j a b)&&Ez C j b bf (i+1) l
def Bo(C:Nat->Nat->COp->COp->Bool):Nat->List COp->List COp->List (List Nat)->Bool
 |j,done,b::l,bf::bs=>(bf.all fun i=>decide (i<j))&& (Ez C j b bf 0 done&&Bo C (j+1) (done++[b]) l bs)
 |_,_,[],[]=>true
 |_,_,_,_=>false
def Nv(ops:List Oper)(cl:List COp)(ps:List (Nat×Nat)):Bool:=Bo (aaE ps) 0 [] cl (lE ops [])
def fX(P:Program)(N:Nat):Code->Cmd->Option Cmd
 | .skip,.skip=>some .skip
 | .region _ ops false,.ops ks hs=>(mX P N ops hs ops.toList).map fun l=>.ops ks l
 | .region _ ops true,.dops ks hs ps=>(mX P N ops hs ops.toList).bind fun l=>if Nv ops.toList l ps then some (.dops ks l ps)else none
 | .seq a b,.seq c d=>(fX P N a c).bind fun c=>(fX P N b d).map fun d=>.seq c d
 | .cond x a b,.cond _ c d=>(bG x).bind fun x=>(fX P N a c).bind fun c=>(fX P N b d).map fun d=>.cond x c d
 | .block i a,.block _ ks c=>(fX P N a c).map fun c=>.block i ks c
 | .loop a,.loop ks hs c=>(fX P N a c).map fun c=>.loop ks hs c
 | .exit i,.exit _=>some (.exit i)
 | .refuse _,.ops [] [⟨none,none,.bad⟩]=>some (.ops [] [⟨none,none,.bad⟩])
 | .ret,.ret=>some .ret
 |c,.frz is a=>(fX P N c a).map (.frz is)
 |_,_=>none
def Bp(P:Program):List ResultVar->Option (List Rv)
 |[]=>some []
 | .tmp t::l=>(Bp P l).map fun q=>.t t::q
 | .cell a t::l=>(nS P t).bind fun g=>(bo P t).bind fun k=>if g||k==1 then(Bp P l).map fun q=>.cell a k g::q else none
theorem lY(a:Addr)(n:Nat):(a.add n).block=a.block:=by grind[Addr.add]
theorem F8{a:Addr}(n:Nat)(h:a.spot=none):(a.add n).spot=none:=by grind[Addr.add]
theorem xC(a:Addr)(i j:Nat):(a.add i).add j=a.add (i+j):=by
 grind[Addr.add,Nat.add_assoc]
theorem kn(b o n:Nat):(Addr.mk b o none).add n=⟨b,o+n,none⟩:=by
 grind[Addr.add]
theorem ko{w w':World}{a:Addr}(h:w'.heap[a.block]?=w.heap[a.block]?):w'.cell? a=w.cell? a:=by
 simp[World.cell?,h]
theorem xj{w:World}{b o:Nat}{us:Array Value}{e:TypeId}{fr:Nat×Nat}(h:w.heap[b]?=some (.cells us e fr)):w.cell? ⟨b,o,none⟩=us[o]?:=by
 simp[World.cell?,h]
def oP:Value->Bool
 | .bool _| .int _ _| .float _ _| .string _| .pointer none| .map none| .chan none| .nilFunc| .nilIface=>true
 |_=>false
theorem Bq{x:Value}(h:oP x=true):x.oneCell'=true:=by
 cases x<;>simp[oP,Value.oneCell']at h⊢
inductive RD (w:World) (A:Nat->Prop):AV->Value->Prop
 |any (u:Value) (h:u.oneCell'=true):RD w A .any u
 |v (x:Value) (h:oP x=true):RD w A (.v x) x
 |emp (a:Option Addr):RD w A .emp (.slice a 0 0)
 |sl (k:Nat) (rows:List (List AV)) (a:Option Addr) (cap:Nat) (ad:Addr) (vals:Nat->Nat->Value) (hc:rows.length<=cap)
   (ha:rows≠[]->a=some ad/\A ad.block/\ad.spot=none) (hk:∀row∈rows,row.length=k)
   (hv:∀ (i:Nat) (row:List AV) (j:Nat) (c:AV),rows[i]?=some row->row[j]?=some c->w.cell? (ad.add (i*k+j))=some (vals i j))
   (hl:∀row∈rows,∀c∈row,aB c=true) (hr:∀ (i:Nat) (row:List AV) (j:Nat) (c:AV),rows[i]?=some row->row[j]?=some c->RD w A c (vals i j)):RD w A (.sl k rows) (.slice a rows.length cap)
 |agg (cs:List AV) (us:Array Value) (hs:us.size=cs.length) (h1:∀ (i:Nat) (u:Value),us[i]?=some u->u.oneCell'=true)
   (hr:∀ (i:Nat) (c:AV) (u:Value),cs[i]?=some c->us[i]?=some u->RD w A c u):RD w A (.agg cs) (.agg us)
 |fn (f:FuncId):RD w A (.fn f [] []) (.func (.func f) #[] #[])
abbrev br:=Nat->Option Nat->Nat×Nat
def live(h:ac)(id:Nat):Option Nat->Prop
 |none=>match h id with| .bx _| .ar _ _=>True|_=>False
 |some p=>∃cs k rows,h id=.bx cs/\cs[p]?=some (.osl k rows)
def bC(h:ac)(id:Nat):Option Nat->Prop
 |none=>h id≠ .dead
 |some p=>live h id (some p)
def mY(h:ac)(ρ:br)(b:Nat):Prop:=∃id sub,live h id sub/\(ρ id sub).1=b
def aF(w:World)(X:Nat->Prop)(h:ac)(ρ:br)(b:Nat):Prop:=b<w.heap.size/\¬X b/\¬mY h ρ b
theorem VQ{h:ac}{id:Nat}{sub:Option Nat}(hl:live h id sub):bC h id sub:=by
 cases sub with
 |none=>intro e;grind[live]
 |some p=>exact hl
inductive RV (w:World) (A:Nat->Prop) (ρ:br) (h:ac):AV->Value->Prop
 |anyv (u:Value):RV w A ρ h .any u
 |und:RV w A ρ h .und undef
 |dat {c:AV} {u:Value} (hd:RD w A c u):RV w A ρ h c u
 |ref (id:Nat) (sub:Option Nat) (k i j:Nat) (hp:bC h id sub):RV w A ρ h (.ref id sub k i j) (.pointer (some ⟨(ρ id sub).1,i*k+j,none⟩))
 |rsl (id:Nat) (sub:Option Nat) (k lo n cap:Nat) (a:Option Addr) (hp:bC h id sub) (hn:n<=cap) (hb:(lo+cap)*k=(ρ id sub).2)
   (ha:cap=0\/a=some ⟨(ρ id sub).1,lo*k,none⟩):RV w A ρ h (.rsl id sub k lo n) (.slice a n cap)
 |rsc (id k lo n cap:Nat) (a:Option Addr) (hp:bC h id none) (hn:n<=cap) (hb:(lo+cap)*k=(ρ id none).2)
   (ha:cap=0\/a=some ⟨(ρ id none).1,lo*k,none⟩):RV w A ρ h (.rsc id k lo n cap) (.slice a n cap)
 |ipt (cs:List AV) (ad:Addr) (vals:Nat->Value) (hA:A ad.block) (hs:ad.spot=none) (hv:∀ (j:Nat) (c:AV),cs[j]?=some c->w.cell? (ad.add j)=some (vals j))
   (hl:∀c∈cs,aB c=true) (hr:∀ (j:Nat) (c:AV),cs[j]?=some c->RD w A c (vals j)):RV w A ρ h (.ipt cs) (.pointer (some ad))
 |agg (cs:List AV) (us:Array Value) (hs:us.size=cs.length) (h1:∀ (i:Nat) (u:Value),us[i]?=some u->u.oneCell'=true)
   (hr:∀ (i:Nat) (c:AV) (u:Value),cs[i]?=some c->us[i]?=some u->RV w A ρ h c u):RV w A ρ h (.agg cs) (.agg us)
 |tup (vs:List AV) (us:Array Value) (hs:us.size=vs.length) (hr:∀ (i:Nat) (c:AV) (u:Value),vs[i]?=some c->us[i]?=some u->RV w A ρ h c u):RV w A ρ h (.tup vs) (.tuple us)
 |fn (f:FuncId) (x y:List AV) (us ts:Array Value) (hs:us.size=x.length) (ht:ts.size=y.length) (hx:∀ (i:Nat) (c:AV) (u:Value),x[i]?=some c->us[i]?=some u->RV w A ρ h c u)
   (hy:∀ (i:Nat) (c:AV) (u:Value),y[i]?=some c->ts[i]?=some u->RV w A ρ h c u):RV w A ρ h (.fn f x y) (.func (.func f) us ts)
def bT(w:World)(A:Nat->Prop)(k:Nat)(rows:List (List AV))(us:Array Value):Prop:=
 ∀i row,rows[i]?=some row->row.length=k/\∀j c,row[j]?=some c->∃u,us[i*k+j]?=some u/\RD w A c u/\aB c=true
def ju(h:ac):AV->Prop
 | .any| .v _| .emp| .sl _ _=>True
 | .ref id none _ _ _=>bf (h id)=true
 | .fn _ x y=>(x.all aB&&y.all aB)=true
 |_=>False
def RC(w:World)(A:Nat->Prop)(ρ:br)(h:ac)(id p:Nat)(c:AV)(u:Value):Prop:=
 match c with
 | .osl k rows=>∃a cap us e,u=.slice a rows.length cap/\(cap=0\/a=some ⟨(ρ id (some p)).1,0,none⟩)/\rows.length<=cap/\
   w.heap[(ρ id (some p)).1]?=some (.cells us e (0,0))/\us.size=(ρ id (some p)).2/\cap*k=us.size/\bT w A k rows us
 |c=>RV w A ρ h c u/\u.oneCell'=true/\ju h c
def RO(w:World)(A:Nat->Prop)(ρ:br)(h:ac)(id:Nat):Ob->Prop
 | .dead=>True
 | .bx cs=>∃us e,w.heap[(ρ id none).1]?=some (.cells us e (0,0))/\us.size=(ρ id none).2/\cs.length<=us.size/\∀p c,cs[p]?=some c->∃u,us[p]?=some u/\RC w A ρ h id p c u
 | .ar k rows=>∃us e,w.heap[(ρ id none).1]?=some (.cells us e (0,0))/\us.size=(ρ id none).2/\rows.length*k<=us.size/\bT w A k rows us
 | .fz k rows=>A (ρ id none).1/\∃us e fr,w.heap[(ρ id none).1]?=some (.cells us e fr)/\us.size=(ρ id none).2/\rows.length*k<=us.size/\bT w A k rows us
def XZ(X:Nat->Prop)(b:Nat):Prop:=X b\/b=0
structure Rel (w:World) (X:Nat->Prop) (ρ:br) (h:ac):Prop where
 inj:∀id sub id' sub',live h id sub->live h id' sub'->(ρ id sub).1=(ρ id' sub').1->id=id'/\sub=sub'
 nx:∀id sub,live h id sub->¬XZ X (ρ id sub).1
 ob:∀id,RO w (aF w X h ρ) ρ h id (h id)
 xl:∀b,XZ X b->b<w.heap.size
structure Evo (w:World) (ρ:br) (h:ac) (w':World) (ρ':br) (h':ac) (ks:K):Prop where
 os:w'.os=w.os
 tape:w'.tape=w.tape
 output:w'.output=w.output
 size:w.heap.size<=w'.heap.size
 old:∀b,b<w.heap.size->¬mY h ρ b->w'.heap[b]?=w.heap[b]?
 keep:∀id sub,bC h id sub->gS ks id sub=false->bC h' id sub/\ρ' id sub=ρ id sub
 fresh:∀b,mY h' ρ' b->mY h ρ b\/w.heap.size<=b
 boxes:∀id,bf (h id)=true->bf (h' id)=true/\ρ' id none=ρ id none
 stay:∀id,aQ id=true->h' id≠ .dead->h id≠ .dead/\ρ' id none=ρ id none
theorem Evo.refl(w:World)(ρ:br)(h:ac):Evo w ρ h w ρ h []:=⟨rfl,rfl,rfl,Nat.le_refl _,fun _ _ _=>rfl,fun _ _ hp _=>⟨hp,rfl⟩,fun _ ho=>.inl ho,fun _ hb=>⟨hb,rfl⟩,fun _ _ hd=>⟨hd,rfl⟩⟩
theorem Br(a b:K)(id:Nat)(sub:Option Nat):gS (a++b) id sub=(gS a id sub||gS b id sub):=by simp[gS]
theorem Evo.trans{w w' w'':World}{ρ ρ' ρ'':br}{h h' h'':ac}{ks ks':K}(a:Evo w ρ h w' ρ' h' ks)(b:Evo w' ρ' h' w'' ρ'' h'' ks'):Evo w ρ h w'' ρ'' h'' (ks++ks'):=
 ⟨b.os.trans a.os,b.tape.trans a.tape,b.output.trans a.output,Nat.le_trans a.size b.size,
  fun x hx ho=>(b.old x (Nat.lt_of_lt_of_le hx a.size) (fun o=>by rcases a.fresh x o with o|o;all_goals grind)).trans (a.old x hx ho),
  fun id sub hp hk=>by
   rw[Br,Bool.or_eq_false_iff]at hk;obtain⟨h1,h2⟩:=a.keep id sub hp hk.1;obtain⟨h3,h4⟩:=b.keep id sub h1 hk.2;grind,
  fun x o=>by
   rcases b.fresh x o with o|o
   ·exact a.fresh x o
   ·exact .inr (Nat.le_trans a.size o),
  fun id hb=>by
   obtain⟨h1,h2⟩:=a.boxes id hb;obtain⟨h3,h4⟩:=b.boxes id h1;grind,
  fun id hp hd=>by
   obtain⟨h1,h2⟩:=b.stay id hp hd;obtain⟨h3,h4⟩:=a.stay id hp h1;grind⟩
theorem Evo.al{w w':World}{X:Nat->Prop}{ρ ρ':br}{h h':ac}{ks:K}(e:Evo w ρ h w' ρ' h' ks){b:Nat}(hb:aF w X h ρ b):aF w' X h' ρ' b/\w'.heap[b]?=w.heap[b]?:=
 ⟨⟨Nat.lt_of_lt_of_le hb.1 e.size,hb.2.1,fun o=>by rcases e.fresh b o with o|o;exact hb.2.2 o;have:=hb.1;omega⟩,e.old b hb.1 hb.2.2⟩
section
variable {w w':World} {A A':Nat→Prop}
theorem RD.mono{c:AV}{u:Value}(h:RD w A c u)(hA:∀b,A b->A' b/\w'.heap[b]?=w.heap[b]?):RD w' A' c u:=by
 induction h with
 |any u h=>exact .any u h
 |v x h=>exact .v x h
 |emp a=>exact .emp a
 |sl k rows a cap ad vals hc ha hk hv hl hr ih=>
  refine .sl k rows a cap ad vals hc (fun hne=>⟨(ha hne).1,(hA _ (ha hne).2.1).1,(ha hne).2.2⟩) hk (fun i row j c h1 h2=>?_) hl ih;rw[ko (w:=w) (w':=w') (by rw[lY];grind)];grind
 |agg cs us hs h1 hr ih=>exact .agg cs us hs h1 ih
 |fn f=>exact .fn f
theorem bT.mono{k:Nat}{rows:List (List AV)}{us:Array Value}(h:bT w A k rows us)(hA:∀b,A b->A' b/\w'.heap[b]?=w.heap[b]?):bT w' A' k rows us:=
 fun i row hi=>⟨(h i row hi).1,fun j c hc=>by obtain⟨u,h1,h2,h3⟩:=(h i row hi).2 j c hc;exact⟨u,h1,h2.mono hA,h3⟩⟩
end
theorem RD.one{w:World}{A:Nat->Prop}{c:AV}{u:Value}(h:RD w A c u)(hd:aB c=true):u.oneCell'=true:=by
 cases h with
 |any u h=>omega
 |v x h=>exact Bq h
 |emp a=>rfl
 |sl=>rfl
 |agg=>simp[aB]at hd
 |fn=>rfl
section
variable {w w':World} {A A':Nat→Prop} {ρ ρ':br} {h h':ac}
theorem RV.keep{c:AV}{u:Value}(hv:RV w A ρ h c u)(hA:∀b,A b->A' b/\w'.heap[b]?=w.heap[b]?)(hk:∀id sub,bC h id sub->bC h' id sub/\ρ' id sub=ρ id sub):RV w' A' ρ' h' c u:=by
 induction hv with
 |anyv u=>exact .anyv u
 |und=>exact .und
 |dat hd=>exact .dat (hd.mono hA)
 |ref id sub k i j hp=>rw[← (hk id sub hp).2];exact .ref id sub k i j (hk id sub hp).1
 |rsl id sub k lo n cap a hp hn hb ha=>
  obtain⟨h1,h2⟩:=hk id sub hp;exact .rsl id sub k lo n cap a h1 hn (by grind) (by grind)
 |rsc id k lo n cap a hp hn hb ha=>
  obtain⟨h1,h2⟩:=hk id none hp;exact .rsc id k lo n cap a h1 hn (by grind) (by grind)
 |ipt cs ad vals hA' hs hv hl hr=>
  exact .ipt cs ad vals (hA _ hA').1 hs (fun j c hc=>by rw[ko (w:=w) (w':=w') (by rw[lY];grind)];grind) hl (fun j c hc=>(hr j c hc).mono hA)
 |agg cs us hs h1 hr ih=>exact .agg cs us hs h1 ih
 |tup vs us hs hr ih=>exact .tup vs us hs ih
 |fn f x y us ts hs ht hx hy ihx ihy=>exact .fn f x y us ts hs ht ihx ihy
theorem RV.keepL{ks:K}{c:AV}{u:Value}(hv:RV w A ρ h c u)(hA:∀b,A b->A' b/\w'.heap[b]?=w.heap[b]?)(hk:∀id sub,bC h id sub->gS ks id sub=false->bC h' id sub/\ρ' id sub=ρ id sub)(hm:me ks c=false):RV w' A' ρ' h' c u:=by
 cases hv with
 |anyv u=>exact .anyv u
 |und=>exact .und
 |dat hd=>exact .dat (hd.mono hA)
 |ref id sub k i j hp=>
  obtain⟨h1,h2⟩:=hk id sub hp (by simpa [me]using hm);rw[←h2];exact .ref id sub k i j h1
 |rsl id sub k lo n cap a hp hn hb ha=>
  obtain⟨h1,h2⟩:=hk id sub hp (by simpa [me]using hm);exact .rsl id sub k lo n cap a h1 hn (by grind) (by grind)
 |rsc id k lo n cap a hp hn hb ha=>
  obtain⟨h1,h2⟩:=hk id none hp (by simpa [me]using hm);exact .rsc id k lo n cap a h1 hn (by grind) (by grind)
 |ipt cs ad vals hA' hs hv hl hr=>
  exact .ipt cs ad vals (hA _ hA').1 hs (fun j c hc=>by rw[ko (w:=w) (w':=w') (by rw[lY];grind)];grind) hl (fun j c hc=>(hr j c hc).mono hA)
 |agg cs us hs h1 hr=>simp[me]at hm
 |tup vs us hs hr=>simp[me]at hm
 |fn f x y us ts hs ht hx hy=>
  simp[me]at hm;obtain⟨rfl,rfl⟩:=hm;exact .fn f [] [] us ts hs ht (fun i c u hc=>by grind) (fun i c u hc=>by grind)
theorem RV.keep1{ks:K}{c:AV}{u:Value}(hv:RV w A ρ h c u)(hA:∀b,A b->A' b/\w'.heap[b]?=w.heap[b]?)(hk:∀id sub,bC h id sub->gS ks id sub=false->bC h' id sub/\ρ' id sub=ρ id sub)(hm:zL ks c=false):RV w' A' ρ' h' c u:=by
 cases c with
 |agg cs=>
  simp[zL]at hm;cases hv with
  |dat hd=>exact .dat (hd.mono hA)
  |agg _ us hs h1 hr=>exact .agg cs us hs h1 fun i c u hc hu=>(hr i c u hc hu).keepL hA hk (hm c (List.mem_of_getElem? hc))
 |fn f x y=>
  simp[zL]at hm;cases hv with
  |dat hd=>exact .dat (hd.mono hA)
  |fn _ _ _ us ts hs ht hx hy=>exact .fn f x y us ts hs ht (fun i c u hc hu=>(hx i c u hc hu).keepL hA hk (hm.1 c (List.mem_of_getElem? hc))) (fun i c u hc hu=>(hy i c u hc hu).keepL hA hk (hm.2 c (List.mem_of_getElem? hc)))
 |_=>exact hv.keepL hA hk (by simpa [zL]using hm)
theorem RV.keep2{ks:K}{c:AV}{u:Value}(hv:RV w A ρ h c u)(hA:∀b,A b->A' b/\w'.heap[b]?=w.heap[b]?)(hk:∀id sub,bC h id sub->gS ks id sub=false->bC h' id sub/\ρ' id sub=ρ id sub)(hm:RU ks c=false):RV w' A' ρ' h' c u:=by
 cases c with
 |tup vs=>
  simp[RU]at hm;cases hv with
  |dat hd=>cases hd
  |tup _ us hs hr=>exact .tup vs us hs fun i c u hc hu=>(hr i c u hc hu).keep1 hA hk (hm c (List.mem_of_getElem? hc))
 |_=>exact hv.keep1 hA hk (by simpa [RU]using hm)
end
def RS(w:World)(A:Nat->Prop)(ρ:br)(h:ac)(s:af)(tm:Array Value):Prop:=∀i,RV w A ρ h (s i) (tm.getD i undef)
section
variable {w w':World} {X:Nat→Prop} {ρ ρ':br} {h h':ac} {ks:K}
theorem Evo.rs(e:Evo w ρ h w' ρ' h' ks){s:af}{tm:Array Value}(hs:RS w (aF w X h ρ) ρ h s tm):RS w' (aF w' X h' ρ') ρ' h' (gJ ks s) tm:=by
 intro i;cases ks with
 |nil=>exact(hs i).keep (fun b hb=>e.al hb) (fun id sub hp=>e.keep id sub hp rfl)
 |cons p l=>
  show RV _ _ _ _ (nY (p::l) (s i)) _;unfold nY;split
  ·exact .anyv _
  ·exact(hs i).keep2 (fun b hb=>e.al hb) (fun id sub hp hk=>e.keep id sub hp hk) (by grind)
theorem Evo.rv(e:Evo w ρ h w' ρ' h' []){c:AV}{u:Value}(hv:RV w (aF w X h ρ) ρ h c u):RV w' (aF w' X h' ρ') ρ' h' c u:=
 hv.keep (fun _ hb=>e.al hb) (fun id sub hp=>e.keep id sub hp rfl)
theorem Evo.rd(e:Evo w ρ h w' ρ' h' ks){c:AV}{u:Value}(hd:RD w (aF w X h ρ) c u):RD w' (aF w' X h' ρ') c u:=hd.mono fun _ hb=>e.al hb
end
theorem RS.upd{w:World}{A:Nat->Prop}{ρ:br}{h:ac}{s:af}{tm:Array Value}(hs:RS w A ρ h s tm){d:Nat}{x:AV}{v:Value}(hd:d<tm.size)(hv:RV w A ρ h x v):RS w A ρ h (upd s d x) (tm.setIfInBounds d v):=by
 intro i;unfold Ab.upd;by_cases hi:i=d
 ·simp_all
 ·rw[if_neg hi];have:=hs i;simpa [Array.getD_eq_getD_getElem?,Array.getElem?_setIfInBounds_ne (show d≠i from fun e=>hi e.symm)]using this
theorem Jp{h:ac}{id:Nat}(hb:bf (h id)=true):bC h id none:=by intro e;grind[bf]
section
variable {w w':World} {A A':Nat→Prop} {ρ ρ':br} {h h':ac} {c:AV} {u:Value}
theorem RV.toD(hd:aB c=true)(h1:u.oneCell'=true)(hv:RV w A ρ h c u):RD w A c u:=by
 cases hv with
 |anyv u=>exact .any u h1
 |und=>simp[aB]at hd
 |dat hd=>omega
 |fn f x y us ts hs ht hx hy=>
  simp[aB]at hd;obtain⟨rfl,rfl⟩:=hd;have e1:us=#[]:=by grind
  have e2:ts=#[]:=by grind
  subst e1 e2;exact .fn f
 |_=>simp[aB]at hd
theorem RV.keepD(hd:aB c=true)(hv:RV w A ρ h c u)(hA:∀b,A b->A' b/\w'.heap[b]?=w.heap[b]?):RV w' A' ρ' h' c u:=by
 cases hv with
 |anyv u=>exact .anyv u
 |und=>exact .und
 |dat hd=>exact .dat (hd.mono hA)
 |fn f x y us ts hs ht hx hy=>
  simp[aB]at hd;obtain⟨rfl,rfl⟩:=hd;exact .fn f [] [] us ts hs ht (fun i c u hc=>by grind) (fun i c u hc=>by grind)
 |_=>simp[aB]at hd
theorem RV.keepC(hv:RV w A ρ h c u)(ho:ju h c)(hA:∀b,A b->A' b/\w'.heap[b]?=w.heap[b]?)(hB:∀id,bf (h id)=true->bf (h' id)=true/\ρ' id none=ρ id none):RV w' A' ρ' h' c u/\ju h' c:=by
 cases hv with
 |anyv u=>exact⟨.anyv u,trivial⟩
 |und=>cases ho
 |dat hd=>
  refine⟨.dat (hd.mono hA),?_⟩;cases hd<;>first|trivial|exact ho
 |ref id sub k i j hp=>
  cases sub with
  |none=>
   obtain⟨h1,h2⟩:=hB id ho;exact⟨by rw[←h2];exact .ref id none k i j (Jp h1),h1⟩
  |some p=>cases ho
 |fn f x y us ts hs ht hx hy=>
  have ho':=ho;simp only[ju,Bool.and_eq_true,List.all_eq_true]at ho';exact⟨.fn f x y us ts hs ht (fun i c u hc hu=>(hx i c u hc hu).keepD (ho'.1 c (List.mem_of_getElem? hc)) hA) (fun i c u hc hu=>(hy i c u hc hu).keepD (ho'.2 c (List.mem_of_getElem? hc)) hA),ho⟩
 |_=>cases ho
theorem sB(hd:aB c=true):ju h c:=by
 cases c<;>simp[aB]at hd<;>first|trivial| (obtain⟨rfl,rfl⟩:=hd;simp[ju])
theorem oQ(hn:aW c=false){id p:Nat}:RC w A ρ h id p c u↔RV w A ρ h c u/\u.oneCell'=true/\ju h c:=by
 cases c<;>first|rfl|simp[aW]at hn
theorem RO.keep{id:Nat}(ho:RO w A ρ h id (h id))(hA:∀b,A b->A' b/\w'.heap[b]?=w.heap[b]?)(hB:∀id,bf (h id)=true->bf (h' id)=true/\ρ' id none=ρ id none)
  (hρ:∀sub,ρ' id sub=ρ id sub) (hb:∀sub,live h id sub->w'.heap[(ρ id sub).1]?=w.heap[(ρ id sub).1]?):RO w' A' ρ' h' id (h id):=by
 cases e:h id with
 |dead=>trivial
 |bx cs=>
  rw[e]at ho;obtain⟨us,t,h1,h2,h3,h4⟩:=ho;refine⟨us,t,?_,by grind,h3,fun p c hc=>?_⟩
  ·rw[hρ,hb none (by simp[live,e]),h1]
  ·obtain⟨u,h5,h6⟩:=h4 p c hc;refine⟨u,h5,?_⟩;cases hO:aW c with
   |true=>
    cases c<;>simp[aW]at hO;rename_i k rows;obtain⟨a,cap,us',t',g1,g2,g3,g4,g5,g6,g7⟩:=h6;refine⟨a,cap,us',t',g1,by grind,g3,?_,by grind,g6,g7.mono hA⟩;rw[hρ,hb (some p) ⟨cs,k,rows,e,hc⟩,g4]
   |false=>
    rw[oQ hO]at h6⊢;obtain⟨g1,g2⟩:=h6.1.keepC h6.2.2 hA hB;grind
 |ar k rows=>
  rw[e]at ho;obtain⟨us,t,h1,h2,h3,h4⟩:=ho;exact⟨us,t,by rw[hρ,hb none (by simp[live,e]),h1],by grind,h3,h4.mono hA⟩
 |fz k rows=>
  rw[e]at ho;obtain⟨h0,us,t,fr,h1,h2,h3,h4⟩:=ho;obtain⟨g1,g2⟩:=hA _ h0;exact⟨by grind,us,t,fr,by rw[hρ,g2,h1],by grind,h3,h4.mono hA⟩
end
theorem Rel.step{w w':World}{X:Nat->Prop}{ρ ρ':br}{h h':ac}{ks:K}(r:Rel w X ρ h)(e:Evo w ρ h w' ρ' h' ks)(S:Nat->Prop)
  (hS:∀id,¬S id->h' id=h id/\(∀sub,ρ' id sub=ρ id sub)/\(∀sub,live h id sub->w'.heap[(ρ id sub).1]?=w.heap[(ρ id sub).1]?))
  (hi:∀id sub id' sub',live h' id sub->live h' id' sub'->(ρ' id sub).1=(ρ' id' sub').1->id=id'/\sub=sub') (hx:∀id sub,live h' id sub->¬XZ X (ρ' id sub).1)
  (hc:∀id,S id->RO w' (aF w' X h' ρ') ρ' h' id (h' id)):Rel w' X ρ' h':=
 ⟨hi,hx,fun id=>by
  by_cases hs:S id
  ·grind
  ·obtain⟨h1,h2,h3⟩:=hS id hs;rw[h1];exact(r.ob id).keep (fun b hb=>e.al hb) e.boxes h2 h3,
  fun b hb=>Nat.lt_of_lt_of_le (r.xl b hb) e.size⟩
section
variable {P:Program} {w:World} {A:Nat→Prop} {ρ:br} {h:ac} {s:af} {a:Act}
theorem RV.v_inv{x u:Value}(hv:RV w A ρ h (.v x) u):u=x/\oP x=true:=by
 cases hv with|dat hd=>cases hd with|v _ hp=>grind
theorem RV.emp_inv{u:Value}(hv:RV w A ρ h .emp u):∃a,u=.slice a 0 0:=by
 cases hv with|dat hd=>cases hd with|emp a=>grind
theorem RV.sl_inv{k:Nat}{rows:List (List AV)}{u:Value}(hv:RV w A ρ h (.sl k rows) u):RD w A (.sl k rows) u:=by
 cases hv with|dat hd=>omega
theorem RD.sl_form{k:Nat}{rows:List (List AV)}{u:Value}(hv:RD w A (.sl k rows) u):∃a cap,u=.slice a rows.length cap/\rows.length<=cap:=by
 cases hv with|sl _ _ a cap _ _ hc=>grind
theorem RV.rsl_inv{id:Nat}{sub:Option Nat}{k lo n:Nat}{u:Value}(hv:RV w A ρ h (.rsl id sub k lo n) u):
  ∃a cap,u=.slice a n cap/\bC h id sub/\n<=cap/\(lo+cap)*k=(ρ id sub).2/\(cap=0\/a=some ⟨(ρ id sub).1,lo*k,none⟩):=by
 cases hv with
 |dat hd=>cases hd
 |rsl _ _ _ _ _ cap a hp hn hb ha=>grind
theorem RV.rsc_inv{id k lo n c:Nat}{u:Value}(hv:RV w A ρ h (.rsc id k lo n c) u):
  ∃a,u=.slice a n c/\bC h id none/\n<=c/\(lo+c)*k=(ρ id none).2/\(c=0\/a=some ⟨(ρ id none).1,lo*k,none⟩):=by
 cases hv with
 |dat hd=>cases hd
 |rsc _ _ _ _ _ a hp hn hb ha=>grind
theorem RV.ref_inv{id:Nat}{sub:Option Nat}{k i j:Nat}{u:Value}(hv:RV w A ρ h (.ref id sub k i j) u):
  u=.pointer (some ⟨(ρ id sub).1,i*k+j,none⟩)/\bC h id sub:=by
 cases hv with
 |dat hd=>cases hd
 |ref _ _ _ _ _ hp=>grind
theorem RV.fn_inv{f:FuncId}{x y:List AV}{u:Value}(hv:RV w A ρ h (.fn f x y) u):∃us ts:Array Value,u=.func (.func f) us ts/\us.size=x.length/\ts.size=y.length/\
  (∀ (i:Nat) (c:AV) (u:Value),x[i]?=some c->us[i]?=some u->RV w A ρ h c u)/\(∀ (i:Nat) (c:AV) (u:Value),y[i]?=some c->ts[i]?=some u->RV w A ρ h c u):=by
 cases hv with
 |dat hd=>cases hd with|fn _=>grind
 |fn _ _ _ us ts hs ht hx hy=>grind
theorem RV.agg_inv{cs:List AV}{u:Value}(hv:RV w A ρ h (.agg cs) u):∃us:Array Value,u=.agg us/\us.size=cs.length/\(∀ (i:Nat) (u:Value),us[i]?=some u->u.oneCell'=true)/\
  (∀ (i:Nat) (c:AV) (u:Value),cs[i]?=some c->us[i]?=some u->RV w A ρ h c u):=by
 cases hv with
 |dat hd=>cases hd with|agg _ us hs h1 hr=>exact⟨us,rfl,hs,h1,fun i c u hc hu=>.dat (hr i c u hc hu)⟩
 |agg _ us hs h1 hr=>grind
theorem K5{v:Value}{c:AV}(hc:Nr v=some c):RD w A c v:=by
 unfold Nr at hc;split at hc<;>cases hc
 ·exact .emp none
 all_goals exact .v _ rfl
theorem aN{x:Operand}{y:Opd}(hc:bG x=some y)(hs:RS w A ρ h s a.tmps):RV w A ρ h (ev s y) (a.eval x):=by
 cases x with
 |tmp t=>simp[bG]at hc;subst hc;exact hs t
 |const v=>
  simp[bG]at hc;obtain⟨c,h1,rfl⟩:=hc;exact .dat (K5 h1)
 |func f=>simp[bG]at hc;subst hc;exact .dat (.fn f)
 |global g=>simp[bG]at hc;subst hc;exact .anyv _
theorem rR(hs:RS w A ρ h s a.tmps):∀ {x:List Operand} {y:List Opd},mu x=some y->y.length=x.length/\∀ (i:Nat) (o:Operand) (p:Opd),x[i]?=some o->y[i]?=some p->RV w A ρ h (ev s p) (a.eval o)
 |[],y,hc=>by grind[mu]
 |o::l,y,hc=>by
  simp only[mu,Option.bind_eq_some_iff]at hc;obtain⟨p,h1,q,h2,h3⟩:=hc;cases h3;obtain⟨h4,h5⟩:=rR hs h2;refine⟨by simp[h4],fun i o' p' ho hp=>?_⟩;cases i with
  |zero=>simp at ho hp;subst ho hp;exact aN h1 hs
  |succ i=>exact h5 i o' p' (by simpa using ho) (by simpa using hp)
theorem TC{op:BinOp}{t:TypeId}{u v r:Value}(hb:ip op u v=some r):(binOp op t u v).run P w=.ok r w/\oP r=true:=by
 cases u with
 |int k x=>
  cases v with
  |int k' y=>
   have hk:∀op,(if k=k' then oL op k x y else none)=some r->op≠ .shl->op≠ .shr->(binOp op t (.int k x) (.int k' y)).run P w=.ok r w/\oP r=true:=by
    intro op hq h1 h2;split at hq
    ·cases op<;>simp[oL]at hq h1 h2<;> (first|subst hq| (obtain⟨h0,hq⟩:=hq;subst hq))<;>simp_all[binOp,Op.intArith,Op.intDiv,Op.intBits,Op.intCmp,oP]
    grind
   cases op<;>first
    |exact hk _ hb (by simp) (by simp)
    | (simp[ip,Yw,Yx]at hb;obtain⟨h0,hb⟩:=hb;subst hb;simp[binOp,Op.shift,show¬y<0 from by omega,oP])
  |_=>simp[ip]at hb
 |string x=>
  cases v with
  |string y=>
   cases op<;>simp[ip,acZ]at hb
   case add=>obtain⟨h0,hb⟩:=hb;subst hb;simp[binOp,Op.stringOp,oP,h0]
   all_goals subst hb;simp[binOp,Op.stringOp,oP]
  |_=>simp[ip]at hb
 |_=>simp[ip]at hb
theorem wd{op:BinOp}{t:TypeId}{x y:Operand}{u v:Value}(hu:u.oneCell'=true)(h2:u=.nilIface->v≠ .nilIface):(eqGuard op t x y u v).run P w=.ok () w:=by
 unfold eqGuard
 all_goals (cases u<;>simp[Value.oneCell']at hu⊢ <;>cases v<;>simp at h2⊢)
abbrev n7(P:Program)(w:World)(A:Nat->Prop)(ρ:br)(h:ac)(m:Sem Value)(z:AV):Prop:=∃v,m.run P w=.ok v w/\RV w A ρ h z v
theorem zP{α β:Type}{m:Sem α}{f:α->Sem β}{x:α}{w w':World}(hm:m.run P w=.ok x w'):(m>>=f).run P w=(f x).run P w':=by
 simp_all
theorem TD{c x y:AV}{u v t:Value}{z:AV}(hc:RV w A ρ h c t)(hx:RV w A ρ h x u)(hy:RV w A ρ h y v)(hz:Ej c x y=some z):
  n7 P w A ρ h (do pure (if←asBool t then u else v)) z:=by
 unfold Ej at hz;split at hz
 ·rename_i b;obtain⟨rfl,_⟩:=hc.v_inv;refine⟨if b then u else v,by simp[asBool],?_⟩;grind
 grind
theorem K6{op:BinOp}{t:TypeId}{xo yo:Operand}{x y z:AV}{u v:Value}(hx:RV w A ρ h x u)(hy:RV w A ρ h y v)(hz:cO op x y=some z):
  n7 P w A ρ h (do eqGuard op t xo yo u v;binOp op t u v) z:=by
 unfold cO at hz;split at hz
 ·simp only[Option.map_eq_some_iff]at hz;obtain⟨r,hr,rfl⟩:=hz;obtain⟨rfl,_⟩:=hx.v_inv;obtain⟨rfl,_⟩:=hy.v_inv;obtain⟨h1,h2⟩:=TC (P:=P) (w:=w) (t:=t) hr;refine⟨r,?_,.dat (.v _ h2)⟩;rw[zP (wd ?_ ?_),h1]
  ·cases u<;>first|rfl|simp[ip]at hr
  grind[ip]
 grind
theorem VR{t:TypeId}(ht:P.underlying t=some .bool)(d:Nat)(p q:Bool):(Op.equalIn (d+1) t (.bool p) (.bool q)).run P w=.ok (p==q) w:=by
 simp[Op.equalIn,run_underlying ht]
theorem Nw{t e:TypeId}(ht:P.underlying t=some (.pointer e))(d:Nat)(p:Option Addr):(Op.equalIn (d+1) t (.pointer p) (.pointer none)).run P w=.ok p.isNone w:=by
 cases p<;>simp[Op.equalIn,run_underlying ht]
theorem abb{t:TypeId}{x y:Array TypeId}{b:Bool}(ht:P.underlying t=some (.func x y b))(d:Nat)(f:Fn)(p q:Array Value):(Op.equalIn (d+1) t (.func f p q) .nilFunc).run P w=.ok false w:=by
 simp[Op.equalIn,run_underlying ht]
theorem YE{t:TypeId}{x y:Array TypeId}{b:Bool}(ht:P.underlying t=some (.func x y b))(d:Nat):(Op.equalIn (d+1) t .nilFunc .nilFunc).run P w=.ok true w:=by
 simp[Op.equalIn,run_underlying ht]
theorem CU{op:BinOp}{n:Bool}{tc:Nat}{t:TypeId}{xo yo:Operand}{x y z:AV}{u v:Value}(hx:RV w A ρ h x u)(hy:RV w A ρ h y v)(hop:CS op=some n)
  (ht:(tc=0->P.underlying t=some .bool)/\(tc=1->∃e,P.underlying t=some (.pointer e))/\(tc=2->∃p q r,P.underlying t=some (.func p q r))) (hz:M7 n tc x y=some z):
  n7 P w A ρ h (do eqGuard op t xo yo u v;binOp op t u v) z:=by
 have hop':(op=.eql/\n=false)\/(op=.neq/\n=true):=by grind[CS]
 have key:∀ (r:Bool),u.oneCell'=true->u≠ .nilIface->(∀k q,u≠ .int k q)->(∀q,u≠ .string q)->(∀k q,u≠ .float k q)->(∀k p q,u≠ .complex k p q)->(Op.equal t u v).run P w=.ok r w->n7 P w A ρ h (do eqGuard op t xo yo u v;binOp op t u v) (B (n !=r)):=by
  intro r h1 h2 h3 h4 h5 h6 he;rcases hop' with⟨rfl,rfl⟩| ⟨rfl,rfl⟩
  ·refine⟨.bool r,?_,?_⟩
   ·simp_all[zP,wd,absurd,binOp]
   ·have:(false !=r)=r:=by simp_all
    rw[this];exact .dat (.v _ rfl)
  ·refine⟨.bool (!r),?_,?_⟩
   ·simp_all[zP,wd,absurd,binOp]
   ·have:(true !=r)=!r:=by grind
    rw[this];exact .dat (.v _ rfl)
 unfold M7 at hz;split at hz
 ·split at hz
  ·rename_i p q htc;cases hz;obtain⟨rfl,_⟩:=hx.v_inv;obtain⟨rfl,_⟩:=hy.v_inv;refine key (p==q) rfl (by simp) (by simp) (by simp) (by simp) (by simp) ?_;exact VR (ht.1 htc) 9999 p q
  grind
 ·split at hz
  ·rename_i htc;obtain⟨rfl,_⟩:=hx.ref_inv;obtain⟨rfl,_⟩:=hy.v_inv;obtain⟨e,he⟩:=ht.2.1 htc;have:=key false rfl (by simp) (by simp) (by simp) (by simp) (by simp) (Nw he 9999 _);grind
  grind
 ·split at hz
  ·rename_i htc;obtain⟨rfl,_⟩:=hx.v_inv;obtain⟨rfl,_⟩:=hy.v_inv;obtain⟨e,he⟩:=ht.2.1 htc;have:=key true rfl (by simp) (by simp) (by simp) (by simp) (by simp) (Nw he 9999 _);grind
  grind
 ·split at hz
  ·rename_i htc;obtain⟨us,ts,rfl,_⟩:=hx.fn_inv;obtain⟨rfl,_⟩:=hy.v_inv;obtain⟨p,q,r,he⟩:=ht.2.2 htc;have:=key false rfl (by simp) (by simp) (by simp) (by simp) (by simp) (abb he 9999 _ _ _);grind
  grind
 ·split at hz
  ·rename_i htc;obtain⟨rfl,_⟩:=hx.v_inv;obtain⟨rfl,_⟩:=hy.v_inv;obtain⟨p,q,r,he⟩:=ht.2.2 htc;have:=key true rfl (by simp) (by simp) (by simp) (by simp) (by simp) (YE he 9999);grind
  grind
 grind
theorem YF{op:UnOp}{x z:AV}{u:Value}(hx:RV w A ρ h x u)(hz:M8 op x=some z):n7 P w A ρ h (Op.unary op u) z:=by
 unfold M8 at hz;split at hz
 ·obtain⟨rfl,_⟩:=hx.v_inv;cases op<;>simp only[Option.some.injEq]at hz<;>try (cases hz;done)
  ·subst hz;exact⟨_,by simp[Op.unary,Op.intArith],.dat (.v _ rfl)⟩
  ·subst hz;exact⟨_,by simp[Op.unary,Op.intBits],.dat (.v _ rfl)⟩
 ·obtain⟨rfl,_⟩:=hx.v_inv;cases op<;>simp at hz;subst hz;exact⟨_,by simp[Op.unary],.dat (.v _ rfl)⟩
 grind
theorem YG{src dst:TypeId}{k:IntKind}{x z:AV}{u:Value}(hx:RV w A ρ h x u)(hs:(P.underlying src).isSome=true)(hd:P.underlying dst=some (.int k))(hz:VO k x=some z):
  n7 P w A ρ h (convert src dst u) z:=by
 unfold VO at hz;split at hz
 ·obtain⟨rfl,_⟩:=hx.v_inv;cases hz;obtain⟨d,hd'⟩:=Option.isSome_iff_exists.1 hs;exact⟨_,by simp_all[convert,run_underlying,Conv.intToInt],.dat (.v _ rfl)⟩
 grind
theorem VS{src dst:TypeId}{x z:AV}{u:Value}(hx:RV w A ρ h x u)(hs:P.underlying src=some .string)(hd:P.underlying dst=some .string)(hz:Tu x=some z):
  n7 P w A ρ h (convert src dst u) z:=by
 unfold Tu at hz;split at hz
 ·obtain⟨rfl,_⟩:=hx.v_inv;cases hz;exact⟨_,by simp_all[convert,run_underlying],.dat (.v _ rfl)⟩
 grind
end
section
variable {P:Program} {w:World} {A:Nat→Prop} {ρ:br} {h:ac} {s:af} {a:Act}
inductive RVo (w:World) (A:Nat->Prop) (ρ:br) (h:ac):Option AV->Option Value->Prop
 |none:RVo w A ρ h none none
 |some {x:AV} {u:Value} (hv:RV w A ρ h x u):RVo w A ρ h (some x) (some u)
theorem lZ{x:Option Operand}{y:Option Opd}(hc:yQ x=some y)(hs:RS w A ρ h s a.tmps):RVo w A ρ h (evo s y) (x.map a.eval):=by
 cases x with
 |none=>simp[yQ]at hc;subst hc;exact .none
 |some x=>
  simp only[yQ,Option.map_eq_some_iff]at hc;obtain⟨p,h1,rfl⟩:=hc;exact .some (aN h1 hs)
theorem vE{d n:Nat}{x:AV}{u:Value}{r:Nat}(hx:RV w A ρ h x u)(hb:lB d n (some x)=some r)(y:Nat)(hy:n<=y)(code:BoundsCode):
  (Instr.sliceBound u y code).run P w=.ok r w/\r<=n:=by
 cases x with
 |v x=>
  obtain⟨rfl,_⟩:=hx.v_inv;cases u with
  |int k i=>
   grind[lB,run_sliceBound]
  |_=>simp[lB]at hb
 |_=>simp[lB]at hb
theorem pF{n cap:Nat}(isS:Bool){lo hi mx:Option AV}{lo' hi' mx':Option Value}(hl:RVo w A ρ h lo lo')(hh:RVo w A ρ h hi hi')(hm:RVo w A ρ h mx mx'){l r:Nat}
  (hb:nO n lo hi mx=some (l,r)) (hc:n<=cap):∃m,(Instr.sliceBounds isS n cap lo' hi' mx').run P w=.ok (l,r,m) w/\l<=r/\r<=n/\r<=m/\m<=cap/\(mx=none->m=cap)/\(CJ mx=true->m=0):=by
 have low:∀ (r:Nat),(lB 0 r lo).bind (fun x=>some (x,r))=some (l,r)->∀ (code:BoundsCode),((match lo' with|some v=>Instr.sliceBound v r code|none=>pure 0:Sem Nat)).run P w=.ok l w/\l<=r:=by
  intro r hb code;cases hl with
  |none=>simp[lB]at hb;subst hb;simp_all
  |some hv=>
   simp only[Option.bind_eq_some_iff]at hb;obtain⟨x,h1,h2⟩:=hb;cases h2;exact vE hv h1 r (Nat.le_refl _) code
 cases hm with
 |none=>
  simp only[nO,Option.bind_eq_some_iff]at hb;obtain⟨q,h1,x,h2,h3⟩:=hb;have hq:q=r:=by grind
  subst hq;have h4:=low q (by grind);cases hh with
  |none=>
   simp[lB]at h1;subst h1;refine⟨cap,?_,(h4 .sliceB).2,Nat.le_refl _,hc,Nat.le_refl _,fun _=>rfl,fun e=>by grind[CJ]⟩;cases lo'<;>simp_all[Instr.sliceBounds]
  |some hv=>
   have h6:∀code,_:=fun code=>vE (P:=P) hv h1 cap hc code;refine⟨cap,?_,(h4 .sliceB).2,(h6 .sliceB).2,Nat.le_trans (h6 .sliceB).2 hc,Nat.le_refl _,fun _=>rfl,fun e=>by grind[CJ]⟩;cases lo'<;>simp_all[Instr.sliceBounds]
 |some hm=>
  rename_i xm um;simp only[nO,Option.bind_eq_some_iff]at hb;obtain⟨m,h0,hb⟩:=hb;cases hh with
  |none=>grind
  |some hv=>
   simp only[Option.bind_eq_some_iff]at hb;obtain⟨q,h1,x,h2,h3⟩:=hb;have hq:q=r:=by grind
   subst hq;have h4:=low q (by grind);have h6:∀code,_:=fun code=>vE (P:=P) hv h1 m (Nat.le_refl _) code;have h8:∀code,_:=fun code=>vE (P:=P) hm h0 cap hc code;refine⟨m,?_,(h4 .slice3C).2,Nat.le_trans (h6 .slice3B).2 (h8 .slice3B).2,(h6 .slice3B).2,Nat.le_trans (h8 .slice3B).2 hc,fun e=>by grind,fun e=>?_⟩
   ·cases lo'<;>simp_all[Instr.sliceBounds]
   ·cases xm with
    |v x=>
     cases x with
     |int k i=>
      have:i=0:=by
       unfold CJ at e;grind
      grind[lB]
     |_=>simp[CJ]at e
    |_=>simp[CJ]at e
theorem VU{t e:TypeId}{k:Nat}(ht:P.underlying t=some (.slice e))(hk:bo P e=some k){x z:AV}{u:Value}{lo hi mx:Option AV}{lo' hi' mx':Option Value}
  (hx:RV w A ρ h x u) (hl:RVo w A ρ h lo lo') (hh:RVo w A ρ h hi hi') (hm:RVo w A ρ h mx mx') (hz:gh k x lo hi mx=some z):
  n7 P w A ρ h (Instr.sliceAt t u lo' hi' mx') z:=by
 have hsz:∀w,(sizeOf e).run P w=.ok k w:=by
  intro w;simp only[bo,Option.map_eq_some_iff]at hk;obtain⟨i,h1,h2⟩:=hk
  simp_all[sizeOf,typeInfo]
 have run:∀ (a:Option Addr) (n cap l r m:Nat),(Instr.sliceBounds true n cap lo' hi' mx').run P w=.ok (l,r,m) w->
   (Instr.sliceAt t (.slice a n cap) lo' hi' mx').run P w=.ok (.slice (if m=l then a else a.map (·.add (l*k))) (r-l) (m-l)) w:=by
  simp_all[Instr.sliceAt,Instr.slice,run_underlying]
 cases x with
 |emp=>
  obtain⟨a,rfl⟩:=hx.emp_inv;simp only[gh,Option.map_eq_some_iff]at hz;obtain⟨⟨l,r⟩,h1,rfl⟩:=hz;obtain⟨m,h2,h3,h4,h5,h6,_⟩:=pF (P:=P) true hl hh hm h1 (Nat.le_refl 0);grind
 |sl k' rows=>
  obtain⟨a,cap,rfl,hcap⟩:=hx.sl_inv.sl_form;simp only[gh]at hz;split at hz
  ·rename_i hkk;subst hkk;simp only[Option.map_eq_some_iff]at hz;obtain⟨⟨l,r⟩,h1,rfl⟩:=hz;obtain⟨m,h2,h3,h4,h5,h6,h7,h8⟩:=pF (P:=P) true hl hh hm h1 hcap;refine⟨_,run _ _ _ _ _ _ h2,?_⟩;split
   ·rename_i hZ;have:m=0:=h8 hZ;have:l=0:=by omega
    have:r=0:=by omega
    subst_vars
    exact .dat (.emp _)
   ·have hd:=hx.sl_inv;cases hd with
    |sl _ _ _ _ ad vals hc ha hk' hv hdl hr=>
     have hlen:((rows.drop l).take (r-l)).length=r-l:=by grind
     have key:RD w A (.sl k' ((rows.drop l).take (r-l))) (.slice (if m=l then a else a.map (·.add (l*k'))) ((rows.drop l).take (r-l)).length (m-l)):=by
      have at_:∀ (i:Nat) (row:List AV),((rows.drop l).take (r-l))[i]?=some row->rows[l+i]?=some row:=by
       grind
      refine .sl k' _ _ _ (ad.add (l*k')) (fun i j=>vals (l+i) j) (by omega) (fun hne=>?_) (fun row hrow=>hk' row (List.mem_of_mem_drop (List.mem_of_mem_take hrow))) (fun i row j c h1 h2=>?_) (fun row hrow=>hdl row (List.mem_of_mem_drop (List.mem_of_mem_take hrow))) (fun i row j c h1 h2=>hr _ _ _ _ (at_ i row h1) h2)
      ·have hlr:l<r:=by
        rcases Nat.lt_or_ge l r with hlt|hge
        all_goals simp_all
       have hr0:rows≠[]:=by grind
       obtain⟨ha1,ha2,ha3⟩:=ha hr0;refine⟨?_,by grind[lY],F8 _ ha3⟩;grind
      grind[xC,Nat.add_assoc,Nat.add_mul]
     rw[hlen]at key;exact .dat key
  grind
 |rsl id sub k' l0 n=>
  obtain⟨a,cap,rfl,hp,hn,hb,ha⟩:=hx.rsl_inv;simp only[gh]at hz;split at hz
  ·rename_i hkk;subst hkk;simp only[Option.map_eq_some_iff]at hz;obtain⟨⟨l,r⟩,h1,rfl⟩:=hz;obtain⟨m,h2,h3,h4,h5,h6,h7,h8⟩:=pF (P:=P) true hl hh hm h1 hn;cases hmx:mx with
   |some mv=>
    exact⟨_,run _ _ _ _ _ _ h2,.anyv _⟩
   |none=>
   have hmc:m=cap:=h7 hmx;refine⟨_,run _ _ _ _ _ _ h2,.rsl _ _ _ _ _ _ _ hp (by omega) (by grind) ?_⟩;rcases ha with h0|h0
   ·omega
   ·by_cases hml:m=l
    all_goals simp_all[if_neg,Option.map_some,kn,Nat.add_mul]
  grind
 |rsc id k' l0 n c=>
  obtain⟨a,rfl,hp,hn,hb,ha⟩:=hx.rsc_inv;simp only[gh]at hz;split at hz
  ·rename_i hkk;subst hkk;unfold M9 at hz;split at hz
   ·rename_i hi;cases hm;cases hl;simp only[Option.map_eq_some_iff]at hz;obtain⟨r,h1,rfl⟩:=hz;cases hh with
    | @some _ uh hv=>
    have h6:=fun code=>vE (P:=P) hv h1 c (Nat.le_refl _) code;have hbd:(Instr.sliceBounds true n c none (some uh) none).run P w=.ok (0,r,c) w:=by
     simp_all[Instr.sliceBounds]
    refine⟨_,run _ _ _ _ _ _ hbd,.rsc _ _ _ _ _ _ hp (by have:=(h6 .sliceAcap).2;omega) hb ?_⟩;rcases ha with h0|h0
    all_goals simp_all[if_neg,kn]
   ·simp only[Option.map_eq_some_iff]at hz;obtain⟨⟨l,r⟩,h1,rfl⟩:=hz;cases hm;obtain⟨m,h2,h3,h4,h5,h6,h7,h8⟩:=pF (P:=P) true hl hh .none h1 hn;have hmc:m=c:=h7 rfl;refine⟨_,run _ _ _ _ _ _ h2,.rsl _ _ _ _ _ _ _ hp (by omega) (by grind) ?_⟩;rcases ha with h0|h0
    ·omega
    ·by_cases hml:m=l
     all_goals simp_all[if_neg,Option.map_some,kn,Nat.add_mul]
   grind
  grind
 |_=>simp[gh]at hz
theorem TE{t:TypeId}(ht:P.underlying t=some .string){x z:AV}{u:Value}{lo hi:Option AV}{lo' hi':Option Value}
  (hx:RV w A ρ h x u) (hl:RVo w A ρ h lo lo') (hh:RVo w A ρ h hi hi') (hz:ML x lo hi=some z):n7 P w A ρ h (Instr.sliceAt t u lo' hi' none) z:=by
 unfold ML at hz;split at hz
 ·obtain⟨rfl,_⟩:=hx.v_inv;simp only[Option.map_eq_some_iff]at hz;obtain⟨⟨l,r⟩,h1,rfl⟩:=hz;obtain⟨m,h2,_⟩:=pF (P:=P) (mx:=none) (mx':=none) false hl hh .none h1 (Nat.le_refl _);exact⟨_,by simp_all[Instr.sliceAt,Instr.slice,run_underlying],.dat (.v _ rfl)⟩
 grind
end
section
variable {P:Program} {w:World} {A:Nat→Prop} {ρ:br} {h:ac} {s:af} {a:Act}
theorem eX{e:TypeId}{k:Nat}(hk:bo P e=some k)(w:World):(sizeOf e).run P w=.ok k w:=by
 simp only[bo,Option.map_eq_some_iff]at hk;obtain⟨i,h1,h2⟩:=hk
 simp_all[sizeOf,typeInfo]
theorem EA{e:TypeId}{g:Bool}(hg:nS P e=some g)(w:World):(isAgg e).run P w=.ok g w:=by
 unfold nS at hg;split at hg
 all_goals simp_all[isAgg,Sem.run_bind,run_underlying,Result.andThen]
theorem Fr{t:TypeId}{f:Nat}{fd:Field}(hf:Aq P t f=some fd):∃fs,P.underlying t=some (.struct fs)/\fs[f]?=some fd:=by
 grind[Aq]
theorem RV.ipt_drop{cs:List AV}{u:Value}(n:Nat)(hx:RV w A ρ h (.ipt cs) u):∃ad,u=.pointer (some ad)/\RV w A ρ h (.ipt (cs.drop n)) (.pointer (some (ad.add n))):=by
 cases hx with
 |dat hd=>cases hd
 |ipt _ ad vals hA hs hv hl hr=>
  refine⟨ad,rfl,.ipt _ _ (fun j=>vals (n+j)) (by rw[lY];omega) (F8 _ hs) (fun j c hc=>?_) (fun c hc=>hl c (List.mem_of_mem_drop hc)) (fun j c hc=>?_)⟩
  ·rw[xC];grind
  grind
theorem TF{t:TypeId}{f:Nat}{fd:Field}{k:Nat}(hf:Aq P t f=some fd)(hk:bo P fd.type=some k)(hk0:k≠0){x z:AV}{u:Value}(hx:RV w A ρ h x u)(hz:uU fd.offset x=some z):
  n7 P w A ρ h (Instr.fieldAt t u f) z:=by
 obtain⟨fs,h1,h2⟩:=Fr hf;have run:∀ad,(Instr.fieldAt t (.pointer (some ad)) f).run P w=.ok (.pointer (some (ad.add fd.offset))) w:=by
  simp_all[Instr.fieldAt,run_underlying,Instr.sureAddr,fieldPlace,eX]
 cases x with
 |ref id sub k i j=>
  obtain⟨rfl,hp⟩:=hx.ref_inv;simp[uU]at hz;subst hz;refine⟨_,run _,?_⟩;rw[kn,Nat.add_assoc];exact .ref _ _ _ _ _ hp
 |ipt cs=>
  simp[uU]at hz;obtain⟨ad,rfl,h3⟩:=hx.ipt_drop fd.offset;grind
 |_=>simp[uU]at hz
theorem Hn{e:TypeId}{k off:Nat}{g:Bool}(hk:bo P e=some k)(hg:nS P e=some g){cs:List AV}{us:Array Value}{z:AV}(hs:us.size=cs.length)
  (h1:∀ (i:Nat) (u:Value),us[i]?=some u->u.oneCell'=true) (hr:∀ (i:Nat) (c:AV) (u:Value),cs[i]?=some c->us[i]?=some u->RV w A ρ h c u) (hz:jR k g cs off=some z):
  n7 P w A ρ h (part e us off) z:=by
 unfold jR at hz;cases g with
 |true=>
  simp only[if_true]at hz;split at hz
  ·cases hz;refine⟨.agg (us.extract off (off+k)),by simp_all[part,EA,eX],.agg _ _ ?_ (fun i u hu=>?_) (fun i c u hc hu=>?_)⟩
   ·grind
   ·rw[Array.getElem?_extract]at hu;grind
   grind
  grind
 |false=>
  have hlt:off<us.size:=by grind
  obtain⟨u,hu⟩:∃u,us[off]?=some u:=⟨us[off],Array.getElem?_eq_getElem hlt⟩;exact⟨u,by simp_all[part,EA],hr _ _ _ hz hu⟩
theorem VV{t:TypeId}{f:Nat}{fd:Field}{k:Nat}{g:Bool}(hf:Aq P t f=some fd)(hk:bo P fd.type=some k)(hg:nS P fd.type=some g){x z:AV}{u:Value}(hx:RV w A ρ h x u)(hz:Na fd.offset k g x=some z):
  n7 P w A ρ h (Instr.field t u f) z:=by
 obtain⟨fs,h1,h2⟩:=Fr hf;unfold Na at hz;split at hz
 ·obtain⟨us,rfl,hs,h3,hr⟩:=hx.agg_inv;obtain⟨v,h4,h5⟩:=Hn hk hg hs h3 hr hz;exact⟨v,by simp_all[Instr.field,run_underlying,asAgg],h5⟩
 grind
theorem QW{t e:TypeId}{k:Nat}(ht:P.underlying t=some (.slice e))(hk:bo P e=some k){x i z:AV}{u v:Value}(hx:RV w A ρ h x u)(hi:RV w A ρ h i v)(hz:qN k x i=some z):
  n7 P w A ρ h (Instr.indexAt t u v) z:=by
 have he:P.elem t=e:=by grind[Program.elem]
 unfold qN at hz;split at hz
 ·split at hz
  ·rename_i k' rows kk q hkk;obtain⟨rfl,_⟩:=hi.v_inv;unfold aV at hz;split at hz
   ·simp only[Option.map_eq_some_iff]at hz;obtain⟨row,h1,rfl⟩:=hz;have hlt:=(List.getElem?_eq_some_iff.1 h1).1;have hne:rows≠[]:=by grind
    have hd:=hx.sl_inv;cases hd with
    |sl _ _ a cap ad vals hc ha hk' hv hdl hr=>
     obtain⟨rfl,hA,hsp⟩:=ha hne;refine⟨_,?_,.ipt row (ad.add (q.toNat*k')) (vals q.toNat) (by grind[lY]) (F8 _ hsp) (fun j c hc=>by grind[xC]) (hdl row (List.mem_of_getElem? h1)) (fun j c hc=>hr _ _ _ _ h1 hc)⟩
     simp_all[run_indexAt_slice,if_pos,eX]
   grind
  grind
 ·split at hz
  ·rename_i id sub k' lo n kk q hkk;subst hkk;split at hz
   ·cases hz;obtain⟨rfl,_⟩:=hi.v_inv;obtain⟨a,cap,rfl,hp,hn,hb,ha⟩:=hx.rsl_inv;have ha:a=some ⟨(ρ id sub).1,lo*k',none⟩:=by
     grind
    refine⟨_,?_,.ref id sub k' (lo+q.toNat) 0 hp⟩
    simp_all[run_indexAt_slice,if_pos,eX,Result.andThen,kn,Nat.add_zero,Nat.add_mul]
   grind
  grind
 grind
theorem QX{t e:TypeId}{n k:Nat}(ht:P.underlying t=some (.array n e))(hk:bo P e=some k){x i z:AV}{u v:Value}(hx:RV w A ρ h x u)(hi:RV w A ρ h i v)(hz:Ap n k x i=some z):
  n7 P w A ρ h (Instr.indexAt t u v) z:=by
 have he:P.elem t=e:=by grind[Program.elem]
 have hn:P.arrayLen t=n:=by grind[Program.arrayLen]
 have run:∀ad kk (q:Int),0<=q/\q<n->(Instr.indexAt t (.pointer (some ad)) (.int kk q)).run P w=.ok (.pointer (some (ad.add (q.toNat*k)))) w:=by
  simp_all[run_indexAt_array,if_pos,eX]
 unfold Ap at hz;split at hz
 ·split at hz
  ·cases hz;obtain⟨rfl,_⟩:=hi.v_inv;obtain⟨rfl,hp⟩:=hx.ref_inv;refine⟨_,run _ _ _ (by omega),?_⟩;rw[kn,Nat.add_assoc];exact .ref _ _ _ _ _ hp
  grind
 ·split at hz
  ·rename_i cs kk q hq;obtain⟨rfl,_⟩:=hi.v_inv;obtain⟨ad,rfl,h3⟩:=hx.ipt_drop (q.toNat*k);grind
  grind
 grind
theorem TG{t:TypeId}(ht:P.underlying t=some .string){x i z:AV}{u v:Value}(hx:RV w A ρ h x u)(hi:RV w A ρ h i v)(hz:El x i=some z):n7 P w A ρ h (Instr.index t u v) z:=by
 unfold El at hz;split at hz
 ·obtain⟨rfl,_⟩:=hi.v_inv;obtain⟨rfl,_⟩:=hx.v_inv;split at hz
  ·simp only[Option.map_eq_some_iff]at hz;obtain⟨b,h1,rfl⟩:=hz;exact⟨_,by simp_all[Instr.index,asIntOf,run_underlying],.dat (.v _ rfl)⟩
  grind
 grind
theorem TH{t e:TypeId}{n k:Nat}{g:Bool}(ht:P.underlying t=some (.array n e))(hk:bo P e=some k)(hg:nS P e=some g){x i z:AV}{u v:Value}(hx:RV w A ρ h x u)(hi:RV w A ρ h i v)(hz:Em n k g x i=some z):
  n7 P w A ρ h (Instr.index t u v) z:=by
 unfold Em at hz;split at hz
 ·split at hz
  ·obtain⟨rfl,_⟩:=hi.v_inv;obtain⟨us,rfl,hs,h3,hr⟩:=hx.agg_inv;obtain⟨v,h4,h5⟩:=Hn hk hg hs h3 hr hz;exact⟨v,by simp_all[Instr.index,asIntOf,run_underlying,eX],h5⟩
  grind
 grind
theorem VW{i:Nat}{x z:AV}{u:Value}(hx:RV w A ρ h x u)(hz:Nb i x=some z):n7 P w A ρ h (Instr.extract u i) z:=by
 unfold Nb at hz;split at hz
 ·cases hx with
  |dat hd=>cases hd
  |tup vs us hs hr=>
   have hlt:i<us.size:=by grind
   obtain⟨u,hu⟩:∃u,us[i]?=some u:=⟨us[i],Array.getElem?_eq_getElem hlt⟩;exact⟨u,by simp[Instr.extract,hu],hr _ _ _ hz hu⟩
 grind
theorem TI{t ty e:TypeId}{ts:Array TypeId}(h0:ts[0]?=some t)(ht:P.underlying t=some (.slice e)){x z:AV}{u:Value}(hx:RV w A ρ h x u)(hz:lC false x=some z):n7 P w A ρ h (Builtin.len_ ts ty #[u]) z:=by
 have run:∀a n c,(Builtin.len_ ts ty #[.slice a n c]).run P w=.ok (goInt n) w:=by
  simp_all[Builtin.len_,run_underlying]
 cases x with
 |emp=>obtain⟨a,rfl⟩:=hx.emp_inv;simp[lC]at hz;subst hz;exact⟨_,run _ _ _,.dat (.v _ rfl)⟩
 |sl k rows=>obtain⟨a,cap,rfl,_⟩:=hx.sl_inv.sl_form;simp[lC]at hz;subst hz;exact⟨_,run _ _ _,.dat (.v _ rfl)⟩
 |rsl=>obtain⟨a,cap,rfl,_⟩:=hx.rsl_inv;simp[lC]at hz;subst hz;exact⟨_,run _ _ _,.dat (.v _ rfl)⟩
 |rsc=>obtain⟨a,rfl,_⟩:=hx.rsc_inv;simp[lC]at hz;subst hz;exact⟨_,run _ _ _,.dat (.v _ rfl)⟩
 |v x=>cases x<;>simp[lC]at hz
 |_=>simp[lC]at hz
theorem TJ{t ty:TypeId}{ts:Array TypeId}(h0:ts[0]?=some t)(ht:P.underlying t=some .string){x z:AV}{u:Value}(hx:RV w A ρ h x u)(hz:lC true x=some z):n7 P w A ρ h (Builtin.len_ ts ty #[u]) z:=by
 cases x with
 |v x=>
  cases x with
  |string b=>
   obtain⟨rfl,_⟩:=hx.v_inv;simp[lC]at hz;subst hz;exact⟨_,by simp[Builtin.len_,h0,run_underlying ht];rfl,.dat (.v _ rfl)⟩
  |_=>simp[lC]at hz
 |_=>simp[lC]at hz
theorem VX{t ty e:TypeId}{ts:Array TypeId}(h0:ts[0]?=some t)(ht:P.underlying t=some (.slice e)){x z:AV}{u:Value}(hx:RV w A ρ h x u)(hz:Nc x=some z):n7 P w A ρ h (Builtin.cap_ ts ty #[u]) z:=by
 unfold Nc at hz;split at hz
 ·obtain⟨a,rfl⟩:=hx.emp_inv;cases hz;exact⟨_,by simp[Builtin.cap_,h0,run_underlying ht];rfl,.dat (.v _ rfl)⟩
 ·obtain⟨a,rfl,_⟩:=hx.rsc_inv;cases hz;exact⟨_,by simp[Builtin.cap_,h0,run_underlying ht];rfl,.dat (.v _ rfl)⟩
 grind
theorem TK{m:Bool}{x y z:AV}{u v:Value}(hx:RV w A ρ h x u)(hy:RV w A ρ h y v)(hz:Ji m x y=some z):
  ∃r,(if m then Builtin.min2 u v else Builtin.max2 u v)=pure r/\RV w A ρ h z r:=by
 unfold Ji at hz;split at hz
 ·obtain⟨rfl,_⟩:=hx.v_inv;obtain⟨rfl,_⟩:=hy.v_inv;cases hz;cases m
  ·exact⟨_,by simp only[Bool.false_eq_true,if_false,Builtin.max2],.dat (.v _ rfl)⟩
  ·exact⟨_,by simp only[if_true,Builtin.min2],.dat (.v _ rfl)⟩
 grind
theorem Ho{m:Bool}:∀ {ys:List AV} {vs:List Value} {x z:AV} {u:Value},RV w A ρ h x u->vs.length=ys.length->(∀ (i:Nat) (c:AV) (u:Value),ys[i]?=some c->vs[i]?=some u->RV w A ρ h c u)->zK m x ys=some z->
  ∃r,(vs.foldlM (fun a b=>if m then Builtin.min2 a b else Builtin.max2 a b) u).run P w=.ok r w/\RV w A ρ h z r
 |[],[],x,z,u,hx,_,_,hz=>by
  simp_all[zK,Option.some.injEq]
 |[],v::vs,x,z,u,_,hl,_,_=>by grind
 |y::ys,[],x,z,u,_,hl,_,_=>by grind
 |y::ys,v::vs,x,z,u,hx,hl,hv,hz=>by
  simp only[zK,Option.bind_eq_some_iff]at hz;obtain⟨c,e1,e2⟩:=hz;obtain⟨r,h1,h2⟩:=TK hx (hv 0 y v rfl rfl) e1;obtain⟨r',h3,h4⟩:=Ho h2 (by simpa using hl) (fun i c u h5 h6=>hv (i+1) c u (by grind) (by grind)) e2;grind
theorem K7{m:Bool}{ts:Array TypeId}{ty:TypeId}{x z:AV}{ys:List AV}{u:Value}{vs:List Value}{args:Array Value}(ha:args.toList=u::vs)(hx:RV w A ρ h x u)(hl:vs.length=ys.length)(hy:∀ (i:Nat) (c:AV) (u:Value),ys[i]?=some c->vs[i]?=some u->RV w A ρ h c u)(hz:zK m x ys=some z):
  n7 P w A ρ h (if m then Builtin.min_ ts ty args else Builtin.max_ ts ty args) z:=by
 obtain⟨r,h1,h2⟩:=Ho (P:=P) hx hl hy hz;refine⟨r,?_,h2⟩;cases m
 all_goals simp_all[Bool.false_eq_true,if_false,Builtin.max_,if_true,Builtin.min_]
theorem we(j:Nat):∀ (cs row:List AV),(setRow row j cs).length=row.length:=by
 intro cs;induction cs generalizing j with
 |nil=>intro row;rfl
 |cons c cs ih=>grind[setRow,List.length_set]
theorem pG(i:Nat):∀ (cs row:List AV) (j:Nat),j+cs.length<=row.length->(setRow row j cs)[i]?=if j<=i/\i<j+cs.length then cs[i-j]? else row[i]?:=by
 intro cs;induction cs with
 |nil=>grind[setRow]
 |cons c cs ih=>
  simp only[setRow];grind
def Cells(w:World)(A:Nat->Prop)(ρ:br)(h:ac)(cs:List AV)(us:Array Value):Prop:=
 us.size=cs.length/\(∀ (i:Nat) (u:Value),us[i]?=some u->u.oneCell'=true)/\(∀ (i:Nat) (c:AV) (u:Value),cs[i]?=some c->us[i]?=some u->RV w A ρ h c u)
theorem vf{x:AV}{u:Value}{cs:List AV}(hx:RV w A ρ h x u)(hc:fC x=some cs):Cells w A ρ h cs u.cells:=by
 have one:∀ {x:AV} {u:Value},RV w A ρ h x u->u.oneCell'=true->u.cells=#[u]->Cells w A ρ h [x] u.cells:=by
  intro x u hx h1 h2;rw[h2];refine⟨rfl,fun i v hv=>?_,fun i c v hc hv=>?_⟩
  all_goals grind
 unfold fC at hc;split at hc
 ·cases hc;obtain⟨us,rfl,h1,h2,h3⟩:=hx.agg_inv;exact⟨h1,h2,h3⟩
 all_goals first| (cases hc;done)|skip
 have h1:u.oneCell'=true/\u.cells=#[u]:=by
  cases x with
  |v x=>obtain⟨rfl,h⟩:=hx.v_inv;exact⟨Bq h,by cases u<;>first|rfl|simp[oP]at h⟩
  |emp=>obtain⟨a,rfl⟩:=hx.emp_inv;exact⟨rfl,rfl⟩
  |sl k rows=>obtain⟨a,cap,rfl,_⟩:=hx.sl_inv.sl_form;exact⟨rfl,rfl⟩
  |ref=>obtain⟨rfl,_⟩:=hx.ref_inv;exact⟨rfl,rfl⟩
  |rsl=>obtain⟨a,cap,rfl,_⟩:=hx.rsl_inv;exact⟨rfl,rfl⟩
  |rsc=>obtain⟨a,rfl,_⟩:=hx.rsc_inv;exact⟨rfl,rfl⟩
  |ipt cs=>obtain⟨ad,rfl,_⟩:=hx.ipt_drop 0;exact⟨rfl,rfl⟩
  |fn=>obtain⟨us,ts,rfl,_⟩:=hx.fn_inv;exact⟨rfl,rfl⟩
  |_=>simp_all
 grind
theorem Cells.set{cs ds:List AV}{us vs:Array Value}{off:Nat}(hc:Cells w A ρ h cs us)(hd:Cells w A ρ h ds vs)(hle:off+ds.length<=cs.length):
  Cells w A ρ h (setRow cs off ds) (vs.zipIdx.foldl (fun cs (c,j)=>cs.setIfInBounds (off+j) c) us):=by
 have fold:∀ (l:List Value) (k:Nat) (us:Array Value),((l.zipIdx k).foldl (fun cs (x:Value×Nat)=>cs.setIfInBounds (off+x.2) x.1) us).size=us.size/\
   ∀ (i:Nat),off+k+l.length<=us.size->((l.zipIdx k).foldl (fun cs (x:Value×Nat)=>cs.setIfInBounds (off+x.2) x.1) us)[i]?=if off+k<=i/\i<off+k+l.length then l[i- (off+k)]? else us[i]?:=by
  intro l;induction l with
  |nil=>intro k us;exact⟨by simp,fun i _=>by simp;omega⟩
  |cons v l ih=>
   simp only[List.zipIdx_cons,List.foldl_cons];grind
 have e:vs.zipIdx.foldl (fun cs (c,j)=>cs.setIfInBounds (off+j) c) us=(vs.toList.zipIdx 0).foldl (fun cs (x:Value×Nat)=>cs.setIfInBounds (off+x.2) x.1) us:=by
  rw[←Array.foldl_toList,Array.toList_zipIdx]
 obtain⟨h1,h2⟩:=fold vs.toList 0 us;have hl:vs.toList.length=ds.length:=by simpa using hd.1
 have g:∀i,(vs.zipIdx.foldl (fun cs (c,j)=>cs.setIfInBounds (off+j) c) us)[i]?=if off<=i/\i<off+ds.length then vs[i-off]? else us[i]?:=by
  intro i;rw[e,h2 i (by rw[hl,hc.1];omega)];grind
 refine⟨by rw[e,h1,we];exact hc.1,fun i u hu=>?_,fun i c u hcc hu=>?_⟩
 ·rw[g]at hu;split at hu
  ·exact hd.2.1 _ _ hu
  ·exact hc.2.1 _ _ hu
 ·rw[g]at hu;rw[pG i ds cs off hle]at hcc;split at hu
  ·rename_i hi;rw[if_pos hi]at hcc;exact hd.2.2 _ _ _ hcc hu
  ·rename_i hi;rw[if_neg hi]at hcc;exact hc.2.2 _ _ _ hcc hu
theorem Bs{place:Nat->Option (Nat×Nat)}(hs:RS w A ρ h s a.tmps):∀ (ps:List (Nat×Operand)) (q:List (Nat×Nat×Opd)),xB P place ps=some q->
  ∀ (zero:List AV) (us:Array Value),Cells w A ρ h zero us->∀cs,sw zero (q.map fun p=>(p.1,p.2.1,ev s p.2.2))=some cs->
   ∃vs,Instr.fill place us (ps.map fun p=>(p.1,a.eval p.2))=some vs/\Cells w A ρ h cs vs
 |[],q,hq,zero,us,hz,cs,hb=>by
  simp[xB]at hq;subst hq;simp[sw]at hb;subst hb;exact⟨us,rfl,hz⟩
 | (i,x)::ps,q,hq,zero,us,hz,cs,hb=>by
  simp only[xB,Option.bind_eq_some_iff]at hq;obtain⟨⟨off,k⟩,h1,y,h2,q',h3,h4⟩:=hq;cases h4;simp only[List.map_cons,sw,Option.bind_eq_some_iff]at hb;obtain⟨ds,h5,h6⟩:=hb;split at h6
  ·have h7:=vf (aN h2 hs) h5;have h8:=hz.set (off:=off) h7 (by omega);obtain⟨vs,h9,h10⟩:=Bs hs ps q' h3 _ _ h8 cs h6;refine⟨vs,?_,h10⟩;simp only[List.map_cons,Instr.fill,h1];rw[if_neg (by have e1:=h7.1;have e2:=hz.1;grind)];omega
  grind
theorem Hp:∀ (l:List Value) (cs:List AV),CR l=some cs->Cells w A ρ h cs l.toArray
 |[],cs,hc=>by simp[CR]at hc;subst hc;exact⟨rfl,fun i u hu=>by grind,fun i c u hc=>by grind⟩
 |v::l,cs,hc=>by
  simp only[CR,Option.bind_eq_some_iff]at hc;obtain⟨c,h1,q,h2,h3⟩:=hc;cases h3;obtain⟨e1,e2,e3⟩:=Hp l q h2;have hv:RD w A c v:=K5 h1;have ho:v.oneCell'=true:=by unfold Nr at h1;split at h1<;>first|rfl|cases h1
  refine⟨by grind,fun i u hu=>?_,fun i c' u hc hu=>?_⟩
  ·cases i with
   |zero=>grind
   |succ i=>exact e2 i u (by grind)
  ·cases i with
   |zero=>simp at hu hc;subst hu hc;exact .dat hv
   |succ i=>grind
theorem kq{t:TypeId}{zs:List AV}(hz:iD P t=some zs):∃ (i:TypeInfo) (z:Value),P.info? t=some i/\i.zero=some z/\z.cells.size=i.size/\zs.length=i.size/\Cells w A ρ h zs z.cells:=by
 simp only[iD,Option.bind_eq_some_iff]at hz;obtain⟨i,h1,z,h2,h3⟩:=hz;split at h3
 ·rename_i h4;have h5:=Hp (w:=w) (A:=A) (ρ:=ρ) (h:=h) _ _ h3;refine⟨i,z,h1,h2,h4,?_,by omega⟩;have:=h5.1;grind
 grind
theorem QY{t:TypeId}{ps:Array (Nat×Operand)}{pop:POp}(hc:Ns P t ps.toList=some pop)(hs:RS w A ρ h s a.tmps){z:AV}(hz:eO s pop=some z):
  n7 P w A ρ h (Instr.build t (ps.map fun(i,x)=>(i,a.eval x))) z:=by
 simp only[Ns,Option.bind_eq_some_iff]at hc;obtain⟨zs,h1,hc⟩:=hc;obtain⟨i,zv,g1,g2,g3,g4,g5⟩:=kq (w:=w) (A:=A) (ρ:=ρ) (h:=h) h1;have hzero:∀w,(zeroValue t).run P w=.ok zv w:=fun w=>by simp_all[zeroValue,typeInfo]
 split at hc
 ·rename_i fs ht;split at hc
  ·rename_i hall;simp only[Option.map_eq_some_iff]at hc;obtain⟨q,h2,rfl⟩:=hc;simp only[eO,Option.map_eq_some_iff]at hz;obtain⟨cs,h3,rfl⟩:=hz;obtain⟨vs,h4,h5⟩:=Bs hs _ _ h2 _ _ g5 _ h3;refine⟨.agg vs,?_,.agg _ _ h5.1 h5.2.1 h5.2.2⟩;have hplaces:∀w,(fs.mapM fun f=>(do pure (f.offset,←sizeOf f.type):Sem (Nat×Nat))).run P w=.ok (fs.map fun f=>(f.offset,(bo P f.type).getD 0)) w:=by
    intro w;rw[Array.mapM_eq_mapM_toList];have:∀l:List Field,(∀f∈l,(bo P f.type).isSome)->(l.mapM fun f=>(Prod.mk f.offset<$>sizeOf f.type:Sem (Nat×Nat))).run P w=.ok (l.map fun f=>(f.offset,(bo P f.type).getD 0)) w:=by
     intro l;induction l with
     |nil=>simp_all
     |cons f l ih=>
      intro hl;obtain⟨k,hk⟩:=Option.isSome_iff_exists.1 (hl f (by simp))
      simp_all[eX]
    have hall':∀f∈fs.toList,(bo P f.type).isSome:=by
     intro f hf;have:=Array.all_eq_true_iff_forall_mem.1 hall f (by grind);omega
    simp[this _ hall'];grind
   have hpl:(fun i=>(fs.map fun f=>(f.offset,(bo P f.type).getD 0))[i]?)=Et P fs:=by
    funext i;simp only[Et,Array.getElem?_map];cases hf:fs[i]? with
    |none=>rfl
    |some f=>
     obtain⟨k,hk⟩:=Option.isSome_iff_exists.1 (show(bo P f.type).isSome from by
      grind)
     grind
   simp_all[Instr.build,Sem.run_bind,run_underlying,Result.andThen]
  grind
 ·simp only[Option.bind_eq_some_iff,Option.map_eq_some_iff]at hc;obtain⟨k,hk,q,h2,rfl⟩:=hc;simp only[eO,Option.map_eq_some_iff]at hz;obtain⟨cs,h3,rfl⟩:=hz;obtain⟨vs,h4,h5⟩:=Bs hs _ _ h2 _ _ g5 _ h3;refine⟨.agg vs,?_,.agg _ _ h5.1 h5.2.1 h5.2.2⟩
  simp_all[Instr.build,Sem.run_bind,run_underlying,Result.andThen,eX]
 grind
theorem VY{f:FuncId}{xs ys:List Operand}{x y:List Opd}(hx:mu xs=some x)(hy:mu ys=some y)(hs:RS w A ρ h s a.tmps):
  RV w A ρ h (.fn f (x.map (ev s)) (y.map (ev s))) (.func (.func f) (xs.map a.eval).toArray (ys.map a.eval).toArray):=by
 obtain⟨h1,h2⟩:=rR hs hx;obtain⟨h3,h4⟩:=rR hs hy;have key:∀ {xs:List Operand} {x:List Opd},x.length=xs.length->(∀ (i:Nat) (o:Operand) (p:Opd),xs[i]?=some o->x[i]?=some p->RV w A ρ h (ev s p) (a.eval o))->
   ∀ (i:Nat) (c:AV) (u:Value),(x.map (ev s))[i]?=some c->(xs.map a.eval).toArray[i]?=some u->RV w A ρ h c u:=by
  grind
 exact .fn f _ _ _ _ (by grind) (by grind) (key h1 h2) (key h3 h4)
theorem YH{y:Operand}(hc:bG y=some (.c .emp)):a.eval y=.slice none 0 0:=by
 cases y with
 |tmp t=>grind[bG]
 |func f=>grind[bG]
 |global g=>grind[bG]
 |const v=>
  simp only[bG,Option.map_eq_some_iff,Opd.c.injEq]at hc;obtain⟨c,h1,rfl⟩:=hc;unfold Nr at h1;split at h1<;>first| (cases h1;done)|rfl
theorem TL{op:BinOp}{n:Bool}{t e:TypeId}{xo yo:Operand}{x z:AV}{u:Value}(ht:P.underlying t=some (.slice e))(hx:RV w A ρ h x u)(hop:CS op=some n)(hz:Ek n x=some z):
  n7 P w A ρ h (do eqGuard op t xo yo u (.slice none 0 0);binOp op t u (.slice none 0 0)) z:=by
 have hop':(op=.eql/\n=false)\/(op=.neq/\n=true):=by grind[CS]
 have hu:(∃ad m c,u=.slice (some ad) m c)/\z=B n:=by
  unfold Ek at hz;split at hz
  ·cases hx with
   |dat hd=>
    cases hd with
    |sl k rows a cap ad vals hc ha hk hv hl hr=>
     simp_all
  ·split at hz
   ·obtain⟨a,cap,rfl,hp,hn,hb,ha⟩:=hx.rsl_inv;grind
   grind
  grind
 obtain⟨⟨ad,m,c,rfl⟩,rfl⟩:=hu;have heq:(Op.equal t (.slice (some ad) m c) (.slice none 0 0)).run P w=.ok false w:=by
  have h9:∀d,(Op.equalIn (d+1) t (.slice (some ad) m c) (.slice none 0 0)).run P w=.ok false w:=fun d=>by simp[Op.equalIn,run_underlying ht]
  exact h9 9999
 rcases hop' with⟨rfl,rfl⟩| ⟨rfl,rfl⟩
 ·refine⟨.bool false,?_,.dat (.v _ rfl)⟩;simp[eqGuard,binOp,heq,Result.andThen]
 ·refine⟨.bool true,?_,.dat (.v _ rfl)⟩;simp[eqGuard,binOp,heq,Result.andThen]
theorem TM{op:Op}{pop:POp}(hc:CT P op=some (.p pop))(hs:RS w A ρ h s a.tmps){z:AV}(hz:eO s pop=some z)(o:Oper)(ho:o.op=op):
  ∃v,(execOp a.eval o).run P w=.ok (.value v) w/\RV w A ρ h z v:=by
 have fin:∀ {m:Sem Value},n7 P w A ρ h m z->∃v,(do pure (.value (←m)):Sem Next).run P w=.ok (.value v) w/\RV w A ρ h z v:=by
  simp_all
 cases op<;>simp only[CT]at hc
 case move=>
  simp only[Option.map_eq_some_iff]at hc;obtain⟨y,h1,h2⟩:=hc;cases h2;cases hz
  simp_all[execOp,aN]
 case assign=>
  simp only[Option.map_eq_some_iff]at hc;obtain⟨y,h1,h2⟩:=hc;cases h2;cases hz
  simp_all[execOp,aN]
 case pick=>
  simp only[Option.bind_eq_some_iff,Option.map_eq_some_iff]at hc;obtain⟨c,h1,x,h2,y,h3,h4⟩:=hc;cases h4;obtain⟨v,g1,g2⟩:=TD (P:=P) (aN h1 hs) (aN h2 hs) (aN h3 hs) hz;exact⟨v,by simp only[execOp,ho];rw[Sem.run_bind]at g1⊢;cases hb:(asBool _).run P w<;>rw[hb]at g1<;>simp[Result.andThen]at g1⊢;omega,g2⟩
 case alloc=>simp_all
 case box=>simp_all[Option.bind_eq_some_iff]
 case build=>
  simp only[Option.map_eq_some_iff]at hc;obtain⟨p,h1,h2⟩:=hc;cases h2;simp only[execOp,ho];exact fin (QY h1 hs hz)
 case buildSlice=>
  simp_all[Eu,Option.bind_eq_some_iff]
 case load=>
  grind[Option.bind_eq_some_iff]
 case store=>simp_all[Option.bind_eq_some_iff]
 case nilCheck=>
  simp only[Option.map_eq_some_iff]at hc;obtain⟨y,h1,h2⟩:=hc;cases h2;have hv:=aN h1 hs;simp only[eO]at hz;cases hy:ev s y<;>rw[hy]at hz hv<;>simp[CI]at hz
  all_goals subst hz
  ·obtain⟨e,_⟩:=hv.ref_inv;simp_all[execOp]
  ·obtain⟨ad,e,_⟩:=hv.ipt_drop 0;simp_all[execOp]
  ·obtain⟨us,ts,e,_⟩:=hv.fn_inv;simp_all[execOp]
 case binOp=>
  simp only[Option.bind_eq_some_iff,Option.map_eq_some_iff]at hc;obtain⟨x,h1,y,h2,p,h3,h4⟩:=hc;cases h4;have hx:=aN h1 hs;have hy:=aN h2 hs;simp only[execOp,ho];refine fin ?_;unfold ac5 at h3;split at h3
  ·simp only[Option.map_eq_some_iff]at h3;obtain⟨n,h5,rfl⟩:=h3;exact CU (tc:=0) hx hy h5 ⟨fun _=>(by omega),fun e=>absurd e (by decide),fun e=>absurd e (by decide)⟩ hz
  ·simp only[Option.map_eq_some_iff]at h3;obtain⟨n,h5,rfl⟩:=h3;exact CU (tc:=1) hx hy h5 ⟨fun e=>absurd e (by decide),fun _=>⟨_,by omega⟩,fun e=>absurd e (by decide)⟩ hz
  ·simp only[Option.map_eq_some_iff]at h3;obtain⟨n,h5,rfl⟩:=h3;exact CU (tc:=2) hx hy h5 ⟨fun e=>absurd e (by decide),fun e=>absurd e (by decide),fun _=>⟨_,_,_,by omega⟩⟩ hz
  ·cases h3;exact K6 hx hy hz
  ·cases h3;exact K6 hx hy hz
  ·rename_i e ht;split at h3
   ·simp only[Option.map_eq_some_iff]at h3;obtain⟨n,h5,rfl⟩:=h3;rw[YH h2];exact TL ht hx h5 hz
   grind
  grind
 case unOp=>
  simp only[Option.map_eq_some_iff]at hc;obtain⟨y,h1,h2⟩:=hc;cases h2;simp only[execOp,ho];exact fin (YF (aN h1 hs) hz)
 case convert=>
  simp only[Option.bind_eq_some_iff,Option.map_eq_some_iff]at hc;obtain⟨x,h1,p,h2,h3⟩:=hc;cases h3;simp only[execOp,ho];unfold aaC at h2;split at h2
  ·rename_i e1 e2;cases h2;exact fin (YG (aN h1 hs) (by grind) e2 hz)
  ·rename_i e1 e2;cases h2;exact fin (VS (aN h1 hs) e1 e2 hz)
  grind
 case makeFunc fn _ _=>
  cases fn<;>simp only[Option.bind_eq_some_iff,Option.map_eq_some_iff]at hc<;>try (cases hc;done)
  obtain⟨x,h1,y,h2,h3⟩:=hc;cases h3;simp only[eO,Option.some.injEq]at hz;subst hz;simp only[execOp,ho];refine fin ⟨_,rfl,?_⟩;have e:∀l:Array Operand,(l.toList.map a.eval).toArray=l.map a.eval:=fun l=>Array.toList_inj.1 (by simp);have:=VY (f:=‹FuncId›) h1 h2 hs;grind
 case makeSlice=>
  simp_all[MO,Option.bind_eq_some_iff]
 case slice=>
  simp only[Option.bind_eq_some_iff,Option.map_eq_some_iff]at hc;obtain⟨x,h1,lo,h2,hi,h3,mx,h4,p,h5,h6⟩:=hc;cases h6;simp only[execOp,ho];refine fin ?_;unfold VP at h5;split at h5
  ·simp only[Option.map_eq_some_iff]at h5;obtain⟨k,h7,rfl⟩:=h5;exact VU (by omega) h7 (aN h1 hs) (lZ h2 hs) (lZ h3 hs) (lZ h4 hs) hz
  ·split at h5
   ·cases h5;have e4:=lZ h4 hs;simp only[evo]at e4;generalize hm:Option.map a.eval _=m at e4⊢;cases e4;exact TE (by omega) (aN h1 hs) (lZ h2 hs) (lZ h3 hs) hz
   grind
  grind
 case fieldAddr=>
  simp only[Option.bind_eq_some_iff]at hc;obtain⟨x,h1,f,h2,k,h3,hc⟩:=hc;split at hc
  ·grind
  ·cases hc;simp only[execOp,ho];exact fin (TF h2 h3 (by omega) (aN h1 hs) hz)
 case field=>
  simp only[Option.bind_eq_some_iff,Option.map_eq_some_iff]at hc;obtain⟨x,h1,f,h2,k,h3,g,h4,h5⟩:=hc;cases h5;simp only[execOp,ho];exact fin (VV h2 h3 h4 (aN h1 hs) hz)
 case indexAddr=>
  simp only[Option.bind_eq_some_iff,Option.map_eq_some_iff]at hc;obtain⟨x,h1,i,h2,p,h3,h4⟩:=hc;cases h4;simp only[execOp,ho];refine fin ?_;unfold aaD at h3;split at h3
  ·simp only[Option.map_eq_some_iff]at h3;obtain⟨k,h5,rfl⟩:=h3;exact QW (by omega) h5 (aN h1 hs) (aN h2 hs) hz
  ·simp only[Option.map_eq_some_iff]at h3;obtain⟨k,h5,rfl⟩:=h3;exact QX (by omega) h5 (aN h1 hs) (aN h2 hs) hz
  grind
 case index=>
  simp only[Option.bind_eq_some_iff,Option.map_eq_some_iff]at hc;obtain⟨x,h1,i,h2,p,h3,h4⟩:=hc;cases h4;simp only[execOp,ho];refine fin ?_;unfold ac6 at h3;split at h3
  ·cases h3;exact TG (by omega) (aN h1 hs) (aN h2 hs) hz
  ·simp only[Option.bind_eq_some_iff,Option.map_eq_some_iff]at h3;obtain⟨k,h5,g,h6,rfl⟩:=h3;exact TH (by omega) h5 h6 (aN h1 hs) (aN h2 hs) hz
  grind
 case extract=>
  simp only[Option.map_eq_some_iff]at hc;obtain⟨y,h1,h2⟩:=hc;cases h2;simp only[execOp,ho];exact fin (VW (aN h1 hs) hz)
 case call c=>
  unfold MR at hc;split at hc
  ·rename_i b hb;have run:∀ (args:Array Value),args=c.args.map a.eval->(execOp a.eval o).run P w=(builtin b c.argTypes o.type (c.args.map fun| .const _=>true|_=>false) args).run P w:=by
    grind[execOp,resolve,Sem.run_bind,Sem.run_pure,Result.andThen,invoke]
   unfold Bm at hc;split at hc
   ·rename_i t ts x e1 e2;simp only[Option.bind_eq_some_iff,Option.map_eq_some_iff]at hc;obtain⟨y,h1,p,h2,h3⟩:=hc;cases h3;have hargs:c.args.map a.eval=#[a.eval x]:=Array.toList_inj.1 (by simp[e2]);have h0:c.argTypes[0]?=some t:=by rw[←Array.getElem?_toList,e1];rfl
    rw[run _ rfl,hargs];unfold ac7 at h2;split at h2
    ·cases h2;exact fin (TI h0 (by omega) (aN h1 hs) hz)
    ·cases h2;exact fin (TJ h0 (by omega) (aN h1 hs) hz)
    ·rename_i n e ht;cases h2;simp only[eO,ev,Option.some.injEq]at hz;subst hz;exact fin ⟨_,by simp[Builtin.len_,h0,run_underlying ht];rfl,.dat (.v _ rfl)⟩
    grind
   ·rename_i t ts x e1 e2;simp only[Option.bind_eq_some_iff,Option.map_eq_some_iff]at hc;obtain⟨y,h1,p,h2,h3⟩:=hc;cases h3;have hargs:c.args.map a.eval=#[a.eval x]:=Array.toList_inj.1 (by simp[e2]);have h0:c.argTypes[0]?=some t:=by rw[←Array.getElem?_toList,e1];rfl
    rw[run _ rfl,hargs];unfold ac8 at h2;split at h2
    ·cases h2;exact fin (VX h0 (by omega) (aN h1 hs) hz)
    grind
   ·rename_i x l e2;simp only[Option.bind_eq_some_iff,Option.map_eq_some_iff]at hc;obtain⟨x',h1,y',h2,h3⟩:=hc;cases h3;obtain⟨l1,l2⟩:=rR hs h2;rw[run _ rfl];exact fin (K7 (m:=true) (ts:=c.argTypes) (ty:=o.type) (vs:=l.map a.eval) (by simp[e2]) (aN h1 hs) (by grind) (fun i c u h3 h4=>by
     grind) hz)
   ·rename_i x l e2;simp only[Option.bind_eq_some_iff,Option.map_eq_some_iff]at hc;obtain⟨x',h1,y',h2,h3⟩:=hc;cases h3;obtain⟨l1,l2⟩:=rR hs h2;rw[run _ rfl];exact fin (K7 (m:=false) (ts:=c.argTypes) (ty:=o.type) (vs:=l.map a.eval) (by simp[e2]) (aN h1 hs) (by grind) (fun i c u h3 h4=>by
     grind) hz)
   ·unfold Tz at hc;split at hc
    all_goals grind[MP,Option.bind_eq_some_iff]
   ·unfold MQ at hc;grind[Option.bind_eq_some_iff]
   ·unfold Hl at hc;grind[Option.bind_eq_some_iff]
   grind
  all_goals simp_all[Option.bind_eq_some_iff]
 all_goals cases hc
end
theorem aq{α:Type}(s:Nat->α)(d:Nat)(x:α):upd s d x d=x:=if_pos rfl
theorem aI{α:Type}(s:Nat->α){d i:Nat}(x:α)(hi:i≠d):upd s d x i=s i:=if_neg hi
theorem vF{h:ac}{id id':Nat}{o:Ob}(he:h id≠ .dead)(hd:upd h id o id'≠ .dead):h id'≠ .dead:=by
 grind[aI]
theorem cx{h h':ac}{id:Nat}{sub:Option Nat}(e:h' id=h id):live h' id sub↔live h id sub:=by
 cases sub<;>simp[live,e]
theorem dV{h h':ac}{id:Nat}{sub:Option Nat}(e:h' id=h id):bC h' id sub↔bC h id sub:=by
 simp_all[bC,cx]
theorem EB{w:World}{b:Nat}{o:Obj}(h:w.heap[b]?=some o):b<w.heap.size:=(Array.getElem?_eq_some_iff.1 h).1
section
variable {w:World} {X:Nat→Prop} {ρ:br} {h:ac}
theorem Rel.live_heap(r:Rel w X ρ h){id:Nat}{sub:Option Nat}(hl:live h id sub):∃us e,w.heap[(ρ id sub).1]?=some (.cells us e (0,0))/\us.size=(ρ id sub).2:=by
 have ho:=r.ob id;cases sub with
 |none=>
  cases e:h id with
  |bx cs=>rw[e]at ho;obtain⟨us,t,h1,h2,_⟩:=ho;grind
  |ar k rows=>rw[e]at ho;obtain⟨us,t,h1,h2,_⟩:=ho;grind
  |_=>simp[live,e]at hl
 |some p=>
  obtain⟨cs,k,rows,e,hc⟩:=hl;rw[e]at ho;obtain⟨us,t,h1,h2,h3,h4⟩:=ho;obtain⟨u,_,g⟩:=h4 p _ hc;obtain⟨a,cap,us',t',_,_,_,g4,g5,_⟩:=g;grind
theorem kr{A:Nat->Prop}{b k lo n cap:Nat}{us:Array Value}{e:TypeId}{fr:Nat×Nat}{rows:List (List AV)}{a:Option Addr}(hb:w.heap[b]?=some (.cells us e fr))(hA:A b)(hr:bT w A k rows us)
  (hle:lo+n<=rows.length) (hn:n<=cap) (ha:cap=0\/a=some ⟨b,lo*k,none⟩):RD w A (nP k lo n rows) (.slice a n cap):=by
 have hlen:((rows.drop lo).take n).length=n:=by grind
 have at_:∀ (i:Nat) (row:List AV),((rows.drop lo).take n)[i]?=some row->rows[lo+i]?=some row:=by
  grind
 have key:RD w A (.sl k ((rows.drop lo).take n)) (.slice a ((rows.drop lo).take n).length cap):=by
  refine .sl k _ a cap ⟨b,lo*k,none⟩ (fun i j=>(us[(lo+i)*k+j]?).getD undef) (by omega) (fun hne=>?_) (fun row hrow=>?_) (fun i row j c h1 h2=>?_) (fun row hrow c hc=>?_) (fun i row j c h1 h2=>?_)
  ·rcases ha with h0|h0
   all_goals simp_all
  ·obtain⟨i,hi⟩:=List.getElem?_of_mem hrow;exact(hr _ _ (at_ i row hi)).1
  ·obtain⟨u,h3,_⟩:=(hr _ _ (at_ i row h1)).2 j c h2;grind[kn,xj,Nat.add_assoc,Nat.add_mul]
  ·obtain⟨i,hi⟩:=List.getElem?_of_mem hrow;obtain⟨j,hj⟩:=List.getElem?_of_mem hc;obtain⟨_,_,_,h4⟩:=(hr _ _ (at_ i row hi)).2 j c hj;omega
  ·obtain⟨u,h3,h4,_⟩:=(hr _ _ (at_ i row h1)).2 j c h2;grind
 rw[hlen]at key;exact key
theorem ada(r:Rel w X ρ h){id k:Nat}{rows:List (List AV)}(e:h id=.ar k rows):Rel w X ρ (upd h id (.fz k rows))/\Evo w ρ h w ρ (upd h id (.fz k rows)) []:=by
 have hl:∀id' sub,live (upd h id (.fz k rows)) id' sub->id'≠id/\live h id' sub:=by
  intro id' sub hl;by_cases hi:id'=id
  ·cases sub with
   |none=>grind[live,aq]
   |some p=>grind[live,aq]
  grind[cx,aI]
 have ev:Evo w ρ h w ρ (upd h id (.fz k rows)) []:=by
  refine⟨rfl,rfl,rfl,Nat.le_refl _,fun _ _ _=>rfl,fun id' sub hp _=>⟨?_,rfl⟩,fun b ho=>?_,fun id' hb=>⟨?_,rfl⟩,fun id' _ hd=>⟨vF (by grind) hd,rfl⟩⟩
  ·by_cases hi:id'=id
   ·subst hi;cases sub with
    |none=>simp[bC,aq]
    |some p=>obtain⟨cs,k',rows',e',_⟩:=hp;grind
   grind[dV,aI]
  ·obtain⟨id',sub,h1,h2⟩:=ho;exact .inl ⟨id',sub,(hl id' sub h1).2,h2⟩
  grind[aq,bf,aI]
 refine⟨r.step ev (·=id) (fun id' hi=>⟨aI h _ hi,fun _=>rfl,fun _ _=>rfl⟩) (fun a b c d h1 h2=>r.inj a b c d (hl a b h1).2 (hl c d h2).2) (fun a b h1=>r.nx a b (hl a b h1).2) (fun id' hi=>?_),ev⟩;subst hi;rw[aq];have ho:=r.ob id';rw[e]at ho;obtain⟨us,t,h1,h2,h3,h4⟩:=ho;have hlv:live h id' none:=by grind[live]
 refine⟨⟨EB h1,fun hx=>r.nx id' none hlv (.inl hx),fun ho=>?_⟩,us,t,_,h1,h2,h3,h4.mono fun b hb=>ev.al hb⟩;obtain⟨id2,sub,h5,h6⟩:=ho;exact(hl id2 sub h5).1 (r.inj id2 sub id' none (hl id2 sub h5).2 hlv h6).1
theorem Bu{c:AV}(hc:ap1 c=true):aB (iJ c)=true:=by
 cases c<;>first| (simp[ap1,aW,aB,iJ]at hc⊢;done)| (simp[ap1,aW,aB,iJ]at hc⊢;exact hc)
theorem F9{A':Nat->Prop}{id p:Nat}{c:AV}{u:Value}(hr:RC w (aF w X h ρ) ρ h id p c u)(hd:ap1 c=true)
  (hA:∀b,aF w X h ρ b->A' b) (hb:∀k rows,c=.osl k rows->A' (ρ id (some p)).1):RD w A' (iJ c) u:=by
 cases hO:aW c with
 |true=>
  cases c<;>simp[aW]at hO;rename_i k rows;obtain⟨a,cap,us',t',g1,g2,g3,g4,g5,g6,g7⟩:=hr;have:=kr (lo:=0) (n:=rows.length) (cap:=cap) (a:=a) g4 (hb k rows rfl) (g7.mono (w':=w) fun b h=>⟨hA b h,rfl⟩) (by omega) g3 (by grind);grind[nP,iJ]
 |false=>
  rw[oQ hO]at hr;have hd':aB c=true:=by grind[ap1]
  have:iJ c=c:=by cases c<;>first|rfl|simp[aW]at hO
  rw[this];exact(hr.1.toD hd' hr.2.1).mono fun b h=>⟨hA b h,rfl⟩
theorem adb(r:Rel w X ρ h){id:Nat}{cs:List AV}(e:h id=.bx cs)(hd:cs.all ap1=true):Rel w X ρ (upd h id (.fz 1 (pC cs)))/\Evo w ρ h w ρ (upd h id (.fz 1 (pC cs))) [(id,true)]:=by
 have hl:∀id' sub,live (upd h id (.fz 1 (pC cs))) id' sub->id'≠id/\live h id' sub:=by
  intro id' sub hl;by_cases hi:id'=id
  ·cases sub with
   |none=>grind[live,aq]
   |some p=>grind[live,aq]
  grind[cx,aI]
 have ev:Evo w ρ h w ρ (upd h id (.fz 1 (pC cs))) [(id,true)]:=by
  refine⟨rfl,rfl,rfl,Nat.le_refl _,fun _ _ _=>rfl,fun id' sub hp hk=>⟨?_,rfl⟩,fun b ho=>?_,fun id' hb=>⟨?_,rfl⟩,fun id' _ hd=>⟨vF (by grind) hd,rfl⟩⟩
  ·by_cases hi:id'=id
   ·simp_all[bC,aq,gS]
   grind[dV,aI]
  ·obtain⟨id',sub,h1,h2⟩:=ho;exact .inl ⟨id',sub,(hl id' sub h1).2,h2⟩
  grind[aq,bf,aI]
 have free:∀sub,live h id sub->aF w X (upd h id (.fz 1 (pC cs))) ρ (ρ id sub).1:=by
  intro sub hlv;obtain⟨us,t,h1,_⟩:=r.live_heap hlv;refine⟨EB h1,fun hx=>r.nx id sub hlv (.inl hx),fun ho=>?_⟩;obtain⟨id2,sub2,h5,h6⟩:=ho;exact(hl id2 sub2 h5).1 (r.inj id2 sub2 id sub (hl id2 sub2 h5).2 hlv h6).1
 refine⟨r.step ev (·=id) (fun id' hi=>⟨aI h _ hi,fun _=>rfl,fun _ _=>rfl⟩) (fun a b c d h1 h2=>r.inj a b c d (hl a b h1).2 (hl c d h2).2) (fun a b h1=>r.nx a b (hl a b h1).2) (fun id' hi=>?_),ev⟩;subst hi;rw[aq];have ho:=r.ob id';rw[e]at ho;obtain⟨us,t,h1,h2,h3,h4⟩:=ho;refine⟨free none (by grind[live]),us,t,_,h1,h2,by grind[pC],fun i row hi=>?_⟩;simp only[pC,List.getElem?_map,Option.map_eq_some_iff]at hi;obtain⟨c,hc,rfl⟩:=hi;refine⟨rfl,fun j d hj=>?_⟩;cases j with
 |succ j=>grind
 |zero=>
  simp at hj;subst hj;obtain⟨u,h5,h6⟩:=h4 i c hc;refine⟨u,by grind,F9 h6 ?_ (fun b hb=>(ev.al hb).1) (fun k rows ec=>?_),Bu (List.all_eq_true.1 hd c (List.mem_of_getElem? hc))⟩
  ·grind
  ·subst ec;exact free (some i) ⟨cs,k,rows,e,hc⟩
theorem CV(r:Rel w X ρ h){id:Nat}{cs ds:List AV}(e:h id=.bx cs)(hlen:ds.length=cs.length)(hds:∀ (p:Nat) (c:AV),cs[p]?=some c->ds[p]?=some c\/(aW c=true/\ds[p]?=some (iJ c))):
  Rel w X ρ (upd h id (.bx ds))/\Evo w ρ h w ρ (upd h id (.bx ds)) [(id,true)]:=by
 have back:∀ (p k:Nat) (rows:List (List AV)),ds[p]?=some (AV.osl k rows)->cs[p]?=some (AV.osl k rows):=by
  intro p k rows hp;have hlt:=(List.getElem?_eq_some_iff.1 hp).1;obtain⟨c,hc⟩:∃c,cs[p]?=some c:=⟨cs[p]'(by omega),List.getElem?_eq_getElem (by omega)⟩;rcases hds p c hc with h1| ⟨h1,h2⟩
  ·grind
  ·rw[hp]at h2;cases c<;>simp[aW,iJ]at h1 h2
 have hl:∀id' sub,live (upd h id (.bx ds)) id' sub->live h id' sub:=by
  intro id' sub hl;by_cases hi:id'=id
  ·subst hi;cases sub with
   |none=>grind[live]
   |some p=>
    obtain⟨cs',k,rows,h1,h2⟩:=hl;rw[aq]at h1;cases h1;exact⟨cs,k,rows,e,back p k rows h2⟩
  grind[cx,aI]
 have ev:Evo w ρ h w ρ (upd h id (.bx ds)) [(id,true)]:=by
  refine⟨rfl,rfl,rfl,Nat.le_refl _,fun _ _ _=>rfl,fun id' sub hp hk=>⟨?_,rfl⟩,fun b ho=>?_,fun id' hb=>⟨?_,rfl⟩,fun id' _ hd=>⟨vF (by grind) hd,rfl⟩⟩
  ·by_cases hi:id'=id
   ·simp_all[bC,aq,gS]
   grind[dV,aI]
  ·obtain⟨id',sub,h1,h2⟩:=ho;exact .inl ⟨id',sub,hl id' sub h1,h2⟩
  grind[aq,bf,aI]
 refine⟨r.step ev (·=id) (fun id' hi=>⟨aI h _ hi,fun _=>rfl,fun _ _=>rfl⟩) (fun a b c d h1 h2=>r.inj a b c d (hl a b h1) (hl c d h2)) (fun a b h1=>r.nx a b (hl a b h1)) (fun id' hi=>?_),ev⟩;subst hi;rw[aq];have ho:=r.ob id';have ho':=ho.keep (w':=w) (A':=aF w X (upd h id' (.bx ds)) ρ) (ρ':=ρ) (h':=upd h id' (.bx ds)) (fun b hb=>ev.al hb) ev.boxes (fun _=>rfl) (fun _ _=>rfl);rw[e]at ho ho';obtain⟨us,t,h1,h2,h3,h4⟩:=ho;obtain⟨us',t',h1',_,_,h4'⟩:=ho';refine⟨us,t,h1,h2,by omega,fun p d hd=>?_⟩;have hlt:=(List.getElem?_eq_some_iff.1 hd).1;obtain⟨c,hc⟩:∃c,cs[p]?=some c:=⟨cs[p]'(by omega),List.getElem?_eq_getElem (by omega)⟩;rcases hds p c hc with g1| ⟨g1,g2⟩
 ·grind
 ·rw[hd]at g2;cases g2;obtain⟨u,h5,h6⟩:=h4 p c hc;have hlv:live h id' (some p):=by
   cases c<;>simp[aW]at g1;exact⟨cs,_,_,e,hc⟩
  have hfr:RD w (aF w X (upd h id' (.bx ds)) ρ) (iJ c) u:=by
   refine F9 h6 (by grind[ap1]) (fun b hb=>(ev.al hb).1) (fun k rows ec=>?_);obtain⟨us2,t2,e1,_⟩:=r.live_heap hlv;refine⟨EB e1,fun hx=>r.nx _ _ hlv (.inl hx),fun ho=>?_⟩;obtain⟨id2,sub2,h7,h8⟩:=ho;obtain⟨rfl,rfl⟩:=r.inj id2 sub2 id' (some p) (hl id2 sub2 h7) hlv h8;obtain⟨cs2,k2,rows2,h9,h10⟩:=h7;grind[aq,iJ]
  have hnO:aW (iJ c)=false:=by cases c<;>simp[aW]at g1<;>rfl
  refine⟨u,h5,(oQ hnO).2 ⟨.dat hfr,hfr.one (Bu (by grind[ap1])),sB (Bu (by grind[ap1]))⟩⟩
end
section
variable {P:Program} {w:World} {X:Nat→Prop} {ρ:br} {h h':ac}
theorem CW{id k lo n cap:Nat}{a:Option Addr}{rows:List (List AV)}(r:Rel w X ρ h)(e:h id=.fz k rows)(hle:lo+n<=rows.length)(hn:n<=cap)
  (ha:cap=0\/a=some ⟨(ρ id none).1,lo*k,none⟩):RD w (aF w X h ρ) (nP k lo n rows) (.slice a n cap):=by
 have ho:=r.ob id;rw[e]at ho;obtain⟨h0,us,t,fr,h1,h2,h3,h4⟩:=ho;grind[kr]
theorem Hq(r:Rel w X ρ h){id k lo n cap:Nat}{a:Option Addr}(hn:n<=cap)(ha:cap=0\/a=some ⟨(ρ id none).1,lo*k,none⟩){c:AV}{ks:K}(hc:mf h id k lo n (h id)=some (c,h',ks)):
  Rel w X ρ h'/\Evo w ρ h w ρ h' ks/\RD w (aF w X h' ρ) c (.slice a n cap)/\aB c=true:=by
 cases e:h id with
 |dead=>grind[mf]
 |ar k' rows=>
  simp only[e,mf]at hc;split at hc
  ·rename_i hk;obtain⟨rfl,hle⟩:=hk;cases hc;obtain⟨h1,h2⟩:=ada r e;exact⟨h1,h2,CW h1 (aq _ _ _) hle hn ha,rfl⟩
  grind
 |fz k' rows=>
  simp only[e,mf]at hc;split at hc
  ·rename_i hk;obtain⟨rfl,hle⟩:=hk;cases hc;exact⟨r,.refl _ _ _,CW r e hle hn ha,rfl⟩
  grind
 |bx cs=>
  simp only[e,mf]at hc;split at hc
  ·rename_i hk;obtain⟨rfl,hle,hd⟩:=hk;cases hc;obtain⟨h1,h2⟩:=adb r e hd;exact⟨h1,h2,CW h1 (aq _ _ _) (by grind[pC]) hn ha,rfl⟩
  grind
theorem VZ(r:Rel w X ρ h){id:Nat}{sub:Option Nat}(hl:live h id sub)(hn:¬live h' id sub)(hb:∀id sub,live h' id sub->live h id sub):aF w X h' ρ (ρ id sub).1:=by
 obtain⟨us,t,h1,_⟩:=r.live_heap hl;refine⟨EB h1,fun hx=>r.nx id sub hl (.inl hx),fun ho=>?_⟩;obtain⟨id2,sub2,h5,h6⟩:=ho;obtain⟨rfl,rfl⟩:=r.inj id2 sub2 id sub (hb _ _ h5) hl h6;grind
theorem Hr(r:Rel w X ρ h){id p k lo n cap:Nat}{a:Option Addr}(hn:n<=cap)(ha:cap=0\/a=some ⟨(ρ id (some p)).1,lo*k,none⟩){c:AV}{ks:K}(hc:CK h id p k lo n (h id)=some (c,h',ks)):
  Rel w X ρ h'/\Evo w ρ h w ρ h' ks/\RD w (aF w X h' ρ) c (.slice a n cap)/\aB c=true:=by
 cases e:h id with
 |bx cs=>
  simp only[e,CK]at hc;unfold Yy at hc;split at hc
  ·rename_i k' rows hp;split at hc
   ·rename_i hk;obtain⟨rfl,hle⟩:=hk;cases hc;obtain⟨h1,h2⟩:=CV r e (ds:=cs.set p (.sl k' rows)) (by simp) (fun q c hq=>by
     by_cases hqp:q=p
     ·subst hqp;rw[hp]at hq;cases hq;exact .inr ⟨rfl,by grind[iJ]⟩
     grind)
    refine⟨h1,h2,?_,rfl⟩;have hlv:live h id (some p):=⟨cs,k',rows,e,hp⟩;have hal:aF w X (upd h id (.bx (cs.set p (.sl k' rows)))) ρ (ρ id (some p)).1:=by
     refine VZ r hlv (fun hl=>?_) (fun id' sub hl=>?_)
     ·obtain⟨cs2,k2,r2,e1,e2⟩:=hl;grind[aq]
     ·by_cases hi:id'=id
      ·subst hi;cases sub with
       |none=>grind[live]
       |some q=>
        obtain⟨cs2,k2,r2,e1,e2⟩:=hl;rw[aq]at e1;cases e1;by_cases hqp:q=p
        ·grind
        ·exact⟨cs,k2,r2,e,by rwa[List.getElem?_set_ne (fun e=>hqp e.symm)]at e2⟩
      grind[cx,aI]
    have ho:=r.ob id;rw[e]at ho;obtain⟨us,t,g1,g2,g3,g4⟩:=ho;obtain⟨u,g5,g6⟩:=g4 p _ hp;obtain⟨a',cap',us',t',e1,e2,e3,e4,e5,e6,e7⟩:=g6;exact kr e4 hal (e7.mono fun b hb=>h2.al hb) hle hn ha
   grind
  grind
 |_=>simp[e,CK]at hc
theorem wP(r:Rel w X ρ h){A0:Nat->Prop}{h0:ac}{c d:AV}{u:Value}{ks:K}(hv:RV w A0 ρ h0 c u)(hA:∀b,A0 b->aF w X h ρ b)(h1:u.oneCell'=true)(hc:gL h c=some (d,h',ks)):
  Rel w X ρ h'/\Evo w ρ h w ρ h' ks/\RD w (aF w X h' ρ) d u/\aB d=true:=by
 have dl:aB c=true->gL h c=some (c,h,[])->Rel w X ρ h'/\Evo w ρ h w ρ h' ks/\RD w (aF w X h' ρ) d u/\aB d=true:=by
  intro hd hq;rw[hq]at hc;cases hc;exact⟨r,.refl _ _ _,(hv.toD hd h1).mono fun b hb=>⟨hA b hb,rfl⟩,hd⟩
 cases c with
 |rsl id sub k lo n=>
  obtain⟨a,cap,rfl,hp,hn,hb,ha⟩:=hv.rsl_inv;cases sub with
  |none=>exact Hq r hn ha hc
  |some p=>exact Hr r hn ha hc
 |fn f x y=>
  grind[gL]
 |any=>exact dl rfl rfl
 |v x=>exact dl rfl rfl
 |emp=>exact dl rfl rfl
 |sl k rows=>exact dl rfl rfl
 |_=>simp[gL,aB]at hc
theorem zQ{A0:Nat->Prop}{h0:ac}:∀ (cs:List AV) {us:Array Value} (off:Nat) {h h':ac} {ds:List AV} {ks:K},Rel w X ρ h->(∀b,A0 b->aF w X h ρ b)->
  (∀ (i:Nat) (c:AV) (u:Value),cs[i]?=some c->us[off+i]?=some u->RV w A0 ρ h0 c u/\u.oneCell'=true)->off+cs.length<=us.size->fV h cs=some (ds,h',ks)->
   Rel w X ρ h'/\Evo w ρ h w ρ h' ks/\ds.length=cs.length/\(∀d∈ds,aB d=true)/\(∀ (i:Nat) (d:AV) (u:Value),ds[i]?=some d->us[off+i]?=some u->RD w (aF w X h' ρ) d u)
 |[],us,off,h,h',ds,ks,r,hA,hv,hl,hc=>by
  obtain⟨rfl,rfl,rfl⟩:=hc;exact⟨r,.refl _ _ _,rfl,fun d hd=>(by grind),fun i d u hd=>(by grind)⟩
 |c::cs,us,off,h,h',ds,ks,r,hA,hv,hl,hc=>by
  simp only[fV,Option.bind_eq_some_iff]at hc;obtain⟨⟨d,h1,k1⟩,e1,⟨ds',h2,k2⟩,e2,e3⟩:=hc;cases e3;simp only[List.length_cons]at hl;obtain⟨u,hu⟩:∃u,us[off]?=some u:=⟨us[off]'(by omega),Array.getElem?_eq_getElem (by omega)⟩;obtain⟨hv0,hv1⟩:=hv 0 c u (by simp) (by omega);obtain⟨g1,g2,g3,g4⟩:=wP r hv0 hA hv1 e1;obtain⟨f1,f2,f3,f4,f5⟩:=zQ cs (off+1) g1 (fun b hb=>(g2.al (hA b hb)).1) (fun i c u h1 h2=>hv (i+1) c u (by grind) (by rw[←h2];congr 1;omega)) (by omega) e2;refine⟨f1,g2.trans f2,by grind,fun x hx=>?_,fun i x v hx hv=>?_⟩
  ·grind
  ·cases i with
   |zero=>
    simp at hx hv;subst hx;rw[hu]at hv;cases hv;exact f2.rd g3
   |succ i=>grind
theorem V0(r:Rel w X ρ h){A0:Nat->Prop}{h0:ac}{c d:AV}{u:Value}{ks:K}(hv:RV w A0 ρ h0 c u)(hA:∀b,A0 b->aF w X h ρ b)(hc:vA h c=some (d,h',ks))(h1:(∀cs,c≠ .agg cs)->u.oneCell'=true):
  Rel w X ρ h'/\Evo w ρ h w ρ h' ks/\RD w (aF w X h' ρ) d u/\dat d=true:=by
 cases c with
 |agg cs=>
  simp only[vA,Option.bind_eq_some_iff]at hc;obtain⟨⟨ds,h2,k2⟩,e1,e2⟩:=hc;cases e2;obtain⟨us,rfl,hs,g1,g2⟩:=hv.agg_inv;obtain⟨f1,f2,f3,f4,f5⟩:=zQ cs (us:=us) 0 r hA (fun i c u hc hu=>⟨g2 i c u hc (by grind),g1 _ u (by omega)⟩) (by omega) e1;exact⟨f1,f2,.agg _ _ (by grind) g1 fun i d u hd hu=>f5 i d u hd (by grind),by grind[dat]⟩
 |_=>
  obtain⟨f1,f2,f3,f4⟩:=wP r hv hA (h1 fun cs e=>by cases e) hc;refine⟨f1,f2,f3,?_⟩;cases d<;>first|exact f4|simp[aB]at f4
theorem zR{e:TypeId}{ad:Addr}{u:Value}(hg:nS P e=some false)(hc:w.cell? ad=some u):(loadVar e ad).run P w=.ok u w:=by
 simp_all[loadVar,EA]
theorem QZ{e:TypeId}{k:Nat}{ad:Addr}{vs:List Value}(hg:nS P e=some true)(hk:bo P e=some k)(hl:vs.length=k)(hc:∀j v,vs[j]?=some v->w.cell? (ad.add j)=some v):
  (loadVar e ad).run P w=.ok (.agg vs.toArray) w:=by
 have:=run_loadCells_list (P:=P) w ad vs hc
 simp_all[loadVar,EA,eX]
theorem ue{A:Nat->Prop}{h:ac}{e:TypeId}{k off:Nat}{g:Bool}(hg:nS P e=some g)(hk:bo P e=some k){cs:List AV}{ad:Addr}{z:AV}{vals:Nat->Value}
  (hv:∀ (j:Nat) (c:AV),cs[j]?=some c->w.cell? (ad.add j)=some (vals j)) (hr:∀ (j:Nat) (c:AV),cs[j]?=some c->RV w A ρ h c (vals j)/\(vals j).oneCell'=true) (hz:jR k g cs off=some z):
  ∃v,(loadVar e (ad.add off)).run P w=.ok v w/\RV w A ρ h z v:=by
 unfold jR at hz;cases g with
 |true=>
  simp only[if_true]at hz;split at hz
  ·cases hz;refine⟨_,QZ hg hk (vs:=(List.range k).map fun j=>vals (off+j)) (by simp) (fun j v hj=>?_),.agg _ _ (by grind) (fun i u hu=>?_) (fun i c u hc hu=>?_)⟩
   ·simp only[List.getElem?_map,Option.map_eq_some_iff]at hj;obtain⟨i,hi,rfl⟩:=hj;obtain⟨h1,h2⟩:=List.getElem?_eq_some_iff.1 hi;simp at h2 h1;subst h2;rw[xC];exact hv _ _ (List.getElem?_eq_getElem (show off+j<cs.length by omega))
   ·simp only[List.getElem?_toArray,List.getElem?_map,Option.map_eq_some_iff]at hu;obtain⟨j,hj,rfl⟩:=hu;obtain⟨h1,h2⟩:=List.getElem?_eq_some_iff.1 hj;simp at h2 h1;subst h2;exact(hr _ _ (List.getElem?_eq_getElem (show off+i<cs.length by omega))).2
   grind
  grind
 |false=>
  grind[zR]
theorem zS{A:Nat->Prop}{h:ac}{e:TypeId}{k:Nat}{g:Bool}(hg:nS P e=some g)(hk:bo P e=some k){b k0 i j k':Nat}{us:Array Value}{t:TypeId}{fr:Nat×Nat}{rows:List (List AV)}
  (hb:w.heap[b]?=some (.cells us t fr)) (hr:bT w A k' rows us) {z:AV} {h':ac} {ks:K} (hz:lh h k g k0 i j (some (k',rows))=some (z,h',ks)):
  h'=h/\ks=[]/\∃v,(loadVar e ⟨b,i*k0+j,none⟩).run P w=.ok v w/\RV w A ρ h z v:=by
 simp only[lh]at hz;split at hz
 ·simp only[Option.bind_eq_some_iff,Option.map_eq_some_iff]at hz;obtain⟨row,h1,a,h2,h3⟩:=hz;cases h3;have cell:∀ (j:Nat) (c:AV),row[j]?=some c->us[i*k'+j]?=some ((us[i*k'+j]?).getD undef)/\RD w A c ((us[i*k'+j]?).getD undef)/\aB c=true:=by
   intro j c hc;obtain⟨u,g1,g2,g3⟩:=(hr i row h1).2 j c hc;grind
  have:=ue (P:=P) (ρ:=ρ) (h:=h) (A:=A) (off:=j) hg hk (cs:=row) (ad:=⟨b,i*k',none⟩) (z:=z) (vals:=fun j=>(us[i*k'+j]?).getD undef)
   (fun j c hc=>by grind[kn,xj]) (fun j c hc=>⟨.dat (cell j c hc).2.1,(cell j c hc).2.1.one (cell j c hc).2.2⟩) h2
  grind[kn]
 grind
end
def i8(ρ:br)(d:Nat)(sub:Option Nat)(b:Nat×Nat):br:=fun id s=>if id=d/\s=sub then b else ρ id s
theorem bp(ρ:br)(d:Nat)(sub:Option Nat)(b:Nat×Nat):i8 ρ d sub b d sub=b:=if_pos ⟨rfl,rfl⟩
theorem As{ρ:br}{d id:Nat}{sub s:Option Nat}{b:Nat×Nat}(h:¬ (id=d/\s=sub)):i8 ρ d sub b id s=ρ id s:=if_neg h
section
variable {P:Program} {w:World} {X:Nat→Prop} {ρ:br} {h h':ac}
theorem At(w:World)(o:Obj){b:Nat}(hb:b<w.heap.size):(w.alloc o).heap[b]?=w.heap[b]?:=by
 show(w.heap.push o)[b]?=_;grind
theorem sC(w:World)(o:Obj):(w.alloc o).heap[w.heap.size]?=some o:=by
 show(w.heap.push o)[w.heap.size]?=_;grind
def TN(w:World)(A:Nat->Prop)(ρ:br)(h:ac)(us:Array Value):Ob->Prop
 | .bx cs=>cs.length<=us.size/\∀ (p:Nat) (c:AV),cs[p]?=some c->aW c=false/\∃u,us[p]?=some u/\RV w A ρ h c u/\u.oneCell'=true/\ju h c
 | .ar k rows=>rows.length*k<=us.size/\bT w A k rows us
 |_=>False
theorem vG(r:Rel w X ρ h){d:Nat}(hdp:aQ d=false)(hd:h d=.dead){us:Array Value}{e:TypeId}{o:Ob}(ho:TN w (aF w X h ρ) ρ h us o):
  Rel (w.alloc (.cells us e)) X (i8 ρ d none (w.heap.size,us.size)) (upd h d o)/\Evo w ρ h (w.alloc (.cells us e)) (i8 ρ d none (w.heap.size,us.size)) (upd h d o) []:=by
 have hl:∀id sub,live (upd h d o) id sub->(id=d/\sub=none)\/(id≠d/\live h id sub):=by
  intro id sub hl;by_cases hi:id=d
  ·subst hi;cases sub with
   |none=>grind
   |some p=>
    obtain⟨cs,k,rows,h1,h2⟩:=hl;rw[aq]at h1;subst h1;exact absurd (ho.2 p _ h2).1 (by simp[aW])
  grind[cx,aI]
 have hρ:∀id sub,id≠d->i8 ρ d none (w.heap.size,us.size) id sub=ρ id sub:=fun id sub hi=>As fun e=>hi e.1;have ev:Evo w ρ h (w.alloc (.cells us e)) (i8 ρ d none (w.heap.size,us.size)) (upd h d o) []:=by
  refine⟨rfl,rfl,rfl,by simp_all,fun b hb _=>At w _ hb,fun id sub hp _=>?_,fun b hb=>?_,fun id hb=>?_,fun id hp hnd=>?_⟩
  ·have hi:id≠d:=by
    rintro rfl
    cases sub with
    |none=>exact hp hd
    |some p=>obtain⟨_,_,_,h1,_⟩:=hp;grind
   grind[dV,aI]
  ·obtain⟨id,sub,h1,h2⟩:=hb;rcases hl id sub h1 with⟨rfl,rfl⟩| ⟨hi,h3⟩
   ·simp_all[bp,Nat.le_refl]
   ·rw[hρ id sub hi]at h2;exact .inl ⟨id,sub,h3,h2⟩
  ·have hi:id≠d:=by rintro rfl;rw[hd]at hb;cases hb
   grind[aI]
  grind[aI]
 have lt:∀id sub,live h id sub->(ρ id sub).1<w.heap.size:=fun id sub hl=>by obtain⟨us,t,h1,_⟩:=r.live_heap hl;grind
 refine⟨r.step ev (·=d) (fun id hi=>⟨aI h _ hi,fun sub=>hρ id sub hi,fun sub hl=>At w _ (lt id sub hl)⟩) (fun a b c e' h1 h2 h3=>?_) (fun a b h1=>?_) (fun id hi=>?_),ev⟩
 ·rcases hl a b h1 with⟨rfl,rfl⟩| ⟨ha,h4⟩<;>rcases hl c e' h2 with⟨rfl,rfl⟩| ⟨hc,h5⟩
  ·grind
  ·grind[bp]
  ·grind[bp]
  ·rw[hρ a b ha,hρ c e' hc]at h3;exact r.inj a b c e' h4 h5 h3
 ·rcases hl a b h1 with⟨rfl,rfl⟩| ⟨ha,h4⟩
  ·rw[bp];intro hx;have:=r.xl _ hx;omega
  ·rw[hρ a b ha];exact r.nx a b h4
 ·subst hi;rw[aq];cases o with
  |bx cs=>
   refine⟨us,e,by grind[bp,sC],by rw[bp],ho.1,fun p c hc=>?_⟩;obtain⟨h1,u,h2,h3,h4,h5⟩:=ho.2 p c hc;obtain⟨h6,h7⟩:=h3.keepC h5 (fun b hb=>ev.al hb) ev.boxes;grind[oQ]
  |ar k rows=>exact⟨us,e,by grind[bp,sC],by rw[bp],ho.1,ho.2.mono fun b hb=>ev.al hb⟩
  |dead=>exact ho.elim
  |fz k rows=>exact ho.elim
theorem Hs{t:TypeId}{i:TypeInfo}{z:Value}(h1:P.info? t=some i)(h2:i.zero=some z)(w:World):(zeroValue t).run P w=.ok z w:=by simp_all[zeroValue,typeInfo]
theorem K8{cs:List AV}{us:Array Value}{A:Nat->Prop}(hc:Cells w A ρ h cs us)(hd:cs.all aB=true):TN w A ρ h us (.bx cs):=
 ⟨Nat.le_of_eq hc.1.symm,fun p c hp=>by
  have h1:aB c=true:=List.all_eq_true.1 hd c (List.mem_of_getElem? hp);obtain⟨u,hu⟩:∃u,us[p]?=some u:=⟨us[p]'(by have:=(List.getElem?_eq_some_iff.1 hp).1;have:=hc.1;omega),Array.getElem?_eq_getElem _⟩;exact⟨by cases c<;>simp[aB]at h1<;>rfl,u,hu,hc.2.2 p c u hp hu,hc.2.1 p u hu,sB h1⟩⟩
theorem Nx:∀ (l:List Value) (cs:List AV),CR l=some cs->cs.all aB=true
 |[],cs,hc=>by grind[CR]
 |v::l,cs,hc=>by
  simp only[CR,Option.bind_eq_some_iff]at hc;obtain⟨c,h1,q,h2,h3⟩:=hc;cases h3;have h4:aB c=true:=by unfold Nr at h1;split at h1<;>cases h1<;>rfl
  simp[h4];simpa using Nx l q h2
theorem Ny{t:TypeId}{zs:List AV}(hz:iD P t=some zs):zs.all aB=true:=by
 grind[iD,Option.bind_eq_some_iff,Nx]
theorem jv{d:Nat}{a:AV}{o:Ob}{ks:K}{x:AV}{ks':K}(hn:xx h d a o ks (h d)=some (x,h',ks')):h d=.dead/\x=a/\h'=upd h d o/\ks'=ks:=by
 grind[xx]
structure Got (w:World) (X:Nat->Prop) (ρ:br) (h:ac) (w':World) (h':ac) (ks:K) (x:AV) (v:Value):Prop where
 ex:∃ρ',Rel w' X ρ' h'/\Evo w ρ h w' ρ' h' ks/\RV w' (aF w' X h' ρ') ρ' h' x v
theorem Q0{t:TypeId}{zs:List AV}(r:Rel w X ρ h)(hz:iD P t=some zs){d:Nat}(hdp:aQ d=false){x:AV}{ks:K}(hn:jt h d zs []=some (x,h',ks)):
  ∃v w',(Instr.alloc t true (.tuple #[])).run P w=.ok v w'/\Got w X ρ h w' h' ks x v:=by
 obtain⟨h1,rfl,rfl,rfl⟩:=jv hn;obtain⟨i,z,g1,g2,g3,g4,g5⟩:=kq (w:=w) (A:=aF w X h ρ) (ρ:=ρ) (h:=h) hz;obtain⟨g6,g7⟩:=vG (e:=t) r hdp h1 (K8 g5 (Ny hz));refine⟨.pointer (some ⟨w.heap.size,0,none⟩),_,?_,⟨_,g6,g7,?_⟩⟩
 ·simp_all[Instr.alloc,Sem.run_bind,Hs,Result.andThen,newVar,newRow]
 ·have:=RV.ref (w:=w.alloc (.cells z.cells t)) (A:=aF (w.alloc (.cells z.cells t)) X (upd h d (.bx zs)) (i8 ρ d none (w.heap.size,z.cells.size))) (ρ:=i8 ρ d none (w.heap.size,z.cells.size)) (h:=upd h d (.bx zs)) d none 0 0 0 (by simp[bC,aq]);grind[bp]
end
section
variable {P:Program} {w:World} {X:Nat→Prop} {ρ:br} {h h':ac}
theorem yR(a:Addr):a.add 0=a:=by simp_all[Addr.add,if_pos]
theorem RY{c:AV}(hc:aW c=false):iJ c=c:=by cases c<;>first|rfl|simp[aW]at hc
theorem Rel.cell(r:Rel w X ρ h){id:Nat}{cs:List AV}(e:h id=.bx cs):∃us t,w.heap[(ρ id none).1]?=some (.cells us t (0,0))/\us.size=(ρ id none).2/\cs.length<=us.size/\
  ∀ (p:Nat) (c:AV),cs[p]?=some c->∃u,us[p]?=some u/\RC w (aF w X h ρ) ρ h id p c u:=by
 have ho:=r.ob id;rw[e]at ho;exact ho
theorem Q1(r:Rel w X ρ h){ty:TypeId}{k:Nat}{g:Bool}(hg:nS P ty=some g)(hk:bo P ty=some k){id p:Nat}{cs:List AV}(e:h id=.bx cs){z:AV}{ks:K}(hz:Bj h id p k g cs=some (z,h',ks)):
  ∃v,(loadVar ty ⟨(ρ id none).1,p,none⟩).run P w=.ok v w/\Rel w X ρ h'/\Evo w ρ h w ρ h' ks/\RV w (aF w X h' ρ) ρ h' z v:=by
 have key:∀ (h1:ac) (ds:List AV),Rel w X ρ h1->h1 id=.bx ds->g=true->p+k<=ds.length->(∀c∈ (ds.drop p).take k,aW c=false)->
   ∃v,(loadVar ty ⟨(ρ id none).1,p,none⟩).run P w=.ok v w/\RV w (aF w X h1 ρ) ρ h1 (.agg ((ds.drop p).take k)) v:=by
  intro h1 ds r1 e1 hgt hle hn;obtain⟨us,t,g1,g2,g3,g4⟩:=r1.cell e1;have cell:∀ (j:Nat) (c:AV),((ds.drop p).take k)[j]?=some c->us[p+j]?=some ((us[p+j]?).getD undef)/\RV w (aF w X h1 ρ) ρ h1 c ((us[p+j]?).getD undef)/\((us[p+j]?).getD undef).oneCell'=true:=by
   grind[oQ,List.mem_of_getElem]
  have:=ue (P:=P) (ρ:=ρ) (h:=h1) (A:=aF w X h1 ρ) (off:=0) hg hk (cs:=(ds.drop p).take k) (ad:=⟨(ρ id none).1,p,none⟩) (z:=.agg ((ds.drop p).take k)) (vals:=fun j=>(us[p+j]?).getD undef)
   (fun j c hc=>by grind[kn,xj]) (fun j c hc=>(cell j c hc).2) (by
    have hl:((ds.drop p).take k).length=k:=by grind
    simp_all[jR,if_true,if_pos,List.drop_zero,List.take_of_length_le])
  grind[yR]
 unfold Bj at hz;cases g with
 |true=>
  simp only[if_true]at hz;split at hz
  ·rename_i hle;split at hz
   ·obtain⟨r1,e1⟩:=CV r e (ds:=cs.map iJ) (by simp) (fun q c hq=>by
     grind[aW,RY])
    obtain⟨v,h1,h2⟩:=key _ _ r1 (aq _ _ _) rfl (by grind) (fun c hc=>by
     have:=List.mem_of_mem_drop (List.mem_of_mem_take hc);simp only[List.mem_map]at this;obtain⟨c',_,rfl⟩:=this;cases c'<;>rfl)
    grind
   ·cases hz;obtain⟨v,h1,h2⟩:=key _ _ r e rfl hle (fun c hc=>by
     grind)
    exact⟨v,h1,r,.refl _ _ _,h2⟩
  grind
 |false=>
  simp only[Bool.false_eq_true,if_false,Option.map_eq_some_iff]at hz;obtain⟨c,hc,e3⟩:=hz;cases e3;obtain⟨us,t,g1,g2,g3,g4⟩:=r.cell e;obtain⟨u,f1,f2⟩:=g4 p c hc;refine⟨u,zR hg (by grind[xj]),r,.refl _ _ _,?_⟩;cases hO:aW c with
  |true=>
   cases c<;>simp[aW]at hO;rename_i k' rows;obtain⟨a,cap,us',t',e1,e2,e3,e4,e5,e6,e7⟩:=f2;subst e1;exact .rsl id (some p) k' 0 rows.length cap a ⟨cs,k',rows,e,hc⟩ e3 (by grind) (by grind)
  |false=>
   rw[oQ hO]at f2;have:uV id p c=c:=by cases c<;>first|rfl|simp[aW]at hO
   grind
theorem Ft(r:Rel w X ρ h){ty:TypeId}{k:Nat}{g:Bool}(hg:nS P ty=some g)(hk:bo P ty=some k){x z:AV}{u:Value}{ks:K}(hx:RV w (aF w X h ρ) ρ h x u)(hz:fW h k g x=some (z,h',ks)):
  ∃ad v,u=.pointer (some ad)/\(loadVar ty ad).run P w=.ok v w/\Rel w X ρ h'/\Evo w ρ h w ρ h' ks/\RV w (aF w X h' ρ) ρ h' z v:=by
 cases x with
 |ipt cs=>
  simp only[fW,Option.map_eq_some_iff]at hz;obtain⟨a,h1,h2⟩:=hz;cases h2;cases hx with
  |dat hd=>cases hd
  |ipt _ ad vals hA hs hv hl hr=>
   obtain⟨v,f1,f2⟩:=ue (P:=P) (ρ:=ρ) (h:=h) (A:=aF w X h ρ) (off:=0) hg hk hv (fun j c hc=>⟨.dat (hr j c hc),(hr j c hc).one (hl c (List.mem_of_getElem? hc))⟩) h1;exact⟨ad,v,rfl,by rwa[yR]at f1,r,.refl _ _ _,f2⟩
 |ref id sub k0 i j=>
  obtain⟨rfl,hp⟩:=hx.ref_inv;cases sub with
  |none=>
   simp only[fW]at hz;cases e:h id with
   |dead=>rw[e]at hz;cases hz
   |bx cs=>
    rw[e]at hz;obtain⟨v,f1,f2,f3,f4⟩:=Q1 (P:=P) r hg hk e hz;grind
   |ar k' rows=>
    rw[e]at hz;have ho:=r.ob id;rw[e]at ho;obtain⟨us,t,g1,g2,g3,g4⟩:=ho;obtain⟨rfl,rfl,v,f1,f2⟩:=zS (P:=P) (ρ:=ρ) hg hk g1 g4 hz;exact⟨_,v,rfl,f1,r,.refl _ _ _,f2⟩
   |fz k' rows=>
    rw[e]at hz;have ho:=r.ob id;rw[e]at ho;obtain⟨_,us,t,fr,g1,g2,g3,g4⟩:=ho;obtain⟨rfl,rfl,v,f1,f2⟩:=zS (P:=P) (ρ:=ρ) hg hk g1 g4 hz;exact⟨_,v,rfl,f1,r,.refl _ _ _,f2⟩
  |some p=>
   simp only[fW]at hz;cases e:h id with
   |bx cs=>
    rw[e]at hz;simp only[jl]at hz;cases e2:cs[p]? with
    |none=>rw[e2]at hz;cases hz
    |some c=>
     rw[e2]at hz;cases c<;>simp only[ub]at hz<;>try (cases hz;done)
     obtain⟨us,t,g1,g2,g3,g4⟩:=r.cell e;obtain⟨u,f1,a,cap,us',t',e1,e2',e3,e4,e5,e6,e7⟩:=g4 p _ e2;obtain⟨rfl,rfl,v,f1,f2⟩:=zS (P:=P) (ρ:=ρ) hg hk e4 e7 hz;exact⟨_,v,rfl,f1,r,.refl _ _ _,f2⟩
   |_=>rw[e]at hz;cases hz
 |_=>cases hz
def cw(us:Array Value)(o:Nat)(vs:List Value):Array Value:=(us.toList.take o++vs++us.toList.drop (o+vs.length)).toArray
theorem ez{us:Array Value}{o:Nat}{vs:List Value}(hle:o+vs.length<=us.size)(q:Nat):(cw us o vs)[q]?=if o<=q/\q<o+vs.length then vs[q-o]? else us[q]?:=by
 unfold cw;grind
theorem cH{us:Array Value}{o:Nat}{vs:List Value}(hle:o+vs.length<=us.size):(cw us o vs).size=us.size:=by
 grind[cw]
theorem kt{us:Array Value}{o:Nat}{vs:List Value}(hle:o+vs.length<=us.size)(hs:∀ (j:Nat) (v:Value),vs[j]?=some v->us[o+j]?=some v):cw us o vs=us:=by
 apply Array.ext_getElem?;intro q;rw[ez hle];grind
theorem V1{us:Array Value}{o:Nat}{v:Value}{vs:List Value}(hle:o+(v::vs).length<=us.size):cw (cw us o [v]) (o+1) vs=cw us o (v::vs):=by
 have h1:o+[v].length<=us.size:=by grind
 apply Array.ext_getElem?;intro q;rw[ez (by grind[cH]),ez h1,ez (by omega)];grind
theorem qy{ty:TypeId}{k:Nat}(hk:bo P ty=some k){v:Value}(hv:v.cells.size=k)(h1:∀u∈v.cells.toList,u.oneCell'=true){b o:Nat}{us:Array Value}{t:TypeId}
  (hb:w.heap[b]?=some (.cells us t (0,0))) (hle:o+k<=us.size):(storeVar ty ⟨b,o,none⟩ v).run P w=.ok () (w.setRow b (cw us o v.cells.toList)):=by
 have:=run_storeCells_at P b o t v.cells.toList 0 us w hb (by grind) h1
 simp_all[storeVar,Sem.run_bind,eX,Result.andThen,ne_eq,not_true_eq_false,if_false,cw]
end
section
variable {P:Program} {w w':World} {X:Nat→Prop} {ρ ρ':br} {h h':ac} {A A':Nat→Prop}
theorem RC.keep{id p:Nat}{c:AV}{u:Value}(hc:RC w A ρ h id p c u)(hA:∀b,A b->A' b/\w'.heap[b]?=w.heap[b]?)(hB:∀id,bf (h id)=true->bf (h' id)=true/\ρ' id none=ρ id none)
  (hρ:ρ' id (some p)=ρ id (some p)) (hb:aW c=true->w'.heap[(ρ id (some p)).1]?=w.heap[(ρ id (some p)).1]?):RC w' A' ρ' h' id p c u:=by
 cases hO:aW c with
 |true=>
  cases c<;>simp[aW]at hO;obtain⟨a,cap,us',t',g1,g2,g3,g4,g5,g6,g7⟩:=hc;exact⟨a,cap,us',t',g1,by grind,g3,by rw[hρ,hb rfl,g4],by grind,g6,g7.mono hA⟩
 |false=>
  rw[oQ hO]at hc⊢;obtain⟨g1,g2⟩:=hc.1.keepC hc.2.2 hA hB;grind
theorem ug(_r:Rel w X ρ h){id:Nat}{sub:Option Nat}(hl:live h id sub){o':Ob}{ks:K}(us':Array Value)(hlive:∀s,live (upd h id o') id s->live h id s)
  (hkeep:∀s,bC h id s->gS ks id s=false->bC (upd h id o') id s) (hbf:bf (h id)=true->bf o'=true):Evo w ρ h (w.setRow (ρ id sub).1 us') ρ (upd h id o') ks:=by
 have hl':∀id' s,live (upd h id o') id' s->live h id' s:=by
  grind[cx,aI]
 refine⟨rfl,rfl,rfl,by simp,fun b _ ho=>setRow_other w _ b us' (fun e=>ho ⟨id,sub,hl,e.symm⟩),fun id' s hp hk=>⟨?_,rfl⟩,fun b ho=>?_,fun id' hb=>⟨?_,rfl⟩,fun id' _ hd=>⟨vF (fun e=>by cases sub<;>simp[live,e]at hl) hd,rfl⟩⟩
 ·grind[dV,aI]
 ·obtain⟨id',s,h1,h2⟩:=ho;exact .inl ⟨id',s,hl' id' s h1,h2⟩
 grind[aq,aI]
theorem oR(r:Rel w X ρ h){id:Nat}{sub:Option Nat}(hl:live h id sub){o':Ob}{ks:K}(us':Array Value)(hlive:∀s,live (upd h id o') id s->live h id s)
  (ev:Evo w ρ h (w.setRow (ρ id sub).1 us') ρ (upd h id o') ks) (ho:RO (w.setRow (ρ id sub).1 us') (aF (w.setRow (ρ id sub).1 us') X (upd h id o') ρ) ρ (upd h id o') id o'):Rel (w.setRow (ρ id sub).1 us') X ρ (upd h id o'):=by
 have hl':∀id' s,live (upd h id o') id' s->live h id' s:=by
  grind[cx,aI]
 refine r.step ev (·=id) (fun id' hi=>⟨aI h _ hi,fun _=>rfl,fun s h1=>setRow_other w _ _ us' fun e=>hi (r.inj id' s id sub h1 hl e).1⟩) (fun a b c d h1 h2=>r.inj a b c d (hl' a b h1) (hl' c d h2)) (fun a b h1=>r.nx a b (hl' a b h1)) (fun id' hi=>?_);grind[aq]
theorem wrB(r:Rel w X ρ h){id p:Nat}{cs xs:List AV}(e:h id=.bx cs){us:Array Value}{t:TypeId}(hb:w.heap[(ρ id none).1]?=some (.cells us t (0,0))){vals:List Value}(hlen:vals.length=xs.length)
  (hx:∀ (m:Nat) (c:AV) (u:Value),xs[m]?=some c->vals[m]?=some u->aW c=false/\RV w (aF w X h ρ) ρ h c u/\u.oneCell'=true/\ju h c) (hle:p+xs.length<=cs.length):
  Rel (w.setRow (ρ id none).1 (cw us p vals)) X ρ (upd h id (.bx (setRow cs p xs)))/\Evo w ρ h (w.setRow (ρ id none).1 (cw us p vals)) ρ (upd h id (.bx (setRow cs p xs))) (if((cs.drop p).take xs.length).any aW then [(id,true)]else []):=by
 have hln:live h id none:=by grind[live]
 obtain⟨us0,t0,g1,g2,g3,g4⟩:=r.cell e;rw[hb]at g1;cases g1;have hov:p+vals.length<=us.size:=by omega
 have hlive:∀s,live (upd h id (.bx (setRow cs p xs))) id s->live h id s:=by
  intro s h1;cases s with
  |none=>omega
  |some q=>
   obtain⟨cs',k,rows,h2,h3⟩:=h1;rw[aq]at h2;cases h2;rw[pG q xs cs p hle]at h3;split at h3
   ·obtain⟨u,hu⟩:∃u,vals[q-p]?=some u:=⟨vals[q-p]'(by omega),List.getElem?_eq_getElem _⟩;grind[aW]
   ·exact⟨cs,k,rows,e,h3⟩
 have hkeep:∀s,bC h id s->gS (if((cs.drop p).take xs.length).any aW then [(id,true)]else []) id s=false->bC (upd h id (.bx (setRow cs p xs))) id s:=by
  intro s hp hk;cases s with
  |none=>simp[bC,aq]
  |some q=>
   obtain⟨cs',k,rows,h2,h3⟩:=hp;rw[e]at h2;cases h2;refine⟨setRow cs p xs,k,rows,aq _ _ _,?_⟩;rw[pG q xs cs p hle];split
   ·have:((cs.drop p).take xs.length).any aW=true:=List.any_eq_true.2 ⟨.osl k rows,by
     refine List.mem_of_getElem? (i:=q-p) ?_;grind,rfl⟩
    grind[gS]
   omega
 have ev:=ug (X:=X) r hln (cw us p vals) hlive hkeep (fun _=>rfl);refine⟨oR r hln (cw us p vals) hlive ev ?_,ev⟩;refine⟨cw us p vals,t,setRow_heap w _ us _ t _ hb,by grind[cH],by grind[cH,we],fun q c hq=>?_⟩;rw[pG q xs cs p hle]at hq;rw[ez hov];split at hq
 ·obtain⟨u,hu⟩:∃u,vals[q-p]?=some u:=⟨vals[q-p]'(by omega),List.getElem?_eq_getElem _⟩;obtain⟨f1,f2,f3,f4⟩:=hx _ _ _ hq hu;obtain⟨f5,f6⟩:=f2.keepC f4 (fun b hb=>ev.al hb) ev.boxes;grind[oQ]
 ·rw[if_neg (by omega)];obtain⟨u,f1,f2⟩:=g4 q c hq;refine⟨u,f1,f2.keep (fun b hb=>ev.al hb) ev.boxes rfl (fun hO=>?_)⟩;cases c<;>simp[aW]at hO;exact setRow_other w _ _ _ fun e2=>absurd (r.inj id (some q) id none ⟨cs,_,_,e,hq⟩ hln e2).2 (by simp)
theorem mvB(r:Rel w X ρ h){id p id0 k cap:Nat}{cs:List AV}{rows:List (List AV)}{a:Option Addr}(e:h id=.bx cs){us:Array Value}{t:TypeId}(hb:w.heap[(ρ id none).1]?=some (.cells us t (0,0)))(e0:h id0=.ar k rows)
  (hn:rows.length<=cap) (hc:cap*k=(ρ id0 none).2) (ha:cap=0\/a=some ⟨(ρ id0 none).1,0,none⟩) (hp:p<cs.length):
  Rel (w.setRow (ρ id none).1 (cw us p [.slice a rows.length cap])) X (i8 ρ id (some p) (ρ id0 none)) (upd (upd h id0 .dead) id (.bx (cs.set p (.osl k rows))))/\
   Evo w ρ h (w.setRow (ρ id none).1 (cw us p [.slice a rows.length cap])) (i8 ρ id (some p) (ρ id0 none)) (upd (upd h id0 .dead) id (.bx (cs.set p (.osl k rows)))) ([(id0,false)]++(if(cs[p]?).any aW then [(id,true)]else [])):=by
 have hln:live h id none:=by grind[live]
 have hl0:live h id0 none:=by grind[live]
 have hne:id0≠id:=by grind
 obtain⟨us0,t0,g1,g2,g3,g4⟩:=r.cell e;rw[hb]at g1;cases g1;have hov:p+[Value.slice a rows.length cap].length<=us.size:=by grind
 have hρ:∀id' s,¬ (id'=id/\s=some p)->i8 ρ id (some p) (ρ id0 none) id' s=ρ id' s:=fun id' s hh=>As hh;have hl:∀id' s,live (upd (upd h id0 .dead) id (.bx (cs.set p (.osl k rows)))) id' s->(id'=id/\s=some p)\/(¬ (id'=id/\s=some p)/\id'≠id0/\live h id' s):=by
  intro id' s h1;by_cases hi:id'=id
  ·subst hi;cases s with
   |none=>grind
   |some q=>
    by_cases hq:q=p
    ·grind
    ·obtain⟨cs',k',rows',h2,h3⟩:=h1;rw[aq]at h2;cases h2;rw[List.getElem?_set_ne (fun e=>hq e.symm)]at h3;exact .inr ⟨by grind,fun e=>hne e.symm,⟨cs,k',rows',e,h3⟩⟩
  ·by_cases hi0:id'=id0
   ·subst hi0;exfalso;have:=(cx (aI (upd h id' .dead) (.bx (cs.set p (.osl k rows))) hi)).1 h1;cases s<;>simp[live,aq]at this
   grind[cx,aI,upd]
 have blk:∀id' s,live (upd (upd h id0 .dead) id (.bx (cs.set p (.osl k rows)))) id' s->∃id2 s2,live h id2 s2/\(i8 ρ id (some p) (ρ id0 none) id' s).1=(ρ id2 s2).1/\((id'=id/\s=some p/\id2=id0/\s2=none)\/(id2=id'/\s2=s/\id2≠id0)):=by
  grind[bp]
 have ev:Evo w ρ h (w.setRow (ρ id none).1 (cw us p [.slice a rows.length cap])) (i8 ρ id (some p) (ρ id0 none)) (upd (upd h id0 .dead) id (.bx (cs.set p (.osl k rows)))) ([(id0,false)]++(if(cs[p]?).any aW then [(id,true)]else [])):=by
  refine⟨rfl,rfl,rfl,by simp,fun b _ ho=>setRow_other w _ b _ (fun e=>ho ⟨id,none,hln,e.symm⟩),fun id' s hps hk=>?_,fun b ho=>?_,fun id' hbf=>?_,fun id' _ hnd=>⟨fun e1=>?_,hρ _ _ (by simp)⟩⟩
  ·have hi0:id'≠id0:=by grind[gS]
   by_cases hi:id'=id
   ·subst hi;cases s with
    |none=>grind[bC,aq]
    |some q=>
     obtain⟨cs',k',rows',h2,h3⟩:=hps;rw[e]at h2;cases h2;have hq:q≠p:=by
      grind[aW,gS]
     exact⟨⟨_,k',rows',aq _ _ _,by grind⟩,hρ _ _ (by grind)⟩
   grind[dV,aI]
  ·obtain⟨id',s,h1,h2⟩:=ho;obtain⟨id2,s2,h3,h4,_⟩:=blk id' s h1;exact .inl ⟨id2,s2,h3,h4.symm.trans h2⟩
  all_goals grind[bf,aq,aI]
 refine⟨r.step ev (fun i=>i=id\/i=id0) (fun id' hi=>?_) (fun i s i' s' h1 h2 h3=>?_) (fun i s h1=>?_) (fun id' hi=>?_),ev⟩
 ·simp only[not_or]at hi;exact⟨by rw[aI _ _ hi.1,aI _ _ hi.2],fun s=>hρ _ _ (by omega),fun s h1=>setRow_other w _ _ _ fun e=>hi.1 (r.inj id' s id none h1 hln e).1⟩
 ·obtain⟨i2,s2,f1,f2,f3⟩:=blk i s h1;obtain⟨i3,s3,f4,f5,f6⟩:=blk i' s' h2;obtain⟨rfl,rfl⟩:=r.inj i2 s2 i3 s3 f1 f4 (by omega);grind
 ·obtain⟨i2,s2,f1,f2,_⟩:=blk i s h1;rw[f2];exact r.nx _ _ f1
 ·rcases hi with rfl|rfl
  ·rw[aq];refine⟨cw us p [.slice a rows.length cap],t,by grind[setRow_heap],by grind[cH],by grind[cH,List.length_set],fun q c hq=>?_⟩;rw[ez hov];by_cases hqp:q=p
   ·subst hqp;rw[List.getElem?_set_self hp]at hq;cases hq;rw[if_pos (by simp)];refine⟨.slice a rows.length cap,by simp,?_⟩;have ho:=r.ob id0;rw[e0]at ho;obtain⟨us1,t1,f1,f2,f3,f4⟩:=ho;refine⟨a,cap,us1,t1,rfl,by grind[bp],hn,?_,by grind[bp],by omega,f4.mono fun b hb=>ev.al hb⟩;rw[bp,setRow_other w _ _ _ (fun e2=>hne (r.inj id0 none id' none hl0 hln e2).1)];omega
   ·rw[List.getElem?_set_ne (fun e=>hqp e.symm)]at hq;rw[if_neg (by grind)];obtain⟨u,f1,f2⟩:=g4 q c hq;refine⟨u,f1,f2.keep (fun b hb=>ev.al hb) ev.boxes (hρ _ _ (by grind)) (fun hO=>?_)⟩;cases c<;>simp[aW]at hO;exact setRow_other w _ _ _ fun e2=>absurd (r.inj id' (some q) id' none ⟨cs,_,_,e,hq⟩ hln e2).2 (by simp)
  ·rw[aI _ _ hne,aq];trivial
end
section
variable {P:Program} {w w':World} {X:Nat→Prop} {ρ ρ':br} {h h':ac} {A A':Nat→Prop}
def TO(w:World)(X:Nat->Prop)(ρ:br)(h h':ac)(y:AV)(u:Value)(ks:K):Prop:=
 (Rel w X ρ h'/\Evo w ρ h w ρ h' ks/\aW y=false/\RV w (aF w X h' ρ) ρ h' y u/\ju h' y)\/
  (∃id0 k rows0 rows cap a,h id0=.ar k rows0/\(∃m,rows=rows0.take m)/\y=.osl k rows/\h'=upd h id0 .dead/\ks=[(id0,false)]/\u=.slice a rows.length cap/\rows.length<=cap/\cap*k=(ρ id0 none).2/\(cap=0\/a=some ⟨(ρ id0 none).1,0,none⟩))
theorem Jq{c:AV}(hd:aB c=true):aW c=false:=by cases c<;>simp[aB]at hd<;>rfl
theorem V3(r:Rel w X ρ h){x y:AV}{u:Value}{ks:K}(hx:RV w (aF w X h ρ) ρ h x u)(h1:u.oneCell'=true)(hi:Ch h x=some (y,h',ks)):TO w X ρ h h' y u ks:=by
 have dl:aB x=true->Ch h x=some (x,h,[])->TO w X ρ h h' y u ks:=fun hd hq=>by
  rw[hq]at hi;obtain⟨rfl,rfl,rfl⟩:=hi;exact .inl ⟨r,.refl _ _ _,Jq hd,hx,sB hd⟩
 have fr:Rel w X ρ h'/\Evo w ρ h w ρ h' ks/\RD w (aF w X h' ρ) y u/\aB y=true->TO w X ρ h h' y u ks:=
  fun⟨f1,f2,f3,f4⟩=>.inl ⟨f1,f2,Jq f4,.dat f3,sB f4⟩
 cases x with
 |rsl id sub k lo n=>
  obtain⟨a,cap,rfl,hp,hn,hb,ha⟩:=hx.rsl_inv;cases sub with
  |some p=>exact fr (Hr r hn ha hi)
  |none=>
   simp only[Ch]at hi;have other:K3 h id k lo n (h id)=mf h id k lo n (h id)->TO w X ρ h h' y (.slice a n cap) ks:=fun hq=>by
    grind[Hq]
   cases e:h id with
   |ar k' rows=>
    by_cases hk:k'=k
    ·subst hk;by_cases hw:lo=0/\n=rows.length
     ·obtain⟨rfl,rfl⟩:=hw;rw[e]at hi;simp only[K3,and_self,if_true]at hi;cases hi;exact .inr ⟨id,k',rows,rows,cap,a,e,⟨rows.length,List.take_length.symm⟩,rfl,rfl,rfl,rfl,hn,by grind,by grind⟩
     ·by_cases hw2:lo=0/\n<=rows.length
      ·obtain⟨rfl,hle⟩:=hw2;rw[e]at hi;simp only[K3,if_true]at hi;rw[if_neg (fun h=>hw ⟨rfl,h.2⟩),if_pos ⟨trivial,hle⟩]at hi;cases hi;have hlen:(rows.take n).length=n:=by grind
       exact .inr ⟨id,k',rows,rows.take n,cap,a,e,⟨n,rfl⟩,rfl,rfl,rfl,by rw[hlen],by omega,by grind,by grind⟩
      grind[K3]
    grind[K3]
   |_=>exact other (by rw[e];rfl)
 |ref id sub k i j=>
  cases sub with
  |some p=>grind[Ch,aB]
  |none=>
   simp only[Ch]at hi;cases e:h id<;>rw[e]at hi<;>simp only[inP]at hi<;>cases hi;exact .inl ⟨r,.refl _ _ _,rfl,hx,by grind[ju,bf]⟩
 |fn f a b=>
  simp only[Ch]at hi;split at hi
  ·rename_i hd;cases hi;exact .inl ⟨r,.refl _ _ _,rfl,hx,hd⟩
  grind
 |any=>exact dl rfl rfl
 |v x=>exact dl rfl rfl
 |emp=>exact dl rfl rfl
 |sl k rows=>exact dl rfl rfl
 |_=>simp[Ch,aB]at hi
theorem V4{α:Type}(s:Nat->α)(d:Nat)(x y:α):upd (upd s d x) d y=upd s d y:=by
 grind[upd]
theorem V5(r:Rel w X ρ h){id k m:Nat}{rows:List (List AV)}(e:h id=.ar k rows):Rel w X ρ (upd h id (.ar k (rows.take m)))/\Evo w ρ h w ρ (upd h id (.ar k (rows.take m))) []:=by
 have hl:∀id' s,live (upd h id (.ar k (rows.take m))) id' s->live h id' s:=by
  intro id' s h1;by_cases hi:id'=id
  all_goals simp_all[live,aq,cx,aI]
 have ev:Evo w ρ h w ρ (upd h id (.ar k (rows.take m))) []:=by
  refine⟨rfl,rfl,rfl,Nat.le_refl _,fun _ _ _=>rfl,fun id' s hp hk=>⟨?_,rfl⟩,fun b ho=>?_,fun id' hb=>⟨?_,rfl⟩,fun id' _ hd=>⟨vF (by grind) hd,rfl⟩⟩
  ·by_cases hi:id'=id
   ·subst hi;cases s with
    |none=>simp[bC,aq]
    |some q=>obtain⟨_,_,_,h2,_⟩:=hp;grind
   grind[dV,aI]
  ·obtain⟨id',s,h1,h2⟩:=ho;exact .inl ⟨id',s,hl id' s h1,h2⟩
  grind[bf,aI]
 refine⟨r.step ev (·=id) (fun id' hi=>⟨aI h _ hi,fun _=>rfl,fun _ _=>rfl⟩) (fun a b c d h1 h2=>r.inj a b c d (hl a b h1) (hl c d h2)) (fun a b h1=>r.nx a b (hl a b h1)) (fun id' hi=>?_),ev⟩;subst hi;have ho:=r.ob id';rw[e]at ho;obtain⟨us,t0,g1,g2,g3,g4⟩:=ho;rw[aq];refine⟨us,t0,g1,g2,Nat.le_trans (Nat.mul_le_mul_right k (by grind)) g3,fun i row hr=>?_⟩;rw[List.getElem?_take]at hr;split at hr
 ·exact(g4.mono fun b hb=>ev.al hb) i row hr
 grind
theorem TP(r:Rel w X ρ h){id p:Nat}{cs:List AV}(e:h id=.bx cs){us:Array Value}{t:TypeId}(hb:w.heap[(ρ id none).1]?=some (.cells us t (0,0))){x y:AV}{u:Value}{h1:ac}{k1 ks:K}
  (hx:RV w (aF w X h ρ) ρ h x u) (hu:u.oneCell'=true) (hi:Ch h x=some (y,h1,k1)) (hs:F6 h1 id p y k1 (h1 id)=some (h',ks)):
  ∃ρ',Rel (w.setRow (ρ id none).1 (cw us p [u])) X ρ' h'/\Evo w ρ h (w.setRow (ρ id none).1 (cw us p [u])) ρ' h' ks/\ρ' id none=ρ id none/\p<us.size/\∃cs',h' id=.bx cs':=by
 obtain⟨us0,t0,g1,g2,g3,g4⟩:=r.cell e;rw[hb]at g1;cases g1;rcases V3 r hx hu hi with⟨f1,f2,f3,f4,f5⟩| ⟨id0,k,rows0,rows,cap,a,e0,⟨mm,hmm⟩,rfl,rfl,rfl,rfl,f2,f3,f4⟩
 ·cases e1:h1 id with
  |bx cs1=>
   rw[e1]at hs;simp only[F6]at hs;split at hs
   ·cases hs;obtain⟨w1,w2⟩:=wrB (vals:=[u]) (xs:=[y]) (p:=p) f1 e1 hb rfl (fun m c v hc hv=>by
     grind) (by grind)
    refine⟨ρ,w1,?_,rfl,?_,_,aq _ _ _⟩
    ·have w3:=f2.trans w2;have h9:List.take 1 (List.drop p cs1)=[cs1[p]]:=by grind[List.drop_eq_getElem_cons]
     have:(List.take [y].length (List.drop p cs1)).any aW=Option.any aW cs1[p]?:=by
      grind
     rw[this]at w3;exact w3
    ·obtain⟨us2,t2,q1,q2,q3,q4⟩:=f1.cell e1;omega
   grind
  |_=>rw[e1]at hs;cases hs
 ·have hne:id≠id0:=by grind
  rw[aI _ _ hne,e]at hs;simp only[F6]at hs;split at hs
  ·rename_i hp;cases hs;subst hmm;obtain⟨s1,s2⟩:=V5 r e0 (m:=mm);have e':(upd h id0 (.ar k (rows0.take mm))) id=.bx cs:=by grind[aI]
   obtain⟨w1,w2⟩:=mvB (p:=p) s1 e' hb (aq _ _ _) f2 f3 f4 hp;rw[V4]at w1 w2;exact⟨_,w1,by simpa using s2.trans w2,As (by simp),by omega,_,aq _ _ _⟩
  grind
theorem V6{ks:K}{xs:List AV}{m:Nat}{c:AV}(hc:(wN ks xs)[m]?=some c):∃c',xs[m]?=some c'/\(c=c'/\(ks=[]\/RU ks c'=false)\/c=.any):=by
 cases ks with
 |nil=>exact⟨c,hc,.inl ⟨rfl,.inl rfl⟩⟩
 |cons k ks=>
  grind[wN,Option.map_eq_some_iff,nY]
theorem Evo.rvk{ks:K}(e:Evo w ρ h w' ρ' h' ks){c:AV}{u:Value}(hv:RV w (aF w X h ρ) ρ h c u)(hm:ks=[]\/RU ks c=false):RV w' (aF w' X h' ρ') ρ' h' c u:=by
 rcases hm with rfl|hm
 ·exact e.rv hv
 ·exact hv.keep2 (fun b hb=>e.al hb) (fun id sub hp hk=>e.keep id sub hp hk) hm
theorem Nz(ks:K)(xs:List AV):(wN ks xs).length=xs.length:=by cases ks<;>simp[wN]
theorem xD:∀ (n:Nat) (xs:List AV) (vals:List Value) (p:Nat) {w:World} {ρ:br} {h h':ac} {ks:K} {id:Nat} {cs:List AV} {us:Array Value} {t:TypeId},Rel w X ρ h->h id=.bx cs->w.heap[(ρ id none).1]?=some (.cells us t (0,0))->
  vals.length=xs.length->(∀ (m:Nat) (c:AV) (u:Value),xs[m]?=some c->vals[m]?=some u->RV w (aF w X h ρ) ρ h c u/\u.oneCell'=true)->p+vals.length<=us.size->mU h id p n xs=some (h',ks)->
  ∃ρ',Rel (w.setRow (ρ id none).1 (cw us p vals)) X ρ' h'/\Evo w ρ h (w.setRow (ρ id none).1 (cw us p vals)) ρ' h' ks/\ρ' id none=ρ id none/\∃cs',h' id=.bx cs'
 |_,[],vals,p,w,ρ,h,h',ks,id,cs,us,t,r,e,hb,hlen,_,hle,hs=>by
  simp only[mU,Option.some.injEq,Prod.mk.injEq]at hs;obtain⟨rfl,rfl⟩:=hs;rw[kt hle (fun j v hv=>by grind),setRow_self w _ us t (0,0) hb];exact⟨ρ,r,.refl _ _ _,rfl,cs,e⟩
 |0,x::xs,_,_,_,_,_,_,_,_,_,_,_,_,_,_,_,_,_,hs=>by grind[mU]
 |n+1,x::xs,[],p,w,ρ,h,h',ks,id,cs,us,t,r,e,hb,hlen,hx,hle,hs=>by grind
 |n+1,x::xs,u::vals,p,w,ρ,h,h',ks,id,cs,us,t,r,e,hb,hlen,hx,hle,hs=>by
  simp only[mU,Option.bind_eq_some_iff]at hs;obtain⟨⟨y,h1,k1⟩,e1,⟨h2,k2⟩,e2,⟨h3,k3⟩,e3,e4⟩:=hs;cases e4;obtain⟨f1,f2⟩:=hx 0 x u rfl rfl;obtain⟨ρ1,g1,g2,g3,g4,cs1,g5⟩:=TP r e hb f1 f2 e1 e2;have hsz:(cw us p [u]).size=us.size:=cH (by grind);have hb1:(w.setRow (ρ id none).1 (cw us p [u])).heap[(ρ1 id none).1]?=some (.cells (cw us p [u]) t (0,0)):=by grind[setRow_heap]
  obtain⟨ρ2,q1,q2,q3,q4⟩:=xD n (wN k2 xs) vals (p+1) g1 g5 hb1 (by grind[Nz]) (fun m c v hc hv=>by
   obtain⟨c',p1,p2⟩:=V6 hc;obtain⟨p3,p4⟩:=hx (m+1) c' v (by grind) (by grind);refine⟨?_,p4⟩;rcases p2 with⟨rfl,p2⟩|rfl
   ·exact g2.rvk p3 p2
   ·exact .anyv v) (by grind) e3
  rw[g3,setRow_setRow,V1 hle]at q1 q2;exact⟨ρ2,q1,g2.trans q2,q3.trans g3,q4⟩
theorem CX{k:Nat}{rows:List (List AV)}{us:Array Value}(hr:bT w A k rows us)(hs:rows.length*k<=us.size){i j:Nat}{row xs:List AV}{vals:List Value}(hi:rows[i]?=some row)(hj:j+xs.length<=row.length)
  (hlen:vals.length=xs.length) (hx:∀ (m:Nat) (c:AV) (u:Value),xs[m]?=some c->vals[m]?=some u->RD w A c u/\aB c=true):
  bT w A k (rows.set i (setRow row j xs)) (cw us (i*k+j) vals)/\i*k+j+vals.length<=us.size:=by
 have hrow:=(hr i row hi).1;have hil:i<rows.length:=(List.getElem?_eq_some_iff.1 hi).1;have h1:(i+1)*k<=rows.length*k:=Nat.mul_le_mul_right k hil;rw[Nat.add_mul,Nat.one_mul]at h1;have hov:i*k+j+vals.length<=us.size:=by omega
 refine⟨fun i' row' hi'=>?_,hov⟩;by_cases e:i'=i
 ·subst e;rw[List.getElem?_set_self hil]at hi';cases hi';refine⟨by grind[we],fun q c hq=>?_⟩;rw[pG q xs row j hj]at hq;rw[ez hov];split at hq
  ·obtain⟨u,hu⟩:∃u,vals[q-j]?=some u:=⟨vals[q-j]'(by omega),List.getElem?_eq_getElem _⟩;grind
  ·rw[if_neg (by omega)];exact(hr i' row hi).2 q c hq
 ·rw[List.getElem?_set_ne (fun x=>e x.symm)]at hi';obtain⟨h2,h3⟩:=hr i' row' hi';refine⟨h2,fun q c hq=>?_⟩;rw[ez hov,if_neg]
  ·grind
  ·rcases Nat.lt_or_gt_of_ne e with h5|h5
   ·have h6:(i'+1)*k<=i*k:=Nat.mul_le_mul_right k h5;grind
   ·have h6:(i+1)*k<=i'*k:=Nat.mul_le_mul_right k h5;grind
theorem wrA(r:Rel w X ρ h){id k i j:Nat}{rows:List (List AV)}{row xs:List AV}(e:h id=.ar k rows){us:Array Value}{t:TypeId}(hb:w.heap[(ρ id none).1]?=some (.cells us t (0,0))){vals:List Value}(hlen:vals.length=xs.length)
  (hx:∀ (m:Nat) (c:AV) (u:Value),xs[m]?=some c->vals[m]?=some u->RD w (aF w X h ρ) c u/\aB c=true) (hi:rows[i]?=some row) (hj:j+xs.length<=row.length):
  Rel (w.setRow (ρ id none).1 (cw us (i*k+j) vals)) X ρ (upd h id (.ar k (rows.set i (setRow row j xs))))/\Evo w ρ h (w.setRow (ρ id none).1 (cw us (i*k+j) vals)) ρ (upd h id (.ar k (rows.set i (setRow row j xs)))) []/\i*k+j+vals.length<=us.size:=by
 have hln:live h id none:=by grind[live]
 have ho:=r.ob id;rw[e]at ho;obtain⟨us0,t0,g1,g2,g3,g4⟩:=ho;rw[hb]at g1;cases g1;have hlive:∀s,live (upd h id (.ar k (rows.set i (setRow row j xs)))) id s->live h id s:=by
  intro s h1;cases s with
  |none=>omega
  |some q=>obtain⟨_,_,_,h2,_⟩:=h1;grind[aq]
 have ev:Evo w ρ h (w.setRow (ρ id none).1 (cw us (i*k+j) vals)) ρ (upd h id (.ar k (rows.set i (setRow row j xs)))) []:=
  ug (X:=X) r hln _ hlive (fun s hp _=>by
   cases s with
   |none=>simp[bC,aq]
   |some q=>obtain⟨_,_,_,h2,_⟩:=hp;grind) (fun hbf=>by rw[e]at hbf;cases hbf)
 obtain⟨f1,f2⟩:=CX (g4.mono fun b hb=>ev.al hb) g3 hi hj hlen (fun m c u hc hu=>⟨ev.rd (hx m c u hc hu).1,(hx m c u hc hu).2⟩);exact⟨oR r hln _ hlive ev ⟨_,t,setRow_heap w _ us _ t _ hb,by grind[cH],by grind[cH,List.length_set],f1⟩,ev,f2⟩
theorem wrS(r:Rel w X ρ h){id p k i j:Nat}{cs:List AV}{rows:List (List AV)}{row xs:List AV}(e:h id=.bx cs)(ep:cs[p]?=some (.osl k rows)){us:Array Value}{t:TypeId}(hb:w.heap[(ρ id (some p)).1]?=some (.cells us t (0,0)))
  {vals:List Value} (hlen:vals.length=xs.length) (hx:∀ (m:Nat) (c:AV) (u:Value),xs[m]?=some c->vals[m]?=some u->RD w (aF w X h ρ) c u/\aB c=true) (hi:rows[i]?=some row) (hj:j+xs.length<=row.length):
  Rel (w.setRow (ρ id (some p)).1 (cw us (i*k+j) vals)) X ρ (upd h id (.bx (cs.set p (.osl k (rows.set i (setRow row j xs))))))/\Evo w ρ h (w.setRow (ρ id (some p)).1 (cw us (i*k+j) vals)) ρ (upd h id (.bx (cs.set p (.osl k (rows.set i (setRow row j xs)))))) []/\
   i*k+j+vals.length<=us.size:=by
 have hlp:live h id (some p):=⟨cs,k,rows,e,ep⟩;have hln:live h id none:=by grind[live]
 have hpl:p<cs.length:=(List.getElem?_eq_some_iff.1 ep).1;obtain⟨us0,t0,g1,g2,g3,g4⟩:=r.cell e;obtain⟨u0,q1,a,cap,us1,t1,rfl,q2,q3,q4,q5,q6,q7⟩:=g4 p _ ep;rw[hb]at q4;cases q4;have hlive:∀s,live (upd h id (.bx (cs.set p (.osl k (rows.set i (setRow row j xs)))))) id s->live h id s:=by
  intro s h1;cases s with
  |none=>omega
  |some q=>
   by_cases hq:q=p
   ·grind
   ·obtain⟨cs',k',rows',h2,h3⟩:=h1;rw[aq]at h2;cases h2;rw[List.getElem?_set_ne (fun e=>hq e.symm)]at h3;exact⟨cs,k',rows',e,h3⟩
 have ev:Evo w ρ h (w.setRow (ρ id (some p)).1 (cw us (i*k+j) vals)) ρ (upd h id (.bx (cs.set p (.osl k (rows.set i (setRow row j xs)))))) []:=
  ug (X:=X) r hlp _ hlive (fun s hp _=>by
   cases s with
   |none=>simp[bC,aq]
   |some q=>
    by_cases hq:q=p
    ·subst hq;exact⟨_,k,_,aq _ _ _,List.getElem?_set_self hpl⟩
    ·obtain⟨cs',k',rows',h2,h3⟩:=hp;exact⟨_,k',rows',aq _ _ _,by grind⟩) (fun _=>rfl)
 obtain⟨f1,f2⟩:=CX (q7.mono fun b hb=>ev.al hb) (Nat.le_trans (Nat.mul_le_mul_right k q3) (Nat.le_of_eq q6)) hi hj hlen (fun m c u hc hu=>⟨ev.rd (hx m c u hc hu).1,(hx m c u hc hu).2⟩);refine⟨oR r hlp _ hlive ev ?_,ev,f2⟩;have oth:∀s,live h id s->s≠some p->(w.setRow (ρ id (some p)).1 (cw us (i*k+j) vals)).heap[(ρ id s).1]?=w.heap[(ρ id s).1]?:=fun s h1 h2=>setRow_other w _ _ _ fun e2=>h2 (r.inj id s id (some p) h1 hlp e2).2;refine⟨us0,t0,by grind,g2,by grind,fun q c hq=>?_⟩;by_cases hqp:q=p
 ·subst hqp;rw[List.getElem?_set_self hpl]at hq;cases hq;exact⟨_,q1,a,cap,_,t,by rw[List.length_set],q2,by grind,setRow_heap w _ us _ t _ hb,by grind[cH],by grind[cH],f1⟩
 ·rw[List.getElem?_set_ne (fun e=>hqp e.symm)]at hq;obtain⟨u,f3,f4⟩:=g4 q c hq;refine⟨u,f3,f4.keep (fun b hb=>ev.al hb) ev.boxes rfl (fun hO=>?_)⟩;cases c<;>simp[aW]at hO;exact oth (some q) ⟨cs,_,_,e,hq⟩ (by grind)
end
section
variable {P:Program} {w w':World} {X:Nat→Prop} {ρ ρ':br} {h h':ac} {A A':Nat→Prop}
theorem Cells.toList{cs:List AV}{us:Array Value}(hc:Cells w A ρ h cs us):us.toList.length=cs.length/\(∀u∈us.toList,u.oneCell'=true)/\
  ∀ (m:Nat) (c:AV) (u:Value),cs[m]?=some c->us.toList[m]?=some u->RV w A ρ h c u/\u.oneCell'=true:=by
 refine⟨by simpa using hc.1,fun u hu=>?_,fun m c u h1 h2=>?_⟩
 ·obtain⟨i,hi⟩:=List.getElem?_of_mem hu;exact hc.2.1 i u (by grind)
 ·exact⟨hc.2.2 m c u h1 (by grind),hc.2.1 m u (by grind)⟩
theorem Bv{A0:Nat->Prop}{h0:ac}{cs ds:List AV}{us:Array Value}{ks:K}(r:Rel w X ρ h)(hA:∀b,A0 b->aF w X h ρ b)(hc:Cells w A0 ρ h0 cs us)(he:fV h cs=some (ds,h',ks)):
  Rel w X ρ h'/\Evo w ρ h w ρ h' ks/\ds.length=cs.length/\∀ (m:Nat) (c:AV) (u:Value),ds[m]?=some c->us.toList[m]?=some u->RD w (aF w X h' ρ) c u/\aB c=true:=by
 obtain⟨f1,f2,f3,f4,f5⟩:=zQ cs (us:=us) 0 r hA (fun i c u h1 h2=>⟨hc.2.2 i c u h1 (by grind),hc.2.1 i u (by grind)⟩) (by rw[hc.1];omega) he;grind
theorem K9{k k0 i j k':Nat}{xs:List AV}{rows q:List (List AV)}(hs:nQ k k0 i j xs k' rows=some q):k'=k0/\∃row,rows[i]?=some row/\j+k<=row.length/\q=rows.set i (setRow row j xs):=by
 grind[nQ,Option.bind_eq_some_iff]
theorem NA(r:Rel w X ρ h){ty:TypeId}{k:Nat}(hk:bo P ty=some k){a x z:AV}{ua ux:Value}{ks:K}(ha:RV w (aF w X h ρ) ρ h a ua)(hx:RV w (aF w X h ρ) ρ h x ux)(hz:iQ h k a x=some (z,h',ks)):
  ∃ad w' ρ',z=.und/\ua=.pointer (some ad)/\(storeVar ty ad ux).run P w=.ok () w'/\Rel w' X ρ' h'/\Evo w ρ h w' ρ' h' ks:=by
 simp only[iQ,Option.bind_eq_some_iff]at hz;obtain⟨xs,e0,hz⟩:=hz;have hc:=vf hx e0;obtain⟨c1,c2,c3⟩:=hc.toList;split at hz
 ·rename_i hlen;subst hlen;have hsz:ux.cells.size=xs.length:=hc.1;cases a with
  |ref id sub k0 i j=>
   obtain⟨rfl,hp⟩:=ha.ref_inv;cases sub with
   |none=>
    simp only at hz;cases e:h id with
    |bx cs=>
     rw[e]at hz;simp only[zM,Jj]at hz;split at hz
     ·rename_i hle;obtain⟨us,t,g1,g2,g3,g4⟩:=r.cell e;have run:=qy hk hsz c2 g1 (o:=i*k0+j) (by omega);split at hz
      ·obtain⟨f1,f2⟩:=wrB r e g1 c1 (fun m c u h1 h2=>by
        grind[Jq,sB]) hle
       grind
      ·simp only[Option.map_eq_some_iff,Prod.mk.injEq]at hz;obtain⟨⟨h2,k2⟩,e2,hzu,rfl,rfl⟩:=hz;obtain⟨ρ',f1,f2,_⟩:=xD xs.length xs ux.cells.toList (i*k0+j) r e g1 c1 c3 (by omega) e2;grind
     grind
    |ar k' rows=>
     rw[e]at hz;simp only[zM,Option.bind_eq_some_iff]at hz;obtain⟨⟨ds,h1,k1⟩,e1,hz⟩:=hz;obtain⟨f1,f2,f3,f4⟩:=Bv r (fun _ hb=>hb) hc e1;simp only at hz;cases e2:h1 id<;>rw[e2]at hz<;>simp only[Jk]at hz<;>try (cases hz;done)
     rename_i k2 rows2;simp only[Option.map_eq_some_iff,Prod.mk.injEq]at hz;obtain⟨q,e3,hzu,rfl,rfl⟩:=hz;obtain⟨rfl,row,g1,g2,rfl⟩:=K9 e3;have ho:=f1.ob id;rw[e2]at ho;obtain⟨us,t,q1,q2,q3,q4⟩:=ho;obtain⟨w1,w2,w3⟩:=wrA f1 e2 q1 (by omega) f4 g1 (by rw[f3];omega);have run:=qy hk hsz c2 q1 (o:=i*k2+j) (by omega);exact⟨_,_,ρ,hzu.symm,rfl,run,w1,by simpa using f2.trans w2⟩
    |_=>rw[e]at hz;cases hz
   |some p=>
    simp only[Option.bind_eq_some_iff]at hz;obtain⟨⟨ds,h1,k1⟩,e1,hz⟩:=hz;obtain⟨f1,f2,f3,f4⟩:=Bv r (fun _ hb=>hb) hc e1;simp only at hz;cases e2:h1 id<;>rw[e2]at hz<;>simp only[Bk]at hz<;>try (cases hz;done)
    rename_i cs;cases e3:cs[p]? with
    |none=>rw[e3]at hz;cases hz
    |some c=>
     rw[e3]at hz;cases c<;>simp only[Tv]at hz<;>try (cases hz;done)
     rename_i k2 rows2;simp only[Option.map_eq_some_iff,Prod.mk.injEq]at hz;obtain⟨q,e4,hzu,rfl,rfl⟩:=hz;obtain⟨rfl,row,g1,g2,rfl⟩:=K9 e4;obtain⟨us,t,q1,q2⟩:=f1.live_heap (id:=id) (sub:=some p) ⟨cs,k2,rows2,e2,e3⟩;obtain⟨w1,w2,w3⟩:=wrS f1 e2 e3 q1 (by omega) f4 g1 (by rw[f3];omega);have run:=qy hk hsz c2 q1 (o:=i*k2+j) (by omega);exact⟨_,_,ρ,hzu.symm,rfl,run,w1,by simpa using f2.trans w2⟩
  |_=>cases hz
 grind
theorem V7{h2:ac}{d:Nat}{b:Nat×Nat}{w2:World}(hd:h2 d≠ .dead)(hρ:ρ d none=b):RV w2 (aF w2 X h2 ρ) ρ h2 (.ref d none 0 0 0) (.pointer (some ⟨b.1,0,none⟩)):=by
 have:=RV.ref (w:=w2) (A:=aF w2 X h2 ρ) (ρ:=ρ) (h:=h2) d none 0 0 0 hd;grind
theorem V8{h2:ac}{d k n cap:Nat}{b:Nat×Nat}{w2:World}(hd:h2 d≠ .dead)(hρ:ρ d none=b)(hn:n<=cap)(hb:cap*k=b.2):RV w2 (aF w2 X h2 ρ) ρ h2 (.rsl d none k 0 n) (.slice (some ⟨b.1,0,none⟩) n cap):=
 .rsl d none k 0 n cap _ hd hn (by grind) (.inr (by grind))
theorem TQ{t:TypeId}{k:Nat}(r:Rel w X ρ h){d:Nat}(hdp:aQ d=false){x z:AV}{u:Value}{ks:K}(hx:RV w (aF w X h ρ) ρ h x u)(hn:aq2 h d k x=some (z,h',ks)):
  ∃v w',(Instr.box t u).run P w=.ok v w'/\Got w X ρ h w' h' ks z v:=by
 simp only[aq2,Option.bind_eq_some_iff]at hn;obtain⟨xs,e0,hn⟩:=hn;have hc:=vf hx e0;obtain⟨c1,c2,c3⟩:=hc.toList;split at hn
 ·refine⟨.pointer (some ⟨w.heap.size,0,none⟩),w.alloc (.cells u.cells t),by simp[Instr.box,newVar,newRow],?_⟩;split at hn
  ·rename_i hd;obtain⟨h1,rfl,rfl,rfl⟩:=jv hn;obtain⟨g6,g7⟩:=vG (e:=t) r hdp h1 (K8 hc hd);exact⟨_,g6,g7,V7 (by grind[aq]) (bp _ _ _ _)⟩
  ·simp only[Option.bind_eq_some_iff]at hn;obtain⟨⟨z1,h1,k1⟩,e1,hn⟩:=hn;obtain⟨hd,rfl,rfl,rfl⟩:=jv e1;simp only[F7,Option.map_eq_some_iff,Prod.mk.injEq]at hn;obtain⟨⟨h2,k2⟩,e2,rfl,rfl,rfl⟩:=hn;have hok:TN w (aF w X h ρ) ρ h u.cells (.bx (List.replicate k .any)):=by
    refine⟨by grind,fun p c hp=>?_⟩;obtain⟨hp1,hp2⟩:=List.getElem?_eq_some_iff.1 hp;simp only[List.length_replicate]at hp1;rw[List.getElem_replicate]at hp2;subst hp2;have hsz:u.cells.size=xs.length:=hc.1;obtain⟨v,hv⟩:∃v,u.cells[p]?=some v:=⟨u.cells[p]'(by omega),Array.getElem?_eq_getElem _⟩;exact⟨rfl,v,hv,.anyv v,hc.2.1 p v hv,trivial⟩
   obtain⟨g6,g7⟩:=vG (e:=t) r hdp hd hok;have hb1:(w.alloc (.cells u.cells t)).heap[(i8 ρ d none (w.heap.size,u.cells.size) d none).1]?=some (.cells u.cells t (0,0)):=by grind[bp,sC]
   obtain⟨ρ',q1,q2,q3,cs',q4⟩:=xD xs.length xs u.cells.toList 0 g6 (aq _ _ _) hb1 c1 (fun m c v h1 h2=>⟨g7.rv (c3 m c v h1 h2).1,(c3 m c v h1 h2).2⟩) (by simp) e2;rw[kt (by simp) (fun j v hv=>by simpa using hv),setRow_self _ _ _ t (0,0) hb1]at q1 q2;exact⟨ρ',q1,g7.trans q2,V7 (b:=(w.heap.size,u.cells.size)) (by grind) (by rw[q3,bp])⟩
 grind
theorem V9(off:Nat)(vs us:Array Value)(hle:off+vs.size<=us.size):vs.zipIdx.foldl (fun cs (c,j)=>cs.setIfInBounds (off+j) c) us=cw us off vs.toList:=by
 have fold:∀ (l:List Value) (k:Nat) (us:Array Value),((l.zipIdx k).foldl (fun cs (x:Value×Nat)=>cs.setIfInBounds (off+x.2) x.1) us).size=us.size/\
   ∀ (i:Nat),off+k+l.length<=us.size->((l.zipIdx k).foldl (fun cs (x:Value×Nat)=>cs.setIfInBounds (off+x.2) x.1) us)[i]?=if off+k<=i/\i<off+k+l.length then l[i- (off+k)]? else us[i]?:=by
  intro l;induction l with
  |nil=>intro k us;exact⟨by simp,fun i _=>by simp;omega⟩
  |cons v l ih=>
   simp only[List.zipIdx_cons,List.foldl_cons];grind
 have e:vs.zipIdx.foldl (fun cs (c,j)=>cs.setIfInBounds (off+j) c) us=(vs.toList.zipIdx 0).foldl (fun cs (x:Value×Nat)=>cs.setIfInBounds (off+x.2) x.1) us:=by
  rw[←Array.foldl_toList,Array.toList_zipIdx]
 apply Array.ext_getElem?;grind[ez]
theorem TR{row xs:List AV}(hl:xs.length=row.length):setRow row 0 xs=xs:=by
 apply List.ext_getElem?;grind[pG]
theorem Au{k:Nat}{A0:Nat->Prop}{h0:ac}:∀ (ps:List (Nat×AV)) (vs:List (Nat×Value)) {h h':ac} {rows rows':List (List AV)} {us:Array Value} {ks:K},Rel w X ρ h->(∀b,A0 b->aF w X h ρ b)->vs.length=ps.length->
  (∀ (m:Nat) (p:Nat×AV) (v:Nat×Value),ps[m]?=some p->vs[m]?=some v->v.1=p.1/\RV w A0 ρ h0 p.2 v.2)->bT w (aF w X h ρ) k rows us->rows.length*k<=us.size->eW k h rows ps=some (rows',h',ks)->
  ∃us',Instr.fill (fun i=>some (i*k,k)) us vs=some us'/\us'.size=us.size/\rows'.length=rows.length/\bT w (aF w X h' ρ) k rows' us'/\Rel w X ρ h'/\Evo w ρ h w ρ h' ks
 |[],vs,h,h',rows,rows',us,ks,r,hA,hl,hv,hr,hs,hp=>by
  have:vs=[]:=List.eq_nil_of_length_eq_zero (by omega);subst this;obtain⟨rfl,rfl,rfl⟩:=hp;exact⟨us,rfl,rfl,rfl,hr,r,.refl _ _ _⟩
 |p::ps,[],h,h',rows,rows',us,ks,r,hA,hl,hv,hr,hs,hp=>by grind
 | (i,a)::ps,(i',v)::vs,h,h',rows,rows',us,ks,r,hA,hl,hv,hr,hs,hp=>by
  simp only[eW,Option.bind_eq_some_iff]at hp;obtain⟨cs,e0,hp⟩:=hp;obtain⟨hv1,hv2⟩:=hv 0 (i,a) (i',v) rfl rfl;subst hv1;have hc:=vf hv2 e0;split at hp
  ·rename_i hcond;obtain⟨hck,hi⟩:=hcond;simp only[Option.bind_eq_some_iff]at hp;obtain⟨⟨ds,h1,k1⟩,e1,⟨rows2,h2,k2⟩,e2,e3⟩:=hp;cases e3;obtain⟨f1,f2,f3,f4⟩:=Bv r hA hc e1;obtain⟨row,hrow⟩:∃row,rows[i']?=some row:=⟨rows[i'],List.getElem?_eq_getElem hi⟩;have hrl:=(hr i' row hrow).1;have hcs:v.cells.toList.length=ds.length:=by rw[f3];simpa using hc.1
   obtain⟨g1,g2⟩:=CX (hr.mono (w':=w) fun b hb=>f2.al hb) hs hrow (j:=0) (xs:=ds) (vals:=v.cells.toList) (by omega) hcs f4;rw[TR (by omega),Nat.add_zero]at g1;rw[Nat.add_zero]at g2;obtain⟨us',q1,q2,q3,q4,q5,q6⟩:=Au ps vs (us:=cw us (i'*k) v.cells.toList) f1 (fun b hb=>(f2.al (hA b hb)).1) (by grind) (fun m p q h1 h2=>hv (m+1) p q (by grind) (by grind)) g1
    (by grind[cH,List.length_set]) e2
   refine⟨us',?_,by rw[q2,cH g2],by rw[q3,List.length_set],q4,q5,f2.trans q6⟩;simp only[Instr.fill];have hle:i'*k+v.cells.size<=us.size:=by omega
   rw[if_neg (by grind),V9 (i'*k) v.cells us hle];omega
  grind
end
section
variable {P:Program} {w w':World} {X:Nat→Prop} {ρ ρ':br} {h h':ac} {A A':Nat→Prop}
theorem ku{t e:TypeId}(he:qZ P t=some e):P.underlying t=some (.slice e):=by
 grind[qZ]
theorem vH{e:TypeId}{k:Nat}{zs:List AV}(hk:bo P e=some k)(hz:iD P e=some zs)(n c:Nat)(hn:n<=c):∃zv:Value,(∀w,(zeroValue e).run P w=.ok zv w)/\
  ((Array.range (c*k)).map (zv.cells[· %zv.cells.size]!)).size=c*k/\(List.replicate n zs).length*k<=((Array.range (c*k)).map (zv.cells[· %zv.cells.size]!)).size/\bT w A k (List.replicate n zs) ((Array.range (c*k)).map (zv.cells[· %zv.cells.size]!)):=by
 obtain⟨i,z,g1,g2,g3,g4,g5⟩:=kq (w:=w) (A:=A) (ρ:=fun _ _=>(0,0)) (h:=fun _=>.dead) hz;have hik:i.size=k:=by grind[bo]
 refine⟨z,Hs g1 g2,by simp,?_,fun q row hq=>?_⟩
 ·simp_all[List.length_replicate,Array.size_map,Array.size_range,Nat.mul_le_mul_right]
 ·obtain⟨h1,h2⟩:=List.getElem?_eq_some_iff.1 hq;simp only[List.length_replicate]at h1;rw[List.getElem_replicate]at h2;subst h2;refine⟨by omega,fun j c2 hj=>?_⟩;have hjl:=(List.getElem?_eq_some_iff.1 hj).1;have hzl:j<z.cells.size:=by omega
  have hlt:q*k+j<c*k:=by
   have:(q+1)*k<=c*k:=Nat.mul_le_mul_right k (by omega);grind
  have hd:aB c2=true:=List.all_eq_true.1 (Ny hz) c2 (List.mem_of_getElem? hj);refine⟨z.cells[j],?_,(g5.2.2 j c2 _ hj (Array.getElem?_eq_getElem hzl)).toD hd (g5.2.1 j _ (Array.getElem?_eq_getElem hzl)),hd⟩;grind[Nat.mul_comm,Nat.mul_add_mod,Nat.mod_eq_of_lt]
theorem mZ(r:Rel w X ρ h){d k n cap:Nat}(hdp:aQ d=false){rows:List (List AV)}{us:Array Value}{t:TypeId}{x:AV}{ks ks':K}(hr:bT w (aF w X h ρ) k rows us)(hs:rows.length*k<=us.size)(hn:n<=cap)(hc:cap*k=us.size)
  (hz:dA h d k rows n ks=some (x,h',ks')):ks'=ks/\∃ρ',Rel (w.alloc (.cells us t)) X ρ' h'/\Evo w ρ h (w.alloc (.cells us t)) ρ' h' []/\RV (w.alloc (.cells us t)) (aF (w.alloc (.cells us t)) X h' ρ') ρ' h' x (.slice (some ⟨w.heap.size,0,none⟩) n cap):=by
 obtain⟨hd,rfl,rfl,rfl⟩:=jv hz;obtain⟨g1,g2⟩:=vG (e:=t) r hdp hd (us:=us) (o:=.ar k rows) ⟨hs,hr⟩;exact⟨rfl,_,g1,g2,V8 (b:=(w.heap.size,us.size)) (by grind[aq]) (bp _ _ _ _) hn hc⟩
theorem L4(r:Rel w X ρ h){t e:TypeId}{k n d:Nat}(hdp:aQ d=false){zs:List AV}{ps:List (Nat×AV)}{vs:Array (Nat×Value)}{z:AV}{ks:K}(he:qZ P t=some e)(hk:bo P e=some k)(hz:iD P e=some zs)(hn:n*k<=16777216)
  (hl:vs.size=ps.length) (hv:∀ (m:Nat) (p:Nat×AV) (v:Nat×Value),ps[m]?=some p->vs[m]?=some v->v.1=p.1/\RV w (aF w X h ρ) ρ h p.2 v.2)
  (hr:((eW k h (List.replicate n zs) ps).bind fun q=>dA q.2.1 d k q.1 n q.2.2)=some (z,h',ks)):∃v w',(Instr.buildSlice t n vs).run P w=.ok v w'/\Got w X ρ h w' h' ks z v:=by
 simp only[Option.bind_eq_some_iff]at hr;obtain⟨⟨rows,h1,k1⟩,e1,e2⟩:=hr;obtain⟨zv,z1,z2,z3,z4⟩:=vH (w:=w) (A:=aF w X h ρ) hk hz n n (Nat.le_refl n);obtain⟨us',f1,f2,f3,f4,f5,f6⟩:=Au ps vs.toList r (fun _ hb=>hb) (by omega) (fun m p v h1 h2=>hv m p v h1 (by grind)) z4 z3 e1;obtain⟨rfl,ρ',g1,g2,g3⟩:=mZ (t:=e) (cap:=n) f5 hdp f4 (by grind) (Nat.le_refl n) (by rw[f2,z2]) e2;refine⟨.slice (some ⟨w.heap.size,0,none⟩) n n,w.alloc (.cells us' e),?_,ρ',g1,by simpa using f6.trans g2,g3⟩;have hnk:¬ (n*k>2^24):=by omega
 have harr:(Array.range (n*k)).map ((if n*k=0 then #[]else zv.cells)[· % (if n*k=0 then #[]else zv.cells).size]!)=(Array.range (n*k)).map (zv.cells[· %zv.cells.size]!):=by
  grind
 simp only[Instr.buildSlice,Sem.run_bind,run_underlying (ku he),Result.andThen,eX hk,if_neg hnk];by_cases h9:n*k=0
 ·rw[if_pos h9]at harr⊢;simp only[Sem.run_bind,Sem.run_pure,Result.andThen];rw[harr,f1];simp[newRow]
 simp_all[if_neg,Sem.run_bind,Sem.run_pure,Result.andThen,newRow]
theorem TS(r:Rel w X ρ h){t e:TypeId}{k b d:Nat}(hdp:aQ d=false){zs:List AV}{l c z:AV}{ul uc:Value}{ks:K}(he:qZ P t=some e)(hk:bo P e=some k)(hb:mW P e=some b)(hz:iD P e=some zs)
  (hl:RV w (aF w X h ρ) ρ h l ul) (hc:RV w (aF w X h ρ) ρ h c uc)
  (hr:((pD l c).bind fun p=>if p.2*b<=140737488355328 then dA h d k (List.replicate p.1 zs) p.1 []else none)=some (z,h',ks)):∃v w',(Instr.makeSlice t ul uc).run P w=.ok v w'/\Got w X ρ h w' h' ks z v:=by
 simp only[Option.bind_eq_some_iff]at hr;obtain⟨⟨ln,cn⟩,e1,e2⟩:=hr;split at e2
 ·unfold pD at e1;split at e1
  ·rename_i li ci;obtain⟨rfl,_⟩:=hl.v_inv;obtain⟨rfl,_⟩:=hc.v_inv;split at e1
   ·obtain⟨rfl,rfl⟩:=e1;obtain⟨zv,z1,z2,z3,z4⟩:=vH (w:=w) (A:=aF w X h ρ) hk hz li.toNat ci.toNat (by omega);obtain⟨rfl,ρ',g1,g2,g3⟩:=mZ (t:=e) (cap:=ci.toNat) r hdp z4 z3 (by omega) (by rw[z2]) e2;refine⟨_,w.alloc (.cells ((Array.range (ci.toNat*k)).map (zv.cells[· %zv.cells.size]!)) e),?_,ρ',g1,g2,g3⟩;obtain⟨i,hi,hib⟩:∃i,P.info? e=some i/\i.bytes=b:=by simp_all[mW]
    have harr:(Array.range (ci.toNat*k)).map ((if ci.toNat*k=0 then #[]else zv.cells)[· % (if ci.toNat*k=0 then #[]else zv.cells).size]!)=(Array.range (ci.toNat*k)).map (zv.cells[· %zv.cells.size]!):=by
     grind
    have hwl:IntKind.i64.wrap li=li:=by grind[IntKind.wrap,IntKind.signed,IntKind.bits]
    have hwc:IntKind.i64.wrap ci=ci:=by grind[IntKind.wrap,IntKind.signed,IntKind.bits]
    have hti:(typeInfo e).run P w=.ok i w:=by simp[typeInfo,hi]
    have hli:∀n,(asInt (.int .i64 n)).run P w=.ok n w:=fun _=>rfl;simp only[Instr.makeSlice,Sem.run_bind,run_underlying (ku he),Result.andThen,hli,hti,hib,hwl,hwc];rw[if_neg (by grind)];simp only[Sem.run_bind,run_askRoom,Result.andThen,eX hk];by_cases h9:ci.toNat*k=0
    ·rw[if_pos h9]at harr⊢;simp only[Sem.run_bind,Sem.run_pure,Result.andThen];rw[harr];simp[newRow]
    simp_all[if_neg,Sem.run_bind,Sem.run_pure,Result.andThen,newRow]
   grind
  grind
 grind
end
section
variable {P:Program} {w w':World} {X:Nat→Prop} {ρ ρ':br} {h h':ac} {A A':Nat→Prop}
theorem wQ(r:Rel w X ρ h):Rel w.drew X ρ h/\Evo w ρ h w.drew ρ h []:=by
 have ev:Evo w ρ h w.drew ρ h []:=⟨rfl,rfl,rfl,Nat.le_refl _,fun _ _ _=>rfl,fun _ _ hp _=>⟨hp,rfl⟩,fun _ ho=>.inl ho,fun _ hb=>⟨hb,rfl⟩,fun _ _ hd=>⟨hd,rfl⟩⟩;exact⟨r.step ev (fun _=>False) (fun _ _=>⟨rfl,fun _=>rfl,fun _ _=>rfl⟩) r.inj r.nx (fun _ hf=>hf.elim),ev⟩
theorem Ht{k:Nat}{rows:List (List AV)}{ad:Addr}(hk:∀row∈rows,row.length=k)(h0:0<k)
  (hc:∀ (i:Nat) (row:List AV) (j:Nat) (c:AV),rows[i]?=some row->row[j]?=some c->∃u,w.cell? (ad.add (i*k+j))=some u/\RD w A c u/\aB c=true):
  ∃news:List Value,news.length=rows.length*k/\(∀ (q:Nat) (v:Value),news[q]?=some v->w.cell? (ad.add q)=some v)/\bT w A k rows news.toArray:=by
 have all:∀q,q<rows.length*k->∃row c,rows[q/k]?=some row/\row[q%k]?=some c:=by
  simp_all[Nat.div_lt_of_lt_mul,Nat.mul_comm,Nat.mod_lt,List.getElem_mem]
 refine⟨(List.range (rows.length*k)).map fun q=>(w.cell? (ad.add q)).getD undef,by simp,fun q v hq=>?_,fun i row hi=>⟨hk row (List.mem_of_getElem? hi),fun j c hj=>?_⟩⟩
 ·grind[Nat.mul_comm,Nat.div_add_mod]
 ·have hil:=(List.getElem?_eq_some_iff.1 hi).1;have hlt:i*k+j<rows.length*k:=by
   have:(i+1)*k<=rows.length*k:=Nat.mul_le_mul_right k hil;grind
  grind
theorem gl(size:Nat)(a:Option Addr)(l c:Nat)(w:World):(Builtin.firstCells size 0 (.slice a l c)).run P w=.ok #[] w:=by
 cases a with
 |none=>simp[Builtin.firstCells]
 |some b=>grind[run_firstCells_some]
theorem ry{b o k n l cap:Nat}{us:Array Value}{t:TypeId}{fr:Nat×Nat}{rows:List (List AV)}(hb:w.heap[b]?=some (.cells us t fr))(hr:bT w A k rows us)(hle:o+n<=rows.length)(h0:0<k):
  ∃news:List Value,news.length=n*k/\(∀w2:World,w2.heap=w.heap->(Builtin.firstCells k n (.slice (some ⟨b,o*k,none⟩) l cap)).run P w2=.ok news.toArray w2)/\bT w A k ((rows.drop o).take n) news.toArray:=by
 have at_:∀ (i:Nat) (row:List AV),((rows.drop o).take n)[i]?=some row->rows[o+i]?=some row:=by
  grind
 obtain⟨news,h1,h2,h3⟩:=Ht (w:=w) (A:=A) (k:=k) (rows:=(rows.drop o).take n) (ad:=⟨b,o*k,none⟩) (fun row hrow=>by
  obtain⟨i,hi⟩:=List.getElem?_of_mem hrow;exact(hr _ _ (at_ i row hi)).1) h0 (fun i row j c hi hj=>by
  obtain⟨u,f1,f2,f3⟩:=(hr _ _ (at_ i row hi)).2 j c hj;grind[kn,xj,Nat.add_assoc,Nat.add_mul])
 grind[run_firstCells_some,ko]
theorem Fu(r:Rel w X ρ h){k:Nat}{y:AV}{uy:Value}{ys:List (List AV)}(h0:0<k)(hy:RV w (aF w X h ρ) ρ h y uy)(hr:pE h k y=some ys):
  ∃a c,uy=.slice a ys.length c/\∃news:List Value,news.length=ys.length*k/\(∀w2:World,w2.heap=w.heap->(Builtin.firstCells k ys.length uy).run P w2=.ok news.toArray w2)/\bT w (aF w X h ρ) k ys news.toArray:=by
 cases y with
 |emp=>
  cases hr;obtain⟨a,rfl⟩:=hy.emp_inv;exact⟨a,0,rfl,[],by simp,fun _ _=>gl _ _ _ _ _,fun i row hi=>by grind⟩
 |sl k' rows=>
  simp only[pE]at hr;split at hr
  ·rename_i hk;subst hk;cases hr;have hd:=hy.sl_inv;cases hd with
   |sl _ _ a cap ad vals hc ha hk hv hl hrr=>
    obtain⟨news,h1,h2,h3⟩:=Ht (w:=w) (A:=aF w X h ρ) (k:=k') (rows:=ys) (ad:=ad) hk h0 (fun i row j c hi hj=>⟨vals i j,hv i row j c hi hj,hrr i row j c hi hj,hl row (List.mem_of_getElem? hi) c (List.mem_of_getElem? hj)⟩);by_cases hne:ys=[]
    ·simp_all[List.eq_nil_of_length_eq_zero,gl]
    grind[run_firstCells_some,ko]
  grind
 |rsl id sub k' lo n=>
  simp only[pE]at hr;split at hr
  ·rename_i hk;subst hk;obtain⟨a,cap,rfl,hp,hn,hb,ha⟩:=hy.rsl_inv;have key:∀ (rows:List (List AV)) (us:Array Value) (t:TypeId) (fr:Nat×Nat),w.heap[(ρ id sub).1]?=some (.cells us t fr)->bT w (aF w X h ρ) k' rows us->lo+n<=rows.length->ys=(rows.drop lo).take n->
     ∃a' c,Value.slice a n cap=.slice a' ys.length c/\∃news:List Value,news.length=ys.length*k'/\(∀w2:World,w2.heap=w.heap->(Builtin.firstCells k' ys.length (.slice a n cap)).run P w2=.ok news.toArray w2)/\bT w (aF w X h ρ) k' ys news.toArray:=by
    intro rows us t fr g1 g2 g3 g4;have hlen:ys.length=n:=by grind
    refine⟨a,cap,by rw[hlen],?_⟩;rw[hlen];by_cases hn0:n=0
    ·subst hn0;have:ys=[]:=List.eq_nil_of_length_eq_zero hlen;exact⟨[],by simp,fun _ _=>gl _ _ _ _ _,fun i row hi=>by grind⟩
    ·rcases ha with h9|rfl
     ·omega
     ·obtain⟨news,f1,f2,f3⟩:=ry (P:=P) (l:=n) (cap:=cap) g1 g2 g3 h0;grind
   have cut:∀ {q:Option (Nat×List (List AV))},gx k' lo n q=some ys->∃rows,q=some (k',rows)/\lo+n<=rows.length/\ys=(rows.drop lo).take n:=by
    intro q hq;cases q with
    |none=>cases hq
    |some p=>
     grind[gx]
   obtain⟨rows,e1,e2,e3⟩:=cut hr;have ho:=r.ob id;cases sub with
   |none=>
    simp only[vC]at e1;cases e:h id with
    |ar k2 rows2=>
     rw[e]at e1 ho;obtain⟨rfl,rfl⟩:=e1;obtain⟨us,t,g1,g2,g3,g4⟩:=ho;grind
    |fz k2 rows2=>
     rw[e]at e1 ho;obtain⟨rfl,rfl⟩:=e1;obtain⟨_,us,t,fr,g1,g2,g3,g4⟩:=ho;grind
    |_=>rw[e]at e1;cases e1
   |some p=>
    simp only[vC]at e1;cases e:h id with
    |bx cs=>
     rw[e]at e1;simp only[jl]at e1;cases ec:cs[p]? with
     |none=>rw[ec]at e1;cases e1
     |some c=>
      rw[ec]at e1;cases c<;>simp only[ub]at e1<;>try (cases e1;done)
      obtain⟨us,t,g1,g2,g3,g4⟩:=r.cell e;obtain⟨u,_,a',cap',us',t',_,_,_,q4,q5,q6,q7⟩:=g4 p _ ec;grind
    |_=>rw[e]at e1;cases e1
  grind
 |_=>cases hr
theorem xE{t u ty e e':TypeId}{k:Nat}(ht:P.underlying t=some (.slice e))(hu:P.underlying u=some (.slice e'))(hk:bo P e=some k){base ay:Option Addr}{n cap m cy:Nat}{news:List Value}
  (hnew:(Builtin.firstCells k m (.slice ay m cy)).run P w=.ok news.toArray w) (hroom:n+m<=cap) (hst:∀a,base=some a->(storeCells (a.add (n*k)) news).run P w=.ok () w') (hno:base=none->w'=w):
  (Builtin.append_ #[t,u] ty #[.slice base n cap,.slice ay m cy]).run P w=.ok (.slice base (n+m) cap) w':=by
 cases base with
 |none=>
  obtain rfl:=hno rfl;simp[Builtin.append_,run_underlying ht,run_underlying hu,eX hk,Builtin.lenOf,hroom,hnew]
 |some a=>
  have:=hst a rfl;simp[Builtin.append_,run_underlying ht,run_underlying hu,eX hk,Builtin.lenOf,hroom,hnew,this]
theorem CY{t u ty e e':TypeId}{i:TypeInfo}{z:Value}(ht:P.underlying t=some (.slice e))(hu:P.underlying u=some (.slice e'))(hi:P.info? e=some i)(hz:i.zero=some z)(hb:0<i.bytes){base ay:Option Addr}{n cap m cy:Nat}{old news:List Value}
  (hold:(Builtin.firstCells i.size n (.slice base n cap)).run P w.drew=.ok old.toArray w.drew) (hnew:(Builtin.firstCells i.size m (.slice ay m cy)).run P w.drew=.ok news.toArray w.drew) (hg:cap<n+m) (hfit:Builtin.nextslicecap (n+m) cap*i.bytes<=281474976710656):
  (Builtin.append_ #[t,u] ty #[.slice base n cap,.slice ay m cy]).run P w=
   .ok (.slice (some ⟨w.heap.size,0,none⟩) (n+m) (grownCap w (n+m) cap e)) (w.drew.alloc (.cells (old.toArray++news.toArray++Builtin.zeroCells z.cells (grownCap w (n+m) cap e- (n+m))) e)):=by
 have hn:¬ (n+m<=cap):=by omega
 have h48':¬ (281474976710656<Builtin.nextslicecap (n+m) cap*i.bytes):=by omega
 have hb':i.bytes≠0:=by omega
 simp[Builtin.append_,run_underlying ht,run_underlying hu,sizeOf,typeInfo,zeroValue,hi,hz,Builtin.lenOf,hn,h48',hb',Question.forced,hold,hnew,newRow,grownCap];grind
end
section
variable {P:Program} {w w':World} {X:Nat→Prop} {ρ ρ':br} {h h':ac} {A A':Nat→Prop}
theorem Fv{k:Nat}{rows ys:List (List AV)}{us vs ts:Array Value}(h1:bT w A k rows us)(h2:bT w A k ys vs)(g1:∀q,q<rows.length*k->ts[q]?=us[q]?)(g2:∀q,q<ys.length*k->ts[rows.length*k+q]?=vs[q]?):bT w A k (rows++ys) ts:=by
 have lt:∀ {l:List (List AV)} {i:Nat} {j:Nat},i<l.length->j<k->i*k+j<l.length*k:=by
  intro l i j hi hj;have:(i+1)*k<=l.length*k:=Nat.mul_le_mul_right k hi;grind
 intro i row hi;rw[List.getElem?_append]at hi;split at hi
 ·obtain⟨f1,f2⟩:=h1 i row hi;grind
 ·obtain⟨f1,f2⟩:=h2 _ row hi;refine⟨f1,fun j c hj=>?_⟩;have e:i*k+j=rows.length*k+((i-rows.length)*k+j):=by
   rw[←Nat.add_assoc,←Nat.add_mul,show rows.length+(i-rows.length)=i from by omega]
  grind
theorem CZ{k:Nat}{rows ys:List (List AV)}{old news:List Value}(zs:Array Value)(h1:bT w A k rows old.toArray)(hl:old.length=rows.length*k)(h2:bT w A k ys news.toArray)(hm:news.length=ys.length*k):
  bT w A k (rows++ys) (old.toArray++news.toArray++zs):=by
 grind[Fv,Array.append_assoc]
theorem TT{k:Nat}{rows ys:List (List AV)}{us:Array Value}{news:List Value}(h1:bT w A k rows us)(h2:bT w A k ys news.toArray)(hm:news.length=ys.length*k)(hle:rows.length*k+news.length<=us.size):
  bT w A k (rows++ys) (cw us (rows.length*k) news):=by
 refine Fv h1 h2 (fun q hq=>?_) (fun q hq=>?_)
 ·rw[ez hle,if_neg (by omega)]
 simp_all[ez,if_pos]
theorem TU(r:Rel w X ρ h){id k:Nat}{rows:List (List AV)}(e:h id=.ar k rows):Rel w X ρ (upd h id .dead)/\Evo w ρ h w ρ (upd h id .dead) [(id,false)]:=by
 have hl:∀id' s,live (upd h id .dead) id' s->id'≠id/\live h id' s:=by
  intro id' s h1;by_cases hi:id'=id
  ·subst hi;cases s<;>simp[live,aq]at h1
  grind[cx,aI]
 have ev:Evo w ρ h w ρ (upd h id .dead) [(id,false)]:=by
  refine⟨rfl,rfl,rfl,Nat.le_refl _,fun _ _ _=>rfl,fun id' s hp hk=>⟨?_,rfl⟩,fun b ho=>?_,fun id' hb=>⟨?_,rfl⟩,fun id' _ hd=>⟨vF (by grind) hd,rfl⟩⟩
  ·grind[gS,dV,aI]
  ·obtain⟨id',s,h1,h2⟩:=ho;exact .inl ⟨id',s,(hl id' s h1).2,h2⟩
  grind[bf,aI]
 exact⟨r.step ev (·=id) (fun id' hi=>⟨aI h _ hi,fun _=>rfl,fun _ _=>rfl⟩) (fun a b c d h1 h2=>r.inj a b c d (hl a b h1).2 (hl c d h2).2) (fun a b h1=>r.nx a b (hl a b h1).2) (fun id' hi=>by subst hi;rw[aq];trivial),ev⟩
theorem Jr{α:Type}(s:Nat->α)(d:Nat)(x y:α):upd (upd s d x) d y=upd s d y:=by
 grind[upd]
theorem TV(r:Rel w X ρ h){id p d k:Nat}{cs:List AV}{rows:List (List AV)}(e:h id=.bx cs)(ep:cs[p]?=some (.osl k rows))(hdp:aQ d=false)(hd:h d=.dead):
  Rel w X (i8 ρ d none (ρ id (some p))) (upd (upd h id (.bx (cs.set p .any))) d (.ar k rows))/\Evo w ρ h w (i8 ρ d none (ρ id (some p))) (upd (upd h id (.bx (cs.set p .any))) d (.ar k rows)) [(id,true)]:=by
 have hlp:live h id (some p):=⟨cs,k,rows,e,ep⟩;have hln:live h id none:=by grind[live]
 have hpl:p<cs.length:=(List.getElem?_eq_some_iff.1 ep).1;have hne:id≠d:=by grind
 have hρ:∀id' s,¬ (id'=d/\s=none)->i8 ρ d none (ρ id (some p)) id' s=ρ id' s:=fun id' s hh=>As hh;have hl:∀id' s,live (upd (upd h id (.bx (cs.set p .any))) d (.ar k rows)) id' s->(id'=d/\s=none)\/(¬ (id'=d/\s=none)/\¬ (id'=id/\s=some p)/\live h id' s):=by
  intro id' s h1;by_cases hi:id'=d
  ·subst hi;cases s with
   |none=>grind
   |some q=>obtain⟨_,_,_,h2,_⟩:=h1;grind[aq]
  ·have h2:=(cx (aI (upd h id (.bx (cs.set p .any))) (.ar k rows) hi)).1 h1;by_cases hi2:id'=id
   ·subst hi2;cases s with
    |none=>grind
    |some q=>
     obtain⟨cs',k',rows',h3,h4⟩:=h2;rw[aq]at h3;cases h3;by_cases hq:q=p
     ·grind
     ·rw[List.getElem?_set_ne (fun e=>hq e.symm)]at h4;exact .inr ⟨by omega,by grind,⟨cs,k',rows',e,h4⟩⟩
   grind[cx,aI]
 have blk:∀id' s,live (upd (upd h id (.bx (cs.set p .any))) d (.ar k rows)) id' s->∃id2 s2,live h id2 s2/\(i8 ρ d none (ρ id (some p)) id' s).1=(ρ id2 s2).1/\((id'=d/\s=none/\id2=id/\s2=some p)\/(id2=id'/\s2=s/\¬ (id2=id/\s2=some p))):=by
  grind[bp]
 have nd:∀id' s,bC h id' s->id'≠d:=by
  rintro id' s hp rfl
  cases s with
  |none=>exact hp hd
  |some q=>obtain⟨_,_,_,h2,_⟩:=hp;grind
 have ev:Evo w ρ h w (i8 ρ d none (ρ id (some p))) (upd (upd h id (.bx (cs.set p .any))) d (.ar k rows)) [(id,true)]:=by
  refine⟨rfl,rfl,rfl,Nat.le_refl _,fun _ _ _=>rfl,fun id' s hp hk=>?_,fun b ho=>?_,fun id' hb=>?_,fun id' hps hnd=>?_⟩
  ·have hi:=nd id' s hp;by_cases hi2:id'=id
   ·simp_all[bC,aI,aq,gS]
   grind[dV,aI]
  ·obtain⟨id',s,h1,h2⟩:=ho;obtain⟨id2,s2,h3,h4,_⟩:=blk id' s h1;exact .inl ⟨id2,s2,h3,h4.symm.trans h2⟩
  ·have hi:=nd id' none (Jp hb);refine⟨?_,hρ _ _ (by omega)⟩;rw[aI _ _ hi];by_cases hi2:id'=id
   ·subst hi2;rw[aq];rfl
   grind[aI]
  grind[aI,vF]
 refine⟨r.step ev (fun i=>i=id\/i=d) (fun id' hi=>?_) (fun i s i' s' h1 h2 h3=>?_) (fun i s h1=>?_) (fun id' hi=>?_),ev⟩
 ·grind[aI]
 ·obtain⟨i2,s2,f1,f2,f3⟩:=blk i s h1;obtain⟨i3,s3,f4,f5,f6⟩:=blk i' s' h2;obtain⟨rfl,rfl⟩:=r.inj i2 s2 i3 s3 f1 f4 (by omega);grind
 ·obtain⟨i2,s2,f1,f2,_⟩:=blk i s h1;rw[f2];exact r.nx _ _ f1
 ·obtain⟨us0,t0,g1,g2,g3,g4⟩:=r.cell e;rcases hi with rfl|rfl
  ·rw[aI _ _ hne,aq];refine⟨us0,t0,by grind,by grind,by grind,fun q c hq=>?_⟩;by_cases hqp:q=p
   ·subst hqp;rw[List.getElem?_set_self hpl]at hq;cases hq;obtain⟨u,f1,a,cap,us1,t1,rfl,_⟩:=g4 q _ ep;exact⟨_,f1,.anyv _,rfl,trivial⟩
   ·rw[List.getElem?_set_ne (fun e=>hqp e.symm)]at hq;obtain⟨u,f1,f2⟩:=g4 q c hq;exact⟨u,f1,f2.keep (fun b hb=>ev.al hb) ev.boxes (hρ _ _ (by simp)) (fun _=>rfl)⟩
  ·rw[aq];obtain⟨u,f1,a,cap,us1,t1,q1,q2,q3,q4,q5,q6,q7⟩:=g4 p _ ep;exact⟨us1,t1,by grind[bp],by grind[bp],Nat.le_trans (Nat.mul_le_mul_right k q3) (Nat.le_of_eq q6),q7.mono fun b hb=>ev.al hb⟩
theorem adc(r:Rel w X ρ h){id d k:Nat}{rows:List (List AV)}(e:h id=.ar k rows)(hdp:aQ d=false)(hd:h d=.dead):
  Rel w X (i8 ρ d none (ρ id none)) (upd (upd h id .dead) d (.ar k rows))/\Evo w ρ h w (i8 ρ d none (ρ id none)) (upd (upd h id .dead) d (.ar k rows)) [(id,false)]:=by
 have hln:live h id none:=by grind[live]
 have hne:id≠d:=by grind
 have hρ:∀id' s,¬ (id'=d/\s=none)->i8 ρ d none (ρ id none) id' s=ρ id' s:=fun id' s hh=>As hh;have hl:∀id' s,live (upd (upd h id .dead) d (.ar k rows)) id' s->(id'=d/\s=none)\/(¬ (id'=d/\s=none)/\id'≠id/\live h id' s):=by
  intro id' s h1;by_cases hi:id'=d
  ·cases s with
   |none=>grind
   |some q=>obtain⟨_,_,_,h2,_⟩:=h1;grind[aq]
  ·have h2:=(cx (aI (upd h id .dead) (.ar k rows) hi)).1 h1;by_cases hi2:id'=id
   ·subst hi2;cases s<;>simp[live,aq]at h2
   grind[cx,aI]
 have blk:∀id' s,live (upd (upd h id .dead) d (.ar k rows)) id' s->∃id2 s2,live h id2 s2/\(i8 ρ d none (ρ id none) id' s).1=(ρ id2 s2).1/\((id'=d/\s=none/\id2=id/\s2=none)\/(id2=id'/\s2=s/\id2≠id)):=by
  grind[bp]
 have nd:∀id' s,bC h id' s->id'≠d:=by
  rintro id' s hp rfl
  cases s with
  |none=>exact hp hd
  |some q=>obtain⟨_,_,_,h2,_⟩:=hp;grind
 have ev:Evo w ρ h w (i8 ρ d none (ρ id none)) (upd (upd h id .dead) d (.ar k rows)) [(id,false)]:=by
  refine⟨rfl,rfl,rfl,Nat.le_refl _,fun _ _ _=>rfl,fun id' s hp hk=>?_,fun b ho=>?_,fun id' hb=>?_,fun id' hps hnd=>?_⟩
  ·grind[gS,dV,aI]
  ·obtain⟨id',s,h1,h2⟩:=ho;obtain⟨id2,s2,h3,h4,_⟩:=blk id' s h1;exact .inl ⟨id2,s2,h3,h4.symm.trans h2⟩
  all_goals grind[Jp,bf,aI,vF]
 refine⟨r.step ev (fun i=>i=id\/i=d) (fun id' hi=>?_) (fun i s i' s' h1 h2 h3=>?_) (fun i s h1=>?_) (fun id' hi=>?_),ev⟩
 ·grind[aI]
 ·obtain⟨i2,s2,f1,f2,f3⟩:=blk i s h1;obtain⟨i3,s3,f4,f5,f6⟩:=blk i' s' h2;obtain⟨rfl,rfl⟩:=r.inj i2 s2 i3 s3 f1 f4 (by omega);grind
 ·obtain⟨i2,s2,f1,f2,_⟩:=blk i s h1;rw[f2];exact r.nx _ _ f1
 ·have ho:=r.ob id;rw[e]at ho;obtain⟨us,t0,g1,g2,g3,g4⟩:=ho;rcases hi with rfl|rfl
  ·rw[aI _ _ hne,aq];trivial
  ·rw[aq];exact⟨us,t0,by grind[bp],by grind[bp],g3,g4.mono fun b hb=>ev.al hb⟩
theorem La{k lo:Nat}{rows ys:List (List AV)}{us:Array Value}{news:List Value}(_h0:0<k)(h1:bT w A k rows us)(h2:bT w A k ys news.toArray)(hm:news.length=ys.length*k)(hlo:lo+ys.length<=rows.length)(hle:rows.length*k<=us.size):
  bT w A k (rows.take lo++ys++rows.drop (lo+ys.length)) (cw us (lo*k) news):=by
 have hle2:lo*k+news.length<=us.size:=by
  have:(lo+ys.length)*k<=rows.length*k:=Nat.mul_le_mul_right k hlo;grind
 have hlt:(rows.take lo).length=lo:=by grind
 intro i row hi;have cell:∀j,j<k->∀a b:Nat,a<b->a*k+j<b*k:=fun j hj a b hab=>by
  have:(a+1)*k<=b*k:=Nat.mul_le_mul_right k hab;grind
 by_cases c1:i<lo
 ·have hrow:rows[i]?=some row:=by
   grind
  obtain⟨g1,g2⟩:=h1 i row hrow;refine⟨g1,fun j c hj=>?_⟩;obtain⟨u,f1,f2⟩:=g2 j c hj;have hjk:j<k:=by grind
  refine⟨u,?_,f2⟩;rw[ez hle2,if_neg (by grind)];omega
 ·by_cases c2:i<lo+ys.length
  ·have hrow:ys[i-lo]?=some row:=by
    grind
   obtain⟨g1,g2⟩:=h2 (i-lo) row hrow;refine⟨g1,fun j c hj=>?_⟩;obtain⟨u,f1,f2⟩:=g2 j c hj;have hjk:j<k:=by grind
   refine⟨u,?_,f2⟩;have e1:=cell j hjk (i-lo) ys.length (by omega);have e2:i*k+j=lo*k+((i-lo)*k+j):=by
    have:i*k=lo*k+(i-lo)*k:=by rw[←Nat.add_mul];grind
    omega
   simp_all[ez,if_pos]
  ·have hrow:rows[i]?=some row:=by
    rw[List.getElem?_append_right (by grind),List.getElem?_drop,List.length_append,hlt]at hi;grind
   obtain⟨g1,g2⟩:=h1 i row hrow;refine⟨g1,fun j c hj=>?_⟩;obtain⟨u,f1,f2⟩:=g2 j c hj;refine⟨u,?_,f2⟩;have e1:(lo+ys.length)*k<=i*k:=Nat.mul_le_mul_right k (by omega);rw[Nat.add_mul]at e1;rw[ez hle2,if_neg (by omega)];omega
theorem Q2(r:Rel w X ρ h){t u ty e e':TypeId}{k:Nat}(ht:P.underlying t=some (.slice e))(hu:P.underlying u=some (.slice e'))(hk:bo P e=some k)(h0:0<k)
  {id lo n:Nat} {rows ys:List (List AV)} (eo:h id=.ar k rows) {a ay:Option Addr} {cap cy:Nat} (hn:n<=cap) (hc:(lo+cap)*k=(ρ id none).2) (ha:cap=0\/a=some ⟨(ρ id none).1,lo*k,none⟩) (hfit:lo+n+ys.length<=rows.length)
  {news:List Value} (n1:news.length=ys.length*k) (hnew:∀w2:World,w2.heap=w.heap->(Builtin.firstCells k ys.length (.slice ay ys.length cy)).run P w2=.ok news.toArray w2) (n3:bT w (aF w X h ρ) k ys news.toArray):
  ∃v w',(Builtin.append_ #[t,u] ty #[.slice a n cap,.slice ay ys.length cy]).run P w=.ok v w'/\Got w X ρ h w' (upd h id (.ar k (rows.take (lo+n)++ys++rows.drop (lo+n+ys.length)))) [] (.rsl id none k lo (n+ys.length)) v:=by
 have hln:live h id none:=by grind[live]
 have ho:=r.ob id;rw[eo]at ho;obtain⟨us,t0,g1,g2,g3,g4⟩:=ho;have hroom:n+ys.length<=cap:=by
  have h5:rows.length*k<=(lo+cap)*k:=by omega
  have:=Nat.le_of_mul_le_mul_right h5 h0;omega
 have hle:(lo+n)*k+news.length<=us.size:=by
  have:(lo+n+ys.length)*k<=rows.length*k:=Nat.mul_le_mul_right k hfit;grind
 have h1:∀v∈news,v.oneCell'=true:=by
  intro v hv;obtain⟨q,hq⟩:=List.getElem?_of_mem hv;have h3:q/k<ys.length:=Nat.div_lt_of_lt_mul (by grind);obtain⟨f1,f2⟩:=n3 (q/k) _ (List.getElem?_eq_getElem h3);have h4:q%k< (ys[q/k]).length:=by simp_all[Nat.mod_lt]
  obtain⟨v',f3,f4,f5⟩:=f2 (q%k) _ (List.getElem?_eq_getElem h4);have h5:q/k*k+q%k=q:=by grind[Nat.div_add_mod]
  rw[h5,List.getElem?_toArray,hq]at f3;cases f3;exact f4.one f5
 generalize hm:lo+n=m at hle hfit;have hlive:∀s,live (upd h id (.ar k (rows.take m++ys++rows.drop (m+ys.length)))) id s->live h id s:=by
  intro s h1;cases s with
  |none=>omega
  |some q=>obtain⟨_,_,_,h2,_⟩:=h1;grind[aq]
 have hkeep:∀s,bC h id s->s=none:=by
  intro s hp;cases s with
  |none=>rfl
  |some q=>obtain⟨_,_,_,h2,_⟩:=hp;grind
 have ev:Evo w ρ h (w.setRow (ρ id none).1 (cw us (m*k) news)) ρ (upd h id (.ar k (rows.take m++ys++rows.drop (m+ys.length)))) []:=
  ug (X:=X) r hln _ hlive (fun s hp _=>by grind[bC,aq]) (fun hbf=>by rw[eo]at hbf;cases hbf)
 have hlen2:(rows.take m++ys++rows.drop (m+ys.length)).length=rows.length:=by
  grind
 have hrel:=oR r hln _ hlive ev ⟨_,t0,setRow_heap w _ us _ t0 _ g1,by grind[cH],by grind[cH],La h0 (g4.mono fun b hb=>ev.al hb) (n3.mono fun b hb=>ev.al hb) n1 (by omega) g3⟩;refine⟨.slice a (n+ys.length) cap,_,xE ht hu hk (hnew w rfl) hroom (w':=w.setRow (ρ id none).1 (cw us (m*k) news)) (fun a' ha'=>?_) (fun ha'=>?_),ρ,hrel,ev,?_⟩
 ·rcases ha with h9|h9
  ·have e3:news=[]:=List.eq_nil_of_length_eq_zero (by grind);subst e3;rw[kt (by omega) (fun j v hv=>by grind),setRow_self w _ us t0 (0,0) g1];rfl
  ·rw[h9]at ha';cases ha';rw[kn,←Nat.add_mul,hm];grind[run_storeCells_at,cw]
 ·grind[List.eq_nil_of_length_eq_zero,kt,setRow_self]
 ·exact .rsl id none k lo _ cap a (by simp[bC,aq]) hroom hc ha
theorem Bw(r:Rel w X ρ h){t u ty e e':TypeId}{k b:Nat}{zs:List AV}(ht:P.underlying t=some (.slice e))(hu:P.underlying u=some (.slice e'))(hk:bo P e=some k)(hb:mW P e=some b)(hz:iD P e=some zs)(h0:0<k)(hb0:0<b)
  {id:Nat} {rows ys:List (List AV)} (eo:h id=.ar k rows) (hps:aQ id=false) {a ay:Option Addr} {cap cy:Nat} (hn:rows.length<=cap) (hc:cap*k=(ρ id none).2) (ha:cap=0\/a=some ⟨(ρ id none).1,0,none⟩)
  {news:List Value} (hl:news.length=ys.length*k) (hnew:∀w2:World,w2.heap=w.heap->(Builtin.firstCells k ys.length (.slice ay ys.length cy)).run P w2=.ok news.toArray w2) (hr:bT w (aF w X h ρ) k ys news.toArray) (hfit:(rows.length+ys.length)*b<=140737488355328):
  ∃v w',(Builtin.append_ #[t,u] ty #[.slice a rows.length cap,.slice ay ys.length cy]).run P w=.ok v w'/\Got w X ρ h w' (upd h id (.ar k (rows++ys))) [(id,false)] (.rsl id none k 0 (rows.length+ys.length)) v:=by
 have hln:live h id none:=by grind[live]
 have ho:=r.ob id;rw[eo]at ho;obtain⟨us,t0,g1,g2,g3,g4⟩:=ho;by_cases hroom:rows.length+ys.length<=cap
 ·have hle:rows.length*k+news.length<=us.size:=by
   have:(rows.length+ys.length)*k<=cap*k:=Nat.mul_le_mul_right k hroom;grind
  have h1:∀v∈news,v.oneCell'=true:=by
   intro v hv;obtain⟨q,hq⟩:=List.getElem?_of_mem hv;have h3:q/k<ys.length:=Nat.div_lt_of_lt_mul (by grind);obtain⟨f1,f2⟩:=hr (q/k) _ (List.getElem?_eq_getElem h3);have h4:q%k< (ys[q/k]).length:=by simp_all[Nat.mod_lt]
   obtain⟨v',f3,f4,f5⟩:=f2 (q%k) _ (List.getElem?_eq_getElem h4);have h5:q/k*k+q%k=q:=by grind[Nat.div_add_mod]
   rw[h5,List.getElem?_toArray,hq]at f3;cases f3;exact f4.one f5
  have hlive:∀s,live (upd h id (.ar k (rows++ys))) id s->live h id s:=by
   intro s h1;cases s with
   |none=>omega
   |some q=>obtain⟨_,_,_,h2,_⟩:=h1;grind[aq]
  have ev:Evo w ρ h (w.setRow (ρ id none).1 (cw us (rows.length*k) news)) ρ (upd h id (.ar k (rows++ys))) [(id,false)]:=
   ug (X:=X) r hln _ hlive (fun s hp hk=>by grind[gS]) (fun hbf=>by rw[eo]at hbf;cases hbf)
  have hrel:=oR r hln _ hlive ev ⟨_,t0,setRow_heap w _ us _ t0 _ g1,by grind[cH],by simp_all[cH,List.length_append,Nat.add_mul],TT (g4.mono fun b hb=>ev.al hb) (hr.mono fun b hb=>ev.al hb) hl hle⟩;refine⟨.slice a (rows.length+ys.length) cap,_,xE ht hu hk (hnew w rfl) hroom (w':=w.setRow (ρ id none).1 (cw us (rows.length*k) news)) (fun a' ha'=>?_) (fun ha'=>?_),ρ,hrel,ev,?_⟩
  ·rcases ha with h9|h9
   ·have e2:ys.length=0:=by omega
    have e3:news=[]:=List.eq_nil_of_length_eq_zero (by grind);subst e3;rw[kt (by omega) (fun j v hv=>by grind),setRow_self w _ us t0 (0,0) g1];rfl
   ·rw[h9]at ha';cases ha';rw[kn,Nat.zero_add];grind[run_storeCells_at,cw]
  ·grind[List.eq_nil_of_length_eq_zero,kt,setRow_self]
  ·exact .rsl id none k 0 _ cap a (by simp[bC,aq]) hroom (by grind) (by grind)
 ·obtain⟨i,z,z1,z2,z3,z4,_⟩:=kq (w:=w) (A:=aF w X h ρ) (ρ:=ρ) (h:=h) hz;have hik:i.size=k:=by grind[bo]
  have hib:i.bytes=b:=by grind[mW]
  obtain⟨old,o1,o2,o3⟩:∃old:List Value,old.length=rows.length*k/\(Builtin.firstCells k rows.length (.slice a rows.length cap)).run P w.drew=.ok old.toArray w.drew/\bT w (aF w X h ρ) k rows old.toArray:=by
   by_cases hr0:rows.length=0
   ·refine⟨[],by grind,by grind[gl],fun i row hi=>?_⟩;grind
   ·rcases ha with h9|rfl
    ·omega
    ·obtain⟨old,f1,f2,f3⟩:=ry (P:=P) (w:=w) (A:=aF w X h ρ) (o:=0) (n:=rows.length) (l:=rows.length) (cap:=cap) g1 g4 (by omega) h0;simp only[Nat.zero_mul]at f2;exact⟨old,f1,f2 _ rfl,by grind⟩
  have run:=CY (P:=P) (w:=w) (ty:=ty) ht hu z1 z2 (by omega) (old:=old) (news:=news) (n:=rows.length) (m:=ys.length) (by rw[hik];omega) (by rw[hik];exact hnew w.drew rfl) (by omega) (growslice_fits (by omega) (by grind));obtain⟨d1,d2⟩:=TU r eo;obtain⟨d3,d4⟩:=wQ d1;have hrows:=CZ (w:=w) (A:=aF w X h ρ) (Builtin.zeroCells z.cells (grownCap w (rows.length+ys.length) cap e- (rows.length+ys.length))) o3 o1 hr hl;have hge:=grownCap_ge w (rows.length+ys.length) cap e;have hsz:(old.toArray++news.toArray++Builtin.zeroCells z.cells (grownCap w (rows.length+ys.length) cap e- (rows.length+ys.length))).size=grownCap w (rows.length+ys.length) cap e*k:=by
   simp only[Array.size_append,List.size_toArray,size_zeroCells,z3,hik,o1,hl,←Nat.add_mul];grind
  obtain⟨n1,n2⟩:=vG (e:=e) d3 hps (aq _ _ _) (o:=.ar k (rows++ys)) (us:=old.toArray++news.toArray++Builtin.zeroCells z.cells (grownCap w (rows.length+ys.length) cap e- (rows.length+ys.length)))
   ⟨by simp_all[Nat.mul_le_mul_right],hrows.mono fun b hb=>by obtain⟨q1,q2⟩:=d2.al hb;obtain⟨q3,q4⟩:=d4.al q1;grind⟩
  rw[Jr]at n1 n2;refine⟨_,_,run,_,n1,by simpa using d2.trans (d4.trans n2),?_⟩;exact V8 (b:=(w.heap.size,_)) (by grind[aq]) (bp _ _ _ _) hge (by rw[hsz])
theorem Evo.cut{ks:K}{d:Nat}(e:Evo w ρ h w' ρ' h' (ks++[(d,false)]))(hd:h d=.dead):Evo w ρ h w' ρ' h' ks:=
 ⟨e.os,e.tape,e.output,e.size,e.old,fun id sub hp hk=>e.keep id sub hp (by
  have hi:id≠d:=by
   rintro rfl
   cases sub with
   |none=>exact hp hd
   |some q=>obtain⟨_,_,_,h2,_⟩:=hp;grind
  rw[Br,hk];simpa [gS]using fun e:d=id=>hi e.symm),e.fresh,e.boxes,e.stay⟩
theorem TW(r:Rel w X ρ h){t u ty e e':TypeId}{k b:Nat}{zs:List AV}(ht:P.underlying t=some (.slice e))(hu:P.underlying u=some (.slice e'))(hk:bo P e=some k)(hb:mW P e=some b)(hz:iD P e=some zs)(h0:0<k)(hb0:0<b)
  {d:Nat} (hdp:aQ d=false) {x y z:AV} {ux uy:Value} {ks:K} (hx:RV w (aF w X h ρ) ρ h x ux) (hy:RV w (aF w X h ρ) ρ h y uy) (hr:Jl h d k b x y=some (z,h',ks)):
  ∃v w',(Builtin.append_ #[t,u] ty #[ux,uy]).run P w=.ok v w'/\Got w X ρ h w' h' ks z v:=by
 simp only[Jl,Option.bind_eq_some_iff]at hr;obtain⟨ys,e1,hr⟩:=hr;obtain⟨ay,cy,rfl,news,n1,n2,n3⟩:=Fu (P:=P) r h0 hy e1;cases x with
 |emp=>
  obtain⟨a,rfl⟩:=hx.emp_inv;simp only at hr;split at hr
  ·rename_i hfit;cases ys with
   |nil=>
    obtain⟨rfl,rfl,rfl⟩:=hr;have e3:news=[]:=List.eq_nil_of_length_eq_zero (by grind);subst e3;exact⟨_,w,xE ht hu hk (n2 w rfl) (Nat.le_refl _) (fun _ _=>rfl) (fun _=>rfl),ρ,r,.refl _ _ _,.dat (.emp a)⟩
   |cons row rest=>
    simp only[Nf]at hr;obtain⟨i,zv,z1,z2,z3,z4,_⟩:=kq (w:=w) (A:=aF w X h ρ) (ρ:=ρ) (h:=h) hz;have hik:i.size=k:=by grind[bo]
    have hib:i.bytes=b:=by grind[mW]
    have run:=CY (P:=P) (w:=w) (ty:=ty) (base:=a) (n:=0) (cap:=0) (old:=[]) (news:=news) (m:=(row::rest).length) ht hu z1 z2 (by omega) (gl _ _ _ _ _) (by rw[hik];exact n2 w.drew rfl) (by simp)
     (growslice_fits (by simp) (by grind))
    obtain⟨d3,d4⟩:=wQ r;have hge:=grownCap_ge w (0+(row::rest).length) 0 e;have hrows:=CZ (w:=w) (A:=aF w X h ρ) (rows:=[]) (old:=[]) (Builtin.zeroCells zv.cells (grownCap w (0+(row::rest).length) 0 e- (0+(row::rest).length))) (fun i row hi=>by grind) (by simp) n3 n1;have hsz:(([]:List Value).toArray++news.toArray++Builtin.zeroCells zv.cells (grownCap w (0+(row::rest).length) 0 e- (0+(row::rest).length))).size=grownCap w (0+(row::rest).length) 0 e*k:=by
     simp only[Array.size_append,List.size_toArray,size_zeroCells,z3,hik,n1,List.length_nil,Nat.zero_add,←Nat.add_mul];grind
    obtain⟨rfl,ρ',q1,q2,q3⟩:=mZ (t:=e) (cap:=grownCap w (0+(row::rest).length) 0 e) d3 hdp (hrows.mono fun b hb=>d4.al hb) (by grind) (by grind) (by rw[hsz]) hr;refine⟨_,_,run,ρ',q1,d4.trans q2,?_⟩
    simp_all
  grind
 |rsl id sub k' lo n=>
  obtain⟨a,cap,rfl,hp,hn,hbd,ha⟩:=hx.rsl_inv;cases sub with
  |none=>
   simp only at hr;cases eo:h id<;>rw[eo]at hr<;>simp only[Nd]at hr<;>try (cases hr;done)
   rename_i k2 rows;split at hr
   ·rename_i hcond;obtain⟨rfl,rfl,rfl,rfl,hid,hfit⟩:=hcond;obtain⟨rfl,rfl,rfl⟩:=hr;exact Bw r ht hu hk hb hz h0 hb0 eo (by grind[aQ,decide_eq_false_iff_not]) hn (by grind) (by grind) n1 n2 n3 hfit
   ·rename_i hno;unfold Yz at hr;split at hr
    ·rename_i hcond;obtain⟨rfl,rfl,hfit⟩:=hcond;obtain⟨rfl,rfl,rfl⟩:=hr;exact Q2 r ht hu hk h0 eo hn hbd ha hfit n1 n2 n3
    ·split at hr
     ·rename_i hcond;obtain⟨rfl,rfl,rfl,rfl,hfit⟩:=hcond;obtain⟨hd',rfl,rfl,rfl⟩:=jv hr;have hne:d≠id:=by
       grind[aQ,decide_eq_false_iff_not]
      have hd:h d=.dead:=by grind[aI]
      obtain⟨m1,m2⟩:=adc r eo hdp hd;obtain⟨v,w',q1,ρ',q2,q3,q4⟩:=Bw (ty:=ty) (a:=a) (ay:=ay) (cy:=cy) (cap:=cap) m1 ht hu hk hb hz h0 hb0 (aq _ _ _) hdp hn (by grind[bp]) (by grind[bp]) n1 n2 (n3.mono fun b hb=>m2.al hb) hfit;rw[Jr]at q2 q3 q4;exact⟨v,w',q1,ρ',q2,(m2.trans q3).cut hd,q4⟩
     grind
  |some p=>
   simp only at hr;cases eo:h id<;>rw[eo]at hr<;>simp only[YA]at hr<;>try (cases hr;done)
   rename_i cs;cases ec:cs[p]? with
   |none=>rw[ec]at hr;cases hr
   |some c=>
    rw[ec]at hr;cases c<;>simp only[ac1]at hr<;>try (cases hr;done)
    rename_i k2 rows;split at hr
    ·rename_i hcond;obtain⟨rfl,rfl,rfl,rfl,hfit⟩:=hcond;obtain⟨hd',rfl,rfl,rfl⟩:=jv hr;have hne:d≠id:=by grind[aq]
     have hd:h d=.dead:=by grind[aI]
     obtain⟨m1,m2⟩:=TV r eo ec hdp hd;obtain⟨v,w',q1,ρ',q2,q3,q4⟩:=Bw (ty:=ty) (a:=a) (ay:=ay) (cy:=cy) (cap:=cap) m1 ht hu hk hb hz h0 hb0 (aq _ _ _) hdp hn (by grind[bp]) (by grind[bp]) n1 n2 (n3.mono fun b hb=>m2.al hb) hfit;rw[Jr]at q2 q3 q4;exact⟨v,w',q1,ρ',q2,(m2.trans q3).cut hd,q4⟩
    grind
 |_=>cases hr
end
section
variable {P:Program} {w w':World} {X:Nat→Prop} {ρ ρ':br} {h h':ac} {A A':Nat→Prop}
theorem YI{t u ty e:TypeId}{k:Nat}(ht:P.underlying t=some (.slice e))(hk:bo P e=some k){base ay:Option Addr}{n cap l m cy:Nat}{news:List Value}(hm:Nat.min l n=m)
  (hnew:(Builtin.firstCells k m (.slice ay l cy)).run P w=.ok news.toArray w) (hst:∀a,base=some a->(storeCells a news).run P w=.ok () w') (hno:base=none->w'=w):
  (Builtin.copy_ #[t,u] ty #[.slice base n cap,.slice ay l cy]).run P w=.ok (goInt m) w':=by
 cases base with
 |none=>
  simp_all[Builtin.copy_,run_underlying,eX,Builtin.lenOf]
 |some a=>
  simp_all[Builtin.copy_,run_underlying,eX,Builtin.lenOf]
theorem TY{y:AV}{uy:Value}{l m:Nat}(hl:Nh y=some l)(hy:RV w A ρ h y uy):∃a c,uy=.slice a l c/\RV w A ρ h (Ng m y) (.slice a (min m l) c):=by
 cases y with
 |emp=>
  cases hl;obtain⟨a,rfl⟩:=hy.emp_inv;refine⟨a,0,rfl,?_⟩;rw[Nat.min_zero];exact hy
 |sl k rows=>
  cases hl;have hd:=hy.sl_inv;cases hd with
  |sl _ _ a cap ad vals hc ha hk hv hll hr=>
   refine⟨a,cap,rfl,?_⟩;have hlen:(rows.take m).length=min m rows.length:=List.length_take;have hget:∀ {i:Nat} {row:List AV},(rows.take m)[i]?=some row->rows[i]?=some row:=fun{i row} hi=>by
    grind
   have h1:RD w A (.sl k (rows.take m)) (.slice a (rows.take m).length cap):=
    .sl k (rows.take m) a cap ad vals (by omega) (fun hne=>ha (fun e=>hne (by grind))) (fun row hm=>hk row (List.mem_of_mem_take hm))
     (fun i row j c hi hj=>hv i row j c (hget hi) hj) (fun row hm=>hll row (List.mem_of_mem_take hm)) (fun i row j c hi hj=>hr i row j c (hget hi) hj)
   rw[hlen]at h1;exact .dat h1
 |rsl id sub k lo n=>
  cases hl;obtain⟨a,cap,rfl,hp,hn,hb,ha⟩:=hy.rsl_inv;exact⟨a,cap,rfl,.rsl id sub k lo (min m l) cap a hp (by omega) hb ha⟩
 |_=>cases hl
theorem TZ{k lo:Nat}{rows ys:List (List AV)}{us:Array Value}{news:List Value}(_h0:0<k)(h1:bT w A k rows us)(h2:bT w A k ys news.toArray)(hm:news.length=ys.length*k)(hlo:lo<=rows.length)(hle2:lo*k+news.length<=us.size):
  bT w A k (rows.take lo++ys++rows.drop (lo+ys.length)) (cw us (lo*k) news):=by
 have hlt:(rows.take lo).length=lo:=by grind
 intro i row hi;have cell:∀j,j<k->∀a b:Nat,a<b->a*k+j<b*k:=fun j hj a b hab=>by
  have:(a+1)*k<=b*k:=Nat.mul_le_mul_right k hab;grind
 by_cases c1:i<lo
 ·have hrow:rows[i]?=some row:=by
   grind
  obtain⟨g1,g2⟩:=h1 i row hrow;refine⟨g1,fun j c hj=>?_⟩;obtain⟨u,f1,f2⟩:=g2 j c hj;have hjk:j<k:=by grind
  refine⟨u,?_,f2⟩;rw[ez hle2,if_neg (by grind)];omega
 ·by_cases c2:i<lo+ys.length
  ·have hrow:ys[i-lo]?=some row:=by
    grind
   obtain⟨g1,g2⟩:=h2 (i-lo) row hrow;refine⟨g1,fun j c hj=>?_⟩;obtain⟨u,f1,f2⟩:=g2 j c hj;have hjk:j<k:=by grind
   refine⟨u,?_,f2⟩;have e1:=cell j hjk (i-lo) ys.length (by omega);have e2:i*k+j=lo*k+((i-lo)*k+j):=by
    have:i*k=lo*k+(i-lo)*k:=by rw[←Nat.add_mul];grind
    omega
   simp_all[ez,if_pos]
  ·have hrow:rows[i]?=some row:=by
    rw[List.getElem?_append_right (by grind),List.getElem?_drop,List.length_append,hlt]at hi;grind
   obtain⟨g1,g2⟩:=h1 i row hrow;refine⟨g1,fun j c hj=>?_⟩;obtain⟨u,f1,f2⟩:=g2 j c hj;refine⟨u,?_,f2⟩;have e1:(lo+ys.length)*k<=i*k:=Nat.mul_le_mul_right k (by omega);rw[Nat.add_mul]at e1;rw[ez hle2,if_neg (by omega)];omega
theorem T0(r:Rel w X ρ h){t u ty e:TypeId}{k:Nat}(ht:P.underlying t=some (.slice e))(hk:bo P e=some k)(h0:0<k)
  {x y z:AV} {ux uy:Value} {ks:K} (hx:RV w (aF w X h ρ) ρ h x ux) (hy:RV w (aF w X h ρ) ρ h y uy) (hr:Jm h k x y=some (z,h',ks)):
  ∃v w',(Builtin.copy_ #[t,u] ty #[ux,uy]).run P w=.ok v w'/\Got w X ρ h w' h' ks z v:=by
 unfold Jm at hr;split at hr
 ·rename_i id k' lo n;simp only[Option.bind_eq_some_iff]at hr;obtain⟨l,e1,ys,e2,hr⟩:=hr;obtain⟨ay,cy,rfl,hcut⟩:=TY (m:=n) e1 hy;obtain⟨a',c',e3,news,n1,n2,n3⟩:=Fu (P:=P) r h0 hcut e2;injection e3 with e4 e5 e6
  subst e4 e6;obtain⟨a,cap,rfl,hp,hn,hbd,ha⟩:=hx.rsl_inv;cases eo:h id<;>rw[eo]at hr<;>simp only[Ni]at hr<;>try (cases hr;done)
  rename_i k2 rows;split at hr
  ·rename_i hcond;obtain⟨rfl,rfl,hfit,hlen⟩:=hcond;obtain⟨rfl,rfl,rfl⟩:=hr;have hln:live h id none:=by grind[live]
   have ho:=r.ob id;rw[eo]at ho;obtain⟨us,t0,g1,g2,g3,g4⟩:=ho;have hyn:ys.length<=n:=by omega
   have hle:lo*k'+news.length<=us.size:=by
    have:(lo+ys.length)*k'<=(lo+cap)*k':=Nat.mul_le_mul_right k' (by omega);grind
   have h1:∀v∈news,v.oneCell'=true:=by
    intro v hv;obtain⟨q,hq⟩:=List.getElem?_of_mem hv;have h3:q/k'<ys.length:=Nat.div_lt_of_lt_mul (by grind);obtain⟨f1,f2⟩:=n3 (q/k') _ (List.getElem?_eq_getElem h3);have h4:q%k'< (ys[q/k']).length:=by simp_all[Nat.mod_lt]
    obtain⟨v',f3,f4,f5⟩:=f2 (q%k') _ (List.getElem?_eq_getElem h4);have h5:q/k'*k'+q%k'=q:=by grind[Nat.div_add_mod]
    rw[h5,List.getElem?_toArray,hq]at f3;cases f3;exact f4.one f5
   have hlive:∀s,live (upd h id (.ar k' (rows.take lo++ys++rows.drop (lo+ys.length)))) id s->live h id s:=by
    intro s h1;cases s with
    |none=>omega
    |some q=>obtain⟨_,_,_,h2,_⟩:=h1;grind[aq]
   have hkeep:∀s,bC h id s->s=none:=by
    intro s hp;cases s with
    |none=>rfl
    |some q=>obtain⟨_,_,_,h2,_⟩:=hp;grind
   have ev:Evo w ρ h (w.setRow (ρ id none).1 (cw us (lo*k') news)) ρ (upd h id (.ar k' (rows.take lo++ys++rows.drop (lo+ys.length)))) []:=
    ug (X:=X) r hln _ hlive (fun s hp _=>by grind[bC,aq]) (fun hbf=>by rw[eo]at hbf;cases hbf)
   have hlen2:(rows.take lo++ys++rows.drop (lo+ys.length)).length*k'<=us.size:=by
    rw[List.length_append,List.length_append,List.length_take,List.length_drop];grind[Nat.add_mul]
   have hrel:=oR r hln _ hlive ev ⟨_,t0,setRow_heap w _ us _ t0 _ g1,by grind[cH],by grind[cH],TZ h0 (g4.mono fun b hb=>ev.al hb) (n3.mono fun b hb=>ev.al hb) n1 hfit hle⟩;have hmin:Nat.min l n=ys.length:=hlen.symm;have hnew:(Builtin.firstCells k' ys.length (.slice ay l cy)).run P w=.ok news.toArray w:=by
    have:=n2 w rfl;cases ay<;>exact this
   refine⟨goInt ys.length,_,YI ht hk hmin hnew (w':=w.setRow (ρ id none).1 (cw us (lo*k') news)) (fun a2 ha'=>?_) (fun ha'=>?_),⟨ρ,hrel,ev,.dat (.v _ rfl)⟩⟩
   ·rcases ha with h9|h9
    ·have e2:ys.length=0:=by omega
     have e3:news=[]:=List.eq_nil_of_length_eq_zero (by grind);subst e3;rw[kt (by omega) (fun j v hv=>by grind),setRow_self w _ us t0 (0,0) g1];rfl
    grind[run_storeCells_at,cw]
   grind[List.eq_nil_of_length_eq_zero,kt,setRow_self]
  grind
 grind
end
section
variable {P:Program} {w w':World} {X:Nat→Prop} {ρ ρ':br} {h h':ac} {A A':Nat→Prop}
theorem Q3(r:Rel w X ρ h){t e:TypeId}{k:Nat}(ht:P.underlying t=some (.slice e))(hk:bo P e=some k)(h0:0<k){x z:AV}{u:Value}{lo hi:Option AV}{lo' hi':Option Value}{ks:K}
  (hx:RV w (aF w X h ρ) ρ h x u) (hl:RVo w (aF w X h ρ) ρ h lo lo') (hh:RVo w (aF w X h ρ) ρ h hi hi') (hz:En h k x lo hi=some (z,h',ks)):
  ∃v,(Instr.sliceAt t u lo' hi' none).run P w=.ok v w/\Got w X ρ h w h' ks z v:=by
 have hsz:∀w,(sizeOf e).run P w=.ok k w:=by
  simp only[bo,Option.map_eq_some_iff]at hk;obtain⟨i,h1,h2⟩:=hk
  simp_all[sizeOf,typeInfo]
 have run:∀ (a:Option Addr) (n cap l r m:Nat),(Instr.sliceBounds true n cap lo' hi' none).run P w=.ok (l,r,m) w->
   (Instr.sliceAt t (.slice a n cap) lo' hi' none).run P w=.ok (.slice (if m=l then a else a.map (·.add (l*k))) (r-l) (m-l)) w:=by
  simp_all[Instr.sliceAt,Instr.slice,run_underlying]
 cases x<;>simp only[En]at hz<;>try (cases hz;done)
 rename_i id sub k' l0 n;cases sub with
 |some p=>grind
 |none=>
 simp only at hz;split at hz
 ·rename_i hkk;subst hkk;obtain⟨a,cap,rfl,hp,hn,hb,ha⟩:=hx.rsl_inv;cases eo:h id<;>rw[eo]at hz<;>simp only[He]at hz<;>try (cases hz;done)
  rename_i k2 rows;split at hz
  ·rename_i hcond;obtain⟨rfl,hs,hle⟩:=hcond;simp only[Option.map_eq_some_iff]at hz;obtain⟨⟨l,r'⟩,h1,h2⟩:=hz;obtain⟨rfl,rfl,rfl⟩:=h2;have ho:=r.ob id;rw[eo]at ho;obtain⟨us,t0,g1,g2,g3,g4⟩:=ho;have hcap:rows.length<=l0+cap:=by
    have h5:rows.length*k2<=(l0+cap)*k2:=by omega
    exact Nat.le_of_mul_le_mul_right h5 h0
   obtain⟨m,q2,q3,q4,q5,q6,q7,q8⟩:=pF (P:=P) (cap:=cap) true hl hh .none h1 (by omega);cases hh with
   |none=>grind
   |some hv=>
   have q2':=q2;refine⟨_,run _ _ _ _ _ _ q2',ρ,r,.refl _ _ _,.rsl _ _ _ _ _ _ _ hp (by omega) (by grind) ?_⟩;rcases ha with h0|h0
   ·omega
   ·by_cases hml:m=l
    all_goals simp_all[if_neg,Option.map_some,kn,Nat.add_mul]
  grind
 grind
theorem T1(r:Rel w X ρ h){t:TypeId}(hg:nS P t=some false){d:Nat}(hdp:aQ d=false){x z:AV}{u:Value}{ks:K}
  (hx:RV w (aF w X h ρ) ρ h x u) (hz:Hg h d x=some (z,h',ks)):
  ∃ad v,u=.pointer (some ad)/\(loadVar t ad).run P w=.ok v w/\Got w X ρ h w h' ks z v:=by
 cases x<;>simp only[Hg]at hz<;>try (cases hz;done)
 rename_i id sub k0 i j;cases sub with
 |some p=>grind
 |none=>
 simp only at hz;obtain⟨rfl,hp⟩:=hx.ref_inv;cases eo:h id<;>rw[eo]at hz<;>simp only[MM]at hz<;>try (cases hz;done)
 rename_i cs;obtain⟨us,t0,g1,g2,g3,g4⟩:=r.cell eo;generalize hpp:i*k0+j=p at hz⊢;cases ec:cs[p]? with
 |none=>grind[Ep]
 |some c=>
  rw[ec]at hz;obtain⟨v,f1,f2⟩:=g4 p c ec;have hload:(loadVar t ⟨(ρ id none).1,p,none⟩).run P w=.ok v w:=zR hg (by grind[xj]);refine⟨_,v,rfl,hload,?_⟩;cases c<;>simp only[Ep]at hz<;>try (cases hz;done)
  ·obtain⟨rfl,rfl,rfl⟩:=hz;exact⟨ρ,r,.refl _ _ _,f2.1⟩
  ·rename_i k rows;obtain⟨hd',rfl,rfl,rfl⟩:=jv hz;have hne:d≠id:=by grind[aq]
   have hd:h d=.dead:=by grind[aI]
   obtain⟨m1,m2⟩:=TV r eo ec hdp hd;obtain⟨a,cap,us1,t1,rfl,q2,q3,q4,q5,q6,q7⟩:=f2;refine⟨_,m1,m2,.rsl d none k 0 rows.length cap a (by simp[bC,aq]) q3 (by rw[bp,Nat.zero_add,q6,q5]) ?_⟩
   simp_all[bp,Nat.zero_mul]
theorem Q4(r:Rel w X ρ h){k:Nat}(h0:0<k){id m:Nat}{rows ys:List (List AV)}(eo:h id=.ar k rows)(hfit:m+ys.length<=rows.length)
  {news:List Value} (n1:news.length=ys.length*k) (n3:bT w (aF w X h ρ) k ys news.toArray):
  ∃w',Rel w' X ρ (upd h id (.ar k (rows.take m++ys++rows.drop (m+ys.length))))/\Evo w ρ h w' ρ (upd h id (.ar k (rows.take m++ys++rows.drop (m+ys.length)))) []/\
   (storeCells ⟨(ρ id none).1,m*k,none⟩ news).run P w=.ok () w'/\(news=[]->w'=w):=by
 have hln:live h id none:=by grind[live]
 have ho:=r.ob id;rw[eo]at ho;obtain⟨us,t0,g1,g2,g3,g4⟩:=ho;have hle:m*k+news.length<=us.size:=by
  have:(m+ys.length)*k<=rows.length*k:=Nat.mul_le_mul_right k hfit;grind
 have h1:∀v∈news,v.oneCell'=true:=by
  intro v hv;obtain⟨q,hq⟩:=List.getElem?_of_mem hv;have h3:q/k<ys.length:=Nat.div_lt_of_lt_mul (by grind);obtain⟨f1,f2⟩:=n3 (q/k) _ (List.getElem?_eq_getElem h3);have h4:q%k< (ys[q/k]).length:=by simp_all[Nat.mod_lt]
  obtain⟨v',f3,f4,f5⟩:=f2 (q%k) _ (List.getElem?_eq_getElem h4);have h5:q/k*k+q%k=q:=by grind[Nat.div_add_mod]
  rw[h5,List.getElem?_toArray,hq]at f3;cases f3;exact f4.one f5
 have hlive:∀s,live (upd h id (.ar k (rows.take m++ys++rows.drop (m+ys.length)))) id s->live h id s:=by
  intro s h1;cases s with
  |none=>omega
  |some q=>obtain⟨_,_,_,h2,_⟩:=h1;grind[aq]
 have hkeep:∀s,bC h id s->s=none:=by
  intro s hp;cases s with
  |none=>rfl
  |some q=>obtain⟨_,_,_,h2,_⟩:=hp;grind
 have ev:Evo w ρ h (w.setRow (ρ id none).1 (cw us (m*k) news)) ρ (upd h id (.ar k (rows.take m++ys++rows.drop (m+ys.length)))) []:=
  ug (X:=X) r hln _ hlive (fun s hp _=>by grind[bC,aq]) (fun hbf=>by rw[eo]at hbf;cases hbf)
 have hrel:=oR r hln _ hlive ev ⟨_,t0,setRow_heap w _ us _ t0 _ g1,by grind[cH],by grind[cH],La h0 (g4.mono fun b hb=>ev.al hb) (n3.mono fun b hb=>ev.al hb) n1 (by omega) g3⟩;grind[run_storeCells_at,cw,kt,setRow_self]
theorem T2(r:Rel w X ρ h){t e ty:TypeId}{k:Nat}{zs:List AV}(ht:P.underlying t=some (.slice e))(hk:bo P e=some k)(hzz:iD P e=some zs)(h0:0<k){x z:AV}{u:Value}{ks:K}
  (hx:RV w (aF w X h ρ) ρ h x u) (hz:Jn h k zs x=some (z,h',ks)):
  ∃v w',(Builtin.clear_ #[t] ty #[u]).run P w=.ok v w'/\Got w X ρ h w' h' ks z v:=by
 cases x<;>simp only[Jn]at hz<;>try (cases hz;done)
 rename_i id sub k' lo n;cases sub with
 |some p=>grind
 |none=>
 simp only at hz;split at hz
 ·obtain⟨a,cap,rfl,hp,hn,hb,ha⟩:=hx.rsl_inv;cases eo:h id<;>rw[eo]at hz<;>simp only[Nj]at hz<;>try (cases hz;done)
  rename_i k2 rows;split at hz
  ·rename_i hcond;obtain⟨rfl,hfit⟩:=hcond;obtain⟨rfl,rfl,rfl⟩:=hz;obtain⟨zv,z1,z2,z3,z4⟩:=vH (w:=w) (A:=aF w X h ρ) hk hzz n n (Nat.le_refl n);obtain⟨ii,zw,y1,y2,y3,y4,_⟩:=kq (w:=w) (A:=aF w X h ρ) (ρ:=ρ) (h:=h) hzz;have hzv:zv=zw:=by
    have h5:=z1 w;rw[Hs y1 y2 w]at h5;grind
   have hcs:zv.cells.size=k2:=by grind[bo]
   have hnews:(Builtin.zeroCells zv.cells n)=(Array.range (n*k2)).map (zv.cells[· %zv.cells.size]!):=by
    grind[Builtin.zeroCells]
   obtain⟨w',m1,m2,m3,m4⟩:=Q4 (P:=P) r h0 (m:=lo) (ys:=List.replicate n zs) (news:=(Builtin.zeroCells zv.cells n).toList) eo (by grind) (by grind) (by rw[Array.toArray_toList,hnews];omega);rw[List.length_replicate]at m1 m2;refine⟨.tuple #[],w',?_,ρ,m1,m2,.tup [] #[] rfl (fun i c u hc=>by grind)⟩;by_cases hn0:n=0
   ·subst hn0;have:(Builtin.zeroCells zv.cells 0).toList=[]:=by grind
    rw[m4 this];cases a<;>simp[Builtin.clear_,run_underlying ht]
   ·rcases ha with h9|h9
    all_goals simp_all[Nat.exists_eq_succ_of_ne_zero,Builtin.clear_,run_underlying]
  grind
 grind
theorem T3{z:Array Value}{n c:Nat}(hn:n<=c):Builtin.zeroCells z n++Builtin.zeroCells z (c-n)=(Array.range (c*z.size)).map (z[· %z.size]!):=by
 unfold Builtin.zeroCells;apply Array.ext
 ·simp only[Array.size_append,Array.size_map,Array.size_range];rw[←Nat.add_mul];grind
 ·intro i h1 h2;rw[Array.getElem_append];split
  ·simp
  ·rename_i h3;simp only[Array.size_map,Array.size_range]at h3;have:i%z.size=(i-n*z.size) %z.size:=by
    have h4:i=(i-n*z.size)+n*z.size:=by omega
    rw[h4,Nat.add_mul_mod_self_right,Nat.add_sub_cancel]
   grind
theorem Q5(r:Rel w X ρ h){t u e ty:TypeId}{k b d:Nat}(hdp:aQ d=false){zs:List AV}(ht:P.underlying t=some (.slice e))(hu:P.underlying u=some (.int .i64))(hk:bo P e=some k)(hbb:mW P e=some b)(hzz:iD P e=some zs)(h0:0<k)(hb0:0<b)
  {x y z:AV} {ux uy:Value} {ks:K} (hx:RV w (aF w X h ρ) ρ h x ux) (hy:RV w (aF w X h ρ) ρ h y uy) (hr:Eo h d k b zs x y=some (z,h',ks)):
  ∃v w',(Builtin.append_ #[t,u] ty #[ux,uy]).run P w=.ok v w'/\Got w X ρ h w' h' ks z v:=by
 unfold Eo at hr;split at hr
 ·rename_i c;obtain⟨a,rfl⟩:=hx.emp_inv;obtain⟨rfl,_⟩:=hy.v_inv;split at hr
  ·rename_i hcond;obtain⟨hc0,hfit⟩:=hcond;obtain⟨n,rfl⟩:=Int.eq_ofNat_of_zero_le (show 0<=c by omega);rw[Int.toNat_natCast]at hr hfit;obtain⟨i,zv,z1,z2,z3,z4,_⟩:=kq (w:=w) (A:=aF w X h ρ) (ρ:=ρ) (h:=h) hzz;have hik:i.size=k:=by grind[bo]
   have hib:i.bytes=b:=by grind[mW]
   have hcs:zv.cells.size=k:=by omega
   obtain⟨d3,d4⟩:=wQ r;have hge:=grownCap_ge w (0+n) 0 e;obtain⟨zw,y1,y2,y3,y4⟩:=vH (w:=w.drew) (A:=aF w.drew X h ρ) hk hzz n (grownCap w (0+n) 0 e) (by omega);have hzv:zw=zv:=by
    have h5:=y1 w;rw[Hs z1 z2 w]at h5;grind
   subst hzv;obtain⟨rfl,ρ',q1,q2,q3⟩:=mZ (t:=e) (cap:=grownCap w (0+n) 0 e) d3 hdp y4 y3 (by omega) (by rw[y2]) hr;refine⟨_,_,?_,ρ',q1,d4.trans q2,q3⟩;have hnb:n<=140737488355328:=by
    have:n*1<=n*b:=Nat.mul_le_mul_left n hb0;omega
   have hw:IntKind.i64.wrap (n:Int)=n:=by grind[IntKind.wrap,IntKind.signed,IntKind.bits]
   have hn1:n≠0:=by omega
   have h48:¬ (281474976710656< (n:Int)*i.bytes):=by
    grind
   have hmax:¬ ((9223372036854775807:Int)< (n:Int)):=by omega
   have hns:¬ (281474976710656<Builtin.nextslicecap n 0*i.bytes):=by
    simp_all[growslice_fits,bytes]
   have hb':i.bytes≠0:=by omega
   have hk':i.size≠0:=by omega
   have hneg:¬ ((n:Int)<0):=by omega
   have hli:∀w:World,(asInt (.int .i64 (n:Int))).run P w=.ok (n:Int) w:=fun _=>rfl;simp only[Nat.zero_add]at hge⊢;simp[Builtin.append_,run_underlying ht,run_underlying hu,sizeOf,typeInfo,zeroValue,z1,z2,hli,hw,hn1,h48,hmax,hns,hb',hneg,Question.forced,newRow,grownCap,gl]
   simp_all[if_neg,Nat.mul_eq_zero,T3,grownCap]
  grind
 ·rename_i id k' lo i c m;obtain⟨a,rfl,hp,hn,hbd,ha⟩:=hx.rsc_inv;obtain⟨rfl,_⟩:=hy.v_inv;split at hr
  ·rename_i hcond;obtain⟨rfl,rfl,hm0,hroom⟩:=hcond;obtain⟨n,rfl⟩:=Int.eq_ofNat_of_zero_le (show 0<=m by omega);rw[Int.toNat_natCast]at hr hroom;cases eo:h id<;>rw[eo]at hr<;>simp only[Hf]at hr<;>try (cases hr;done)
   rename_i k2 rows;split at hr
   ·rename_i hcond2;obtain⟨rfl,hle,hfit⟩:=hcond2;have ho:=r.ob id;rw[eo]at ho;obtain⟨us,t0,g1,g2,g3,g4⟩:=ho;obtain⟨ii,zv,z1,z2,z3,z4,_⟩:=kq (w:=w) (A:=aF w X h ρ) (ρ:=ρ) (h:=h) hzz;have hik:ii.size=k2:=by grind[bo]
    have hib:ii.bytes=b:=by grind[mW]
    have hcs:zv.cells.size=k2:=by omega
    have hlt:(rows.take i).length=i:=by grind
    obtain⟨old,o1,o2,o3⟩:∃old:List Value,old.length=(rows.take i).length*k2/\(∀w2:World,w2.heap=w.heap->(Builtin.firstCells k2 i (.slice a i c)).run P w2=.ok old.toArray w2)/\bT w (aF w X h ρ) k2 (rows.take i) old.toArray:=by
     rw[hlt];by_cases hr0:i=0
     ·subst hr0;exact⟨[],by simp,fun w2 _=>gl _ _ _ _ _,fun q row hq=>by grind⟩
     ·rcases ha with h9|rfl
      ·omega
      ·obtain⟨old,f1,f2,f3⟩:=ry (P:=P) (w:=w) (A:=aF w X h ρ) (o:=0) (n:=i) (l:=i) (cap:=c) g1 g4 (by omega) h0;grind
    obtain⟨zw,y1,y2,y3,y4⟩:=vH (w:=w) (A:=aF w X h ρ) hk hzz n n (Nat.le_refl _);have hzv:zw=zv:=by
     have h5:=y1 w;rw[Hs z1 z2 w]at h5;grind
    subst hzv;have hnews:Builtin.zeroCells zw.cells n=(Array.range (n*k2)).map (zw.cells[· %zw.cells.size]!):=by
     grind[Builtin.zeroCells]
    have hz4:bT w (aF w X h ρ) k2 (List.replicate n zs) (Builtin.zeroCells zw.cells n).toList.toArray:=by
     rw[Array.toArray_toList,hnews];omega
    obtain⟨d3,d4⟩:=wQ r;have hge:=grownCap_ge w (i+n) c e;have hl2:(Builtin.zeroCells zw.cells n).toList.length=(List.replicate n zs).length*k2:=by grind
    have hrows:=CZ (w:=w) (A:=aF w X h ρ) (Builtin.zeroCells zw.cells (grownCap w (i+n) c e- (i+n))) o3 o1 hz4 hl2;have hsz:(old.toArray++(Builtin.zeroCells zw.cells n).toList.toArray++Builtin.zeroCells zw.cells (grownCap w (i+n) c e- (i+n))).size=grownCap w (i+n) c e*k2:=by
     simp only[Array.size_append,List.size_toArray,size_zeroCells,hcs,o1,hlt,hl2,List.length_replicate,←Nat.add_mul];grind
    have hlen:(rows.take i++List.replicate n zs).length=i+n:=by grind
    obtain⟨rfl,ρ',q1,q2,q3⟩:=mZ (t:=e) (cap:=grownCap w (i+n) c e) d3 hdp (hrows.mono fun b hb=>d4.al hb) (by simp_all[Nat.mul_le_mul_right]) hge hsz.symm hr;refine⟨_,_,?_,ρ',q1,d4.trans q2,q3⟩;have hnb:(i+n)*1<=(i+n)*b:=Nat.mul_le_mul_left _ hb0;have hw:IntKind.i64.wrap (n:Int)=n:=by grind[IntKind.wrap,IntKind.signed,IntKind.bits]
    have hn1:n≠0:=by omega
    have hnb2:n*b<=(i+n)*b:=Nat.mul_le_mul_right b (by omega);have h48:¬ (281474976710656< (n:Int)*ii.bytes):=by
     grind
    have hmax:¬ ((9223372036854775807:Int)< (i:Int)+(n:Int)):=by omega
    have hcap:¬ (i+n<=c):=by omega
    have hns:¬ (281474976710656<Builtin.nextslicecap (i+n) c*ii.bytes):=by
     simp_all[growslice_fits,bytes]
    have hb':ii.bytes≠0:=by omega
    have hk':ii.size≠0:=by omega
    have hneg:¬ ((n:Int)<0):=by omega
    have hli:∀w:World,(asInt (.int .i64 (n:Int))).run P w=.ok (n:Int) w:=fun _=>rfl;have ho2:=o2 w.drew rfl;simp[Builtin.append_,run_underlying ht,run_underlying hu,sizeOf,typeInfo,zeroValue,z1,z2,hli,hw,h48,hmax,hns,hb',hneg,hcap,Question.forced,newRow,grownCap,hik,ho2];grind
   grind
  grind
 grind
end
section
variable {P:Program} {w w':World} {X:Nat→Prop} {ρ ρ':br} {h h':ac} {s:af} {a:Act}
theorem Fw(hs:RS w (aF w X h ρ) ρ h s a.tmps):∀ (ps:List (Nat×Operand)) (q:List (Nat×Opd)),Ar ps=some q->q.length=ps.length/\
  ∀ (m:Nat) (p:Nat×Opd) (v:Nat×Operand),q[m]?=some p->ps[m]?=some v->v.1=p.1/\RV w (aF w X h ρ) ρ h (ev s p.2) (a.eval v.2)
 |[],q,hq=>by grind[Ar]
 | (i,x)::ps,q,hq=>by
  simp only[Ar,Option.bind_eq_some_iff]at hq;obtain⟨y,h1,q',h2,h3⟩:=hq;cases h3;obtain⟨g1,g2⟩:=Fw hs ps q' h2;refine⟨by simp[g1],fun m p v e1 e2=>?_⟩;cases m with
  |zero=>simp at e1 e2;subst e1 e2;exact⟨rfl,aN h1 hs⟩
  |succ m=>exact g2 m p v (by simpa using e1) (by simpa using e2)
theorem lF{α:Type}{x:Option α}{f:α->POp}{y:AOp}(hc:(x.map fun a=>AOp.p (f a))=some y):∃p,y=.p p:=by
 grind[Option.map_eq_some_iff]
theorem cI{α:Type}{x:Option α}{f:α->Option AOp}{y:AOp}(hf:∀a,f a=some y->∃p,y=.p p)(hc:x.bind f=some y):∃p,y=.p p:=by
 grind[Option.bind_eq_some_iff]
theorem ade{c:Prop} [Decidable c]{p:POp}{y:AOp}(hc:(if c then none else some (AOp.p p))=some y):∃p,y=.p p:=by
 grind
theorem T4{u:TypeId}(h:Ty P u=true):P.underlying u=some (.int .i64):=by
 grind[Ty]
theorem YJ{op:Op}{aop:AOp}{call:ef}{md:Mode}(hc:CT P op=some aop)(hnc:∀f zas,aop≠ .call f zas)(r:Rel w X ρ h)(hs:RS w (aF w X h ρ) ρ h s a.tmps){d:Nat}(hdp:aQ d=false){z:AV}{ks:K}
  (hz:step call md d aop s h=some (z,h',ks)) (o:Oper) (ho:o.op=op):
  ∃nx v w',(execOp a.eval o).run P w=.ok nx w'/\(nx=.value v\/(nx=.skip/\v=undef))/\Got w X ρ h w' h' ks z v:=by
 have fin:∀ {m:Sem Value},(∃v w',m.run P w=.ok v w'/\Got w X ρ h w' h' ks z v)->∃nx v w',(do pure (.value (←m)):Sem Next).run P w=.ok nx w'/\(nx=.value v\/(nx=.skip/\v=undef))/\Got w X ρ h w' h' ks z v:=by
  intro m hm;obtain⟨v,w',h1,h2⟩:=hm;exact⟨_,v,w',by simp_all,.inl rfl,h2⟩
 by_cases hp:∃pop,aop=.p pop
 ·obtain⟨pop,rfl⟩:=hp;simp only[step,xz,Option.map_eq_some_iff,Prod.mk.injEq]at hz;obtain⟨z',h1,rfl,rfl,rfl⟩:=hz;obtain⟨v,g1,g2⟩:=TM hc hs h1 o ho;exact⟨_,v,w,g1,.inl rfl,ρ,r,.refl _ _ _,g2⟩
 ·cases op<;>simp only[CT]at hc
  case alloc=>
   simp only[Option.map_eq_some_iff]at hc;obtain⟨zs,h1,h2⟩:=hc;cases h2;simp only[execOp,ho];exact fin (Q0 r h1 hdp hz)
  case box=>
   simp only[Option.bind_eq_some_iff,Option.map_eq_some_iff]at hc;obtain⟨k,h1,y,h2,h3⟩:=hc;cases h3;simp only[execOp,ho];exact fin (TQ r hdp (aN h2 hs) hz)
  case buildSlice t n ps=>
   simp only[Eu,Option.bind_eq_some_iff]at hc;obtain⟨e,h1,k,h2,hc⟩:=hc;split at hc
   ·rename_i hn;simp only[Option.bind_eq_some_iff,Option.map_eq_some_iff]at hc;obtain⟨zs,h3,q,h4,h5⟩:=hc;cases h5;obtain⟨g1,g2⟩:=Fw hs _ _ h4;simp only[execOp,ho];simp only[step]at hz;refine fin (L4 r hdp h1 h2 h3 hn.1 (by grind) (fun m p v e1 e2=>?_) hz);grind
   grind
  case makeSlice t l c=>
   simp only[MO,Option.bind_eq_some_iff]at hc;obtain⟨l',h1,c',h2,e,h3,k,h4,b,h5,hc⟩:=hc;split at hc
   ·simp only[Option.map_eq_some_iff]at hc;obtain⟨zs,h6,h7⟩:=hc;cases h7;simp only[execOp,ho];exact fin (TS r hdp h3 h4 h5 h6 (aN h1 hs) (aN h2 hs) hz)
   grind
  case load t x=>
   simp only[Option.bind_eq_some_iff]at hc;obtain⟨g,h1,k,h2,y,h3,hc⟩:=hc;split at hc
   ·cases hc;obtain⟨ad,v,g1,g2,g3,g4,g5⟩:=Ft (P:=P) r h1 h2 (aN h3 hs) hz;simp only[execOp,ho];exact fin ⟨v,w,by rw[g1];exact g2,ρ,g3,g4,g5⟩
   grind
  case store t x y=>
   simp only[Option.bind_eq_some_iff,Option.map_eq_some_iff]at hc;obtain⟨k,h1,x',h2,y',h3,h4⟩:=hc;cases h4;obtain⟨ad,w',ρ',rfl,g1,g2,g3,g4⟩:=NA (P:=P) r h1 (aN h2 hs) (aN h3 hs) hz;simp only[execOp,ho];refine⟨.skip,undef,w',?_,.inr ⟨rfl,rfl⟩,ρ',g3,g4,.und⟩;have:(Instr.storeAt t (a.eval x) (a.eval y)).run P w=.ok () w':=by rw[g1];exact g2
   simp_all
  case call c=>
   unfold MR at hc;split at hc
   ·rename_i b hb;have run:∀ (args:Array Value),args=c.args.map a.eval->(execOp a.eval o).run P w=(builtin b c.argTypes o.type (c.args.map fun| .const _=>true|_=>false) args).run P w:=by
     grind[execOp,resolve,Sem.run_bind,Sem.run_pure,Result.andThen,invoke]
    unfold Bm at hc;split at hc
    ·exact absurd (cI (fun _ h=>lF h) hc) hp
    ·exact absurd (cI (fun _ h=>lF h) hc) hp
    ·exact absurd (cI (fun _ h=>lF h) hc) hp
    ·exact absurd (cI (fun _ h=>lF h) hc) hp
    ·unfold Tz at hc;split at hc
     ·rename_i t u x y e1 e2;have hargs:c.args.map a.eval=#[a.eval x,a.eval y]:=Array.toList_inj.1 (by simp[e2]);have hts:c.argTypes=#[t,u]:=Array.toList_inj.1 (by omega);split at hc
      ·rename_i hi64;simp only[MP,Option.bind_eq_some_iff]at hc;obtain⟨e,q1,k,q3,b,q4,x',q5,y',q6,zs,hzs,hc⟩:=hc;split at hc
       ·rename_i hcond;cases hc;rw[run _ rfl,hargs,hts];exact fin (Q5 r hdp (ku q1) (T4 hi64) q3 q4 hzs hcond.1 hcond.2 (aN q5 hs) (aN q6 hs) hz)
       grind
      ·simp only[Option.bind_eq_some_iff]at hc;obtain⟨e,q1,e',q2,k,q3,b,q4,x',q5,y',q6,hc⟩:=hc;split at hc
       ·rename_i hcond;cases hc;obtain⟨zs,hzs⟩:=Option.isSome_iff_exists.1 hcond.2.2;rw[run _ rfl,hargs,hts];exact fin (TW r (ku q1) (ku q2) q3 q4 hzs hcond.1 hcond.2.1 hdp (aN q5 hs) (aN q6 hs) hz)
       grind
     grind
    ·unfold MQ at hc;split at hc
     ·rename_i t u x y e1 e2;simp only[Option.bind_eq_some_iff]at hc;obtain⟨e,q1,k,q3,x',q5,y',q6,hc⟩:=hc;split at hc
      ·rename_i hcond;cases hc;have hargs:c.args.map a.eval=#[a.eval x,a.eval y]:=Array.toList_inj.1 (by simp[e2]);have hts:c.argTypes=#[t,u]:=Array.toList_inj.1 (by omega);rw[run _ rfl,hargs,hts];obtain⟨v,w',g1,g2⟩:=T0 (P:=P) (u:=u) (ty:=o.type) r (ku q1) q3 hcond (aN q5 hs) (aN q6 hs) hz;refine⟨.value v,v,w',?_,.inl rfl,g2⟩;show(do pure (.value (←Builtin.copy_ #[t,u] o.type #[a.eval x,a.eval y])):Sem Next).run P w=_
       simp_all
      grind
     grind
    ·unfold Hl at hc;split at hc
     ·rename_i t x e1 e2;simp only[Option.bind_eq_some_iff]at hc;obtain⟨e,q1,k,q3,x',q5,zs,hzs,hc⟩:=hc;split at hc
      ·rename_i hcond;cases hc;have hargs:c.args.map a.eval=#[a.eval x]:=Array.toList_inj.1 (by simp[e2]);have hts:c.argTypes=#[t]:=Array.toList_inj.1 (by omega);rw[run _ rfl,hargs,hts];exact fin (T2 (P:=P) (ty:=o.type) r (ku q1) q3 hzs hcond (aN q5 hs) hz)
      grind
     grind
    grind
   all_goals grind[Option.bind_eq_some_iff,Option.map_eq_some_iff,absurd]
  case makeFunc fn _ _=>
   cases fn
   ·exact absurd (cI (fun _ h=>lF h) hc) hp
   all_goals grind
  all_goals first
   | (cases hc;done)
   |exact absurd (lF hc) hp
   |exact absurd (cI (fun _ h=>lF h) hc) hp
   |exact absurd (cI (fun _ h=>cI (fun _ h=>lF h) h) hc) hp
   |exact absurd (cI (fun _ h=>cI (fun _ h=>cI (fun _ h=>lF h) h) h) hc) hp
   |exact absurd (cI (fun _ h=>cI (fun _ h=>cI (fun _ h=>cI (fun _ h=>lF h) h) h) h) hc) hp
   |exact absurd (cI (fun _ h=>cI (fun _ h=>cI (fun _ h=>ade h) h) h) hc) hp
theorem Wa{op:Op}{hint aop:AOp}{call:ef}{md:Mode}(hc:Nu P hint op=some aop)(hnc:∀f zas,aop≠ .callC f zas)(r:Rel w X ρ h)(hs:RS w (aF w X h ρ) ρ h s a.tmps){d:Nat}(hdp:aQ d=false){z:AV}{ks:K}
  (hz:step call md d aop s h=some (z,h',ks)) (o:Oper) (ho:o.op=op):
  (∃nx v w',(execOp a.eval o).run P w=.ok nx w'/\(nx=.value v\/(nx=.skip/\v=undef))/\Got w X ρ h w' h' ks z v)/\∀f zas,aop≠ .call f zas:=by
 have fin:∀ {m:Sem Value},(∃v w',m.run P w=.ok v w'/\Got w X ρ h w' h' ks z v)->∃nx v w',(do pure (.value (←m)):Sem Next).run P w=.ok nx w'/\(nx=.value v\/(nx=.skip/\v=undef))/\Got w X ρ h w' h' ks z v:=by
  intro m hm;obtain⟨v,w',h1,h2⟩:=hm;exact⟨_,v,w',by simp_all,.inl rfl,h2⟩
 unfold Nu at hc;split at hc
 ·simp only[Option.bind_eq_some_iff]at hc;obtain⟨e,q1,k,q2,x',q3,lo',q4,hi',q5,hc⟩:=hc;split at hc
  ·rename_i h0;cases hc;refine⟨?_,fun f zas h=>by grind⟩;simp only[execOp,ho];obtain⟨v,g1,g2⟩:=Q3 (P:=P) r (ku q1) q2 h0 (aN q3 hs) (lZ q4 hs) (lZ q5 hs) hz;exact fin ⟨v,w,g1,g2⟩
  grind
 ·grind[Option.bind_eq_some_iff,Option.map_eq_some_iff,absurd]
 ·rename_i t x;simp only[Option.bind_eq_some_iff]at hc;obtain⟨g,q1,x',q2,hc⟩:=hc;split at hc
  ·grind
  ·cases hc;refine⟨?_,fun f zas h=>by grind⟩;obtain⟨ad,v,g1,g2,g3⟩:=T1 (P:=P) r (by simpa [Bool.not_eq_true]using (by grind:nS P t=some false)) hdp (aN q2 hs) hz;simp only[execOp,ho];exact fin ⟨v,w,by rw[g1];exact g2,g3⟩
 grind
end
structure Inv where
 p:World->(Nat->Prop)->Prop
 stab:∀ {w w':World} {X:Nat->Prop},p w X->(∀b,XZ X b->w'.heap[b]?=w.heap[b]?)->p w' X
 more:∀ {w:World} {X X':Nat->Prop},p w X->(∀b,X b->X' b)->p w X'
structure Far (nm:Bool) (w:World) (ρ:br) (h:ac) (w':World) (ρ':br) (h':ac):Prop where
 os:w'.os=w.os
 tape:w'.tape=w.tape
 output:w'.output=w.output
 size:w.heap.size<=w'.heap.size
 old:∀b,b<w.heap.size->¬mY h ρ b->w'.heap[b]?=w.heap[b]?
 fresh:∀b,mY h' ρ' b->mY h ρ b\/w.heap.size<=b
 stay:∀id,aQ id=true->h' id≠ .dead->h id≠ .dead/\ρ' id none=ρ id none
 keep:nm=true->∀id p,aQ id=true->h' id≠ .dead->bC h id (some p)->bC h' id (some p)/\ρ' id (some p)=ρ id (some p)
theorem YK{nm:Bool}{ks:K}(h:mn nm ks=true)(hn:nm=true){id:Nat}(hp:aQ id=true)(s:Option Nat):gS ks id s=false:=by
 simp only[mn,Bool.not_true,Bool.false_or,List.all_eq_true,Bool.not_eq_true']at h;simp only[gS,List.any_eq_false,Bool.and_eq_true,beq_iff_eq,not_and];grind
theorem Evo.far{nm:Bool}{w w':World}{ρ ρ':br}{h h':ac}{ks:K}(e:Evo w ρ h w' ρ' h' ks)(hn:mn nm ks=true):Far nm w ρ h w' ρ' h':=
 ⟨e.os,e.tape,e.output,e.size,e.old,e.fresh,e.stay,fun h1 id p hp _ h2=>e.keep id (some p) h2 (YK hn h1 hp _)⟩
theorem kR(nm:Bool):mn nm []=true:=by cases nm<;>rfl
theorem Far.refl(nm:Bool)(w:World)(ρ:br)(h:ac):Far nm w ρ h w ρ h:=(Evo.refl w ρ h).far (kR nm)
theorem Far.trans{nm:Bool}{w w' w'':World}{ρ ρ' ρ'':br}{h h' h'':ac}(a:Far nm w ρ h w' ρ' h')(b:Far nm w' ρ' h' w'' ρ'' h''):Far nm w ρ h w'' ρ'' h'':=
 ⟨b.os.trans a.os,b.tape.trans a.tape,b.output.trans a.output,Nat.le_trans a.size b.size,
  fun x hx ho=>(b.old x (Nat.lt_of_lt_of_le hx a.size) (fun o=>by rcases a.fresh x o with o|o;all_goals grind)).trans (a.old x hx ho),
  fun x o=>by
   rcases b.fresh x o with o|o
   ·exact a.fresh x o
   ·exact .inr (Nat.le_trans a.size o),
  fun id hp hd=>by
   obtain⟨h1,h2⟩:=b.stay id hp hd;obtain⟨h3,h4⟩:=a.stay id hp h1;grind,
  fun hn id p hp hd h1=>by
   obtain⟨h2,h3⟩:=a.keep hn id p hp (b.stay id hp hd).1 h1;obtain⟨h4,h5⟩:=b.keep hn id p hp hd h2;grind⟩
theorem Far.inv{I:Inv}{nm:Bool}{w w':World}{X:Nat->Prop}{ρ ρ':br}{h h':ac}(f:Far nm w ρ h w' ρ' h')(r:Rel w X ρ h)(hi:I.p w X):I.p w' X:=
 I.stab hi fun b hb=>f.old b (r.xl b hb) fun⟨id,sub,hl,e⟩=>r.nx id sub hl (e▸hb)
theorem Evo.inv{I:Inv}{w w':World}{X:Nat->Prop}{ρ ρ':br}{h h':ac}{ks:K}(f:Evo w ρ h w' ρ' h' ks)(r:Rel w X ρ h)(hi:I.p w X):I.p w' X:=(f.far (nm:=false) rfl).inv r hi
def Enters(P:Program)(f:FuncId)(vals:Array Value)(w:World)(R:Value->World->Prop):Prop:=
 match (callFunc f vals).run P w with
 | .ok (.value v) w'=>R v w'
 | .ok (.enter g args) w'=>Calls P g args w' fun e w''=>match e with| .returned v=>R v w''|_=>False
 | .ok (.row row args) w'=>Rows P row args w' R
 |_=>False
theorem Enters.mono{P:Program}{f:FuncId}{vals:Array Value}{w:World}{R R':Value->World->Prop}(h:Enters P f vals w R)(hr:∀v w',R v w'->R' v w'):Enters P f vals w R':=by
 unfold Enters at*
 grind[Calls.mono,Rows.mono]
def ji(P:Program)(I:Inv)(call:ef)(md:Mode):Prop:=
 ∀ {w:World} {X:Nat->Prop} {ρ:br} {h h':ac} {d:Nat} {f z:AV} {zas:List AV} {ks:K} {uf:Value} {us:Array Value},d<1000->I.p w X->Rel w X ρ h->RV w (aF w X h ρ) ρ h f uf->us.size=zas.length->
  (∀ (i:Nat) (c:AV) (u:Value),zas[i]?=some c->us[i]?=some u->RV w (aF w X h ρ) ρ h c u)->bI call md h d zas f=some (z,h',ks)->
  ∃g first cap,uf=.func (.func g) first cap/\Enters P g (first++us++cap) w fun v w'=>Got w X ρ h w' h' ks z v
section
variable {P:Program} {w:World} {X:Nat→Prop} {ρ:br} {h:ac} {s:af} {a:Act} {call:ef} {md:Mode} {N:Nat} {ops:Array Oper} {Q:Exit→Act→World→Prop} {I:Inv}
structure Ok (I:Inv) (N:Nat) (w:World) (X:Nat->Prop) (ρ:br) (h:ac) (s:af) (a:Act):Prop where
 rel:Rel w X ρ h
 rs:RS w (aF w X h ρ) ρ h s a.tmps
 size:N<=a.tmps.size
 defers:a.defers=[]
 inv:I.p w X
theorem Ok.put{w':World}{ρ':br}{h':ac}{ks:K}{z:AV}{v:Value}(ok:Ok I N w X ρ h s a)(r:Rel w' X ρ' h')(e:Evo w ρ h w' ρ' h' ks)(hv:RV w' (aF w' X h' ρ') ρ' h' z v){d:Option Nat}(hd:d.getD 0<N):
  Ok I N w' X ρ' h' (dY (gJ ks s) d z) (a.put d v):=by
 have h1:=e.rs (X:=X) ok.rs;cases d with
 |none=>exact⟨r,h1,ok.size,ok.defers,e.inv ok.rel ok.inv⟩
 |some d=>exact⟨r,h1.upd (Nat.lt_of_lt_of_le hd ok.size) hv,by simpa [Act.put]using ok.size,ok.defers,e.inv ok.rel ok.inv⟩
theorem Wb{d:Nat}(hd:d<1000):aQ d=false:=by grind[aQ,decide_eq_false_iff_not]
theorem RZ(hcall:ji P I call md)(hN:N<=1000){o:Oper}{c:Call}{fo:Operand}{f:Opd}{zas:List Opd}(ho:o.op=.call c)(hfo:c.callee=.value fo)(h1:bG fo=some f)(h2:mu c.args.toList=some zas)
  (hd:o.dst.getD 0<N) (ok:Ok I N w X ρ h s a) {z:AV} {h':ac} {ks:K} (hz:bI call md h (o.dst.getD 0) (zas.map (ev s)) (ev s f)=some (z,h',ks))
  {K':Act->World->Prop} (fin:∀v w',Got w X ρ h w' h' ks z v->K' (a.put o.dst v) w'):o.wp P a w K' Q:=by
 obtain⟨l1,l2⟩:=rR ok.rs h2;obtain⟨g,first,cap,e1,e2⟩:=hcall (us:=c.args.map a.eval) (Nat.lt_of_lt_of_le hd hN) ok.inv ok.rel (aN h1 ok.rs) (by grind) (fun i c' u hc' hu=>by
  grind) hz
 have hrun:(execOp a.eval o).run P w=(callFunc g (first++c.args.map a.eval++cap)).run P w:=by
  grind[execOp,resolve,Deferred.ofValue,invoke,Sem.run_bind,Sem.run_pure,Result.andThen]
 unfold Oper.wp;rw[hrun];unfold Enters at e2;generalize(callFunc g (first++c.args.map a.eval++cap)).run P w=res at e2;cases res with
 |ok n w'=>
  cases n<;>simp only at e2
  case value v=>exact fin _ _ e2
  case enter g' args'=>
   show Calls P g' args' w' _;grind[Calls.mono]
  case row row args'=>exact Rows.mono e2 fin
 |halt x w'=>grind
theorem T5{d:Nat}{r z:R3}{w':World}{v:Value}(hg:Got w X ρ h w' r.2.1 r.2.2 r.1 v)(hz:sz d r=some z):Got w X ρ h w' z.2.1 z.2.2 z.1 v:=by
 obtain⟨x,h1,k1⟩:=r;unfold sz at hz;split at hz
 ·rename_i id k lo n he;split at hz
  ·simp only[Option.map_eq_some_iff]at hz;obtain⟨q,e1,rfl⟩:=hz;obtain⟨ρ',g1,g2,g3⟩:=hg;subst he;obtain⟨a,cap,rfl,_⟩:=g3.rsl_inv;obtain⟨f1,f2,f3⟩:=wP g1 g3 (fun _ hb=>hb) rfl e1;exact⟨ρ',f1,g2.trans f2,.dat f3.1⟩
  grind
 grind
theorem afn(hcall:ji P I call md)(hN:N<=1000){o:Oper}{hint aop:AOp}(hc:YD P hint o.op=some aop)(hd:o.dst.getD 0<N)(ok:Ok I N w X ρ h s a){z:AV}{h':ac}{ks:K}(hz:step call md (o.dst.getD 0) aop s h=some (z,h',ks))(hnm:mn md.nm ks=true)
  {K':Act->World->Prop} (hK:∀a' w' ρ',Ok I N w' X ρ' h' (dY (gJ ks s) o.dst z) a'->Far md.nm w ρ h w' ρ' h'->K' a' w'):o.wp P a w K' Q:=by
 have hdp:aQ (o.dst.getD 0)=false:=Wb (Nat.lt_of_lt_of_le hd hN);unfold YD at hc;cases halt:Nu P hint o.op with
 |some a0=>
  rw[halt]at hc;obtain rfl:=Option.some.inj hc;by_cases hcc:∃f zas,a0=.callC f zas
  ·obtain⟨f,zas,rfl⟩:=hcc;have hop:∃c fo,o.op=.call c/\c.callee=.value fo/\bG fo=some f/\mu c.args.toList=some zas:=by
    unfold Nu at halt;split at halt
    ·simp only[Option.bind_eq_some_iff]at halt;obtain⟨_,_,_,_,_,_,_,_,_,_,halt⟩:=halt;split at halt<;>cases halt
    ·rename_i c hop;split at halt
     ·rename_i fo hfo;simp only[Option.bind_eq_some_iff,Option.map_eq_some_iff]at halt;obtain⟨f',h1,l,h2,h3⟩:=halt;cases h3;exact⟨c,fo,hop,hfo,h1,h2⟩
     ·cases halt
    ·simp only[Option.bind_eq_some_iff]at halt;obtain⟨_,_,_,_,halt⟩:=halt;split at halt<;>cases halt
    ·cases halt
   obtain⟨c,fo,ho,hfo,h1,h2⟩:=hop;simp only[step,Option.bind_eq_some_iff]at hz;obtain⟨r,e1,e2⟩:=hz;exact RZ hcall hN ho hfo h1 h2 hd ok (z:=r.1) (h':=r.2.1) (ks:=r.2.2) e1 fun v w' hg=>by
    obtain⟨ρ',g1,g2,g3⟩:=T5 hg e2;exact hK _ _ ρ' (ok.put g1 g2 g3 hd) (g2.far hnm)
  obtain⟨⟨nx,v,w',g1,g2,ρ',g3,g4,g5⟩,_⟩:=Wa halt (fun f zas e=>hcc ⟨f,zas,e⟩) ok.rel ok.rs hdp hz o rfl;unfold Oper.wp;rw[g1];rcases g2 with rfl| ⟨rfl,rfl⟩
  ·exact hK _ _ ρ' (ok.put g3 g4 g5 hd) (g4.far hnm)
  ·exact hK _ _ ρ' (ok.put g3 g4 g5 hd) (g4.far hnm)
 |none=>
 rw[halt]at hc;simp only at hc
 replace hc:CT P o.op=some aop:=by
  simp only[cOp,Option.some.injEq]at hc;cases h0:CT P o.op with
  |none=>rw[h0]at hc;simp only[Option.getD_none]at hc;subst hc;cases hz
  |some q=>rw[h0]at hc;simp only[Option.getD_some]at hc;rw[hc]
 by_cases hcl:∃f zas,aop=.call f zas
 ·obtain⟨f,zas,rfl⟩:=hcl;have hop:∃c fo,o.op=.call c/\c.callee=.value fo/\bG fo=some f/\mu c.args.toList=some zas:=by
   cases ho:o.op<;>rw[ho]at hc<;>simp only[CT]at hc
   case call c=>
    unfold MR at hc;split at hc
    ·exfalso;unfold Bm at hc;split at hc
     ·obtain⟨p,hp⟩:=cI (fun _ h=>lF h) hc;cases hp
     ·obtain⟨p,hp⟩:=cI (fun _ h=>lF h) hc;cases hp
     ·obtain⟨p,hp⟩:=cI (fun _ h=>lF h) hc;cases hp
     ·obtain⟨p,hp⟩:=cI (fun _ h=>lF h) hc;cases hp
     ·unfold Tz at hc;split at hc
      ·split at hc
       ·simp only[MP,Option.bind_eq_some_iff]at hc;obtain⟨_,_,_,_,_,_,_,_,_,_,_,_,hc⟩:=hc;split at hc<;>cases hc
       ·simp only[Option.bind_eq_some_iff]at hc;obtain⟨_,_,_,_,_,_,_,_,_,_,_,_,hc⟩:=hc;split at hc<;>cases hc
      ·cases hc
     ·unfold MQ at hc;split at hc
      ·simp only[Option.bind_eq_some_iff]at hc;obtain⟨_,_,_,_,_,_,_,_,hc⟩:=hc;split at hc<;>cases hc
      ·cases hc
     ·unfold Hl at hc;split at hc
      ·simp only[Option.bind_eq_some_iff]at hc;obtain⟨_,_,_,_,_,_,_,_,hc⟩:=hc;split at hc<;>cases hc
      ·cases hc
     ·cases hc
    ·rename_i fo hfo;simp only[Option.bind_eq_some_iff,Option.map_eq_some_iff]at hc;obtain⟨f',h1,l,h2,h3⟩:=hc;cases h3;exact⟨c,fo,rfl,hfo,h1,h2⟩
    ·cases hc
   case makeFunc fn _ _=>
    cases fn
    ·obtain⟨p,hp⟩:=cI (fun _ h=>lF h) hc;cases hp
    all_goals cases hc
   case alloc=>simp[Option.map_eq_some_iff]at hc
   case box=>simp[Option.bind_eq_some_iff]at hc
   case buildSlice=>
    simp only[Eu,Option.bind_eq_some_iff]at hc;obtain⟨_,_,_,_,hc⟩:=hc;split at hc
    ·simp[Option.bind_eq_some_iff]at hc
    ·cases hc
   case makeSlice=>
    simp only[MO,Option.bind_eq_some_iff]at hc;obtain⟨_,_,_,_,_,_,_,_,_,_,hc⟩:=hc;split at hc
    ·simp at hc
    ·cases hc
   case load=>
    simp only[Option.bind_eq_some_iff]at hc;obtain⟨_,_,_,_,_,_,hc⟩:=hc;split at hc<;>cases hc
   case store=>simp[Option.bind_eq_some_iff]at hc
   all_goals first
    | (cases hc;done)
    | (obtain⟨p,hp⟩:=lF hc;cases hp;done)
    | (obtain⟨p,hp⟩:=cI (fun _ h=>lF h) hc;cases hp;done)
    | (obtain⟨p,hp⟩:=cI (fun _ h=>cI (fun _ h=>lF h) h) hc;cases hp;done)
    | (obtain⟨p,hp⟩:=cI (fun _ h=>cI (fun _ h=>cI (fun _ h=>lF h) h) h) hc;cases hp;done)
    | (obtain⟨p,hp⟩:=cI (fun _ h=>cI (fun _ h=>cI (fun _ h=>cI (fun _ h=>lF h) h) h) h) hc;cases hp;done)
    | (obtain⟨p,hp⟩:=cI (fun _ h=>cI (fun _ h=>cI (fun _ h=>ade h) h) h) hc;cases hp;done)
  obtain⟨c,fo,ho,hfo,h1,h2⟩:=hop;exact RZ hcall hN ho hfo h1 h2 hd ok hz fun v w' ⟨ρ',g1,g2,g3⟩=>hK _ _ ρ' (ok.put g1 g2 g3 hd) (g2.far hnm)
 ·obtain⟨nx,v,w',g1,g2,ρ',g3,g4,g5⟩:=YJ hc (fun f zas e=>hcl ⟨f,zas,e⟩) ok.rel ok.rs hdp hz o rfl;unfold Oper.wp;rw[g1];rcases g2 with rfl| ⟨rfl,rfl⟩
  ·exact hK _ _ ρ' (ok.put g3 g4 g5 hd) (g4.far hnm)
  ·exact hK _ _ ρ' (ok.put g3 g4 g5 hd) (g4.far hnm)
end
end Go.Ab
