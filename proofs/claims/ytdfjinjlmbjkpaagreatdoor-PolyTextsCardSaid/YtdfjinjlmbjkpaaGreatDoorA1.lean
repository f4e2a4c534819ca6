/-
  A law of polynomials' texts holds at every input that the statement speaks of, under the conditions that its card names. Part A1.
-/
import GoSem.Core.Code
import GoSem.Core.View
import GoSem.Core.Utf8
import Derived.Calls
import Derived.Laws.World
import Derived.Laws.Sem
import Derived.Below
import GoSem.Core.Program
import GoSem.Core.Region
import GoSem.Op.Equal
import Derived.Laws.Slices
import Derived.Laws.Entries
import Derived.Laws.StructEq
import Derived.Laws.Cells
import Derived.Laws.CopyRow
import Derived.Laws.AppendOwn
import Derived.Orders
import Derived.LoopN
open Nat renaming add_mul → ad8, le_refl → QK, le_trans → QU, lt_of_lt_of_le → aea, mul_comm → aeh, mul_le_mul_right → ad3, zero_add → QN
open Int renaming toNat_natCast → QT
open Bool renaming and_eq_true → QQ, false_eq_true → ad0
open List renaming all_eq_true → ad1, drop_eq_getElem_cons → ael, drop_eq_nil_of_le → aej, getElem?_eq_getElem → adW, getElem?_map → aeb, getElem?_of_mem → ad9, getElem_mem → aee, length_append → ad6, length_cons → adX, length_nil → adZ, mem_map → aec, mem_of_getElem? → QR, replicate → QI, take_of_length_le → aed
open Option renaming bind_eq_some_iff → QS, map_eq_some_iff → adV, map_some → ad5
set_option linter.all false
namespace Go.Ab
open Go
inductive AV where
 |any
 |und
 |v (x:Value)
 |emp
 |sl (k:Nat) (rows:List (List AV))
 |osl (k:Nat) (rows:List (List AV))
 |obx (cs:List AV)
 |agg (cs:List AV)
 |tup (vs:List AV)
 |ref (id:Nat) (sub:Option Nat) (k i j:Nat)
 |rsl (id:Nat) (sub:Option Nat) (k lo n:Nat)
 |rsc (id k lo n c:Nat)
 |ipt (cs:List AV)
 |fn (f:FuncId) (first cap:List AV)
 deriving Inhabited
abbrev I(n:Int):AV:=.v (.int .i64 n)
abbrev U(n:Int):AV:=.v (.int .u32 n)
abbrev W(n:Int):AV:=.v (.int .u64 n)
abbrev B(b:Bool):AV:=.v (.bool b)
abbrev S(x:ByteArray):AV:=.v (.string x)
inductive Ob where
 |dead
 |bx (cs:List AV)
 |ar (k:Nat) (rows:List (List AV))
 |fz (k:Nat) (rows:List (List AV))
 deriving Inhabited
abbrev ah:=Nat->AV
abbrev ac:=Nat->Ob
def upd{α:Type}(s:Nat->α)(d:Nat)(x:α):Nat->α:=fun i=>if i=d then x else s i
theorem QY{α}(s)(d)(x:α)(i):upd s d x i=if i=d then x else s i:=_root_.id rfl
structure St where
 s:ah
 h:ac
inductive Opd where
 |t (n:Nat)
 |c (a:AV)
inductive POp where
 |mv (x:Opd)
 |pick (c a b:Opd)
 |nilck (x:Opd)
 |nilq (neq:Bool) (x:Opd)
 |bin (op:BinOp) (x y:Opd)
 |un (op:UnOp) (x:Opd)
 |cv (k:IntKind) (x:Opd)
 |cv0 (x:Opd)
 |slc (k:Nat) (x:Opd) (lo hi mx:Option Opd)
 |slcS (x:Opd) (lo hi:Option Opd)
 |fadr (off:Nat) (x:Opd)
 |fld (off k:Nat) (agg:Bool) (x:Opd)
 |iadrS (k:Nat) (x i:Opd)
 |iadrA (n k:Nat) (x i:Opd)
 |idxS (x i:Opd)
 |idxA (n k:Nat) (agg:Bool) (x i:Opd)
 |ext (i:Nat) (x:Opd)
 |len (str:Bool) (x:Opd)
 |eqc (neq:Bool) (tc:Nat) (x y:Opd)
 |capp (x:Opd)
 |mnx (isMin:Bool) (x:Opd) (ys:List Opd)
 |build (zero:List AV) (parts:List (Nat×Nat×Opd))
 |mkF (f:FuncId) (first cap:List Opd)
inductive AOp where
 |p (op:POp)
 |alloc (zero:List AV)
 |box (k:Nat) (x:Opd)
 |buildSl (k:Nat) (zero:List AV) (n:Nat) (parts:List (Nat×Opd))
 |buildC (k:Nat) (zero:List AV) (n:Nat) (parts:List (Nat×Opd))
 |mkSl (k:Nat) (zero:List AV) (bytes:Nat) (l c:Opd)
 |load (k:Nat) (agg:Bool) (x:Opd)
 |store (k:Nat) (x y:Opd)
 |app (k bytes:Nat) (x y:Opd)
 |cpy (k:Nat) (x y:Opd)
 |slcM (k:Nat) (x:Opd) (lo hi:Option Opd)
 |clr (k:Nat) (zero:List AV) (x:Opd)
 |appz (k bytes:Nat) (zero:List AV) (x n:Opd)
 |take (x:Opd)
 |call (f:Opd) (args:List Opd)
 |callC (f:Opd) (args:List Opd)
 |bad
structure COp where
 d:Option Nat
 g:Option (Nat×Bool)
 op:AOp
inductive Cmd where
 |skip
 |ops (ks:List Nat) (l:List COp)
 |dops (ks:List Nat) (l:List COp) (ps:List (Nat×Nat))
 |seq (a b:Cmd)
 |cond (c:Opd) (a b:Cmd)
 |block (id:Nat) (ks:List Nat) (a:Cmd)
 |loop (ks hs:List Nat) (a:Cmd)
 |exit (id:Nat)
 |ret
 |frz (is:List Nat) (a:Cmd)
inductive Ex where
 |normal|exit (id:Nat)|ret
inductive Rv where
 |t (n:Nat)
 |cell (n k:Nat) (agg:Bool)
abbrev bQ:=FuncId->List AV->List Ob->Option (AV×List Ob)
def ev(s:ah):Opd->AV
 | .t n=>s n
 | .c a=>a
def evo(s:ah):Option Opd->Option AV
 |none=>none
 |some x=>some (ev s x)
def cX:AV->Option (List AV)
 | .agg cs=>some cs
 | .any| .und| .tup _| .osl _ _| .obx _=>none
 |a=>some [a]
def setRow(row:List AV)(j:Nat):List AV->List AV
 |[]=>row
 |c::cs=>setRow (row.set j c) (j+1) cs
def wR(c a b:AV):Option AV:=match c with
 | .v (.bool t)=>some (if t then a else b)
 |_=>none
def rC:AV->Option AV
 | .ref id sub k i j=>some (.ref id sub k i j)
 | .ipt cs=>some (.ipt cs)
 | .fn f a b=>some (.fn f a b)
 |_=>none
def jk(op:BinOp)(k:IntKind)(a b:Int):Option Value:=match op with
 | .add=>some (.int k (k.wrap (a+b)))
 | .sub=>some (.int k (k.wrap (a-b)))
 | .mul=>some (.int k (k.wrap (a*b)))
 | .quo=>if b=0 then none else some (.int k (k.wrap (a.tdiv b)))
 | .rem=>if b=0 then none else some (.int k (a.tmod b))
 | .and=>some (.int k (k.wrap ((BitVec.ofInt k.bits a&&&BitVec.ofInt k.bits b).toNat)))
 | .or=>some (.int k (k.wrap ((BitVec.ofInt k.bits a|||BitVec.ofInt k.bits b).toNat)))
 | .xor=>some (.int k (k.wrap ((BitVec.ofInt k.bits a^^^BitVec.ofInt k.bits b).toNat)))
 | .andNot=>some (.int k (k.wrap ((BitVec.ofInt k.bits a&&& ~~~BitVec.ofInt k.bits b).toNat)))
 | .lss=>some (.bool (decide (a<b)))
 | .leq=>some (.bool (decide (a<=b)))
 | .gtr=>some (.bool (decide (a>b)))
 | .geq=>some (.bool (decide (a≥b)))
 | .eql=>some (.bool (a==b))
 | .neq=>some (.bool (a !=b))
 |_=>none
def EW(k:IntKind)(a b:Int):Option Value:=if b<0 then none else some (.int k (k.wrap (a*2^ (min b.toNat k.bits))))
def EX(k:IntKind)(a b:Int):Option Value:=if b<0 then none else some (.int k (a.fdiv (2^ (min b.toNat k.bits))))
def JK(op:BinOp)(a b:ByteArray):Option Value:=match op with
 | .add=>if(a.size+b.size:Nat)>IntKind.i64.max then none else some (.string (a++b))
 | .eql=>some (.bool (a.toList==b.toList))
 | .neq=>some (.bool (!(a.toList==b.toList)))
 |_=>none
def fY(op:BinOp):Value->Value->Option Value
 | .int k a,.int k' b=>match op with
  | .shl=>EW k a b
  | .shr=>EX k a b
  |op=>if k=k' then jk op k a b else none
 | .string a,.string b=>JK op a b
 |_,_=>none
def bS(op:BinOp):AV->AV->Option AV
 | .v a,.v b=>(fY op a b).map .v
 |_,_=>none
def AP:List AV->Option (List Int)
 |[]=>some []
 | .v (.int .i64 z)::l=>(AP l).map (z::·)
 |_=>none
def CX(n:Bool)(tc:Nat):AV->AV->Option AV
 | .v (.bool a),.v (.bool b)=>if tc=0 then some (B (n != (a==b)))else none
 | .ref _ _ _ _ _,.v (.pointer none)=>if tc=1 then some (B n)else none
 | .v (.pointer none),.v (.pointer none)=>if tc=1 then some (B (!n))else none
 | .fn _ _ _,.v .nilFunc=>if tc=2 then some (B n)else none
 | .v .nilFunc,.v .nilFunc=>if tc=2 then some (B (!n))else none
 | .agg a,.agg b=>if 3<=tc/\a.length=tc-3/\b.length=tc-3 then(AP a).bind fun p=>(AP b).map fun q=>B (n != (p==q))else none
 |_,_=>none
def AQ(n:Bool):AV->Option AV
 | .sl _ (_::_)=>some (B n)
 | .rsl _ _ _ _ m=>if 0<m then some (B n)else none
 |_=>none
def Cf(op:UnOp):AV->Option AV
 | .v (.int k n)=>match op with
  | .neg=>some (.v (.int k (k.wrap (0-n))))
  | .xor=>some (.v (.int k (k.wrap ((BitVec.ofInt k.bits (if k.signed then-1 else k.max)^^^BitVec.ofInt k.bits n).toNat))))
  |_=>none
 | .v (.bool b)=>match op with
  | .not=>some (B (!b))
  |_=>none
 |_=>none
def EY(k:IntKind):AV->Option AV
 | .v (.int _ n)=>some (.v (.int k (k.wrap n)))
 |_=>none
def EZ:AV->Option AV
 | .v (.string x)=>some (.v (.string x))
 | .v (.int _ n)=>some (.v (.string (Utf8.encode n)))
 |_=>none
def jK(d:Nat)(n:Nat):Option AV->Option Nat
 |none=>some d
 |some (.v (.int _ i))=>if 0<=i/\i<=n then some i.toNat else none
 |_=>none
def jl(n:Nat)(lo hi mx:Option AV):Option (Nat×Nat):=
 match mx with
 |none=>(jK n n hi).bind fun h=>(jK 0 h lo).bind fun l=>some (l,h)
 |some m=>(jK n n (some m)).bind fun m=>match hi with
  |none=>none
  |some hi=>(jK n m (some hi)).bind fun h=>(jK 0 h lo).bind fun l=>some (l,h)
def Cg:Option AV->Bool
 |some (.v (.int _ 0))=>true
 |_=>false
def AR(k id l0 n c:Nat):Option AV->Option AV->Option AV->Option AV
 |none,some hi,none=>(jK n c (some hi)).map fun r=>.rsc id k l0 r c
 |some lo,hi,none=>(jl n (some lo) hi none).map fun p=>.rsl id none k (l0+p.1) (p.2-p.1)
 |_,_,_=>none
def gO(k:Nat)(x:AV)(lo hi mx:Option AV):Option AV:=match x with
 | .emp=>(jl 0 lo hi mx).map fun _=>.emp
 | .sl k' rows=>if k'=k then(jl rows.length lo hi mx).map fun p=>(if Cg mx then .emp else .sl k ((rows.drop p.1).take (p.2-p.1)))else none
 | .rsl id sub k' l0 n=>if k'=k then(jl n lo hi mx).map fun p=>(if mx.isNone then .rsl id sub k (l0+p.1) (p.2-p.1)else .any)else none
 | .rsc id k' l0 n c=>if k'=k then AR k id l0 n c lo hi mx else none
 |_=>none
def DV(x:AV)(lo hi:Option AV):Option AV:=match x with
 | .v (.string b)=>(jl b.size lo hi none).map fun p=>.v (.string (b.extract p.1 p.2))
 |_=>none
def qM(off:Nat):AV->Option AV
 | .ref id sub k i j=>some (.ref id sub k i (j+off))
 | .ipt cs=>some (.ipt (cs.drop off))
 |_=>none
def iZ(k:Nat)(agg:Bool)(cs:List AV)(off:Nat):Option AV:=
 if agg then(if off+k<=cs.length then some (.agg ((cs.drop off).take k))else none)else cs[off]?
def CY(off k:Nat)(agg:Bool):AV->Option AV
 | .agg cs=>iZ k agg cs off
 |_=>none
def ey(rows:List (List AV))(i:Int):Option AV:=if 0<=i then(rows[i.toNat]?).map .ipt else none
def kJ(k:Nat):AV->AV->Option AV
 | .sl k' rows,.v (.int _ i)=>if k'=k then ey rows i else none
 | .rsl id sub k' lo n,.v (.int _ i)=>if k'=k then(if 0<=i/\i<n then some (.ref id sub k (lo+i.toNat) 0)else none)else none
 |_,_=>none
def su(n k:Nat):AV->AV->Option AV
 | .ref id sub k' a j,.v (.int _ i)=>if 0<=i/\i<n then some (.ref id sub k' a (j+i.toNat*k))else none
 | .ipt cs,.v (.int _ i)=>if 0<=i/\i<n then some (.ipt (cs.drop (i.toNat*k)))else none
 |_,_=>none
def wS:AV->AV->Option AV
 | .v (.string b),.v (.int _ i)=>if 0<=i then(b[i.toNat]?).map fun x=>.v (.int .u8 x.toNat)else none
 |_,_=>none
def DW(n k:Nat)(agg:Bool):AV->AV->Option AV
 | .agg cs,.v (.int _ i)=>if 0<=i/\i<n then iZ k agg cs (i.toNat*k)else none
 |_,_=>none
def CZ(i:Nat):AV->Option AV
 | .tup vs=>vs[i]?
 |_=>none
def oB(str:Bool):AV->Option AV
 | .sl _ rows=>if str then none else some (I rows.length)
 | .emp=>if str then none else some (I 0)
 | .rsl _ _ _ _ n=>if str then none else some (I n)
 | .rsc _ _ _ n _=>if str then none else some (I n)
 | .v (.string b)=>if str then some (I b.size)else none
 |_=>none
def C0:AV->Option AV
 | .emp=>some (I 0)
 | .rsc _ _ _ _ c=>some (I c)
 |_=>none
def AS(isMin:Bool):AV->AV->Option AV
 | .v (.int k x),.v (.int _ y)=>some (.v (.int k (if isMin then(if y<x then y else x)else(if x<y then y else x))))
 |_,_=>none
def tu(isMin:Bool):AV->List AV->Option AV
 |a,[]=>some a
 |a,b::l=>(AS isMin a b).bind fun c=>tu isMin c l
def nE(zero:List AV):List (Nat×Nat×AV)->Option (List AV)
 |[]=>some zero
 | (off,k,a)::ps=>(cX a).bind fun cs=>if cs.length=k/\off+k<=zero.length then nE (setRow zero off cs) ps else none
def dw(s:ah):POp->Option AV
 | .mv x=>some (ev s x)
 | .pick c a b=>wR (ev s c) (ev s a) (ev s b)
 | .nilck x=>rC (ev s x)
 | .nilq n x=>AQ n (ev s x)
 | .bin op x y=>bS op (ev s x) (ev s y)
 | .un op x=>Cf op (ev s x)
 | .cv k x=>EY k (ev s x)
 | .cv0 x=>EZ (ev s x)
 | .slc k x lo hi mx=>gO k (ev s x) (evo s lo) (evo s hi) (evo s mx)
 | .slcS x lo hi=>DV (ev s x) (evo s lo) (evo s hi)
 | .fadr off x=>qM off (ev s x)
 | .fld off k g x=>CY off k g (ev s x)
 | .iadrS k x i=>kJ k (ev s x) (ev s i)
 | .iadrA n k x i=>su n k (ev s x) (ev s i)
 | .idxS x i=>wS (ev s x) (ev s i)
 | .idxA n k g x i=>DW n k g (ev s x) (ev s i)
 | .ext i x=>CZ i (ev s x)
 | .len m x=>oB m (ev s x)
 | .eqc m t x y=>CX m t (ev s x) (ev s y)
 | .capp x=>C0 (ev s x)
 | .mnx m x ys=>tu m (ev s x) (ys.map (ev s))
 | .build z ps=>(nE z (ps.map fun p=>(p.1,p.2.1,ev s p.2.2))).map .agg
 | .mkF f a b=>some (.fn f (a.map (ev s)) (b.map (ev s)))
def aq:AV->Bool
 | .any| .v _| .emp| .sl _ _=>true
 | .fn _ a b=>a.isEmpty&&b.isEmpty
 |_=>false
def dat:AV->Bool
 | .agg cs=>cs.all aq
 |a=>aq a
def iT(K:List (Nat×Bool))(id:Nat)(sub:Option Nat):Bool:=K.any fun p=>p.1==id&& (!p.2||sub.isSome)
def fw(K:List (Nat×Bool)):AV->Bool
 | .ref id sub _ _ _=>iT K id sub
 | .rsl id sub _ _ _=>iT K id sub
 | .rsc id _ _ _ _=>iT K id none
 | .fn _ a b=>!(a.isEmpty&&b.isEmpty)
 | .agg _| .tup _| .osl _ _| .obx _=>true
 |_=>false
def nc(K:List (Nat×Bool)):AV->Bool
 | .agg cs=>cs.any (fw K)
 | .fn _ a b=>a.any (fw K)||b.any (fw K)
 |a=>fw K a
def DX(K:List (Nat×Bool)):AV->Bool
 | .tup vs=>vs.any (nc K)
 |a=>nc K a
def jC(K:List (Nat×Bool))(a:AV):AV:=if DX K a then .any else a
def jn(K:List (Nat×Bool))(s:ah):ah:=match K with
 |[]=>s
 |K=>fun i=>jC K (s i)
inductive Sh where
 |o (k:Nat) (cs:List Sh)
 deriving Inhabited
mutual
def nrmL:Sh->AV->AV
 | .o 0 _,a=>a
 | .o (k+1) _,.emp=>.sl k []
 | .o (_+1) cs,.sl k' rows=>.sl k' (rows.map (aU cs))
 | .o (_+1) cs,.osl k' rows=>.sl k' (rows.map (aU cs))
 | .o (_+1) _,a=>a
def aU:List Sh->List AV->List AV
 |s::ss,a::l=>nrmL s a::aU ss l
 |_,l=>l
end
def nrmV(ss:List Sh):AV->AV
 | .agg cs=>.agg (aU ss cs)
 |a=>nrmL (ss.headD (.o 0 [])) a
def aG:List (List Sh)->List AV->List AV
 |s::ss,a::l=>nrmV s a::aG ss l
 |_,l=>l
structure FD where
 np:Nat
 rs:List (List Sh)
 res:List Rv
 body:Cmd
abbrev K:=List (Nat×Bool)
def bw(id:Nat):Bool:=decide (1000<=id/\id<2000)
abbrev R3:=AV×ac×K
def tv:AV->AV
 | .osl k r=>.sl k r
 |a=>a
def bT:AV->Bool
 | .osl _ _=>true
 |_=>false
def AT(c:AV):Bool:=bT c||aq c
def jo(k lo n:Nat)(rows:List (List AV)):AV:=.sl k ((rows.drop lo).take n)
def AU(cs:List AV):List (List AV):=cs.map fun c=>[tv c]
def jV(h:ac)(id k lo n:Nat):Ob->Option R3
 | .ar k' rows=>if k'=k/\lo+n<=rows.length then some (jo k lo n rows,upd h id (.fz k rows),[])else none
 | .fz k' rows=>if k'=k/\lo+n<=rows.length then some (jo k lo n rows,h,[])else none
 | .bx cs=>if k=1/\lo+n<=cs.length/\cs.all AT=true then some (jo 1 lo n (AU cs),upd h id (.fz 1 (AU cs)),[(id,true)])else none
 | .dead=>none
def JL(h:ac)(id p k lo n:Nat)(cs:List AV):Option AV->Option R3
 |some (.osl k' rows)=>if k'=k/\lo+n<=rows.length then some (jo k lo n rows,upd h id (.bx (cs.set p (.sl k' rows))),[(id,true)])else none
 |_=>none
def AW(h:ac)(id p k lo n:Nat):Ob->Option R3
 | .bx cs=>JL h id p k lo n cs cs[p]?
 |_=>none
def eJ(h:ac):AV->Option R3
 | .rsl id none k lo n=>jV h id k lo n (h id)
 | .rsl id (some p) k lo n=>AW h id p k lo n (h id)
 |a=>if aq a then some (a,h,[])else none
def gr(h:ac):List AV->Option (List AV×ac×K)
 |[]=>some ([],h,[])
 |a::l=>(eJ h a).bind fun p=>(gr p.2.1 l).bind fun q=>some (p.1::q.1,q.2.1,p.2.2++q.2.2)
def xk(h:ac):AV->Option R3
 | .agg cs=>(gr h cs).bind fun p=>some (.agg p.1,p.2)
 |a=>eJ h a
def sv:Ob->Option (Nat×List (List AV))
 | .ar k rows=>some (k,rows)
 | .fz k rows=>some (k,rows)
 |_=>none
def xp:Option AV->Option (Nat×List (List AV))
 |some (.osl k rows)=>some (k,rows)
 |_=>none
def lI(p:Nat):Ob->Option (Nat×List (List AV))
 | .bx cs=>xp cs[p]?
 |_=>none
def pM(h:ac)(id:Nat):Option Nat->Option (Nat×List (List AV))
 |none=>sv (h id)
 |some p=>lI p (h id)
def lw(id p:Nat):AV->AV
 | .osl k rows=>.rsl id (some p) k 0 rows.length
 |a=>a
def wT(h:ac)(id p k:Nat)(agg:Bool)(cs:List AV):Option R3:=
 if agg then
  (if p+k<=cs.length then
   (if((cs.drop p).take k).any bT then some (.agg (((cs.map tv).drop p).take k),upd h id (.bx (cs.map tv)),[(id,true)])
    else some (.agg ((cs.drop p).take k),h,[]))
   else none)
 else(cs[p]?).map fun c=>(lw id p c,h,[])
def lA(h:ac)(k:Nat)(agg:Bool)(k0 i j:Nat):Option (Nat×List (List AV))->Option R3
 |some (k',rows)=>if k'=k0 then(rows[i]?).bind fun row=>(iZ k agg row j).map fun a=>(a,h,[])else none
 |none=>none
def sx(h:ac)(k:Nat)(agg:Bool)(id k0 i j:Nat):Ob->Option R3
 | .bx cs=>wT h id (i*k0+j) k agg cs
 | .ar k' rows=>lA h k agg k0 i j (some (k',rows))
 | .fz k' rows=>lA h k agg k0 i j (some (k',rows))
 | .dead=>none
def hH(h:ac)(k:Nat)(agg:Bool):AV->Option R3
 | .ipt cs=>(iZ k agg cs 0).map fun a=>(a,h,[])
 | .ref id none k0 i j=>sx h k agg id k0 i j (h id)
 | .ref id (some p) k0 i j=>lA h k agg k0 i j (lI p (h id))
 |_=>none
def HT(h:ac)(id k lo n:Nat):Ob->Option R3
 | .ar k' rows=>if k'=k then(if lo=0/\n=rows.length then some (.osl k rows,upd h id .dead,[(id,false)])else if lo=0/\n<=rows.length then some (.osl k (rows.take n),upd h id .dead,[(id,false)])else jV h id k lo n (.ar k' rows))else none
 |o=>jV h id k lo n o
def OB(h:ac)(a:AV):Ob->Option R3
 | .bx _=>some (a,h,[])
 |_=>none
def HU(h:ac)(a:AV):Option R3:=match a with
 | .rsl id none k lo n=>HT h id k lo n (h id)
 | .rsl id (some p) k lo n=>AW h id p k lo n (h id)
 | .ref id none _ _ _=>OB h a (h id)
 | .fn _ x y=>if x.all aq&&y.all aq then some (a,h,[])else none
 |a=>if aq a then some (a,h,[])else none
def E3(h:ac)(id p:Nat)(x:AV)(ks:K):Ob->Option (ac×K)
 | .bx cs=>if p<cs.length then some (upd h id (.bx (cs.set p x)),ks++(if(cs[p]?).any bT then [(id,true)]else []))else none
 |_=>none
def DY(ks:K)(xs:List AV):List AV:=match ks with
 |[]=>xs
 |ks=>xs.map (jC ks)
def nF(h:ac)(id p:Nat):Nat->List AV->Option (ac×K)
 |_,[]=>some (h,[])
 |0,_=>none
 |n+1,x::xs=>(HU h x).bind fun r=>(E3 r.2.1 id p r.1 r.2.2 (r.2.1 id)).bind fun q=>(nF q.1 id (p+1) n (DY q.2 xs)).bind fun t=>some (t.1,q.2++t.2)
def tw(k k0 i j:Nat)(cs:List AV)(k':Nat)(rows:List (List AV)):Option (List (List AV)):=
 if k'=k0 then(rows[i]?).bind fun row=>if j+k<=row.length then some (rows.set i (setRow row j cs))else none else none
def JM(h:ac)(id p k k0 i j:Nat)(xs cs:List AV)(ks:K):Option AV->Option R3
 |some (.osl k' rows)=>(tw k k0 i j xs k' rows).map fun q=>(.und,upd h id (.bx (cs.set p (.osl k' q))),ks)
 |_=>none
def C1(h:ac)(id p k:Nat)(xs cs:List AV):Option R3:=
 if p+k<=cs.length then
  (if xs.all aq then some (.und,upd h id (.bx (setRow cs p xs)),if((cs.drop p).take k).any bT then [(id,true)]else [])
   else(nF h id p xs.length xs).map fun q=>(.und,q.1,q.2))
 else none
def C2(h:ac)(id k k0 i j:Nat)(xs:List AV)(ks:K):Ob->Option R3
 | .ar k' rows=>(tw k k0 i j xs k' rows).map fun q=>(.und,upd h id (.ar k' q),ks)
 |_=>none
def AX(h:ac)(k id k0 i j:Nat)(xs:List AV):Ob->Option R3
 | .bx cs=>C1 h id (i*k0+j) k xs cs
 | .ar _ _=>(gr h xs).bind fun q=>C2 q.2.1 id k k0 i j q.1 q.2.2 (q.2.1 id)
 |_=>none
def AY(h:ac)(k id p k0 i j:Nat)(xs:List AV)(ks:K):Ob->Option R3
 | .bx cs=>JM h id p k k0 i j xs cs ks cs[p]?
 |_=>none
def kK(h:ac)(k:Nat)(a x:AV):Option R3:=(cX x).bind fun xs=>
 if xs.length=k then match a with
  | .ref id none k0 i j=>AX h k id k0 i j xs (h id)
  | .ref id (some p) k0 i j=>(gr h xs).bind fun q=>AY q.2.1 k id p k0 i j q.1 q.2.2 (q.2.1 id)
  |_=>none
 else none
def xr(h:ac)(d:Nat)(a:AV)(o:Ob)(ks:K):Ob->Option R3
 | .dead=>some (a,upd h d o,ks)
 |_=>none
def gP(h:ac)(d:Nat)(cs:List AV)(ks:K):Option R3:=xr h d (.ref d none 0 0 0) (.bx cs) ks (h d)
def E4(id p:Nat)(xs:List AV)(r:R3):Option R3:=(nF r.2.1 id p xs.length xs).map fun q=>(r.1,q.1,r.2.2++q.2)
def rD(h:ac)(d:Nat)(k:Nat)(x:AV):Option R3:=(cX x).bind fun xs=>if xs.length=k then
 (if xs.all aq then gP h d xs []else(gP h d (QI k .any) []).bind (E4 d 0 xs))else none
def aT(h:ac)(d k:Nat)(rows:List (List AV))(n:Nat)(ks:K):Option R3:=xr h d (.rsl d none k 0 n) (.ar k rows) ks (h d)
def dq(k:Nat)(h:ac)(rows:List (List AV)):List (Nat×AV)->Option (List (List AV)×ac×K)
 |[]=>some (rows,h,[])
 | (i,a)::ps=>(cX a).bind fun cs=>if cs.length=k/\i<rows.length then(gr h cs).bind fun q=>(dq k q.2.1 (rows.set i q.1) ps).bind fun r=>some (r.1,r.2.1,q.2.2++r.2.2)else none
def sy(l c:AV):Option (Nat×Nat):=match l,c with
 | .v (.int .i64 l),.v (.int .i64 c)=>if 0<=l/\l<=c/\c<9223372036854775808 then some (l.toNat,c.toNat)else none
 |_,_=>none
def lJ(k lo n:Nat):Option (Nat×List (List AV))->Option (List (List AV))
 |some (k',rows)=>if k'=k/\lo+n<=rows.length then some ((rows.drop lo).take n)else none
 |none=>none
def kD(h:ac)(k:Nat):AV->Option (List (List AV))
 | .emp=>some []
 | .sl k' rows=>if k'=k then some rows else none
 | .rsl id sub k' lo n=>if k'=k then lJ k lo n (pM h id sub)else none
 |_=>none
def AZ(h:ac)(d k bytes id k' lo n:Nat)(ys:List (List AV))(k0:Nat)(rows:List (List AV)):Option R3:=
 if k0=k/\k'=k/\lo+n+ys.length<=rows.length then some (.rsl id none k lo (n+ys.length),upd h id (.ar k (rows.take (lo+n)++ys++rows.drop (lo+n+ys.length))),[])
 else if k0=k/\k'=k/\lo=0/\n=rows.length/\(n+ys.length)*bytes<=140737488355328 then aT (upd h id .dead) d k (rows++ys) (n+ys.length) [(id,false)]
 else none
def A6(h:ac)(d k bytes id k' lo n:Nat)(ys:List (List AV)):Ob->Option R3
 | .ar k0 rows=>if k0=k/\k'=k/\lo=0/\n=rows.length/\(id<1000\/2000<=id)/\(n+ys.length)*bytes<=140737488355328 then
   some (.rsl id none k 0 (n+ys.length),upd h id (.ar k (rows++ys)),[(id,false)])else AZ h d k bytes id k' lo n ys k0 rows
 |_=>none
def JN(h:ac)(d k bytes id p k' lo n:Nat)(ys:List (List AV))(cs:List AV):Option AV->Option R3
 |some (.osl k0 rows)=>if k0=k/\k'=k/\lo=0/\n=rows.length/\(n+ys.length)*bytes<=140737488355328 then
   aT (upd h id (.bx (cs.set p .any))) d k (rows++ys) (n+ys.length) [(id,true)]else none
 |_=>none
def E5(h:ac)(d k bytes id p k' lo n:Nat)(ys:List (List AV)):Ob->Option R3
 | .bx cs=>JN h d k bytes id p k' lo n ys cs cs[p]?
 |_=>none
def A7(h:ac)(d k:Nat):List (List AV)->Option R3
 |[]=>some (.emp,h,[])
 |y::ys=>aT h d k (y::ys) (ys.length+1) []
def A8(h:ac)(d k bytes:Nat)(x y:AV):Option R3:=(kD h k y).bind fun ys=>match x with
 | .emp=>if ys.length*bytes<=140737488355328 then A7 h d k ys else none
 | .rsl id none k' lo n=>A6 h d k bytes id k' lo n ys (h id)
 | .rsl id (some p) k' lo n=>E5 h d k bytes id p k' lo n ys (h id)
 |_=>none
def A9(m:Nat):AV->AV
 | .sl k rows=>.sl k (rows.take m)
 | .rsl id sub k lo n=>.rsl id sub k lo (min m n)
 |a=>a
def Ba:AV->Option Nat
 | .emp=>some 0
 | .sl _ rows=>some rows.length
 | .rsl _ _ _ _ n=>some n
 |_=>none
def Bb(h:ac)(id k k' lo n l:Nat)(ys:List (List AV)):Ob->Option R3
 | .ar k0 rows=>if k0=k/\k'=k/\lo<=rows.length/\ys.length=min l n then some (.v (.int .i64 ys.length),upd h id (.ar k (rows.take lo++ys++rows.drop (lo+ys.length))),[])else none
 |_=>none
def Bc(h:ac)(k:Nat)(x y:AV):Option R3:=match x with
 | .rsl id none k' lo n=>(Ba y).bind fun l=>(kD h k (A9 n y)).bind fun ys=>Bb h id k k' lo n l ys (h id)
 |_=>none
def wU(h:ac)(k id l0:Nat)(lo hi:Option AV):Ob->Option R3
 | .ar k0 rows=>if k0=k/\hi.isSome=true/\l0<=rows.length then(jl (rows.length-l0) lo hi none).map fun p=>(.rsl id none k (l0+p.1) (p.2-p.1),h,[])else none
 |_=>none
def wV(h:ac)(k:Nat)(x:AV)(lo hi:Option AV):Option R3:=match x with
 | .rsl id none k' l0 _=>if k'=k then wU h k id l0 lo hi (h id)else none
 |_=>none
def Be(h:ac)(k id lo n:Nat)(z:List AV):Ob->Option R3
 | .ar k0 rows=>if k0=k/\lo+n<=rows.length then some (.tup [],upd h id (.ar k (rows.take lo++QI n z++rows.drop (lo+n))),[])else none
 |_=>none
def Bg(h:ac)(k:Nat)(z:List AV)(x:AV):Option R3:=match x with
 | .rsl id none k' lo n=>if k'=k then Be h k id lo n z (h id)else none
 |_=>none
def wW(h:ac)(d k bytes _id i m:Nat)(z:List AV):Ob->Option R3
 | .ar k0 rows=>if k0=k/\i<=rows.length/\(i+m)*bytes<=140737488355328 then aT h d k (rows.take i++QI m z) (i+m) []else none
 |_=>none
def wX(h:ac)(d k bytes:Nat)(z:List AV)(x n:AV):Option R3:=match x,n with
 | .emp,.v (.int .i64 c)=>if 0<c/\c.toNat*bytes<=140737488355328 then aT h d k (QI c.toNat z) c.toNat []else none
 | .rsc id k' lo i c,.v (.int .i64 m)=>if k'=k/\lo=0/\0<m/\c<i+m.toNat then wW h d k bytes id i m.toNat z (h id)else none
 |_,_=>none
def wY(h:ac)(d id p:Nat)(cs:List AV):Option AV->Option R3
 |some (.osl k rows)=>aT (upd h id (.bx (cs.set p .any))) d k rows rows.length [(id,true)]
 |some .emp=>some (.emp,h,[])
 |_=>none
def Bh(h:ac)(d id p:Nat):Ob->Option R3
 | .bx cs=>wY h d id p cs cs[p]?
 |_=>none
def Bj(h:ac)(d:Nat)(x:AV):Option R3:=match x with
 | .ref id none k0 i j=>Bh h d id (i*k0+j) (h id)
 |_=>none
structure Mode where
 m:FuncId->List Nat
 sh:FuncId->List (List Sh)
 keep:FuncId->Bool
 nm:Bool
def C3:Ob->Bool
 | .ar _ _=>true
 |_=>false
def df(h:ac)(m:Nat)(a:AV):Option R3:=match a with
 | .rsl id none _ _ _=>if m=0 then eJ h a else if m=1||C3 (h id)then some (a,h,[])else none
 | .ref _ none _ _ _=>some (a,h,[])
 | .ipt _=>some (a,h,[])
 | .fn _ _ _=>some (a,h,[])
 |a=>xk h a
def bU(h:ac):List Nat->List AV->Option (List AV×ac×K)
 |_,[]=>some ([],h,[])
 |ms,a::l=>(df h (ms.headD 0) a).bind fun p=>(bU p.2.1 ms.tail l).bind fun q=>some (p.1::q.1,q.2.1,p.2.2++q.2.2)
def eM:AV->List Nat
 | .ref id _ _ _ _=>[id]
 | .rsl id _ _ _ _=>[id]
 |_=>[]
def bK:AV->List Nat
 | .agg cs=>cs.flatMap eM
 | .fn _ a b=>a.flatMap eM++b.flatMap eM
 |a=>eM a
def bV(l:List Nat):List Nat->List Nat
 |[]=>l
 |a::r=>bV (if l.contains a then l else l++[a]) r
def Bk:Ob->List Nat
 | .bx cs=>cs.flatMap bK
 |_=>[]
def fy(h:ac):Nat->List Nat->Nat->List Nat
 |0,l,_=>l
 |n+1,l,i=>match l[i]? with
  |none=>l
  |some a=>fy h n (bV l (Bk (h a))) (i+1)
def dh(l:List Nat)(a:Nat):Nat:=1000+l.idxOf a
def jL(g:Nat->Nat):AV->AV
 | .ref id sub k i j=>.ref (g id) sub k i j
 | .rsl id sub k i j=>.rsl (g id) sub k i j
 |a=>a
def ez(g:Nat->Nat):AV->AV
 | .agg cs=>.agg (cs.map (jL g))
 | .fn f a b=>.fn f (a.map (jL g)) (b.map (jL g))
 |a=>jL g a
def pN(g:Nat->Nat):AV->AV
 | .tup vs=>.tup (vs.map (ez g))
 |a=>ez g a
def jq(g:Nat->Nat):Ob->Ob
 | .bx cs=>.bx (cs.map (ez g))
 |o=>o
def bD(l:List Nat):AV->Bool
 | .ref id sub _ _ _=>l.contains id&&sub.isNone
 | .rsl id sub _ _ _=>l.contains id&&sub.isNone
 | .rsc _ _ _ _ _=>false
 | .fn _ a b=>a.isEmpty&&b.isEmpty
 | .agg _| .tup _| .osl _ _| .obx _=>false
 |_=>true
def cj(l:List Nat):AV->Bool
 | .agg cs=>cs.all (bD l)
 | .fn _ a b=>a.all (bD l)&&b.all (bD l)
 |a=>bD l a
def fW(l:List Nat)(c:AV):Bool:=bT c||cj l c
def bo(l:List Nat):Ob->Bool
 | .bx cs=>cs.all (fW l)
 |_=>true
def aO(hs:List Ob):ac:=fun i=>if 1000<=i then(hs[i-1000]?).getD .dead else .dead
def ge(n:Nat)(h:ac):AV->AV×ac
 | .osl k rows=>(.rsl n none k 0 rows.length,upd h n (.ar k rows))
 | .obx cs=>(.ref n none 0 0 0,upd h n (.bx cs))
 |a=>(a,h)
def ng(n:Nat)(h:ac):List AV->List AV×ac
 |[]=>([],h)
 |a::l=>((ge n h a).1::(ng (n+1) (ge n h a).2 l).1,(ng (n+1) (ge n h a).2 l).2)
def mat(n:Nat)(h:ac):AV->AV×ac
 | .tup vs=>(.tup (ng n h vs).1,(ng n h vs).2)
 |a=>ge n h a
def mK:List Nat->List AV->K
 |_,[]=>[]
 |ms,a::l=>(if ms.headD 0=2 then(eM a).map (·,false)else [])++mK ms.tail l
def mL(h:ac):K->ac
 |[]=>h
 |p::l=>mL (upd h p.1 .dead) l
def dY:Ob->Bool
 | .dead=>true
 |_=>false
def dZ(h:ac)(n:Nat):Nat->Bool
 |0=>true
 |m+1=>dY (h n)&&dZ h (n+1) m
def jt:AV->Nat
 | .tup vs=>vs.length
 |_=>1
def bf:Ob->Bool
 | .bx _=>true
 | .fz _ _=>true
 |_=>false
def jW(h:ac)(gv:K):List Nat->List Ob->Bool
 |a::l,o::r=>(!bf (h a)||bf o)&& (gv.any (·.1==a)||!dY o)&&jW h gv l r
 |_,_=>true
def oC(n:Nat):List Nat:=List.range' 1000 n
def tC(h:ac)(gv:K):Bool:=gv.all fun p=>!bf (h p.1)
def dL(l:List Nat):AV->Bool
 | .osl _ _=>true
 | .obx cs=>cs.all AT
 |c=>cj l c
def eC(l:List Nat):AV->Bool
 | .tup vs=>vs.all (dL l)
 |c=>dL l c
def dD(ids:List Nat)(i:Nat):Nat:=if i<2000 then ids.getD (i-1000) 0 else i
def mM(h:ac)(ids:List Nat):List Nat->List Ob->ac
 |a::l,o::r=>mM (upd h a (jq (dD ids) o)) ids l r
 |_,_=>h
def xt(ids:List Nat)(gv:K):List Nat:=match gv with
 |[]=>oC ids.length
 |gv=>(oC ids.length).filter fun i=>!gv.any fun p=>p.1==dD ids i
def qN(h:ac)(ids:List Nat)(gv:K)(r:AV×List Ob):Bool:=tC h gv&& (eC (xt ids gv) r.1&&r.2.all (bo (xt ids gv)))
def jX(kp:Bool)(h:ac)(d:Nat)(ids:List Nat)(ks gv:K)(r:AV×List Ob):Option R3:=
 if r.2.length=ids.length/\ids.length<=1000/\jt r.1<=8/\dZ h (2000+8*d) (jt r.1)=true/\jW h gv ids r.2=true/\qN h ids gv r=true then
  some (pN (dD ids) (mat (2000+8*d) (mL (mM h ids ids r.2) gv) r.1).1,(mat (2000+8*d) (mL (mM h ids ids r.2) gv) r.1).2,ks++((if kp then []else ids.map (·,true))++gv))
 else none
def lB(call:bQ)(md:Mode)(h:ac)(d:Nat)(f:FuncId)(ids:List Nat)(args:List AV)(ks:K):Option R3:=
 if args.all (cj ids)&& (ids.all fun a=>bo ids (h a)&&!dY (h a))then
  (call f (args.map (ez (dh ids))) (ids.map fun a=>jq (dh ids) (h a))).bind (jX (md.keep f) h d ids ks (mK (md.m f) args))
 else none
def eN(call:bQ)(md:Mode)(h:ac)(d:Nat)(args:List AV):AV->Option R3
 | .fn f a b=>(bU h (md.m f) (a++args++b)).bind fun p=>lB call md p.2.1 d f (fy p.2.1 40 (bV [] (p.1.flatMap bK)) 0) (aG (md.sh f) p.1) p.2.2
 |_=>none
def E6(h:ac):AV->Option AV
 | .rsl id sub k lo n=>(lJ k lo n (pM h id sub)).map (.sl k)
 | .v x=>some (.v x)
 | .emp=>some .emp
 | .sl k r=>some (.sl k r)
 | .fn f [] []=>some (.fn f [] [])
 |_=>none
def C4(h:ac):List AV->Option (List AV)
 |[]=>some []
 |a::l=>(E6 h a).bind fun b=>(C4 h l).bind fun q=>some (b::q)
def Ch:AV->Bool
 | .v _=>true
 |_=>false
def E7:AV->Bool
 | .tup vs=>vs.all Ch
 |a=>Ch a
def C5(h:ac):AV×List Ob->Option R3
 | (r,[])=>if E7 r=true then some (r,h,[])else none
 |_=>none
def Bl:AV->Bool
 | .rsl _ _ _ _ _=>false
 | .rsc _ _ _ _ _=>false
 |_=>true
def jY(md:Mode)(args:List AV):AV->Bool
 | .fn f a b=>(md.m f).contains 3&& (a++args++b).any fun x=>!Bl x
 |_=>false
def wZ(call:bQ)(md:Mode)(h:ac)(args:List AV):AV->Option R3
 | .fn f a b=>(C4 h (a++args++b)).bind fun zas=>(call f (aG (md.sh f) zas) []).bind (C5 h)
 |_=>none
def aM(call:bQ)(md:Mode)(h:ac)(d:Nat)(args:List AV)(f:AV):Option R3:=if jY md args f=true then wZ call md h args f else eN call md h d args f
def qO(d:Nat)(r:R3):Option R3:=match r.1 with
 | .rsl id none k lo n=>if id=2000+8*d then(eJ r.2.1 (.rsl id none k lo n)).map fun q=>(q.1,q.2.1,r.2.2++q.2.2)else none
 |_=>some r
def sz(r:R3):Option R3:=match r.1 with
 | .rsl id none k lo n=>(eJ r.2.1 (.rsl id none k lo n)).map fun q=>(q.1,q.2.1,r.2.2++q.2.2)
 |_=>none
def tD(h:ac)(x:Option AV):Option R3:=x.map fun a=>(a,h,[])
def step(call:bQ)(md:Mode)(d:Nat)(op:AOp)(s:ah)(h:ac):Option R3:=
 match op with
 | .p op=>tD h (dw s op)
 | .alloc z=>gP h d z []
 | .box k x=>rD h d k (ev s x)
 | .buildSl k z n ps=>(dq k h (QI n z) (ps.map fun p=>(p.1,ev s p.2))).bind fun q=>aT q.2.1 d k q.1 n q.2.2
 | .buildC k z n ps=>((dq k h (QI n z) (ps.map fun p=>(p.1,ev s p.2))).bind fun q=>aT q.2.1 d k q.1 n q.2.2).bind sz
 | .mkSl k z b l c=>(sy (ev s l) (ev s c)).bind fun p=>
  if p.2*b<=140737488355328 then aT h d k (QI p.1 z) p.1 []else none
 | .load k g x=>hH h k g (ev s x)
 | .store k x y=>kK h k (ev s x) (ev s y)
 | .app k b x y=>A8 h d k b (ev s x) (ev s y)
 | .cpy k x y=>Bc h k (ev s x) (ev s y)
 | .slcM k x lo hi=>wV h k (ev s x) (evo s lo) (evo s hi)
 | .clr k z x=>Bg h k z (ev s x)
 | .appz k b z x n=>wX h d k b z (ev s x) (ev s n)
 | .take x=>Bj h d (ev s x)
 | .call f args=>aM call md h d (args.map (ev s)) (ev s f)
 | .callC f args=>(aM call md h d (args.map (ev s)) (ev s f)).bind (qO d)
 | .bad=>none
def kU(s:ah)(d:Option Nat)(x:AV):ah:=match d with
 |some d=>upd s d x
 |none=>s
def ju(nm:Bool)(ks:K):Bool:=!nm||ks.all fun p=>!bw p.1
def aN(nm:Bool)(s:ah)(d:Option Nat)(r:Option R3):Option St:=match r with
 |some (x,h,ks)=>if ju nm ks then some ⟨kU (jn ks s) d x,h⟩else none
 |none=>none
def eP(d:Option Nat)(want:Bool)(st:Option St)(s:ah)(h:ac):AV->Option St
 | .v (.bool b)=>if b=want then st else some ⟨kU s d .und,h⟩
 | .und=>some ⟨kU s d .und,h⟩
 |_=>none
def mN(call:bQ)(md:Mode)(o:COp)(s:ah)(h:ac):Option St:=match o.g with
 |none=>aN md.nm s o.d (step call md (o.d.getD 0) o.op s h)
 |some g=>eP o.d g.2 (aN md.nm s o.d (step call md (o.d.getD 0) o.op s h)) s h (s g.1)
def ak{β:Type}(x:Option St)(f:ah->ac->Option β):Option β:=match x with
 |none=>none
 |some t=>f t.s t.h
def ae(call:bQ)(md:Mode):List COp->ah->ac->Option St
 |[],s,h=>some ⟨s,h⟩
 |o::rest,s,h=>ak (mN call md o s h) (ae call md rest)
def bL:Opd->List Nat
 | .t n=>[n]
 | .c _=>[]
def jd(l:List Opd):List Nat:=l.flatMap bL
def E8:POp->List Nat
 | .mv x| .nilck x| .nilq _ x| .un _ x| .cv _ x| .cv0 x| .fadr _ x| .fld _ _ _ x| .ext _ x| .len _ x| .capp x=>bL x
 | .pick c a b=>bL c++(bL a++bL b)
 | .bin _ x y| .eqc _ _ x y| .iadrS _ x y| .iadrA _ _ x y| .idxS x y| .idxA _ _ _ x y=>bL x++bL y
 | .mnx _ x ys=>bL x++jd ys
 | .slc _ x lo hi mx=>bL x++(jd lo.toList++(jd hi.toList++jd mx.toList))
 | .slcS x lo hi=>bL x++(jd lo.toList++jd hi.toList)
 | .build _ ps=>ps.flatMap fun p=>bL p.2.2
 | .mkF _ a b=>jd a++jd b
def E9:AOp->List Nat
 | .p op=>E8 op
 | .alloc _=>[]
 | .box _ x=>bL x
 | .buildSl _ _ _ ps=>ps.flatMap fun p=>bL p.2
 | .buildC _ _ _ ps=>ps.flatMap fun p=>bL p.2
 | .mkSl _ _ _ l c=>bL l++bL c
 | .load _ _ x=>bL x
 | .store _ x y=>bL x++bL y
 | .app _ _ x y=>bL x++bL y
 | .cpy _ x y=>bL x++bL y
 | .slcM _ x lo hi=>bL x++(jd lo.toList++jd hi.toList)
 | .clr _ _ x=>bL x
 | .appz _ _ _ x n=>bL x++bL n
 | .take x=>bL x
 | .call f args=>bL f++jd args
 | .callC f args=>bL f++jd args
 | .bad=>[]
def Ci(o:COp):List Nat:=(match o.g with|some g=>[g.1]|none=>[])++E9 o.op
def w9(a b:COp):Bool:=
 (match a.d with|some d=>!(Ci b).contains d|none=>true)&& (match b.d with|some d=>!(Ci a).contains d|none=>true)&&
 (match a.d,b.d with|some x,some y=>x !=y|_,_=>true)
abbrev Fp:=Option (List Nat×List Nat)
def ft(i:Nat):Nat:=if i<2000 then i else i-i%8
def sA:AV->Bool
 | .rsl _ _ _ _ _=>false
 | .rsc _ _ _ _ _=>false
 |_=>true
def DZ:AV->Bool
 | .agg cs=>cs.all sA
 | .fn _ a b=>a.all sA&&b.all sA
 |a=>sA a
def kL:AV->Fp
 | .ipt _=>some ([],[])
 | .ref id _ _ _ _=>some ([ft id],[])
 |_=>none
def xc(y:AV):AV->Fp
 | .ref id _ _ _ _=>if dat y then some ([ft id],[ft id])else none
 |_=>none
def Fa:Value->Value->Bool
 | .int k a,.int k' b=>decide (k=k')&&decide (a=b)
 | .bool a,.bool b=>a==b
 | .string a,.string b=>decide (a.data.toList=b.data.toList)
 | .pointer none,.pointer none=>true
 | .nilFunc,.nilFunc=>true
 |_,_=>false
mutual
def Fb:AV->AV->Bool
 | .any,.any=>true
 | .und,.und=>true
 | .emp,.emp=>true
 | .v a,.v b=>Fa a b
 | .sl k r,.sl k' r'=>decide (k=k')&&xu r r'
 | .osl k r,.osl k' r'=>decide (k=k')&&xu r r'
 | .obx c,.obx c'=>pO c c'
 | .agg c,.agg c'=>pO c c'
 | .ref a b c d e,.ref a' b' c' d' e'=>decide (a=a'/\b=b'/\c=c'/\d=d'/\e=e')
 | .rsl a b c d e,.rsl a' b' c' d' e'=>decide (a=a'/\b=b'/\c=c'/\d=d'/\e=e')
 | .ipt c,.ipt c'=>pO c c'
 | .fn f a b,.fn f' a' b'=>decide (f=f')&& (pO a a'&&pO b b')
 |_,_=>false
def pO:List AV->List AV->Bool
 |[],[]=>true
 |a::l,b::r=>Fb a b&&pO l r
 |_,_=>false
def xu:List (List AV)->List (List AV)->Bool
 |[],[]=>true
 |a::l,b::r=>pO a b&&xu l r
 |_,_=>false
end
def GD:Ob->Ob->Bool
 | .dead,.dead=>true
 | .bx c,.bx c'=>pO c c'
 | .ar k r,.ar k' r'=>decide (k=k')&&xu r r'
 | .fz k r,.fz k' r'=>decide (k=k')&&xu r r'
 |_,_=>false
def HV(h h':ac)(ids:List Nat):List Nat:=ids.filter fun a=>!GD (h a) (h' a)
def pP(h:ac)(d:Nat)(l:List AV)(h':ac):Fp:=
 if l.all dat then some ([],[2000+8*d])
 else if l.all DZ then some ((fy h 40 (bV [] (l.flatMap bK)) 0).map ft,(HV h h' (fy h 40 (bV [] (l.flatMap bK)) 0)).map ft++[2000+8*d])
 else none
def lW(l:List AV):AV->List AV
 | .fn _ a b=>a++l++b
 |_=>l
def xw(d:Nat)(_h:ac)(l:List AV):Fp:=if l.all dat then some ([],[2000+8*d])else none
def jZ(d:Nat)(op:AOp)(s:ah)(h h':ac):Fp:=match op with
 | .p _=>some ([],[])
 | .alloc _=>some ([],[ft d])
 | .box _ x=>if dat (ev s x)then some ([],[ft d])else none
 | .buildSl _ _ _ ps=>if ps.all fun p=>dat (ev s p.2)then some ([],[ft d])else none
 | .buildC _ _ _ ps=>if ps.all fun p=>dat (ev s p.2)then some ([],[ft d])else none
 | .mkSl _ _ _ _ _=>some ([],[ft d])
 | .load _ _ x=>kL (ev s x)
 | .store _ x y=>xc (ev s y) (ev s x)
 | .app _ _ _ _=>none
 | .cpy _ _ _=>none
 | .slcM _ _ _ _=>none
 | .clr _ _ _=>none
 | .appz _ _ _ _ _=>none
 | .take _=>none
 | .call f args=>pP h d (lW (args.map (ev s)) (ev s f)) h'
 | .callC f args=>xw d h (lW (args.map (ev s)) (ev s f))
 | .bad=>none
def pR(a b:List Nat):Bool:=a.all fun x=>!b.contains x
def j5:Fp->Fp->Bool
 |none,none=>false
 |none,some b=>b.1.isEmpty&&b.2.isEmpty
 |some a,none=>a.1.isEmpty&&a.2.isEmpty
 |some a,some b=>pR a.2 (b.1++b.2)&&pR b.2 a.1
def mO(s:ah)(d:Option Nat)(f:ac->Fp)(r:Option R3):Option (St×Fp):=match r with
 |some (x,h,[])=>some (⟨kU s d x,h⟩,f h)
 |_=>none
def oE(d:Option Nat)(want:Bool)(st:Option (St×Fp))(s:ah)(h:ac):AV->Option (St×Fp)
 | .v (.bool b)=>if b=want then st else some (⟨kU s d .und,h⟩,some ([],[]))
 | .und=>some (⟨kU s d .und,h⟩,some ([],[]))
 |_=>none
def je(call:bQ)(md:Mode)(o:COp)(s:ah)(h:ac):Option (St×Fp):=match o.g with
 |none=>mO s o.d (jZ (o.d.getD 0) o.op s h) (step call md (o.d.getD 0) o.op s h)
 |some g=>oE o.d g.2 (mO s o.d (jZ (o.d.getD 0) o.op s h) (step call md (o.d.getD 0) o.op s h)) s h (s g.1)
def iF(call:bQ)(md:Mode):List COp->ah->ac->Option (St×List Fp)
 |[],s,h=>some (⟨s,h⟩,[])
 |o::rest,s,h=>(je call md o s h).bind fun r=>(iF call md rest r.1.s r.1.h).bind fun q=>some (q.1,r.2::q.2)
def HW:AOp->Bool
 | .p _=>true
 |_=>false
def Cj:AOp->Bool
 | .load _ _ _=>true
 |_=>false
def lK(l:List Fp)(p:Nat×Nat):Bool:=match l[p.1]?,l[p.2]? with
 |some a,some b=>j5 a b
 |_,_=>false
def lX(call:bQ)(md:Mode)(l:List COp)(ps:List (Nat×Nat))(s:ah)(h:ac):Option St:=
 (iF call md l s h).bind fun r=>if ps.all (lK r.2)then some r.1 else none
def D0(i:Nat)(s:ah)(h:ac)(id p k lo n:Nat)(cs:List AV):Option AV->Option (ah×ac×K)
 |some (.osl k' rows)=>if k'=k/\lo=0/\n=rows.length/\dY (h i)=true then
   some (upd (jn [(id,true)] s) i (.rsl i none k 0 n),upd (upd h id (.bx (cs.set p .any))) i (.ar k rows),[(id,true)])else none
 |_=>none
def Fc(i:Nat)(s:ah)(h:ac)(id p k lo n:Nat):Ob->Option (ah×ac×K)
 | .bx cs=>D0 i s h id p k lo n cs cs[p]?
 |_=>none
def D3(i:Nat)(s:ah)(h:ac):AV->Option (ah×ac×K)
 | .rsl id (some p) k lo n=>if bw i=false then Fc i s h id p k lo n (h id)else none
 | .emp=>some (s,h,[])
 |_=>none
def sB(nm:Bool)(g:Nat)(s:ah)(h:ac):Option St:=match g with
 |0=>some ⟨s,h⟩
 |i+1=>(D3 i s h (s i)).bind fun r=>if ju nm r.2.2 then some ⟨r.1,r.2.1⟩else none
def qQ(call:bQ)(md:Mode)(l:List COp)(m g:Nat)(ps:List (Nat×Nat))(s:ah)(h:ac):Option St:=
 (iF call md (l.take m) s h).bind fun r=>if ps.all (lK r.2)then ak (sB md.nm g r.1.s r.1.h) (ae call md (l.drop m))else none
def lC:List (Nat×Nat)->Option (Nat×Nat)
 | (p,g)::_=>if 1000000<=p then some (p-1000000,g)else none
 |[]=>none
def ic(call:bQ)(md:Mode)(l:List COp)(ps:List (Nat×Nat))(s:ah)(h:ac):Option St:=match lC ps with
 |some q=>qQ call md l q.1 q.2 ps.tail s h
 |none=>lX call md l ps s h
def mk{α}(d:α)(f:Nat->α):List Nat->Nat->α
 |[]=>fun _=>d
 |i::l=>upd (mk d f l) i (f i)
def knownL(l:List Nat):AV->Bool
 | .ref id _ _ _ _=>l.contains id
 | .rsl id _ _ _ _=>l.contains id
 | .rsc _ _ _ _ _=>false
 | .fn _ a b=>a.isEmpty&&b.isEmpty
 | .agg _| .tup _| .osl _ _| .obx _=>false
 |_=>true
def knownA(l:List Nat):AV->Bool
 | .agg cs=>cs.all (knownL l)
 | .fn _ a b=>a.all (knownL l)&&b.all (knownL l)
 |a=>knownL l a
def eE(hs:List Nat)(a:AV):AV:=if knownA hs a then a else .any
def jv(body:ah->ac->Option (Ex×St))(ks hs:List Nat):Nat->ah->ac->Option (Ex×St)
 |0,_,_=>none
 |n+1,s,h=>if hs.all fun a=>bo hs (h a)then(match body (mk .any (fun i=>eE hs (s i)) ks) (mk .dead h hs)with
  |some (.normal,t)=>jv body ks hs n t.s t.h
  |r=>r)else none
def bF(x:Option (Ex×St))(f:ah->ac->Option (Ex×St)):Option (Ex×St):=match x with
 |none=>none
 |some (.normal,t)=>f t.s t.h
 |some (.exit i,t)=>some (.exit i,t)
 |some (.ret,t)=>some (.ret,t)
def Fd(i:Nat)(s:ah)(h:ac):AV->Option (ah×ac×K)
 | .rsl id sub k lo n=>(eJ h (.rsl id sub k lo n)).map fun r=>(upd (jn r.2.2 s) i r.1,r.2.1,r.2.2)
 | .ref id none _ _ _=>match h id with
  | .bx cs=>some (jn [(id,true)] s,upd h id (.bx (cs.map tv)),[(id,true)])
  |_=>none
 | .sl _ _=>some (s,h,[])
 |_=>none
def Bm(h:ac):AV->ac
 | .rsl id none _ lo n=>match h id with
  | .ar k rows=>upd h id (.ar k (rows.take (lo+n)))
  |_=>h
 |_=>h
def tE(i:Nat)(s:ah)(h:ac)(id k lo n:Nat):Ob->Option (ah×ac×K)
 | .ar k' rows=>if k'=k/\lo=0/\bw i=false/\dY (h i)=true then
   some (upd (jn [(id,false)] s) i (.rsl i none k 0 n),upd (upd h id .dead) i (.ar k rows),[(id,false)])else none
 |_=>none
def Bn(i:Nat)(s:ah)(h:ac):AV->Option (ah×ac×K)
 | .rsl id none k lo n=>tE i s h id k lo n (h id)
 | .rsc id k lo n _=>tE i s h id k lo n (h id)
 | .emp=>some (s,h,[])
 |_=>none
def lZ(nm:Bool):List Nat->ah->ac->Option St
 |[],s,h=>some ⟨s,h⟩
 |i::l,s,h=>if 200000<=i then(Bn (i-200000) s h (s (i-200000))).bind fun r=>if ju nm r.2.2 then lZ nm l r.1 r.2.1 else none else if 100000<=i then lZ nm l s (Bm h (s (i-100000)))else(Fd i s h (s i)).bind fun r=>if ju nm r.2.2 then lZ nm l r.1 r.2.1 else none
def aC(id:Nat)(ks:List Nat):Option (Ex×St)->Option (Ex×St)
 |none=>none
 |some (.normal,t)=>some (.normal,⟨mk .any t.s ks,t.h⟩)
 |some (.exit i,t)=>if i=id then some (.normal,⟨mk .any t.s ks,t.h⟩)else some (.exit i,t)
 |some (.ret,t)=>some (.ret,t)
def gu(a b:Option (Ex×St)):AV->Option (Ex×St)
 | .v (.bool t)=>if t then a else b
 |_=>none
def aA(call:bQ)(md:Mode)(lf:Nat):Cmd->ah->ac->Option (Ex×St)
 | .skip,s,h=>some (.normal,⟨s,h⟩)
 | .ops ks l,s,h=>ak (ae call md l s h) fun s h=>some (.normal,⟨mk .any s ks,h⟩)
 | .dops ks l ps,s,h=>ak (ic call md l ps s h) fun s h=>some (.normal,⟨mk .any s ks,h⟩)
 | .seq a b,s,h=>bF (aA call md lf a s h) (aA call md lf b)
 | .cond c a b,s,h=>gu (aA call md lf a s h) (aA call md lf b s h) (ev s c)
 | .block id ks a,s,h=>aC id ks (aA call md lf a s h)
 | .loop ks hs a,s,h=>jv (aA call md lf a) ks hs lf s h
 | .exit id,s,h=>some (.exit id,⟨s,h⟩)
 | .ret,s,h=>some (.ret,⟨s,h⟩)
 | .frz is a,s,h=>ak (lZ md.nm is s h) (aA call md lf a)
def pS(k lo n:Nat):Ob->Option AV
 | .ar k' rows=>if k'=k/\lo+n<=rows.length then(if lo=0/\n=rows.length then some (.osl k rows)else some (jo k lo n rows))else none
 | .fz k' rows=>if k'=k/\lo+n<=rows.length then some (jo k lo n rows)else none
 | .bx cs=>if k=1/\lo+n<=cs.length/\cs.all AT=true then some (jo 1 lo n (AU cs))else none
 | .dead=>none
def JO:Ob->Option AV
 | .bx cs=>if cs.all AT then some (.obx cs)else none
 |_=>none
def JP(k lo n:Nat):Option (Nat×List (List AV))->Option AV
 |some (k',rows)=>if k'=k/\lo+n<=rows.length then some (jo k lo n rows)else none
 |none=>none
def xx(h:ac)(a:AV):Option AV:=match a with
 | .rsl id none k lo n=>if bw id then none else pS k lo n (h id)
 | .rsl id (some p) k lo n=>if bw id then none else JP k lo n (lI p (h id))
 | .ref id none k i j=>if bw id then some a else if k=0/\i=0/\j=0 then JO (h id)else none
 |a=>if aq a then some a else none
def Bo:AV->Option AV
 | .osl k rows=>some (.sl k rows)
 |a=>if aq a then some a else none
def gw(h:ac):List AV->Option (List AV)
 |[]=>some []
 |a::l=>(xx h a).bind fun b=>(Bo b).bind fun c=>(gw h l).bind fun q=>some (c::q)
def oF(h:ac):AV->Option AV
 | .agg cs=>(gw h cs).map .agg
 |a=>xx h a
def mP(h:ac):List AV->Option (List AV)
 |[]=>some []
 |a::l=>(oF h a).bind fun b=>(mP h l).bind fun q=>some (b::q)
def kN:List Nat->Bool
 |[]=>true
 |a::l=>!l.contains a&&kN l
def oG:List AV->AV
 |[a]=>a
 |l=>.tup l
def Bp(ks:K)(a:AV):AV:=match ks with
 |[]=>a
 |ks=>jC ks a
def JQ(s:ah)(h:ac):Rv->Option R3
 | .t n=>some (s n,h,[])
 | .cell n k g=>hH h k g (s n)
def mQ(s:ah)(h:ac):List Rv->Option (List AV×ac×K)
 |[]=>some ([],h,[])
 |r::l=>(JQ s h r).bind fun p=>(mQ (jn p.2.2 s) p.2.1 l).bind fun q=>some (Bp q.2.2 p.1::q.1,q.2.1,p.2.2++q.2.2)
def pT(rs:List (List Sh))(n:Nat)(h:ac)(vs:List AV):Option (AV×List Ob):=
 if kN ((vs.flatMap bK).filter fun i=>!bw i)&& ((oC n).all fun i=>bo (oC n) (h i))then(mP h vs).map fun us=>(oG (aG rs us),(oC n).map h)else none
def pU(nm:Bool)(rs:List (List Sh))(res:List Rv)(n:Nat)(s:ah)(h:ac):Option (AV×List Ob):=(mQ s h res).bind fun q=>if ju nm q.2.2 then pT rs n q.2.1 q.1 else none
def oH(nm:Bool)(rs:List (List Sh))(res:List Rv)(n:Nat):Option (Ex×St)->Option (AV×List Ob)
 |some (.normal,t)=>pU nm rs res n t.s t.h
 |some (.ret,t)=>pU nm rs res n t.s t.h
 |_=>none
def oI(args:List AV):ah:=fun i=>(args[i]?).getD .any
def xz(call:bQ)(md:Mode)(lf:Nat)(fd:FD)(args:List AV)(hs:List Ob):Option (AV×List Ob):=
 if args.length=fd.np/\hs.length<=1000 then oH md.nm fd.rs fd.res hs.length (aA call md lf fd.body (oI args) (aO hs))else none
structure Env where
 E:FuncId->Option (List AV->List Ob->Option (AV×List Ob))
 C:FuncId->Option FD
 md:Mode
def gR(e:Env):Nat->bQ
 |0=>fun _ _ _=>none
 |n+1=>fun f args hs=>match e.E f with
  |some g=>g args hs
  |none=>(e.C f).bind fun fd=>xz (gR e n) {e.md with nm:=e.md.keep f} n fd args hs
theorem mR(a:Addr)(n):(a.add n).block=a.block:=by grind[Addr.add]
theorem UK{a:Addr}(n)(h:a.spot=none):(a.add n).spot=none:=by grind[Addr.add]
theorem SU(a:Addr)(i j):(a.add i).add j=a.add (i+j):=by
 grind[Addr.add,Nat.add_assoc]
theorem Ru(b o n):(Addr.mk b o none).add n=⟨b,o+n,none⟩:=by
 grind[Addr.add]
theorem lD{w w':World}{a}(h:w'.heap[a.block]?=w.heap[a.block]?):w'.cell? a=w.cell? a:=by
 simp[World.cell?,h]
theorem SR{w:World}{b o}{us}{e}{fr}(h:w.heap[b]?=some (.cells us e fr)):w.cell? ⟨b,o,none⟩=us[o]?:=by
 simp[World.cell?,h]
def Fe:Value->Bool
 | .bool _| .int _ _| .float _ _| .string _| .pointer none| .map none| .chan none| .nilFunc| .nilIface=>true
 |_=>false
theorem Tw{x}(h:Fe x=true):x.oneCell'=true:=by
 cases x<;>simp[Fe,Value.oneCell']at h⊢
inductive RD (w:World) (A:Nat->Prop):AV->Value->Prop
 |any (u:Value) (h:u.oneCell'=true):RD w A .any u
 |v (x:Value) (h:Fe x=true):RD w A (.v x) x
 |emp (a:Option Addr):RD w A .emp (.slice a 0 0)
 |sl (k:Nat) (rows:List (List AV)) (a:Option Addr) (cap:Nat) (ad:Addr) (vals:Nat->Nat->Value) (hc:rows.length<=cap)
   (ha:rows≠[]->a=some ad/\A ad.block/\ad.spot=none) (hk:∀row∈rows,row.length=k)
   (hv:∀ (i:Nat) (row:List AV) (j:Nat) (c:AV),rows[i]?=some row->row[j]?=some c->w.cell? (ad.add (i*k+j))=some (vals i j))
   (hl:∀row∈rows,∀c∈row,aq c=true) (hr:∀ (i:Nat) (row:List AV) (j:Nat) (c:AV),rows[i]?=some row->row[j]?=some c->RD w A c (vals i j)):RD w A (.sl k rows) (.slice a rows.length cap)
 |agg (cs:List AV) (us:Array Value) (hs:us.size=cs.length) (h1:∀ (i:Nat) (u:Value),us[i]?=some u->u.oneCell'=true)
   (hr:∀ (i:Nat) (c:AV) (u:Value),cs[i]?=some c->us[i]?=some u->RD w A c u):RD w A (.agg cs) (.agg us)
 |fn (f:FuncId):RD w A (.fn f [] []) (.func (.func f) #[] #[])
abbrev bg:=Nat->Option Nat->Nat×Nat
def live(h:ac)(id:Nat):Option Nat->Prop
 |none=>match h id with| .bx _| .ar _ _=>True|_=>False
 |some p=>∃cs k rows,h id=.bx cs/\cs[p]?=some (.osl k rows)
def eA(h:ac)(id:Nat):Option Nat->Prop
 |none=>h id≠ .dead
 |some p=>live h id (some p)
def uO(h:ac)(ρ:bg)(b:Nat):Prop:=∃id sub,live h id sub/\(ρ id sub).1=b
def l6(w:World)(X:Nat->Prop)(h:ac)(ρ:bg)(b:Nat):Prop:=b<w.heap.size/\¬X b/\¬uO h ρ b
theorem Ck{h}{id}{sub}(hl:live h id sub):eA h id sub:=by
 cases sub with
 |none=>intro e;grind[live]
 |some p=>exact hl
inductive RV (w:World) (A:Nat->Prop) (ρ:bg) (h:ac):AV->Value->Prop
 |anyv (u:Value):RV w A ρ h .any u
 |und:RV w A ρ h .und undef
 |dat {c:AV} {u:Value} (hd:RD w A c u):RV w A ρ h c u
 |ref (id:Nat) (sub:Option Nat) (k i j:Nat) (hp:eA h id sub):RV w A ρ h (.ref id sub k i j) (.pointer (some ⟨(ρ id sub).1,i*k+j,none⟩))
 |rsl (id:Nat) (sub:Option Nat) (k lo n cap:Nat) (a:Option Addr) (hp:eA h id sub) (hn:n<=cap) (hb:(lo+cap)*k=(ρ id sub).2)
   (ha:cap=0\/a=some ⟨(ρ id sub).1,lo*k,none⟩):RV w A ρ h (.rsl id sub k lo n) (.slice a n cap)
 |rsc (id k lo n cap:Nat) (a:Option Addr) (hp:eA h id none) (hn:n<=cap) (hb:(lo+cap)*k=(ρ id none).2)
   (ha:cap=0\/a=some ⟨(ρ id none).1,lo*k,none⟩):RV w A ρ h (.rsc id k lo n cap) (.slice a n cap)
 |ipt (cs:List AV) (ad:Addr) (vals:Nat->Value) (hA:A ad.block) (hs:ad.spot=none) (hv:∀ (j:Nat) (c:AV),cs[j]?=some c->w.cell? (ad.add j)=some (vals j))
   (hl:∀c∈cs,aq c=true) (hr:∀ (j:Nat) (c:AV),cs[j]?=some c->RD w A c (vals j)):RV w A ρ h (.ipt cs) (.pointer (some ad))
 |agg (cs:List AV) (us:Array Value) (hs:us.size=cs.length) (h1:∀ (i:Nat) (u:Value),us[i]?=some u->u.oneCell'=true)
   (hr:∀ (i:Nat) (c:AV) (u:Value),cs[i]?=some c->us[i]?=some u->RV w A ρ h c u):RV w A ρ h (.agg cs) (.agg us)
 |tup (vs:List AV) (us:Array Value) (hs:us.size=vs.length) (hr:∀ (i:Nat) (c:AV) (u:Value),vs[i]?=some c->us[i]?=some u->RV w A ρ h c u):RV w A ρ h (.tup vs) (.tuple us)
 |fn (f:FuncId) (x y:List AV) (us ts:Array Value) (hs:us.size=x.length) (ht:ts.size=y.length) (hx:∀ (i:Nat) (c:AV) (u:Value),x[i]?=some c->us[i]?=some u->RV w A ρ h c u)
   (hy:∀ (i:Nat) (c:AV) (u:Value),y[i]?=some c->ts[i]?=some u->RV w A ρ h c u):RV w A ρ h (.fn f x y) (.func (.func f) us ts)
def qR(w:World)(A:Nat->Prop)(k:Nat)(rows:List (List AV))(us:Array Value):Prop:=
 ∀i row,rows[i]?=some row->row.length=k/\∀j c,row[j]?=some c->∃u,us[i*k+j]?=some u/\RD w A c u/\aq c=true
def pW(h:ac):AV->Prop
 | .any| .v _| .emp| .sl _ _=>True
 | .ref id none _ _ _=>bf (h id)=true
 | .fn _ x y=>(x.all aq&&y.all aq)=true
 |_=>False
def RC(w:World)(A:Nat->Prop)(ρ:bg)(h:ac)(id p:Nat)(c:AV)(u:Value):Prop:=
 match c with
 | .osl k rows=>∃a cap us e,u=.slice a rows.length cap/\(cap=0\/a=some ⟨(ρ id (some p)).1,0,none⟩)/\rows.length<=cap/\
   w.heap[(ρ id (some p)).1]?=some (.cells us e (0,0))/\us.size=(ρ id (some p)).2/\cap*k=us.size/\qR w A k rows us
 |c=>RV w A ρ h c u/\u.oneCell'=true/\pW h c
def RO(w:World)(A:Nat->Prop)(ρ:bg)(h:ac)(id:Nat):Ob->Prop
 | .dead=>True
 | .bx cs=>∃us e,w.heap[(ρ id none).1]?=some (.cells us e (0,0))/\us.size=(ρ id none).2/\cs.length<=us.size/\∀p c,cs[p]?=some c->∃u,us[p]?=some u/\RC w A ρ h id p c u
 | .ar k rows=>∃us e,w.heap[(ρ id none).1]?=some (.cells us e (0,0))/\us.size=(ρ id none).2/\rows.length*k<=us.size/\qR w A k rows us
 | .fz k rows=>A (ρ id none).1/\∃us e fr,w.heap[(ρ id none).1]?=some (.cells us e fr)/\us.size=(ρ id none).2/\rows.length*k<=us.size/\qR w A k rows us
def XZ(X:Nat->Prop)(b:Nat):Prop:=X b\/b<3
structure Rel (w:World) (X:Nat->Prop) (ρ:bg) (h:ac):Prop where
 inj:∀id sub id' sub',live h id sub->live h id' sub'->(ρ id sub).1=(ρ id' sub').1->id=id'/\sub=sub'
 nx:∀id sub,live h id sub->¬XZ X (ρ id sub).1
 ob:∀id,RO w (l6 w X h ρ) ρ h id (h id)
 xl:∀b,XZ X b->b<w.heap.size
structure Evo (w:World) (ρ:bg) (h:ac) (w':World) (ρ':bg) (h':ac) (ks:K):Prop where
 os:w'.os=w.os
 tape:w'.tape=w.tape
 output:w'.output=w.output
 size:w.heap.size<=w'.heap.size
 old:∀b,b<w.heap.size->¬uO h ρ b->w'.heap[b]?=w.heap[b]?
 keep:∀id sub,eA h id sub->iT ks id sub=false->eA h' id sub/\ρ' id sub=ρ id sub
 fresh:∀b,uO h' ρ' b->uO h ρ b\/w.heap.size<=b
 boxes:∀id,bf (h id)=true->bf (h' id)=true/\ρ' id none=ρ id none
 stay:∀id,bw id=true->h' id≠ .dead->h id≠ .dead/\ρ' id none=ρ id none
theorem Evo.refl(w)(ρ)(h):Evo w ρ h w ρ h []:=⟨rfl,rfl,rfl,QK _,fun _ _ _=>rfl,fun _ _ hp _=>⟨hp,rfl⟩,fun _ ho=>.inl ho,fun _ hb=>⟨hb,rfl⟩,fun _ _ hd=>⟨hd,rfl⟩⟩
theorem Bq(a b:K)(id)(sub):iT (a++b) id sub=(iT a id sub||iT b id sub):=by simp[iT]
theorem Evo.trans{w w' w''}{ρ ρ' ρ''}{h h' h''}{ks ks'}(a:Evo w ρ h w' ρ' h' ks)(b:Evo w' ρ' h' w'' ρ'' h'' ks'):Evo w ρ h w'' ρ'' h'' (ks++ks'):=
 ⟨b.os.trans a.os,b.tape.trans a.tape,b.output.trans a.output,QU a.size b.size,
  fun x hx ho=>(b.old x (aea hx a.size) (fun o=>by rcases a.fresh x o with o|o;all_goals grind)).trans (a.old x hx ho),
  fun id sub hp hk=>by
   rw[Bq,Bool.or_eq_false_iff]at hk;obtain⟨h1,h2⟩:=a.keep id sub hp hk.1;obtain⟨h3,h4⟩:=b.keep id sub h1 hk.2;grind,
  fun x o=>by
   rcases b.fresh x o with o|o
   ·exact a.fresh x o
   ·exact .inr (QU a.size o),
  fun id hb=>by
   obtain⟨h1,h2⟩:=a.boxes id hb;obtain⟨h3,h4⟩:=b.boxes id h1;grind,
  fun id hp hd=>by
   obtain⟨h1,h2⟩:=b.stay id hp hd;obtain⟨h3,h4⟩:=a.stay id hp h1;grind⟩
theorem Evo.al{w w'}{X}{ρ ρ'}{h h'}{ks}(e:Evo w ρ h w' ρ' h' ks){b}(hb:l6 w X h ρ b):l6 w' X h' ρ' b/\w'.heap[b]?=w.heap[b]?:=
 ⟨⟨aea hb.1 e.size,hb.2.1,fun o=>by rcases e.fresh b o with o|o;exact hb.2.2 o;have:=hb.1;omega⟩,e.old b hb.1 hb.2.2⟩
section
variable {w w':World} {A A':Nat→Prop}
theorem RD.mono{c}{u}(h:RD w A c u)(hA:∀b,A b->A' b/\w'.heap[b]?=w.heap[b]?):RD w' A' c u:=by
 induction h with
 |any u h=>exact .any u h
 |v x h=>exact .v x h
 |emp a=>exact .emp a
 |sl k rows a cap ad vals hc ha hk hv hl hr ih=>
  refine .sl k rows a cap ad vals hc (fun hne=>⟨(ha hne).1,(hA _ (ha hne).2.1).1,(ha hne).2.2⟩) hk (fun i row j c h1 h2=>?_) hl ih;rw[lD (w:=w) (w':=w') (by rw[mR];grind)];grind
 |agg cs us hs h1 hr ih=>exact .agg cs us hs h1 ih
 |fn f=>exact .fn f
theorem qR.mono{k}{rows}{us}(h:qR w A k rows us)(hA:∀b,A b->A' b/\w'.heap[b]?=w.heap[b]?):qR w' A' k rows us:=
 fun i row hi=>⟨(h i row hi).1,fun j c hc=>by obtain⟨u,h1,h2,h3⟩:=(h i row hi).2 j c hc;exact⟨u,h1,h2.mono hA,h3⟩⟩
end
theorem RD.one{w}{A}{c}{u}(h:RD w A c u)(hd:aq c=true):u.oneCell'=true:=by
 cases h with
 |any u h=>omega
 |v x h=>exact Tw h
 |emp a=>rfl
 |sl=>rfl
 |agg=>simp[aq]at hd
 |fn=>rfl
section
variable {w w':World} {A A':Nat→Prop} {ρ ρ':bg} {h h':ac}
theorem RV.keep{c}{u}(hv:RV w A ρ h c u)(hA:∀b,A b->A' b/\w'.heap[b]?=w.heap[b]?)(hk:∀id sub,eA h id sub->eA h' id sub/\ρ' id sub=ρ id sub):RV w' A' ρ' h' c u:=by
 induction hv with
 |anyv u=>exact .anyv u
 |und=>exact .und
 |dat hd=>exact .dat (hd.mono hA)
 |ref id sub k i j hp=>rw[← (hk id sub hp).2];exact .ref id sub k i j (hk id sub hp).1
 |rsl id sub k lo n cap a hp hn hb ha=>
  obtain⟨h1,h2⟩:=hk id sub hp;exact .rsl id sub k lo n cap a h1 hn (by grind) (by grind)
 |rsc id k lo n cap a hp hn hb ha=>
  obtain⟨h1,h2⟩:=hk id none hp;exact .rsc id k lo n cap a h1 hn (by grind) (by grind)
 |ipt cs ad vals hA' hs hv hl hr=>
  exact .ipt cs ad vals (hA _ hA').1 hs (fun j c hc=>by rw[lD (w:=w) (w':=w') (by rw[mR];grind)];grind) hl (fun j c hc=>(hr j c hc).mono hA)
 |agg cs us hs h1 hr ih=>exact .agg cs us hs h1 ih
 |tup vs us hs hr ih=>exact .tup vs us hs ih
 |fn f x y us ts hs ht hx hy ihx ihy=>exact .fn f x y us ts hs ht ihx ihy
theorem RV.keepL{ks:K}{c}{u}(hv:RV w A ρ h c u)(hA:∀b,A b->A' b/\w'.heap[b]?=w.heap[b]?)(hk:∀id sub,eA h id sub->iT ks id sub=false->eA h' id sub/\ρ' id sub=ρ id sub)(hm:fw ks c=false):RV w' A' ρ' h' c u:=by
 cases hv with
 |anyv u=>exact .anyv u
 |und=>exact .und
 |dat hd=>exact .dat (hd.mono hA)
 |ref id sub k i j hp=>
  obtain⟨h1,h2⟩:=hk id sub hp (by simpa [fw]using hm);rw[←h2];exact .ref id sub k i j h1
 |rsl id sub k lo n cap a hp hn hb ha=>
  obtain⟨h1,h2⟩:=hk id sub hp (by simpa [fw]using hm);exact .rsl id sub k lo n cap a h1 hn (by grind) (by grind)
 |rsc id k lo n cap a hp hn hb ha=>
  obtain⟨h1,h2⟩:=hk id none hp (by simpa [fw]using hm);exact .rsc id k lo n cap a h1 hn (by grind) (by grind)
 |ipt cs ad vals hA' hs hv hl hr=>
  exact .ipt cs ad vals (hA _ hA').1 hs (fun j c hc=>by rw[lD (w:=w) (w':=w') (by rw[mR];grind)];grind) hl (fun j c hc=>(hr j c hc).mono hA)
 |agg cs us hs h1 hr=>simp[fw]at hm
 |tup vs us hs hr=>simp[fw]at hm
 |fn f x y us ts hs ht hx hy=>
  simp[fw]at hm;obtain⟨rfl,rfl⟩:=hm;exact .fn f [] [] us ts hs ht (fun i c u hc=>by grind) (fun i c u hc=>by grind)
theorem RV.keep1{ks:K}{c}{u}(hv:RV w A ρ h c u)(hA:∀b,A b->A' b/\w'.heap[b]?=w.heap[b]?)(hk:∀id sub,eA h id sub->iT ks id sub=false->eA h' id sub/\ρ' id sub=ρ id sub)(hm:nc ks c=false):RV w' A' ρ' h' c u:=by
 cases c with
 |agg cs=>
  simp[nc]at hm;cases hv with
  |dat hd=>exact .dat (hd.mono hA)
  |agg _ us hs h1 hr=>exact .agg cs us hs h1 fun i c u hc hu=>(hr i c u hc hu).keepL hA hk (hm c (QR hc))
 |fn f x y=>
  simp[nc]at hm;cases hv with
  |dat hd=>exact .dat (hd.mono hA)
  |fn _ _ _ us ts hs ht hx hy=>exact .fn f x y us ts hs ht (fun i c u hc hu=>(hx i c u hc hu).keepL hA hk (hm.1 c (QR hc))) (fun i c u hc hu=>(hy i c u hc hu).keepL hA hk (hm.2 c (QR hc)))
 |_=>exact hv.keepL hA hk (by simpa [nc]using hm)
theorem RV.keep2{ks:K}{c}{u}(hv:RV w A ρ h c u)(hA:∀b,A b->A' b/\w'.heap[b]?=w.heap[b]?)(hk:∀id sub,eA h id sub->iT ks id sub=false->eA h' id sub/\ρ' id sub=ρ id sub)(hm:DX ks c=false):RV w' A' ρ' h' c u:=by
 cases c with
 |tup vs=>
  simp[DX]at hm;cases hv with
  |dat hd=>cases hd
  |tup _ us hs hr=>exact .tup vs us hs fun i c u hc hu=>(hr i c u hc hu).keep1 hA hk (hm c (QR hc))
 |_=>exact hv.keep1 hA hk (by simpa [DX]using hm)
end
def RS(w:World)(A:Nat->Prop)(ρ:bg)(h:ac)(s:ah)(tm:Array Value):Prop:=∀i,RV w A ρ h (s i) (tm.getD i undef)
section
variable {w w':World} {X:Nat→Prop} {ρ ρ':bg} {h h':ac} {ks:K}
theorem Evo.rs(e:Evo w ρ h w' ρ' h' ks){s}{tm}(hs:RS w (l6 w X h ρ) ρ h s tm):RS w' (l6 w' X h' ρ') ρ' h' (jn ks s) tm:=by
 intro i;cases ks with
 |nil=>exact(hs i).keep (fun b hb=>e.al hb) (fun id sub hp=>e.keep id sub hp rfl)
 |cons p l=>
  show RV _ _ _ _ (jC (p::l) (s i)) _;unfold jC;split
  ·exact .anyv _
  ·exact(hs i).keep2 (fun b hb=>e.al hb) (fun id sub hp hk=>e.keep id sub hp hk) (by grind)
theorem Evo.rv(e:Evo w ρ h w' ρ' h' []){c}{u}(hv:RV w (l6 w X h ρ) ρ h c u):RV w' (l6 w' X h' ρ') ρ' h' c u:=
 hv.keep (fun _ hb=>e.al hb) (fun id sub hp=>e.keep id sub hp rfl)
theorem Evo.rd(e:Evo w ρ h w' ρ' h' ks){c}{u}(hd:RD w (l6 w X h ρ) c u):RD w' (l6 w' X h' ρ') c u:=hd.mono fun _ hb=>e.al hb
end
theorem RS.upd{w}{A}{ρ}{h}{s}{tm}(hs:RS w A ρ h s tm){d}{x}{v}(hd:d<tm.size)(hv:RV w A ρ h x v):RS w A ρ h (upd s d x) (tm.setIfInBounds d v):=by
 intro i;unfold Ab.upd;by_cases hi:i=d
 ·simp_all
 ·rw[if_neg hi];have:=hs i;simpa [Array.getD_eq_getD_getElem?,Array.getElem?_setIfInBounds_ne (show d≠i from fun e=>hi e.symm)]using this
theorem Ee{h}{id}(hb:bf (h id)=true):eA h id none:=by intro e;grind[bf]
section
variable {w w':World} {A A':Nat→Prop} {ρ ρ':bg} {h h':ac} {c:AV} {u:Value}
theorem RV.toD(hd:aq c=true)(h1:u.oneCell'=true)(hv:RV w A ρ h c u):RD w A c u:=by
 cases hv with
 |anyv u=>exact .any u h1
 |und=>simp[aq]at hd
 |dat hd=>omega
 |fn f x y us ts hs ht hx hy=>
  simp[aq]at hd;obtain⟨rfl,rfl⟩:=hd;have e1:us=#[]:=by grind
  have e2:ts=#[]:=by grind
  subst e1 e2;exact .fn f
 |_=>simp[aq]at hd
theorem RV.keepD(hd:aq c=true)(hv:RV w A ρ h c u)(hA:∀b,A b->A' b/\w'.heap[b]?=w.heap[b]?):RV w' A' ρ' h' c u:=by
 cases hv with
 |anyv u=>exact .anyv u
 |und=>exact .und
 |dat hd=>exact .dat (hd.mono hA)
 |fn f x y us ts hs ht hx hy=>
  simp[aq]at hd;obtain⟨rfl,rfl⟩:=hd;exact .fn f [] [] us ts hs ht (fun i c u hc=>by grind) (fun i c u hc=>by grind)
 |_=>simp[aq]at hd
theorem RV.keepC(hv:RV w A ρ h c u)(ho:pW h c)(hA:∀b,A b->A' b/\w'.heap[b]?=w.heap[b]?)(hB:∀id,bf (h id)=true->bf (h' id)=true/\ρ' id none=ρ id none):RV w' A' ρ' h' c u/\pW h' c:=by
 cases hv with
 |anyv u=>exact⟨.anyv u,trivial⟩
 |und=>cases ho
 |dat hd=>
  refine⟨.dat (hd.mono hA),?_⟩;cases hd<;>first|trivial|exact ho
 |ref id sub k i j hp=>
  cases sub with
  |none=>
   obtain⟨h1,h2⟩:=hB id ho;exact⟨by rw[←h2];exact .ref id none k i j (Ee h1),h1⟩
  |some p=>cases ho
 |fn f x y us ts hs ht hx hy=>
  have ho':=ho;simp only[pW,QQ,ad1]at ho';exact⟨.fn f x y us ts hs ht (fun i c u hc hu=>(hx i c u hc hu).keepD (ho'.1 c (QR hc)) hA) (fun i c u hc hu=>(hy i c u hc hu).keepD (ho'.2 c (QR hc)) hA),ho⟩
 |_=>cases ho
theorem Sa(hd:aq c=true):pW h c:=by
 cases c<;>simp[aq]at hd<;>first|trivial| (obtain⟨rfl,rfl⟩:=hd;simp[pW])
theorem Cm(hn:bT c=false){id p}:RC w A ρ h id p c u↔RV w A ρ h c u/\u.oneCell'=true/\pW h c:=by
 cases c<;>first|rfl|simp[bT]at hn
theorem RO.keep{id}(ho:RO w A ρ h id (h id))(hA:∀b,A b->A' b/\w'.heap[b]?=w.heap[b]?)(hB:∀id,bf (h id)=true->bf (h' id)=true/\ρ' id none=ρ id none)
  (hρ:∀sub,ρ' id sub=ρ id sub) (hb:∀sub,live h id sub->w'.heap[(ρ id sub).1]?=w.heap[(ρ id sub).1]?):RO w' A' ρ' h' id (h id):=by
 cases e:h id with
 |dead=>trivial
 |bx cs=>
  rw[e]at ho;obtain⟨us,t,h1,h2,h3,h4⟩:=ho;refine⟨us,t,?_,by grind,h3,fun p c hc=>?_⟩
  ·rw[hρ,hb none (by simp[live,e]),h1]
  ·obtain⟨u,h5,h6⟩:=h4 p c hc;refine⟨u,h5,?_⟩;cases hO:bT c with
   |true=>
    cases c<;>simp[bT]at hO;rename_i k rows;obtain⟨a,cap,us',t',g1,g2,g3,g4,g5,g6,g7⟩:=h6;refine⟨a,cap,us',t',g1,by grind,g3,?_,by grind,g6,g7.mono hA⟩;rw[hρ,hb (some p) ⟨cs,k,rows,e,hc⟩,g4]
   |false=>
    rw[Cm hO]at h6⊢;obtain⟨g1,g2⟩:=h6.1.keepC h6.2.2 hA hB;grind
 |ar k rows=>
  rw[e]at ho;obtain⟨us,t,h1,h2,h3,h4⟩:=ho;exact⟨us,t,by rw[hρ,hb none (by simp[live,e]),h1],by grind,h3,h4.mono hA⟩
 |fz k rows=>
  rw[e]at ho;obtain⟨h0,us,t,fr,h1,h2,h3,h4⟩:=ho;obtain⟨g1,g2⟩:=hA _ h0;exact⟨by grind,us,t,fr,by rw[hρ,g2,h1],by grind,h3,h4.mono hA⟩
end
theorem Rel.step{w w'}{X}{ρ ρ'}{h h'}{ks}(r:Rel w X ρ h)(e:Evo w ρ h w' ρ' h' ks)(S:Nat->Prop)
  (hS:∀id,¬S id->h' id=h id/\(∀sub,ρ' id sub=ρ id sub)/\(∀sub,live h id sub->w'.heap[(ρ id sub).1]?=w.heap[(ρ id sub).1]?))
  (hi:∀id sub id' sub',live h' id sub->live h' id' sub'->(ρ' id sub).1=(ρ' id' sub').1->id=id'/\sub=sub') (hx:∀id sub,live h' id sub->¬XZ X (ρ' id sub).1)
  (hc:∀id,S id->RO w' (l6 w' X h' ρ') ρ' h' id (h' id)):Rel w' X ρ' h':=
 ⟨hi,hx,fun id=>by
  by_cases hs:S id
  ·grind
  ·obtain⟨h1,h2,h3⟩:=hS id hs;rw[h1];exact(r.ob id).keep (fun b hb=>e.al hb) e.boxes h2 h3,
  fun b hb=>aea (r.xl b hb) e.size⟩
def HX:Value->Option AV
 | .slice none 0 0=>some .emp
 | .bool b=>some (.v (.bool b))
 | .int k n=>some (.v (.int k n))
 | .string s=>some (.v (.string s))
 | .pointer none=>some (.v (.pointer none))
 | .nilFunc=>some (.v .nilFunc)
 | .nilIface=>some (.v .nilIface)
 | .map none=>some (.v (.map none))
 |_=>none
def Ff:List Value->Option (List AV)
 |[]=>some []
 |v::l=>(HX v).bind fun a=>(Ff l).bind fun q=>some (a::q)
def aF:Operand->Option Opd
 | .tmp t=>some (.t t)
 | .const v=>(HX v).map .c
 | .func f=>some (.c (.fn f [] []))
 | .global _=>some (.c .any)
def oJ:List Operand->Option (List Opd)
 |[]=>some []
 |v::l=>(aF v).bind fun a=>(oJ l).bind fun q=>some (a::q)
def sC:Option Operand->Option (Option Opd)
 |none=>some none
 |some x=>(aF x).map some
def xH(P:Program)(t:TypeId):Option Bool:=match P.underlying t with
 |some (.struct _)=>some true
 |some (.array _ _)=>some true
 |some _=>some false
 |none=>none
def cW(P:Program)(t:TypeId):Option Nat:=(P.info? t).map (·.size)
def xI(P:Program)(t:TypeId):Option Nat:=(P.info? t).map (·.bytes)
def mS(P:Program)(t:TypeId):Option (List AV):=(P.info? t).bind fun i=>i.zero.bind fun z=>if z.cells.size=i.size then Ff z.cells.toList else none
def mT(P:Program)(t:TypeId):Option TypeId:=match P.underlying t with
 |some (.slice e)=>some e
 |_=>none
def Cn(P:Program)(t:TypeId)(f:Nat):Option Field:=match P.underlying t with
 |some (.struct fs)=>fs[f]?
 |_=>none
def tF:BinOp->Option Bool
 | .eql=>some false
 | .neq=>some true
 |_=>none
def D4(P:Program)(g:TypeId->Option Nat):List Field->Nat->Option Nat
 |[],o=>some o
 |f::fs,o=>if f.name≠ "_" /\f.offset=o then(g f.type).bind fun k=>if cW P f.type=some k then D4 P g fs (o+k)else none else none
def Br(P:Program)(b:Bool):Nat->TypeId->Option Nat
 |0,_=>none
 |d+1,t=>match P.underlying t with
  |some (.int .i64)=>some 1
  |some (.struct fs)=>if(b&&P.stoodInHeld t)=true then none else D4 P (Br P b d) fs.toList 0
  |_=>none
def JR(P:Program)(op:BinOp)(t:TypeId)(x y:Opd):Option POp:=match P.underlying t with
 |some .bool=>(tF op).map fun n=>.eqc n 0 x y
 |some (.pointer _)=>(tF op).map fun n=>.eqc n 1 x y
 |some (.func _ _ _)=>(tF op).map fun n=>.eqc n 2 x y
 |some (.int _)=>some (.bin op x y)
 |some .string=>some (.bin op x y)
 |some (.slice _)=>(match y with| .c .emp=>(tF op).map fun n=>.nilq n x|_=>none)
 |some (.struct _)=>(Br P true 3 t).bind fun k=>(tF op).map fun n=>.eqc n (3+k) x y
 |_=>none
def GE(P:Program)(src dst:TypeId)(x:Opd):Option POp:=match P.underlying src,P.underlying dst with
 |some (.int _),some (.int k)=>some (.cv k x)
 |some _,some .string=>some (.cv0 x)
 |_,_=>none
def Fg(P:Program)(t:TypeId)(x:Opd)(lo hi mx:Option Opd):Option POp:=match P.underlying t with
 |some (.slice e)=>(cW P e).map fun k=>.slc k x lo hi mx
 |some .string=>match mx with
  |none=>some (.slcS x lo hi)
  |some _=>none
 |_=>none
def GF(P:Program)(t:TypeId)(x i:Opd):Option POp:=match P.underlying t with
 |some (.slice e)=>(cW P e).map fun k=>.iadrS k x i
 |some (.array n e)=>(cW P e).map fun k=>.iadrA n k x i
 |_=>none
def JS(P:Program)(t:TypeId)(x i:Opd):Option POp:=match P.underlying t with
 |some .string=>some (.idxS x i)
 |some (.array n e)=>(cW P e).bind fun k=>(xH P e).map fun g=>.idxA n k g x i
 |_=>none
def JT(P:Program)(t:TypeId)(x:Opd):Option POp:=match P.underlying t with
 |some (.slice _)=>some (.len false x)
 |some .string=>some (.len true x)
 |some (.array n _)=>some (.mv (.c (I n)))
 |_=>none
def JU(P:Program)(t:TypeId)(x:Opd):Option POp:=match P.underlying t with
 |some (.slice _)=>some (.capp x)
 |_=>none
def sD(P:Program)(fs:Nat->Option (Nat×Nat)):List (Nat×Operand)->Option (List (Nat×Nat×Opd))
 |[]=>some []
 | (i,x)::l=>(fs i).bind fun p=>(aF x).bind fun a=>(sD P fs l).bind fun q=>some ((p.1,p.2,a)::q)
def Af:List (Nat×Operand)->Option (List (Nat×Opd))
 |[]=>some []
 | (i,x)::l=>(aF x).bind fun a=>(Af l).bind fun q=>some ((i,a)::q)
def Ag(P:Program)(fs:Array Field)(i:Nat):Option (Nat×Nat):=(fs[i]?).bind fun f=>(cW P f.type).map fun k=>(f.offset,k)
def Fh(P:Program)(t:TypeId)(ps:List (Nat×Operand)):Option POp:=(mS P t).bind fun z=>match P.underlying t with
 |some (.struct fs)=>if fs.all (fun f=>(cW P f.type).isSome)then(sD P (Ag P fs) ps).map fun q=>.build z q else none
 |some (.array _ e)=>(cW P e).bind fun k=>(sD P (fun i=>some (i*k,k)) ps).map fun q=>.build z q
 |_=>none
def Ah(P:Program)(t:TypeId)(n:Nat)(ps:List (Nat×Operand)):Option AOp:=(mT P t).bind fun e=>(cW P e).bind fun k=>
 if n*k<=16777216/\0<k then(mS P e).bind fun z=>(Af ps).map fun q=>.buildSl k z n q else none
def GG(P:Program)(t:TypeId)(l c:Opd):Option AOp:=(mT P t).bind fun e=>(cW P e).bind fun k=>(xI P e).bind fun b=>
 if 0<k then(mS P e).map fun z=>.mkSl k z b l c else none
def GH(P:Program)(u:TypeId):Bool:=match P.underlying u with
 |some (.int .i64)=>true
 |_=>false
def GI(P:Program)(t:TypeId)(x y:Operand):Option AOp:=(mT P t).bind fun e=>(cW P e).bind fun k=>(xI P e).bind fun b=>(aF x).bind fun x=>(aF y).bind fun y=>
  (mS P e).bind fun z=>if 0<k/\0<b then some (.appz k b z x y)else none
def JV(P:Program)(ts:List TypeId)(zas:List Operand):Option AOp:=match ts,zas with
 |[t,u],[x,y]=>if GH P u=true then GI P t x y else(mT P t).bind fun e=>(mT P u).bind fun _=>(cW P e).bind fun k=>(xI P e).bind fun b=>(aF x).bind fun x=>(aF y).bind fun y=>
  if 0<k/\0<b/\(mS P e).isSome=true then some (.app k b x y)else none
 |_,_=>none
def GJ(P:Program)(ts:List TypeId)(zas:List Operand):Option AOp:=match ts,zas with
 |[t,_],[x,y]=>(mT P t).bind fun e=>(cW P e).bind fun k=>(aF x).bind fun x=>(aF y).bind fun y=>if 0<k then some (.cpy k x y)else none
 |_,_=>none
def Fi(P:Program)(ts:List TypeId)(zas:List Operand):Option AOp:=match ts,zas with
 |[t],[x]=>(mT P t).bind fun e=>(cW P e).bind fun k=>(aF x).bind fun x=>(mS P e).bind fun z=>if 0<k then some (.clr k z x)else none
 |_,_=>none
def C6(P:Program)(b:Builtin)(ts:List TypeId)(zas:List Operand):Option AOp:=match b,ts,zas with
 | .len,t::_,[x]=>(aF x).bind fun x=>(JT P t x).map .p
 | .cap,t::_,[x]=>(aF x).bind fun x=>(JU P t x).map .p
 | .min,_,x::l=>(aF x).bind fun x=>(oJ l).map fun ys=>.p (.mnx true x ys)
 | .max,_,x::l=>(aF x).bind fun x=>(oJ l).map fun ys=>.p (.mnx false x ys)
 | .append,ts,zas=>JV P ts zas
 | .copy,ts,zas=>GJ P ts zas
 | .clear,ts,zas=>Fi P ts zas
 |_,_,_=>none
def GK(P:Program)(c:Call):Option AOp:=match c.callee with
 | .builtin b=>C6 P b c.argTypes.toList c.args.toList
 | .value f=>(aF f).bind fun f=>(oJ c.args.toList).map fun l=>.call f l
 | .invoke _ _=>none
def JW(P:Program)(op:Op):Option AOp:=match op with
 | .move x| .assign x=>(aF x).map fun x=>.p (.mv x)
 | .pick c a b=>(aF c).bind fun c=>(aF a).bind fun a=>(aF b).map fun b=>.p (.pick c a b)
 | .alloc t=>(mS P t).map .alloc
 | .box t x=>(cW P t).bind fun k=>(aF x).map fun x=>.box k x
 | .build t ps=>(Fh P t ps.toList).map .p
 | .buildSlice t n ps=>Ah P t n ps.toList
 | .load t x=>(xH P t).bind fun g=>(cW P t).bind fun k=>(aF x).bind fun x=>if g||k==1 then some (.load k g x)else none
 | .store t x y=>(cW P t).bind fun k=>(aF x).bind fun x=>(aF y).map fun y=>.store k x y
 | .nilCheck x=>(aF x).map fun x=>.p (.nilck x)
 | .binOp op t x y _=>(aF x).bind fun x=>(aF y).bind fun y=>(JR P op t x y).map .p
 | .unOp op _ x=>(aF x).map fun x=>.p (.un op x)
 | .convert s d x=>(aF x).bind fun x=>(GE P s d x).map .p
 | .makeFunc (.func f) a b=>(oJ a.toList).bind fun a=>(oJ b.toList).map fun b=>.p (.mkF f a b)
 | .makeSlice t l c=>(aF l).bind fun l=>(aF c).bind fun c=>GG P t l c
 | .slice t x lo hi mx=>(aF x).bind fun x=>(sC lo).bind fun lo=>(sC hi).bind fun hi=>(sC mx).bind fun mx=>(Fg P t x lo hi mx).map .p
 | .fieldAddr t x f=>(aF x).bind fun x=>(Cn P t f).bind fun f=>(cW P f.type).bind fun k=>if k=0 then none else some (.p (.fadr f.offset x))
 | .field t x f=>(aF x).bind fun x=>(Cn P t f).bind fun f=>(cW P f.type).bind fun k=>(xH P f.type).map fun g=>.p (.fld f.offset k g x)
 | .indexAddr t x i=>(aF x).bind fun x=>(aF i).bind fun i=>(GF P t x i).map .p
 | .index t x i=>(aF x).bind fun x=>(aF i).bind fun i=>(JS P t x i).map .p
 | .extract x i=>(aF x).map fun x=>.p (.ext i x)
 | .call c=>GK P c
 |_=>none
def OD(P:Program)(op:Op):Option AOp:=some ((JW P op).getD .bad)
def xJ(ops:Array Oper):Option (Nat×Bool)->Option (Option (Nat×Bool))
 |none=>some none
 |some (j,b)=>((ops[j]?).bind (·.dst)).map fun d=>some (d,b)
def AOp.gives:AOp->Bool
 | .store _ _ _=>false
 | .call _ _=>false
 | .callC _ _=>false
 | .bad=>false
 | .clr _ _ _=>false
 |_=>true
def JX:AOp->Option AOp
 | .buildSl k z n ps=>some (.buildC k z n ps)
 |_=>none
def JY(P:Program)(hint:AOp)(op:Op):Option AOp:=match hint,op with
 | .slcM _ _ _ _,.slice t x lo hi none=>(mT P t).bind fun e=>(cW P e).bind fun k=>(aF x).bind fun x=>(sC lo).bind fun lo=>(sC hi).bind fun hi=>if 0<k then some (.slcM k x lo hi)else none
 | .callC _ _,.call c=>match c.callee with
  | .value f=>(aF f).bind fun f=>(oJ c.args.toList).map fun l=>.callC f l
  |_=>none
 | .callC _ _,.buildSlice t n ps=>(Ah P t n ps.toList).bind JX
 | .take _,.load t x=>(xH P t).bind fun g=>(aF x).bind fun x=>if g=true then none else some (.take x)
 |_,_=>none
def JZ(P:Program)(hint:AOp)(op:Op):Option AOp:=match JY P hint op with
 |some a=>some a
 |none=>OD P op
def GL:AOp->AOp
 | .buildC _ _ _ _=>.callC (.c .any) []
 |o=>o
def Fj:List COp->AOp
 |o::_=>GL o.op
 |[]=>.bad
def xd(P:Program)(N:Nat)(ops:Array Oper)(hint:AOp)(o:Oper):Option COp:=(xJ ops o.guard).bind fun g=>(JZ P hint o.op).bind fun op=>
 if(!op.gives||o.dst.isSome)&&decide (o.dst.getD 0<N)then some ⟨o.dst,g,op⟩else none
def xK(P:Program)(N:Nat)(ops:Array Oper):List COp->List Oper->Option (List COp)
 |_,[]=>some []
 |hs,o::l=>(xd P N ops (Fj hs) o).bind fun a=>(xK P N ops hs.tail l).bind fun q=>some (a::q)
def D5(o:Oper):List Nat:=(o.after.toList.filter (Region.binds .any)).map (·.on)
def Fk:List Nat->List Nat->List Nat
 |acc,[]=>acc
 |acc,a::l=>match acc.contains a with
  |true=>Fk acc l
  |false=>Fk (a::acc) l
def J0(o:Oper)(acc:List (List Nat)):List Nat:=Fk [] (D5 o++(D5 o).flatMap fun d=>acc.getD d [])
def Fl:List Oper->List (List Nat)->List (List Nat)
 |[],acc=>acc
 |o::l,acc=>Fl l (acc++[J0 o acc])
def D6(ps:List (Nat×Nat))(i j:Nat)(a b:COp):Bool:=w9 a b&& (HW a.op||HW b.op|| (Cj a.op&&Cj b.op)||ps.contains (i,j))
def GM(g:Nat)(a b:COp):Bool:=match a with
 | ⟨some e,none,.p (.mv (.t n))⟩=>w9 a b&& (g==0|| (g !=e+1&&g !=n+1))
 |_=>false
def GN(m g:Nat)(ps:List (Nat×Nat))(i j:Nat)(a b:COp):Bool:=if j<m then D6 ps i j a b else decide (i<m)&&GM g a b
def GO(ps:List (Nat×Nat)):Nat->Nat->COp->COp->Bool:=match lC ps with
 |some q=>GN q.1 q.2 ps.tail
 |none=>D6 ps
def Ai(C:Nat->Nat->COp->COp->Bool)(j:Nat)(b:COp)(bf:List Nat):Nat->List COp->Bool
 |_,[]=>true
 |i,a::l=>(bf.contains i||C i j a b)&&Ai C j b bf (i+1) l
def xL(C:Nat->Nat->COp->COp->Bool):Nat->List COp->List COp->List (List Nat)->Bool
 |j,done,b::l,bf::bs=>(bf.all fun i=>decide (i<j))&& (Ai C j b bf 0 done&&xL C (j+1) (done++[b]) l bs)
 |_,_,[],[]=>true
 |_,_,_,_=>false
def Fn(ops:List Oper)(cl:List COp)(ps:List (Nat×Nat)):Bool:=xL (GO ps) 0 [] cl (Fl ops [])
def kE(P:Program)(N:Nat):Code->Cmd->Option Cmd
 | .skip,.skip=>some .skip
 | .region _ ops false,.ops ks hs=>(xK P N ops hs ops.toList).map fun l=>.ops ks l
 | .region _ ops true,.dops ks hs ps=>(xK P N ops hs ops.toList).bind fun l=>if Fn ops.toList l ps then some (.dops ks l ps)else none
 | .seq a b,.seq c d=>(kE P N a c).bind fun c=>(kE P N b d).map fun d=>.seq c d
 | .cond x a b,.cond _ c d=>(aF x).bind fun x=>(kE P N a c).bind fun c=>(kE P N b d).map fun d=>.cond x c d
 | .block i a,.block _ ks c=>(kE P N a c).map fun c=>.block i ks c
 | .loop a,.loop ks hs c=>(kE P N a c).map fun c=>.loop ks hs c
 | .exit i,.exit _=>some (.exit i)
 | .refuse _,.ops [] [⟨none,none,.bad⟩]=>some (.ops [] [⟨none,none,.bad⟩])
 | .ret,.ret=>some .ret
 | .label _,.skip=>some .skip
 | .scope a,.frz is c=>(kE P N a c).map (.frz is)
 |c,.frz is a=>(kE P N c a).map (.frz is)
 |_,_=>none
def Bs(P:Program):List ResultVar->Option (List Rv)
 |[]=>some []
 | .tmp t::l=>(Bs P l).map fun q=>.t t::q
 | .cell a t::l=>(xH P t).bind fun g=>(cW P t).bind fun k=>if g||k==1 then(Bs P l).map fun q=>.cell a k g::q else none
section
variable {P:Program} {w:World} {A:Nat→Prop} {ρ:bg} {h:ac} {s:ah} {a:Act}
theorem RV.v_inv{x u}(hv:RV w A ρ h (.v x) u):u=x/\Fe x=true:=by
 cases hv with|dat hd=>cases hd with|v _ hp=>grind
theorem RV.emp_inv{u}(hv:RV w A ρ h .emp u):∃a,u=.slice a 0 0:=by
 cases hv with|dat hd=>cases hd with|emp a=>grind
theorem RV.sl_inv{k}{rows}{u}(hv:RV w A ρ h (.sl k rows) u):RD w A (.sl k rows) u:=by
 cases hv with|dat hd=>omega
theorem RD.sl_form{k}{rows}{u}(hv:RD w A (.sl k rows) u):∃a cap,u=.slice a rows.length cap/\rows.length<=cap:=by
 cases hv with|sl _ _ a cap _ _ hc=>grind
theorem RV.rsl_inv{id}{sub}{k lo n}{u}(hv:RV w A ρ h (.rsl id sub k lo n) u):
  ∃a cap,u=.slice a n cap/\eA h id sub/\n<=cap/\(lo+cap)*k=(ρ id sub).2/\(cap=0\/a=some ⟨(ρ id sub).1,lo*k,none⟩):=by
 cases hv with
 |dat hd=>cases hd
 |rsl _ _ _ _ _ cap a hp hn hb ha=>grind
theorem RV.rsc_inv{id k lo n c}{u}(hv:RV w A ρ h (.rsc id k lo n c) u):
  ∃a,u=.slice a n c/\eA h id none/\n<=c/\(lo+c)*k=(ρ id none).2/\(c=0\/a=some ⟨(ρ id none).1,lo*k,none⟩):=by
 cases hv with
 |dat hd=>cases hd
 |rsc _ _ _ _ _ a hp hn hb ha=>grind
theorem RV.ref_inv{id}{sub}{k i j}{u}(hv:RV w A ρ h (.ref id sub k i j) u):
  u=.pointer (some ⟨(ρ id sub).1,i*k+j,none⟩)/\eA h id sub:=by
 cases hv with
 |dat hd=>cases hd
 |ref _ _ _ _ _ hp=>grind
theorem RV.fn_inv{f}{x y}{u}(hv:RV w A ρ h (.fn f x y) u):∃us ts,u=.func (.func f) us ts/\us.size=x.length/\ts.size=y.length/\
  (∀ (i:Nat) c u,x[i]?=some c->us[i]?=some u->RV w A ρ h c u)/\(∀ (i:Nat) c u,y[i]?=some c->ts[i]?=some u->RV w A ρ h c u):=by
 cases hv with
 |dat hd=>cases hd with|fn _=>grind
 |fn _ _ _ us ts hs ht hx hy=>grind
theorem RV.agg_inv{cs}{u}(hv:RV w A ρ h (.agg cs) u):∃us,u=.agg us/\us.size=cs.length/\(∀ (i:Nat) u,us[i]?=some u->u.oneCell'=true)/\
  (∀ (i:Nat) c u,cs[i]?=some c->us[i]?=some u->RV w A ρ h c u):=by
 cases hv with
 |dat hd=>cases hd with|agg _ us hs h1 hr=>exact⟨us,rfl,hs,h1,fun i c u hc hu=>.dat (hr i c u hc hu)⟩
 |agg _ us hs h1 hr=>grind
theorem VD{v}{c}(hc:HX v=some c):RD w A c v:=by
 unfold HX at hc;split at hc<;>cases hc
 ·exact .emp none
 all_goals exact .v _ rfl
theorem QV{x}{y}(hc:aF x=some y)(hs:RS w A ρ h s a.tmps):RV w A ρ h (ev s y) (a.eval x):=by
 cases x with
 |tmp t=>simp[aF]at hc;subst hc;exact hs t
 |const v=>
  simp[aF]at hc;obtain⟨c,h1,rfl⟩:=hc;exact .dat (VD h1)
 |func f=>simp[aF]at hc;subst hc;exact .dat (.fn f)
 |global g=>simp[aF]at hc;subst hc;exact .anyv _
theorem R4(hs:RS w A ρ h s a.tmps):∀ {x} {y},oJ x=some y->y.length=x.length/\∀ (i:Nat) o p,x[i]?=some o->y[i]?=some p->RV w A ρ h (ev s p) (a.eval o)
 |[],y,hc=>by grind[oJ]
 |o::l,y,hc=>by
  simp only[oJ,QS]at hc;obtain⟨p,h1,q,h2,h3⟩:=hc;cases h3;obtain⟨h4,h5⟩:=R4 hs h2;refine⟨by simp[h4],fun i o' p' ho hp=>?_⟩;cases i with
  |zero=>simp at ho hp;subst ho hp;exact QV h1 hs
  |succ i=>exact h5 i o' p' (by simpa using ho) (by simpa using hp)
theorem Yc{op}{t}{u v r}(hb:fY op u v=some r):(binOp op t u v).run P w=.ok r w/\Fe r=true:=by
 cases u with
 |int k x=>
  cases v with
  |int k' y=>
   have hk:∀op,(if k=k' then jk op k x y else none)=some r->op≠ .shl->op≠ .shr->(binOp op t (.int k x) (.int k' y)).run P w=.ok r w/\Fe r=true:=by
    intro op hq h1 h2;split at hq
    ·cases op<;>simp[jk]at hq h1 h2<;> (first|subst hq| (obtain⟨h0,hq⟩:=hq;subst hq))<;>simp_all[binOp,Op.intArith,Op.intDiv,Op.intBits,Op.intCmp,Fe]
    grind
   cases op<;>first
    |exact hk _ hb (by simp) (by simp)
    | (simp[fY,EW,EX]at hb;obtain⟨h0,hb⟩:=hb;subst hb;simp[binOp,Op.shift,show¬y<0 from by omega,Fe])
  |_=>simp[fY]at hb
 |string x=>
  cases v with
  |string y=>
   cases op<;>simp[fY,JK]at hb
   case add=>obtain⟨h0,hb⟩:=hb;subst hb;simp[binOp,Op.stringOp,Fe,h0]
   all_goals subst hb;simp[binOp,Op.stringOp,Fe]
  |_=>simp[fY]at hb
 |_=>simp[fY]at hb
theorem SG{op}{t}{x y}{u v}(hu:u.oneCell'=true)(h2:u=.nilIface->v≠ .nilIface):(eqGuard op t x y u v).run P w=.ok () w:=by
 unfold eqGuard
 all_goals (cases u<;>simp[Value.oneCell']at hu⊢ <;>cases v<;>simp at h2⊢)
abbrev RL(P:Program)(w:World)(A:Nat->Prop)(ρ:bg)(h:ac)(m:Sem Value)(z:AV):Prop:=∃v,m.run P w=.ok v w/\RV w A ρ h z v
theorem RW{α β}{m}{f:α->Sem β}{x}{w w'}(hm:m.run P w=.ok x w'):(m>>=f).run P w=(f x).run P w':=by
 simp_all
theorem Yd{c x y}{u v t}{z}(hc:RV w A ρ h c t)(hx:RV w A ρ h x u)(hy:RV w A ρ h y v)(hz:wR c x y=some z):
  RL P w A ρ h (do pure (if←asBool t then u else v)) z:=by
 unfold wR at hz;split at hz
 ·rename_i b;obtain⟨rfl,_⟩:=hc.v_inv;refine⟨if b then u else v,by simp[asBool],?_⟩;grind
 grind
theorem VE{op}{t}{xo yo}{x y z}{u v}(hx:RV w A ρ h x u)(hy:RV w A ρ h y v)(hz:bS op x y=some z):
  RL P w A ρ h (do eqGuard op t xo yo u v;binOp op t u v) z:=by
 unfold bS at hz;split at hz
 ·simp only[adV]at hz;obtain⟨r,hr,rfl⟩:=hz;obtain⟨rfl,_⟩:=hx.v_inv;obtain⟨rfl,_⟩:=hy.v_inv;obtain⟨h1,h2⟩:=Yc (P:=P) (w:=w) (t:=t) hr;refine⟨r,?_,.dat (.v _ h2)⟩;rw[RW (SG ?_ ?_),h1]
  ·cases u<;>first|rfl|simp[fY]at hr
  grind[fY]
 grind
theorem Zu{t}(ht:P.underlying t=some .bool)(d)(p q):(Op.equalIn (d+1) t (.bool p) (.bool q)).run P w=.ok (p==q) w:=by
 simp[Op.equalIn,run_underlying ht]
theorem Wo{t e}(ht:P.underlying t=some (.pointer e))(d)(p):(Op.equalIn (d+1) t (.pointer p) (.pointer none)).run P w=.ok p.isNone w:=by
 cases p<;>simp[Op.equalIn,run_underlying ht]
theorem abZ{t}{x y}{b}(ht:P.underlying t=some (.func x y b))(d)(f)(p q):(Op.equalIn (d+1) t (.func f p q) .nilFunc).run P w=.ok false w:=by
 simp[Op.equalIn,run_underlying ht]
theorem aaL{t}{x y}{b}(ht:P.underlying t=some (.func x y b))(d):(Op.equalIn (d+1) t .nilFunc .nilFunc).run P w=.ok true w:=by
 simp[Op.equalIn,run_underlying ht]
def Zv(P:Program)(t:TypeId)(p:List Int)(u:Value):Prop:=(P.underlying t=some (.int .i64)/\∃n,p=[n]/\u=.int .i64 n)\/(∃fs,P.underlying t=some (.struct fs))/\u=.agg (p.map (.int .i64)).toArray
theorem Wp{g:TypeId->Option Nat}{D:Nat}{w:World}(hg:∀t k,g t=some k->∀p q u v,p.length=k->q.length=k->Zv P t p u->Zv P t q v->(Op.equalIn D t u v).run P w=.ok (p==q) w)(hk:∀t k,g t=some k->P.underlying t=some (.int .i64)/\k=1\/∃fs,P.underlying t=some (.struct fs)){p q:List Int}:∀ {fs:List Field} {o k:Nat},D4 P g fs o=some k->p.length=k->q.length=k->
  (Op.eqFields D (p.map (.int .i64)).toArray (q.map (.int .i64)).toArray fs).run P w=.ok (p.drop o==q.drop o) w/\o<=k
 |[],o,k,h,hp,hq=>by
  cases h;rw[aej (by omega),aej (by omega)];simp[Op.eqFields]
 |f::fs,o,k,h,hp,hq=>by
  unfold D4 at h;split at h
  case isFalse=>cases h
  rename_i hf;obtain⟨hf,rfl⟩:=hf;rw[QS]at h;obtain⟨m,hm,h⟩:=h;split at h
  case isFalse=>cases h
  rename_i hs;obtain⟨ih,hle⟩:=Wp hg hk h hp hq;have pt:∀r:List Int,r.length=k->∃u,(part f.type (r.map (.int .i64)).toArray f.offset).run P w=.ok u w/\Zv P f.type ((r.drop f.offset).take m) u:=fun r hr=>by
   rcases hk _ _ hm with⟨h1,rfl⟩| ⟨fs',h1⟩
   ·have e:(r.drop f.offset).take 1=[r[f.offset]]:=by
     rw[ael (by omega)];rfl
    refine⟨.int .i64 r[f.offset],?_,.inl ⟨h1,_,e,rfl⟩⟩;simp[part,isAgg,run_underlying h1,show f.offset<r.length by omega]
   ·refine⟨.agg (((r.drop f.offset).take m).map (.int .i64)).toArray,?_,.inr ⟨⟨_,h1⟩,rfl⟩⟩;simp only[cW,adV]at hs;obtain⟨i,h3,h2⟩:=hs;simp[part,isAgg,run_underlying h1,sizeOf,typeInfo,h3,h2]
  obtain⟨u,hu,fu⟩:=pt p hp;obtain⟨v,hv,fv⟩:=pt q hq;have he:=hg _ _ hm _ _ _ _ (by simp;omega) (by simp;omega) fu fv;have e2:∀r:List Int,r.drop f.offset=(r.drop f.offset).take m++r.drop (f.offset+m):=fun r=>by rw[←List.drop_drop,List.take_append_drop]
  refine⟨?_,by omega⟩;simp only[Op.eqFields,hf,ne_eq,not_false_eq_true,if_true,Sem.run_bind,hu,hv,he,Result.andThen_ok];have ep:=e2 p;have eq:=e2 q;have hl:((p.drop f.offset).take m).length=((q.drop f.offset).take m).length:=by
   simp;omega
  generalize(p.drop f.offset).take m=a at*
  generalize(q.drop f.offset).take m=b at*
  rw[ep,eq];by_cases g:a=b
  ·subst g;simp only[beq_self_eq_true,Bool.not_true,ad0,if_false,ih];rw[Bool.eq_iff_iff.2 (by simp:(p.drop (f.offset+m)==q.drop (f.offset+m))=true↔(a++p.drop (f.offset+m)==a++q.drop (f.offset+m))=true)]
  ·have h1:(a==b)=false:=by simpa using g
   have h2:(a++p.drop (f.offset+m)==b++q.drop (f.offset+m))=false:=by
    simp only[beq_eq_false_iff_ne,ne_eq];exact fun h=>g (List.append_inj h hl).1
   simp[h1,h2]
theorem Ye{d:Nat}{t:TypeId}{k:Nat}(h:Br P true d t=some k):P.underlying t=some (.int .i64)/\k=1\/∃fs,P.underlying t=some (.struct fs):=by
 cases d with
 |zero=>cases h
 |succ d=>
  unfold Br at h;split at h
  ·cases h;exact .inl ⟨by assumption,rfl⟩
  ·exact .inr ⟨_,by assumption⟩
  ·cases h
theorem VF{g:TypeId->Option Nat}:∀ {fs:List Field} {o k:Nat},D4 P g fs o=some k->∀f∈fs,∃m,g f.type=some m
 |[],_,_,_=>fun _ h=>nomatch h
 |f::fs,o,k,h=>by
  unfold D4 at h;split at h
  case isFalse=>cases h
  rw[QS]at h;obtain⟨m,hm,h⟩:=h;split at h
  case isFalse=>cases h
  exact fun x hx=>(List.mem_cons.1 hx).elim (fun e=>e▸ ⟨m,hm⟩) (VF h x)
theorem UV:∀ {D d:Nat} {t:TypeId} {k:Nat},Br P true D t=some k->D<d->P.eqGuardType d t=false
 |0,_,_,_,h,_=>nomatch h
 |D+1,0,_,_,_,h=>absurd h (by omega)
 |D+1,d+1,t,k,h,hd=>by
  unfold Br at h;unfold Program.eqGuardType;split at h
  ·rename_i h1;rw[h1]
  ·rename_i fs h1;rw[h1];split at h
   ·cases h
   simp only[Array.any_eq_false',QQ,not_and,Bool.not_eq_true];intro f hf _;obtain⟨m,hm⟩:=VF h f (by simpa using hf);exact UV hm (by omega)
  ·cases h
theorem VG{w:World}:∀ {d D:Nat} {t:TypeId} {k:Nat},Br P true d t=some k->∀p q u v,p.length=k->q.length=k->Zv P t p u->Zv P t q v->(Op.equalIn (D+d) t u v).run P w=.ok (p==q) w
 |0,_,_,_,h=>nomatch h
 |d+1,D,t,k,h=>fun p q u v hp hq fu fv=>by
  unfold Br at h;split at h
  ·rename_i h1;cases h;rcases fu with⟨_,n,rfl,rfl⟩| ⟨⟨fs,h2⟩,_⟩
   ·rcases fv with⟨_,m,rfl,rfl⟩| ⟨⟨fs,h2⟩,_⟩
    ·rw[←Nat.add_assoc,run_equalIn_int w _ _ _ _ _ _ h1];simp
    ·rw[h1]at h2;cases h2
   ·rw[h1]at h2;cases h2
  ·rename_i fs h1;split at h
   ·cases h
   rename_i hs;rcases fu with⟨h2,_⟩| ⟨_,rfl⟩
   ·rw[h1]at h2;cases h2
   rcases fv with⟨h2,_⟩| ⟨_,rfl⟩
   ·rw[h1]at h2;cases h2
   have e:P.fieldsOf t=fs:=by simp[Program.fieldsOf,h1]
   rw[←Nat.add_assoc,run_equalIn_struct w _ _ _ _ (by rw[e];exact h1) (by simpa using hs),e];have:=(Wp (w:=w) (g:=Br P true d) (D:=D+d) (fun t k h=>VG h) (fun t k h=>Ye h) h hp hq).1;simpa using this
  ·cases h
theorem TR{w:World}{A:Nat->Prop}{ρ:bg}{h:ac}:∀ {a:List AV} {p:List Int},AP a=some p->∀ {us:List Value},us.length=a.length->(∀ (i:Nat) c u,a[i]?=some c->us[i]?=some u->RV w A ρ h c u)->us=p.map (.int .i64)
 |[],p,e,us,hl,_=>by
  cases e;simpa using hl
 |x::a,p,e,us,hl,hr=>by
  unfold AP at e;split at e
  ·grind
  ·rename_i z l h1;cases h1;rw[adV]at e;obtain⟨p',e,rfl⟩:=e;cases us with
   |nil=>simp at hl
   |cons u us=>
    have h0:=(hr 0 _ _ rfl rfl).v_inv.1;rw[TR e (us:=us) (by simpa using hl) fun i c u h1 h2=>hr (i+1) c u (by simpa using h1) (by simpa using h2),h0];rfl
  ·cases e
theorem Tb{op}{n}{tc}{t}{xo yo}{x y z}{u v}(hx:RV w A ρ h x u)(hy:RV w A ρ h y v)(hop:tF op=some n)
  (ht:(tc=0->P.underlying t=some .bool)/\(tc=1->∃e,P.underlying t=some (.pointer e))/\(tc=2->∃p q r,P.underlying t=some (.func p q r))/\(∀k,tc=3+k->Br P true 3 t=some k/\∃fs,P.underlying t=some (.struct fs))) (hz:CX n tc x y=some z):
  RL P w A ρ h (do eqGuard op t xo yo u v;binOp op t u v) z:=by
 have hop':(op=.eql/\n=false)\/(op=.neq/\n=true):=by grind[tF]
 have key:∀r,u.oneCell'=true->u≠ .nilIface->(∀k q,u≠ .int k q)->(∀q,u≠ .string q)->(∀k q,u≠ .float k q)->(∀k p q,u≠ .complex k p q)->(Op.equal t u v).run P w=.ok r w->RL P w A ρ h (do eqGuard op t xo yo u v;binOp op t u v) (B (n !=r)):=by
  intro r h1 h2 h3 h4 h5 h6 he;rcases hop' with⟨rfl,rfl⟩| ⟨rfl,rfl⟩
  ·refine⟨.bool r,?_,?_⟩
   ·simp_all[RW,SG,absurd,binOp]
   ·have:(false !=r)=r:=by simp_all
    rw[this];exact .dat (.v _ rfl)
  ·refine⟨.bool (!r),?_,?_⟩
   ·simp_all[RW,SG,absurd,binOp]
   ·have:(true !=r)=!r:=by grind
    rw[this];exact .dat (.v _ rfl)
 unfold CX at hz;split at hz
 ·split at hz
  ·rename_i p q htc;cases hz;obtain⟨rfl,_⟩:=hx.v_inv;obtain⟨rfl,_⟩:=hy.v_inv;refine key (p==q) rfl (by simp) (by simp) (by simp) (by simp) (by simp) ?_;exact Zu (ht.1 htc) 9999 p q
  grind
 ·split at hz
  ·rename_i htc;obtain⟨rfl,_⟩:=hx.ref_inv;obtain⟨rfl,_⟩:=hy.v_inv;obtain⟨e,he⟩:=ht.2.1 htc;have:=key false rfl (by simp) (by simp) (by simp) (by simp) (by simp) (Wo he 9999 _);grind
  grind
 ·split at hz
  ·rename_i htc;obtain⟨rfl,_⟩:=hx.v_inv;obtain⟨rfl,_⟩:=hy.v_inv;obtain⟨e,he⟩:=ht.2.1 htc;have:=key true rfl (by simp) (by simp) (by simp) (by simp) (by simp) (Wo he 9999 _);grind
  grind
 ·split at hz
  ·rename_i htc;obtain⟨us,ts,rfl,_⟩:=hx.fn_inv;obtain⟨rfl,_⟩:=hy.v_inv;obtain⟨p,q,r,he⟩:=ht.2.2.1 htc;have:=key false rfl (by simp) (by simp) (by simp) (by simp) (by simp) (abZ he 9999 _ _ _);grind
  grind
 ·split at hz
  ·rename_i htc;obtain⟨rfl,_⟩:=hx.v_inv;obtain⟨rfl,_⟩:=hy.v_inv;obtain⟨p,q,r,he⟩:=ht.2.2.1 htc;have:=key true rfl (by simp) (by simp) (by simp) (by simp) (by simp) (aaL he 9999);grind
  grind
 ·split at hz
  case isFalse=>cases hz
  rename_i a b htc;obtain⟨h3,ha,hb⟩:=htc;simp only[QS,adV]at hz;obtain⟨p,hp,q,hq,rfl⟩:=hz;obtain⟨us,rfl,s1,_,r1⟩:=hx.agg_inv;obtain⟨vs,rfl,s2,_,r2⟩:=hy.agg_inv;obtain⟨f1,f2⟩:=ht.2.2.2 (tc-3) (by omega);have f3:=UV (d:=P.depth) f1 (by simp only[Program.depth,Made.depth];omega);have e1:=TR hp (us:=us.toList) (by simpa using s1) (by simpa using r1);have e2:=TR hq (us:=vs.toList) (by simpa using s2) (by simpa using r2);have l1:p.length=tc-3:=by have:=congrArg List.length e1;simp at this;omega
  have l2:q.length=tc-3:=by have:=congrArg List.length e2;simp at this;omega
  have e:=VG (w:=w) (D:=9997) f1 p q (.agg us) (.agg vs) l1 l2 (.inr ⟨f2,by rw[←e1]⟩) (.inr ⟨f2,by rw[←e2]⟩);have hgd:=run_eqGuard_agg (w:=w) op t xo yo us vs f3;rcases hop' with⟨rfl,rfl⟩| ⟨rfl,rfl⟩
  ·refine⟨.bool (p==q),?_,?_⟩
   ·rw[RW hgd,run_eql_struct,e];rfl
   ·rw[show(false != (p==q))=(p==q)by simp];exact .dat (.v _ rfl)
  ·refine⟨.bool (!(p==q)),?_,?_⟩
   ·rw[RW hgd,run_neq_struct,e];rfl
   ·rw[show(true != (p==q))=!(p==q)by simp];exact .dat (.v _ rfl)
 grind
theorem aaM{op}{x z}{u}(hx:RV w A ρ h x u)(hz:Cf op x=some z):RL P w A ρ h (Op.unary op u) z:=by
 unfold Cf at hz;split at hz
 ·obtain⟨rfl,_⟩:=hx.v_inv;cases op<;>simp only[Option.some.injEq]at hz<;>try (cases hz;done)
  ·subst hz;exact⟨_,by simp[Op.unary,Op.intArith],.dat (.v _ rfl)⟩
  ·subst hz;exact⟨_,by simp[Op.unary,Op.intBits],.dat (.v _ rfl)⟩
 ·obtain⟨rfl,_⟩:=hx.v_inv;cases op<;>simp at hz;subst hz;exact⟨_,by simp[Op.unary],.dat (.v _ rfl)⟩
 grind
theorem aaN{src dst}{k}{x z}{u}(hx:RV w A ρ h x u)(hs:(P.underlying src).isSome=true)(hd:P.underlying dst=some (.int k))(hz:EY k x=some z):
  RL P w A ρ h (convert src dst u) z:=by
 unfold EY at hz;split at hz
 ·obtain⟨rfl,_⟩:=hx.v_inv;cases hz;obtain⟨d,hd'⟩:=Option.isSome_iff_exists.1 hs;exact⟨_,by simp_all[convert,run_underlying,Conv.intToInt],.dat (.v _ rfl)⟩
 grind
theorem Zw{src dst}{x z}{u}(hx:RV w A ρ h x u)(hs:(P.underlying src).isSome=true)(hd:P.underlying dst=some .string)(hz:EZ x=some z):
  RL P w A ρ h (convert src dst u) z:=by
 unfold EZ at hz;split at hz
 ·obtain⟨rfl,_⟩:=hx.v_inv;cases hz;obtain⟨d,hd'⟩:=Option.isSome_iff_exists.1 hs;exact⟨_,by simp_all[convert,run_underlying],.dat (.v _ rfl)⟩
 ·obtain⟨rfl,_⟩:=hx.v_inv;cases hz;obtain⟨d,hd'⟩:=Option.isSome_iff_exists.1 hs;exact⟨_,by simp_all[convert,run_underlying,Conv.intToString],.dat (.v _ rfl)⟩
 grind
end
section
variable {P:Program} {w:World} {A:Nat→Prop} {ρ:bg} {h:ac} {s:ah} {a:Act}
inductive RVo (w:World) (A:Nat->Prop) (ρ:bg) (h:ac):Option AV->Option Value->Prop
 |none:RVo w A ρ h none none
 |some {x:AV} {u:Value} (hv:RV w A ρ h x u):RVo w A ρ h (some x) (some u)
theorem RH{x}{y}(hc:sC x=some y)(hs:RS w A ρ h s a.tmps):RVo w A ρ h (evo s y) (x.map a.eval):=by
 cases x with
 |none=>simp[sC]at hc;subst hc;exact .none
 |some x=>
  simp only[sC,adV]at hc;obtain⟨p,h1,rfl⟩:=hc;exact .some (QV h1 hs)
theorem SB{d n}{x}{u}{r}(hx:RV w A ρ h x u)(hb:jK d n (some x)=some r)(y)(hy:n<=y)(code):
  (Instr.sliceBound u y code).run P w=.ok r w/\r<=n:=by
 cases x with
 |v x=>
  obtain⟨rfl,_⟩:=hx.v_inv;cases u with
  |int k i=>
   grind[jK,run_sliceBound]
  |_=>simp[jK]at hb
 |_=>simp[jK]at hb
theorem RQ{n cap}(isS){lo hi mx}{lo' hi' mx'}(hl:RVo w A ρ h lo lo')(hh:RVo w A ρ h hi hi')(hm:RVo w A ρ h mx mx'){l r}
  (hb:jl n lo hi mx=some (l,r)) (hc:n<=cap):∃m,(Instr.sliceBounds isS n cap lo' hi' mx').run P w=.ok (l,r,m) w/\l<=r/\r<=n/\r<=m/\m<=cap/\(mx=none->m=cap)/\(Cg mx=true->m=0):=by
 have low:∀r,(jK 0 r lo).bind (fun x=>some (x,r))=some (l,r)->∀code,((match lo' with|some v=>Instr.sliceBound v r code|none=>pure 0)).run P w=.ok l w/\l<=r:=by
  intro r hb code;cases hl with
  |none=>simp[jK]at hb;subst hb;simp_all
  |some hv=>
   simp only[QS]at hb;obtain⟨x,h1,h2⟩:=hb;cases h2;exact SB hv h1 r (QK _) code
 cases hm with
 |none=>
  simp only[jl,QS]at hb;obtain⟨q,h1,x,h2,h3⟩:=hb;have hq:q=r:=by grind
  subst hq;have h4:=low q (by grind);cases hh with
  |none=>
   simp[jK]at h1;subst h1;refine⟨cap,?_,(h4 .sliceB).2,QK _,hc,QK _,fun _=>rfl,fun e=>by grind[Cg]⟩;cases lo'<;>simp_all[Instr.sliceBounds]
  |some hv=>
   have h6:=fun code=>SB (P:=P) hv h1 cap hc code;refine⟨cap,?_,(h4 .sliceB).2,(h6 .sliceB).2,QU (h6 .sliceB).2 hc,QK _,fun _=>rfl,fun e=>by grind[Cg]⟩;cases lo'<;>simp_all[Instr.sliceBounds]
 |some hm=>
  rename_i xm um;simp only[jl,QS]at hb;obtain⟨m,h0,hb⟩:=hb;cases hh with
  |none=>grind
  |some hv=>
   simp only[QS]at hb;obtain⟨q,h1,x,h2,h3⟩:=hb;have hq:q=r:=by grind
   subst hq;have h4:=low q (by grind);have h6:=fun code=>SB (P:=P) hv h1 m (QK _) code;have h8:=fun code=>SB (P:=P) hm h0 cap hc code;refine⟨m,?_,(h4 .slice3C).2,QU (h6 .slice3B).2 (h8 .slice3B).2,(h6 .slice3B).2,QU (h8 .slice3B).2 hc,fun e=>by grind,fun e=>?_⟩
   ·cases lo'<;>simp_all[Instr.sliceBounds]
   ·cases xm with
    |v x=>
     cases x with
     |int k i=>
      have:i=0:=by
       unfold Cg at e;grind
      grind[jK]
     |_=>simp[Cg]at e
    |_=>simp[Cg]at e
theorem Zx{t e}{k}(ht:P.underlying t=some (.slice e))(hk:cW P e=some k){x z}{u}{lo hi mx}{lo' hi' mx'}
  (hx:RV w A ρ h x u) (hl:RVo w A ρ h lo lo') (hh:RVo w A ρ h hi hi') (hm:RVo w A ρ h mx mx') (hz:gO k x lo hi mx=some z):
  RL P w A ρ h (Instr.sliceAt t u lo' hi' mx') z:=by
 have hsz:∀w,(sizeOf e).run P w=.ok k w:=by
  intro w;simp only[cW,adV]at hk;obtain⟨i,h1,h2⟩:=hk
  simp_all[sizeOf,typeInfo]
 have run:∀a n cap l r m,(Instr.sliceBounds true n cap lo' hi' mx').run P w=.ok (l,r,m) w->
   (Instr.sliceAt t (.slice a n cap) lo' hi' mx').run P w=.ok (.slice (if m=l then a else a.map (·.add (l*k))) (r-l) (m-l)) w:=by
  simp_all[Instr.sliceAt,Instr.slice,run_underlying]
 cases x with
 |emp=>
  obtain⟨a,rfl⟩:=hx.emp_inv;simp only[gO,adV]at hz;obtain⟨⟨l,r⟩,h1,rfl⟩:=hz;obtain⟨m,h2,h3,h4,h5,h6,_⟩:=RQ (P:=P) true hl hh hm h1 (QK 0);grind
 |sl k' rows=>
  obtain⟨a,cap,rfl,hcap⟩:=hx.sl_inv.sl_form;simp only[gO]at hz;split at hz
  ·rename_i hkk;subst hkk;simp only[adV]at hz;obtain⟨⟨l,r⟩,h1,rfl⟩:=hz;obtain⟨m,h2,h3,h4,h5,h6,h7,h8⟩:=RQ (P:=P) true hl hh hm h1 hcap;refine⟨_,run _ _ _ _ _ _ h2,?_⟩;split
   ·rename_i hZ;have:=h8 hZ;have:l=0:=by omega
    have:r=0:=by omega
    subst_vars
    exact .dat (.emp _)
   ·have hd:=hx.sl_inv;cases hd with
    |sl _ _ _ _ ad vals hc ha hk' hv hdl hr=>
     have hlen:((rows.drop l).take (r-l)).length=r-l:=by grind
     have key:RD w A (.sl k' ((rows.drop l).take (r-l))) (.slice (if m=l then a else a.map (·.add (l*k'))) ((rows.drop l).take (r-l)).length (m-l)):=by
      have at_:∀i row,((rows.drop l).take (r-l))[i]?=some row->rows[l+i]?=some row:=by
       grind
      refine .sl k' _ _ _ (ad.add (l*k')) (fun i j=>vals (l+i) j) (by omega) (fun hne=>?_) (fun row hrow=>hk' row (List.mem_of_mem_drop (List.mem_of_mem_take hrow))) (fun i row j c h1 h2=>?_) (fun row hrow=>hdl row (List.mem_of_mem_drop (List.mem_of_mem_take hrow))) (fun i row j c h1 h2=>hr _ _ _ _ (at_ i row h1) h2)
      ·have hlr:l<r:=by
        rcases Nat.lt_or_ge l r with hlt|hge
        all_goals simp_all
       have hr0:rows≠[]:=by grind
       obtain⟨ha1,ha2,ha3⟩:=ha hr0;refine⟨?_,by grind[mR],UK _ ha3⟩;grind
      grind[SU,Nat.add_assoc,ad8]
     rw[hlen]at key;exact .dat key
  grind
 |rsl id sub k' l0 n=>
  obtain⟨a,cap,rfl,hp,hn,hb,ha⟩:=hx.rsl_inv;simp only[gO]at hz;split at hz
  ·rename_i hkk;subst hkk;simp only[adV]at hz;obtain⟨⟨l,r⟩,h1,rfl⟩:=hz;obtain⟨m,h2,h3,h4,h5,h6,h7,h8⟩:=RQ (P:=P) true hl hh hm h1 hn;cases hmx:mx with
   |some mv=>
    exact⟨_,run _ _ _ _ _ _ h2,.anyv _⟩
   |none=>
   have hmc:=h7 hmx;refine⟨_,run _ _ _ _ _ _ h2,.rsl _ _ _ _ _ _ _ hp (by omega) (by grind) ?_⟩;rcases ha with h0|h0
   ·omega
   ·by_cases hml:m=l
    all_goals simp_all[if_neg,ad5,Ru,ad8]
  grind
 |rsc id k' l0 n c=>
  obtain⟨a,rfl,hp,hn,hb,ha⟩:=hx.rsc_inv;simp only[gO]at hz;split at hz
  ·rename_i hkk;subst hkk;unfold AR at hz;split at hz
   ·rename_i hi;cases hm;cases hl;simp only[adV]at hz;obtain⟨r,h1,rfl⟩:=hz;cases hh with
    | @some _ uh hv=>
    have h6:=fun code=>SB (P:=P) hv h1 c (QK _) code;have hbd:(Instr.sliceBounds true n c none (some uh) none).run P w=.ok (0,r,c) w:=by
     simp_all[Instr.sliceBounds]
    refine⟨_,run _ _ _ _ _ _ hbd,.rsc _ _ _ _ _ _ hp (by have:=(h6 .sliceAcap).2;omega) hb ?_⟩;rcases ha with h0|h0
    all_goals simp_all[if_neg,Ru]
   ·simp only[adV]at hz;obtain⟨⟨l,r⟩,h1,rfl⟩:=hz;cases hm;obtain⟨m,h2,h3,h4,h5,h6,h7,h8⟩:=RQ (P:=P) true hl hh .none h1 hn;have hmc:=h7 rfl;refine⟨_,run _ _ _ _ _ _ h2,.rsl _ _ _ _ _ _ _ hp (by omega) (by grind) ?_⟩;rcases ha with h0|h0
    ·omega
    ·by_cases hml:m=l
     all_goals simp_all[if_neg,ad5,Ru,ad8]
   grind
  grind
 |_=>simp[gO]at hz
theorem Yf{t}(ht:P.underlying t=some .string){x z}{u}{lo hi}{lo' hi'}
  (hx:RV w A ρ h x u) (hl:RVo w A ρ h lo lo') (hh:RVo w A ρ h hi hi') (hz:DV x lo hi=some z):RL P w A ρ h (Instr.sliceAt t u lo' hi' none) z:=by
 unfold DV at hz;split at hz
 ·obtain⟨rfl,_⟩:=hx.v_inv;simp only[adV]at hz;obtain⟨⟨l,r⟩,h1,rfl⟩:=hz;obtain⟨m,h2,_⟩:=RQ (P:=P) (mx:=none) (mx':=none) false hl hh .none h1 (QK _);exact⟨_,by simp_all[Instr.sliceAt,Instr.slice,run_underlying],.dat (.v _ rfl)⟩
 grind
end
section
variable {P:Program} {w:World} {A:Nat→Prop} {ρ:bg} {h:ac} {s:ah} {a:Act}
theorem Re{e}{k}(hk:cW P e=some k)(w):(sizeOf e).run P w=.ok k w:=by
 simp only[cW,adV]at hk;obtain⟨i,h1,h2⟩:=hk
 simp_all[sizeOf,typeInfo]
theorem Uj{e}{g}(hg:xH P e=some g)(w):(isAgg e).run P w=.ok g w:=by
 unfold xH at hg;split at hg
 all_goals simp_all[isAgg,Sem.run_bind,run_underlying,Result.andThen]
theorem Uq{t}{f}{fd}(hf:Cn P t f=some fd):∃fs,P.underlying t=some (.struct fs)/\fs[f]?=some fd:=by
 grind[Cn]
theorem RV.ipt_drop{cs}{u}(n)(hx:RV w A ρ h (.ipt cs) u):∃ad,u=.pointer (some ad)/\RV w A ρ h (.ipt (cs.drop n)) (.pointer (some (ad.add n))):=by
 cases hx with
 |dat hd=>cases hd
 |ipt _ ad vals hA hs hv hl hr=>
  refine⟨ad,rfl,.ipt _ _ (fun j=>vals (n+j)) (by rw[mR];omega) (UK _ hs) (fun j c hc=>?_) (fun c hc=>hl c (List.mem_of_mem_drop hc)) (fun j c hc=>?_)⟩
  ·rw[SU];grind
  grind
theorem Yg{t}{f}{fd}{k}(hf:Cn P t f=some fd)(hk:cW P fd.type=some k)(hk0:k≠0){x z}{u}(hx:RV w A ρ h x u)(hz:qM fd.offset x=some z):
  RL P w A ρ h (Instr.fieldAt t u f) z:=by
 obtain⟨fs,h1,h2⟩:=Uq hf;have run:∀ad,(Instr.fieldAt t (.pointer (some ad)) f).run P w=.ok (.pointer (some (ad.add fd.offset))) w:=by
  simp_all[Instr.fieldAt,run_underlying,Instr.sureAddr,fieldPlace,Re]
 cases x with
 |ref id sub k i j=>
  obtain⟨rfl,hp⟩:=hx.ref_inv;simp[qM]at hz;subst hz;refine⟨_,run _,?_⟩;rw[Ru,Nat.add_assoc];exact .ref _ _ _ _ _ hp
 |ipt cs=>
  simp[qM]at hz;obtain⟨ad,rfl,h3⟩:=hx.ipt_drop fd.offset;grind
 |_=>simp[qM]at hz
theorem UW{e}{k off}{g}(hk:cW P e=some k)(hg:xH P e=some g){cs}{us}{z}(hs:us.size=cs.length)
  (h1:∀ (i:Nat) u,us[i]?=some u->u.oneCell'=true) (hr:∀ (i:Nat) c u,cs[i]?=some c->us[i]?=some u->RV w A ρ h c u) (hz:iZ k g cs off=some z):
  RL P w A ρ h (part e us off) z:=by
 unfold iZ at hz;cases g with
 |true=>
  simp only[if_true]at hz;split at hz
  ·cases hz;refine⟨.agg (us.extract off (off+k)),by simp_all[part,Uj,Re],.agg _ _ ?_ (fun i u hu=>?_) (fun i c u hc hu=>?_)⟩
   ·grind
   ·rw[Array.getElem?_extract]at hu;grind
   grind
  grind
 |false=>
  have hlt:off<us.size:=by grind
  obtain⟨u,hu⟩:∃u,us[off]?=some u:=⟨us[off],Array.getElem?_eq_getElem hlt⟩;exact⟨u,by simp_all[part,Uj],hr _ _ _ hz hu⟩
theorem Zy{t}{f}{fd}{k}{g}(hf:Cn P t f=some fd)(hk:cW P fd.type=some k)(hg:xH P fd.type=some g){x z}{u}(hx:RV w A ρ h x u)(hz:CY fd.offset k g x=some z):
  RL P w A ρ h (Instr.field t u f) z:=by
 obtain⟨fs,h1,h2⟩:=Uq hf;unfold CY at hz;split at hz
 ·obtain⟨us,rfl,hs,h3,hr⟩:=hx.agg_inv;obtain⟨v,h4,h5⟩:=UW hk hg hs h3 hr hz;exact⟨v,by simp_all[Instr.field,run_underlying,asAgg],h5⟩
 grind
theorem Xk{t e}{k}(ht:P.underlying t=some (.slice e))(hk:cW P e=some k){x i z}{u v}(hx:RV w A ρ h x u)(hi:RV w A ρ h i v)(hz:kJ k x i=some z):
  RL P w A ρ h (Instr.indexAt t u v) z:=by
 have he:P.elem t=e:=by grind[Program.elem]
 unfold kJ at hz;split at hz
 ·split at hz
  ·rename_i k' rows kk q hkk;obtain⟨rfl,_⟩:=hi.v_inv;unfold ey at hz;split at hz
   ·simp only[adV]at hz;obtain⟨row,h1,rfl⟩:=hz;have hlt:=(List.getElem?_eq_some_iff.1 h1).1;have hne:rows≠[]:=by grind
    have hd:=hx.sl_inv;cases hd with
    |sl _ _ a cap ad vals hc ha hk' hv hdl hr=>
     obtain⟨rfl,hA,hsp⟩:=ha hne;refine⟨_,?_,.ipt row (ad.add (q.toNat*k')) (vals q.toNat) (by grind[mR]) (UK _ hsp) (fun j c hc=>by grind[SU]) (hdl row (QR h1)) (fun j c hc=>hr _ _ _ _ h1 hc)⟩
     simp_all[run_indexAt_slice,if_pos,Re]
   grind
  grind
 ·split at hz
  ·rename_i id sub k' lo n kk q hkk;subst hkk;split at hz
   ·cases hz;obtain⟨rfl,_⟩:=hi.v_inv;obtain⟨a,cap,rfl,hp,hn,hb,ha⟩:=hx.rsl_inv;have ha:a=some ⟨(ρ id sub).1,lo*k',none⟩:=by
     grind
    refine⟨_,?_,.ref id sub k' (lo+q.toNat) 0 hp⟩
    simp_all[run_indexAt_slice,if_pos,Re,Result.andThen,Ru,Nat.add_zero,ad8]
   grind
  grind
 grind
theorem Xl{t e}{n k}(ht:P.underlying t=some (.array n e))(hk:cW P e=some k){x i z}{u v}(hx:RV w A ρ h x u)(hi:RV w A ρ h i v)(hz:su n k x i=some z):
  RL P w A ρ h (Instr.indexAt t u v) z:=by
 have he:P.elem t=e:=by grind[Program.elem]
 have hn:P.arrayLen t=n:=by grind[Program.arrayLen]
 have run:∀ad kk (q:Int),0<=q/\q<n->(Instr.indexAt t (.pointer (some ad)) (.int kk q)).run P w=.ok (.pointer (some (ad.add (q.toNat*k)))) w:=by
  simp_all[run_indexAt_array,if_pos,Re]
 unfold su at hz;split at hz
 ·split at hz
  ·cases hz;obtain⟨rfl,_⟩:=hi.v_inv;obtain⟨rfl,hp⟩:=hx.ref_inv;refine⟨_,run _ _ _ (by omega),?_⟩;rw[Ru,Nat.add_assoc];exact .ref _ _ _ _ _ hp
  grind
 ·split at hz
  ·rename_i cs kk q hq;obtain⟨rfl,_⟩:=hi.v_inv;obtain⟨ad,rfl,h3⟩:=hx.ipt_drop (q.toNat*k);grind
  grind
 grind
theorem Yh{t}(ht:P.underlying t=some .string){x i z}{u v}(hx:RV w A ρ h x u)(hi:RV w A ρ h i v)(hz:wS x i=some z):RL P w A ρ h (Instr.index t u v) z:=by
 unfold wS at hz;split at hz
 ·obtain⟨rfl,_⟩:=hi.v_inv;obtain⟨rfl,_⟩:=hx.v_inv;split at hz
  ·simp only[adV]at hz;obtain⟨b,h1,rfl⟩:=hz;exact⟨_,by simp_all[Instr.index,asIntOf,run_underlying],.dat (.v _ rfl)⟩
  grind
 grind
theorem Yi{t e}{n k}{g}(ht:P.underlying t=some (.array n e))(hk:cW P e=some k)(hg:xH P e=some g){x i z}{u v}(hx:RV w A ρ h x u)(hi:RV w A ρ h i v)(hz:DW n k g x i=some z):
  RL P w A ρ h (Instr.index t u v) z:=by
 unfold DW at hz;split at hz
 ·split at hz
  ·obtain⟨rfl,_⟩:=hi.v_inv;obtain⟨us,rfl,hs,h3,hr⟩:=hx.agg_inv;obtain⟨v,h4,h5⟩:=UW hk hg hs h3 hr hz;exact⟨v,by simp_all[Instr.index,asIntOf,run_underlying,Re],h5⟩
  grind
 grind
theorem Zz{i}{x z}{u}(hx:RV w A ρ h x u)(hz:CZ i x=some z):RL P w A ρ h (Instr.extract u i) z:=by
 unfold CZ at hz;split at hz
 ·cases hx with
  |dat hd=>cases hd
  |tup vs us hs hr=>
   have hlt:i<us.size:=by grind
   obtain⟨u,hu⟩:∃u,us[i]?=some u:=⟨us[i],Array.getElem?_eq_getElem hlt⟩;exact⟨u,by simp[Instr.extract,hu],hr _ _ _ hz hu⟩
 grind
theorem Yj{t ty e}{ts}(h0:ts[0]?=some t)(ht:P.underlying t=some (.slice e)){x z}{u}(hx:RV w A ρ h x u)(hz:oB false x=some z):RL P w A ρ h (Builtin.len_ ts ty #[u]) z:=by
 have run:∀a n c,(Builtin.len_ ts ty #[.slice a n c]).run P w=.ok (goInt n) w:=by
  simp_all[Builtin.len_,run_underlying]
 cases x with
 |emp=>obtain⟨a,rfl⟩:=hx.emp_inv;simp[oB]at hz;subst hz;exact⟨_,run _ _ _,.dat (.v _ rfl)⟩
 |sl k rows=>obtain⟨a,cap,rfl,_⟩:=hx.sl_inv.sl_form;simp[oB]at hz;subst hz;exact⟨_,run _ _ _,.dat (.v _ rfl)⟩
 |rsl=>obtain⟨a,cap,rfl,_⟩:=hx.rsl_inv;simp[oB]at hz;subst hz;exact⟨_,run _ _ _,.dat (.v _ rfl)⟩
 |rsc=>obtain⟨a,rfl,_⟩:=hx.rsc_inv;simp[oB]at hz;subst hz;exact⟨_,run _ _ _,.dat (.v _ rfl)⟩
 |v x=>cases x<;>simp[oB]at hz
 |_=>simp[oB]at hz
theorem Yk{t ty}{ts}(h0:ts[0]?=some t)(ht:P.underlying t=some .string){x z}{u}(hx:RV w A ρ h x u)(hz:oB true x=some z):RL P w A ρ h (Builtin.len_ ts ty #[u]) z:=by
 cases x with
 |v x=>
  cases x with
  |string b=>
   obtain⟨rfl,_⟩:=hx.v_inv;simp[oB]at hz;subst hz;exact⟨_,by simp[Builtin.len_,h0,run_underlying ht];rfl,.dat (.v _ rfl)⟩
  |_=>simp[oB]at hz
 |_=>simp[oB]at hz
theorem ZA{t ty e}{ts}(h0:ts[0]?=some t)(ht:P.underlying t=some (.slice e)){x z}{u}(hx:RV w A ρ h x u)(hz:C0 x=some z):RL P w A ρ h (Builtin.cap_ ts ty #[u]) z:=by
 unfold C0 at hz;split at hz
 ·obtain⟨a,rfl⟩:=hx.emp_inv;cases hz;exact⟨_,by simp[Builtin.cap_,h0,run_underlying ht];rfl,.dat (.v _ rfl)⟩
 ·obtain⟨a,rfl,_⟩:=hx.rsc_inv;cases hz;exact⟨_,by simp[Builtin.cap_,h0,run_underlying ht];rfl,.dat (.v _ rfl)⟩
 grind
theorem Yl{m}{x y z}{u v}(hx:RV w A ρ h x u)(hy:RV w A ρ h y v)(hz:AS m x y=some z):
  ∃r,(if m then Builtin.min2 u v else Builtin.max2 u v)=pure r/\RV w A ρ h z r:=by
 unfold AS at hz;split at hz
 ·obtain⟨rfl,_⟩:=hx.v_inv;obtain⟨rfl,_⟩:=hy.v_inv;cases hz;cases m
  ·exact⟨_,by simp only[ad0,if_false,Builtin.max2],.dat (.v _ rfl)⟩
  ·exact⟨_,by simp only[if_true,Builtin.min2],.dat (.v _ rfl)⟩
 grind
theorem UX{m}:∀ {ys} {vs:List Value} {x z} {u},RV w A ρ h x u->vs.length=ys.length->(∀ (i:Nat) c u,ys[i]?=some c->vs[i]?=some u->RV w A ρ h c u)->tu m x ys=some z->
  ∃r,(vs.foldlM (fun a b=>if m then Builtin.min2 a b else Builtin.max2 a b) u).run P w=.ok r w/\RV w A ρ h z r
 |[],[],x,z,u,hx,_,_,hz=>by
  simp_all[tu,Option.some.injEq]
 |[],v::vs,x,z,u,_,hl,_,_=>by grind
 |y::ys,[],x,z,u,_,hl,_,_=>by grind
 |y::ys,v::vs,x,z,u,hx,hl,hv,hz=>by
  simp only[tu,QS]at hz;obtain⟨c,e1,e2⟩:=hz;obtain⟨r,h1,h2⟩:=Yl hx (hv 0 y v rfl rfl) e1;obtain⟨r',h3,h4⟩:=UX h2 (by simpa using hl) (fun i c u h5 h6=>hv (i+1) c u (by grind) (by grind)) e2;grind
theorem VH{m}{ts}{ty}{x z}{ys}{u}{vs}{args}(ha:args.toList=u::vs)(hx:RV w A ρ h x u)(hl:vs.length=ys.length)(hy:∀ (i:Nat) c u,ys[i]?=some c->vs[i]?=some u->RV w A ρ h c u)(hz:tu m x ys=some z):
  RL P w A ρ h (if m then Builtin.min_ ts ty args else Builtin.max_ ts ty args) z:=by
 obtain⟨r,h1,h2⟩:=UX (P:=P) hx hl hy hz;refine⟨r,?_,h2⟩;cases m
 all_goals simp_all[ad0,if_false,Builtin.max_,if_true,Builtin.min_]
theorem ve(j):∀cs row,(setRow row j cs).length=row.length:=by
 intro cs;induction cs generalizing j with
 |nil=>intro row;rfl
 |cons c cs ih=>grind[setRow,List.length_set]
theorem Bu(i):∀cs row j,j+cs.length<=row.length->(setRow row j cs)[i]?=if j<=i/\i<j+cs.length then cs[i-j]? else row[i]?:=by
 intro cs;induction cs with
 |nil=>grind[setRow]
 |cons c cs ih=>
  simp only[setRow];grind
def Cells(w:World)(A:Nat->Prop)(ρ:bg)(h:ac)(cs:List AV)(us:Array Value):Prop:=
 us.size=cs.length/\(∀ (i:Nat) u,us[i]?=some u->u.oneCell'=true)/\(∀ (i:Nat) c u,cs[i]?=some c->us[i]?=some u->RV w A ρ h c u)
theorem Sz{x}{u}{cs}(hx:RV w A ρ h x u)(hc:cX x=some cs):Cells w A ρ h cs u.cells:=by
 have one:∀ {x} {u},RV w A ρ h x u->u.oneCell'=true->u.cells=#[u]->Cells w A ρ h [x] u.cells:=by
  intro x u hx h1 h2;rw[h2];refine⟨rfl,fun i v hv=>?_,fun i c v hc hv=>?_⟩
  all_goals grind
 unfold cX at hc;split at hc
 ·cases hc;obtain⟨us,rfl,h1,h2,h3⟩:=hx.agg_inv;exact⟨h1,h2,h3⟩
 all_goals first| (cases hc;done)|skip
 have h1:u.oneCell'=true/\u.cells=#[u]:=by
  cases x with
  |v x=>obtain⟨rfl,h⟩:=hx.v_inv;exact⟨Tw h,by cases u<;>first|rfl|simp[Fe]at h⟩
  |emp=>obtain⟨a,rfl⟩:=hx.emp_inv;exact⟨rfl,rfl⟩
  |sl k rows=>obtain⟨a,cap,rfl,_⟩:=hx.sl_inv.sl_form;exact⟨rfl,rfl⟩
  |ref=>obtain⟨rfl,_⟩:=hx.ref_inv;exact⟨rfl,rfl⟩
  |rsl=>obtain⟨a,cap,rfl,_⟩:=hx.rsl_inv;exact⟨rfl,rfl⟩
  |rsc=>obtain⟨a,rfl,_⟩:=hx.rsc_inv;exact⟨rfl,rfl⟩
  |ipt cs=>obtain⟨ad,rfl,_⟩:=hx.ipt_drop 0;exact⟨rfl,rfl⟩
  |fn=>obtain⟨us,ts,rfl,_⟩:=hx.fn_inv;exact⟨rfl,rfl⟩
  |_=>simp_all
 grind
theorem Cells.set{cs ds}{us vs}{off}(hc:Cells w A ρ h cs us)(hd:Cells w A ρ h ds vs)(hle:off+ds.length<=cs.length):
  Cells w A ρ h (setRow cs off ds) (vs.zipIdx.foldl (fun cs (c,j)=>cs.setIfInBounds (off+j) c) us):=by
 have fold:∀ (l:List Value) k (us:Array Value),((l.zipIdx k).foldl (fun cs x=>cs.setIfInBounds (off+x.2) x.1) us).size=us.size/\
   ∀i,off+k+l.length<=us.size->((l.zipIdx k).foldl (fun cs x=>cs.setIfInBounds (off+x.2) x.1) us)[i]?=if off+k<=i/\i<off+k+l.length then l[i- (off+k)]? else us[i]?:=by
  intro l;induction l with
  |nil=>intro k us;exact⟨by simp,fun i _=>by simp;omega⟩
  |cons v l ih=>
   simp only[List.zipIdx_cons,List.foldl_cons];grind
 have e:vs.zipIdx.foldl (fun cs (c,j)=>cs.setIfInBounds (off+j) c) us=(vs.toList.zipIdx 0).foldl (fun cs x=>cs.setIfInBounds (off+x.2) x.1) us:=by
  rw[←Array.foldl_toList,Array.toList_zipIdx]
 obtain⟨h1,h2⟩:=fold vs.toList 0 us;have hl:vs.toList.length=ds.length:=by simpa using hd.1
 have g:∀i,(vs.zipIdx.foldl (fun cs (c,j)=>cs.setIfInBounds (off+j) c) us)[i]?=if off<=i/\i<off+ds.length then vs[i-off]? else us[i]?:=by
  intro i;rw[e,h2 i (by rw[hl,hc.1];omega)];grind
 refine⟨by rw[e,h1,ve];exact hc.1,fun i u hu=>?_,fun i c u hcc hu=>?_⟩
 ·rw[g]at hu;split at hu
  ·exact hd.2.1 _ _ hu
  ·exact hc.2.1 _ _ hu
 ·rw[g]at hu;rw[Bu i ds cs off hle]at hcc;split at hu
  ·rename_i hi;rw[if_pos hi]at hcc;exact hd.2.2 _ _ _ hcc hu
  ·rename_i hi;rw[if_neg hi]at hcc;exact hc.2.2 _ _ _ hcc hu
theorem Tx{place}(hs:RS w A ρ h s a.tmps):∀ps q,sD P place ps=some q->
  ∀zero us,Cells w A ρ h zero us->∀cs,nE zero (q.map fun p=>(p.1,p.2.1,ev s p.2.2))=some cs->
   ∃vs,Instr.fill place us (ps.map fun p=>(p.1,a.eval p.2))=some vs/\Cells w A ρ h cs vs
 |[],q,hq,zero,us,hz,cs,hb=>by
  simp[sD]at hq;subst hq;simp[nE]at hb;subst hb;exact⟨us,rfl,hz⟩
 | (i,x)::ps,q,hq,zero,us,hz,cs,hb=>by
  simp only[sD,QS]at hq;obtain⟨⟨off,k⟩,h1,y,h2,q',h3,h4⟩:=hq;cases h4;simp only[List.map_cons,nE,QS]at hb;obtain⟨ds,h5,h6⟩:=hb;split at h6
  ·have h7:=Sz (QV h2 hs) h5;have h8:=hz.set (off:=off) h7 (by omega);obtain⟨vs,h9,h10⟩:=Tx hs ps q' h3 _ _ h8 cs h6;refine⟨vs,?_,h10⟩;simp only[List.map_cons,Instr.fill,h1];rw[if_neg (by have e1:=h7.1;have e2:=hz.1;grind)];omega
  grind
theorem UY:∀l cs,Ff l=some cs->Cells w A ρ h cs l.toArray
 |[],cs,hc=>by simp[Ff]at hc;subst hc;exact⟨rfl,fun i u hu=>by grind,fun i c u hc=>by grind⟩
 |v::l,cs,hc=>by
  simp only[Ff,QS]at hc;obtain⟨c,h1,q,h2,h3⟩:=hc;cases h3;obtain⟨e1,e2,e3⟩:=UY l q h2;have hv:RD w A c v:=VD h1;have ho:v.oneCell'=true:=by unfold HX at h1;split at h1<;>first|rfl|cases h1
  refine⟨by grind,fun i u hu=>?_,fun i c' u hc hu=>?_⟩
  ·cases i with
   |zero=>grind
   |succ i=>exact e2 i u (by grind)
  ·cases i with
   |zero=>simp at hu hc;subst hu hc;exact .dat hv
   |succ i=>grind
theorem Ry{t}{zs}(hz:mS P t=some zs):∃ (i:TypeInfo) (z:Value),P.info? t=some i/\i.zero=some z/\z.cells.size=i.size/\zs.length=i.size/\Cells w A ρ h zs z.cells:=by
 simp only[mS,QS]at hz;obtain⟨i,h1,z,h2,h3⟩:=hz;split at h3
 ·rename_i h4;have h5:=UY (w:=w) (A:=A) (ρ:=ρ) (h:=h) _ _ h3;refine⟨i,z,h1,h2,h4,?_,by omega⟩;have:=h5.1;grind
 grind
theorem Xm{t}{ps:Array (Nat×Operand)}{pop}(hc:Fh P t ps.toList=some pop)(hs:RS w A ρ h s a.tmps){z}(hz:dw s pop=some z):
  RL P w A ρ h (Instr.build t (ps.map fun(i,x)=>(i,a.eval x))) z:=by
 simp only[Fh,QS]at hc;obtain⟨zs,h1,hc⟩:=hc;obtain⟨i,zv,g1,g2,g3,g4,g5⟩:=Ry (w:=w) (A:=A) (ρ:=ρ) (h:=h) h1;have hzero:∀w,(zeroValue t).run P w=.ok zv w:=fun w=>by simp_all[zeroValue,typeInfo]
 split at hc
 ·rename_i fs ht;split at hc
  ·rename_i hall;simp only[adV]at hc;obtain⟨q,h2,rfl⟩:=hc;simp only[dw,adV]at hz;obtain⟨cs,h3,rfl⟩:=hz;obtain⟨vs,h4,h5⟩:=Tx hs _ _ h2 _ _ g5 _ h3;refine⟨.agg vs,?_,.agg _ _ h5.1 h5.2.1 h5.2.2⟩;have hplaces:∀w,(fs.mapM fun f=>(do pure (f.offset,←sizeOf f.type):Sem (Nat×Nat))).run P w=.ok (fs.map fun f=>(f.offset,(cW P f.type).getD 0)) w:=by
    intro w;rw[Array.mapM_eq_mapM_toList];have:∀l:List Field,(∀f∈l,(cW P f.type).isSome)->(l.mapM fun f=>(Prod.mk f.offset<$>sizeOf f.type)).run P w=.ok (l.map fun f=>(f.offset,(cW P f.type).getD 0)) w:=by
     intro l;induction l with
     |nil=>simp_all
     |cons f l ih=>
      intro hl;obtain⟨k,hk⟩:=Option.isSome_iff_exists.1 (hl f (by simp))
      simp_all[Re]
    have hall':∀f∈fs.toList,(cW P f.type).isSome:=by
     intro f hf;have:=Array.all_eq_true_iff_forall_mem.1 hall f (by grind);omega
    simp[this _ hall'];grind
   have hpl:(fun i=>(fs.map fun f=>(f.offset,(cW P f.type).getD 0))[i]?)=Ag P fs:=by
    funext i;simp only[Ag,Array.getElem?_map];cases hf:fs[i]? with
    |none=>rfl
    |some f=>
     obtain⟨k,hk⟩:=Option.isSome_iff_exists.1 (show(cW P f.type).isSome from by
      grind)
     grind
   simp_all[Instr.build,Sem.run_bind,run_underlying,Result.andThen]
  grind
 ·simp only[QS,adV]at hc;obtain⟨k,hk,q,h2,rfl⟩:=hc;simp only[dw,adV]at hz;obtain⟨cs,h3,rfl⟩:=hz;obtain⟨vs,h4,h5⟩:=Tx hs _ _ h2 _ _ g5 _ h3;refine⟨.agg vs,?_,.agg _ _ h5.1 h5.2.1 h5.2.2⟩
  simp_all[Instr.build,Sem.run_bind,run_underlying,Result.andThen,Re]
 grind
theorem ZB{f}{xs ys}{x y}(hx:oJ xs=some x)(hy:oJ ys=some y)(hs:RS w A ρ h s a.tmps):
  RV w A ρ h (.fn f (x.map (ev s)) (y.map (ev s))) (.func (.func f) (xs.map a.eval).toArray (ys.map a.eval).toArray):=by
 obtain⟨h1,h2⟩:=R4 hs hx;obtain⟨h3,h4⟩:=R4 hs hy;have key:∀ {xs:List Operand} {x:List Opd},x.length=xs.length->(∀ (i:Nat) o p,xs[i]?=some o->x[i]?=some p->RV w A ρ h (ev s p) (a.eval o))->
   ∀ (i:Nat) c u,(x.map (ev s))[i]?=some c->(xs.map a.eval).toArray[i]?=some u->RV w A ρ h c u:=by
  grind
 exact .fn f _ _ _ _ (by grind) (by grind) (key h1 h2) (key h3 h4)
theorem aaO{y}(hc:aF y=some (.c .emp)):a.eval y=.slice none 0 0:=by
 cases y with
 |tmp t=>grind[aF]
 |func f=>grind[aF]
 |global g=>grind[aF]
 |const v=>
  simp only[aF,adV,Opd.c.injEq]at hc;obtain⟨c,h1,rfl⟩:=hc;unfold HX at h1;split at h1<;>first| (cases h1;done)|rfl
theorem Ym{op}{n}{t e}{xo yo}{x z}{u}(ht:P.underlying t=some (.slice e))(hx:RV w A ρ h x u)(hop:tF op=some n)(hz:AQ n x=some z):
  RL P w A ρ h (do eqGuard op t xo yo u (.slice none 0 0);binOp op t u (.slice none 0 0)) z:=by
 have hop':(op=.eql/\n=false)\/(op=.neq/\n=true):=by grind[tF]
 have hu:(∃ad m c,u=.slice (some ad) m c)/\z=B n:=by
  unfold AQ at hz;split at hz
  ·cases hx with
   |dat hd=>
    cases hd with
    |sl k rows a cap ad vals hc ha hk hv hl hr=>
     simp_all
  ·split at hz
   ·obtain⟨a,cap,rfl,hp,hn,hb,ha⟩:=hx.rsl_inv;grind
   grind
  grind
 obtain⟨⟨ad,m,c,rfl⟩,rfl⟩:=hu;have heq:(Op.equal t (.slice (some ad) m c) (.slice none 0 0)).run P w=.ok false w:=by
  have h9:∀d,(Op.equalIn (d+1) t (.slice (some ad) m c) (.slice none 0 0)).run P w=.ok false w:=fun d=>by simp[Op.equalIn,run_underlying ht]
  exact h9 9999
 rcases hop' with⟨rfl,rfl⟩| ⟨rfl,rfl⟩
 ·refine⟨.bool false,?_,.dat (.v _ rfl)⟩;simp[eqGuard,binOp,heq,Result.andThen]
 ·refine⟨.bool true,?_,.dat (.v _ rfl)⟩;simp[eqGuard,binOp,heq,Result.andThen]
theorem Yn{op}{pop}(hc:JW P op=some (.p pop))(hs:RS w A ρ h s a.tmps){z}(hz:dw s pop=some z)(o)(ho:o.op=op):
  ∃v,(execOp a.eval o).run P w=.ok (.value v) w/\RV w A ρ h z v:=by
 have fin:∀ {m},RL P w A ρ h m z->∃v,(do pure (.value (←m)):Sem Next).run P w=.ok (.value v) w/\RV w A ρ h z v:=by
  simp_all
 cases op<;>simp only[JW]at hc
 case move=>
  simp only[adV]at hc;obtain⟨y,h1,h2⟩:=hc;cases h2;cases hz
  simp_all[execOp,QV]
 case assign=>
  simp only[adV]at hc;obtain⟨y,h1,h2⟩:=hc;cases h2;cases hz
  simp_all[execOp,QV]
 case pick=>
  simp only[QS,adV]at hc;obtain⟨c,h1,x,h2,y,h3,h4⟩:=hc;cases h4;obtain⟨v,g1,g2⟩:=Yd (P:=P) (QV h1 hs) (QV h2 hs) (QV h3 hs) hz;exact⟨v,by simp only[execOp,ho];rw[Sem.run_bind]at g1⊢;cases hb:(asBool _).run P w<;>rw[hb]at g1<;>simp[Result.andThen]at g1⊢;omega,g2⟩
 case alloc=>simp_all
 case box=>simp_all[QS]
 case build=>
  simp only[adV]at hc;obtain⟨p,h1,h2⟩:=hc;cases h2;simp only[execOp,ho];exact fin (Xm h1 hs hz)
 case buildSlice=>
  simp_all[Ah,QS]
 case load=>
  grind[QS]
 case store=>simp_all[QS]
 case nilCheck=>
  simp only[adV]at hc;obtain⟨y,h1,h2⟩:=hc;cases h2;have hv:=QV h1 hs;simp only[dw]at hz;cases hy:ev s y<;>rw[hy]at hz hv<;>simp[rC]at hz
  all_goals subst hz
  ·obtain⟨e,_⟩:=hv.ref_inv;simp_all[execOp]
  ·obtain⟨ad,e,_⟩:=hv.ipt_drop 0;simp_all[execOp]
  ·obtain⟨us,ts,e,_⟩:=hv.fn_inv;simp_all[execOp]
 case binOp=>
  simp only[QS,adV]at hc;obtain⟨x,h1,y,h2,p,h3,h4⟩:=hc;cases h4;have hx:=QV h1 hs;have hy:=QV h2 hs;simp only[execOp,ho];refine fin ?_;unfold JR at h3;split at h3
  ·simp only[adV]at h3;obtain⟨n,h5,rfl⟩:=h3;exact Tb (tc:=0) hx hy h5 ⟨fun _=>(by omega),fun e=>absurd e (by decide),fun e=>absurd e (by decide),fun k e=>absurd e (by omega)⟩ hz
  ·simp only[adV]at h3;obtain⟨n,h5,rfl⟩:=h3;exact Tb (tc:=1) hx hy h5 ⟨fun e=>absurd e (by decide),fun _=>⟨_,by omega⟩,fun e=>absurd e (by decide),fun k e=>absurd e (by omega)⟩ hz
  ·simp only[adV]at h3;obtain⟨n,h5,rfl⟩:=h3;exact Tb (tc:=2) hx hy h5 ⟨fun e=>absurd e (by decide),fun e=>absurd e (by decide),fun _=>⟨_,_,_,by omega⟩,fun k e=>absurd e (by omega)⟩ hz
  ·cases h3;exact VE hx hy hz
  ·cases h3;exact VE hx hy hz
  ·rename_i e ht;split at h3
   ·simp only[adV]at h3;obtain⟨n,h5,rfl⟩:=h3;rw[aaO h2];exact Ym ht hx h5 hz
   grind
  ·rename_i fs ht;simp only[QS,adV]at h3;obtain⟨k,hk,n,h5,rfl⟩:=h3;exact Tb (tc:=3+k) hx hy h5 ⟨fun e=>absurd e (by omega),fun e=>absurd e (by omega),fun e=>absurd e (by omega),fun k' e=>⟨by rw[show k'=k by omega];exact hk,_,ht⟩⟩ hz
  grind
 case unOp=>
  simp only[adV]at hc;obtain⟨y,h1,h2⟩:=hc;cases h2;simp only[execOp,ho];exact fin (aaM (QV h1 hs) hz)
 case convert=>
  simp only[QS,adV]at hc;obtain⟨x,h1,p,h2,h3⟩:=hc;cases h3;simp only[execOp,ho];unfold GE at h2;split at h2
  ·rename_i e1 e2;cases h2;exact fin (aaN (QV h1 hs) (by grind) e2 hz)
  ·rename_i e1 e2;cases h2;exact fin (Zw (QV h1 hs) (by rw[e1];rfl) e2 hz)
  grind
 case makeFunc fn _ _=>
  cases fn<;>simp only[QS,adV]at hc<;>try (cases hc;done)
  obtain⟨x,h1,y,h2,h3⟩:=hc;cases h3;simp only[dw,Option.some.injEq]at hz;subst hz;simp only[execOp,ho];refine fin ⟨_,rfl,?_⟩;have e:∀l:Array Operand,(l.toList.map a.eval).toArray=l.map a.eval:=fun l=>Array.toList_inj.1 (by simp);have:=ZB (f:=‹FuncId›) h1 h2 hs;grind
 case makeSlice=>
  simp_all[GG,QS]
 case slice=>
  simp only[QS,adV]at hc;obtain⟨x,h1,lo,h2,hi,h3,mx,h4,p,h5,h6⟩:=hc;cases h6;simp only[execOp,ho];refine fin ?_;unfold Fg at h5;split at h5
  ·simp only[adV]at h5;obtain⟨k,h7,rfl⟩:=h5;exact Zx (by omega) h7 (QV h1 hs) (RH h2 hs) (RH h3 hs) (RH h4 hs) hz
  ·split at h5
   ·cases h5;have e4:=RH h4 hs;simp only[evo]at e4;generalize hm:Option.map a.eval _=m at e4⊢;cases e4;exact Yf (by omega) (QV h1 hs) (RH h2 hs) (RH h3 hs) hz
   grind
  grind
 case fieldAddr=>
  simp only[QS]at hc;obtain⟨x,h1,f,h2,k,h3,hc⟩:=hc;split at hc
  ·grind
  ·cases hc;simp only[execOp,ho];exact fin (Yg h2 h3 (by omega) (QV h1 hs) hz)
 case field=>
  simp only[QS,adV]at hc;obtain⟨x,h1,f,h2,k,h3,g,h4,h5⟩:=hc;cases h5;simp only[execOp,ho];exact fin (Zy h2 h3 h4 (QV h1 hs) hz)
 case indexAddr=>
  simp only[QS,adV]at hc;obtain⟨x,h1,i,h2,p,h3,h4⟩:=hc;cases h4;simp only[execOp,ho];refine fin ?_;unfold GF at h3;split at h3
  ·simp only[adV]at h3;obtain⟨k,h5,rfl⟩:=h3;exact Xk (by omega) h5 (QV h1 hs) (QV h2 hs) hz
  ·simp only[adV]at h3;obtain⟨k,h5,rfl⟩:=h3;exact Xl (by omega) h5 (QV h1 hs) (QV h2 hs) hz
  grind
 case index=>
  simp only[QS,adV]at hc;obtain⟨x,h1,i,h2,p,h3,h4⟩:=hc;cases h4;simp only[execOp,ho];refine fin ?_;unfold JS at h3;split at h3
  ·cases h3;exact Yh (by omega) (QV h1 hs) (QV h2 hs) hz
  ·simp only[QS,adV]at h3;obtain⟨k,h5,g,h6,rfl⟩:=h3;exact Yi (by omega) h5 h6 (QV h1 hs) (QV h2 hs) hz
  grind
 case extract=>
  simp only[adV]at hc;obtain⟨y,h1,h2⟩:=hc;cases h2;simp only[execOp,ho];exact fin (Zz (QV h1 hs) hz)
 case call c=>
  unfold GK at hc;split at hc
  ·rename_i b hb;have run:∀args,args=c.args.map a.eval->(execOp a.eval o).run P w=(builtin b c.argTypes o.type (c.args.map fun| .const _=>true|_=>false) args).run P w:=by
    grind[execOp,resolve,Sem.run_bind,Sem.run_pure,Result.andThen,invoke]
   unfold C6 at hc;split at hc
   ·rename_i t ts x e1 e2;simp only[QS,adV]at hc;obtain⟨y,h1,p,h2,h3⟩:=hc;cases h3;have hargs:c.args.map a.eval=#[a.eval x]:=Array.toList_inj.1 (by simp[e2]);have h0:c.argTypes[0]?=some t:=by rw[←Array.getElem?_toList,e1];rfl
    rw[run _ rfl,hargs];unfold JT at h2;split at h2
    ·cases h2;exact fin (Yj h0 (by omega) (QV h1 hs) hz)
    ·cases h2;exact fin (Yk h0 (by omega) (QV h1 hs) hz)
    ·rename_i n e ht;cases h2;simp only[dw,ev,Option.some.injEq]at hz;subst hz;exact fin ⟨_,by simp[Builtin.len_,h0,run_underlying ht];rfl,.dat (.v _ rfl)⟩
    grind
   ·rename_i t ts x e1 e2;simp only[QS,adV]at hc;obtain⟨y,h1,p,h2,h3⟩:=hc;cases h3;have hargs:c.args.map a.eval=#[a.eval x]:=Array.toList_inj.1 (by simp[e2]);have h0:c.argTypes[0]?=some t:=by rw[←Array.getElem?_toList,e1];rfl
    rw[run _ rfl,hargs];unfold JU at h2;split at h2
    ·cases h2;exact fin (ZA h0 (by omega) (QV h1 hs) hz)
    grind
   ·rename_i x l e2;simp only[QS,adV]at hc;obtain⟨x',h1,y',h2,h3⟩:=hc;cases h3;obtain⟨l1,l2⟩:=R4 hs h2;rw[run _ rfl];exact fin (VH (m:=true) (ts:=c.argTypes) (ty:=o.type) (vs:=l.map a.eval) (by simp[e2]) (QV h1 hs) (by grind) (fun i c u h3 h4=>by
     grind) hz)
   ·rename_i x l e2;simp only[QS,adV]at hc;obtain⟨x',h1,y',h2,h3⟩:=hc;cases h3;obtain⟨l1,l2⟩:=R4 hs h2;rw[run _ rfl];exact fin (VH (m:=false) (ts:=c.argTypes) (ty:=o.type) (vs:=l.map a.eval) (by simp[e2]) (QV h1 hs) (by grind) (fun i c u h3 h4=>by
     grind) hz)
   ·unfold JV at hc;split at hc
    all_goals grind[GI,QS]
   ·unfold GJ at hc;grind[QS]
   ·unfold Fi at hc;grind[QS]
   grind
  all_goals simp_all[QS]
 all_goals cases hc
end
theorem oL{α}(s)(d)(x:α):upd s d x d=x:=if_pos rfl
theorem fO{α}(s){d i}(x:α)(hi:i≠d):upd s d x i=s i:=if_neg hi
theorem SC{h:ac}{id id'}{o}(he:h id≠ .dead)(hd:upd h id o id'≠ .dead):h id'≠ .dead:=by
 grind[fO]
theorem Q2{h h'}{id}{sub}(e:h' id=h id):live h' id sub↔live h id sub:=by
 cases sub<;>simp[live,e]
theorem Ra{h h'}{id}{sub}(e:h' id=h id):eA h' id sub↔eA h id sub:=by
 simp_all[eA,Q2]
theorem Uk{w:World}{b}{o}(h:w.heap[b]?=some o):b<w.heap.size:=(Array.getElem?_eq_some_iff.1 h).1
section
variable {w:World} {X:Nat→Prop} {ρ:bg} {h:ac}
theorem Rel.live_heap(r:Rel w X ρ h){id}{sub}(hl:live h id sub):∃us e,w.heap[(ρ id sub).1]?=some (.cells us e (0,0))/\us.size=(ρ id sub).2:=by
 have ho:=r.ob id;cases sub with
 |none=>
  cases e:h id with
  |bx cs=>rw[e]at ho;obtain⟨us,t,h1,h2,_⟩:=ho;grind
  |ar k rows=>rw[e]at ho;obtain⟨us,t,h1,h2,_⟩:=ho;grind
  |_=>simp[live,e]at hl
 |some p=>
  obtain⟨cs,k,rows,e,hc⟩:=hl;rw[e]at ho;obtain⟨us,t,h1,h2,h3,h4⟩:=ho;obtain⟨u,_,g⟩:=h4 p _ hc;obtain⟨a,cap,us',t',_,_,_,g4,g5,_⟩:=g;grind
theorem Rz{A}{b k lo n cap}{us}{e}{fr}{rows}{a}(hb:w.heap[b]?=some (.cells us e fr))(hA:A b)(hr:qR w A k rows us)
  (hle:lo+n<=rows.length) (hn:n<=cap) (ha:cap=0\/a=some ⟨b,lo*k,none⟩):RD w A (jo k lo n rows) (.slice a n cap):=by
 have hlen:((rows.drop lo).take n).length=n:=by grind
 have at_:∀i row,((rows.drop lo).take n)[i]?=some row->rows[lo+i]?=some row:=by
  grind
 have key:RD w A (.sl k ((rows.drop lo).take n)) (.slice a ((rows.drop lo).take n).length cap):=by
  refine .sl k _ a cap ⟨b,lo*k,none⟩ (fun i j=>(us[(lo+i)*k+j]?).getD undef) (by omega) (fun hne=>?_) (fun row hrow=>?_) (fun i row j c h1 h2=>?_) (fun row hrow c hc=>?_) (fun i row j c h1 h2=>?_)
  ·rcases ha with h0|h0
   all_goals simp_all
  ·obtain⟨i,hi⟩:=ad9 hrow;exact(hr _ _ (at_ i row hi)).1
  ·obtain⟨u,h3,_⟩:=(hr _ _ (at_ i row h1)).2 j c h2;grind[Ru,SR,Nat.add_assoc,ad8]
  ·obtain⟨i,hi⟩:=ad9 hrow;obtain⟨j,hj⟩:=ad9 hc;obtain⟨_,_,_,h4⟩:=(hr _ _ (at_ i row hi)).2 j c hj;omega
  ·obtain⟨u,h3,h4,_⟩:=(hr _ _ (at_ i row h1)).2 j c h2;grind
 rw[hlen]at key;exact key
theorem acF(r:Rel w X ρ h){id k}{rows}(e:h id=.ar k rows):Rel w X ρ (upd h id (.fz k rows))/\Evo w ρ h w ρ (upd h id (.fz k rows)) []:=by
 have hl:∀id' sub,live (upd h id (.fz k rows)) id' sub->id'≠id/\live h id' sub:=by
  intro id' sub hl;by_cases hi:id'=id
  ·cases sub with
   |none=>grind[live,oL]
   |some p=>grind[live,oL]
  grind[Q2,fO]
 have ev:Evo w ρ h w ρ (upd h id (.fz k rows)) []:=by
  refine⟨rfl,rfl,rfl,QK _,fun _ _ _=>rfl,fun id' sub hp _=>⟨?_,rfl⟩,fun b ho=>?_,fun id' hb=>⟨?_,rfl⟩,fun id' _ hd=>⟨SC (by grind) hd,rfl⟩⟩
  ·by_cases hi:id'=id
   ·subst hi;cases sub with
    |none=>simp[eA,oL]
    |some p=>obtain⟨cs,k',rows',e',_⟩:=hp;grind
   grind[Ra,fO]
  ·obtain⟨id',sub,h1,h2⟩:=ho;exact .inl ⟨id',sub,(hl id' sub h1).2,h2⟩
  grind[oL,bf,fO]
 refine⟨r.step ev (·=id) (fun id' hi=>⟨fO h _ hi,fun _=>rfl,fun _ _=>rfl⟩) (fun a b c d h1 h2=>r.inj a b c d (hl a b h1).2 (hl c d h2).2) (fun a b h1=>r.nx a b (hl a b h1).2) (fun id' hi=>?_),ev⟩;subst hi;rw[oL];have ho:=r.ob id';rw[e]at ho;obtain⟨us,t,h1,h2,h3,h4⟩:=ho;have hlv:live h id' none:=by grind[live]
 refine⟨⟨Uk h1,fun hx=>r.nx id' none hlv (.inl hx),fun ho=>?_⟩,us,t,_,h1,h2,h3,h4.mono fun b hb=>ev.al hb⟩;obtain⟨id2,sub,h5,h6⟩:=ho;exact(hl id2 sub h5).1 (r.inj id2 sub id' none (hl id2 sub h5).2 hlv h6).1
theorem Ty{c}(hc:AT c=true):aq (tv c)=true:=by
 cases c<;>first| (simp[AT,bT,aq,tv]at hc⊢;done)| (simp[AT,bT,aq,tv]at hc⊢;exact hc)
theorem UM{A'}{id p}{c}{u}(hr:RC w (l6 w X h ρ) ρ h id p c u)(hd:AT c=true)
  (hA:∀b,l6 w X h ρ b->A' b) (hb:∀k rows,c=.osl k rows->A' (ρ id (some p)).1):RD w A' (tv c) u:=by
 cases hO:bT c with
 |true=>
  cases c<;>simp[bT]at hO;rename_i k rows;obtain⟨a,cap,us',t',g1,g2,g3,g4,g5,g6,g7⟩:=hr;have:=Rz (lo:=0) (n:=rows.length) (cap:=cap) (a:=a) g4 (hb k rows rfl) (g7.mono (w':=w) fun b h=>⟨hA b h,rfl⟩) (by omega) g3 (by grind);grind[jo,tv]
 |false=>
  rw[Cm hO]at hr;have hd':aq c=true:=by grind[AT]
  have:tv c=c:=by cases c<;>first|rfl|simp[bT]at hO
  rw[this];exact(hr.1.toD hd' hr.2.1).mono fun b h=>⟨hA b h,rfl⟩
theorem acG(r:Rel w X ρ h){id}{cs}(e:h id=.bx cs)(hd:cs.all AT=true):Rel w X ρ (upd h id (.fz 1 (AU cs)))/\Evo w ρ h w ρ (upd h id (.fz 1 (AU cs))) [(id,true)]:=by
 have hl:∀id' sub,live (upd h id (.fz 1 (AU cs))) id' sub->id'≠id/\live h id' sub:=by
  intro id' sub hl;by_cases hi:id'=id
  ·cases sub with
   |none=>grind[live,oL]
   |some p=>grind[live,oL]
  grind[Q2,fO]
 have ev:Evo w ρ h w ρ (upd h id (.fz 1 (AU cs))) [(id,true)]:=by
  refine⟨rfl,rfl,rfl,QK _,fun _ _ _=>rfl,fun id' sub hp hk=>⟨?_,rfl⟩,fun b ho=>?_,fun id' hb=>⟨?_,rfl⟩,fun id' _ hd=>⟨SC (by grind) hd,rfl⟩⟩
  ·by_cases hi:id'=id
   ·simp_all[eA,oL,iT]
   grind[Ra,fO]
  ·obtain⟨id',sub,h1,h2⟩:=ho;exact .inl ⟨id',sub,(hl id' sub h1).2,h2⟩
  grind[oL,bf,fO]
 have free:∀sub,live h id sub->l6 w X (upd h id (.fz 1 (AU cs))) ρ (ρ id sub).1:=by
  intro sub hlv;obtain⟨us,t,h1,_⟩:=r.live_heap hlv;refine⟨Uk h1,fun hx=>r.nx id sub hlv (.inl hx),fun ho=>?_⟩;obtain⟨id2,sub2,h5,h6⟩:=ho;exact(hl id2 sub2 h5).1 (r.inj id2 sub2 id sub (hl id2 sub2 h5).2 hlv h6).1
 refine⟨r.step ev (·=id) (fun id' hi=>⟨fO h _ hi,fun _=>rfl,fun _ _=>rfl⟩) (fun a b c d h1 h2=>r.inj a b c d (hl a b h1).2 (hl c d h2).2) (fun a b h1=>r.nx a b (hl a b h1).2) (fun id' hi=>?_),ev⟩;subst hi;rw[oL];have ho:=r.ob id';rw[e]at ho;obtain⟨us,t,h1,h2,h3,h4⟩:=ho;refine⟨free none (by grind[live]),us,t,_,h1,h2,by grind[AU],fun i row hi=>?_⟩;simp only[AU,aeb,adV]at hi;obtain⟨c,hc,rfl⟩:=hi;refine⟨rfl,fun j d hj=>?_⟩;cases j with
 |succ j=>grind
 |zero=>
  simp at hj;subst hj;obtain⟨u,h5,h6⟩:=h4 i c hc;refine⟨u,by grind,UM h6 ?_ (fun b hb=>(ev.al hb).1) (fun k rows ec=>?_),Ty (List.all_eq_true.1 hd c (QR hc))⟩
  ·grind
  ·subst ec;exact free (some i) ⟨cs,k,rows,e,hc⟩
theorem TS(r:Rel w X ρ h){id}{cs ds}(e:h id=.bx cs)(hlen:ds.length=cs.length)(hds:∀ (p:Nat) c,cs[p]?=some c->ds[p]?=some c\/(bT c=true/\ds[p]?=some (tv c))):
  Rel w X ρ (upd h id (.bx ds))/\Evo w ρ h w ρ (upd h id (.bx ds)) [(id,true)]:=by
 have back:∀ (p k:Nat) rows,ds[p]?=some (AV.osl k rows)->cs[p]?=some (AV.osl k rows):=by
  intro p k rows hp;have hlt:=(List.getElem?_eq_some_iff.1 hp).1;obtain⟨c,hc⟩:∃c,cs[p]?=some c:=⟨cs[p]'(by omega),adW (by omega)⟩;rcases hds p c hc with h1| ⟨h1,h2⟩
  ·grind
  ·rw[hp]at h2;cases c<;>simp[bT,tv]at h1 h2
 have hl:∀id' sub,live (upd h id (.bx ds)) id' sub->live h id' sub:=by
  intro id' sub hl;by_cases hi:id'=id
  ·subst hi;cases sub with
   |none=>grind[live]
   |some p=>
    obtain⟨cs',k,rows,h1,h2⟩:=hl;rw[oL]at h1;cases h1;exact⟨cs,k,rows,e,back p k rows h2⟩
  grind[Q2,fO]
 have ev:Evo w ρ h w ρ (upd h id (.bx ds)) [(id,true)]:=by
  refine⟨rfl,rfl,rfl,QK _,fun _ _ _=>rfl,fun id' sub hp hk=>⟨?_,rfl⟩,fun b ho=>?_,fun id' hb=>⟨?_,rfl⟩,fun id' _ hd=>⟨SC (by grind) hd,rfl⟩⟩
  ·by_cases hi:id'=id
   ·simp_all[eA,oL,iT]
   grind[Ra,fO]
  ·obtain⟨id',sub,h1,h2⟩:=ho;exact .inl ⟨id',sub,hl id' sub h1,h2⟩
  grind[oL,bf,fO]
 refine⟨r.step ev (·=id) (fun id' hi=>⟨fO h _ hi,fun _=>rfl,fun _ _=>rfl⟩) (fun a b c d h1 h2=>r.inj a b c d (hl a b h1) (hl c d h2)) (fun a b h1=>r.nx a b (hl a b h1)) (fun id' hi=>?_),ev⟩;subst hi;rw[oL];have ho:=r.ob id';have ho':=ho.keep (w':=w) (A':=l6 w X (upd h id' (.bx ds)) ρ) (ρ':=ρ) (h':=upd h id' (.bx ds)) (fun b hb=>ev.al hb) ev.boxes (fun _=>rfl) (fun _ _=>rfl);rw[e]at ho ho';obtain⟨us,t,h1,h2,h3,h4⟩:=ho;obtain⟨us',t',h1',_,_,h4'⟩:=ho';refine⟨us,t,h1,h2,by omega,fun p d hd=>?_⟩;have hlt:=(List.getElem?_eq_some_iff.1 hd).1;obtain⟨c,hc⟩:∃c,cs[p]?=some c:=⟨cs[p]'(by omega),adW (by omega)⟩;rcases hds p c hc with g1| ⟨g1,g2⟩
 ·grind
 ·rw[hd]at g2;cases g2;obtain⟨u,h5,h6⟩:=h4 p c hc;have hlv:live h id' (some p):=by
   cases c<;>simp[bT]at g1;exact⟨cs,_,_,e,hc⟩
  have hfr:=by
   refine UM h6 (by grind[AT]) (fun b hb=>(ev.al hb).1) (fun k rows ec=>?_);obtain⟨us2,t2,e1,_⟩:=r.live_heap hlv;refine⟨Uk e1,fun hx=>r.nx _ _ hlv (.inl hx),fun ho=>?_⟩;obtain⟨id2,sub2,h7,h8⟩:=ho;obtain⟨rfl,rfl⟩:=r.inj id2 sub2 id' (some p) (hl id2 sub2 h7) hlv h8;obtain⟨cs2,k2,rows2,h9,h10⟩:=h7;grind[oL,tv]
  have hnO:bT (tv c)=false:=by cases c<;>simp[bT]at g1<;>rfl
  refine⟨u,h5,(Cm hnO).2 ⟨.dat hfr,hfr.one (Ty (by grind[AT])),Sa (Ty (by grind[AT]))⟩⟩
end
section
variable {P:Program} {w:World} {X:Nat→Prop} {ρ:bg} {h h':ac}
theorem TT{id k lo n cap}{a}{rows}(r:Rel w X ρ h)(e:h id=.fz k rows)(hle:lo+n<=rows.length)(hn:n<=cap)
  (ha:cap=0\/a=some ⟨(ρ id none).1,lo*k,none⟩):RD w (l6 w X h ρ) (jo k lo n rows) (.slice a n cap):=by
 have ho:=r.ob id;rw[e]at ho;obtain⟨h0,us,t,fr,h1,h2,h3,h4⟩:=ho;grind[Rz]
theorem UZ(r:Rel w X ρ h){id k lo n cap}{a}(hn:n<=cap)(ha:cap=0\/a=some ⟨(ρ id none).1,lo*k,none⟩){c}{ks}(hc:jV h id k lo n (h id)=some (c,h',ks)):
  Rel w X ρ h'/\Evo w ρ h w ρ h' ks/\RD w (l6 w X h' ρ) c (.slice a n cap)/\aq c=true:=by
 cases e:h id with
 |dead=>grind[jV]
 |ar k' rows=>
  simp only[e,jV]at hc;split at hc
  ·rename_i hk;obtain⟨rfl,hle⟩:=hk;cases hc;obtain⟨h1,h2⟩:=acF r e;exact⟨h1,h2,TT h1 (oL _ _ _) hle hn ha,rfl⟩
  grind
 |fz k' rows=>
  simp only[e,jV]at hc;split at hc
  ·rename_i hk;obtain⟨rfl,hle⟩:=hk;cases hc;exact⟨r,.refl _ _ _,TT r e hle hn ha,rfl⟩
  grind
 |bx cs=>
  simp only[e,jV]at hc;split at hc
  ·rename_i hk;obtain⟨rfl,hle,hd⟩:=hk;cases hc;obtain⟨h1,h2⟩:=acG r e hd;exact⟨h1,h2,TT h1 (oL _ _ _) (by grind[AU]) hn ha,rfl⟩
  grind
theorem ZC(r:Rel w X ρ h){id}{sub}(hl:live h id sub)(hn:¬live h' id sub)(hb:∀id sub,live h' id sub->live h id sub):l6 w X h' ρ (ρ id sub).1:=by
 obtain⟨us,t,h1,_⟩:=r.live_heap hl;refine⟨Uk h1,fun hx=>r.nx id sub hl (.inl hx),fun ho=>?_⟩;obtain⟨id2,sub2,h5,h6⟩:=ho;obtain⟨rfl,rfl⟩:=r.inj id2 sub2 id sub (hb _ _ h5) hl h6;grind
theorem U0(r:Rel w X ρ h){id p k lo n cap}{a}(hn:n<=cap)(ha:cap=0\/a=some ⟨(ρ id (some p)).1,lo*k,none⟩){c}{ks}(hc:AW h id p k lo n (h id)=some (c,h',ks)):
  Rel w X ρ h'/\Evo w ρ h w ρ h' ks/\RD w (l6 w X h' ρ) c (.slice a n cap)/\aq c=true:=by
 cases e:h id with
 |bx cs=>
  simp only[e,AW]at hc;unfold JL at hc;split at hc
  ·rename_i k' rows hp;split at hc
   ·rename_i hk;obtain⟨rfl,hle⟩:=hk;cases hc;obtain⟨h1,h2⟩:=TS r e (ds:=cs.set p (.sl k' rows)) (by simp) (fun q c hq=>by
     by_cases hqp:q=p
     ·subst hqp;rw[hp]at hq;cases hq;exact .inr ⟨rfl,by grind[tv]⟩
     grind)
    refine⟨h1,h2,?_,rfl⟩;have hlv:live h id (some p):=⟨cs,k',rows,e,hp⟩;have hal:l6 w X (upd h id (.bx (cs.set p (.sl k' rows)))) ρ (ρ id (some p)).1:=by
     refine ZC r hlv (fun hl=>?_) (fun id' sub hl=>?_)
     ·obtain⟨cs2,k2,r2,e1,e2⟩:=hl;grind[oL]
     ·by_cases hi:id'=id
      ·subst hi;cases sub with
       |none=>grind[live]
       |some q=>
        obtain⟨cs2,k2,r2,e1,e2⟩:=hl;rw[oL]at e1;cases e1;by_cases hqp:q=p
        ·grind
        ·exact⟨cs,k2,r2,e,by rwa[List.getElem?_set_ne (fun e=>hqp e.symm)]at e2⟩
      grind[Q2,fO]
    have ho:=r.ob id;rw[e]at ho;obtain⟨us,t,g1,g2,g3,g4⟩:=ho;obtain⟨u,g5,g6⟩:=g4 p _ hp;obtain⟨a',cap',us',t',e1,e2,e3,e4,e5,e6,e7⟩:=g6;exact Rz e4 hal (e7.mono fun b hb=>h2.al hb) hle hn ha
   grind
  grind
 |_=>simp[e,AW]at hc
theorem Sc(r:Rel w X ρ h){A0}{h0}{c d}{u}{ks}(hv:RV w A0 ρ h0 c u)(hA:∀b,A0 b->l6 w X h ρ b)(h1:u.oneCell'=true)(hc:eJ h c=some (d,h',ks)):
  Rel w X ρ h'/\Evo w ρ h w ρ h' ks/\RD w (l6 w X h' ρ) d u/\aq d=true:=by
 have dl:aq c=true->eJ h c=some (c,h,[])->Rel w X ρ h'/\Evo w ρ h w ρ h' ks/\RD w (l6 w X h' ρ) d u/\aq d=true:=by
  intro hd hq;rw[hq]at hc;cases hc;exact⟨r,.refl _ _ _,(hv.toD hd h1).mono fun b hb=>⟨hA b hb,rfl⟩,hd⟩
 cases c with
 |rsl id sub k lo n=>
  obtain⟨a,cap,rfl,hp,hn,hb,ha⟩:=hv.rsl_inv;cases sub with
  |none=>exact UZ r hn ha hc
  |some p=>exact U0 r hn ha hc
 |fn f x y=>
  grind[eJ]
 |any=>exact dl rfl rfl
 |v x=>exact dl rfl rfl
 |emp=>exact dl rfl rfl
 |sl k rows=>exact dl rfl rfl
 |_=>simp[eJ,aq]at hc
theorem Tj{A0}{h0}:∀cs {us:Array Value} off {h h'} {ds} {ks},Rel w X ρ h->(∀b,A0 b->l6 w X h ρ b)->
  (∀i c u,cs[i]?=some c->us[off+i]?=some u->RV w A0 ρ h0 c u/\u.oneCell'=true)->off+cs.length<=us.size->gr h cs=some (ds,h',ks)->
   Rel w X ρ h'/\Evo w ρ h w ρ h' ks/\ds.length=cs.length/\(∀d∈ds,aq d=true)/\(∀i d u,ds[i]?=some d->us[off+i]?=some u->RD w (l6 w X h' ρ) d u)
 |[],us,off,h,h',ds,ks,r,hA,hv,hl,hc=>by
  obtain⟨rfl,rfl,rfl⟩:=hc;exact⟨r,.refl _ _ _,rfl,fun d hd=>(by grind),fun i d u hd=>(by grind)⟩
 |c::cs,us,off,h,h',ds,ks,r,hA,hv,hl,hc=>by
  simp only[gr,QS]at hc;obtain⟨⟨d,h1,k1⟩,e1,⟨ds',h2,k2⟩,e2,e3⟩:=hc;cases e3;simp only[adX]at hl;obtain⟨u,hu⟩:∃u,us[off]?=some u:=⟨us[off]'(by omega),Array.getElem?_eq_getElem (by omega)⟩;obtain⟨hv0,hv1⟩:=hv 0 c u (by simp) (by omega);obtain⟨g1,g2,g3,g4⟩:=Sc r hv0 hA hv1 e1;obtain⟨f1,f2,f3,f4,f5⟩:=Tj cs (off+1) g1 (fun b hb=>(g2.al (hA b hb)).1) (fun i c u h1 h2=>hv (i+1) c u (by grind) (by rw[←h2];congr 1;omega)) (by omega) e2;refine⟨f1,g2.trans f2,by grind,fun x hx=>?_,fun i x v hx hv=>?_⟩
  ·grind
  ·cases i with
   |zero=>
    simp at hx hv;subst hx;rw[hu]at hv;cases hv;exact f2.rd g3
   |succ i=>grind
theorem ZD(r:Rel w X ρ h){A0}{h0}{c d}{u}{ks}(hv:RV w A0 ρ h0 c u)(hA:∀b,A0 b->l6 w X h ρ b)(hc:xk h c=some (d,h',ks))(h1:(∀cs,c≠ .agg cs)->u.oneCell'=true):
  Rel w X ρ h'/\Evo w ρ h w ρ h' ks/\RD w (l6 w X h' ρ) d u/\dat d=true:=by
 cases c with
 |agg cs=>
  simp only[xk,QS]at hc;obtain⟨⟨ds,h2,k2⟩,e1,e2⟩:=hc;cases e2;obtain⟨us,rfl,hs,g1,g2⟩:=hv.agg_inv;obtain⟨f1,f2,f3,f4,f5⟩:=Tj cs (us:=us) 0 r hA (fun i c u hc hu=>⟨g2 i c u hc (by grind),g1 _ u (by omega)⟩) (by omega) e1;exact⟨f1,f2,.agg _ _ (by grind) g1 fun i d u hd hu=>f5 i d u hd (by grind),by grind[dat]⟩
 |_=>
  obtain⟨f1,f2,f3,f4⟩:=Sc r hv hA (h1 fun cs e=>by cases e) hc;refine⟨f1,f2,f3,?_⟩;cases d<;>first|exact f4|simp[aq]at f4
theorem Tk{e}{ad}{u}(hg:xH P e=some false)(hc:w.cell? ad=some u):(loadVar e ad).run P w=.ok u w:=by
 simp_all[loadVar,Uj]
theorem Xn{e}{k}{ad}{vs:List Value}(hg:xH P e=some true)(hk:cW P e=some k)(hl:vs.length=k)(hc:∀j v,vs[j]?=some v->w.cell? (ad.add j)=some v):
  (loadVar e ad).run P w=.ok (.agg vs.toArray) w:=by
 have:=run_loadCells_list (P:=P) w ad vs hc
 simp_all[loadVar,Uj,Re]
theorem So{A}{h}{e}{k off}{g}(hg:xH P e=some g)(hk:cW P e=some k){cs}{ad:Addr}{z}{vals:Nat->Value}
  (hv:∀j c,cs[j]?=some c->w.cell? (ad.add j)=some (vals j)) (hr:∀j c,cs[j]?=some c->RV w A ρ h c (vals j)/\(vals j).oneCell'=true) (hz:iZ k g cs off=some z):
  ∃v,(loadVar e (ad.add off)).run P w=.ok v w/\RV w A ρ h z v:=by
 unfold iZ at hz;cases g with
 |true=>
  simp only[if_true]at hz;split at hz
  ·cases hz;refine⟨_,Xn hg hk (vs:=(List.range k).map fun j=>vals (off+j)) (by simp) (fun j v hj=>?_),.agg _ _ (by grind) (fun i u hu=>?_) (fun i c u hc hu=>?_)⟩
   ·simp only[aeb,adV]at hj;obtain⟨i,hi,rfl⟩:=hj;obtain⟨h1,h2⟩:=List.getElem?_eq_some_iff.1 hi;simp at h2 h1;subst h2;rw[SU];exact hv _ _ (adW (show off+j<cs.length by omega))
   ·simp only[List.getElem?_toArray,aeb,adV]at hu;obtain⟨j,hj,rfl⟩:=hu;obtain⟨h1,h2⟩:=List.getElem?_eq_some_iff.1 hj;simp at h2 h1;subst h2;exact(hr _ _ (adW (show off+i<cs.length by omega))).2
   grind
  grind
 |false=>
  grind[Tk]
theorem Tl{A}{h}{e}{k}{g}(hg:xH P e=some g)(hk:cW P e=some k){b k0 i j k'}{us}{t}{fr}{rows}
  (hb:w.heap[b]?=some (.cells us t fr)) (hr:qR w A k' rows us) {z} {h'} {ks} (hz:lA h k g k0 i j (some (k',rows))=some (z,h',ks)):
  h'=h/\ks=[]/\∃v,(loadVar e ⟨b,i*k0+j,none⟩).run P w=.ok v w/\RV w A ρ h z v:=by
 simp only[lA]at hz;split at hz
 ·simp only[QS,adV]at hz;obtain⟨row,h1,a,h2,h3⟩:=hz;cases h3;have cell:∀j c,row[j]?=some c->us[i*k'+j]?=some ((us[i*k'+j]?).getD undef)/\RD w A c ((us[i*k'+j]?).getD undef)/\aq c=true:=by
   intro j c hc;obtain⟨u,g1,g2,g3⟩:=(hr i row h1).2 j c hc;grind
  have:=So (P:=P) (ρ:=ρ) (h:=h) (A:=A) (off:=j) hg hk (cs:=row) (ad:=⟨b,i*k',none⟩) (z:=z) (vals:=fun j=>(us[i*k'+j]?).getD undef)
   (fun j c hc=>by grind[Ru,SR]) (fun j c hc=>⟨.dat (cell j c hc).2.1,(cell j c hc).2.1.one (cell j c hc).2.2⟩) h2
  grind[Ru]
 grind
end
def Ro(ρ:bg)(d:Nat)(sub:Option Nat)(b:Nat×Nat):bg:=fun id s=>if id=d/\s=sub then b else ρ id s
theorem QW(ρ)(d)(sub)(b):Ro ρ d sub b d sub=b:=if_pos ⟨rfl,rfl⟩
theorem Ts{ρ}{d id}{sub s}{b}(h:¬ (id=d/\s=sub)):Ro ρ d sub b id s=ρ id s:=if_neg h
section
variable {P:Program} {w:World} {X:Nat→Prop} {ρ:bg} {h h':ac}
theorem Sp(w:World)(o){b}(hb:b<w.heap.size):(w.alloc o).heap[b]?=w.heap[b]?:=by
 show(w.heap.push o)[b]?=_;grind
theorem Sd(w:World)(o):(w.alloc o).heap[w.heap.size]?=some o:=by
 show(w.heap.push o)[w.heap.size]?=_;grind
def Yo(w:World)(A:Nat->Prop)(ρ:bg)(h:ac)(us:Array Value):Ob->Prop
 | .bx cs=>cs.length<=us.size/\∀ (p:Nat) c,cs[p]?=some c->bT c=false/\∃u,us[p]?=some u/\RV w A ρ h c u/\u.oneCell'=true/\pW h c
 | .ar k rows=>rows.length*k<=us.size/\qR w A k rows us
 |_=>False
theorem SD(r:Rel w X ρ h){d}(hdp:bw d=false)(hd:h d=.dead){us}{e}{o}(ho:Yo w (l6 w X h ρ) ρ h us o):
  Rel (w.alloc (.cells us e)) X (Ro ρ d none (w.heap.size,us.size)) (upd h d o)/\Evo w ρ h (w.alloc (.cells us e)) (Ro ρ d none (w.heap.size,us.size)) (upd h d o) []:=by
 have hl:∀id sub,live (upd h d o) id sub->(id=d/\sub=none)\/(id≠d/\live h id sub):=by
  intro id sub hl;by_cases hi:id=d
  ·subst hi;cases sub with
   |none=>grind
   |some p=>
    obtain⟨cs,k,rows,h1,h2⟩:=hl;rw[oL]at h1;subst h1;exact absurd (ho.2 p _ h2).1 (by simp[bT])
  grind[Q2,fO]
 have hρ:∀id sub,id≠d->Ro ρ d none (w.heap.size,us.size) id sub=ρ id sub:=fun id sub hi=>Ts fun e=>hi e.1;have ev:Evo w ρ h (w.alloc (.cells us e)) (Ro ρ d none (w.heap.size,us.size)) (upd h d o) []:=by
  refine⟨rfl,rfl,rfl,by simp_all,fun b hb _=>Sp w _ hb,fun id sub hp _=>?_,fun b hb=>?_,fun id hb=>?_,fun id hp hnd=>?_⟩
  ·have hi:id≠d:=by
    rintro rfl
    cases sub with
    |none=>exact hp hd
    |some p=>obtain⟨_,_,_,h1,_⟩:=hp;grind
   grind[Ra,fO]
  ·obtain⟨id,sub,h1,h2⟩:=hb;rcases hl id sub h1 with⟨rfl,rfl⟩| ⟨hi,h3⟩
   ·simp_all[QW,QK]
   ·rw[hρ id sub hi]at h2;exact .inl ⟨id,sub,h3,h2⟩
  ·have hi:id≠d:=by rintro rfl;rw[hd]at hb;cases hb
   grind[fO]
  grind[fO]
 have lt:∀id sub,live h id sub->(ρ id sub).1<w.heap.size:=fun id sub hl=>by obtain⟨us,t,h1,_⟩:=r.live_heap hl;grind
 refine⟨r.step ev (·=d) (fun id hi=>⟨fO h _ hi,fun sub=>hρ id sub hi,fun sub hl=>Sp w _ (lt id sub hl)⟩) (fun a b c e' h1 h2 h3=>?_) (fun a b h1=>?_) (fun id hi=>?_),ev⟩
 ·rcases hl a b h1 with⟨rfl,rfl⟩| ⟨ha,h4⟩<;>rcases hl c e' h2 with⟨rfl,rfl⟩| ⟨hc,h5⟩
  ·grind
  ·grind[QW]
  ·grind[QW]
  ·rw[hρ a b ha,hρ c e' hc]at h3;exact r.inj a b c e' h4 h5 h3
 ·rcases hl a b h1 with⟨rfl,rfl⟩| ⟨ha,h4⟩
  ·rw[QW];intro hx;have:=r.xl _ hx;omega
  ·rw[hρ a b ha];exact r.nx a b h4
 ·subst hi;rw[oL];cases o with
  |bx cs=>
   refine⟨us,e,by grind[QW,Sd],by rw[QW],ho.1,fun p c hc=>?_⟩;obtain⟨h1,u,h2,h3,h4,h5⟩:=ho.2 p c hc;obtain⟨h6,h7⟩:=h3.keepC h5 (fun b hb=>ev.al hb) ev.boxes;grind[Cm]
  |ar k rows=>exact⟨us,e,by grind[QW,Sd],by rw[QW],ho.1,ho.2.mono fun b hb=>ev.al hb⟩
  |dead=>exact ho.elim
  |fz k rows=>exact ho.elim
theorem U1{t}{i}{z}(h1:P.info? t=some i)(h2:i.zero=some z)(w):(zeroValue t).run P w=.ok z w:=by simp_all[zeroValue,typeInfo]
theorem VJ{cs}{us}{A}(hc:Cells w A ρ h cs us)(hd:cs.all aq=true):Yo w A ρ h us (.bx cs):=
 ⟨Nat.le_of_eq hc.1.symm,fun p c hp=>by
  have h1:=List.all_eq_true.1 hd c (QR hp);obtain⟨u,hu⟩:∃u,us[p]?=some u:=⟨us[p]'(by have:=(List.getElem?_eq_some_iff.1 hp).1;have:=hc.1;omega),Array.getElem?_eq_getElem _⟩;exact⟨by cases c<;>simp[aq]at h1<;>rfl,u,hu,hc.2.2 p c u hp hu,hc.2.1 p u hu,Sa h1⟩⟩
theorem Wq:∀l cs,Ff l=some cs->cs.all aq=true
 |[],cs,hc=>by grind[Ff]
 |v::l,cs,hc=>by
  simp only[Ff,QS]at hc;obtain⟨c,h1,q,h2,h3⟩:=hc;cases h3;have h4:aq c=true:=by unfold HX at h1;split at h1<;>cases h1<;>rfl
  simp[h4];simpa using Wq l q h2
theorem Wr{t}{zs}(hz:mS P t=some zs):zs.all aq=true:=by
 grind[mS,QS,Wq]
theorem Rl{d}{a}{o}{ks}{x}{ks'}(hn:xr h d a o ks (h d)=some (x,h',ks')):h d=.dead/\x=a/\h'=upd h d o/\ks'=ks:=by
 grind[xr]
structure Got (w:World) (X:Nat->Prop) (ρ:bg) (h:ac) (w':World) (h':ac) (ks:K) (x:AV) (v:Value):Prop where
 ex:∃ρ',Rel w' X ρ' h'/\Evo w ρ h w' ρ' h' ks/\RV w' (l6 w' X h' ρ') ρ' h' x v
theorem Xo{t}{zs}(r:Rel w X ρ h)(hz:mS P t=some zs){d}(hdp:bw d=false){x}{ks}(hn:gP h d zs []=some (x,h',ks)):
  ∃v w',(Instr.alloc t true (.tuple #[])).run P w=.ok v w'/\Got w X ρ h w' h' ks x v:=by
 obtain⟨h1,rfl,rfl,rfl⟩:=Rl hn;obtain⟨i,z,g1,g2,g3,g4,g5⟩:=Ry (w:=w) (A:=l6 w X h ρ) (ρ:=ρ) (h:=h) hz;obtain⟨g6,g7⟩:=SD (e:=t) r hdp h1 (VJ g5 (Wr hz));refine⟨.pointer (some ⟨w.heap.size,0,none⟩),_,?_,⟨_,g6,g7,?_⟩⟩
 ·simp_all[Instr.alloc,Sem.run_bind,U1,Result.andThen,newVar,newRow]
 ·have:=RV.ref (w:=w.alloc (.cells z.cells t)) (A:=l6 (w.alloc (.cells z.cells t)) X (upd h d (.bx zs)) (Ro ρ d none (w.heap.size,z.cells.size))) (ρ:=Ro ρ d none (w.heap.size,z.cells.size)) (h:=upd h d (.bx zs)) d none 0 0 0 (by simp[eA,oL]);grind[QW]
end
section
variable {P:Program} {w:World} {X:Nat→Prop} {ρ:bg} {h h':ac}
theorem Tc(a:Addr):a.add 0=a:=by simp_all[Addr.add,if_pos]
theorem XL{c}(hc:bT c=false):tv c=c:=by cases c<;>first|rfl|simp[bT]at hc
theorem Rel.cell(r:Rel w X ρ h){id}{cs}(e:h id=.bx cs):∃us t,w.heap[(ρ id none).1]?=some (.cells us t (0,0))/\us.size=(ρ id none).2/\cs.length<=us.size/\
  ∀p c,cs[p]?=some c->∃u,us[p]?=some u/\RC w (l6 w X h ρ) ρ h id p c u:=by
 have ho:=r.ob id;rw[e]at ho;exact ho
theorem Xq(r:Rel w X ρ h){ty}{k}{g}(hg:xH P ty=some g)(hk:cW P ty=some k){id p}{cs}(e:h id=.bx cs){z}{ks}(hz:wT h id p k g cs=some (z,h',ks)):
  ∃v,(loadVar ty ⟨(ρ id none).1,p,none⟩).run P w=.ok v w/\Rel w X ρ h'/\Evo w ρ h w ρ h' ks/\RV w (l6 w X h' ρ) ρ h' z v:=by
 have key:∀h1 ds,Rel w X ρ h1->h1 id=.bx ds->g=true->p+k<=ds.length->(∀c∈ (ds.drop p).take k,bT c=false)->
   ∃v,(loadVar ty ⟨(ρ id none).1,p,none⟩).run P w=.ok v w/\RV w (l6 w X h1 ρ) ρ h1 (.agg ((ds.drop p).take k)) v:=by
  intro h1 ds r1 e1 hgt hle hn;obtain⟨us,t,g1,g2,g3,g4⟩:=r1.cell e1;have cell:∀j c,((ds.drop p).take k)[j]?=some c->us[p+j]?=some ((us[p+j]?).getD undef)/\RV w (l6 w X h1 ρ) ρ h1 c ((us[p+j]?).getD undef)/\((us[p+j]?).getD undef).oneCell'=true:=by
   grind[Cm,List.mem_of_getElem]
  have:=So (P:=P) (ρ:=ρ) (h:=h1) (A:=l6 w X h1 ρ) (off:=0) hg hk (cs:=(ds.drop p).take k) (ad:=⟨(ρ id none).1,p,none⟩) (z:=.agg ((ds.drop p).take k)) (vals:=fun j=>(us[p+j]?).getD undef)
   (fun j c hc=>by grind[Ru,SR]) (fun j c hc=>(cell j c hc).2) (by
    have hl:((ds.drop p).take k).length=k:=by grind
    simp_all[iZ,if_true,if_pos,List.drop_zero,aed])
  grind[Tc]
 unfold wT at hz;cases g with
 |true=>
  simp only[if_true]at hz;split at hz
  ·rename_i hle;split at hz
   ·obtain⟨r1,e1⟩:=TS r e (ds:=cs.map tv) (by simp) (fun q c hq=>by
     grind[bT,XL])
    obtain⟨v,h1,h2⟩:=key _ _ r1 (oL _ _ _) rfl (by grind) (fun c hc=>by
     have:=List.mem_of_mem_drop (List.mem_of_mem_take hc);simp only[aec]at this;obtain⟨c',_,rfl⟩:=this;cases c'<;>rfl)
    grind
   ·cases hz;obtain⟨v,h1,h2⟩:=key _ _ r e rfl hle (fun c hc=>by
     grind)
    exact⟨v,h1,r,.refl _ _ _,h2⟩
  grind
 |false=>
  simp only[ad0,if_false,adV]at hz;obtain⟨c,hc,e3⟩:=hz;cases e3;obtain⟨us,t,g1,g2,g3,g4⟩:=r.cell e;obtain⟨u,f1,f2⟩:=g4 p c hc;refine⟨u,Tk hg (by grind[SR]),r,.refl _ _ _,?_⟩;cases hO:bT c with
  |true=>
   cases c<;>simp[bT]at hO;rename_i k' rows;obtain⟨a,cap,us',t',e1,e2,e3,e4,e5,e6,e7⟩:=f2;subst e1;exact .rsl id (some p) k' 0 rows.length cap a ⟨cs,k',rows,e,hc⟩ e3 (by grind) (by grind)
  |false=>
   rw[Cm hO]at f2;have:lw id p c=c:=by cases c<;>first|rfl|simp[bT]at hO
   grind
theorem Ur(r:Rel w X ρ h){ty}{k}{g}(hg:xH P ty=some g)(hk:cW P ty=some k){x z}{u}{ks}(hx:RV w (l6 w X h ρ) ρ h x u)(hz:hH h k g x=some (z,h',ks)):
  ∃ad v,u=.pointer (some ad)/\(loadVar ty ad).run P w=.ok v w/\Rel w X ρ h'/\Evo w ρ h w ρ h' ks/\RV w (l6 w X h' ρ) ρ h' z v:=by
 cases x with
 |ipt cs=>
  simp only[hH,adV]at hz;obtain⟨a,h1,h2⟩:=hz;cases h2;cases hx with
  |dat hd=>cases hd
  |ipt _ ad vals hA hs hv hl hr=>
   obtain⟨v,f1,f2⟩:=So (P:=P) (ρ:=ρ) (h:=h) (A:=l6 w X h ρ) (off:=0) hg hk hv (fun j c hc=>⟨.dat (hr j c hc),(hr j c hc).one (hl c (QR hc))⟩) h1;exact⟨ad,v,rfl,by rwa[Tc]at f1,r,.refl _ _ _,f2⟩
 |ref id sub k0 i j=>
  obtain⟨rfl,hp⟩:=hx.ref_inv;cases sub with
  |none=>
   simp only[hH]at hz;cases e:h id with
   |dead=>rw[e]at hz;cases hz
   |bx cs=>
    rw[e]at hz;obtain⟨v,f1,f2,f3,f4⟩:=Xq (P:=P) r hg hk e hz;grind
   |ar k' rows=>
    rw[e]at hz;have ho:=r.ob id;rw[e]at ho;obtain⟨us,t,g1,g2,g3,g4⟩:=ho;obtain⟨rfl,rfl,v,f1,f2⟩:=Tl (P:=P) (ρ:=ρ) hg hk g1 g4 hz;exact⟨_,v,rfl,f1,r,.refl _ _ _,f2⟩
   |fz k' rows=>
    rw[e]at hz;have ho:=r.ob id;rw[e]at ho;obtain⟨_,us,t,fr,g1,g2,g3,g4⟩:=ho;obtain⟨rfl,rfl,v,f1,f2⟩:=Tl (P:=P) (ρ:=ρ) hg hk g1 g4 hz;exact⟨_,v,rfl,f1,r,.refl _ _ _,f2⟩
  |some p=>
   simp only[hH]at hz;cases e:h id with
   |bx cs=>
    rw[e]at hz;simp only[lI]at hz;cases e2:cs[p]? with
    |none=>rw[e2]at hz;cases hz
    |some c=>
     rw[e2]at hz;cases c<;>simp only[xp]at hz<;>try (cases hz;done)
     obtain⟨us,t,g1,g2,g3,g4⟩:=r.cell e;obtain⟨u,f1,a,cap,us',t',e1,e2',e3,e4,e5,e6,e7⟩:=g4 p _ e2;obtain⟨rfl,rfl,v,f1,f2⟩:=Tl (P:=P) (ρ:=ρ) hg hk e4 e7 hz;exact⟨_,v,rfl,f1,r,.refl _ _ _,f2⟩
   |_=>rw[e]at hz;cases hz
 |_=>cases hz
def Q1(us:Array Value)(o:Nat)(vs:List Value):Array Value:=(us.toList.take o++vs++us.toList.drop (o+vs.length)).toArray
theorem Rb{us}{o}{vs}(hle:o+vs.length<=us.size)(q):(Q1 us o vs)[q]?=if o<=q/\q<o+vs.length then vs[q-o]? else us[q]?:=by
 unfold Q1;grind
theorem Q4{us}{o}{vs}(hle:o+vs.length<=us.size):(Q1 us o vs).size=us.size:=by
 grind[Q1]
theorem RA{us}{o}{vs}(hle:o+vs.length<=us.size)(hs:∀j v,vs[j]?=some v->us[o+j]?=some v):Q1 us o vs=us:=by
 apply Array.ext_getElem?;intro q;rw[Rb hle];grind
theorem ZE{us}{o}{v}{vs}(hle:o+(v::vs).length<=us.size):Q1 (Q1 us o [v]) (o+1) vs=Q1 us o (v::vs):=by
 have h1:o+[v].length<=us.size:=by grind
 apply Array.ext_getElem?;intro q;rw[Rb (by grind[Q4]),Rb h1,Rb (by omega)];grind
theorem RU{ty}{k}(hk:cW P ty=some k){v}(hv:v.cells.size=k)(h1:∀u∈v.cells.toList,u.oneCell'=true){b o}{us}{t}
  (hb:w.heap[b]?=some (.cells us t (0,0))) (hle:o+k<=us.size):(storeVar ty ⟨b,o,none⟩ v).run P w=.ok () (w.setRow b (Q1 us o v.cells.toList)):=by
 have:=run_storeCells_at P b o t v.cells.toList 0 us w hb (by grind) h1
 simp_all[storeVar,Sem.run_bind,Re,Result.andThen,ne_eq,not_true_eq_false,if_false,Q1]
end
section
variable {P:Program} {w w':World} {X:Nat→Prop} {ρ ρ':bg} {h h':ac} {A A':Nat→Prop}
theorem RC.keep{id p}{c}{u}(hc:RC w A ρ h id p c u)(hA:∀b,A b->A' b/\w'.heap[b]?=w.heap[b]?)(hB:∀id,bf (h id)=true->bf (h' id)=true/\ρ' id none=ρ id none)
  (hρ:ρ' id (some p)=ρ id (some p)) (hb:bT c=true->w'.heap[(ρ id (some p)).1]?=w.heap[(ρ id (some p)).1]?):RC w' A' ρ' h' id p c u:=by
 cases hO:bT c with
 |true=>
  cases c<;>simp[bT]at hO;obtain⟨a,cap,us',t',g1,g2,g3,g4,g5,g6,g7⟩:=hc;exact⟨a,cap,us',t',g1,by grind,g3,by rw[hρ,hb rfl,g4],by grind,g6,g7.mono hA⟩
 |false=>
  rw[Cm hO]at hc⊢;obtain⟨g1,g2⟩:=hc.1.keepC hc.2.2 hA hB;grind
theorem Sr(_r:Rel w X ρ h){id}{sub}(hl:live h id sub){o'}{ks:K}(us')(hlive:∀s,live (upd h id o') id s->live h id s)
  (hkeep:∀s,eA h id s->iT ks id s=false->eA (upd h id o') id s) (hbf:bf (h id)=true->bf o'=true):Evo w ρ h (w.setRow (ρ id sub).1 us') ρ (upd h id o') ks:=by
 have hl':∀id' s,live (upd h id o') id' s->live h id' s:=by
  grind[Q2,fO]
 refine⟨rfl,rfl,rfl,by simp,fun b _ ho=>setRow_other w _ b us' (fun e=>ho ⟨id,sub,hl,e.symm⟩),fun id' s hp hk=>⟨?_,rfl⟩,fun b ho=>?_,fun id' hb=>⟨?_,rfl⟩,fun id' _ hd=>⟨SC (fun e=>by cases sub<;>simp[live,e]at hl) hd,rfl⟩⟩
 ·grind[Ra,fO]
 ·obtain⟨id',s,h1,h2⟩:=ho;exact .inl ⟨id',s,hl' id' s h1,h2⟩
 grind[oL,fO]
theorem RM(r:Rel w X ρ h){id}{sub}(hl:live h id sub){o'}{ks}(us')(hlive:∀s,live (upd h id o') id s->live h id s)
  (ev:Evo w ρ h (w.setRow (ρ id sub).1 us') ρ (upd h id o') ks) (ho:RO (w.setRow (ρ id sub).1 us') (l6 (w.setRow (ρ id sub).1 us') X (upd h id o') ρ) ρ (upd h id o') id o'):Rel (w.setRow (ρ id sub).1 us') X ρ (upd h id o'):=by
 have hl':∀id' s,live (upd h id o') id' s->live h id' s:=by
  grind[Q2,fO]
 refine r.step ev (·=id) (fun id' hi=>⟨fO h _ hi,fun _=>rfl,fun s h1=>setRow_other w _ _ us' fun e=>hi (r.inj id' s id sub h1 hl e).1⟩) (fun a b c d h1 h2=>r.inj a b c d (hl' a b h1) (hl' c d h2)) (fun a b h1=>r.nx a b (hl' a b h1)) (fun id' hi=>?_);grind[oL]
theorem wrB(r:Rel w X ρ h){id p}{cs xs}(e:h id=.bx cs){us}{t}(hb:w.heap[(ρ id none).1]?=some (.cells us t (0,0))){vals}(hlen:vals.length=xs.length)
  (hx:∀ (m:Nat) c u,xs[m]?=some c->vals[m]?=some u->bT c=false/\RV w (l6 w X h ρ) ρ h c u/\u.oneCell'=true/\pW h c) (hle:p+xs.length<=cs.length):
  Rel (w.setRow (ρ id none).1 (Q1 us p vals)) X ρ (upd h id (.bx (setRow cs p xs)))/\Evo w ρ h (w.setRow (ρ id none).1 (Q1 us p vals)) ρ (upd h id (.bx (setRow cs p xs))) (if((cs.drop p).take xs.length).any bT then [(id,true)]else []):=by
 have hln:live h id none:=by grind[live]
 obtain⟨us0,t0,g1,g2,g3,g4⟩:=r.cell e;rw[hb]at g1;cases g1;have hov:p+vals.length<=us.size:=by omega
 have hlive:∀s,live (upd h id (.bx (setRow cs p xs))) id s->live h id s:=by
  intro s h1;cases s with
  |none=>omega
  |some q=>
   obtain⟨cs',k,rows,h2,h3⟩:=h1;rw[oL]at h2;cases h2;rw[Bu q xs cs p hle]at h3;split at h3
   ·obtain⟨u,hu⟩:∃u,vals[q-p]?=some u:=⟨vals[q-p]'(by omega),adW _⟩;grind[bT]
   ·exact⟨cs,k,rows,e,h3⟩
 have hkeep:∀s,eA h id s->iT (if((cs.drop p).take xs.length).any bT then [(id,true)]else []) id s=false->eA (upd h id (.bx (setRow cs p xs))) id s:=by
  intro s hp hk;cases s with
  |none=>simp[eA,oL]
  |some q=>
   obtain⟨cs',k,rows,h2,h3⟩:=hp;rw[e]at h2;cases h2;refine⟨setRow cs p xs,k,rows,oL _ _ _,?_⟩;rw[Bu q xs cs p hle];split
   ·have:((cs.drop p).take xs.length).any bT=true:=List.any_eq_true.2 ⟨.osl k rows,by
     refine QR (i:=q-p) ?_;grind,rfl⟩
    grind[iT]
   omega
 have ev:=Sr (X:=X) r hln (Q1 us p vals) hlive hkeep (fun _=>rfl);refine⟨RM r hln (Q1 us p vals) hlive ev ?_,ev⟩;refine⟨Q1 us p vals,t,setRow_heap w _ us _ t _ hb,by grind[Q4],by grind[Q4,ve],fun q c hq=>?_⟩;rw[Bu q xs cs p hle]at hq;rw[Rb hov];split at hq
 ·obtain⟨u,hu⟩:∃u,vals[q-p]?=some u:=⟨vals[q-p]'(by omega),adW _⟩;obtain⟨f1,f2,f3,f4⟩:=hx _ _ _ hq hu;obtain⟨f5,f6⟩:=f2.keepC f4 (fun b hb=>ev.al hb) ev.boxes;grind[Cm]
 ·rw[if_neg (by omega)];obtain⟨u,f1,f2⟩:=g4 q c hq;refine⟨u,f1,f2.keep (fun b hb=>ev.al hb) ev.boxes rfl (fun hO=>?_)⟩;cases c<;>simp[bT]at hO;exact setRow_other w _ _ _ fun e2=>absurd (r.inj id (some q) id none ⟨cs,_,_,e,hq⟩ hln e2).2 (by simp)
theorem mvB(r:Rel w X ρ h){id p id0 k cap}{cs}{rows}{a}(e:h id=.bx cs){us}{t}(hb:w.heap[(ρ id none).1]?=some (.cells us t (0,0)))(e0:h id0=.ar k rows)
  (hn:rows.length<=cap) (hc:cap*k=(ρ id0 none).2) (ha:cap=0\/a=some ⟨(ρ id0 none).1,0,none⟩) (hp:p<cs.length):
  Rel (w.setRow (ρ id none).1 (Q1 us p [.slice a rows.length cap])) X (Ro ρ id (some p) (ρ id0 none)) (upd (upd h id0 .dead) id (.bx (cs.set p (.osl k rows))))/\
   Evo w ρ h (w.setRow (ρ id none).1 (Q1 us p [.slice a rows.length cap])) (Ro ρ id (some p) (ρ id0 none)) (upd (upd h id0 .dead) id (.bx (cs.set p (.osl k rows)))) ([(id0,false)]++(if(cs[p]?).any bT then [(id,true)]else [])):=by
 have hln:live h id none:=by grind[live]
 have hl0:live h id0 none:=by grind[live]
 have hne:id0≠id:=by grind
 obtain⟨us0,t0,g1,g2,g3,g4⟩:=r.cell e;rw[hb]at g1;cases g1;have hov:p+[Value.slice a rows.length cap].length<=us.size:=by grind
 have hρ:∀id' s,¬ (id'=id/\s=some p)->Ro ρ id (some p) (ρ id0 none) id' s=ρ id' s:=fun id' s hh=>Ts hh;have hl:∀id' s,live (upd (upd h id0 .dead) id (.bx (cs.set p (.osl k rows)))) id' s->(id'=id/\s=some p)\/(¬ (id'=id/\s=some p)/\id'≠id0/\live h id' s):=by
  intro id' s h1;by_cases hi:id'=id
  ·subst hi;cases s with
   |none=>grind
   |some q=>
    by_cases hq:q=p
    ·grind
    ·obtain⟨cs',k',rows',h2,h3⟩:=h1;rw[oL]at h2;cases h2;rw[List.getElem?_set_ne (fun e=>hq e.symm)]at h3;exact .inr ⟨by grind,fun e=>hne e.symm,⟨cs,k',rows',e,h3⟩⟩
  ·by_cases hi0:id'=id0
   ·subst hi0;exfalso;have:=(Q2 (fO (upd h id' .dead) (.bx (cs.set p (.osl k rows))) hi)).1 h1;cases s<;>simp[live,oL]at this
   grind[Q2,fO,upd]
 have blk:∀id' s,live (upd (upd h id0 .dead) id (.bx (cs.set p (.osl k rows)))) id' s->∃id2 s2,live h id2 s2/\(Ro ρ id (some p) (ρ id0 none) id' s).1=(ρ id2 s2).1/\((id'=id/\s=some p/\id2=id0/\s2=none)\/(id2=id'/\s2=s/\id2≠id0)):=by
  grind[QW]
 have ev:Evo w ρ h (w.setRow (ρ id none).1 (Q1 us p [.slice a rows.length cap])) (Ro ρ id (some p) (ρ id0 none)) (upd (upd h id0 .dead) id (.bx (cs.set p (.osl k rows)))) ([(id0,false)]++(if(cs[p]?).any bT then [(id,true)]else [])):=by
  refine⟨rfl,rfl,rfl,by simp,fun b _ ho=>setRow_other w _ b _ (fun e=>ho ⟨id,none,hln,e.symm⟩),fun id' s hps hk=>?_,fun b ho=>?_,fun id' hbf=>?_,fun id' _ hnd=>⟨fun e1=>?_,hρ _ _ (by simp)⟩⟩
  ·have hi0:id'≠id0:=by grind[iT]
   by_cases hi:id'=id
   ·subst hi;cases s with
    |none=>grind[eA,oL]
    |some q=>
     obtain⟨cs',k',rows',h2,h3⟩:=hps;rw[e]at h2;cases h2;have hq:q≠p:=by
      grind[bT,iT]
     exact⟨⟨_,k',rows',oL _ _ _,by grind⟩,hρ _ _ (by grind)⟩
   grind[Ra,fO]
  ·obtain⟨id',s,h1,h2⟩:=ho;obtain⟨id2,s2,h3,h4,_⟩:=blk id' s h1;exact .inl ⟨id2,s2,h3,h4.symm.trans h2⟩
  all_goals grind[bf,oL,fO]
 refine⟨r.step ev (fun i=>i=id\/i=id0) (fun id' hi=>?_) (fun i s i' s' h1 h2 h3=>?_) (fun i s h1=>?_) (fun id' hi=>?_),ev⟩
 ·simp only[not_or]at hi;exact⟨by rw[fO _ _ hi.1,fO _ _ hi.2],fun s=>hρ _ _ (by omega),fun s h1=>setRow_other w _ _ _ fun e=>hi.1 (r.inj id' s id none h1 hln e).1⟩
 ·obtain⟨i2,s2,f1,f2,f3⟩:=blk i s h1;obtain⟨i3,s3,f4,f5,f6⟩:=blk i' s' h2;obtain⟨rfl,rfl⟩:=r.inj i2 s2 i3 s3 f1 f4 (by omega);grind
 ·obtain⟨i2,s2,f1,f2,_⟩:=blk i s h1;rw[f2];exact r.nx _ _ f1
 ·rcases hi with rfl|rfl
  ·rw[oL];refine⟨Q1 us p [.slice a rows.length cap],t,by grind[setRow_heap],by grind[Q4],by grind[Q4,List.length_set],fun q c hq=>?_⟩;rw[Rb hov];by_cases hqp:q=p
   ·subst hqp;rw[List.getElem?_set_self hp]at hq;cases hq;rw[if_pos (by simp)];refine⟨.slice a rows.length cap,by simp,?_⟩;have ho:=r.ob id0;rw[e0]at ho;obtain⟨us1,t1,f1,f2,f3,f4⟩:=ho;refine⟨a,cap,us1,t1,rfl,by grind[QW],hn,?_,by grind[QW],by omega,f4.mono fun b hb=>ev.al hb⟩;rw[QW,setRow_other w _ _ _ (fun e2=>hne (r.inj id0 none id' none hl0 hln e2).1)];omega
   ·rw[List.getElem?_set_ne (fun e=>hqp e.symm)]at hq;rw[if_neg (by grind)];obtain⟨u,f1,f2⟩:=g4 q c hq;refine⟨u,f1,f2.keep (fun b hb=>ev.al hb) ev.boxes (hρ _ _ (by grind)) (fun hO=>?_)⟩;cases c<;>simp[bT]at hO;exact setRow_other w _ _ _ fun e2=>absurd (r.inj id' (some q) id' none ⟨cs,_,_,e,hq⟩ hln e2).2 (by simp)
  ·rw[fO _ _ hne,oL];trivial
end
section
variable {P:Program} {w w':World} {X:Nat→Prop} {ρ ρ':bg} {h h':ac} {A A':Nat→Prop}
def Yp(w:World)(X:Nat->Prop)(ρ:bg)(h h':ac)(y:AV)(u:Value)(ks:K):Prop:=
 (Rel w X ρ h'/\Evo w ρ h w ρ h' ks/\bT y=false/\RV w (l6 w X h' ρ) ρ h' y u/\pW h' y)\/
  (∃id0 k rows0 rows cap a,h id0=.ar k rows0/\(∃m,rows=rows0.take m)/\y=.osl k rows/\h'=upd h id0 .dead/\ks=[(id0,false)]/\u=.slice a rows.length cap/\rows.length<=cap/\cap*k=(ρ id0 none).2/\(cap=0\/a=some ⟨(ρ id0 none).1,0,none⟩))
theorem Vp{c}(hd:aq c=true):bT c=false:=by cases c<;>simp[aq]at hd<;>rfl
theorem ZF(r:Rel w X ρ h){x y}{u}{ks}(hx:RV w (l6 w X h ρ) ρ h x u)(h1:u.oneCell'=true)(hi:HU h x=some (y,h',ks)):Yp w X ρ h h' y u ks:=by
 have dl:aq x=true->HU h x=some (x,h,[])->Yp w X ρ h h' y u ks:=fun hd hq=>by
  rw[hq]at hi;obtain⟨rfl,rfl,rfl⟩:=hi;exact .inl ⟨r,.refl _ _ _,Vp hd,hx,Sa hd⟩
 have fr:Rel w X ρ h'/\Evo w ρ h w ρ h' ks/\RD w (l6 w X h' ρ) y u/\aq y=true->Yp w X ρ h h' y u ks:=
  fun⟨f1,f2,f3,f4⟩=>.inl ⟨f1,f2,Vp f4,.dat f3,Sa f4⟩
 cases x with
 |rsl id sub k lo n=>
  obtain⟨a,cap,rfl,hp,hn,hb,ha⟩:=hx.rsl_inv;cases sub with
  |some p=>exact fr (U0 r hn ha hi)
  |none=>
   simp only[HU]at hi;have other:HT h id k lo n (h id)=jV h id k lo n (h id)->Yp w X ρ h h' y (.slice a n cap) ks:=fun hq=>by
    grind[UZ]
   cases e:h id with
   |ar k' rows=>
    by_cases hk:k'=k
    ·subst hk;by_cases hw:lo=0/\n=rows.length
     ·obtain⟨rfl,rfl⟩:=hw;rw[e]at hi;simp only[HT,and_self,if_true]at hi;cases hi;exact .inr ⟨id,k',rows,rows,cap,a,e,⟨rows.length,List.take_length.symm⟩,rfl,rfl,rfl,rfl,hn,by grind,by grind⟩
     ·by_cases hw2:lo=0/\n<=rows.length
      ·obtain⟨rfl,hle⟩:=hw2;rw[e]at hi;simp only[HT,if_true]at hi;rw[if_neg (fun h=>hw ⟨rfl,h.2⟩),if_pos ⟨trivial,hle⟩]at hi;cases hi;have hlen:(rows.take n).length=n:=by grind
       exact .inr ⟨id,k',rows,rows.take n,cap,a,e,⟨n,rfl⟩,rfl,rfl,rfl,by rw[hlen],by omega,by grind,by grind⟩
      grind[HT]
    grind[HT]
   |_=>exact other (by rw[e];rfl)
 |ref id sub k i j=>
  cases sub with
  |some p=>grind[HU,aq]
  |none=>
   simp only[HU]at hi;cases e:h id<;>rw[e]at hi<;>simp only[OB]at hi<;>cases hi;exact .inl ⟨r,.refl _ _ _,rfl,hx,by grind[pW,bf]⟩
 |fn f a b=>
  simp only[HU]at hi;split at hi
  ·rename_i hd;cases hi;exact .inl ⟨r,.refl _ _ _,rfl,hx,hd⟩
  grind
 |any=>exact dl rfl rfl
 |v x=>exact dl rfl rfl
 |emp=>exact dl rfl rfl
 |sl k rows=>exact dl rfl rfl
 |_=>simp[HU,aq]at hi
theorem ZG{α}(s)(d)(x y:α):upd (upd s d x) d y=upd s d y:=by
 grind[upd]
theorem ZH(r:Rel w X ρ h){id k m}{rows}(e:h id=.ar k rows):Rel w X ρ (upd h id (.ar k (rows.take m)))/\Evo w ρ h w ρ (upd h id (.ar k (rows.take m))) []:=by
 have hl:∀id' s,live (upd h id (.ar k (rows.take m))) id' s->live h id' s:=by
  intro id' s h1;by_cases hi:id'=id
  all_goals simp_all[live,oL,Q2,fO]
 have ev:Evo w ρ h w ρ (upd h id (.ar k (rows.take m))) []:=by
  refine⟨rfl,rfl,rfl,QK _,fun _ _ _=>rfl,fun id' s hp hk=>⟨?_,rfl⟩,fun b ho=>?_,fun id' hb=>⟨?_,rfl⟩,fun id' _ hd=>⟨SC (by grind) hd,rfl⟩⟩
  ·by_cases hi:id'=id
   ·subst hi;cases s with
    |none=>simp[eA,oL]
    |some q=>obtain⟨_,_,_,h2,_⟩:=hp;grind
   grind[Ra,fO]
  ·obtain⟨id',s,h1,h2⟩:=ho;exact .inl ⟨id',s,hl id' s h1,h2⟩
  grind[bf,fO]
 refine⟨r.step ev (·=id) (fun id' hi=>⟨fO h _ hi,fun _=>rfl,fun _ _=>rfl⟩) (fun a b c d h1 h2=>r.inj a b c d (hl a b h1) (hl c d h2)) (fun a b h1=>r.nx a b (hl a b h1)) (fun id' hi=>?_),ev⟩;subst hi;have ho:=r.ob id';rw[e]at ho;obtain⟨us,t0,g1,g2,g3,g4⟩:=ho;rw[oL];refine⟨us,t0,g1,g2,QU (ad3 k (by grind)) g3,fun i row hr=>?_⟩;rw[List.getElem?_take]at hr;split at hr
 ·exact(g4.mono fun b hb=>ev.al hb) i row hr
 grind
theorem Yq(r:Rel w X ρ h){id p}{cs}(e:h id=.bx cs){us}{t}(hb:w.heap[(ρ id none).1]?=some (.cells us t (0,0))){x y}{u}{h1}{k1 ks}
  (hx:RV w (l6 w X h ρ) ρ h x u) (hu:u.oneCell'=true) (hi:HU h x=some (y,h1,k1)) (hs:E3 h1 id p y k1 (h1 id)=some (h',ks)):
  ∃ρ',Rel (w.setRow (ρ id none).1 (Q1 us p [u])) X ρ' h'/\Evo w ρ h (w.setRow (ρ id none).1 (Q1 us p [u])) ρ' h' ks/\ρ' id none=ρ id none/\p<us.size/\∃cs',h' id=.bx cs':=by
 obtain⟨us0,t0,g1,g2,g3,g4⟩:=r.cell e;rw[hb]at g1;cases g1;rcases ZF r hx hu hi with⟨f1,f2,f3,f4,f5⟩| ⟨id0,k,rows0,rows,cap,a,e0,⟨mm,hmm⟩,rfl,rfl,rfl,rfl,f2,f3,f4⟩
 ·cases e1:h1 id with
  |bx cs1=>
   rw[e1]at hs;simp only[E3]at hs;split at hs
   ·cases hs;obtain⟨w1,w2⟩:=wrB (vals:=[u]) (xs:=[y]) (p:=p) f1 e1 hb rfl (fun m c v hc hv=>by
     grind) (by grind)
    refine⟨ρ,w1,?_,rfl,?_,_,oL _ _ _⟩
    ·have w3:=f2.trans w2;have h9:List.take 1 (List.drop p cs1)=[cs1[p]]:=by grind[ael]
     have:(List.take [y].length (List.drop p cs1)).any bT=Option.any bT cs1[p]?:=by
      grind
     rw[this]at w3;exact w3
    ·obtain⟨us2,t2,q1,q2,q3,q4⟩:=f1.cell e1;omega
   grind
  |_=>rw[e1]at hs;cases hs
 ·have hne:id≠id0:=by grind
  rw[fO _ _ hne,e]at hs;simp only[E3]at hs;split at hs
  ·rename_i hp;cases hs;subst hmm;obtain⟨s1,s2⟩:=ZH r e0 (m:=mm);have e':(upd h id0 (.ar k (rows0.take mm))) id=.bx cs:=by grind[fO]
   obtain⟨w1,w2⟩:=mvB (p:=p) s1 e' hb (oL _ _ _) f2 f3 f4 hp;rw[ZG]at w1 w2;exact⟨_,w1,by simpa using s2.trans w2,Ts (by simp),by omega,_,oL _ _ _⟩
  grind
theorem ZI{ks}{xs}{m:Nat}{c}(hc:(DY ks xs)[m]?=some c):∃c',xs[m]?=some c'/\(c=c'/\(ks=[]\/DX ks c'=false)\/c=.any):=by
 cases ks with
 |nil=>exact⟨c,hc,.inl ⟨rfl,.inl rfl⟩⟩
 |cons k ks=>
  grind[DY,adV,jC]
theorem Evo.rvk{ks}(e:Evo w ρ h w' ρ' h' ks){c}{u}(hv:RV w (l6 w X h ρ) ρ h c u)(hm:ks=[]\/DX ks c=false):RV w' (l6 w' X h' ρ') ρ' h' c u:=by
 rcases hm with rfl|hm
 ·exact e.rv hv
 ·exact hv.keep2 (fun b hb=>e.al hb) (fun id sub hp hk=>e.keep id sub hp hk) hm
theorem Ws(ks)(xs):(DY ks xs).length=xs.length:=by cases ks<;>simp[DY]
theorem SV:∀n xs vals p {w} {ρ} {h h'} {ks} {id} {cs} {us} {t},Rel w X ρ h->h id=.bx cs->w.heap[(ρ id none).1]?=some (.cells us t (0,0))->
  vals.length=xs.length->(∀ (m:Nat) c u,xs[m]?=some c->vals[m]?=some u->RV w (l6 w X h ρ) ρ h c u/\u.oneCell'=true)->p+vals.length<=us.size->nF h id p n xs=some (h',ks)->
  ∃ρ',Rel (w.setRow (ρ id none).1 (Q1 us p vals)) X ρ' h'/\Evo w ρ h (w.setRow (ρ id none).1 (Q1 us p vals)) ρ' h' ks/\ρ' id none=ρ id none/\∃cs',h' id=.bx cs'
 |_,[],vals,p,w,ρ,h,h',ks,id,cs,us,t,r,e,hb,hlen,_,hle,hs=>by
  simp only[nF,Option.some.injEq,Prod.mk.injEq]at hs;obtain⟨rfl,rfl⟩:=hs;rw[RA hle (fun j v hv=>by grind),setRow_self w _ us t (0,0) hb];exact⟨ρ,r,.refl _ _ _,rfl,cs,e⟩
 |0,x::xs,_,_,_,_,_,_,_,_,_,_,_,_,_,_,_,_,_,hs=>by grind[nF]
 |n+1,x::xs,[],p,w,ρ,h,h',ks,id,cs,us,t,r,e,hb,hlen,hx,hle,hs=>by grind
 |n+1,x::xs,u::vals,p,w,ρ,h,h',ks,id,cs,us,t,r,e,hb,hlen,hx,hle,hs=>by
  simp only[nF,QS]at hs;obtain⟨⟨y,h1,k1⟩,e1,⟨h2,k2⟩,e2,⟨h3,k3⟩,e3,e4⟩:=hs;cases e4;obtain⟨f1,f2⟩:=hx 0 x u rfl rfl;obtain⟨ρ1,g1,g2,g3,g4,cs1,g5⟩:=Yq r e hb f1 f2 e1 e2;have hsz:(Q1 us p [u]).size=us.size:=Q4 (by grind);have hb1:(w.setRow (ρ id none).1 (Q1 us p [u])).heap[(ρ1 id none).1]?=some (.cells (Q1 us p [u]) t (0,0)):=by grind[setRow_heap]
  obtain⟨ρ2,q1,q2,q3,q4⟩:=SV n (DY k2 xs) vals (p+1) g1 g5 hb1 (by grind[Ws]) (fun m c v hc hv=>by
   obtain⟨c',p1,p2⟩:=ZI hc;obtain⟨p3,p4⟩:=hx (m+1) c' v (by grind) (by grind);refine⟨?_,p4⟩;rcases p2 with⟨rfl,p2⟩|rfl
   ·exact g2.rvk p3 p2
   ·exact .anyv v) (by grind) e3
  rw[g3,setRow_setRow,ZE hle]at q1 q2;exact⟨ρ2,q1,g2.trans q2,q3.trans g3,q4⟩
theorem TU{k}{rows}{us}(hr:qR w A k rows us)(hs:rows.length*k<=us.size){i j}{row xs}{vals}(hi:rows[i]?=some row)(hj:j+xs.length<=row.length)
  (hlen:vals.length=xs.length) (hx:∀ (m:Nat) c u,xs[m]?=some c->vals[m]?=some u->RD w A c u/\aq c=true):
  qR w A k (rows.set i (setRow row j xs)) (Q1 us (i*k+j) vals)/\i*k+j+vals.length<=us.size:=by
 have hrow:=(hr i row hi).1;have hil:=(List.getElem?_eq_some_iff.1 hi).1;have h1:(i+1)*k<=rows.length*k:=ad3 k hil;rw[ad8,Nat.one_mul]at h1;have hov:i*k+j+vals.length<=us.size:=by omega
 refine⟨fun i' row' hi'=>?_,hov⟩;by_cases e:i'=i
 ·subst e;rw[List.getElem?_set_self hil]at hi';cases hi';refine⟨by grind[ve],fun q c hq=>?_⟩;rw[Bu q xs row j hj]at hq;rw[Rb hov];split at hq
  ·obtain⟨u,hu⟩:∃u,vals[q-j]?=some u:=⟨vals[q-j]'(by omega),adW _⟩;grind
  ·rw[if_neg (by omega)];exact(hr i' row hi).2 q c hq
 ·rw[List.getElem?_set_ne (fun x=>e x.symm)]at hi';obtain⟨h2,h3⟩:=hr i' row' hi';refine⟨h2,fun q c hq=>?_⟩;rw[Rb hov,if_neg]
  ·grind
  ·rcases Nat.lt_or_gt_of_ne e with h5|h5
   ·have h6:=ad3 k h5;grind
   ·have h6:=ad3 k h5;grind
theorem wrA(r:Rel w X ρ h){id k i j}{rows}{row xs}(e:h id=.ar k rows){us}{t}(hb:w.heap[(ρ id none).1]?=some (.cells us t (0,0))){vals}(hlen:vals.length=xs.length)
  (hx:∀ (m:Nat) c u,xs[m]?=some c->vals[m]?=some u->RD w (l6 w X h ρ) c u/\aq c=true) (hi:rows[i]?=some row) (hj:j+xs.length<=row.length):
  Rel (w.setRow (ρ id none).1 (Q1 us (i*k+j) vals)) X ρ (upd h id (.ar k (rows.set i (setRow row j xs))))/\Evo w ρ h (w.setRow (ρ id none).1 (Q1 us (i*k+j) vals)) ρ (upd h id (.ar k (rows.set i (setRow row j xs)))) []/\i*k+j+vals.length<=us.size:=by
 have hln:live h id none:=by grind[live]
 have ho:=r.ob id;rw[e]at ho;obtain⟨us0,t0,g1,g2,g3,g4⟩:=ho;rw[hb]at g1;cases g1;have hlive:∀s,live (upd h id (.ar k (rows.set i (setRow row j xs)))) id s->live h id s:=by
  intro s h1;cases s with
  |none=>omega
  |some q=>obtain⟨_,_,_,h2,_⟩:=h1;grind[oL]
 have ev:Evo w ρ h (w.setRow (ρ id none).1 (Q1 us (i*k+j) vals)) ρ (upd h id (.ar k (rows.set i (setRow row j xs)))) []:=
  Sr (X:=X) r hln _ hlive (fun s hp _=>by
   cases s with
   |none=>simp[eA,oL]
   |some q=>obtain⟨_,_,_,h2,_⟩:=hp;grind) (fun hbf=>by rw[e]at hbf;cases hbf)
 obtain⟨f1,f2⟩:=TU (g4.mono fun b hb=>ev.al hb) g3 hi hj hlen (fun m c u hc hu=>⟨ev.rd (hx m c u hc hu).1,(hx m c u hc hu).2⟩);exact⟨RM r hln _ hlive ev ⟨_,t,setRow_heap w _ us _ t _ hb,by grind[Q4],by grind[Q4,List.length_set],f1⟩,ev,f2⟩
theorem wrS(r:Rel w X ρ h){id p k i j}{cs}{rows}{row xs}(e:h id=.bx cs)(ep:cs[p]?=some (.osl k rows)){us}{t}(hb:w.heap[(ρ id (some p)).1]?=some (.cells us t (0,0)))
  {vals} (hlen:vals.length=xs.length) (hx:∀ (m:Nat) c u,xs[m]?=some c->vals[m]?=some u->RD w (l6 w X h ρ) c u/\aq c=true) (hi:rows[i]?=some row) (hj:j+xs.length<=row.length):
  Rel (w.setRow (ρ id (some p)).1 (Q1 us (i*k+j) vals)) X ρ (upd h id (.bx (cs.set p (.osl k (rows.set i (setRow row j xs))))))/\Evo w ρ h (w.setRow (ρ id (some p)).1 (Q1 us (i*k+j) vals)) ρ (upd h id (.bx (cs.set p (.osl k (rows.set i (setRow row j xs)))))) []/\
   i*k+j+vals.length<=us.size:=by
 have hlp:live h id (some p):=⟨cs,k,rows,e,ep⟩;have hln:live h id none:=by grind[live]
 have hpl:=(List.getElem?_eq_some_iff.1 ep).1;obtain⟨us0,t0,g1,g2,g3,g4⟩:=r.cell e;obtain⟨u0,q1,a,cap,us1,t1,rfl,q2,q3,q4,q5,q6,q7⟩:=g4 p _ ep;rw[hb]at q4;cases q4;have hlive:∀s,live (upd h id (.bx (cs.set p (.osl k (rows.set i (setRow row j xs)))))) id s->live h id s:=by
  intro s h1;cases s with
  |none=>omega
  |some q=>
   by_cases hq:q=p
   ·grind
   ·obtain⟨cs',k',rows',h2,h3⟩:=h1;rw[oL]at h2;cases h2;rw[List.getElem?_set_ne (fun e=>hq e.symm)]at h3;exact⟨cs,k',rows',e,h3⟩
 have ev:Evo w ρ h (w.setRow (ρ id (some p)).1 (Q1 us (i*k+j) vals)) ρ (upd h id (.bx (cs.set p (.osl k (rows.set i (setRow row j xs)))))) []:=
  Sr (X:=X) r hlp _ hlive (fun s hp _=>by
   cases s with
   |none=>simp[eA,oL]
   |some q=>
    by_cases hq:q=p
    ·subst hq;exact⟨_,k,_,oL _ _ _,List.getElem?_set_self hpl⟩
    ·obtain⟨cs',k',rows',h2,h3⟩:=hp;exact⟨_,k',rows',oL _ _ _,by grind⟩) (fun _=>rfl)
 obtain⟨f1,f2⟩:=TU (q7.mono fun b hb=>ev.al hb) (QU (ad3 k q3) (Nat.le_of_eq q6)) hi hj hlen (fun m c u hc hu=>⟨ev.rd (hx m c u hc hu).1,(hx m c u hc hu).2⟩);refine⟨RM r hlp _ hlive ev ?_,ev,f2⟩;have oth:∀s,live h id s->s≠some p->(w.setRow (ρ id (some p)).1 (Q1 us (i*k+j) vals)).heap[(ρ id s).1]?=w.heap[(ρ id s).1]?:=fun s h1 h2=>setRow_other w _ _ _ fun e2=>h2 (r.inj id s id (some p) h1 hlp e2).2;refine⟨us0,t0,by grind,g2,by grind,fun q c hq=>?_⟩;by_cases hqp:q=p
 ·subst hqp;rw[List.getElem?_set_self hpl]at hq;cases hq;exact⟨_,q1,a,cap,_,t,by rw[List.length_set],q2,by grind,setRow_heap w _ us _ t _ hb,by grind[Q4],by grind[Q4],f1⟩
 ·rw[List.getElem?_set_ne (fun e=>hqp e.symm)]at hq;obtain⟨u,f3,f4⟩:=g4 q c hq;refine⟨u,f3,f4.keep (fun b hb=>ev.al hb) ev.boxes rfl (fun hO=>?_)⟩;cases c<;>simp[bT]at hO;exact oth (some q) ⟨cs,_,_,e,hq⟩ (by grind)
end
section
variable {P:Program} {w w':World} {X:Nat→Prop} {ρ ρ':bg} {h h':ac} {A A':Nat→Prop}
theorem Cells.toList{cs}{us}(hc:Cells w A ρ h cs us):us.toList.length=cs.length/\(∀u∈us.toList,u.oneCell'=true)/\
  ∀ (m:Nat) c u,cs[m]?=some c->us.toList[m]?=some u->RV w A ρ h c u/\u.oneCell'=true:=by
 refine⟨by simpa using hc.1,fun u hu=>?_,fun m c u h1 h2=>?_⟩
 ·obtain⟨i,hi⟩:=ad9 hu;exact hc.2.1 i u (by grind)
 ·exact⟨hc.2.2 m c u h1 (by grind),hc.2.1 m u (by grind)⟩
theorem Tz{A0}{h0}{cs ds}{us}{ks}(r:Rel w X ρ h)(hA:∀b,A0 b->l6 w X h ρ b)(hc:Cells w A0 ρ h0 cs us)(he:gr h cs=some (ds,h',ks)):
  Rel w X ρ h'/\Evo w ρ h w ρ h' ks/\ds.length=cs.length/\∀ (m:Nat) c u,ds[m]?=some c->us.toList[m]?=some u->RD w (l6 w X h' ρ) c u/\aq c=true:=by
 obtain⟨f1,f2,f3,f4,f5⟩:=Tj cs (us:=us) 0 r hA (fun i c u h1 h2=>⟨hc.2.2 i c u h1 (by grind),hc.2.1 i u (by grind)⟩) (by rw[hc.1];omega) he;grind
theorem VK{k k0 i j k'}{xs}{rows q}(hs:tw k k0 i j xs k' rows=some q):k'=k0/\∃row,rows[i]?=some row/\j+k<=row.length/\q=rows.set i (setRow row j xs):=by
 grind[tw,QS]
theorem Wu(r:Rel w X ρ h){ty}{k}(hk:cW P ty=some k){a x z}{ua ux}{ks}(ha:RV w (l6 w X h ρ) ρ h a ua)(hx:RV w (l6 w X h ρ) ρ h x ux)(hz:kK h k a x=some (z,h',ks)):
  ∃ad w' ρ',z=.und/\ua=.pointer (some ad)/\(storeVar ty ad ux).run P w=.ok () w'/\Rel w' X ρ' h'/\Evo w ρ h w' ρ' h' ks:=by
 simp only[kK,QS]at hz;obtain⟨xs,e0,hz⟩:=hz;have hc:=Sz hx e0;obtain⟨c1,c2,c3⟩:=hc.toList;split at hz
 ·rename_i hlen;subst hlen;have hsz:=hc.1;cases a with
  |ref id sub k0 i j=>
   obtain⟨rfl,hp⟩:=ha.ref_inv;cases sub with
   |none=>
    simp only at hz;cases e:h id with
    |bx cs=>
     rw[e]at hz;simp only[AX,C1]at hz;split at hz
     ·rename_i hle;obtain⟨us,t,g1,g2,g3,g4⟩:=r.cell e;have run:=RU hk hsz c2 g1 (o:=i*k0+j) (by omega);split at hz
      ·obtain⟨f1,f2⟩:=wrB r e g1 c1 (fun m c u h1 h2=>by
        grind[Vp,Sa]) hle
       grind
      ·simp only[adV,Prod.mk.injEq]at hz;obtain⟨⟨h2,k2⟩,e2,hzu,rfl,rfl⟩:=hz;obtain⟨ρ',f1,f2,_⟩:=SV xs.length xs ux.cells.toList (i*k0+j) r e g1 c1 c3 (by omega) e2;grind
     grind
    |ar k' rows=>
     rw[e]at hz;simp only[AX,QS]at hz;obtain⟨⟨ds,h1,k1⟩,e1,hz⟩:=hz;obtain⟨f1,f2,f3,f4⟩:=Tz r (fun _ hb=>hb) hc e1;simp only at hz;cases e2:h1 id<;>rw[e2]at hz<;>simp only[C2]at hz<;>try (cases hz;done)
     rename_i k2 rows2;simp only[adV,Prod.mk.injEq]at hz;obtain⟨q,e3,hzu,rfl,rfl⟩:=hz;obtain⟨rfl,row,g1,g2,rfl⟩:=VK e3;have ho:=f1.ob id;rw[e2]at ho;obtain⟨us,t,q1,q2,q3,q4⟩:=ho;obtain⟨w1,w2,w3⟩:=wrA f1 e2 q1 (by omega) f4 g1 (by rw[f3];omega);have run:=RU hk hsz c2 q1 (o:=i*k2+j) (by omega);exact⟨_,_,ρ,hzu.symm,rfl,run,w1,by simpa using f2.trans w2⟩
    |_=>rw[e]at hz;cases hz
   |some p=>
    simp only[QS]at hz;obtain⟨⟨ds,h1,k1⟩,e1,hz⟩:=hz;obtain⟨f1,f2,f3,f4⟩:=Tz r (fun _ hb=>hb) hc e1;simp only at hz;cases e2:h1 id<;>rw[e2]at hz<;>simp only[AY]at hz<;>try (cases hz;done)
    rename_i cs;cases e3:cs[p]? with
    |none=>rw[e3]at hz;cases hz
    |some c=>
     rw[e3]at hz;cases c<;>simp only[JM]at hz<;>try (cases hz;done)
     rename_i k2 rows2;simp only[adV,Prod.mk.injEq]at hz;obtain⟨q,e4,hzu,rfl,rfl⟩:=hz;obtain⟨rfl,row,g1,g2,rfl⟩:=VK e4;obtain⟨us,t,q1,q2⟩:=f1.live_heap (id:=id) (sub:=some p) ⟨cs,k2,rows2,e2,e3⟩;obtain⟨w1,w2,w3⟩:=wrS f1 e2 e3 q1 (by omega) f4 g1 (by rw[f3];omega);have run:=RU hk hsz c2 q1 (o:=i*k2+j) (by omega);exact⟨_,_,ρ,hzu.symm,rfl,run,w1,by simpa using f2.trans w2⟩
  |_=>cases hz
 grind
theorem ZJ{h2}{d}{b}{w2}(hd:h2 d≠ .dead)(hρ:ρ d none=b):RV w2 (l6 w2 X h2 ρ) ρ h2 (.ref d none 0 0 0) (.pointer (some ⟨b.1,0,none⟩)):=by
 have:=RV.ref (w:=w2) (A:=l6 w2 X h2 ρ) (ρ:=ρ) (h:=h2) d none 0 0 0 hd;grind
theorem ZK{h2}{d k n cap}{b}{w2}(hd:h2 d≠ .dead)(hρ:ρ d none=b)(hn:n<=cap)(hb:cap*k=b.2):RV w2 (l6 w2 X h2 ρ) ρ h2 (.rsl d none k 0 n) (.slice (some ⟨b.1,0,none⟩) n cap):=
 .rsl d none k 0 n cap _ hd hn (by grind) (.inr (by grind))
theorem Yr{t}{k}(r:Rel w X ρ h){d}(hdp:bw d=false){x z}{u}{ks}(hx:RV w (l6 w X h ρ) ρ h x u)(hn:rD h d k x=some (z,h',ks)):
  ∃v w',(Instr.box t u).run P w=.ok v w'/\Got w X ρ h w' h' ks z v:=by
 simp only[rD,QS]at hn;obtain⟨xs,e0,hn⟩:=hn;have hc:=Sz hx e0;obtain⟨c1,c2,c3⟩:=hc.toList;split at hn
 ·refine⟨.pointer (some ⟨w.heap.size,0,none⟩),w.alloc (.cells u.cells t),by simp[Instr.box,newVar,newRow],?_⟩;split at hn
  ·rename_i hd;obtain⟨h1,rfl,rfl,rfl⟩:=Rl hn;obtain⟨g6,g7⟩:=SD (e:=t) r hdp h1 (VJ hc hd);exact⟨_,g6,g7,ZJ (by grind[oL]) (QW _ _ _ _)⟩
  ·simp only[QS]at hn;obtain⟨⟨z1,h1,k1⟩,e1,hn⟩:=hn;obtain⟨hd,rfl,rfl,rfl⟩:=Rl e1;simp only[E4,adV,Prod.mk.injEq]at hn;obtain⟨⟨h2,k2⟩,e2,rfl,rfl,rfl⟩:=hn;have hok:Yo w (l6 w X h ρ) ρ h u.cells (.bx (QI k .any)):=by
    refine⟨by grind,fun p c hp=>?_⟩;obtain⟨hp1,hp2⟩:=List.getElem?_eq_some_iff.1 hp;simp only[List.length_replicate]at hp1;rw[List.getElem_replicate]at hp2;subst hp2;have hsz:=hc.1;obtain⟨v,hv⟩:∃v,u.cells[p]?=some v:=⟨u.cells[p]'(by omega),Array.getElem?_eq_getElem _⟩;exact⟨rfl,v,hv,.anyv v,hc.2.1 p v hv,trivial⟩
   obtain⟨g6,g7⟩:=SD (e:=t) r hdp hd hok;have hb1:(w.alloc (.cells u.cells t)).heap[(Ro ρ d none (w.heap.size,u.cells.size) d none).1]?=some (.cells u.cells t (0,0)):=by grind[QW,Sd]
   obtain⟨ρ',q1,q2,q3,cs',q4⟩:=SV xs.length xs u.cells.toList 0 g6 (oL _ _ _) hb1 c1 (fun m c v h1 h2=>⟨g7.rv (c3 m c v h1 h2).1,(c3 m c v h1 h2).2⟩) (by simp) e2;rw[RA (by simp) (fun j v hv=>by simpa using hv),setRow_self _ _ _ t (0,0) hb1]at q1 q2;exact⟨ρ',q1,g7.trans q2,ZJ (b:=(w.heap.size,u.cells.size)) (by grind) (by rw[q3,QW])⟩
 grind
theorem ZL(off)(vs us:Array Value)(hle:off+vs.size<=us.size):vs.zipIdx.foldl (fun cs (c,j)=>cs.setIfInBounds (off+j) c) us=Q1 us off vs.toList:=by
 have fold:∀ (l:List Value) k (us:Array Value),((l.zipIdx k).foldl (fun cs x=>cs.setIfInBounds (off+x.2) x.1) us).size=us.size/\
   ∀i,off+k+l.length<=us.size->((l.zipIdx k).foldl (fun cs x=>cs.setIfInBounds (off+x.2) x.1) us)[i]?=if off+k<=i/\i<off+k+l.length then l[i- (off+k)]? else us[i]?:=by
  intro l;induction l with
  |nil=>intro k us;exact⟨by simp,fun i _=>by simp;omega⟩
  |cons v l ih=>
   simp only[List.zipIdx_cons,List.foldl_cons];grind
 have e:vs.zipIdx.foldl (fun cs (c,j)=>cs.setIfInBounds (off+j) c) us=(vs.toList.zipIdx 0).foldl (fun cs x=>cs.setIfInBounds (off+x.2) x.1) us:=by
  rw[←Array.foldl_toList,Array.toList_zipIdx]
 apply Array.ext_getElem?;grind[Rb]
theorem Ys{row xs}(hl:xs.length=row.length):setRow row 0 xs=xs:=by
 apply List.ext_getElem?;grind[Bu]
theorem Tt{k}{A0}{h0}:∀ps vs {h h'} {rows rows'} {us} {ks},Rel w X ρ h->(∀b,A0 b->l6 w X h ρ b)->vs.length=ps.length->
  (∀ (m:Nat) p v,ps[m]?=some p->vs[m]?=some v->v.1=p.1/\RV w A0 ρ h0 p.2 v.2)->qR w (l6 w X h ρ) k rows us->rows.length*k<=us.size->dq k h rows ps=some (rows',h',ks)->
  ∃us',Instr.fill (fun i=>some (i*k,k)) us vs=some us'/\us'.size=us.size/\rows'.length=rows.length/\qR w (l6 w X h' ρ) k rows' us'/\Rel w X ρ h'/\Evo w ρ h w ρ h' ks
 |[],vs,h,h',rows,rows',us,ks,r,hA,hl,hv,hr,hs,hp=>by
  have:=List.eq_nil_of_length_eq_zero (by omega);subst this;obtain⟨rfl,rfl,rfl⟩:=hp;exact⟨us,rfl,rfl,rfl,hr,r,.refl _ _ _⟩
 |p::ps,[],h,h',rows,rows',us,ks,r,hA,hl,hv,hr,hs,hp=>by grind
 | (i,a)::ps,(i',v)::vs,h,h',rows,rows',us,ks,r,hA,hl,hv,hr,hs,hp=>by
  simp only[dq,QS]at hp;obtain⟨cs,e0,hp⟩:=hp;obtain⟨hv1,hv2⟩:=hv 0 (i,a) (i',v) rfl rfl;subst hv1;have hc:=Sz hv2 e0;split at hp
  ·rename_i hcond;obtain⟨hck,hi⟩:=hcond;simp only[QS]at hp;obtain⟨⟨ds,h1,k1⟩,e1,⟨rows2,h2,k2⟩,e2,e3⟩:=hp;cases e3;obtain⟨f1,f2,f3,f4⟩:=Tz r hA hc e1;obtain⟨row,hrow⟩:∃row,rows[i']?=some row:=⟨rows[i'],adW hi⟩;have hrl:=(hr i' row hrow).1;have hcs:v.cells.toList.length=ds.length:=by rw[f3];simpa using hc.1
   obtain⟨g1,g2⟩:=TU (hr.mono (w':=w) fun b hb=>f2.al hb) hs hrow (j:=0) (xs:=ds) (vals:=v.cells.toList) (by omega) hcs f4;rw[Ys (by omega),Nat.add_zero]at g1;rw[Nat.add_zero]at g2;obtain⟨us',q1,q2,q3,q4,q5,q6⟩:=Tt ps vs (us:=Q1 us (i'*k) v.cells.toList) f1 (fun b hb=>(f2.al (hA b hb)).1) (by grind) (fun m p q h1 h2=>hv (m+1) p q (by grind) (by grind)) g1
    (by grind[Q4,List.length_set]) e2
   refine⟨us',?_,by rw[q2,Q4 g2],by rw[q3,List.length_set],q4,q5,f2.trans q6⟩;simp only[Instr.fill];have hle:i'*k+v.cells.size<=us.size:=by omega
   rw[if_neg (by grind),ZL (i'*k) v.cells us hle];omega
  grind
end
section
variable {P:Program} {w w':World} {X:Nat→Prop} {ρ ρ':bg} {h h':ac} {A A':Nat→Prop}
theorem RB{t e}(he:mT P t=some e):P.underlying t=some (.slice e):=by
 grind[mT]
theorem SE{e}{k}{zs}(hk:cW P e=some k)(hz:mS P e=some zs)(n c)(hn:n<=c):∃zv,(∀w,(zeroValue e).run P w=.ok zv w)/\
  ((Array.range (c*k)).map (zv.cells[· %zv.cells.size]!)).size=c*k/\(QI n zs).length*k<=((Array.range (c*k)).map (zv.cells[· %zv.cells.size]!)).size/\qR w A k (QI n zs) ((Array.range (c*k)).map (zv.cells[· %zv.cells.size]!)):=by
 obtain⟨i,z,g1,g2,g3,g4,g5⟩:=Ry (w:=w) (A:=A) (ρ:=fun _ _=>(0,0)) (h:=fun _=>.dead) hz;have hik:i.size=k:=by grind[cW]
 refine⟨z,U1 g1 g2,by simp,?_,fun q row hq=>?_⟩
 ·simp_all[List.length_replicate,Array.size_map,Array.size_range,ad3]
 ·obtain⟨h1,h2⟩:=List.getElem?_eq_some_iff.1 hq;simp only[List.length_replicate]at h1;rw[List.getElem_replicate]at h2;subst h2;refine⟨by omega,fun j c2 hj=>?_⟩;have hjl:=(List.getElem?_eq_some_iff.1 hj).1;have hzl:j<z.cells.size:=by omega
  have hlt:q*k+j<c*k:=by
   have:(q+1)*k<=c*k:=ad3 k (by omega);grind
  have hd:=List.all_eq_true.1 (Wr hz) c2 (QR hj);refine⟨z.cells[j],?_,(g5.2.2 j c2 _ hj (Array.getElem?_eq_getElem hzl)).toD hd (g5.2.1 j _ (Array.getElem?_eq_getElem hzl)),hd⟩;grind[aeh,Nat.mul_add_mod,Nat.mod_eq_of_lt]
theorem RJ(r:Rel w X ρ h){d k n cap}(hdp:bw d=false){rows}{us}{t}{x}{ks ks'}(hr:qR w (l6 w X h ρ) k rows us)(hs:rows.length*k<=us.size)(hn:n<=cap)(hc:cap*k=us.size)
  (hz:aT h d k rows n ks=some (x,h',ks')):ks'=ks/\∃ρ',Rel (w.alloc (.cells us t)) X ρ' h'/\Evo w ρ h (w.alloc (.cells us t)) ρ' h' []/\RV (w.alloc (.cells us t)) (l6 (w.alloc (.cells us t)) X h' ρ') ρ' h' x (.slice (some ⟨w.heap.size,0,none⟩) n cap):=by
 obtain⟨hd,rfl,rfl,rfl⟩:=Rl hz;obtain⟨g1,g2⟩:=SD (e:=t) r hdp hd (us:=us) (o:=.ar k rows) ⟨hs,hr⟩;exact⟨rfl,_,g1,g2,ZK (b:=(w.heap.size,us.size)) (by grind[oL]) (QW _ _ _ _) hn hc⟩
theorem TM(r:Rel w X ρ h){t e}{k n d}(hdp:bw d=false){zs}{ps}{vs}{z}{ks}(he:mT P t=some e)(hk:cW P e=some k)(hz:mS P e=some zs)(hn:n*k<=16777216)
  (hl:vs.size=ps.length) (hv:∀ (m:Nat) p v,ps[m]?=some p->vs[m]?=some v->v.1=p.1/\RV w (l6 w X h ρ) ρ h p.2 v.2)
  (hr:((dq k h (QI n zs) ps).bind fun q=>aT q.2.1 d k q.1 n q.2.2)=some (z,h',ks)):∃v w',(Instr.buildSlice t n vs).run P w=.ok v w'/\Got w X ρ h w' h' ks z v:=by
 simp only[QS]at hr;obtain⟨⟨rows,h1,k1⟩,e1,e2⟩:=hr;obtain⟨zv,z1,z2,z3,z4⟩:=SE (w:=w) (A:=l6 w X h ρ) hk hz n n (QK n);obtain⟨us',f1,f2,f3,f4,f5,f6⟩:=Tt ps vs.toList r (fun _ hb=>hb) (by omega) (fun m p v h1 h2=>hv m p v h1 (by grind)) z4 z3 e1;obtain⟨rfl,ρ',g1,g2,g3⟩:=RJ (t:=e) (cap:=n) f5 hdp f4 (by grind) (QK n) (by rw[f2,z2]) e2;refine⟨.slice (some ⟨w.heap.size,0,none⟩) n n,w.alloc (.cells us' e),?_,ρ',g1,by simpa using f6.trans g2,g3⟩;have hnk:¬ (n*k>2^24):=by omega
 have harr:(Array.range (n*k)).map ((if n*k=0 then #[]else zv.cells)[· % (if n*k=0 then #[]else zv.cells).size]!)=(Array.range (n*k)).map (zv.cells[· %zv.cells.size]!):=by
  grind
 simp only[Instr.buildSlice,Sem.run_bind,run_underlying (RB he),Result.andThen,Re hk,if_neg hnk];by_cases h9:n*k=0
 ·rw[if_pos h9]at harr⊢;simp only[Sem.run_bind,Sem.run_pure,Result.andThen];rw[harr,f1];simp[newRow]
 simp_all[if_neg,Sem.run_bind,Sem.run_pure,Result.andThen,newRow]
theorem Yt(r:Rel w X ρ h){t e}{k b d}(hdp:bw d=false){zs}{l c z}{ul uc}{ks}(he:mT P t=some e)(hk:cW P e=some k)(hb:xI P e=some b)(hz:mS P e=some zs)
  (hl:RV w (l6 w X h ρ) ρ h l ul) (hc:RV w (l6 w X h ρ) ρ h c uc)
  (hr:((sy l c).bind fun p=>if p.2*b<=140737488355328 then aT h d k (QI p.1 zs) p.1 []else none)=some (z,h',ks)):∃v w',(Instr.makeSlice t ul uc).run P w=.ok v w'/\Got w X ρ h w' h' ks z v:=by
 simp only[QS]at hr;obtain⟨⟨ln,cn⟩,e1,e2⟩:=hr;split at e2
 ·unfold sy at e1;split at e1
  ·rename_i li ci;obtain⟨rfl,_⟩:=hl.v_inv;obtain⟨rfl,_⟩:=hc.v_inv;split at e1
   ·obtain⟨rfl,rfl⟩:=e1;obtain⟨zv,z1,z2,z3,z4⟩:=SE (w:=w) (A:=l6 w X h ρ) hk hz li.toNat ci.toNat (by omega);obtain⟨rfl,ρ',g1,g2,g3⟩:=RJ (t:=e) (cap:=ci.toNat) r hdp z4 z3 (by omega) (by rw[z2]) e2;refine⟨_,w.alloc (.cells ((Array.range (ci.toNat*k)).map (zv.cells[· %zv.cells.size]!)) e),?_,ρ',g1,g2,g3⟩;obtain⟨i,hi,hib⟩:∃i,P.info? e=some i/\i.bytes=b:=by simp_all[xI]
    have harr:(Array.range (ci.toNat*k)).map ((if ci.toNat*k=0 then #[]else zv.cells)[· % (if ci.toNat*k=0 then #[]else zv.cells).size]!)=(Array.range (ci.toNat*k)).map (zv.cells[· %zv.cells.size]!):=by
     grind
    have hwl:IntKind.i64.wrap li=li:=by grind[IntKind.wrap,IntKind.signed,IntKind.bits]
    have hwc:IntKind.i64.wrap ci=ci:=by grind[IntKind.wrap,IntKind.signed,IntKind.bits]
    have hti:(typeInfo e).run P w=.ok i w:=by simp[typeInfo,hi]
    have hli:∀n,(asInt (.int .i64 n)).run P w=.ok n w:=fun _=>rfl;simp only[Instr.makeSlice,Sem.run_bind,run_underlying (RB he),Result.andThen, *];rw[if_neg (by grind)];simp only[Sem.run_bind,run_askRoom,Result.andThen,Re hk];by_cases h9:ci.toNat*k=0
    ·rw[if_pos h9]at harr⊢;simp only[Sem.run_bind,Sem.run_pure,Result.andThen];rw[harr];simp[newRow]
    simp_all[if_neg,Sem.run_bind,Sem.run_pure,Result.andThen,newRow]
   grind
  grind
 grind
end
section
variable {P:Program} {w w':World} {X:Nat→Prop} {ρ ρ':bg} {h h':ac} {A A':Nat→Prop}
theorem SK(r:Rel w X ρ h):Rel w.drew X ρ h/\Evo w ρ h w.drew ρ h []:=by
 have ev:Evo w ρ h w.drew ρ h []:=⟨rfl,rfl,rfl,QK _,fun _ _ _=>rfl,fun _ _ hp _=>⟨hp,rfl⟩,fun _ ho=>.inl ho,fun _ hb=>⟨hb,rfl⟩,fun _ _ hd=>⟨hd,rfl⟩⟩;exact⟨r.step ev (fun _=>False) (fun _ _=>⟨rfl,fun _=>rfl,fun _ _=>rfl⟩) r.inj r.nx (fun _ hf=>hf.elim),ev⟩
theorem U2{k}{rows}{ad:Addr}(hk:∀row∈rows,row.length=k)(h0:0<k)
  (hc:∀i row j c,rows[i]?=some row->row[j]?=some c->∃u,w.cell? (ad.add (i*k+j))=some u/\RD w A c u/\aq c=true):
  ∃news:List Value,news.length=rows.length*k/\(∀q v,news[q]?=some v->w.cell? (ad.add q)=some v)/\qR w A k rows news.toArray:=by
 have all:∀q,q<rows.length*k->∃row c,rows[q/k]?=some row/\row[q%k]?=some c:=by
  simp_all[Nat.div_lt_of_lt_mul,aeh,Nat.mod_lt,aee]
 refine⟨(List.range (rows.length*k)).map fun q=>(w.cell? (ad.add q)).getD undef,by simp,fun q v hq=>?_,fun i row hi=>⟨hk row (QR hi),fun j c hj=>?_⟩⟩
 ·grind[aeh,Nat.div_add_mod]
 ·have hil:=(List.getElem?_eq_some_iff.1 hi).1;have hlt:i*k+j<rows.length*k:=by
   have:=ad3 k hil;grind
  grind
theorem Rh(size)(a)(l c)(w):(Builtin.firstCells size 0 (.slice a l c)).run P w=.ok #[] w:=by
 cases a with
 |none=>simp[Builtin.firstCells]
 |some b=>grind[run_firstCells_some]
theorem RY{b o k n l cap}{us}{t}{fr}{rows}(hb:w.heap[b]?=some (.cells us t fr))(hr:qR w A k rows us)(hle:o+n<=rows.length)(h0:0<k):
  ∃news:List Value,news.length=n*k/\(∀w2,w2.heap=w.heap->(Builtin.firstCells k n (.slice (some ⟨b,o*k,none⟩) l cap)).run P w2=.ok news.toArray w2)/\qR w A k ((rows.drop o).take n) news.toArray:=by
 have at_:∀i row,((rows.drop o).take n)[i]?=some row->rows[o+i]?=some row:=by
  grind
 obtain⟨news,h1,h2,h3⟩:=U2 (w:=w) (A:=A) (k:=k) (rows:=(rows.drop o).take n) (ad:=⟨b,o*k,none⟩) (fun row hrow=>by
  obtain⟨i,hi⟩:=ad9 hrow;exact(hr _ _ (at_ i row hi)).1) h0 (fun i row j c hi hj=>by
  obtain⟨u,f1,f2,f3⟩:=(hr _ _ (at_ i row hi)).2 j c hj;grind[Ru,SR,Nat.add_assoc,ad8])
 grind[run_firstCells_some,lD]
theorem Us(r:Rel w X ρ h){k}{y}{uy}{ys}(h0:0<k)(hy:RV w (l6 w X h ρ) ρ h y uy)(hr:kD h k y=some ys):
  ∃a c,uy=.slice a ys.length c/\∃news:List Value,news.length=ys.length*k/\(∀w2,w2.heap=w.heap->(Builtin.firstCells k ys.length uy).run P w2=.ok news.toArray w2)/\qR w (l6 w X h ρ) k ys news.toArray:=by
 cases y with
 |emp=>
  cases hr;obtain⟨a,rfl⟩:=hy.emp_inv;exact⟨a,0,rfl,[],by simp,fun _ _=>Rh _ _ _ _ _,fun i row hi=>by grind⟩
 |sl k' rows=>
  simp only[kD]at hr;split at hr
  ·rename_i hk;subst hk;cases hr;have hd:=hy.sl_inv;cases hd with
   |sl _ _ a cap ad vals hc ha hk hv hl hrr=>
    obtain⟨news,h1,h2,h3⟩:=U2 (w:=w) (A:=l6 w X h ρ) (k:=k') (rows:=ys) (ad:=ad) hk h0 (fun i row j c hi hj=>⟨vals i j,hv i row j c hi hj,hrr i row j c hi hj,hl row (QR hi) c (QR hj)⟩);by_cases hne:ys=[]
    ·simp_all[List.eq_nil_of_length_eq_zero,Rh]
    grind[run_firstCells_some,lD]
  grind
 |rsl id sub k' lo n=>
  simp only[kD]at hr;split at hr
  ·rename_i hk;subst hk;obtain⟨a,cap,rfl,hp,hn,hb,ha⟩:=hy.rsl_inv;have key:∀rows us t fr,w.heap[(ρ id sub).1]?=some (.cells us t fr)->qR w (l6 w X h ρ) k' rows us->lo+n<=rows.length->ys=(rows.drop lo).take n->
     ∃a' c,Value.slice a n cap=.slice a' ys.length c/\∃news:List Value,news.length=ys.length*k'/\(∀w2,w2.heap=w.heap->(Builtin.firstCells k' ys.length (.slice a n cap)).run P w2=.ok news.toArray w2)/\qR w (l6 w X h ρ) k' ys news.toArray:=by
    intro rows us t fr g1 g2 g3 g4;have hlen:ys.length=n:=by grind
    refine⟨a,cap,by rw[hlen],?_⟩;rw[hlen];by_cases hn0:n=0
    ·subst hn0;have:=List.eq_nil_of_length_eq_zero hlen;exact⟨[],by simp,fun _ _=>Rh _ _ _ _ _,fun i row hi=>by grind⟩
    ·rcases ha with h9|rfl
     ·omega
     ·obtain⟨news,f1,f2,f3⟩:=RY (P:=P) (l:=n) (cap:=cap) g1 g2 g3 h0;grind
   have cut:∀ {q},lJ k' lo n q=some ys->∃rows,q=some (k',rows)/\lo+n<=rows.length/\ys=(rows.drop lo).take n:=by
    intro q hq;cases q with
    |none=>cases hq
    |some p=>
     grind[lJ]
   obtain⟨rows,e1,e2,e3⟩:=cut hr;have ho:=r.ob id;cases sub with
   |none=>
    simp only[pM]at e1;cases e:h id with
    |ar k2 rows2=>
     rw[e]at e1 ho;obtain⟨rfl,rfl⟩:=e1;obtain⟨us,t,g1,g2,g3,g4⟩:=ho;grind
    |fz k2 rows2=>
     rw[e]at e1 ho;obtain⟨rfl,rfl⟩:=e1;obtain⟨_,us,t,fr,g1,g2,g3,g4⟩:=ho;grind
    |_=>rw[e]at e1;cases e1
   |some p=>
    simp only[pM]at e1;cases e:h id with
    |bx cs=>
     rw[e]at e1;simp only[lI]at e1;cases ec:cs[p]? with
     |none=>rw[ec]at e1;cases e1
     |some c=>
      rw[ec]at e1;cases c<;>simp only[xp]at e1<;>try (cases e1;done)
      obtain⟨us,t,g1,g2,g3,g4⟩:=r.cell e;obtain⟨u,_,a',cap',us',t',_,_,_,q4,q5,q6,q7⟩:=g4 p _ ec;grind
    |_=>rw[e]at e1;cases e1
  grind
 |_=>cases hr
theorem SW{t u ty e e'}{k}(ht:P.underlying t=some (.slice e))(hu:P.underlying u=some (.slice e'))(hk:cW P e=some k){base ay}{n cap m cy}{news}
  (hnew:(Builtin.firstCells k m (.slice ay m cy)).run P w=.ok news.toArray w) (hroom:n+m<=cap) (hst:∀a,base=some a->(storeCells (a.add (n*k)) news).run P w=.ok () w') (hno:base=none->w'=w):
  (Builtin.append_ #[t,u] ty #[.slice base n cap,.slice ay m cy]).run P w=.ok (.slice base (n+m) cap) w':=by
 cases base with
 |none=>
  obtain rfl:=hno rfl;simp[Builtin.append_,run_underlying ht,run_underlying hu,Re hk,Builtin.lenOf, *]
 |some a=>
  have:=hst a rfl;simp[Builtin.append_,run_underlying ht,run_underlying hu,Re hk,Builtin.lenOf, *]
theorem TV{t u ty e e'}{i}{z}(ht:P.underlying t=some (.slice e))(hu:P.underlying u=some (.slice e'))(hi:P.info? e=some i)(hz:i.zero=some z)(hb:0<i.bytes){base ay}{n cap m cy}{old news:List Value}
  (hold:(Builtin.firstCells i.size n (.slice base n cap)).run P w.drew=.ok old.toArray w.drew) (hnew:(Builtin.firstCells i.size m (.slice ay m cy)).run P w.drew=.ok news.toArray w.drew) (hg:cap<n+m) (hfit:Builtin.nextslicecap (n+m) cap*i.bytes<=281474976710656):
  (Builtin.append_ #[t,u] ty #[.slice base n cap,.slice ay m cy]).run P w=
   .ok (.slice (some ⟨w.heap.size,0,none⟩) (n+m) (grownCap w (n+m) cap e)) (w.drew.alloc (.cells (old.toArray++news.toArray++Builtin.zeroCells z.cells (grownCap w (n+m) cap e- (n+m))) e)):=by
 have hn:=by omega
 have h48':=by omega
 have hb':=by omega
 simp[Builtin.append_,run_underlying ht,run_underlying hu,sizeOf,typeInfo,zeroValue,Builtin.lenOf,Question.forced,newRow,grownCap, *];grind
end
section
variable {P:Program} {w w':World} {X:Nat→Prop} {ρ ρ':bg} {h h':ac} {A A':Nat→Prop}
theorem Ut{k}{rows ys}{us vs ts}(h1:qR w A k rows us)(h2:qR w A k ys vs)(g1:∀q,q<rows.length*k->ts[q]?=us[q]?)(g2:∀q,q<ys.length*k->ts[rows.length*k+q]?=vs[q]?):qR w A k (rows++ys) ts:=by
 have lt:∀ {l:List (List AV)} {i} {j},i<l.length->j<k->i*k+j<l.length*k:=by
  intro l i j hi hj;have:=ad3 k hi;grind
 intro i row hi;rw[List.getElem?_append]at hi;split at hi
 ·obtain⟨f1,f2⟩:=h1 i row hi;grind
 ·obtain⟨f1,f2⟩:=h2 _ row hi;refine⟨f1,fun j c hj=>?_⟩;have e:i*k+j=rows.length*k+((i-rows.length)*k+j):=by
   rw[←Nat.add_assoc,←ad8,show rows.length+(i-rows.length)=i from by omega]
  grind
theorem TW{k}{rows ys}{old news:List Value}(zs)(h1:qR w A k rows old.toArray)(hl:old.length=rows.length*k)(h2:qR w A k ys news.toArray)(hm:news.length=ys.length*k):
  qR w A k (rows++ys) (old.toArray++news.toArray++zs):=by
 grind[Ut,Array.append_assoc]
theorem Yu{k}{rows ys}{us}{news}(h1:qR w A k rows us)(h2:qR w A k ys news.toArray)(hm:news.length=ys.length*k)(hle:rows.length*k+news.length<=us.size):
  qR w A k (rows++ys) (Q1 us (rows.length*k) news):=by
 refine Ut h1 h2 (fun q hq=>?_) (fun q hq=>?_)
 ·rw[Rb hle,if_neg (by omega)]
 simp_all[Rb,if_pos]
theorem U3(r:Rel w X ρ h){id k}{rows}(e:h id=.ar k rows):Rel w X ρ (upd h id .dead)/\Evo w ρ h w ρ (upd h id .dead) [(id,false)]:=by
 have hl:∀id' s,live (upd h id .dead) id' s->id'≠id/\live h id' s:=by
  intro id' s h1;by_cases hi:id'=id
  ·subst hi;cases s<;>simp[live,oL]at h1
  grind[Q2,fO]
 have ev:Evo w ρ h w ρ (upd h id .dead) [(id,false)]:=by
  refine⟨rfl,rfl,rfl,QK _,fun _ _ _=>rfl,fun id' s hp hk=>⟨?_,rfl⟩,fun b ho=>?_,fun id' hb=>⟨?_,rfl⟩,fun id' _ hd=>⟨SC (by grind) hd,rfl⟩⟩
  ·grind[iT,Ra,fO]
  ·obtain⟨id',s,h1,h2⟩:=ho;exact .inl ⟨id',s,(hl id' s h1).2,h2⟩
  grind[bf,fO]
 exact⟨r.step ev (·=id) (fun id' hi=>⟨fO h _ hi,fun _=>rfl,fun _ _=>rfl⟩) (fun a b c d h1 h2=>r.inj a b c d (hl a b h1).2 (hl c d h2).2) (fun a b h1=>r.nx a b (hl a b h1).2) (fun id' hi=>by subst hi;rw[oL];trivial),ev⟩
theorem Aj{α}(s)(d)(x y:α):upd (upd s d x) d y=upd s d y:=by
 grind[upd]
theorem Yv(r:Rel w X ρ h){id p d k}{cs}{rows}(e:h id=.bx cs)(ep:cs[p]?=some (.osl k rows))(hdp:bw d=false)(hd:h d=.dead):
  Rel w X (Ro ρ d none (ρ id (some p))) (upd (upd h id (.bx (cs.set p .any))) d (.ar k rows))/\Evo w ρ h w (Ro ρ d none (ρ id (some p))) (upd (upd h id (.bx (cs.set p .any))) d (.ar k rows)) [(id,true)]:=by
 have hlp:live h id (some p):=⟨cs,k,rows,e,ep⟩;have hln:live h id none:=by grind[live]
 have hpl:=(List.getElem?_eq_some_iff.1 ep).1;have hne:id≠d:=by grind
 have hρ:∀id' s,¬ (id'=d/\s=none)->Ro ρ d none (ρ id (some p)) id' s=ρ id' s:=fun id' s hh=>Ts hh;have hl:∀id' s,live (upd (upd h id (.bx (cs.set p .any))) d (.ar k rows)) id' s->(id'=d/\s=none)\/(¬ (id'=d/\s=none)/\¬ (id'=id/\s=some p)/\live h id' s):=by
  intro id' s h1;by_cases hi:id'=d
  ·subst hi;cases s with
   |none=>grind
   |some q=>obtain⟨_,_,_,h2,_⟩:=h1;grind[oL]
  ·have h2:=(Q2 (fO (upd h id (.bx (cs.set p .any))) (.ar k rows) hi)).1 h1;by_cases hi2:id'=id
   ·subst hi2;cases s with
    |none=>grind
    |some q=>
     obtain⟨cs',k',rows',h3,h4⟩:=h2;rw[oL]at h3;cases h3;by_cases hq:q=p
     ·grind
     ·rw[List.getElem?_set_ne (fun e=>hq e.symm)]at h4;exact .inr ⟨by omega,by grind,⟨cs,k',rows',e,h4⟩⟩
   grind[Q2,fO]
 have blk:∀id' s,live (upd (upd h id (.bx (cs.set p .any))) d (.ar k rows)) id' s->∃id2 s2,live h id2 s2/\(Ro ρ d none (ρ id (some p)) id' s).1=(ρ id2 s2).1/\((id'=d/\s=none/\id2=id/\s2=some p)\/(id2=id'/\s2=s/\¬ (id2=id/\s2=some p))):=by
  grind[QW]
 have nd:∀id' s,eA h id' s->id'≠d:=by
  rintro id' s hp rfl
  cases s with
  |none=>exact hp hd
  |some q=>obtain⟨_,_,_,h2,_⟩:=hp;grind
 have ev:Evo w ρ h w (Ro ρ d none (ρ id (some p))) (upd (upd h id (.bx (cs.set p .any))) d (.ar k rows)) [(id,true)]:=by
  refine⟨rfl,rfl,rfl,QK _,fun _ _ _=>rfl,fun id' s hp hk=>?_,fun b ho=>?_,fun id' hb=>?_,fun id' hps hnd=>?_⟩
  ·have hi:=nd id' s hp;by_cases hi2:id'=id
   ·simp_all[eA,fO,oL,iT]
   grind[Ra,fO]
  ·obtain⟨id',s,h1,h2⟩:=ho;obtain⟨id2,s2,h3,h4,_⟩:=blk id' s h1;exact .inl ⟨id2,s2,h3,h4.symm.trans h2⟩
  ·have hi:=nd id' none (Ee hb);refine⟨?_,hρ _ _ (by omega)⟩;rw[fO _ _ hi];by_cases hi2:id'=id
   ·subst hi2;rw[oL];rfl
   grind[fO]
  grind[fO,SC]
 refine⟨r.step ev (fun i=>i=id\/i=d) (fun id' hi=>?_) (fun i s i' s' h1 h2 h3=>?_) (fun i s h1=>?_) (fun id' hi=>?_),ev⟩
 ·grind[fO]
 ·obtain⟨i2,s2,f1,f2,f3⟩:=blk i s h1;obtain⟨i3,s3,f4,f5,f6⟩:=blk i' s' h2;obtain⟨rfl,rfl⟩:=r.inj i2 s2 i3 s3 f1 f4 (by omega);grind
 ·obtain⟨i2,s2,f1,f2,_⟩:=blk i s h1;rw[f2];exact r.nx _ _ f1
 ·obtain⟨us0,t0,g1,g2,g3,g4⟩:=r.cell e;rcases hi with rfl|rfl
  ·rw[fO _ _ hne,oL];refine⟨us0,t0,by grind,by grind,by grind,fun q c hq=>?_⟩;by_cases hqp:q=p
   ·subst hqp;rw[List.getElem?_set_self hpl]at hq;cases hq;obtain⟨u,f1,a,cap,us1,t1,rfl,_⟩:=g4 q _ ep;exact⟨_,f1,.anyv _,rfl,trivial⟩
   ·rw[List.getElem?_set_ne (fun e=>hqp e.symm)]at hq;obtain⟨u,f1,f2⟩:=g4 q c hq;exact⟨u,f1,f2.keep (fun b hb=>ev.al hb) ev.boxes (hρ _ _ (by simp)) (fun _=>rfl)⟩
  ·rw[oL];obtain⟨u,f1,a,cap,us1,t1,q1,q2,q3,q4,q5,q6,q7⟩:=g4 p _ ep;exact⟨us1,t1,by grind[QW],by grind[QW],QU (ad3 k q3) (Nat.le_of_eq q6),q7.mono fun b hb=>ev.al hb⟩
theorem acH(r:Rel w X ρ h){id d k}{rows}(e:h id=.ar k rows)(hdp:bw d=false)(hd:h d=.dead):
  Rel w X (Ro ρ d none (ρ id none)) (upd (upd h id .dead) d (.ar k rows))/\Evo w ρ h w (Ro ρ d none (ρ id none)) (upd (upd h id .dead) d (.ar k rows)) [(id,false)]:=by
 have hln:live h id none:=by grind[live]
 have hne:id≠d:=by grind
 have hρ:∀id' s,¬ (id'=d/\s=none)->Ro ρ d none (ρ id none) id' s=ρ id' s:=fun id' s hh=>Ts hh;have hl:∀id' s,live (upd (upd h id .dead) d (.ar k rows)) id' s->(id'=d/\s=none)\/(¬ (id'=d/\s=none)/\id'≠id/\live h id' s):=by
  intro id' s h1;by_cases hi:id'=d
  ·cases s with
   |none=>grind
   |some q=>obtain⟨_,_,_,h2,_⟩:=h1;grind[oL]
  ·have h2:=(Q2 (fO (upd h id .dead) (.ar k rows) hi)).1 h1;by_cases hi2:id'=id
   ·subst hi2;cases s<;>simp[live,oL]at h2
   grind[Q2,fO]
 have blk:∀id' s,live (upd (upd h id .dead) d (.ar k rows)) id' s->∃id2 s2,live h id2 s2/\(Ro ρ d none (ρ id none) id' s).1=(ρ id2 s2).1/\((id'=d/\s=none/\id2=id/\s2=none)\/(id2=id'/\s2=s/\id2≠id)):=by
  grind[QW]
 have nd:∀id' s,eA h id' s->id'≠d:=by
  rintro id' s hp rfl
  cases s with
  |none=>exact hp hd
  |some q=>obtain⟨_,_,_,h2,_⟩:=hp;grind
 have ev:Evo w ρ h w (Ro ρ d none (ρ id none)) (upd (upd h id .dead) d (.ar k rows)) [(id,false)]:=by
  refine⟨rfl,rfl,rfl,QK _,fun _ _ _=>rfl,fun id' s hp hk=>?_,fun b ho=>?_,fun id' hb=>?_,fun id' hps hnd=>?_⟩
  ·grind[iT,Ra,fO]
  ·obtain⟨id',s,h1,h2⟩:=ho;obtain⟨id2,s2,h3,h4,_⟩:=blk id' s h1;exact .inl ⟨id2,s2,h3,h4.symm.trans h2⟩
  all_goals grind[Ee,bf,fO,SC]
 refine⟨r.step ev (fun i=>i=id\/i=d) (fun id' hi=>?_) (fun i s i' s' h1 h2 h3=>?_) (fun i s h1=>?_) (fun id' hi=>?_),ev⟩
 ·grind[fO]
 ·obtain⟨i2,s2,f1,f2,f3⟩:=blk i s h1;obtain⟨i3,s3,f4,f5,f6⟩:=blk i' s' h2;obtain⟨rfl,rfl⟩:=r.inj i2 s2 i3 s3 f1 f4 (by omega);grind
 ·obtain⟨i2,s2,f1,f2,_⟩:=blk i s h1;rw[f2];exact r.nx _ _ f1
 ·have ho:=r.ob id;rw[e]at ho;obtain⟨us,t0,g1,g2,g3,g4⟩:=ho;rcases hi with rfl|rfl
  ·rw[fO _ _ hne,oL];trivial
  ·rw[oL];exact⟨us,t0,by grind[QW],by grind[QW],g3,g4.mono fun b hb=>ev.al hb⟩
theorem VL{k lo}{rows ys}{us}{news}(_h0:0<k)(h1:qR w A k rows us)(h2:qR w A k ys news.toArray)(hm:news.length=ys.length*k)(hlo:lo+ys.length<=rows.length)(hle:rows.length*k<=us.size):
  qR w A k (rows.take lo++ys++rows.drop (lo+ys.length)) (Q1 us (lo*k) news):=by
 have hle2:lo*k+news.length<=us.size:=by
  have:=ad3 k hlo;grind
 have hlt:(rows.take lo).length=lo:=by grind
 intro i row hi;have cell:∀j,j<k->∀a b:Nat,a<b->a*k+j<b*k:=fun j hj a b hab=>by
  have:=ad3 k hab;grind
 by_cases c1:i<lo
 ·have hrow:rows[i]?=some row:=by
   grind
  obtain⟨g1,g2⟩:=h1 i row hrow;refine⟨g1,fun j c hj=>?_⟩;obtain⟨u,f1,f2⟩:=g2 j c hj;have hjk:j<k:=by grind
  refine⟨u,?_,f2⟩;rw[Rb hle2,if_neg (by grind)];omega
 ·by_cases c2:i<lo+ys.length
  ·have hrow:ys[i-lo]?=some row:=by
    grind
   obtain⟨g1,g2⟩:=h2 (i-lo) row hrow;refine⟨g1,fun j c hj=>?_⟩;obtain⟨u,f1,f2⟩:=g2 j c hj;have hjk:j<k:=by grind
   refine⟨u,?_,f2⟩;have e1:=cell j hjk (i-lo) ys.length (by omega);have e2:i*k+j=lo*k+((i-lo)*k+j):=by
    have:i*k=lo*k+(i-lo)*k:=by rw[←ad8];grind
    omega
   simp_all[Rb,if_pos]
  ·have hrow:rows[i]?=some row:=by
    rw[List.getElem?_append_right (by grind),List.getElem?_drop,ad6,hlt]at hi;grind
   obtain⟨g1,g2⟩:=h1 i row hrow;refine⟨g1,fun j c hj=>?_⟩;obtain⟨u,f1,f2⟩:=g2 j c hj;refine⟨u,?_,f2⟩;have e1:(lo+ys.length)*k<=i*k:=ad3 k (by omega);rw[ad8]at e1;rw[Rb hle2,if_neg (by omega)];omega
theorem Xr(r:Rel w X ρ h){t u ty e e'}{k}(ht:P.underlying t=some (.slice e))(hu:P.underlying u=some (.slice e'))(hk:cW P e=some k)(h0:0<k)
  {id lo n} {rows ys} (eo:h id=.ar k rows) {a ay} {cap cy} (hn:n<=cap) (hc:(lo+cap)*k=(ρ id none).2) (ha:cap=0\/a=some ⟨(ρ id none).1,lo*k,none⟩) (hfit:lo+n+ys.length<=rows.length)
  {news:List Value} (n1:news.length=ys.length*k) (hnew:∀w2,w2.heap=w.heap->(Builtin.firstCells k ys.length (.slice ay ys.length cy)).run P w2=.ok news.toArray w2) (n3:qR w (l6 w X h ρ) k ys news.toArray):
  ∃v w',(Builtin.append_ #[t,u] ty #[.slice a n cap,.slice ay ys.length cy]).run P w=.ok v w'/\Got w X ρ h w' (upd h id (.ar k (rows.take (lo+n)++ys++rows.drop (lo+n+ys.length)))) [] (.rsl id none k lo (n+ys.length)) v:=by
 have hln:live h id none:=by grind[live]
 have ho:=r.ob id;rw[eo]at ho;obtain⟨us,t0,g1,g2,g3,g4⟩:=ho;have hroom:n+ys.length<=cap:=by
  have h5:rows.length*k<=(lo+cap)*k:=by omega
  have:=Nat.le_of_mul_le_mul_right h5 h0;omega
 have hle:(lo+n)*k+news.length<=us.size:=by
  have:=ad3 k hfit;grind
 have h1:∀v∈news,v.oneCell'=true:=by
  intro v hv;obtain⟨q,hq⟩:=ad9 hv;have h3:q/k<ys.length:=Nat.div_lt_of_lt_mul (by grind);obtain⟨f1,f2⟩:=n3 (q/k) _ (adW h3);have h4:q%k< (ys[q/k]).length:=by simp_all[Nat.mod_lt]
  obtain⟨v',f3,f4,f5⟩:=f2 (q%k) _ (adW h4);have h5:q/k*k+q%k=q:=by grind[Nat.div_add_mod]
  rw[h5,List.getElem?_toArray,hq]at f3;cases f3;exact f4.one f5
 generalize hm:lo+n=m at hle hfit;have hlive:∀s,live (upd h id (.ar k (rows.take m++ys++rows.drop (m+ys.length)))) id s->live h id s:=by
  intro s h1;cases s with
  |none=>omega
  |some q=>obtain⟨_,_,_,h2,_⟩:=h1;grind[oL]
 have hkeep:∀s,eA h id s->s=none:=by
  intro s hp;cases s with
  |none=>rfl
  |some q=>obtain⟨_,_,_,h2,_⟩:=hp;grind
 have ev:Evo w ρ h (w.setRow (ρ id none).1 (Q1 us (m*k) news)) ρ (upd h id (.ar k (rows.take m++ys++rows.drop (m+ys.length)))) []:=
  Sr (X:=X) r hln _ hlive (fun s hp _=>by grind[eA,oL]) (fun hbf=>by rw[eo]at hbf;cases hbf)
 have hlen2:(rows.take m++ys++rows.drop (m+ys.length)).length=rows.length:=by
  grind
 have hrel:=RM r hln _ hlive ev ⟨_,t0,setRow_heap w _ us _ t0 _ g1,by grind[Q4],by grind[Q4],VL h0 (g4.mono fun b hb=>ev.al hb) (n3.mono fun b hb=>ev.al hb) n1 (by omega) g3⟩;refine⟨.slice a (n+ys.length) cap,_,SW ht hu hk (hnew w rfl) hroom (w':=w.setRow (ρ id none).1 (Q1 us (m*k) news)) (fun a' ha'=>?_) (fun ha'=>?_),ρ,hrel,ev,?_⟩
 ·rcases ha with h9|h9
  ·have e3:news=[]:=List.eq_nil_of_length_eq_zero (by grind);subst e3;rw[RA (by omega) (fun j v hv=>by grind),setRow_self w _ us t0 (0,0) g1];rfl
  ·rw[h9]at ha';cases ha';rw[Ru,←ad8,hm];grind[run_storeCells_at,Q1]
 ·grind[List.eq_nil_of_length_eq_zero,RA,setRow_self]
 ·exact .rsl id none k lo _ cap a (by simp[eA,oL]) hroom hc ha
theorem TA(r:Rel w X ρ h){t u ty e e'}{k b}{zs}(ht:P.underlying t=some (.slice e))(hu:P.underlying u=some (.slice e'))(hk:cW P e=some k)(hb:xI P e=some b)(hz:mS P e=some zs)(h0:0<k)(hb0:0<b)
  {id} {rows ys} (eo:h id=.ar k rows) (hps:bw id=false) {a ay} {cap cy} (hn:rows.length<=cap) (hc:cap*k=(ρ id none).2) (ha:cap=0\/a=some ⟨(ρ id none).1,0,none⟩)
  {news:List Value} (hl:news.length=ys.length*k) (hnew:∀w2,w2.heap=w.heap->(Builtin.firstCells k ys.length (.slice ay ys.length cy)).run P w2=.ok news.toArray w2) (hr:qR w (l6 w X h ρ) k ys news.toArray) (hfit:(rows.length+ys.length)*b<=140737488355328):
  ∃v w',(Builtin.append_ #[t,u] ty #[.slice a rows.length cap,.slice ay ys.length cy]).run P w=.ok v w'/\Got w X ρ h w' (upd h id (.ar k (rows++ys))) [(id,false)] (.rsl id none k 0 (rows.length+ys.length)) v:=by
 have hln:live h id none:=by grind[live]
 have ho:=r.ob id;rw[eo]at ho;obtain⟨us,t0,g1,g2,g3,g4⟩:=ho;by_cases hroom:rows.length+ys.length<=cap
 ·have hle:rows.length*k+news.length<=us.size:=by
   have:=ad3 k hroom;grind
  have h1:∀v∈news,v.oneCell'=true:=by
   intro v hv;obtain⟨q,hq⟩:=ad9 hv;have h3:q/k<ys.length:=Nat.div_lt_of_lt_mul (by grind);obtain⟨f1,f2⟩:=hr (q/k) _ (adW h3);have h4:q%k< (ys[q/k]).length:=by simp_all[Nat.mod_lt]
   obtain⟨v',f3,f4,f5⟩:=f2 (q%k) _ (adW h4);have h5:q/k*k+q%k=q:=by grind[Nat.div_add_mod]
   rw[h5,List.getElem?_toArray,hq]at f3;cases f3;exact f4.one f5
  have hlive:∀s,live (upd h id (.ar k (rows++ys))) id s->live h id s:=by
   intro s h1;cases s with
   |none=>omega
   |some q=>obtain⟨_,_,_,h2,_⟩:=h1;grind[oL]
  have ev:Evo w ρ h (w.setRow (ρ id none).1 (Q1 us (rows.length*k) news)) ρ (upd h id (.ar k (rows++ys))) [(id,false)]:=
   Sr (X:=X) r hln _ hlive (fun s hp hk=>by grind[iT]) (fun hbf=>by rw[eo]at hbf;cases hbf)
  have hrel:=RM r hln _ hlive ev ⟨_,t0,setRow_heap w _ us _ t0 _ g1,by grind[Q4],by simp_all[Q4,ad6,ad8],Yu (g4.mono fun b hb=>ev.al hb) (hr.mono fun b hb=>ev.al hb) hl hle⟩;refine⟨.slice a (rows.length+ys.length) cap,_,SW ht hu hk (hnew w rfl) hroom (w':=w.setRow (ρ id none).1 (Q1 us (rows.length*k) news)) (fun a' ha'=>?_) (fun ha'=>?_),ρ,hrel,ev,?_⟩
  ·rcases ha with h9|h9
   ·have e2:=by omega
    have e3:news=[]:=List.eq_nil_of_length_eq_zero (by grind);subst e3;rw[RA (by omega) (fun j v hv=>by grind),setRow_self w _ us t0 (0,0) g1];rfl
   ·rw[h9]at ha';cases ha';rw[Ru,QN];grind[run_storeCells_at,Q1]
  ·grind[List.eq_nil_of_length_eq_zero,RA,setRow_self]
  ·exact .rsl id none k 0 _ cap a (by simp[eA,oL]) hroom (by grind) (by grind)
 ·obtain⟨i,z,z1,z2,z3,z4,_⟩:=Ry (w:=w) (A:=l6 w X h ρ) (ρ:=ρ) (h:=h) hz;have hik:i.size=k:=by grind[cW]
  have hib:i.bytes=b:=by grind[xI]
  obtain⟨old,o1,o2,o3⟩:∃old:List Value,old.length=rows.length*k/\(Builtin.firstCells k rows.length (.slice a rows.length cap)).run P w.drew=.ok old.toArray w.drew/\qR w (l6 w X h ρ) k rows old.toArray:=by
   by_cases hr0:rows.length=0
   ·refine⟨[],by grind,by grind[Rh],fun i row hi=>?_⟩;grind
   ·rcases ha with h9|rfl
    ·omega
    ·obtain⟨old,f1,f2,f3⟩:=RY (P:=P) (w:=w) (A:=l6 w X h ρ) (o:=0) (n:=rows.length) (l:=rows.length) (cap:=cap) g1 g4 (by omega) h0;simp only[Nat.zero_mul]at f2;exact⟨old,f1,f2 _ rfl,by grind⟩
  have run:=TV (P:=P) (w:=w) (ty:=ty) ht hu z1 z2 (by omega) (old:=old) (news:=news) (n:=rows.length) (m:=ys.length) (by rw[hik];omega) (by rw[hik];exact hnew w.drew rfl) (by omega) (growslice_fits (by omega) (by grind));obtain⟨d1,d2⟩:=U3 r eo;obtain⟨d3,d4⟩:=SK d1;have hrows:=TW (w:=w) (A:=l6 w X h ρ) (Builtin.zeroCells z.cells (grownCap w (rows.length+ys.length) cap e- (rows.length+ys.length))) o3 o1 hr hl;have hge:=grownCap_ge w (rows.length+ys.length) cap e;have hsz:(old.toArray++news.toArray++Builtin.zeroCells z.cells (grownCap w (rows.length+ys.length) cap e- (rows.length+ys.length))).size=grownCap w (rows.length+ys.length) cap e*k:=by
   simp only[Array.size_append,List.size_toArray,size_zeroCells,←ad8, *];grind
  obtain⟨n1,n2⟩:=SD (e:=e) d3 hps (oL _ _ _) (o:=.ar k (rows++ys)) (us:=old.toArray++news.toArray++Builtin.zeroCells z.cells (grownCap w (rows.length+ys.length) cap e- (rows.length+ys.length)))
   ⟨by simp_all[ad3],hrows.mono fun b hb=>by obtain⟨q1,q2⟩:=d2.al hb;obtain⟨q3,q4⟩:=d4.al q1;grind⟩
  rw[Aj]at n1 n2;refine⟨_,_,run,_,n1,by simpa using d2.trans (d4.trans n2),?_⟩;exact ZK (b:=(w.heap.size,_)) (by grind[oL]) (QW _ _ _ _) hge (by rw[hsz])
theorem Evo.cut{ks}{d}(e:Evo w ρ h w' ρ' h' (ks++[(d,false)]))(hd:h d=.dead):Evo w ρ h w' ρ' h' ks:=
 ⟨e.os,e.tape,e.output,e.size,e.old,fun id sub hp hk=>e.keep id sub hp (by
  have hi:id≠d:=by
   rintro rfl
   cases sub with
   |none=>exact hp hd
   |some q=>obtain⟨_,_,_,h2,_⟩:=hp;grind
  rw[Bq,hk];simpa [iT]using fun e:d=id=>hi e.symm),e.fresh,e.boxes,e.stay⟩
theorem Yw(r:Rel w X ρ h){t u ty e e'}{k b}{zs}(ht:P.underlying t=some (.slice e))(hu:P.underlying u=some (.slice e'))(hk:cW P e=some k)(hb:xI P e=some b)(hz:mS P e=some zs)(h0:0<k)(hb0:0<b)
  {d} (hdp:bw d=false) {x y z} {ux uy} {ks} (hx:RV w (l6 w X h ρ) ρ h x ux) (hy:RV w (l6 w X h ρ) ρ h y uy) (hr:A8 h d k b x y=some (z,h',ks)):
  ∃v w',(Builtin.append_ #[t,u] ty #[ux,uy]).run P w=.ok v w'/\Got w X ρ h w' h' ks z v:=by
 simp only[A8,QS]at hr;obtain⟨ys,e1,hr⟩:=hr;obtain⟨ay,cy,rfl,news,n1,n2,n3⟩:=Us (P:=P) r h0 hy e1;cases x with
 |emp=>
  obtain⟨a,rfl⟩:=hx.emp_inv;simp only at hr;split at hr
  ·rename_i hfit;cases ys with
   |nil=>
    obtain⟨rfl,rfl,rfl⟩:=hr;have e3:news=[]:=List.eq_nil_of_length_eq_zero (by grind);subst e3;exact⟨_,w,SW ht hu hk (n2 w rfl) (QK _) (fun _ _=>rfl) (fun _=>rfl),ρ,r,.refl _ _ _,.dat (.emp a)⟩
   |cons row rest=>
    simp only[A7]at hr;obtain⟨i,zv,z1,z2,z3,z4,_⟩:=Ry (w:=w) (A:=l6 w X h ρ) (ρ:=ρ) (h:=h) hz;have hik:i.size=k:=by grind[cW]
    have hib:i.bytes=b:=by grind[xI]
    have run:=TV (P:=P) (w:=w) (ty:=ty) (base:=a) (n:=0) (cap:=0) (old:=[]) (news:=news) (m:=(row::rest).length) ht hu z1 z2 (by omega) (Rh _ _ _ _ _) (by rw[hik];exact n2 w.drew rfl) (by simp)
     (growslice_fits (by simp) (by grind))
    obtain⟨d3,d4⟩:=SK r;have hge:=grownCap_ge w (0+(row::rest).length) 0 e;have hrows:=TW (w:=w) (A:=l6 w X h ρ) (rows:=[]) (old:=[]) (Builtin.zeroCells zv.cells (grownCap w (0+(row::rest).length) 0 e- (0+(row::rest).length))) (fun i row hi=>by grind) (by simp) n3 n1;have hsz:([].toArray++news.toArray++Builtin.zeroCells zv.cells (grownCap w (0+(row::rest).length) 0 e- (0+(row::rest).length))).size=grownCap w (0+(row::rest).length) 0 e*k:=by
     simp only[Array.size_append,List.size_toArray,size_zeroCells,adZ,QN,←ad8, *];grind
    obtain⟨rfl,ρ',q1,q2,q3⟩:=RJ (t:=e) (cap:=grownCap w (0+(row::rest).length) 0 e) d3 hdp (hrows.mono fun b hb=>d4.al hb) (by grind) (by grind) (by rw[hsz]) hr;refine⟨_,_,run,ρ',q1,d4.trans q2,?_⟩
    simp_all
  grind
 |rsl id sub k' lo n=>
  obtain⟨a,cap,rfl,hp,hn,hbd,ha⟩:=hx.rsl_inv;cases sub with
  |none=>
   simp only at hr;cases eo:h id<;>rw[eo]at hr<;>simp only[A6]at hr<;>try (cases hr;done)
   rename_i k2 rows;split at hr
   ·rename_i hcond;obtain⟨rfl,rfl,rfl,rfl,hid,hfit⟩:=hcond;obtain⟨rfl,rfl,rfl⟩:=hr;exact TA r ht hu hk hb hz h0 hb0 eo (by grind[bw,decide_eq_false_iff_not]) hn (by grind) (by grind) n1 n2 n3 hfit
   ·rename_i hno;unfold AZ at hr;split at hr
    ·rename_i hcond;obtain⟨rfl,rfl,hfit⟩:=hcond;obtain⟨rfl,rfl,rfl⟩:=hr;exact Xr r ht hu hk h0 eo hn hbd ha hfit n1 n2 n3
    ·split at hr
     ·rename_i hcond;obtain⟨rfl,rfl,rfl,rfl,hfit⟩:=hcond;obtain⟨hd',rfl,rfl,rfl⟩:=Rl hr;have hne:d≠id:=by
       grind[bw,decide_eq_false_iff_not]
      have hd:h d=.dead:=by grind[fO]
      obtain⟨m1,m2⟩:=acH r eo hdp hd;obtain⟨v,w',q1,ρ',q2,q3,q4⟩:=TA (ty:=ty) (a:=a) (ay:=ay) (cy:=cy) (cap:=cap) m1 ht hu hk hb hz h0 hb0 (oL _ _ _) hdp hn (by grind[QW]) (by grind[QW]) n1 n2 (n3.mono fun b hb=>m2.al hb) hfit;rw[Aj]at q2 q3 q4;exact⟨v,w',q1,ρ',q2,(m2.trans q3).cut hd,q4⟩
     grind
  |some p=>
   simp only at hr;cases eo:h id<;>rw[eo]at hr<;>simp only[E5]at hr<;>try (cases hr;done)
   rename_i cs;cases ec:cs[p]? with
   |none=>rw[ec]at hr;cases hr
   |some c=>
    rw[ec]at hr;cases c<;>simp only[JN]at hr<;>try (cases hr;done)
    rename_i k2 rows;split at hr
    ·rename_i hcond;obtain⟨rfl,rfl,rfl,rfl,hfit⟩:=hcond;obtain⟨hd',rfl,rfl,rfl⟩:=Rl hr;have hne:d≠id:=by grind[oL]
     have hd:h d=.dead:=by grind[fO]
     obtain⟨m1,m2⟩:=Yv r eo ec hdp hd;obtain⟨v,w',q1,ρ',q2,q3,q4⟩:=TA (ty:=ty) (a:=a) (ay:=ay) (cy:=cy) (cap:=cap) m1 ht hu hk hb hz h0 hb0 (oL _ _ _) hdp hn (by grind[QW]) (by grind[QW]) n1 n2 (n3.mono fun b hb=>m2.al hb) hfit;rw[Aj]at q2 q3 q4;exact⟨v,w',q1,ρ',q2,(m2.trans q3).cut hd,q4⟩
    grind
 |_=>cases hr
end
section
variable {P:Program} {w w':World} {X:Nat→Prop} {ρ ρ':bg} {h h':ac} {A A':Nat→Prop}
theorem aaP{t u ty e}{k}(ht:P.underlying t=some (.slice e))(hk:cW P e=some k){base ay}{n cap l m cy}{news}(hm:Nat.min l n=m)
  (hnew:(Builtin.firstCells k m (.slice ay l cy)).run P w=.ok news.toArray w) (hst:∀a,base=some a->(storeCells a news).run P w=.ok () w') (hno:base=none->w'=w):
  (Builtin.copy_ #[t,u] ty #[.slice base n cap,.slice ay l cy]).run P w=.ok (goInt m) w':=by
 cases base with
 |none=>
  simp_all[Builtin.copy_,run_underlying,Re,Builtin.lenOf]
 |some a=>
  simp_all[Builtin.copy_,run_underlying,Re,Builtin.lenOf]
theorem Yx{y}{uy}{l m}(hl:Ba y=some l)(hy:RV w A ρ h y uy):∃a c,uy=.slice a l c/\RV w A ρ h (A9 m y) (.slice a (min m l) c):=by
 cases y with
 |emp=>
  cases hl;obtain⟨a,rfl⟩:=hy.emp_inv;refine⟨a,0,rfl,?_⟩;rw[Nat.min_zero];exact hy
 |sl k rows=>
  cases hl;have hd:=hy.sl_inv;cases hd with
  |sl _ _ a cap ad vals hc ha hk hv hll hr=>
   refine⟨a,cap,rfl,?_⟩;have hlen:(rows.take m).length=min m rows.length:=List.length_take;have hget:∀ {i:Nat} {row},(rows.take m)[i]?=some row->rows[i]?=some row:=fun{i row} hi=>by
    grind
   have h1:RD w A (.sl k (rows.take m)) (.slice a (rows.take m).length cap):=
    .sl k (rows.take m) a cap ad vals (by omega) (fun hne=>ha (fun e=>hne (by grind))) (fun row hm=>hk row (List.mem_of_mem_take hm))
     (fun i row j c hi hj=>hv i row j c (hget hi) hj) (fun row hm=>hll row (List.mem_of_mem_take hm)) (fun i row j c hi hj=>hr i row j c (hget hi) hj)
   rw[hlen]at h1;exact .dat h1
 |rsl id sub k lo n=>
  cases hl;obtain⟨a,cap,rfl,hp,hn,hb,ha⟩:=hy.rsl_inv;exact⟨a,cap,rfl,.rsl id sub k lo (min m l) cap a hp (by omega) hb ha⟩
 |_=>cases hl
theorem Yy{k lo}{rows ys}{us}{news}(_h0:0<k)(h1:qR w A k rows us)(h2:qR w A k ys news.toArray)(hm:news.length=ys.length*k)(hlo:lo<=rows.length)(hle2:lo*k+news.length<=us.size):
  qR w A k (rows.take lo++ys++rows.drop (lo+ys.length)) (Q1 us (lo*k) news):=by
 have hlt:(rows.take lo).length=lo:=by grind
 intro i row hi;have cell:∀j,j<k->∀a b:Nat,a<b->a*k+j<b*k:=fun j hj a b hab=>by
  have:=ad3 k hab;grind
 by_cases c1:i<lo
 ·have hrow:rows[i]?=some row:=by
   grind
  obtain⟨g1,g2⟩:=h1 i row hrow;refine⟨g1,fun j c hj=>?_⟩;obtain⟨u,f1,f2⟩:=g2 j c hj;have hjk:j<k:=by grind
  refine⟨u,?_,f2⟩;rw[Rb hle2,if_neg (by grind)];omega
 ·by_cases c2:i<lo+ys.length
  ·have hrow:ys[i-lo]?=some row:=by
    grind
   obtain⟨g1,g2⟩:=h2 (i-lo) row hrow;refine⟨g1,fun j c hj=>?_⟩;obtain⟨u,f1,f2⟩:=g2 j c hj;have hjk:j<k:=by grind
   refine⟨u,?_,f2⟩;have e1:=cell j hjk (i-lo) ys.length (by omega);have e2:i*k+j=lo*k+((i-lo)*k+j):=by
    have:i*k=lo*k+(i-lo)*k:=by rw[←ad8];grind
    omega
   simp_all[Rb,if_pos]
  ·have hrow:rows[i]?=some row:=by
    rw[List.getElem?_append_right (by grind),List.getElem?_drop,ad6,hlt]at hi;grind
   obtain⟨g1,g2⟩:=h1 i row hrow;refine⟨g1,fun j c hj=>?_⟩;obtain⟨u,f1,f2⟩:=g2 j c hj;refine⟨u,?_,f2⟩;have e1:(lo+ys.length)*k<=i*k:=ad3 k (by omega);rw[ad8]at e1;rw[Rb hle2,if_neg (by omega)];omega
theorem Yz(r:Rel w X ρ h){t u ty e}{k}(ht:P.underlying t=some (.slice e))(hk:cW P e=some k)(h0:0<k)
  {x y z} {ux uy} {ks} (hx:RV w (l6 w X h ρ) ρ h x ux) (hy:RV w (l6 w X h ρ) ρ h y uy) (hr:Bc h k x y=some (z,h',ks)):
  ∃v w',(Builtin.copy_ #[t,u] ty #[ux,uy]).run P w=.ok v w'/\Got w X ρ h w' h' ks z v:=by
 unfold Bc at hr;split at hr
 ·rename_i id k' lo n;simp only[QS]at hr;obtain⟨l,e1,ys,e2,hr⟩:=hr;obtain⟨ay,cy,rfl,hcut⟩:=Yx (m:=n) e1 hy;obtain⟨a',c',e3,news,n1,n2,n3⟩:=Us (P:=P) r h0 hcut e2;injection e3 with e4 e5 e6
  subst e4 e6;obtain⟨a,cap,rfl,hp,hn,hbd,ha⟩:=hx.rsl_inv;cases eo:h id<;>rw[eo]at hr<;>simp only[Bb]at hr<;>try (cases hr;done)
  rename_i k2 rows;split at hr
  ·rename_i hcond;obtain⟨rfl,rfl,hfit,hlen⟩:=hcond;obtain⟨rfl,rfl,rfl⟩:=hr;have hln:live h id none:=by grind[live]
   have ho:=r.ob id;rw[eo]at ho;obtain⟨us,t0,g1,g2,g3,g4⟩:=ho;have hyn:=by omega
   have hle:lo*k'+news.length<=us.size:=by
    have:(lo+ys.length)*k'<=(lo+cap)*k':=ad3 k' (by omega);grind
   have h1:∀v∈news,v.oneCell'=true:=by
    intro v hv;obtain⟨q,hq⟩:=ad9 hv;have h3:q/k'<ys.length:=Nat.div_lt_of_lt_mul (by grind);obtain⟨f1,f2⟩:=n3 (q/k') _ (adW h3);have h4:q%k'< (ys[q/k']).length:=by simp_all[Nat.mod_lt]
    obtain⟨v',f3,f4,f5⟩:=f2 (q%k') _ (adW h4);have h5:q/k'*k'+q%k'=q:=by grind[Nat.div_add_mod]
    rw[h5,List.getElem?_toArray,hq]at f3;cases f3;exact f4.one f5
   have hlive:∀s,live (upd h id (.ar k' (rows.take lo++ys++rows.drop (lo+ys.length)))) id s->live h id s:=by
    intro s h1;cases s with
    |none=>omega
    |some q=>obtain⟨_,_,_,h2,_⟩:=h1;grind[oL]
   have hkeep:∀s,eA h id s->s=none:=by
    intro s hp;cases s with
    |none=>rfl
    |some q=>obtain⟨_,_,_,h2,_⟩:=hp;grind
   have ev:Evo w ρ h (w.setRow (ρ id none).1 (Q1 us (lo*k') news)) ρ (upd h id (.ar k' (rows.take lo++ys++rows.drop (lo+ys.length)))) []:=
    Sr (X:=X) r hln _ hlive (fun s hp _=>by grind[eA,oL]) (fun hbf=>by rw[eo]at hbf;cases hbf)
   have hlen2:(rows.take lo++ys++rows.drop (lo+ys.length)).length*k'<=us.size:=by
    rw[ad6,ad6,List.length_take,List.length_drop];grind[ad8]
   have hrel:=RM r hln _ hlive ev ⟨_,t0,setRow_heap w _ us _ t0 _ g1,by grind[Q4],by grind[Q4],Yy h0 (g4.mono fun b hb=>ev.al hb) (n3.mono fun b hb=>ev.al hb) n1 hfit hle⟩;have hmin:=hlen.symm;have hnew:(Builtin.firstCells k' ys.length (.slice ay l cy)).run P w=.ok news.toArray w:=by
    have:=n2 w rfl;cases ay<;>exact this
   refine⟨goInt ys.length,_,aaP ht hk hmin hnew (w':=w.setRow (ρ id none).1 (Q1 us (lo*k') news)) (fun a2 ha'=>?_) (fun ha'=>?_),⟨ρ,hrel,ev,.dat (.v _ rfl)⟩⟩
   ·rcases ha with h9|h9
    ·have e2:=by omega
     have e3:news=[]:=List.eq_nil_of_length_eq_zero (by grind);subst e3;rw[RA (by omega) (fun j v hv=>by grind),setRow_self w _ us t0 (0,0) g1];rfl
    grind[run_storeCells_at,Q1]
   grind[List.eq_nil_of_length_eq_zero,RA,setRow_self]
  grind
 grind
end
section
variable {P:Program} {w w':World} {X:Nat→Prop} {ρ ρ':bg} {h h':ac} {A A':Nat→Prop}
theorem Xs(r:Rel w X ρ h){t e}{k}(ht:P.underlying t=some (.slice e))(hk:cW P e=some k)(h0:0<k){x z}{u}{lo hi}{lo' hi'}{ks}
  (hx:RV w (l6 w X h ρ) ρ h x u) (hl:RVo w (l6 w X h ρ) ρ h lo lo') (hh:RVo w (l6 w X h ρ) ρ h hi hi') (hz:wV h k x lo hi=some (z,h',ks)):
  ∃v,(Instr.sliceAt t u lo' hi' none).run P w=.ok v w/\Got w X ρ h w h' ks z v:=by
 have hsz:∀w,(sizeOf e).run P w=.ok k w:=by
  simp only[cW,adV]at hk;obtain⟨i,h1,h2⟩:=hk
  simp_all[sizeOf,typeInfo]
 have run:∀a n cap l r m,(Instr.sliceBounds true n cap lo' hi' none).run P w=.ok (l,r,m) w->
   (Instr.sliceAt t (.slice a n cap) lo' hi' none).run P w=.ok (.slice (if m=l then a else a.map (·.add (l*k))) (r-l) (m-l)) w:=by
  simp_all[Instr.sliceAt,Instr.slice,run_underlying]
 cases x<;>simp only[wV]at hz<;>try (cases hz;done)
 rename_i id sub k' l0 n;cases sub with
 |some p=>grind
 |none=>
 simp only at hz;split at hz
 ·rename_i hkk;subst hkk;obtain⟨a,cap,rfl,hp,hn,hb,ha⟩:=hx.rsl_inv;cases eo:h id<;>rw[eo]at hz<;>simp only[wU]at hz<;>try (cases hz;done)
  rename_i k2 rows;split at hz
  ·rename_i hcond;obtain⟨rfl,hs,hle⟩:=hcond;simp only[adV]at hz;obtain⟨⟨l,r'⟩,h1,h2⟩:=hz;obtain⟨rfl,rfl,rfl⟩:=h2;have ho:=r.ob id;rw[eo]at ho;obtain⟨us,t0,g1,g2,g3,g4⟩:=ho;have hcap:=by
    have h5:rows.length*k2<=(l0+cap)*k2:=by omega
    exact Nat.le_of_mul_le_mul_right h5 h0
   obtain⟨m,q2,q3,q4,q5,q6,q7,q8⟩:=RQ (P:=P) (cap:=cap) true hl hh .none h1 (by omega);cases hh with
   |none=>grind
   |some hv=>
   have q2':=q2;refine⟨_,run _ _ _ _ _ _ q2',ρ,r,.refl _ _ _,.rsl _ _ _ _ _ _ _ hp (by omega) (by grind) ?_⟩;rcases ha with h0|h0
   ·omega
   ·by_cases hml:m=l
    all_goals simp_all[if_neg,ad5,Ru,ad8]
  grind
 grind
theorem YA(r:Rel w X ρ h){t}(hg:xH P t=some false){d}(hdp:bw d=false){x z}{u}{ks}
  (hx:RV w (l6 w X h ρ) ρ h x u) (hz:Bj h d x=some (z,h',ks)):
  ∃ad v,u=.pointer (some ad)/\(loadVar t ad).run P w=.ok v w/\Got w X ρ h w h' ks z v:=by
 cases x<;>simp only[Bj]at hz<;>try (cases hz;done)
 rename_i id sub k0 i j;cases sub with
 |some p=>grind
 |none=>
 simp only at hz;obtain⟨rfl,hp⟩:=hx.ref_inv;cases eo:h id<;>rw[eo]at hz<;>simp only[Bh]at hz<;>try (cases hz;done)
 rename_i cs;obtain⟨us,t0,g1,g2,g3,g4⟩:=r.cell eo;generalize hpp:i*k0+j=p at hz⊢;cases ec:cs[p]? with
 |none=>grind[wY]
 |some c=>
  rw[ec]at hz;obtain⟨v,f1,f2⟩:=g4 p c ec;have hload:(loadVar t ⟨(ρ id none).1,p,none⟩).run P w=.ok v w:=Tk hg (by grind[SR]);refine⟨_,v,rfl,hload,?_⟩;cases c<;>simp only[wY]at hz<;>try (cases hz;done)
  ·obtain⟨rfl,rfl,rfl⟩:=hz;exact⟨ρ,r,.refl _ _ _,f2.1⟩
  ·rename_i k rows;obtain⟨hd',rfl,rfl,rfl⟩:=Rl hz;have hne:d≠id:=by grind[oL]
   have hd:h d=.dead:=by grind[fO]
   obtain⟨m1,m2⟩:=Yv r eo ec hdp hd;obtain⟨a,cap,us1,t1,rfl,q2,q3,q4,q5,q6,q7⟩:=f2;refine⟨_,m1,m2,.rsl d none k 0 rows.length cap a (by simp[eA,oL]) q3 (by rw[QW,QN,q6,q5]) ?_⟩
   simp_all[QW,Nat.zero_mul]
theorem Xt(r:Rel w X ρ h){k}(h0:0<k){id m}{rows ys}(eo:h id=.ar k rows)(hfit:m+ys.length<=rows.length)
  {news} (n1:news.length=ys.length*k) (n3:qR w (l6 w X h ρ) k ys news.toArray):
  ∃w',Rel w' X ρ (upd h id (.ar k (rows.take m++ys++rows.drop (m+ys.length))))/\Evo w ρ h w' ρ (upd h id (.ar k (rows.take m++ys++rows.drop (m+ys.length)))) []/\
   (storeCells ⟨(ρ id none).1,m*k,none⟩ news).run P w=.ok () w'/\(news=[]->w'=w):=by
 have hln:live h id none:=by grind[live]
 have ho:=r.ob id;rw[eo]at ho;obtain⟨us,t0,g1,g2,g3,g4⟩:=ho;have hle:m*k+news.length<=us.size:=by
  have:=ad3 k hfit;grind
 have h1:∀v∈news,v.oneCell'=true:=by
  intro v hv;obtain⟨q,hq⟩:=ad9 hv;have h3:q/k<ys.length:=Nat.div_lt_of_lt_mul (by grind);obtain⟨f1,f2⟩:=n3 (q/k) _ (adW h3);have h4:q%k< (ys[q/k]).length:=by simp_all[Nat.mod_lt]
  obtain⟨v',f3,f4,f5⟩:=f2 (q%k) _ (adW h4);have h5:q/k*k+q%k=q:=by grind[Nat.div_add_mod]
  rw[h5,List.getElem?_toArray,hq]at f3;cases f3;exact f4.one f5
 have hlive:∀s,live (upd h id (.ar k (rows.take m++ys++rows.drop (m+ys.length)))) id s->live h id s:=by
  intro s h1;cases s with
  |none=>omega
  |some q=>obtain⟨_,_,_,h2,_⟩:=h1;grind[oL]
 have hkeep:∀s,eA h id s->s=none:=by
  intro s hp;cases s with
  |none=>rfl
  |some q=>obtain⟨_,_,_,h2,_⟩:=hp;grind
 have ev:Evo w ρ h (w.setRow (ρ id none).1 (Q1 us (m*k) news)) ρ (upd h id (.ar k (rows.take m++ys++rows.drop (m+ys.length)))) []:=
  Sr (X:=X) r hln _ hlive (fun s hp _=>by grind[eA,oL]) (fun hbf=>by rw[eo]at hbf;cases hbf)
 have hrel:=RM r hln _ hlive ev ⟨_,t0,setRow_heap w _ us _ t0 _ g1,by grind[Q4],by grind[Q4],VL h0 (g4.mono fun b hb=>ev.al hb) (n3.mono fun b hb=>ev.al hb) n1 (by omega) g3⟩;grind[run_storeCells_at,Q1,RA,setRow_self]
theorem YB(r:Rel w X ρ h){t e ty}{k}{zs}(ht:P.underlying t=some (.slice e))(hk:cW P e=some k)(hzz:mS P e=some zs)(h0:0<k){x z}{u}{ks}
  (hx:RV w (l6 w X h ρ) ρ h x u) (hz:Bg h k zs x=some (z,h',ks)):
  ∃v w',(Builtin.clear_ #[t] ty #[u]).run P w=.ok v w'/\Got w X ρ h w' h' ks z v:=by
 cases x<;>simp only[Bg]at hz<;>try (cases hz;done)
 rename_i id sub k' lo n;cases sub with
 |some p=>grind
 |none=>
 simp only at hz;split at hz
 ·obtain⟨a,cap,rfl,hp,hn,hb,ha⟩:=hx.rsl_inv;cases eo:h id<;>rw[eo]at hz<;>simp only[Be]at hz<;>try (cases hz;done)
  rename_i k2 rows;split at hz
  ·rename_i hcond;obtain⟨rfl,hfit⟩:=hcond;obtain⟨rfl,rfl,rfl⟩:=hz;obtain⟨zv,z1,z2,z3,z4⟩:=SE (w:=w) (A:=l6 w X h ρ) hk hzz n n (QK n);obtain⟨ii,zw,y1,y2,y3,y4,_⟩:=Ry (w:=w) (A:=l6 w X h ρ) (ρ:=ρ) (h:=h) hzz;have hzv:zv=zw:=by
    have h5:=z1 w;rw[U1 y1 y2 w]at h5;grind
   have hcs:zv.cells.size=k2:=by grind[cW]
   have hnews:(Builtin.zeroCells zv.cells n)=(Array.range (n*k2)).map (zv.cells[· %zv.cells.size]!):=by
    grind[Builtin.zeroCells]
   obtain⟨w',m1,m2,m3,m4⟩:=Xt (P:=P) r h0 (m:=lo) (ys:=QI n zs) (news:=(Builtin.zeroCells zv.cells n).toList) eo (by grind) (by grind) (by rw[Array.toArray_toList,hnews];omega);rw[List.length_replicate]at m1 m2;refine⟨.tuple #[],w',?_,ρ,m1,m2,.tup [] #[] rfl (fun i c u hc=>by grind)⟩;by_cases hn0:n=0
   ·subst hn0;have:(Builtin.zeroCells zv.cells 0).toList=[]:=by grind
    rw[m4 this];cases a<;>simp[Builtin.clear_,run_underlying ht]
   ·rcases ha with h9|h9
    all_goals simp_all[Nat.exists_eq_succ_of_ne_zero,Builtin.clear_,run_underlying]
  grind
 grind
theorem YC{z}{n c}(hn:n<=c):Builtin.zeroCells z n++Builtin.zeroCells z (c-n)=(Array.range (c*z.size)).map (z[· %z.size]!):=by
 unfold Builtin.zeroCells;apply Array.ext
 ·simp only[Array.size_append,Array.size_map,Array.size_range];rw[←ad8];grind
 ·intro i h1 h2;rw[Array.getElem_append];split
  ·simp
  ·rename_i h3;simp only[Array.size_map,Array.size_range]at h3;have:i%z.size=(i-n*z.size) %z.size:=by
    have h4:i=(i-n*z.size)+n*z.size:=by omega
    rw[h4,Nat.add_mul_mod_self_right,Nat.add_sub_cancel]
   grind
theorem Xu(r:Rel w X ρ h){t u e ty}{k b d}(hdp:bw d=false){zs}(ht:P.underlying t=some (.slice e))(hu:P.underlying u=some (.int .i64))(hk:cW P e=some k)(hbb:xI P e=some b)(hzz:mS P e=some zs)(h0:0<k)(hb0:0<b)
  {x y z} {ux uy} {ks} (hx:RV w (l6 w X h ρ) ρ h x ux) (hy:RV w (l6 w X h ρ) ρ h y uy) (hr:wX h d k b zs x y=some (z,h',ks)):
  ∃v w',(Builtin.append_ #[t,u] ty #[ux,uy]).run P w=.ok v w'/\Got w X ρ h w' h' ks z v:=by
 unfold wX at hr;split at hr
 ·rename_i c;obtain⟨a,rfl⟩:=hx.emp_inv;obtain⟨rfl,_⟩:=hy.v_inv;split at hr
  ·rename_i hcond;obtain⟨hc0,hfit⟩:=hcond;obtain⟨n,rfl⟩:=Int.eq_ofNat_of_zero_le (show 0<=c by omega);rw[QT]at hr hfit;obtain⟨i,zv,z1,z2,z3,z4,_⟩:=Ry (w:=w) (A:=l6 w X h ρ) (ρ:=ρ) (h:=h) hzz;have hik:i.size=k:=by grind[cW]
   have hib:i.bytes=b:=by grind[xI]
   have hcs:zv.cells.size=k:=by omega
   obtain⟨d3,d4⟩:=SK r;have hge:=grownCap_ge w (0+n) 0 e;obtain⟨zw,y1,y2,y3,y4⟩:=SE (w:=w.drew) (A:=l6 w.drew X h ρ) hk hzz n (grownCap w (0+n) 0 e) (by omega);have hzv:zw=zv:=by
    have h5:=y1 w;rw[U1 z1 z2 w]at h5;grind
   subst hzv;obtain⟨rfl,ρ',q1,q2,q3⟩:=RJ (t:=e) (cap:=grownCap w (0+n) 0 e) d3 hdp y4 y3 (by omega) (by rw[y2]) hr;refine⟨_,_,?_,ρ',q1,d4.trans q2,q3⟩;have hnb:n<=140737488355328:=by
    have:n*1<=n*b:=Nat.mul_le_mul_left n hb0;omega
   have hw:IntKind.i64.wrap (n:Int)=n:=by grind[IntKind.wrap,IntKind.signed,IntKind.bits]
   have hn1:n≠0:=by omega
   have h48:¬ (281474976710656< (n:Int)*i.bytes):=by
    grind
   have hmax:¬ ((9223372036854775807:Int)< (n:Int)):=by omega
   have hns:¬ (281474976710656<Builtin.nextslicecap n 0*i.bytes):=by
    simp_all[growslice_fits,bytes]
   have hb':i.bytes≠0:=by omega
   have hk':i.size≠0:=by omega
   have hneg:¬ ((n:Int)<0):=by omega
   have hli:∀w:World,(asInt (.int .i64 (n:Int))).run P w=.ok (n:Int) w:=fun _=>rfl;simp only[QN]at hge⊢;simp[Builtin.append_,run_underlying ht,run_underlying hu,sizeOf,typeInfo,zeroValue,z1,z2,hli,hw,hn1,h48,hmax,hns,hb',hneg,Question.forced,newRow,grownCap,Rh]
   simp_all[if_neg,Nat.mul_eq_zero,YC,grownCap]
  grind
 ·rename_i id k' lo i c m;obtain⟨a,rfl,hp,hn,hbd,ha⟩:=hx.rsc_inv;obtain⟨rfl,_⟩:=hy.v_inv;split at hr
  ·rename_i hcond;obtain⟨rfl,rfl,hm0,hroom⟩:=hcond;obtain⟨n,rfl⟩:=Int.eq_ofNat_of_zero_le (show 0<=m by omega);rw[QT]at hr hroom;cases eo:h id<;>rw[eo]at hr<;>simp only[wW]at hr<;>try (cases hr;done)
   rename_i k2 rows;split at hr
   ·rename_i hcond2;obtain⟨rfl,hle,hfit⟩:=hcond2;have ho:=r.ob id;rw[eo]at ho;obtain⟨us,t0,g1,g2,g3,g4⟩:=ho;obtain⟨ii,zv,z1,z2,z3,z4,_⟩:=Ry (w:=w) (A:=l6 w X h ρ) (ρ:=ρ) (h:=h) hzz;have hik:ii.size=k2:=by grind[cW]
    have hib:ii.bytes=b:=by grind[xI]
    have hcs:zv.cells.size=k2:=by omega
    have hlt:(rows.take i).length=i:=by grind
    obtain⟨old,o1,o2,o3⟩:∃old:List Value,old.length=(rows.take i).length*k2/\(∀w2:World,w2.heap=w.heap->(Builtin.firstCells k2 i (.slice a i c)).run P w2=.ok old.toArray w2)/\qR w (l6 w X h ρ) k2 (rows.take i) old.toArray:=by
     rw[hlt];by_cases hr0:i=0
     ·subst hr0;exact⟨[],by simp,fun w2 _=>Rh _ _ _ _ _,fun q row hq=>by grind⟩
     ·rcases ha with h9|rfl
      ·omega
      ·obtain⟨old,f1,f2,f3⟩:=RY (P:=P) (w:=w) (A:=l6 w X h ρ) (o:=0) (n:=i) (l:=i) (cap:=c) g1 g4 (by omega) h0;grind
    obtain⟨zw,y1,y2,y3,y4⟩:=SE (w:=w) (A:=l6 w X h ρ) hk hzz n n (QK _);have hzv:zw=zv:=by
     have h5:=y1 w;rw[U1 z1 z2 w]at h5;grind
    subst hzv;have hnews:Builtin.zeroCells zw.cells n=(Array.range (n*k2)).map (zw.cells[· %zw.cells.size]!):=by
     grind[Builtin.zeroCells]
    have hz4:qR w (l6 w X h ρ) k2 (QI n zs) (Builtin.zeroCells zw.cells n).toList.toArray:=by
     rw[Array.toArray_toList,hnews];omega
    obtain⟨d3,d4⟩:=SK r;have hge:=grownCap_ge w (i+n) c e;have hl2:(Builtin.zeroCells zw.cells n).toList.length=(QI n zs).length*k2:=by grind
    have hrows:=TW (w:=w) (A:=l6 w X h ρ) (Builtin.zeroCells zw.cells (grownCap w (i+n) c e- (i+n))) o3 o1 hz4 hl2;have hsz:(old.toArray++(Builtin.zeroCells zw.cells n).toList.toArray++Builtin.zeroCells zw.cells (grownCap w (i+n) c e- (i+n))).size=grownCap w (i+n) c e*k2:=by
     simp only[Array.size_append,List.size_toArray,size_zeroCells,hcs,o1,hlt,hl2,List.length_replicate,←ad8];grind
    have hlen:(rows.take i++QI n zs).length=i+n:=by grind
    obtain⟨rfl,ρ',q1,q2,q3⟩:=RJ (t:=e) (cap:=grownCap w (i+n) c e) d3 hdp (hrows.mono fun b hb=>d4.al hb) (by simp_all[ad3]) hge hsz.symm hr;refine⟨_,_,?_,ρ',q1,d4.trans q2,q3⟩;have hnb:(i+n)*1<=(i+n)*b:=Nat.mul_le_mul_left _ hb0;have hw:IntKind.i64.wrap (n:Int)=n:=by grind[IntKind.wrap,IntKind.signed,IntKind.bits]
    have hn1:n≠0:=by omega
    have hnb2:n*b<=(i+n)*b:=ad3 b (by omega);have h48:¬ (281474976710656< (n:Int)*ii.bytes):=by
     grind
    have hmax:¬ ((9223372036854775807:Int)< (i:Int)+(n:Int)):=by omega
    have hcap:¬ (i+n<=c):=by omega
    have hns:¬ (281474976710656<Builtin.nextslicecap (i+n) c*ii.bytes):=by
     simp_all[growslice_fits,bytes]
    have hb':ii.bytes≠0:=by omega
    have hk':ii.size≠0:=by omega
    have hneg:¬ ((n:Int)<0):=by omega
    have hli:∀w:World,(asInt (.int .i64 (n:Int))).run P w=.ok (n:Int) w:=fun _=>rfl;have ho2:=o2 w.drew rfl;simp[Builtin.append_,run_underlying ht,run_underlying hu,sizeOf,typeInfo,zeroValue,z1,z2,hli,hw,h48,hmax,hns,hb',hneg,hcap,Question.forced,newRow,grownCap,hik,ho2];grind
   grind
  grind
 grind
end
section
variable {P:Program} {w w':World} {X:Nat→Prop} {ρ ρ':bg} {h h':ac} {s:ah} {a:Act}
theorem Tm(hs:RS w (l6 w X h ρ) ρ h s a.tmps):∀ps q,Af ps=some q->q.length=ps.length/\
  ∀ (m:Nat) p v,q[m]?=some p->ps[m]?=some v->v.1=p.1/\RV w (l6 w X h ρ) ρ h (ev s p.2) (a.eval v.2)
 |[],q,hq=>by grind[Af]
 | (i,x)::ps,q,hq=>by
  simp only[Af,QS]at hq;obtain⟨y,h1,q',h2,h3⟩:=hq;cases h3;obtain⟨g1,g2⟩:=Tm hs ps q' h2;refine⟨by simp[g1],fun m p v e1 e2=>?_⟩;cases m with
  |zero=>simp at e1 e2;subst e1 e2;exact⟨rfl,QV h1 hs⟩
  |succ m=>exact g2 m p v (by simpa using e1) (by simpa using e2)
theorem RF{α:Type}{x:Option α}{f:α->POp}{y}(hc:(x.map fun a=>AOp.p (f a))=some y):∃p,y=.p p:=by
 grind[adV]
theorem Q5{α:Type}{x:Option α}{f}{y:AOp}(hf:∀a,f a=some y->∃p,y=.p p)(hc:x.bind f=some y):∃p,y=.p p:=by
 grind[QS]
theorem acI{c} [Decidable c]{p}{y}(hc:(if c then none else some (AOp.p p))=some y):∃p,y=.p p:=by
 grind
theorem YD{u}(h:GH P u=true):P.underlying u=some (.int .i64):=by
 grind[GH]
theorem aaQ{op}{aop}{call}{md}(hc:JW P op=some aop)(hnc:∀f zas,aop≠ .call f zas)(r:Rel w X ρ h)(hs:RS w (l6 w X h ρ) ρ h s a.tmps){d}(hdp:bw d=false){z}{ks}
  (hz:step call md d aop s h=some (z,h',ks)) (o) (ho:o.op=op):
  ∃nx v w',(execOp a.eval o).run P w=.ok nx w'/\(nx=.value v\/(nx=.skip/\v=undef))/\Got w X ρ h w' h' ks z v:=by
 have fin:∀ {m},(∃v w',m.run P w=.ok v w'/\Got w X ρ h w' h' ks z v)->∃nx v w',(do pure (.value (←m)):Sem Next).run P w=.ok nx w'/\(nx=.value v\/(nx=.skip/\v=undef))/\Got w X ρ h w' h' ks z v:=by
  intro m hm;obtain⟨v,w',h1,h2⟩:=hm;exact⟨_,v,w',by simp_all,.inl rfl,h2⟩
 by_cases hp:∃pop,aop=.p pop
 ·obtain⟨pop,rfl⟩:=hp;simp only[step,tD,adV,Prod.mk.injEq]at hz;obtain⟨z',h1,rfl,rfl,rfl⟩:=hz;obtain⟨v,g1,g2⟩:=Yn hc hs h1 o ho;exact⟨_,v,w,g1,.inl rfl,ρ,r,.refl _ _ _,g2⟩
 ·cases op<;>simp only[JW]at hc
  case alloc=>
   simp only[adV]at hc;obtain⟨zs,h1,h2⟩:=hc;cases h2;simp only[execOp,ho];exact fin (Xo r h1 hdp hz)
  case box=>
   simp only[QS,adV]at hc;obtain⟨k,h1,y,h2,h3⟩:=hc;cases h3;simp only[execOp,ho];exact fin (Yr r hdp (QV h2 hs) hz)
  case buildSlice t n ps=>
   simp only[Ah,QS]at hc;obtain⟨e,h1,k,h2,hc⟩:=hc;split at hc
   ·rename_i hn;simp only[QS,adV]at hc;obtain⟨zs,h3,q,h4,h5⟩:=hc;cases h5;obtain⟨g1,g2⟩:=Tm hs _ _ h4;simp only[execOp,ho];simp only[step]at hz;refine fin (TM r hdp h1 h2 h3 hn.1 (by grind) (fun m p v e1 e2=>?_) hz);grind
   grind
  case makeSlice t l c=>
   simp only[GG,QS]at hc;obtain⟨l',h1,c',h2,e,h3,k,h4,b,h5,hc⟩:=hc;split at hc
   ·simp only[adV]at hc;obtain⟨zs,h6,h7⟩:=hc;cases h7;simp only[execOp,ho];exact fin (Yt r hdp h3 h4 h5 h6 (QV h1 hs) (QV h2 hs) hz)
   grind
  case load t x=>
   simp only[QS]at hc;obtain⟨g,h1,k,h2,y,h3,hc⟩:=hc;split at hc
   ·cases hc;obtain⟨ad,v,g1,g2,g3,g4,g5⟩:=Ur (P:=P) r h1 h2 (QV h3 hs) hz;simp only[execOp,ho];exact fin ⟨v,w,by rw[g1];exact g2,ρ,g3,g4,g5⟩
   grind
  case store t x y=>
   simp only[QS,adV]at hc;obtain⟨k,h1,x',h2,y',h3,h4⟩:=hc;cases h4;obtain⟨ad,w',ρ',rfl,g1,g2,g3,g4⟩:=Wu (P:=P) r h1 (QV h2 hs) (QV h3 hs) hz;simp only[execOp,ho];refine⟨.skip,undef,w',?_,.inr ⟨rfl,rfl⟩,ρ',g3,g4,.und⟩;have:(Instr.storeAt t (a.eval x) (a.eval y)).run P w=.ok () w':=by rw[g1];exact g2
   simp_all
  case call c=>
   unfold GK at hc;split at hc
   ·rename_i b hb;have run:∀args,args=c.args.map a.eval->(execOp a.eval o).run P w=(builtin b c.argTypes o.type (c.args.map fun| .const _=>true|_=>false) args).run P w:=by
     grind[execOp,resolve,Sem.run_bind,Sem.run_pure,Result.andThen,invoke]
    unfold C6 at hc;split at hc
    ·exact absurd (Q5 (fun _ h=>RF h) hc) hp
    ·exact absurd (Q5 (fun _ h=>RF h) hc) hp
    ·exact absurd (Q5 (fun _ h=>RF h) hc) hp
    ·exact absurd (Q5 (fun _ h=>RF h) hc) hp
    ·unfold JV at hc;split at hc
     ·rename_i t u x y e1 e2;have hargs:c.args.map a.eval=#[a.eval x,a.eval y]:=Array.toList_inj.1 (by simp[e2]);have hts:c.argTypes=#[t,u]:=Array.toList_inj.1 (by omega);split at hc
      ·rename_i hi64;simp only[GI,QS]at hc;obtain⟨e,q1,k,q3,b,q4,x',q5,y',q6,zs,hzs,hc⟩:=hc;split at hc
       ·rename_i hcond;cases hc;rw[run _ rfl,hargs,hts];exact fin (Xu r hdp (RB q1) (YD hi64) q3 q4 hzs hcond.1 hcond.2 (QV q5 hs) (QV q6 hs) hz)
       grind
      ·simp only[QS]at hc;obtain⟨e,q1,e',q2,k,q3,b,q4,x',q5,y',q6,hc⟩:=hc;split at hc
       ·rename_i hcond;cases hc;obtain⟨zs,hzs⟩:=Option.isSome_iff_exists.1 hcond.2.2;rw[run _ rfl,hargs,hts];exact fin (Yw r (RB q1) (RB q2) q3 q4 hzs hcond.1 hcond.2.1 hdp (QV q5 hs) (QV q6 hs) hz)
       grind
     grind
    ·unfold GJ at hc;split at hc
     ·rename_i t u x y e1 e2;simp only[QS]at hc;obtain⟨e,q1,k,q3,x',q5,y',q6,hc⟩:=hc;split at hc
      ·rename_i hcond;cases hc;have hargs:c.args.map a.eval=#[a.eval x,a.eval y]:=Array.toList_inj.1 (by simp[e2]);have hts:c.argTypes=#[t,u]:=Array.toList_inj.1 (by omega);rw[run _ rfl,hargs,hts];obtain⟨v,w',g1,g2⟩:=Yz (P:=P) (u:=u) (ty:=o.type) r (RB q1) q3 hcond (QV q5 hs) (QV q6 hs) hz;refine⟨.value v,v,w',?_,.inl rfl,g2⟩;show(do pure (.value (←Builtin.copy_ #[t,u] o.type #[a.eval x,a.eval y])):Sem Next).run P w=_
       simp_all
      grind
     grind
    ·unfold Fi at hc;split at hc
     ·rename_i t x e1 e2;simp only[QS]at hc;obtain⟨e,q1,k,q3,x',q5,zs,hzs,hc⟩:=hc;split at hc
      ·rename_i hcond;cases hc;have hargs:c.args.map a.eval=#[a.eval x]:=Array.toList_inj.1 (by simp[e2]);have hts:c.argTypes=#[t]:=Array.toList_inj.1 (by omega);rw[run _ rfl,hargs,hts];exact fin (YB (P:=P) (ty:=o.type) r (RB q1) q3 hzs hcond (QV q5 hs) hz)
      grind
     grind
    grind
   all_goals grind[QS,adV,absurd]
  case makeFunc fn _ _=>
   cases fn
   ·exact absurd (Q5 (fun _ h=>RF h) hc) hp
   all_goals grind
  all_goals first
   | (cases hc;done)
   |exact absurd (RF hc) hp
   |exact absurd (Q5 (fun _ h=>RF h) hc) hp
   |exact absurd (Q5 (fun _ h=>Q5 (fun _ h=>RF h) h) hc) hp
   |exact absurd (Q5 (fun _ h=>Q5 (fun _ h=>Q5 (fun _ h=>RF h) h) h) hc) hp
   |exact absurd (Q5 (fun _ h=>Q5 (fun _ h=>Q5 (fun _ h=>Q5 (fun _ h=>RF h) h) h) h) hc) hp
   |exact absurd (Q5 (fun _ h=>Q5 (fun _ h=>Q5 (fun _ h=>acI h) h) h) hc) hp
theorem ZM{op}{hint aop}{call}{md}(hc:JY P hint op=some aop)(hnc:∀f zas,aop≠ .callC f zas)(r:Rel w X ρ h)(hs:RS w (l6 w X h ρ) ρ h s a.tmps){d}(hdp:bw d=false){z}{ks}
  (hz:step call md d aop s h=some (z,h',ks)) (o) (ho:o.op=op):
  (∃nx v w',(execOp a.eval o).run P w=.ok nx w'/\(nx=.value v\/(nx=.skip/\v=undef))/\Got w X ρ h w' h' ks z v)/\∀f zas,aop≠ .call f zas:=by
 have fin:∀ {m},(∃v w',m.run P w=.ok v w'/\Got w X ρ h w' h' ks z v)->∃nx v w',(do pure (.value (←m)):Sem Next).run P w=.ok nx w'/\(nx=.value v\/(nx=.skip/\v=undef))/\Got w X ρ h w' h' ks z v:=by
  intro m hm;obtain⟨v,w',h1,h2⟩:=hm;exact⟨_,v,w',by simp_all,.inl rfl,h2⟩
 unfold JY at hc;split at hc
 ·simp only[QS]at hc;obtain⟨e,q1,k,q2,x',q3,lo',q4,hi',q5,hc⟩:=hc;split at hc
  ·rename_i h0;cases hc;refine⟨?_,fun f zas h=>by grind⟩;simp only[execOp,ho];obtain⟨v,g1,g2⟩:=Xs (P:=P) r (RB q1) q2 h0 (QV q3 hs) (RH q4 hs) (RH q5 hs) hz;exact fin ⟨v,w,g1,g2⟩
  grind
 ·grind[QS,adV,absurd]
 ·rename_i t n ps;simp only[Ah,QS]at hc;obtain⟨b,⟨e,h1,k,h2,hc⟩,hb⟩:=hc;split at hc
  ·rename_i hn;simp only[QS,adV]at hc;obtain⟨zs,h3,q,h4,rfl⟩:=hc;cases hb;obtain⟨g1,g2⟩:=Tm hs _ _ h4;refine⟨?_,fun f zas h=>by cases h⟩;simp only[execOp,ho];simp only[step,QS]at hz;obtain⟨⟨x0,h0,k0⟩,hz,hco⟩:=hz;obtain⟨v,w',r1,ρ',r2,r3,r4⟩:=TM (h':=h0) (vs:=ps.map fun p=>(p.1,a.eval p.2)) r hdp h1 h2 h3 hn.1 (by simp[g1]) (fun m p v e1 e2=>by
    simp only[aeb,adV]at e1;obtain⟨p',e1,rfl⟩:=e1;simp only[Array.getElem?_map,adV]at e2;obtain⟨v',e2,rfl⟩:=e2;exact g2 m p' v' e1 (by simpa using e2)) (Option.bind_eq_some_iff.2 hz)
   unfold sz at hco;split at hco
   ·rename_i id k' lo m hx;simp only at hx;subst hx;simp only[adV]at hco;obtain⟨c,c1,c2⟩:=hco;cases c2;obtain⟨f1,f2,f3⟩:=Sc r2 r4 (fun _ hb=>hb) (by obtain⟨_,_,e,_⟩:=r4.rsl_inv;rw[e];rfl) c1;exact fin ⟨v,w',r1,ρ',f1,r3.trans f2,.dat f3.1⟩
   ·cases hco
  ·cases hc
 ·rename_i t x;simp only[QS]at hc;obtain⟨g,q1,x',q2,hc⟩:=hc;split at hc
  ·grind
  ·cases hc;refine⟨?_,fun f zas h=>by grind⟩;obtain⟨ad,v,g1,g2,g3⟩:=YA (P:=P) r (by simpa [Bool.not_eq_true]using (by grind:xH P t=some false)) hdp (QV q2 hs) hz;simp only[execOp,ho];exact fin ⟨v,w,by rw[g1];exact g2,g3⟩
 grind
end
structure Inv where
 p:World->(Nat->Prop)->Prop
 stab:∀ {w w':World} {X:Nat->Prop},p w X->(∀b,XZ X b->w'.heap[b]?=w.heap[b]?)->p w' X
 more:∀ {w:World} {X X':Nat->Prop},p w X->(∀b,X b->X' b)->p w X'
structure Far (nm:Bool) (w:World) (ρ:bg) (h:ac) (w':World) (ρ':bg) (h':ac):Prop where
 os:w'.os=w.os
 tape:w'.tape=w.tape
 output:w'.output=w.output
 size:w.heap.size<=w'.heap.size
 old:∀b,b<w.heap.size->¬uO h ρ b->w'.heap[b]?=w.heap[b]?
 fresh:∀b,uO h' ρ' b->uO h ρ b\/w.heap.size<=b
 stay:∀id,bw id=true->h' id≠ .dead->h id≠ .dead/\ρ' id none=ρ id none
 keep:nm=true->∀id p,bw id=true->h' id≠ .dead->eA h id (some p)->eA h' id (some p)/\ρ' id (some p)=ρ id (some p)
theorem C7{nm}{ks}(h:ju nm ks=true)(hn:nm=true){id}(hp:bw id=true)(s):iT ks id s=false:=by
 simp only[ju,Bool.not_true,Bool.false_or,ad1,Bool.not_eq_true']at h;simp only[iT,List.any_eq_false,QQ,beq_iff_eq,not_and];grind
theorem Evo.far{nm}{w w'}{ρ ρ'}{h h'}{ks}(e:Evo w ρ h w' ρ' h' ks)(hn:ju nm ks=true):Far nm w ρ h w' ρ' h':=
 ⟨e.os,e.tape,e.output,e.size,e.old,e.fresh,e.stay,fun h1 id p hp _ h2=>e.keep id (some p) h2 (C7 hn h1 hp _)⟩
theorem j6(nm):ju nm []=true:=by cases nm<;>rfl
theorem Far.refl(nm)(w)(ρ)(h):Far nm w ρ h w ρ h:=(Evo.refl w ρ h).far (j6 nm)
theorem Far.trans{nm}{w w' w''}{ρ ρ' ρ''}{h h' h''}(a:Far nm w ρ h w' ρ' h')(b:Far nm w' ρ' h' w'' ρ'' h''):Far nm w ρ h w'' ρ'' h'':=
 ⟨b.os.trans a.os,b.tape.trans a.tape,b.output.trans a.output,QU a.size b.size,
  fun x hx ho=>(b.old x (aea hx a.size) (fun o=>by rcases a.fresh x o with o|o;all_goals grind)).trans (a.old x hx ho),
  fun x o=>by
   rcases b.fresh x o with o|o
   ·exact a.fresh x o
   ·exact .inr (QU a.size o),
  fun id hp hd=>by
   obtain⟨h1,h2⟩:=b.stay id hp hd;obtain⟨h3,h4⟩:=a.stay id hp h1;grind,
  fun hn id p hp hd h1=>by
   obtain⟨h2,h3⟩:=a.keep hn id p hp (b.stay id hp hd).1 h1;obtain⟨h4,h5⟩:=b.keep hn id p hp hd h2;grind⟩
theorem Far.inv{I:Inv}{nm}{w w'}{X}{ρ ρ'}{h h'}(f:Far nm w ρ h w' ρ' h')(r:Rel w X ρ h)(hi:I.p w X):I.p w' X:=
 I.stab hi fun b hb=>f.old b (r.xl b hb) fun⟨id,sub,hl,e⟩=>r.nx id sub hl (e▸hb)
theorem Evo.inv{I:Inv}{w w'}{X}{ρ ρ'}{h h'}{ks}(f:Evo w ρ h w' ρ' h' ks)(r:Rel w X ρ h)(hi:I.p w X):I.p w' X:=(f.far (nm:=false) rfl).inv r hi
def Enters(P:Program)(f:FuncId)(vals:Array Value)(w:World)(R:Value->World->Prop):Prop:=
 match (callFunc f vals).run P w with
 | .ok (.value v) w'=>R v w'
 | .ok (.enter g args) w'=>Calls P g args w' fun e w''=>match e with| .returned v=>R v w''|_=>False
 | .ok (.row row args) w'=>Rows P row args w' R
 |_=>False
theorem Enters.mono{P}{f}{vals}{w}{R R'}(h:Enters P f vals w R)(hr:∀v w',R v w'->R' v w'):Enters P f vals w R':=by
 unfold Enters at*
 grind[Calls.mono,Rows.mono]
def Rq(P:Program)(I:Inv)(call:bQ)(md:Mode):Prop:=
 ∀ {w} {X} {ρ} {h h'} {d} {f z} {zas} {ks} {uf} {us},d<1000->I.p w X->Rel w X ρ h->RV w (l6 w X h ρ) ρ h f uf->us.size=zas.length->
  (∀ (i:Nat) c u,zas[i]?=some c->us[i]?=some u->RV w (l6 w X h ρ) ρ h c u)->aM call md h d zas f=some (z,h',ks)->
  ∃g first cap,uf=.func (.func g) first cap/\Enters P g (first++us++cap) w fun v w'=>Got w X ρ h w' h' ks z v
section
variable {P:Program} {w:World} {X:Nat→Prop} {ρ:bg} {h:ac} {s:ah} {a:Act} {call:bQ} {md:Mode} {N:Nat} {ops:Array Oper} {Q:Exit→Act→World→Prop} {I:Inv}
structure Ok (I:Inv) (N:Nat) (w:World) (X:Nat->Prop) (ρ:bg) (h:ac) (s:ah) (a:Act):Prop where
 rel:Rel w X ρ h
 rs:RS w (l6 w X h ρ) ρ h s a.tmps
 size:N<=a.tmps.size
 defers:a.defers=[]
 inv:I.p w X
theorem Ok.put{w'}{ρ'}{h'}{ks}{z}{v}(ok:Ok I N w X ρ h s a)(r:Rel w' X ρ' h')(e:Evo w ρ h w' ρ' h' ks)(hv:RV w' (l6 w' X h' ρ') ρ' h' z v){d}(hd:d.getD 0<N):
  Ok I N w' X ρ' h' (kU (jn ks s) d z) (a.put d v):=by
 have h1:=e.rs (X:=X) ok.rs;cases d with
 |none=>exact⟨r,h1,ok.size,ok.defers,e.inv ok.rel ok.inv⟩
 |some d=>exact⟨r,h1.upd (aea hd ok.size) hv,by simpa [Act.put]using ok.size,ok.defers,e.inv ok.rel ok.inv⟩
theorem ZN{d}(hd:d<1000):bw d=false:=by grind[bw,decide_eq_false_iff_not]
theorem XM(hcall:Rq P I call md)(hN:N<=1000){o:Oper}{c}{fo}{f}{zas}(ho:o.op=.call c)(hfo:c.callee=.value fo)(h1:aF fo=some f)(h2:oJ c.args.toList=some zas)
  (hd:o.dst.getD 0<N) (ok:Ok I N w X ρ h s a) {z} {h'} {ks} (hz:aM call md h (o.dst.getD 0) (zas.map (ev s)) (ev s f)=some (z,h',ks))
  {K'} (fin:∀v w',Got w X ρ h w' h' ks z v->K' (a.put o.dst v) w'):o.wp P a w K' Q:=by
 obtain⟨l1,l2⟩:=R4 ok.rs h2;obtain⟨g,first,cap,e1,e2⟩:=hcall (us:=c.args.map a.eval) (aea hd hN) ok.inv ok.rel (QV h1 ok.rs) (by grind) (fun i c' u hc' hu=>by
  grind) hz
 have hrun:(execOp a.eval o).run P w=(callFunc g (first++c.args.map a.eval++cap)).run P w:=by
  grind[execOp,resolve,Deferred.ofValue,invoke,Sem.run_bind,Sem.run_pure,Result.andThen]
 unfold Oper.wp;rw[hrun];unfold Enters at e2;generalize(callFunc g (first++c.args.map a.eval++cap)).run P w=res at e2;cases res with
 |ok n w'=>
  cases n<;>simp only at e2
  case value v=>exact fin _ _ e2
  case enter g' args'=>
   show Calls P g' args' w' _;grind[Calls.mono]
  case row row args'=>exact Rows.mono e2 fin
 |halt x w'=>grind
theorem YE{d}{r z}{w'}{v}(hg:Got w X ρ h w' r.2.1 r.2.2 r.1 v)(hz:qO d r=some z):Got w X ρ h w' z.2.1 z.2.2 z.1 v:=by
 obtain⟨x,h1,k1⟩:=r;unfold qO at hz;split at hz
 ·rename_i id k lo n he;split at hz
  ·simp only[adV]at hz;obtain⟨q,e1,rfl⟩:=hz;obtain⟨ρ',g1,g2,g3⟩:=hg;subst he;obtain⟨a,cap,rfl,_⟩:=g3.rsl_inv;obtain⟨f1,f2,f3⟩:=Sc g1 g3 (fun _ hb=>hb) rfl e1;exact⟨ρ',f1,g2.trans f2,.dat f3.1⟩
  grind
 grind
theorem ac5(hcall:Rq P I call md)(hN:N<=1000){o:Oper}{hint aop}(hc:JZ P hint o.op=some aop)(hd:o.dst.getD 0<N)(ok:Ok I N w X ρ h s a){z}{h'}{ks}(hz:step call md (o.dst.getD 0) aop s h=some (z,h',ks))(hnm:ju md.nm ks=true)
  {K'} (hK:∀a' w' ρ',Ok I N w' X ρ' h' (kU (jn ks s) o.dst z) a'->Far md.nm w ρ h w' ρ' h'->K' a' w'):o.wp P a w K' Q:=by
 have hdp:=ZN (aea hd hN);unfold JZ at hc;cases halt:JY P hint o.op with
 |some a0=>
  rw[halt]at hc;obtain rfl:=Option.some.inj hc;by_cases hcc:∃f zas,a0=.callC f zas
  ·obtain⟨f,zas,rfl⟩:=hcc;have hop:∃c fo,o.op=.call c/\c.callee=.value fo/\aF fo=some f/\oJ c.args.toList=some zas:=by
    unfold JY at halt;split at halt
    ·simp only[QS]at halt;obtain⟨_,_,_,_,_,_,_,_,_,_,halt⟩:=halt;split at halt<;>cases halt
    ·rename_i c hop;split at halt
     ·rename_i fo hfo;simp only[QS,adV]at halt;obtain⟨f',h1,l,h2,h3⟩:=halt;cases h3;exact⟨c,fo,hop,hfo,h1,h2⟩
     ·cases halt
    ·simp only[QS]at halt;obtain⟨b,_,halt⟩:=halt;unfold JX at halt;split at halt<;>cases halt
    ·simp only[QS]at halt;obtain⟨_,_,_,_,halt⟩:=halt;split at halt<;>cases halt
    ·cases halt
   obtain⟨c,fo,ho,hfo,h1,h2⟩:=hop;simp only[step,QS]at hz;obtain⟨r,e1,e2⟩:=hz;exact XM hcall hN ho hfo h1 h2 hd ok (z:=r.1) (h':=r.2.1) (ks:=r.2.2) e1 fun v w' hg=>by
    obtain⟨ρ',g1,g2,g3⟩:=YE hg e2;exact hK _ _ ρ' (ok.put g1 g2 g3 hd) (g2.far hnm)
  obtain⟨⟨nx,v,w',g1,g2,ρ',g3,g4,g5⟩,_⟩:=ZM halt (fun f zas e=>hcc ⟨f,zas,e⟩) ok.rel ok.rs hdp hz o rfl;unfold Oper.wp;rw[g1];rcases g2 with rfl| ⟨rfl,rfl⟩
  ·exact hK _ _ ρ' (ok.put g3 g4 g5 hd) (g4.far hnm)
  ·exact hK _ _ ρ' (ok.put g3 g4 g5 hd) (g4.far hnm)
 |none=>
 rw[halt]at hc;simp only at hc
 replace hc:JW P o.op=some aop:=by
  simp only[OD,Option.some.injEq]at hc;cases h0:JW P o.op with
  |none=>rw[h0]at hc;simp only[Option.getD_none]at hc;subst hc;cases hz
  |some q=>rw[h0]at hc;simp only[Option.getD_some]at hc;rw[hc]
 by_cases hcl:∃f zas,aop=.call f zas
 ·obtain⟨f,zas,rfl⟩:=hcl;have hop:∃c fo,o.op=.call c/\c.callee=.value fo/\aF fo=some f/\oJ c.args.toList=some zas:=by
   cases ho:o.op<;>rw[ho]at hc<;>simp only[JW]at hc
   case call c=>
    unfold GK at hc;split at hc
    ·exfalso;unfold C6 at hc;split at hc
     ·obtain⟨p,hp⟩:=Q5 (fun _ h=>RF h) hc;cases hp
     ·obtain⟨p,hp⟩:=Q5 (fun _ h=>RF h) hc;cases hp
     ·obtain⟨p,hp⟩:=Q5 (fun _ h=>RF h) hc;cases hp
     ·obtain⟨p,hp⟩:=Q5 (fun _ h=>RF h) hc;cases hp
     ·unfold JV at hc;split at hc
      ·split at hc
       ·simp only[GI,QS]at hc;obtain⟨_,_,_,_,_,_,_,_,_,_,_,_,hc⟩:=hc;split at hc<;>cases hc
       ·simp only[QS]at hc;obtain⟨_,_,_,_,_,_,_,_,_,_,_,_,hc⟩:=hc;split at hc<;>cases hc
      ·cases hc
     ·unfold GJ at hc;split at hc
      ·simp only[QS]at hc;obtain⟨_,_,_,_,_,_,_,_,hc⟩:=hc;split at hc<;>cases hc
      ·cases hc
     ·unfold Fi at hc;split at hc
      ·simp only[QS]at hc;obtain⟨_,_,_,_,_,_,_,_,hc⟩:=hc;split at hc<;>cases hc
      ·cases hc
     ·cases hc
    ·rename_i fo hfo;simp only[QS,adV]at hc;obtain⟨f',h1,l,h2,h3⟩:=hc;cases h3;exact⟨c,fo,rfl,hfo,h1,h2⟩
    ·cases hc
   case makeFunc fn _ _=>
    cases fn
    ·obtain⟨p,hp⟩:=Q5 (fun _ h=>RF h) hc;cases hp
    all_goals cases hc
   case alloc=>simp[adV]at hc
   case box=>simp[QS]at hc
   case buildSlice=>
    simp only[Ah,QS]at hc;obtain⟨_,_,_,_,hc⟩:=hc;split at hc
    ·simp[QS]at hc
    ·cases hc
   case makeSlice=>
    simp only[GG,QS]at hc;obtain⟨_,_,_,_,_,_,_,_,_,_,hc⟩:=hc;split at hc
    ·simp at hc
    ·cases hc
   case load=>
    simp only[QS]at hc;obtain⟨_,_,_,_,_,_,hc⟩:=hc;split at hc<;>cases hc
   case store=>simp[QS]at hc
   all_goals first
    | (cases hc;done)
    | (obtain⟨p,hp⟩:=RF hc;cases hp;done)
    | (obtain⟨p,hp⟩:=Q5 (fun _ h=>RF h) hc;cases hp;done)
    | (obtain⟨p,hp⟩:=Q5 (fun _ h=>Q5 (fun _ h=>RF h) h) hc;cases hp;done)
    | (obtain⟨p,hp⟩:=Q5 (fun _ h=>Q5 (fun _ h=>Q5 (fun _ h=>RF h) h) h) hc;cases hp;done)
    | (obtain⟨p,hp⟩:=Q5 (fun _ h=>Q5 (fun _ h=>Q5 (fun _ h=>Q5 (fun _ h=>RF h) h) h) h) hc;cases hp;done)
    | (obtain⟨p,hp⟩:=Q5 (fun _ h=>Q5 (fun _ h=>Q5 (fun _ h=>acI h) h) h) hc;cases hp;done)
  obtain⟨c,fo,ho,hfo,h1,h2⟩:=hop;exact XM hcall hN ho hfo h1 h2 hd ok hz fun v w' ⟨ρ',g1,g2,g3⟩=>hK _ _ ρ' (ok.put g1 g2 g3 hd) (g2.far hnm)
 ·obtain⟨nx,v,w',g1,g2,ρ',g3,g4,g5⟩:=aaQ hc (fun f zas e=>hcl ⟨f,zas,e⟩) ok.rel ok.rs hdp hz o rfl;unfold Oper.wp;rw[g1];rcases g2 with rfl| ⟨rfl,rfl⟩
  ·exact hK _ _ ρ' (ok.put g3 g4 g5 hd) (g4.far hnm)
  ·exact hK _ _ ρ' (ok.put g3 g4 g5 hd) (g4.far hnm)
end
end Go.Ab
