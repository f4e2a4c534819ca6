/-
  ModelfunApply holds at every input of its card. Part A1.
-/
import GoSem.Core.Code
import GoSem.Core.View
import GoSem.Core.Program
import GoSem.Core.Region
import GoSem.Op.Equal
import Derived.Calls
import Derived.Laws.World
import Derived.Laws.Sem
import Derived.Below
import Derived.Laws.Slices
import Derived.Laws.Entries
import Derived.Laws.StructEq
import Derived.Laws.Cells
import Derived.Laws.CopyRow
import Derived.Laws.AppendOwn
import Derived.Orders
import Derived.LoopN
open Nat renaming add_assoc → aFZ, add_mul → aFf, add_zero → aFA, div_add_mod → aFM, le_refl → aET, le_trans → aEX, lt_of_lt_of_le → aFQ, mod_eq_of_lt → aFG, mod_lt → aFx, mul_comm → aFd, mul_le_mul_left → aFV, mul_le_mul_right → aE4, zero_add → aES
open Int renaming eq_ofNat_of_zero_le → aFy, toNat_natCast → aEY
open Bool renaming and_eq_true → aEV, false_eq_true → aFv, not_eq_true' → aFS, not_true → aMD
open List renaming length → O, all_eq_true → aFc, drop_eq_getElem_cons → aFe, drop_eq_nil_of_le → aFq, drop_zero → aFX, getElem?_eq_getElem → aE1, getElem?_map → aFw, getElem?_of_mem → aFL, getElem_mem → aFg, length_cons → aFk, length_nil → aFs, length_replicate → aFU, length_set → aFR, length_take → aFm, map_cons → aFr, mem_map → aFN, mem_of_getElem? → aE6, replicate → aER, take_of_length_le → aFi
open Option renaming bind_eq_some_iff → aEQ, map_eq_some_iff → aEU, map_some → aFK
set_option linter.all false
namespace Go.Ab
open Go
variable{news:List Value}{p:Prop}{α:Type}
theorem κ(h:p:=by kernel_rfl):p:=h
def θ{α:Sort _}(a:α):a=a:=_root_.id rfl
theorem ω(h:p:=by omega):p:=h
theorem γ(h:p:=by grind):p:=h
theorem δ(h:p:=by decide):p:=h
theorem σ(h:p:=by simp):p:=h
inductive AV where
 |any
 |und
 |v (x:Value)
 |emp
 |sl (k:Nat) (rows:List (List AV))
 |osl (k:Nat) (rows:List (List AV))
 |obx (cs:List AV)
 |agg (cs:List AV)
 |tup (vs:List AV)
 |ref (id:Nat) (sub:Option Nat) (k i j:Nat)
 |rsl (id:Nat) (sub:Option Nat) (k lo n:Nat)
 |rsc (id k lo n c:Nat)
 |ipt (cs:List AV)
 |fn (f:FuncId) (first cap:List AV)
 deriving Inhabited
abbrev I(n:Int):AV:=.v (.int .i64 n)
abbrev U(n:Int):AV:=.v (.int .u32 n)
abbrev W(n:Int):AV:=.v (.int .u64 n)
abbrev B(b:Bool):AV:=.v (.bool b)
abbrev S(x:ByteArray):AV:=.v (.string x)
inductive Ob where
 |dead
 |bx (cs:List AV)
 |ar (k:Nat) (rows:List (List AV))
 |fz (k:Nat) (rows:List (List AV))
 deriving Inhabited
abbrev aM:=Nat->AV
abbrev aj:=Nat->Ob
def upd(s:Nat->α)(d:Nat)(x:α):Nat->α:=fun i=>if i=d then x else s i
theorem cz{α}(s)(d)(x:α)(i):upd s d x i=if i=d then x else s i:=θ _
structure St where
 s:aM
 h:aj
inductive Opd where
 |t (n:Nat)
 |c (a:AV)
inductive POp where
 |mv (x:Opd)
 |pick (c a b:Opd)
 |nilck (x:Opd)
 |nilq (neq:Bool) (x:Opd)
 |bin (op:BinOp) (x y:Opd)
 |un (op:UnOp) (x:Opd)
 |cv (k:IntKind) (x:Opd)
 |cv0 (x:Opd)
 |slc (k:Nat) (x:Opd) (lo hi mx:Option Opd)
 |slcS (x:Opd) (lo hi:Option Opd)
 |fadr (off:Nat) (x:Opd)
 |fld (off k:Nat) (agg:Bool) (x:Opd)
 |iadrS (k:Nat) (x i:Opd)
 |iadrA (n k:Nat) (x i:Opd)
 |idxS (x i:Opd)
 |idxA (n k:Nat) (agg:Bool) (x i:Opd)
 |ext (i:Nat) (x:Opd)
 |len (str:Bool) (x:Opd)
 |eqc (neq:Bool) (tc:Nat) (x y:Opd)
 |capp (x:Opd)
 |mnx (isMin:Bool) (x:Opd) (ys:List Opd)
 |build (zero:List AV) (parts:List (Nat×Nat×Opd))
 |mkF (f:FuncId) (first cap:List Opd)
inductive AOp where
 |p (op:POp)
 |alloc (zero:List AV)
 |box (k:Nat) (x:Opd)
 |buildSl (k:Nat) (zero:List AV) (n:Nat) (parts:List (Nat×Opd))
 |buildC (k:Nat) (zero:List AV) (n:Nat) (parts:List (Nat×Opd))
 |mkSl (k:Nat) (zero:List AV) (bytes:Nat) (l c:Opd)
 |load (k:Nat) (agg:Bool) (x:Opd)
 |store (k:Nat) (x y:Opd)
 |app (k bytes:Nat) (x y:Opd)
 |cpy (k:Nat) (x y:Opd)
 |slcM (k:Nat) (x:Opd) (lo hi:Option Opd)
 |clr (k:Nat) (zero:List AV) (x:Opd)
 |appz (k bytes:Nat) (zero:List AV) (x n:Opd)
 |take (x:Opd)
 |call (f:Opd) (args:List Opd)
 |callC (f:Opd) (args:List Opd)
 |bad
structure COp where
 d:Option Nat
 g:Option (Nat×Bool)
 op:AOp
inductive Cmd where
 |skip
 |ops (ks:List Nat) (l:List COp)
 |dops (ks:List Nat) (l:List COp) (ps:List (Nat×Nat))
 |seq (a b:Cmd)
 |cond (c:Opd) (a b:Cmd)
 |block (id:Nat) (ks:List Nat) (a:Cmd)
 |loop (ks hs:List Nat) (a:Cmd)
 |exit (id:Nat)
 |ret
 |frz (is:List Nat) (a:Cmd)
inductive Ex where
 |normal|exit (id:Nat)|ret
inductive Rv where
 |t (n:Nat)
 |cell (n k:Nat) (agg:Bool)
abbrev j8:=FuncId->List AV->List Ob->Option (AV×List Ob)
def ev(s:aM):Opd->AV
 | .t n=>s n
 | .c a=>a
def evo(s:aM):Option Opd->Option AV
 |none=>none
 |some x=>some (ev s x)
def ke:AV->Option (List AV)
 | .agg cs=>some cs
 | .any| .und| .tup _| .osl _ _| .obx _=>none
 |a=>some [a]
def setRow(row:List AV)(j:Nat):List AV->List AV
 |[]=>row
 |c::cs=>setRow (row.set j c) (j+1) cs
def Oc(c a b:AV):Option AV:=match c with
 | .v (.bool t)=>some (if t then a else b)
 |_=>none
def Mw:AV->Option AV
 | .ref id sub k i j=>some (.ref id sub k i j)
 | .ipt cs=>some (.ipt cs)
 | .fn f a b=>some (.fn f a b)
 |_=>none
def yH(op:BinOp)(k:IntKind)(a b:Int):Option Value:=match op with
 | .add=>some (.int k (k.wrap (a+b)))
 | .sub=>some (.int k (k.wrap (a-b)))
 | .mul=>some (.int k (k.wrap (a*b)))
 | .quo=>if b=0 then none else some (.int k (k.wrap (a.tdiv b)))
 | .rem=>if b=0 then none else some (.int k (a.tmod b))
 | .and=>some (.int k (k.wrap ((BitVec.ofInt k.bits a&&&BitVec.ofInt k.bits b).toNat)))
 | .or=>some (.int k (k.wrap ((BitVec.ofInt k.bits a|||BitVec.ofInt k.bits b).toNat)))
 | .xor=>some (.int k (k.wrap ((BitVec.ofInt k.bits a^^^BitVec.ofInt k.bits b).toNat)))
 | .andNot=>some (.int k (k.wrap ((BitVec.ofInt k.bits a&&& ~~~BitVec.ofInt k.bits b).toNat)))
 | .lss=>some (.bool (decide (a<b)))
 | .leq=>some (.bool (decide (a<=b)))
 | .gtr=>some (.bool (decide (a>b)))
 | .geq=>some (.bool (decide (a≥b)))
 | .eql=>some (.bool (a==b))
 | .neq=>some (.bool (a !=b))
 |_=>none
def alO(k:IntKind)(a b:Int):Option Value:=if b<0 then none else some (.int k (k.wrap (a*2^ (min b.toNat k.bits))))
def alP(k:IntKind)(a b:Int):Option Value:=if b<0 then none else some (.int k (a.fdiv (2^ (min b.toNat k.bits))))
def ar2(op:BinOp)(a b:ByteArray):Option Value:=match op with
 | .add=>if(a.size+b.size:Nat)>IntKind.i64.max then none else some (.string (a++b))
 | .eql=>some (.bool (a.toList==b.toList))
 | .neq=>some (.bool (!(a.toList==b.toList)))
 |_=>none
def nU(op:BinOp):Value->Value->Option Value
 | .int k a,.int k' b=>match op with
  | .shl=>alO k a b
  | .shr=>alP k a b
  |op=>if k=k' then yH op k a b else none
 | .string a,.string b=>ar2 op a b
 |_,_=>none
def fK(op:BinOp):AV->AV->Option AV
 | .v a,.v b=>(nU op a b).map .v
 |_,_=>none
def RY:List AV->Option (List Int)
 |[]=>some []
 | .v (.int .i64 z)::l=>(RY l).map (z::·)
 |_=>none
def Qd(n:Bool)(tc:Nat):AV->AV->Option AV
 | .v (.bool a),.v (.bool b)=>if tc=0 then some (B (n != (a==b)))else none
 | .ref _ _ _ _ _,.v (.pointer none)=>if tc=1 then some (B n)else none
 | .v (.pointer none),.v (.pointer none)=>if tc=1 then some (B (!n))else none
 | .fn _ _ _,.v .nilFunc=>if tc=2 then some (B n)else none
 | .v .nilFunc,.v .nilFunc=>if tc=2 then some (B (!n))else none
 | .agg a,.agg b=>if 3<=tc/\O a=tc-3/\O b=tc-3 then(RY a).bind fun p=>(RY b).map fun q=>B (n != (p==q))else none
 |_,_=>none
def Gy(n:Bool):AV->Option AV
 | .sl _ (_::_)=>some (B n)
 | .rsl _ _ _ _ m=>if 0<m then some (B n)else none
 |_=>none
def YM(op:UnOp):AV->Option AV
 | .v (.int k n)=>match op with
  | .neg=>some (.v (.int k (k.wrap (0-n))))
  | .xor=>some (.v (.int k (k.wrap ((BitVec.ofInt k.bits (if k.signed then-1 else k.max)^^^BitVec.ofInt k.bits n).toNat))))
  |_=>none
 | .v (.bool b)=>match op with
  | .not=>some (B (!b))
  |_=>none
 |_=>none
def cvA(k:IntKind):AV->Option AV
 | .v (.int _ n)=>some (.v (.int k (k.wrap n)))
 |_=>none
def afN:AV->Option AV
 | .v (.string x)=>some (.v (.string x))
 |_=>none
def mS(d:Nat)(n:Nat):Option AV->Option Nat
 |none=>some d
 |some (.v (.int _ i))=>if 0<=i/\i<=n then some i.toNat else none
 |_=>none
def nc(n:Nat)(lo hi mx:Option AV):Option (Nat×Nat):=
 match mx with
 |none=>(mS n n hi).bind fun h=>(mS 0 h lo).bind fun l=>some (l,h)
 |some m=>(mS n n (some m)).bind fun m=>match hi with
  |none=>none
  |some hi=>(mS n m (some hi)).bind fun h=>(mS 0 h lo).bind fun l=>some (l,h)
def My:Option AV->Bool
 |some (.v (.int _ 0))=>true
 |_=>false
def YN(k id l0 n c:Nat):Option AV->Option AV->Option AV->Option AV
 |none,some hi,none=>(mS n c (some hi)).map fun r=>.rsc id k l0 r c
 |some lo,hi,none=>(nc n (some lo) hi none).map fun p=>.rsl id none k (l0+p.1) (p.2-p.1)
 |_,_,_=>none
def gA(k:Nat)(x:AV)(lo hi mx:Option AV):Option AV:=match x with
 | .emp=>(nc 0 lo hi mx).map fun _=>.emp
 | .sl k' rows=>if k'=k then(nc (O rows) lo hi mx).map fun p=>(if My mx then .emp else .sl k ((rows.drop p.1).take (p.2-p.1)))else none
 | .rsl id sub k' l0 n=>if k'=k then(nc n lo hi mx).map fun p=>(if mx.isNone then .rsl id sub k (l0+p.1) (p.2-p.1)else .any)else none
 | .rsc id k' l0 n c=>if k'=k then YN k id l0 n c lo hi mx else none
 |_=>none
def Ys(x:AV)(lo hi:Option AV):Option AV:=match x with
 | .v (.string b)=>(nc b.size lo hi none).map fun p=>.v (.string (b.extract p.1 p.2))
 |_=>none
def EV(off:Nat):AV->Option AV
 | .ref id sub k i j=>some (.ref id sub k i (j+off))
 | .ipt cs=>some (.ipt (cs.drop off))
 |_=>none
def nO(k:Nat)(agg:Bool)(cs:List AV)(off:Nat):Option AV:=
 if agg then(if off+k<=O cs then some (.agg ((cs.drop off).take k))else none)else cs[off]?
def YO(off k:Nat)(agg:Bool):AV->Option AV
 | .agg cs=>nO k agg cs off
 |_=>none
def dF(rows:List (List AV))(i:Int):Option AV:=if 0<=i then(rows[i.toNat]?).map .ipt else none
def A9(k:Nat):AV->AV->Option AV
 | .sl k' rows,.v (.int _ i)=>if k'=k then dF rows i else none
 | .rsl id sub k' lo n,.v (.int _ i)=>if k'=k then(if 0<=i/\i<n then some (.ref id sub k (lo+i.toNat) 0)else none)else none
 |_,_=>none
def JB(n k:Nat):AV->AV->Option AV
 | .ref id sub k' a j,.v (.int _ i)=>if 0<=i/\i<n then some (.ref id sub k' a (j+i.toNat*k))else none
 | .ipt cs,.v (.int _ i)=>if 0<=i/\i<n then some (.ipt (cs.drop (i.toNat*k)))else none
 |_,_=>none
def Od:AV->AV->Option AV
 | .v (.string b),.v (.int _ i)=>if 0<=i then(b[i.toNat]?).map fun x=>.v (.int .u8 x.toNat)else none
 |_,_=>none
def Oe(n k:Nat)(agg:Bool):AV->AV->Option AV
 | .agg cs,.v (.int _ i)=>if 0<=i/\i<n then nO k agg cs (i.toNat*k)else none
 |_,_=>none
def YP(i:Nat):AV->Option AV
 | .tup vs=>vs[i]?
 |_=>none
def uF(str:Bool):AV->Option AV
 | .sl _ rows=>if str then none else some (I (O rows))
 | .emp=>if str then none else some (I 0)
 | .rsl _ _ _ _ n=>if str then none else some (I n)
 | .rsc _ _ _ n _=>if str then none else some (I n)
 | .v (.string b)=>if str then some (I b.size)else none
 |_=>none
def Uh:AV->Option AV
 | .emp=>some (I 0)
 | .rsc _ _ _ _ c=>some (I c)
 |_=>none
def Ui(isMin:Bool):AV->AV->Option AV
 | .v (.int k x),.v (.int _ y)=>some (.v (.int k (if isMin then(if y<x then y else x)else(if x<y then y else x))))
 |_,_=>none
def Jb(isMin:Bool):AV->List AV->Option AV
 |a,[]=>some a
 |a,b::l=>(Ui isMin a b).bind fun c=>Jb isMin c l
def CN(zero:List AV):List (Nat×Nat×AV)->Option (List AV)
 |[]=>some zero
 | (off,k,a)::ps=>(ke a).bind fun cs=>if O cs=k/\off+k<=O zero then CN (setRow zero off cs) ps else none
def jB(s:aM):POp->Option AV
 | .mv x=>some (ev s x)
 | .pick c a b=>Oc (ev s c) (ev s a) (ev s b)
 | .nilck x=>Mw (ev s x)
 | .nilq n x=>Gy n (ev s x)
 | .bin op x y=>fK op (ev s x) (ev s y)
 | .un op x=>YM op (ev s x)
 | .cv k x=>cvA k (ev s x)
 | .cv0 x=>afN (ev s x)
 | .slc k x lo hi mx=>gA k (ev s x) (evo s lo) (evo s hi) (evo s mx)
 | .slcS x lo hi=>Ys (ev s x) (evo s lo) (evo s hi)
 | .fadr off x=>EV off (ev s x)
 | .fld off k g x=>YO off k g (ev s x)
 | .iadrS k x i=>A9 k (ev s x) (ev s i)
 | .iadrA n k x i=>JB n k (ev s x) (ev s i)
 | .idxS x i=>Od (ev s x) (ev s i)
 | .idxA n k g x i=>Oe n k g (ev s x) (ev s i)
 | .ext i x=>YP i (ev s x)
 | .len m x=>uF m (ev s x)
 | .eqc m t x y=>Qd m t (ev s x) (ev s y)
 | .capp x=>Uh (ev s x)
 | .mnx m x ys=>Jb m (ev s x) (ys.map (ev s))
 | .build z ps=>(CN z (ps.map fun p=>(p.1,p.2.1,ev s p.2.2))).map .agg
 | .mkF f a b=>some (.fn f (a.map (ev s)) (b.map (ev s)))
def aI:AV->Bool
 | .any| .v _| .emp| .sl _ _=>true
 | .fn _ a b=>a.isEmpty&&b.isEmpty
 |_=>false
def dat:AV->Bool
 | .agg cs=>cs.all aI
 |a=>aI a
def lF(K:List (Nat×Bool))(id:Nat)(sub:Option Nat):Bool:=K.any fun p=>p.1==id&& (!p.2||sub.isSome)
def vW(K:List (Nat×Bool)):AV->Bool
 | .ref id sub _ _ _=>lF K id sub
 | .rsl id sub _ _ _=>lF K id sub
 | .rsc id _ _ _ _=>lF K id none
 | .fn _ a b=>!(a.isEmpty&&b.isEmpty)
 | .agg _| .tup _| .osl _ _| .obx _=>true
 |_=>false
def Jc(K:List (Nat×Bool)):AV->Bool
 | .agg cs=>cs.any (vW K)
 | .fn _ a b=>a.any (vW K)||b.any (vW K)
 |a=>vW K a
def men(K:List (Nat×Bool)):AV->Bool
 | .tup vs=>vs.any (Jc K)
 |a=>Jc K a
def yc(K:List (Nat×Bool))(a:AV):AV:=if men K a then .any else a
def ng(K:List (Nat×Bool))(s:aM):aM:=match K with
 |[]=>s
 |K=>fun i=>yc K (s i)
inductive Sh where
 |o (k:Nat) (cs:List Sh)
 deriving Inhabited
abbrev a9:Sh:=.o 0 []
abbrev aR:Sh:=.o 2 []
mutual
def nrmL:Sh->AV->AV
 | .o 0 _,a=>a
 | .o (k+1) _,.emp=>.sl k []
 | .o (_+1) cs,.sl k' rows=>.sl k' (rows.map (fj cs))
 | .o (_+1) cs,.osl k' rows=>.sl k' (rows.map (fj cs))
 | .o (_+1) _,a=>a
def fj:List Sh->List AV->List AV
 |s::ss,a::l=>nrmL s a::fj ss l
 |_,l=>l
end
def nrmV(ss:List Sh):AV->AV
 | .agg cs=>.agg (fj ss cs)
 |a=>nrmL (ss.headD (a9)) a
def bC:List (List Sh)->List AV->List AV
 |s::ss,a::l=>nrmV s a::bC ss l
 |_,l=>l
structure FD where
 np:Nat
 rs:List (List Sh)
 res:List Rv
 body:Cmd
abbrev K:=List (Nat×Bool)
def bu(id:Nat):Bool:=decide (1000<=id/\id<2000)
abbrev R3:=AV×aj×K
def pe:AV->AV
 | .osl k r=>.sl k r
 |a=>a
def bI:AV->Bool
 | .osl _ _=>true
 |_=>false
def qh(c:AV):Bool:=bI c||aI c
def tJ(k lo n:Nat)(rows:List (List AV)):AV:=.sl k ((rows.drop lo).take n)
def zQ(cs:List AV):List (List AV):=cs.map fun c=>[pe c]
def qX(h:aj)(id k lo n:Nat):Ob->Option R3
 | .ar k' rows=>if k'=k/\lo+n<=O rows then some (tJ k lo n rows,upd h id (.fz k rows),[])else none
 | .fz k' rows=>if k'=k/\lo+n<=O rows then some (tJ k lo n rows,h,[])else none
 | .bx cs=>if k=1/\lo+n<=O cs/\cs.all qh=true then some (tJ 1 lo n (zQ cs),upd h id (.fz 1 (zQ cs)),[(id,true)])else none
 | .dead=>none
def alQ(h:aj)(id p k lo n:Nat)(cs:List AV):Option AV->Option R3
 |some (.osl k' rows)=>if k'=k/\lo+n<=O rows then some (tJ k lo n rows,upd h id (.bx (cs.set p (.sl k' rows))),[(id,true)])else none
 |_=>none
def Mz(h:aj)(id p k lo n:Nat):Ob->Option R3
 | .bx cs=>alQ h id p k lo n cs cs[p]?
 |_=>none
def iJ(h:aj):AV->Option R3
 | .rsl id none k lo n=>qX h id k lo n (h id)
 | .rsl id (some p) k lo n=>Mz h id p k lo n (h id)
 |a=>if aI a then some (a,h,[])else none
def kX(h:aj):List AV->Option (List AV×aj×K)
 |[]=>some ([],h,[])
 |a::l=>(iJ h a).bind fun p=>(kX p.2.1 l).bind fun q=>some (p.1::q.1,q.2.1,p.2.2++q.2.2)
def Av(h:aj):AV->Option R3
 | .agg cs=>(kX h cs).bind fun p=>some (.agg p.1,p.2)
 |a=>iJ h a
def Fe:Ob->Option (Nat×List (List AV))
 | .ar k rows=>some (k,rows)
 | .fz k rows=>some (k,rows)
 |_=>none
def BA:Option AV->Option (Nat×List (List AV))
 |some (.osl k rows)=>some (k,rows)
 |_=>none
def ni(p:Nat):Ob->Option (Nat×List (List AV))
 | .bx cs=>BA cs[p]?
 |_=>none
def CO(h:aj)(id:Nat):Option Nat->Option (Nat×List (List AV))
 |none=>Fe (h id)
 |some p=>ni p (h id)
def EW(id p:Nat):AV->AV
 | .osl k rows=>.rsl id (some p) k 0 (O rows)
 |a=>a
def Kz(h:aj)(id p k:Nat)(agg:Bool)(cs:List AV):Option R3:=
 if agg then
  (if p+k<=O cs then
   (if((cs.drop p).take k).any bI then some (.agg (((cs.map pe).drop p).take k),upd h id (.bx (cs.map pe)),[(id,true)])
    else some (.agg ((cs.drop p).take k),h,[]))
   else none)
 else(cs[p]?).map fun c=>(EW id p c,h,[])
def sE(h:aj)(k:Nat)(agg:Bool)(k0 i j:Nat):Option (Nat×List (List AV))->Option R3
 |some (k',rows)=>if k'=k0 then(rows[i]?).bind fun row=>(nO k agg row j).map fun a=>(a,h,[])else none
 |none=>none
def EX(h:aj)(k:Nat)(agg:Bool)(id k0 i j:Nat):Ob->Option R3
 | .bx cs=>Kz h id (i*k0+j) k agg cs
 | .ar k' rows=>sE h k agg k0 i j (some (k',rows))
 | .fz k' rows=>sE h k agg k0 i j (some (k',rows))
 | .dead=>none
def kY(h:aj)(k:Nat)(agg:Bool):AV->Option R3
 | .ipt cs=>(nO k agg cs 0).map fun a=>(a,h,[])
 | .ref id none k0 i j=>EX h k agg id k0 i j (h id)
 | .ref id (some p) k0 i j=>sE h k agg k0 i j (ni p (h id))
 |_=>none
def V9(h:aj)(id k lo n:Nat):Ob->Option R3
 | .ar k' rows=>if k'=k then(if lo=0/\n=O rows then some (.osl k rows,upd h id .dead,[(id,false)])else if lo=0/\n<=O rows then some (.osl k (rows.take n),upd h id .dead,[(id,false)])else qX h id k lo n (.ar k' rows))else none
 |o=>qX h id k lo n o
def inP(h:aj)(a:AV):Ob->Option R3
 | .bx _=>some (a,h,[])
 |_=>none
def LS(h:aj)(a:AV):Option R3:=match a with
 | .rsl id none k lo n=>V9 h id k lo n (h id)
 | .rsl id (some p) k lo n=>Mz h id p k lo n (h id)
 | .ref id none _ _ _=>inP h a (h id)
 | .fn _ x y=>if x.all aI&&y.all aI then some (a,h,[])else none
 |a=>if aI a then some (a,h,[])else none
def Qe(h:aj)(id p:Nat)(x:AV)(ks:K):Ob->Option (aj×K)
 | .bx cs=>if p<O cs then some (upd h id (.bx (cs.set p x)),ks++(if(cs[p]?).any bI then [(id,true)]else []))else none
 |_=>none
def Gz(ks:K)(xs:List AV):List AV:=match ks with
 |[]=>xs
 |ks=>xs.map (yc ks)
def wN(h:aj)(id p:Nat):Nat->List AV->Option (aj×K)
 |_,[]=>some (h,[])
 |0,_=>none
 |n+1,x::xs=>(LS h x).bind fun r=>(Qe r.2.1 id p r.1 r.2.2 (r.2.1 id)).bind fun q=>(wN q.1 id (p+1) n (Gz q.2 xs)).bind fun t=>some (t.1,q.2++t.2)
def vX(k k0 i j:Nat)(cs:List AV)(k':Nat)(rows:List (List AV)):Option (List (List AV)):=
 if k'=k0 then(rows[i]?).bind fun row=>if j+k<=O row then some (rows.set i (setRow row j cs))else none else none
def afO(h:aj)(id p k k0 i j:Nat)(xs cs:List AV)(ks:K):Option AV->Option R3
 |some (.osl k' rows)=>(vX k k0 i j xs k' rows).map fun q=>(.und,upd h id (.bx (cs.set p (.osl k' q))),ks)
 |_=>none
def Uj(h:aj)(id p k:Nat)(xs cs:List AV):Option R3:=
 if p+k<=O cs then
  (if xs.all aI then some (.und,upd h id (.bx (setRow cs p xs)),if((cs.drop p).take k).any bI then [(id,true)]else [])
   else(wN h id p (O xs) xs).map fun q=>(.und,q.1,q.2))
 else none
def Uk(h:aj)(id k k0 i j:Nat)(xs:List AV)(ks:K):Ob->Option R3
 | .ar k' rows=>(vX k k0 i j xs k' rows).map fun q=>(.und,upd h id (.ar k' q),ks)
 |_=>none
def Jd(h:aj)(k id k0 i j:Nat)(xs:List AV):Ob->Option R3
 | .bx cs=>Uj h id (i*k0+j) k xs cs
 | .ar _ _=>(kX h xs).bind fun q=>Uk q.2.1 id k k0 i j q.1 q.2.2 (q.2.1 id)
 |_=>none
def Iu(h:aj)(k id p k0 i j:Nat)(xs:List AV)(ks:K):Ob->Option R3
 | .bx cs=>afO h id p k k0 i j xs cs ks cs[p]?
 |_=>none
def pC(h:aj)(k:Nat)(a x:AV):Option R3:=(ke x).bind fun xs=>
 if O xs=k then match a with
  | .ref id none k0 i j=>Jd h k id k0 i j xs (h id)
  | .ref id (some p) k0 i j=>(kX h xs).bind fun q=>Iu q.2.1 k id p k0 i j q.1 q.2.2 (q.2.1 id)
  |_=>none
 else none
def FT(h:aj)(d:Nat)(a:AV)(o:Ob)(ks:K):Ob->Option R3
 | .dead=>some (a,upd h d o,ks)
 |_=>none
def qY(h:aj)(d:Nat)(cs:List AV)(ks:K):Option R3:=FT h d (.ref d none 0 0 0) (.bx cs) ks (h d)
def Qf(id p:Nat)(xs:List AV)(r:R3):Option R3:=(wN r.2.1 id p (O xs) xs).map fun q=>(r.1,q.1,r.2.2++q.2)
def G9(h:aj)(d:Nat)(k:Nat)(x:AV):Option R3:=(ke x).bind fun xs=>if O xs=k then
 (if xs.all aI then qY h d xs []else(qY h d (aER k .any) []).bind (Qf d 0 xs))else none
def dH(h:aj)(d k:Nat)(rows:List (List AV))(n:Nat)(ks:K):Option R3:=FT h d (.rsl d none k 0 n) (.ar k rows) ks (h d)
def gB(k:Nat)(h:aj)(rows:List (List AV)):List (Nat×AV)->Option (List (List AV)×aj×K)
 |[]=>some (rows,h,[])
 | (i,a)::ps=>(ke a).bind fun cs=>if O cs=k/\i<O rows then(kX h cs).bind fun q=>(gB k q.2.1 (rows.set i q.1) ps).bind fun r=>some (r.1,r.2.1,q.2.2++r.2.2)else none
def oH(l c:AV):Option (Nat×Nat):=match l,c with
 | .v (.int .i64 l),.v (.int .i64 c)=>if 0<=l/\l<=c/\c<9223372036854775808 then some (l.toNat,c.toNat)else none
 |_,_=>none
def kN(k lo n:Nat):Option (Nat×List (List AV))->Option (List (List AV))
 |some (k',rows)=>if k'=k/\lo+n<=O rows then some ((rows.drop lo).take n)else none
 |none=>none
def zS(h:aj)(k:Nat):AV->Option (List (List AV))
 | .emp=>some []
 | .sl k' rows=>if k'=k then some rows else none
 | .rsl id sub k' lo n=>if k'=k then kN k lo n (CO h id sub)else none
 |_=>none
def Qg(h:aj)(d k bytes id k' lo n:Nat)(ys:List (List AV))(k0:Nat)(rows:List (List AV)):Option R3:=
 if k0=k/\k'=k/\lo+n+O ys<=O rows then some (.rsl id none k lo (n+O ys),upd h id (.ar k (rows.take (lo+n)++ys++rows.drop (lo+n+O ys))),[])
 else if k0=k/\k'=k/\lo=0/\n=O rows/\(n+O ys)*bytes<=140737488355328 then dH (upd h id .dead) d k (rows++ys) (n+O ys) [(id,false)]
 else none
def YQ(h:aj)(d k bytes id k' lo n:Nat)(ys:List (List AV)):Ob->Option R3
 | .ar k0 rows=>if k0=k/\k'=k/\lo=0/\n=O rows/\(id<1000\/2000<=id)/\(n+O ys)*bytes<=140737488355328 then
   some (.rsl id none k 0 (n+O ys),upd h id (.ar k (rows++ys)),[(id,false)])else Qg h d k bytes id k' lo n ys k0 rows
 |_=>none
def ar4(h:aj)(d k bytes id p k' lo n:Nat)(ys:List (List AV))(cs:List AV):Option AV->Option R3
 |some (.osl k0 rows)=>if k0=k/\k'=k/\lo=0/\n=O rows/\(n+O ys)*bytes<=140737488355328 then
   dH (upd h id (.bx (cs.set p .any))) d k (rows++ys) (n+O ys) [(id,true)]else none
 |_=>none
def alR(h:aj)(d k bytes id p k' lo n:Nat)(ys:List (List AV)):Ob->Option R3
 | .bx cs=>ar4 h d k bytes id p k' lo n ys cs cs[p]?
 |_=>none
def YR(h:aj)(d k:Nat):List (List AV)->Option R3
 |[]=>some (.emp,h,[])
 |y::ys=>dH h d k (y::ys) (O ys+1) []
def Qh(h:aj)(d k bytes:Nat)(x y:AV):Option R3:=(zS h k y).bind fun ys=>match x with
 | .emp=>if O ys*bytes<=140737488355328 then YR h d k ys else none
 | .rsl id none k' lo n=>YQ h d k bytes id k' lo n ys (h id)
 | .rsl id (some p) k' lo n=>alR h d k bytes id p k' lo n ys (h id)
 |_=>none
def YS(m:Nat):AV->AV
 | .sl k rows=>.sl k (rows.take m)
 | .rsl id sub k lo n=>.rsl id sub k lo (min m n)
 |a=>a
def YT:AV->Option Nat
 | .emp=>some 0
 | .sl _ rows=>some (O rows)
 | .rsl _ _ _ _ n=>some n
 |_=>none
def YV(h:aj)(id k k' lo n l:Nat)(ys:List (List AV)):Ob->Option R3
 | .ar k0 rows=>if k0=k/\k'=k/\lo<=O rows/\O ys=min l n then some (.v (.int .i64 (O ys)),upd h id (.ar k (rows.take lo++ys++rows.drop (lo+O ys))),[])else none
 |_=>none
def Ul(h:aj)(k:Nat)(x y:AV):Option R3:=match x with
 | .rsl id none k' lo n=>(YT y).bind fun l=>(zS h k (YS n y)).bind fun ys=>YV h id k k' lo n l ys (h id)
 |_=>none
def RZ(h:aj)(k id l0:Nat)(lo hi:Option AV):Ob->Option R3
 | .ar k0 rows=>if k0=k/\hi.isSome=true/\l0<=O rows then(nc (O rows-l0) lo hi none).map fun p=>(.rsl id none k (l0+p.1) (p.2-p.1),h,[])else none
 |_=>none
def Of(h:aj)(k:Nat)(x:AV)(lo hi:Option AV):Option R3:=match x with
 | .rsl id none k' l0 _=>if k'=k then RZ h k id l0 lo hi (h id)else none
 |_=>none
def YW(h:aj)(k id lo n:Nat)(z:List AV):Ob->Option R3
 | .ar k0 rows=>if k0=k/\lo+n<=O rows then some (.tup [],upd h id (.ar k (rows.take lo++aER n z++rows.drop (lo+n))),[])else none
 |_=>none
def Um(h:aj)(k:Nat)(z:List AV)(x:AV):Option R3:=match x with
 | .rsl id none k' lo n=>if k'=k then YW h k id lo n z (h id)else none
 |_=>none
def R1(h:aj)(d k bytes _id i m:Nat)(z:List AV):Ob->Option R3
 | .ar k0 rows=>if k0=k/\i<=O rows/\(i+m)*bytes<=140737488355328 then dH h d k (rows.take i++aER m z) (i+m) []else none
 |_=>none
def Iv(h:aj)(d k bytes:Nat)(z:List AV)(x n:AV):Option R3:=match x,n with
 | .emp,.v (.int .i64 c)=>if 0<c/\c.toNat*bytes<=140737488355328 then dH h d k (aER c.toNat z) c.toNat []else none
 | .rsc id k' lo i c,.v (.int .i64 m)=>if k'=k/\lo=0/\0<m/\c<i+m.toNat then R1 h d k bytes id i m.toNat z (h id)else none
 |_,_=>none
def Og(h:aj)(d id p:Nat)(cs:List AV):Option AV->Option R3
 |some (.osl k rows)=>dH (upd h id (.bx (cs.set p .any))) d k rows (O rows) [(id,true)]
 |some .emp=>some (.emp,h,[])
 |_=>none
def Yt(h:aj)(d id p:Nat):Ob->Option R3
 | .bx cs=>Og h d id p cs cs[p]?
 |_=>none
def R2(h:aj)(d:Nat)(x:AV):Option R3:=match x with
 | .ref id none k0 i j=>Yt h d id (i*k0+j) (h id)
 |_=>none
structure Mode where
 m:FuncId->List Nat
 sh:FuncId->List (List Sh)
 keep:FuncId->Bool
 nm:Bool
def alS:Ob->Bool
 | .ar _ _=>true
 |_=>false
def eM(h:aj)(m:Nat)(a:AV):Option R3:=match a with
 | .rsl id none _ _ _=>if m=0 then iJ h a else if m=1||alS (h id)then some (a,h,[])else none
 | .ref _ none _ _ _=>some (a,h,[])
 | .ipt _=>some (a,h,[])
 | .fn _ _ _=>some (a,h,[])
 |a=>Av h a
def cr(h:aj):List Nat->List AV->Option (List AV×aj×K)
 |_,[]=>some ([],h,[])
 |ms,a::l=>(eM h (ms.headD 0) a).bind fun p=>(cr p.2.1 ms.tail l).bind fun q=>some (p.1::q.1,q.2.1,p.2.2++q.2.2)
def ip:AV->List Nat
 | .ref id _ _ _ _=>[id]
 | .rsl id _ _ _ _=>[id]
 |_=>[]
def cF:AV->List Nat
 | .agg cs=>cs.flatMap ip
 | .fn _ a b=>a.flatMap ip++b.flatMap ip
 |a=>ip a
def bD(l:List Nat):List Nat->List Nat
 |[]=>l
 |a::r=>bD (if l.contains a then l else l++[a]) r
def mP:Ob->List Nat
 | .bx cs=>cs.flatMap cF
 |_=>[]
def bO(h:aj):Nat->List Nat->Nat->List Nat
 |0,l,_=>l
 |n+1,l,i=>match l[i]? with
  |none=>l
  |some a=>bO h n (bD l (mP (h a))) (i+1)
def bh(l:List Nat)(a:Nat):Nat:=1000+l.idxOf a
def lG(g:Nat->Nat):AV->AV
 | .ref id sub k i j=>.ref (g id) sub k i j
 | .rsl id sub k i j=>.rsl (g id) sub k i j
 |a=>a
def eG(g:Nat->Nat):AV->AV
 | .agg cs=>.agg (cs.map (lG g))
 | .fn f a b=>.fn f (a.map (lG g)) (b.map (lG g))
 |a=>lG g a
def Je(g:Nat->Nat):AV->AV
 | .tup vs=>.tup (vs.map (eG g))
 |a=>eG g a
def eP(g:Nat->Nat):Ob->Ob
 | .bx cs=>.bx (cs.map (eG g))
 |o=>o
def bA(l:List Nat):AV->Bool
 | .ref id sub _ _ _=>l.contains id&&sub.isNone
 | .rsl id sub _ _ _=>l.contains id&&sub.isNone
 | .rsc _ _ _ _ _=>false
 | .fn _ a b=>a.isEmpty&&b.isEmpty
 | .agg _| .tup _| .osl _ _| .obx _=>false
 |_=>true
def be(l:List Nat):AV->Bool
 | .agg cs=>cs.all (bA l)
 | .fn _ a b=>a.all (bA l)&&b.all (bA l)
 |a=>bA l a
def mh(l:List Nat)(c:AV):Bool:=bI c||be l c
def aE(l:List Nat):Ob->Bool
 | .bx cs=>cs.all (mh l)
 |_=>true
def az(hs:List Ob):aj:=fun i=>if 1000<=i then(hs[i-1000]?).getD .dead else .dead
def eS(n:Nat)(h:aj):AV->AV×aj
 | .osl k rows=>(.rsl n none k 0 (O rows),upd h n (.ar k rows))
 | .obx cs=>(.ref n none 0 0 0,upd h n (.bx cs))
 |a=>(a,h)
def dB(n:Nat)(h:aj):List AV->List AV×aj
 |[]=>([],h)
 |a::l=>((eS n h a).1::(dB (n+1) (eS n h a).2 l).1,(dB (n+1) (eS n h a).2 l).2)
def mat(n:Nat)(h:aj):AV->AV×aj
 | .tup vs=>(.tup (dB n h vs).1,(dB n h vs).2)
 |a=>eS n h a
def vY:List Nat->List AV->K
 |_,[]=>[]
 |ms,a::l=>(if ms.headD 0=2 then(ip a).map (·,false)else [])++vY ms.tail l
def ie(h:aj):K->aj
 |[]=>h
 |p::l=>ie (upd h p.1 .dead) l
def bS:Ob->Bool
 | .dead=>true
 |_=>false
def bV(h:aj)(n:Nat):Nat->Bool
 |0=>true
 |m+1=>bS (h n)&&bV h (n+1) m
def cV:AV->Nat
 | .tup vs=>O vs
 |_=>1
def bf:Ob->Bool
 | .bx _=>true
 | .fz _ _=>true
 |_=>false
def dk(h:aj)(gv:K):List Nat->List Ob->Bool
 |a::l,o::r=>(!bf (h a)||bf o)&& (gv.any (·.1==a)||!bS o)&&dk h gv l r
 |_,_=>true
def dJ(n:Nat):List Nat:=List.range' 1000 n
def CP(h:aj)(gv:K):Bool:=gv.all fun p=>!bf (h p.1)
def gR(l:List Nat):AV->Bool
 | .osl _ _=>true
 | .obx cs=>cs.all qh
 |c=>be l c
def kZ(l:List Nat):AV->Bool
 | .tup vs=>vs.all (gR l)
 |c=>gR l c
def eW(ids:List Nat)(i:Nat):Nat:=if i<2000 then ids.getD (i-1000) 0 else i
def fw(h:aj)(ids:List Nat):List Nat->List Ob->aj
 |a::l,o::r=>fw (upd h a (eP (eW ids) o)) ids l r
 |_,_=>h
def Iw(ids:List Nat)(gv:K):List Nat:=match gv with
 |[]=>dJ (O ids)
 |gv=>(dJ (O ids)).filter fun i=>!gv.any fun p=>p.1==eW ids i
def nP(h:aj)(ids:List Nat)(gv:K)(r:AV×List Ob):Bool:=CP h gv&& (kZ (Iw ids gv) r.1&&r.2.all (aE (Iw ids gv)))
def fG(kp:Bool)(h:aj)(d:Nat)(ids:List Nat)(ks gv:K)(r:AV×List Ob):Option R3:=
 if O r.2=O ids/\O ids<=1000/\cV r.1<=8/\bV h (2000+8*d) (cV r.1)=true/\dk h gv ids r.2=true/\nP h ids gv r=true then
  some (Je (eW ids) (mat (2000+8*d) (ie (fw h ids ids r.2) gv) r.1).1,(mat (2000+8*d) (ie (fw h ids ids r.2) gv) r.1).2,ks++((if kp then []else ids.map (·,true))++gv))
 else none
def lg(call:j8)(md:Mode)(h:aj)(d:Nat)(f:FuncId)(ids:List Nat)(args:List AV)(ks:K):Option R3:=
 if args.all (be ids)&& (ids.all fun a=>aE ids (h a)&&!bS (h a))then
  (call f (args.map (eG (bh ids))) (ids.map fun a=>eP (bh ids) (h a))).bind (fG (md.keep f) h d ids ks (vY (md.m f) args))
 else none
def eU(call:j8)(md:Mode)(h:aj)(d:Nat)(args:List AV):AV->Option R3
 | .fn f a b=>(cr h (md.m f) (a++args++b)).bind fun p=>lg call md p.2.1 d f (bO p.2.1 40 (bD [] (p.1.flatMap cF)) 0) (bC (md.sh f) p.1) p.2.2
 |_=>none
def afP(h:aj):AV->Option AV
 | .rsl id sub k lo n=>(kN k lo n (CO h id sub)).map (.sl k)
 | .v x=>some (.v x)
 | .emp=>some .emp
 | .sl k r=>some (.sl k r)
 | .fn f [] []=>some (.fn f [] [])
 |_=>none
def Un(h:aj):List AV->Option (List AV)
 |[]=>some []
 |a::l=>(afP h a).bind fun b=>(Un h l).bind fun q=>some (b::q)
def CQ:AV->Bool
 | .v _=>true
 |_=>false
def MA:AV->Bool
 | .tup vs=>vs.all CQ
 |a=>CQ a
def YX(h:aj):AV×List Ob->Option R3
 | (r,[])=>if MA r=true then some (r,h,[])else none
 |_=>none
def R4:AV->Bool
 | .rsl _ _ _ _ _=>false
 | .rsc _ _ _ _ _=>false
 |_=>true
def lH(md:Mode)(args:List AV):AV->Bool
 | .fn f a b=>(md.m f).contains 3&& (a++args++b).any fun x=>!R4 x
 |_=>false
def R5(call:j8)(md:Mode)(h:aj)(args:List AV):AV->Option R3
 | .fn f a b=>(Un h (a++args++b)).bind fun zas=>(call f (bC (md.sh f) zas) []).bind (YX h)
 |_=>none
def bF(call:j8)(md:Mode)(h:aj)(d:Nat)(args:List AV)(f:AV):Option R3:=if lH md args f=true then R5 call md h args f else eU call md h d args f
def CR(d:Nat)(r:R3):Option R3:=match r.1 with
 | .rsl id none k lo n=>if id=2000+8*d then(iJ r.2.1 (.rsl id none k lo n)).map fun q=>(q.1,q.2.1,r.2.2++q.2.2)else none
 |_=>some r
def Ix(r:R3):Option R3:=match r.1 with
 | .rsl id none k lo n=>(iJ r.2.1 (.rsl id none k lo n)).map fun q=>(q.1,q.2.1,r.2.2++q.2.2)
 |_=>none
def Ha(h:aj)(x:Option AV):Option R3:=x.map fun a=>(a,h,[])
def step(call:j8)(md:Mode)(d:Nat)(op:AOp)(s:aM)(h:aj):Option R3:=
 match op with
 | .p op=>Ha h (jB s op)
 | .alloc z=>qY h d z []
 | .box k x=>G9 h d k (ev s x)
 | .buildSl k z n ps=>(gB k h (aER n z) (ps.map fun p=>(p.1,ev s p.2))).bind fun q=>dH q.2.1 d k q.1 n q.2.2
 | .buildC k z n ps=>((gB k h (aER n z) (ps.map fun p=>(p.1,ev s p.2))).bind fun q=>dH q.2.1 d k q.1 n q.2.2).bind Ix
 | .mkSl k z b l c=>(oH (ev s l) (ev s c)).bind fun p=>
  if p.2*b<=140737488355328 then dH h d k (aER p.1 z) p.1 []else none
 | .load k g x=>kY h k g (ev s x)
 | .store k x y=>pC h k (ev s x) (ev s y)
 | .app k b x y=>Qh h d k b (ev s x) (ev s y)
 | .cpy k x y=>Ul h k (ev s x) (ev s y)
 | .slcM k x lo hi=>Of h k (ev s x) (evo s lo) (evo s hi)
 | .clr k z x=>Um h k z (ev s x)
 | .appz k b z x n=>Iv h d k b z (ev s x) (ev s n)
 | .take x=>R2 h d (ev s x)
 | .call f args=>bF call md h d (args.map (ev s)) (ev s f)
 | .callC f args=>(bF call md h d (args.map (ev s)) (ev s f)).bind (CR d)
 | .bad=>none
def iK(s:aM)(d:Option Nat)(x:AV):aM:=match d with
 |some d=>upd s d x
 |none=>s
def vZ(nm:Bool)(ks:K):Bool:=!nm||ks.all fun p=>!bu p.1
def eH(nm:Bool)(s:aM)(d:Option Nat)(r:Option R3):Option St:=match r with
 |some (x,h,ks)=>if vZ nm ks then some ⟨iK (ng ks s) d x,h⟩else none
 |none=>none
def oI(d:Option Nat)(want:Bool)(st:Option St)(s:aM)(h:aj):AV->Option St
 | .v (.bool b)=>if b=want then st else some ⟨iK s d .und,h⟩
 | .und=>some ⟨iK s d .und,h⟩
 |_=>none
def qi(call:j8)(md:Mode)(o:COp)(s:aM)(h:aj):Option St:=match o.g with
 |none=>eH md.nm s o.d (step call md (o.d.getD 0) o.op s h)
 |some g=>oI o.d g.2 (eH md.nm s o.d (step call md (o.d.getD 0) o.op s h)) s h (s g.1)
def bG{β:Type}(x:Option St)(f:aM->aj->Option β):Option β:=match x with
 |none=>none
 |some t=>f t.s t.h
def aK(call:j8)(md:Mode):List COp->aM->aj->Option St
 |[],s,h=>some ⟨s,h⟩
 |o::rest,s,h=>bG (qi call md o s h) (aK call md rest)
def jH:Opd->List Nat
 | .t n=>[n]
 | .c _=>[]
def uk(l:List Opd):List Nat:=l.flatMap jH
def R6:POp->List Nat
 | .mv x| .nilck x| .nilq _ x| .un _ x| .cv _ x| .cv0 x| .fadr _ x| .fld _ _ _ x| .ext _ x| .len _ x| .capp x=>jH x
 | .pick c a b=>jH c++(jH a++jH b)
 | .bin _ x y| .eqc _ _ x y| .iadrS _ x y| .iadrA _ _ x y| .idxS x y| .idxA _ _ _ x y=>jH x++jH y
 | .mnx _ x ys=>jH x++uk ys
 | .slc _ x lo hi mx=>jH x++(uk lo.toList++(uk hi.toList++uk mx.toList))
 | .slcS x lo hi=>jH x++(uk lo.toList++uk hi.toList)
 | .build _ ps=>ps.flatMap fun p=>jH p.2.2
 | .mkF _ a b=>uk a++uk b
def R7:AOp->List Nat
 | .p op=>R6 op
 | .alloc _=>[]
 | .box _ x=>jH x
 | .buildSl _ _ _ ps=>ps.flatMap fun p=>jH p.2
 | .buildC _ _ _ ps=>ps.flatMap fun p=>jH p.2
 | .mkSl _ _ _ l c=>jH l++jH c
 | .load _ _ x=>jH x
 | .store _ x y=>jH x++jH y
 | .app _ _ x y=>jH x++jH y
 | .cpy _ x y=>jH x++jH y
 | .slcM _ x lo hi=>jH x++(uk lo.toList++uk hi.toList)
 | .clr _ _ x=>jH x
 | .appz _ _ _ x n=>jH x++jH n
 | .take x=>jH x
 | .call f args=>jH f++uk args
 | .callC f args=>jH f++uk args
 | .bad=>[]
def pF(o:COp):List Nat:=(match o.g with|some g=>[g.1]|none=>[])++R7 o.op
def GA(a b:COp):Bool:=
 (match a.d with|some d=>!(pF b).contains d|none=>true)&& (match b.d with|some d=>!(pF a).contains d|none=>true)&&
 (match a.d,b.d with|some x,some y=>x !=y|_,_=>true)
abbrev Fp:=Option (List Nat×List Nat)
def du(i:Nat):Nat:=if i<2000 then i else i-i%8
def wO:AV->Bool
 | .rsl _ _ _ _ _=>false
 | .rsc _ _ _ _ _=>false
 |_=>true
def CS:AV->Bool
 | .agg cs=>cs.all wO
 | .fn _ a b=>a.all wO&&b.all wO
 |a=>wO a
def yI:AV->Fp
 | .ipt _=>some ([],[])
 | .ref id _ _ _ _=>some ([du id],[])
 |_=>none
def EY(y:AV):AV->Fp
 | .ref id _ _ _ _=>if dat y then some ([du id],[du id])else none
 |_=>none
def YY:Value->Value->Bool
 | .int k a,.int k' b=>decide (k=k')&&decide (a=b)
 | .bool a,.bool b=>a==b
 | .string a,.string b=>decide (a.data.toList=b.data.toList)
 | .pointer none,.pointer none=>true
 | .nilFunc,.nilFunc=>true
 |_,_=>false
mutual
def YZ:AV->AV->Bool
 | .any,.any=>true
 | .und,.und=>true
 | .emp,.emp=>true
 | .v a,.v b=>YY a b
 | .sl k r,.sl k' r'=>decide (k=k')&&LT r r'
 | .osl k r,.osl k' r'=>decide (k=k')&&LT r r'
 | .obx c,.obx c'=>DQ c c'
 | .agg c,.agg c'=>DQ c c'
 | .ref a b c d e,.ref a' b' c' d' e'=>decide (a=a'/\b=b'/\c=c'/\d=d'/\e=e')
 | .rsl a b c d e,.rsl a' b' c' d' e'=>decide (a=a'/\b=b'/\c=c'/\d=d'/\e=e')
 | .ipt c,.ipt c'=>DQ c c'
 | .fn f a b,.fn f' a' b'=>decide (f=f')&& (DQ a a'&&DQ b b')
 |_,_=>false
def DQ:List AV->List AV->Bool
 |[],[]=>true
 |a::l,b::r=>YZ a b&&DQ l r
 |_,_=>false
def LT:List (List AV)->List (List AV)->Bool
 |[],[]=>true
 |a::l,b::r=>DQ a b&&LT l r
 |_,_=>false
end
def Oh:Ob->Ob->Bool
 | .dead,.dead=>true
 | .bx c,.bx c'=>DQ c c'
 | .ar k r,.ar k' r'=>decide (k=k')&&LT r r'
 | .fz k r,.fz k' r'=>decide (k=k')&&LT r r'
 |_,_=>false
def Ff(h h':aj)(ids:List Nat):List Nat:=ids.filter fun a=>!Oh (h a) (h' a)
def hF(h:aj)(d:Nat)(l:List AV)(h':aj):Fp:=
 if l.all dat then some ([],[2000+8*d])
 else if l.all CS then some ((bO h 40 (bD [] (l.flatMap cF)) 0).map du,(Ff h h' (bO h 40 (bD [] (l.flatMap cF)) 0)).map du++[2000+8*d])
 else none
def sF(l:List AV):AV->List AV
 | .fn _ a b=>a++l++b
 |_=>l
def MB(d:Nat)(_h:aj)(l:List AV):Fp:=if l.all dat then some ([],[2000+8*d])else none
def jl(d:Nat)(op:AOp)(s:aM)(h h':aj):Fp:=match op with
 | .p _=>some ([],[])
 | .alloc _=>some ([],[du d])
 | .box _ x=>if dat (ev s x)then some ([],[du d])else none
 | .buildSl _ _ _ ps=>if ps.all fun p=>dat (ev s p.2)then some ([],[du d])else none
 | .buildC _ _ _ ps=>if ps.all fun p=>dat (ev s p.2)then some ([],[du d])else none
 | .mkSl _ _ _ _ _=>some ([],[du d])
 | .load _ _ x=>yI (ev s x)
 | .store _ x y=>EY (ev s y) (ev s x)
 | .app _ _ _ _=>none
 | .cpy _ _ _=>none
 | .slcM _ _ _ _=>none
 | .clr _ _ _=>none
 | .appz _ _ _ _ _=>none
 | .take _=>none
 | .call f args=>hF h d (sF (args.map (ev s)) (ev s f)) h'
 | .callC f args=>MB d h (sF (args.map (ev s)) (ev s f))
 | .bad=>none
def nV(a b:List Nat):Bool:=a.all fun x=>!b.contains x
def mj:Fp->Fp->Bool
 |none,none=>false
 |none,some b=>b.1.isEmpty&&b.2.isEmpty
 |some a,none=>a.1.isEmpty&&a.2.isEmpty
 |some a,some b=>nV a.2 (b.1++b.2)&&nV b.2 a.1
def rJ(s:aM)(d:Option Nat)(f:aj->Fp)(r:Option R3):Option (St×Fp):=match r with
 |some (x,h,[])=>some (⟨iK s d x,h⟩,f h)
 |_=>none
def v9(d:Option Nat)(want:Bool)(st:Option (St×Fp))(s:aM)(h:aj):AV->Option (St×Fp)
 | .v (.bool b)=>if b=want then st else some (⟨iK s d .und,h⟩,some ([],[]))
 | .und=>some (⟨iK s d .und,h⟩,some ([],[]))
 |_=>none
def gp(call:j8)(md:Mode)(o:COp)(s:aM)(h:aj):Option (St×Fp):=match o.g with
 |none=>rJ s o.d (jl (o.d.getD 0) o.op s h) (step call md (o.d.getD 0) o.op s h)
 |some g=>v9 o.d g.2 (rJ s o.d (jl (o.d.getD 0) o.op s h) (step call md (o.d.getD 0) o.op s h)) s h (s g.1)
def kf(call:j8)(md:Mode):List COp->aM->aj->Option (St×List Fp)
 |[],s,h=>some (⟨s,h⟩,[])
 |o::rest,s,h=>(gp call md o s h).bind fun r=>(kf call md rest r.1.s r.1.h).bind fun q=>some (q.1,r.2::q.2)
def isP:AOp->Bool
 | .p _=>true
 |_=>false
def Y0:AOp->Bool
 | .load _ _ _=>true
 |_=>false
def B8(l:List Fp)(p:Nat×Nat):Bool:=match l[p.1]?,l[p.2]? with
 |some a,some b=>mj a b
 |_,_=>false
def Fg(call:j8)(md:Mode)(l:List COp)(ps:List (Nat×Nat))(s:aM)(h:aj):Option St:=
 (kf call md l s h).bind fun r=>if ps.all (B8 r.2)then some r.1 else none
def R8(i:Nat)(s:aM)(h:aj)(id p k lo n:Nat)(cs:List AV):Option AV->Option (aM×aj×K)
 |some (.osl k' rows)=>if k'=k/\lo=0/\n=O rows/\bS (h i)=true then
   some (upd (ng [(id,true)] s) i (.rsl i none k 0 n),upd (upd h id (.bx (cs.set p .any))) i (.ar k rows),[(id,true)])else none
 |_=>none
def ghO(i:Nat)(s:aM)(h:aj)(id p k lo n:Nat):Ob->Option (aM×aj×K)
 | .bx cs=>R8 i s h id p k lo n cs cs[p]?
 |_=>none
def Wa(i:Nat)(s:aM)(h:aj):AV->Option (aM×aj×K)
 | .rsl id (some p) k lo n=>if bu i=false then ghO i s h id p k lo n (h id)else none
 | .emp=>some (s,h,[])
 |_=>none
def ye(nm:Bool)(g:Nat)(s:aM)(h:aj):Option St:=match g with
 |0=>some ⟨s,h⟩
 |i+1=>(Wa i s h (s i)).bind fun r=>if vZ nm r.2.2 then some ⟨r.1,r.2.1⟩else none
def KA(call:j8)(md:Mode)(l:List COp)(m g:Nat)(ps:List (Nat×Nat))(s:aM)(h:aj):Option St:=
 (kf call md (l.take m) s h).bind fun r=>if ps.all (B8 r.2)then bG (ye md.nm g r.1.s r.1.h) (aK call md (l.drop m))else none
def EZ:List (Nat×Nat)->Option (Nat×Nat)
 | (p,g)::_=>if 1000000<=p then some (p-1000000,g)else none
 |[]=>none
def we(call:j8)(md:Mode)(l:List COp)(ps:List (Nat×Nat))(s:aM)(h:aj):Option St:=match EZ ps with
 |some q=>KA call md l q.1 q.2 ps.tail s h
 |none=>Fg call md l ps s h
def mk{α}(d:α)(f:Nat->α):List Nat->Nat->α
 |[]=>fun _=>d
 |i::l=>upd (mk d f l) i (f i)
def knownL(l:List Nat):AV->Bool
 | .ref id _ _ _ _=>l.contains id
 | .rsl id _ _ _ _=>l.contains id
 | .rsc _ _ _ _ _=>false
 | .fn _ a b=>a.isEmpty&&b.isEmpty
 | .agg _| .tup _| .osl _ _| .obx _=>false
 |_=>true
def knownA(l:List Nat):AV->Bool
 | .agg cs=>cs.all (knownL l)
 | .fn _ a b=>a.all (knownL l)&&b.all (knownL l)
 |a=>knownL l a
def jn(hs:List Nat)(a:AV):AV:=if knownA hs a then a else .any
def xS(body:aM->aj->Option (Ex×St))(ks hs:List Nat):Nat->aM->aj->Option (Ex×St)
 |0,_,_=>none
 |n+1,s,h=>if hs.all fun a=>aE hs (h a)then(match body (mk .any (fun i=>jn hs (s i)) ks) (mk .dead h hs)with
  |some (.normal,t)=>xS body ks hs n t.s t.h
  |r=>r)else none
def dx(x:Option (Ex×St))(f:aM->aj->Option (Ex×St)):Option (Ex×St):=match x with
 |none=>none
 |some (.normal,t)=>f t.s t.h
 |some (.exit i,t)=>some (.exit i,t)
 |some (.ret,t)=>some (.ret,t)
def Uo(i:Nat)(s:aM)(h:aj):AV->Option (aM×aj×K)
 | .rsl id sub k lo n=>(iJ h (.rsl id sub k lo n)).map fun r=>(upd (ng r.2.2 s) i r.1,r.2.1,r.2.2)
 | .ref id none _ _ _=>match h id with
  | .bx cs=>some (ng [(id,true)] s,upd h id (.bx (cs.map pe)),[(id,true)])
  |_=>none
 | .sl _ _=>some (s,h,[])
 |_=>none
def KB(h:aj):AV->aj
 | .rsl id none _ lo n=>match h id with
  | .ar k rows=>upd h id (.ar k (rows.take (lo+n)))
  |_=>h
 |_=>h
def MC(i:Nat)(s:aM)(h:aj)(id k lo n:Nat):Ob->Option (aM×aj×K)
 | .ar k' rows=>if k'=k/\lo=0/\bu i=false/\bS (h i)=true then
   some (upd (ng [(id,false)] s) i (.rsl i none k 0 n),upd (upd h id .dead) i (.ar k rows),[(id,false)])else none
 |_=>none
def Up(i:Nat)(s:aM)(h:aj):AV->Option (aM×aj×K)
 | .rsl id none k lo n=>MC i s h id k lo n (h id)
 | .rsc id k lo n _=>MC i s h id k lo n (h id)
 | .emp=>some (s,h,[])
 |_=>none
def D4(nm:Bool):List Nat->aM->aj->Option St
 |[],s,h=>some ⟨s,h⟩
 |i::l,s,h=>if 200000<=i then(Up (i-200000) s h (s (i-200000))).bind fun r=>if vZ nm r.2.2 then D4 nm l r.1 r.2.1 else none else if 100000<=i then D4 nm l s (KB h (s (i-100000)))else(Uo i s h (s i)).bind fun r=>if vZ nm r.2.2 then D4 nm l r.1 r.2.1 else none
def ao(id:Nat)(ks:List Nat):Option (Ex×St)->Option (Ex×St)
 |none=>none
 |some (.normal,t)=>some (.normal,⟨mk .any t.s ks,t.h⟩)
 |some (.exit i,t)=>if i=id then some (.normal,⟨mk .any t.s ks,t.h⟩)else some (.exit i,t)
 |some (.ret,t)=>some (.ret,t)
def wh(a b:Option (Ex×St)):AV->Option (Ex×St)
 | .v (.bool t)=>if t then a else b
 |_=>none
def df(call:j8)(md:Mode)(lf:Nat):Cmd->aM->aj->Option (Ex×St)
 | .skip,s,h=>some (.normal,⟨s,h⟩)
 | .ops ks l,s,h=>bG (aK call md l s h) fun s h=>some (.normal,⟨mk .any s ks,h⟩)
 | .dops ks l ps,s,h=>bG (we call md l ps s h) fun s h=>some (.normal,⟨mk .any s ks,h⟩)
 | .seq a b,s,h=>dx (df call md lf a s h) (df call md lf b)
 | .cond c a b,s,h=>wh (df call md lf a s h) (df call md lf b s h) (ev s c)
 | .block id ks a,s,h=>ao id ks (df call md lf a s h)
 | .loop ks hs a,s,h=>xS (df call md lf a) ks hs lf s h
 | .exit id,s,h=>some (.exit id,⟨s,h⟩)
 | .ret,s,h=>some (.ret,⟨s,h⟩)
 | .frz is a,s,h=>bG (D4 md.nm is s h) (df call md lf a)
def FU(k lo n:Nat):Ob->Option AV
 | .ar k' rows=>if k'=k/\lo+n<=O rows then(if lo=0/\n=O rows then some (.osl k rows)else some (tJ k lo n rows))else none
 | .fz k' rows=>if k'=k/\lo+n<=O rows then some (tJ k lo n rows)else none
 | .bx cs=>if k=1/\lo+n<=O cs/\cs.all qh=true then some (tJ 1 lo n (zQ cs))else none
 | .dead=>none
def afQ:Ob->Option AV
 | .bx cs=>if cs.all qh then some (.obx cs)else none
 |_=>none
def ar6(k lo n:Nat):Option (Nat×List (List AV))->Option AV
 |some (k',rows)=>if k'=k/\lo+n<=O rows then some (tJ k lo n rows)else none
 |none=>none
def qk(h:aj)(a:AV):Option AV:=match a with
 | .rsl id none k lo n=>if bu id then none else FU k lo n (h id)
 | .rsl id (some p) k lo n=>if bu id then none else ar6 k lo n (ni p (h id))
 | .ref id none k i j=>if bu id then some a else if k=0/\i=0/\j=0 then afQ (h id)else none
 |a=>if aI a then some a else none
def FV:AV->Option AV
 | .osl k rows=>some (.sl k rows)
 |a=>if aI a then some a else none
def qp(h:aj):List AV->Option (List AV)
 |[]=>some []
 |a::l=>(qk h a).bind fun b=>(FV b).bind fun c=>(qp h l).bind fun q=>some (c::q)
def wj(h:aj):AV->Option AV
 | .agg cs=>(qp h cs).map .agg
 |a=>qk h a
def yf(h:aj):List AV->Option (List AV)
 |[]=>some []
 |a::l=>(wj h a).bind fun b=>(yf h l).bind fun q=>some (b::q)
def mT:List Nat->Bool
 |[]=>true
 |a::l=>!l.contains a&&mT l
def zT:List AV->AV
 |[a]=>a
 |l=>.tup l
def Y3(ks:K)(a:AV):AV:=match ks with
 |[]=>a
 |ks=>yc ks a
def ar7(s:aM)(h:aj):Rv->Option R3
 | .t n=>some (s n,h,[])
 | .cell n k g=>kY h k g (s n)
def E3(s:aM)(h:aj):List Rv->Option (List AV×aj×K)
 |[]=>some ([],h,[])
 |r::l=>(ar7 s h r).bind fun p=>(E3 (ng p.2.2 s) p.2.1 l).bind fun q=>some (Y3 q.2.2 p.1::q.1,q.2.1,p.2.2++q.2.2)
def xT(rs:List (List Sh))(n:Nat)(h:aj)(vs:List AV):Option (AV×List Ob):=
 if mT ((vs.flatMap cF).filter fun i=>!bu i)&& ((dJ n).all fun i=>aE (dJ n) (h i))then(yf h vs).map fun us=>(zT (bC rs us),(dJ n).map h)else none
def Hb(nm:Bool)(rs:List (List Sh))(res:List Rv)(n:Nat)(s:aM)(h:aj):Option (AV×List Ob):=(E3 s h res).bind fun q=>if vZ nm q.2.2 then xT rs n q.2.1 q.1 else none
def fk(nm:Bool)(rs:List (List Sh))(res:List Rv)(n:Nat):Option (Ex×St)->Option (AV×List Ob)
 |some (.normal,t)=>Hb nm rs res n t.s t.h
 |some (.ret,t)=>Hb nm rs res n t.s t.h
 |_=>none
def iW(args:List AV):aM:=fun i=>(args[i]?).getD .any
def MD(call:j8)(md:Mode)(lf:Nat)(fd:FD)(args:List AV)(hs:List Ob):Option (AV×List Ob):=
 if O args=fd.np/\O hs<=1000 then fk md.nm fd.rs fd.res (O hs) (df call md lf fd.body (iW args) (az hs))else none
structure Env where
 E:FuncId->Option (List AV->List Ob->Option (AV×List Ob))
 C:FuncId->Option FD
 md:Mode
def pf(e:Env):Nat->j8
 |0=>fun _ _ _=>none
 |n+1=>fun f args hs=>match e.E f with
  |some g=>g args hs
  |none=>(e.C f).bind fun fd=>MD (pf e n) {e.md with nm:=e.md.keep f} n fd args hs
def Y4:Value->Option AV
 | .slice none 0 0=>some .emp
 | .bool b=>some (.v (.bool b))
 | .int k n=>some (.v (.int k n))
 | .string s=>some (.v (.string s))
 | .pointer none=>some (.v (.pointer none))
 | .nilFunc=>some (.v .nilFunc)
 | .nilIface=>some (.v .nilIface)
 | .map none=>some (.v (.map none))
 |_=>none
def ME:List Value->Option (List AV)
 |[]=>some []
 |v::l=>(Y4 v).bind fun a=>(ME l).bind fun q=>some (a::q)
def di:Operand->Option Opd
 | .tmp t=>some (.t t)
 | .const v=>(Y4 v).map .c
 | .func f=>some (.c (.fn f [] []))
 | .global _=>some (.c .any)
def wk:List Operand->Option (List Opd)
 |[]=>some []
 |v::l=>(di v).bind fun a=>(wk l).bind fun q=>some (a::q)
def Iy:Option Operand->Option (Option Opd)
 |none=>some none
 |some x=>(di x).map some
def xU(P:Program)(t:TypeId):Option Bool:=match P.underlying t with
 |some (.struct _)=>some true
 |some (.array _ _)=>some true
 |some _=>some false
 |none=>none
def bQ(P:Program)(t:TypeId):Option Nat:=(P.info? t).map (·.size)
def wQ(P:Program)(t:TypeId):Option Nat:=(P.info? t).map (·.bytes)
def oJ(P:Program)(t:TypeId):Option (List AV):=(P.info? t).bind fun i=>i.zero.bind fun z=>if z.cells.size=i.size then ME z.cells.toList else none
def Bp(P:Program)(t:TypeId):Option TypeId:=match P.underlying t with
 |some (.slice e)=>some e
 |_=>none
def JC(P:Program)(t:TypeId)(f:Nat):Option Field:=match P.underlying t with
 |some (.struct fs)=>fs[f]?
 |_=>none
def Jf:BinOp->Option Bool
 | .eql=>some false
 | .neq=>some true
 |_=>none
def Oi(P:Program)(g:TypeId->Option Nat):List Field->Nat->Option Nat
 |[],o=>some o
 |f::fs,o=>if f.name≠ "_" /\f.offset=o then(g f.type).bind fun k=>if bQ P f.type=some k then Oi P g fs (o+k)else none else none
def CT(P:Program)(b:Bool):Nat->TypeId->Option Nat
 |0,_=>none
 |d+1,t=>match P.underlying t with
  |some (.int .i64)=>some 1
  |some (.struct fs)=>if(b&&P.stoodInHeld t)=true then none else Oi P (CT P b d) fs.toList 0
  |_=>none
def ar8(P:Program)(op:BinOp)(t:TypeId)(x y:Opd):Option POp:=match P.underlying t with
 |some .bool=>(Jf op).map fun n=>.eqc n 0 x y
 |some (.pointer _)=>(Jf op).map fun n=>.eqc n 1 x y
 |some (.func _ _ _)=>(Jf op).map fun n=>.eqc n 2 x y
 |some (.int _)=>some (.bin op x y)
 |some .string=>some (.bin op x y)
 |some (.slice _)=>(match y with| .c .emp=>(Jf op).map fun n=>.nilq n x|_=>none)
 |some (.struct _)=>(CT P true 3 t).bind fun k=>(Jf op).map fun n=>.eqc n (3+k) x y
 |_=>none
def aoC(P:Program)(src dst:TypeId)(x:Opd):Option POp:=match P.underlying src,P.underlying dst with
 |some (.int _),some (.int k)=>some (.cv k x)
 |some .string,some .string=>some (.cv0 x)
 |_,_=>none
def ain(P:Program)(t:TypeId)(x:Opd)(lo hi mx:Option Opd):Option POp:=match P.underlying t with
 |some (.slice e)=>(bQ P e).map fun k=>.slc k x lo hi mx
 |some .string=>match mx with
  |none=>some (.slcS x lo hi)
  |some _=>none
 |_=>none
def aoD(P:Program)(t:TypeId)(x i:Opd):Option POp:=match P.underlying t with
 |some (.slice e)=>(bQ P e).map fun k=>.iadrS k x i
 |some (.array n e)=>(bQ P e).map fun k=>.iadrA n k x i
 |_=>none
def ar9(P:Program)(t:TypeId)(x i:Opd):Option POp:=match P.underlying t with
 |some .string=>some (.idxS x i)
 |some (.array n e)=>(bQ P e).bind fun k=>(xU P e).map fun g=>.idxA n k g x i
 |_=>none
def asa(P:Program)(t:TypeId)(x:Opd):Option POp:=match P.underlying t with
 |some (.slice _)=>some (.len false x)
 |some .string=>some (.len true x)
 |some (.array n _)=>some (.mv (.c (I n)))
 |_=>none
def asb(P:Program)(t:TypeId)(x:Opd):Option POp:=match P.underlying t with
 |some (.slice _)=>some (.capp x)
 |_=>none
def Hc(P:Program)(fs:Nat->Option (Nat×Nat)):List (Nat×Operand)->Option (List (Nat×Nat×Opd))
 |[]=>some []
 | (i,x)::l=>(fs i).bind fun p=>(di x).bind fun a=>(Hc P fs l).bind fun q=>some ((p.1,p.2,a)::q)
def JD:List (Nat×Operand)->Option (List (Nat×Opd))
 |[]=>some []
 | (i,x)::l=>(di x).bind fun a=>(JD l).bind fun q=>some ((i,a)::q)
def Oj(P:Program)(fs:Array Field)(i:Nat):Option (Nat×Nat):=(fs[i]?).bind fun f=>(bQ P f.type).map fun k=>(f.offset,k)
def Y5(P:Program)(t:TypeId)(ps:List (Nat×Operand)):Option POp:=(oJ P t).bind fun z=>match P.underlying t with
 |some (.struct fs)=>if fs.all (fun f=>(bQ P f.type).isSome)then(Hc P (Oj P fs) ps).map fun q=>.build z q else none
 |some (.array _ e)=>(bQ P e).bind fun k=>(Hc P (fun i=>some (i*k,k)) ps).map fun q=>.build z q
 |_=>none
def GU(P:Program)(t:TypeId)(n:Nat)(ps:List (Nat×Operand)):Option AOp:=(Bp P t).bind fun e=>(bQ P e).bind fun k=>
 if n*k<=16777216/\0<k then(oJ P e).bind fun z=>(JD ps).map fun q=>.buildSl k z n q else none
def Yu(P:Program)(t:TypeId)(l c:Opd):Option AOp:=(Bp P t).bind fun e=>(bQ P e).bind fun k=>(wQ P e).bind fun b=>
 if 0<k then(oJ P e).map fun z=>.mkSl k z b l c else none
def afR(P:Program)(u:TypeId):Bool:=match P.underlying u with
 |some (.int .i64)=>true
 |_=>false
def Yv(P:Program)(t:TypeId)(x y:Operand):Option AOp:=(Bp P t).bind fun e=>(bQ P e).bind fun k=>(wQ P e).bind fun b=>(di x).bind fun x=>(di y).bind fun y=>
  (oJ P e).bind fun z=>if 0<k/\0<b then some (.appz k b z x y)else none
def afS(P:Program)(ts:List TypeId)(zas:List Operand):Option AOp:=match ts,zas with
 |[t,u],[x,y]=>if afR P u=true then Yv P t x y else(Bp P t).bind fun e=>(Bp P u).bind fun _=>(bQ P e).bind fun k=>(wQ P e).bind fun b=>(di x).bind fun x=>(di y).bind fun y=>
  if 0<k/\0<b/\(oJ P e).isSome=true then some (.app k b x y)else none
 |_,_=>none
def Yw(P:Program)(ts:List TypeId)(zas:List Operand):Option AOp:=match ts,zas with
 |[t,_],[x,y]=>(Bp P t).bind fun e=>(bQ P e).bind fun k=>(di x).bind fun x=>(di y).bind fun y=>if 0<k then some (.cpy k x y)else none
 |_,_=>none
def R9(P:Program)(ts:List TypeId)(zas:List Operand):Option AOp:=match ts,zas with
 |[t],[x]=>(Bp P t).bind fun e=>(bQ P e).bind fun k=>(di x).bind fun x=>(oJ P e).bind fun z=>if 0<k then some (.clr k z x)else none
 |_,_=>none
def KC(P:Program)(b:Builtin)(ts:List TypeId)(zas:List Operand):Option AOp:=match b,ts,zas with
 | .len,t::_,[x]=>(di x).bind fun x=>(asa P t x).map .p
 | .cap,t::_,[x]=>(di x).bind fun x=>(asb P t x).map .p
 | .min,_,x::l=>(di x).bind fun x=>(wk l).map fun ys=>.p (.mnx true x ys)
 | .max,_,x::l=>(di x).bind fun x=>(wk l).map fun ys=>.p (.mnx false x ys)
 | .append,ts,zas=>afS P ts zas
 | .copy,ts,zas=>Yw P ts zas
 | .clear,ts,zas=>R9 P ts zas
 |_,_,_=>none
def Yx(P:Program)(c:Call):Option AOp:=match c.callee with
 | .builtin b=>KC P b c.argTypes.toList c.args.toList
 | .value f=>(di f).bind fun f=>(wk c.args.toList).map fun l=>.call f l
 | .invoke _ _=>none
def MF(P:Program)(op:Op):Option AOp:=match op with
 | .move x| .assign x=>(di x).map fun x=>.p (.mv x)
 | .pick c a b=>(di c).bind fun c=>(di a).bind fun a=>(di b).map fun b=>.p (.pick c a b)
 | .alloc t=>(oJ P t).map .alloc
 | .box t x=>(bQ P t).bind fun k=>(di x).map fun x=>.box k x
 | .build t ps=>(Y5 P t ps.toList).map .p
 | .buildSlice t n ps=>GU P t n ps.toList
 | .load t x=>(xU P t).bind fun g=>(bQ P t).bind fun k=>(di x).bind fun x=>if g||k==1 then some (.load k g x)else none
 | .store t x y=>(bQ P t).bind fun k=>(di x).bind fun x=>(di y).map fun y=>.store k x y
 | .nilCheck x=>(di x).map fun x=>.p (.nilck x)
 | .binOp op t x y _=>(di x).bind fun x=>(di y).bind fun y=>(ar8 P op t x y).map .p
 | .unOp op _ x=>(di x).map fun x=>.p (.un op x)
 | .convert s d x=>(di x).bind fun x=>(aoC P s d x).map .p
 | .makeFunc (.func f) a b=>(wk a.toList).bind fun a=>(wk b.toList).map fun b=>.p (.mkF f a b)
 | .makeSlice t l c=>(di l).bind fun l=>(di c).bind fun c=>Yu P t l c
 | .slice t x lo hi mx=>(di x).bind fun x=>(Iy lo).bind fun lo=>(Iy hi).bind fun hi=>(Iy mx).bind fun mx=>(ain P t x lo hi mx).map .p
 | .fieldAddr t x f=>(di x).bind fun x=>(JC P t f).bind fun f=>(bQ P f.type).bind fun k=>if k=0 then none else some (.p (.fadr f.offset x))
 | .field t x f=>(di x).bind fun x=>(JC P t f).bind fun f=>(bQ P f.type).bind fun k=>(xU P f.type).map fun g=>.p (.fld f.offset k g x)
 | .indexAddr t x i=>(di x).bind fun x=>(di i).bind fun i=>(aoD P t x i).map .p
 | .index t x i=>(di x).bind fun x=>(di i).bind fun i=>(ar9 P t x i).map .p
 | .extract x i=>(di x).map fun x=>.p (.ext i x)
 | .call c=>Yx P c
 |_=>none
def cOp(P:Program)(op:Op):Option AOp:=some ((MF P op).getD .bad)
def MG(ops:Array Oper):Option (Nat×Bool)->Option (Option (Nat×Bool))
 |none=>some none
 |some (j,b)=>((ops[j]?).bind (·.dst)).map fun d=>some (d,b)
def AOp.gives:AOp->Bool
 | .store _ _ _=>false
 | .call _ _=>false
 | .callC _ _=>false
 | .bad=>false
 | .clr _ _ _=>false
 |_=>true
def asc:AOp->Option AOp
 | .buildSl k z n ps=>some (.buildC k z n ps)
 |_=>none
def Y6(P:Program)(hint:AOp)(op:Op):Option AOp:=match hint,op with
 | .slcM _ _ _ _,.slice t x lo hi none=>(Bp P t).bind fun e=>(bQ P e).bind fun k=>(di x).bind fun x=>(Iy lo).bind fun lo=>(Iy hi).bind fun hi=>if 0<k then some (.slcM k x lo hi)else none
 | .callC _ _,.call c=>match c.callee with
  | .value f=>(di f).bind fun f=>(wk c.args.toList).map fun l=>.callC f l
  |_=>none
 | .callC _ _,.buildSlice t n ps=>(GU P t n ps.toList).bind asc
 | .take _,.load t x=>(xU P t).bind fun g=>(di x).bind fun x=>if g=true then none else some (.take x)
 |_,_=>none
def alT(P:Program)(hint:AOp)(op:Op):Option AOp:=match Y6 P hint op with
 |some a=>some a
 |none=>cOp P op
def auS:AOp->AOp
 | .buildC _ _ _ _=>.callC (.c .any) []
 |o=>o
def asd:List COp->AOp
 |o::_=>auS o.op
 |[]=>.bad
def KD(P:Program)(N:Nat)(ops:Array Oper)(hint:AOp)(o:Oper):Option COp:=(MG ops o.guard).bind fun g=>(alT P hint o.op).bind fun op=>
 if(!op.gives||o.dst.isSome)&&decide (o.dst.getD 0<N)then some ⟨o.dst,g,op⟩else none
def wR(P:Program)(N:Nat)(ops:Array Oper):List COp->List Oper->Option (List COp)
 |_,[]=>some []
 |hs,o::l=>(KD P N ops (asd hs) o).bind fun a=>(wR P N ops hs.tail l).bind fun q=>some (a::q)
def wl(o:Oper):List Nat:=(o.after.toList.filter (Region.binds .any)).map (·.on)
def ded:List Nat->List Nat->List Nat
 |acc,[]=>acc
 |acc,a::l=>match acc.contains a with
  |true=>ded acc l
  |false=>ded (a::acc) l
def KE(o:Oper)(acc:List (List Nat)):List Nat:=ded [] (wl o++(wl o).flatMap fun d=>acc.getD d [])
def uG:List Oper->List (List Nat)->List (List Nat)
 |[],acc=>acc
 |o::l,acc=>uG l (acc++[KE o acc])
def afT(ps:List (Nat×Nat))(i j:Nat)(a b:COp):Bool:=GA a b&& (isP a.op||isP b.op|| (Y0 a.op&&Y0 b.op)||ps.contains (i,j))
def afU(g:Nat)(a b:COp):Bool:=match a with
 | ⟨some e,none,.p (.mv (.t n))⟩=>GA a b&& (g==0|| (g !=e+1&&g !=n+1))
 |_=>false
def Ol(m g:Nat)(ps:List (Nat×Nat))(i j:Nat)(a b:COp):Bool:=if j<m then afT ps i j a b else decide (i<m)&&afU g a b
def aoE(ps:List (Nat×Nat)):Nat->Nat->COp->COp->Bool:=match EZ ps with
 |some q=>Ol q.1 q.2 ps.tail
 |none=>afT ps
def Om(C:Nat->Nat->COp->COp->Bool)(j:Nat)(b:COp)(bf:List Nat):Nat->List COp->Bool
 |_,[]=>true
 |i,a::l=>(bf.contains i||C i j a b)&&Om C j b bf (i+1) l
def KF(C:Nat->Nat->COp->COp->Bool):Nat->List COp->List COp->List (List Nat)->Bool
 |j,done,b::l,bf::bs=>(bf.all fun i=>decide (i<j))&& (Om C j b bf 0 done&&KF C (j+1) (done++[b]) l bs)
 |_,_,[],[]=>true
 |_,_,_,_=>false
def Y7(ops:List Oper)(cl:List COp)(ps:List (Nat×Nat)):Bool:=KF (aoE ps) 0 [] cl (uG ops [])
def jR(P:Program)(N:Nat):Code->Cmd->Option Cmd
 | .skip,.skip=>some .skip
 | .region _ ops false,.ops ks hs=>(wR P N ops hs ops.toList).map fun l=>.ops ks l
 | .region _ ops true,.dops ks hs ps=>(wR P N ops hs ops.toList).bind fun l=>if Y7 ops.toList l ps then some (.dops ks l ps)else none
 | .seq a b,.seq c d=>(jR P N a c).bind fun c=>(jR P N b d).map fun d=>.seq c d
 | .cond x a b,.cond _ c d=>(di x).bind fun x=>(jR P N a c).bind fun c=>(jR P N b d).map fun d=>.cond x c d
 | .block i a,.block _ ks c=>(jR P N a c).map fun c=>.block i ks c
 | .loop a,.loop ks hs c=>(jR P N a c).map fun c=>.loop ks hs c
 | .exit i,.exit _=>some (.exit i)
 | .refuse _,.ops [] [⟨none,none,.bad⟩]=>some (.ops [] [⟨none,none,.bad⟩])
 | .ret,.ret=>some .ret
 | .label _,.skip=>some .skip
 | .scope a,.frz is c=>(jR P N a c).map (.frz is)
 |c,.frz is a=>(jR P N c a).map (.frz is)
 |_,_=>none
def KG(P:Program):List ResultVar->Option (List Rv)
 |[]=>some []
 | .tmp t::l=>(KG P l).map fun q=>.t t::q
 | .cell a t::l=>(xU P t).bind fun g=>(bQ P t).bind fun k=>if g||k==1 then(KG P l).map fun q=>.cell a k g::q else none
theorem vH(a:Addr)(n):(a.add n).block=a.block:=by grind[Addr.add]
def Qi{a:Addr}(n)(h:a.spot=none):(a.add n).spot=none:=by grind[Addr.add]
theorem Hd(a:Addr)(i j):(a.add i).add j=a.add (i+j):=by
 grind[Addr.add,aFZ]
theorem sG(b o n):(Addr.mk b o none).add n=⟨b,o+n,none⟩:=by
 grind[Addr.add]
theorem sH{w w':World}{a}(h:w'.heap[a.block]?=w.heap[a.block]?):w'.cell? a=w.cell? a:=by
 simp[World.cell?,h]
theorem GV{w:World}{b o}{us}{e}{fr}(h:w.heap[b]?=some (.cells us e fr)):w.cell? ⟨b,o,none⟩=us[o]?:=by
 simp[World.cell?,h]
def yJ:Value->Bool
 | .bool _| .int _ _| .float _ _| .string _| .pointer none| .map none| .chan none| .nilFunc| .nilIface=>true
 |_=>false
def KH{x}(h:yJ x=true):x.oneCell'=true:=by
 cases x<;>simp[yJ,Value.oneCell']at h⊢
inductive RD (w:World) (A:Nat->Prop):AV->Value->Prop
 |any (u:Value) (h:u.oneCell'=true):RD w A .any u
 |v (x:Value) (h:yJ x=true):RD w A (.v x) x
 |emp (a:Option Addr):RD w A .emp (.slice a 0 0)
 |sl (k:Nat) (rows:List (List AV)) (a:Option Addr) (cap:Nat) (ad:Addr) (vals:Nat->Nat->Value) (hc:O rows<=cap)
   (ha:rows≠[]->a=some ad/\A ad.block/\ad.spot=none) (hk:∀row∈rows,O row=k)
   (hv:∀ (i:Nat) (row:List AV) (j:Nat) (c:AV),rows[i]?=some row->row[j]?=some c->w.cell? (ad.add (i*k+j))=some (vals i j))
   (hl:∀row∈rows,∀c∈row,aI c=true) (hr:∀ (i:Nat) (row:List AV) (j:Nat) (c:AV),rows[i]?=some row->row[j]?=some c->RD w A c (vals i j)):RD w A (.sl k rows) (.slice a (O rows) cap)
 |agg (cs:List AV) (us:Array Value) (hs:us.size=O cs) (h1:∀ (i:Nat) (u:Value),us[i]?=some u->u.oneCell'=true)
   (hr:∀ (i:Nat) (c:AV) (u:Value),cs[i]?=some c->us[i]?=some u->RD w A c u):RD w A (.agg cs) (.agg us)
 |fn (f:FuncId):RD w A (.fn f [] []) (.func (.func f) #[] #[])
abbrev fL:=Nat->Option Nat->Nat×Nat
def live(h:aj)(id:Nat):Option Nat->Prop
 |none=>match h id with| .bx _| .ar _ _=>True|_=>False
 |some p=>∃cs k rows,h id=.bx cs/\cs[p]?=some (.osl k rows)
def cZ(h:aj)(id:Nat):Option Nat->Prop
 |none=>h id≠ .dead
 |some p=>live h id (some p)
def wS(h:aj)(ρ:fL)(b:Nat):Prop:=∃id sub,live h id sub/\(ρ id sub).1=b
def aN(w:World)(X:Nat->Prop)(h:aj)(ρ:fL)(b:Nat):Prop:=b<w.heap.size/\¬X b/\¬wS h ρ b
def aio{h}{id}{sub}(hl:live h id sub):cZ h id sub:=by
 cases sub with
 |none=>intro e;grind[live]
 |some p=>exact hl
inductive RV (w:World) (A:Nat->Prop) (ρ:fL) (h:aj):AV->Value->Prop
 |anyv (u:Value):RV w A ρ h .any u
 |und:RV w A ρ h .und undef
 |dat {c:AV} {u:Value} (hd:RD w A c u):RV w A ρ h c u
 |ref (id:Nat) (sub:Option Nat) (k i j:Nat) (hp:cZ h id sub):RV w A ρ h (.ref id sub k i j) (.pointer (some ⟨(ρ id sub).1,i*k+j,none⟩))
 |rsl (id:Nat) (sub:Option Nat) (k lo n cap:Nat) (a:Option Addr) (hp:cZ h id sub) (hn:n<=cap) (hb:(lo+cap)*k=(ρ id sub).2)
   (ha:cap=0\/a=some ⟨(ρ id sub).1,lo*k,none⟩):RV w A ρ h (.rsl id sub k lo n) (.slice a n cap)
 |rsc (id k lo n cap:Nat) (a:Option Addr) (hp:cZ h id none) (hn:n<=cap) (hb:(lo+cap)*k=(ρ id none).2)
   (ha:cap=0\/a=some ⟨(ρ id none).1,lo*k,none⟩):RV w A ρ h (.rsc id k lo n cap) (.slice a n cap)
 |ipt (cs:List AV) (ad:Addr) (vals:Nat->Value) (hA:A ad.block) (hs:ad.spot=none) (hv:∀ (j:Nat) (c:AV),cs[j]?=some c->w.cell? (ad.add j)=some (vals j))
   (hl:∀c∈cs,aI c=true) (hr:∀ (j:Nat) (c:AV),cs[j]?=some c->RD w A c (vals j)):RV w A ρ h (.ipt cs) (.pointer (some ad))
 |agg (cs:List AV) (us:Array Value) (hs:us.size=O cs) (h1:∀ (i:Nat) (u:Value),us[i]?=some u->u.oneCell'=true)
   (hr:∀ (i:Nat) (c:AV) (u:Value),cs[i]?=some c->us[i]?=some u->RV w A ρ h c u):RV w A ρ h (.agg cs) (.agg us)
 |tup (vs:List AV) (us:Array Value) (hs:us.size=O vs) (hr:∀ (i:Nat) (c:AV) (u:Value),vs[i]?=some c->us[i]?=some u->RV w A ρ h c u):RV w A ρ h (.tup vs) (.tuple us)
 |fn (f:FuncId) (x y:List AV) (us ts:Array Value) (hs:us.size=O x) (ht:ts.size=O y) (hx:∀ (i:Nat) (c:AV) (u:Value),x[i]?=some c->us[i]?=some u->RV w A ρ h c u)
   (hy:∀ (i:Nat) (c:AV) (u:Value),y[i]?=some c->ts[i]?=some u->RV w A ρ h c u):RV w A ρ h (.fn f x y) (.func (.func f) us ts)
def dG(w:World)(A:Nat->Prop)(k:Nat)(rows:List (List AV))(us:Array Value):Prop:=
 ∀i row,rows[i]?=some row->O row=k/\∀j c,row[j]?=some c->∃u,us[i*k+j]?=some u/\RD w A c u/\aI c=true
def qZ(h:aj):AV->Prop
 | .any| .v _| .emp| .sl _ _=>True
 | .ref id none _ _ _=>bf (h id)=true
 | .fn _ x y=>(x.all aI&&y.all aI)=true
 |_=>False
def RC(w:World)(A:Nat->Prop)(ρ:fL)(h:aj)(id p:Nat)(c:AV)(u:Value):Prop:=
 match c with
 | .osl k rows=>∃a cap us e,u=.slice a (O rows) cap/\(cap=0\/a=some ⟨(ρ id (some p)).1,0,none⟩)/\O rows<=cap/\
   w.heap[(ρ id (some p)).1]?=some (.cells us e (0,0))/\us.size=(ρ id (some p)).2/\cap*k=us.size/\dG w A k rows us
 |c=>RV w A ρ h c u/\u.oneCell'=true/\qZ h c
def RO(w:World)(A:Nat->Prop)(ρ:fL)(h:aj)(id:Nat):Ob->Prop
 | .dead=>True
 | .bx cs=>∃us e,w.heap[(ρ id none).1]?=some (.cells us e (0,0))/\us.size=(ρ id none).2/\O cs<=us.size/\∀p c,cs[p]?=some c->∃u,us[p]?=some u/\RC w A ρ h id p c u
 | .ar k rows=>∃us e,w.heap[(ρ id none).1]?=some (.cells us e (0,0))/\us.size=(ρ id none).2/\O rows*k<=us.size/\dG w A k rows us
 | .fz k rows=>A (ρ id none).1/\∃us e fr,w.heap[(ρ id none).1]?=some (.cells us e fr)/\us.size=(ρ id none).2/\O rows*k<=us.size/\dG w A k rows us
def XZ(X:Nat->Prop)(b:Nat):Prop:=X b\/b=0
structure Rel (w:World) (X:Nat->Prop) (ρ:fL) (h:aj):Prop where
 inj:∀id sub id' sub',live h id sub->live h id' sub'->(ρ id sub).1=(ρ id' sub').1->id=id'/\sub=sub'
 nx:∀id sub,live h id sub->¬XZ X (ρ id sub).1
 ob:∀id,RO w (aN w X h ρ) ρ h id (h id)
 xl:∀b,XZ X b->b<w.heap.size
structure Evo (w:World) (ρ:fL) (h:aj) (w':World) (ρ':fL) (h':aj) (ks:K):Prop where
 os:w'.os=w.os
 tape:w'.tape=w.tape
 output:w'.output=w.output
 size:w.heap.size<=w'.heap.size
 old:∀b,b<w.heap.size->¬wS h ρ b->w'.heap[b]?=w.heap[b]?
 keep:∀id sub,cZ h id sub->lF ks id sub=false->cZ h' id sub/\ρ' id sub=ρ id sub
 fresh:∀b,wS h' ρ' b->wS h ρ b\/w.heap.size<=b
 boxes:∀id,bf (h id)=true->bf (h' id)=true/\ρ' id none=ρ id none
 stay:∀id,bu id=true->h' id≠ .dead->h id≠ .dead/\ρ' id none=ρ id none
theorem Evo.refl(w)(ρ)(h):Evo w ρ h w ρ h []:=⟨rfl,rfl,rfl,aET _,fun _ _ _=>rfl,fun _ _ hp _=>⟨hp,rfl⟩,fun _ ho=>.inl ho,fun _ hb=>⟨hb,rfl⟩,fun _ _ hd=>⟨hd,rfl⟩⟩
theorem KI(a b:K)(id)(sub):lF (a++b) id sub=(lF a id sub||lF b id sub):=by simp[lF]
theorem Evo.trans{w w' w''}{ρ ρ' ρ''}{h h' h''}{ks ks'}(a:Evo w ρ h w' ρ' h' ks)(b:Evo w' ρ' h' w'' ρ'' h'' ks'):Evo w ρ h w'' ρ'' h'' (ks++ks'):=
 ⟨b.os.trans a.os,b.tape.trans a.tape,b.output.trans a.output,aEX a.size b.size,
  fun x hx ho=>(b.old x (aFQ hx a.size) (fun o=>by rcases a.fresh x o with o|o;all_goals grind)).trans (a.old x hx ho),
  fun id sub hp hk=>by
   rw[KI,Bool.or_eq_false_iff]at hk;obtain⟨h1,h2⟩:=a.keep id sub hp hk.1;obtain⟨h3,h4⟩:=b.keep id sub h1 hk.2;grind,
  fun x o=>by
   rcases b.fresh x o with o|o
   ·exact a.fresh x o
   ·exact .inr (aEX a.size o),
  fun id hb=>by
   obtain⟨h1,h2⟩:=a.boxes id hb;obtain⟨h3,h4⟩:=b.boxes id h1;grind,
  fun id hp hd=>by
   obtain⟨h1,h2⟩:=b.stay id hp hd;obtain⟨h3,h4⟩:=a.stay id hp h1;grind⟩
def Evo.al{w w'}{X}{ρ ρ'}{h h'}{ks}(e:Evo w ρ h w' ρ' h' ks){b}(hb:aN w X h ρ b):aN w' X h' ρ' b/\w'.heap[b]?=w.heap[b]?:=
 ⟨⟨aFQ hb.1 e.size,hb.2.1,fun o=>by rcases e.fresh b o with o|o;exact hb.2.2 o;have:=hb.1;omega⟩,e.old b hb.1 hb.2.2⟩
section
variable {w w':World} {A A':Nat→Prop}
theorem RD.mono{c}{u}(h:RD w A c u)(hA:∀b,A b->A' b/\w'.heap[b]?=w.heap[b]?):RD w' A' c u:=by
 induction h with
 |any u h=>exact .any u h
 |v x h=>exact .v x h
 |emp a=>exact .emp a
 |sl k rows a cap ad vals hc ha hk hv hl hr ih=>
  refine .sl k rows a cap ad vals hc (fun hne=>⟨(ha hne).1,(hA _ (ha hne).2.1).1,(ha hne).2.2⟩) hk (fun i row j c h1 h2=>?_) hl ih;rw[sH (w:=w) (w':=w') (by rw[vH];grind)];grind
 |agg cs us hs h1 hr ih=>exact .agg cs us hs h1 ih
 |fn f=>exact .fn f
theorem dG.mono{k}{rows}{us}(h:dG w A k rows us)(hA:∀b,A b->A' b/\w'.heap[b]?=w.heap[b]?):dG w' A' k rows us:=
 fun i row hi=>⟨(h i row hi).1,fun j c hc=>by obtain⟨u,h1,h2,h3⟩:=(h i row hi).2 j c hc;exact⟨u,h1,h2.mono hA,h3⟩⟩
end
theorem RD.one{w}{A}{c}{u}(h:RD w A c u)(hd:aI c=true):u.oneCell'=true:=by
 cases h with
 |any u h=>omega
 |v x h=>exact KH h
 |emp a=>rfl
 |sl=>rfl
 |agg=>simp[aI]at hd
 |fn=>rfl
section
variable {w w':World} {A A':Nat→Prop} {ρ ρ':fL} {h h':aj}
def RV.keep{c}{u}(hv:RV w A ρ h c u)(hA:∀b,A b->A' b/\w'.heap[b]?=w.heap[b]?)(hk:∀id sub,cZ h id sub->cZ h' id sub/\ρ' id sub=ρ id sub):RV w' A' ρ' h' c u:=by
 induction hv with
 |anyv u=>exact .anyv u
 |und=>exact .und
 |dat hd=>exact .dat (hd.mono hA)
 |ref id sub k i j hp=>rw[← (hk id sub hp).2];exact .ref id sub k i j (hk id sub hp).1
 |rsl id sub k lo n cap a hp hn hb ha=>
  obtain⟨h1,h2⟩:=hk id sub hp;exact .rsl id sub k lo n cap a h1 hn γ γ
 |rsc id k lo n cap a hp hn hb ha=>
  obtain⟨h1,h2⟩:=hk id none hp;exact .rsc id k lo n cap a h1 hn γ γ
 |ipt cs ad vals hA' hs hv hl hr=>
  exact .ipt cs ad vals (hA _ hA').1 hs (fun j c hc=>by rw[sH (w:=w) (w':=w') (by rw[vH];grind)];grind) hl (fun j c hc=>(hr j c hc).mono hA)
 |agg cs us hs h1 hr ih=>exact .agg cs us hs h1 ih
 |tup vs us hs hr ih=>exact .tup vs us hs ih
 |fn f x y us ts hs ht hx hy ihx ihy=>exact .fn f x y us ts hs ht ihx ihy
def RV.keepL{ks:K}{c}{u}(hv:RV w A ρ h c u)(hA:∀b,A b->A' b/\w'.heap[b]?=w.heap[b]?)(hk:∀id sub,cZ h id sub->lF ks id sub=false->cZ h' id sub/\ρ' id sub=ρ id sub)(hm:vW ks c=false):RV w' A' ρ' h' c u:=by
 cases hv with
 |anyv u=>exact .anyv u
 |und=>exact .und
 |dat hd=>exact .dat (hd.mono hA)
 |ref id sub k i j hp=>
  obtain⟨h1,h2⟩:=hk id sub hp (by simpa [vW]using hm);rw[←h2];exact .ref id sub k i j h1
 |rsl id sub k lo n cap a hp hn hb ha=>
  obtain⟨h1,h2⟩:=hk id sub hp (by simpa [vW]using hm);exact .rsl id sub k lo n cap a h1 hn γ γ
 |rsc id k lo n cap a hp hn hb ha=>
  obtain⟨h1,h2⟩:=hk id none hp (by simpa [vW]using hm);exact .rsc id k lo n cap a h1 hn γ γ
 |ipt cs ad vals hA' hs hv hl hr=>
  exact .ipt cs ad vals (hA _ hA').1 hs (fun j c hc=>by rw[sH (w:=w) (w':=w') (by rw[vH];grind)];grind) hl (fun j c hc=>(hr j c hc).mono hA)
 |agg cs us hs h1 hr=>simp[vW]at hm
 |tup vs us hs hr=>simp[vW]at hm
 |fn f x y us ts hs ht hx hy=>
  simp[vW]at hm;obtain⟨rfl,rfl⟩:=hm;exact .fn f [] [] us ts hs ht (fun i c u hc=>by grind) (fun i c u hc=>by grind)
def RV.keep1{ks:K}{c}{u}(hv:RV w A ρ h c u)(hA:∀b,A b->A' b/\w'.heap[b]?=w.heap[b]?)(hk:∀id sub,cZ h id sub->lF ks id sub=false->cZ h' id sub/\ρ' id sub=ρ id sub)(hm:Jc ks c=false):RV w' A' ρ' h' c u:=by
 cases c with
 |agg cs=>
  simp[Jc]at hm;cases hv with
  |dat hd=>exact .dat (hd.mono hA)
  |agg _ us hs h1 hr=>exact .agg cs us hs h1 fun i c u hc hu=>(hr i c u hc hu).keepL hA hk (hm c (aE6 hc))
 |fn f x y=>
  simp[Jc]at hm;cases hv with
  |dat hd=>exact .dat (hd.mono hA)
  |fn _ _ _ us ts hs ht hx hy=>exact .fn f x y us ts hs ht (fun i c u hc hu=>(hx i c u hc hu).keepL hA hk (hm.1 c (aE6 hc))) (fun i c u hc hu=>(hy i c u hc hu).keepL hA hk (hm.2 c (aE6 hc)))
 |_=>exact hv.keepL hA hk (by simpa [Jc]using hm)
def RV.keep2{ks:K}{c}{u}(hv:RV w A ρ h c u)(hA:∀b,A b->A' b/\w'.heap[b]?=w.heap[b]?)(hk:∀id sub,cZ h id sub->lF ks id sub=false->cZ h' id sub/\ρ' id sub=ρ id sub)(hm:men ks c=false):RV w' A' ρ' h' c u:=by
 cases c with
 |tup vs=>
  simp[men]at hm;cases hv with
  |dat hd=>cases hd
  |tup _ us hs hr=>exact .tup vs us hs fun i c u hc hu=>(hr i c u hc hu).keep1 hA hk (hm c (aE6 hc))
 |_=>exact hv.keep1 hA hk (by simpa [men]using hm)
end
def RS(w:World)(A:Nat->Prop)(ρ:fL)(h:aj)(s:aM)(tm:Array Value):Prop:=∀i,RV w A ρ h (s i) (tm.getD i undef)
section
variable {w w':World} {X:Nat→Prop} {ρ ρ':fL} {h h':aj} {ks:K}
theorem Evo.rs(e:Evo w ρ h w' ρ' h' ks){s}{tm}(hs:RS w (aN w X h ρ) ρ h s tm):RS w' (aN w' X h' ρ') ρ' h' (ng ks s) tm:=by
 intro i;cases ks with
 |nil=>exact(hs i).keep (fun b hb=>e.al hb) (fun id sub hp=>e.keep id sub hp rfl)
 |cons p l=>
  show RV _ _ _ _ (yc (p::l) (s i)) _;unfold yc;split
  ·exact .anyv _
  ·exact(hs i).keep2 (fun b hb=>e.al hb) (fun id sub hp hk=>e.keep id sub hp hk) γ
def Evo.rv(e:Evo w ρ h w' ρ' h' []){c}{u}(hv:RV w (aN w X h ρ) ρ h c u):RV w' (aN w' X h' ρ') ρ' h' c u:=
 hv.keep (fun _ hb=>e.al hb) (fun id sub hp=>e.keep id sub hp rfl)
def Evo.rd(e:Evo w ρ h w' ρ' h' ks){c}{u}(hd:RD w (aN w X h ρ) c u):RD w' (aN w' X h' ρ') c u:=hd.mono fun _ hb=>e.al hb
end
theorem RS.upd{w}{A}{ρ}{h}{s}{tm}(hs:RS w A ρ h s tm){d}{x}{v}(hd:d<tm.size)(hv:RV w A ρ h x v):RS w A ρ h (upd s d x) (tm.setIfInBounds d v):=by
 intro i;unfold Ab.upd;by_cases hi:i=d
 ·simp_all
 ·rw[if_neg hi];have:=hs i;simpa [Array.getD_eq_getD_getElem?,Array.getElem?_setIfInBounds_ne (show d≠i from fun e=>hi e.symm)]using this
theorem Uq{h}{id}(hb:bf (h id)=true):cZ h id none:=by intro e;grind[bf]
section
variable {w w':World} {A A':Nat→Prop} {ρ ρ':fL} {h h':aj} {c:AV} {u:Value}
def RV.toD(hd:aI c=true)(h1:u.oneCell'=true)(hv:RV w A ρ h c u):RD w A c u:=by
 cases hv with
 |anyv u=>exact .any u h1
 |und=>simp[aI]at hd
 |dat hd=>omega
 |fn f x y us ts hs ht hx hy=>
  simp[aI]at hd;obtain⟨rfl,rfl⟩:=hd;have e1:us=#[]:=γ
  have e2:ts=#[]:=γ
  subst e1 e2;exact .fn f
 |_=>simp[aI]at hd
def RV.keepD(hd:aI c=true)(hv:RV w A ρ h c u)(hA:∀b,A b->A' b/\w'.heap[b]?=w.heap[b]?):RV w' A' ρ' h' c u:=by
 cases hv with
 |anyv u=>exact .anyv u
 |und=>exact .und
 |dat hd=>exact .dat (hd.mono hA)
 |fn f x y us ts hs ht hx hy=>
  simp[aI]at hd;obtain⟨rfl,rfl⟩:=hd;exact .fn f [] [] us ts hs ht (fun i c u hc=>by grind) (fun i c u hc=>by grind)
 |_=>simp[aI]at hd
def RV.keepC(hv:RV w A ρ h c u)(ho:qZ h c)(hA:∀b,A b->A' b/\w'.heap[b]?=w.heap[b]?)(hB:∀id,bf (h id)=true->bf (h' id)=true/\ρ' id none=ρ id none):RV w' A' ρ' h' c u/\qZ h' c:=by
 cases hv with
 |anyv u=>exact⟨.anyv u,trivial⟩
 |und=>cases ho
 |dat hd=>
  refine⟨.dat (hd.mono hA),?_⟩;cases hd<;>first|trivial|exact ho
 |ref id sub k i j hp=>
  cases sub with
  |none=>
   obtain⟨h1,h2⟩:=hB id ho;exact⟨by rw[←h2];exact .ref id none k i j (Uq h1),h1⟩
  |some p=>cases ho
 |fn f x y us ts hs ht hx hy=>
  have ho':=ho;simp only[qZ,aEV,aFc]at ho';exact⟨.fn f x y us ts hs ht (fun i c u hc hu=>(hx i c u hc hu).keepD (ho'.1 c (aE6 hc)) hA) (fun i c u hc hu=>(hy i c u hc hu).keepD (ho'.2 c (aE6 hc)) hA),ho⟩
 |_=>cases ho
theorem CU(hd:aI c=true):qZ h c:=by
 cases c<;>simp[aI]at hd<;>first|trivial| (obtain⟨rfl,rfl⟩:=hd;simp[qZ])
theorem yK(hn:bI c=false){id p}:RC w A ρ h id p c u↔RV w A ρ h c u/\u.oneCell'=true/\qZ h c:=by
 cases c<;>first|rfl|simp[bI]at hn
def RO.keep{id}(ho:RO w A ρ h id (h id))(hA:∀b,A b->A' b/\w'.heap[b]?=w.heap[b]?)(hB:∀id,bf (h id)=true->bf (h' id)=true/\ρ' id none=ρ id none)
  (hρ:∀sub,ρ' id sub=ρ id sub) (hb:∀sub,live h id sub->w'.heap[(ρ id sub).1]?=w.heap[(ρ id sub).1]?):RO w' A' ρ' h' id (h id):=by
 cases e:h id with
 |dead=>trivial
 |bx cs=>
  rw[e]at ho;obtain⟨us,t,h1,h2,h3,h4⟩:=ho;refine⟨us,t,?_,by grind,h3,fun p c hc=>?_⟩
  ·rw[hρ,hb none (by simp[live,e]),h1]
  ·obtain⟨u,h5,h6⟩:=h4 p c hc;refine⟨u,h5,?_⟩;cases hO:bI c with
   |true=>
    cases c<;>simp[bI]at hO;rename_i k rows;obtain⟨a,cap,us',t',g1,g2,g3,g4,g5,g6,g7⟩:=h6;refine⟨a,cap,us',t',g1,by grind,g3,?_,by grind,g6,g7.mono hA⟩;rw[hρ,hb (some p) ⟨cs,k,rows,e,hc⟩,g4]
   |false=>
    rw[yK hO]at h6⊢;obtain⟨g1,g2⟩:=h6.1.keepC h6.2.2 hA hB;grind
 |ar k rows=>
  rw[e]at ho;obtain⟨us,t,h1,h2,h3,h4⟩:=ho;exact⟨us,t,by rw[hρ,hb none (by simp[live,e]),h1],by grind,h3,h4.mono hA⟩
 |fz k rows=>
  rw[e]at ho;obtain⟨h0,us,t,fr,h1,h2,h3,h4⟩:=ho;obtain⟨g1,g2⟩:=hA _ h0;exact⟨by grind,us,t,fr,by rw[hρ,g2,h1],by grind,h3,h4.mono hA⟩
end
theorem Rel.step{w w'}{X}{ρ ρ'}{h h'}{ks}(r:Rel w X ρ h)(e:Evo w ρ h w' ρ' h' ks)(S:Nat->Prop)
  (hS:∀id,¬S id->h' id=h id/\(∀sub,ρ' id sub=ρ id sub)/\(∀sub,live h id sub->w'.heap[(ρ id sub).1]?=w.heap[(ρ id sub).1]?))
  (hi:∀id sub id' sub',live h' id sub->live h' id' sub'->(ρ' id sub).1=(ρ' id' sub').1->id=id'/\sub=sub') (hx:∀id sub,live h' id sub->¬XZ X (ρ' id sub).1)
  (hc:∀id,S id->RO w' (aN w' X h' ρ') ρ' h' id (h' id)):Rel w' X ρ' h':=
 ⟨hi,hx,fun id=>by
  by_cases hs:S id
  ·grind
  ·obtain⟨h1,h2,h3⟩:=hS id hs;rw[h1];exact(r.ob id).keep (fun b hb=>e.al hb) e.boxes h2 h3,
  fun b hb=>aFQ (r.xl b hb) e.size⟩
section
variable {P:Program} {w:World} {A:Nat→Prop} {ρ:fL} {h:aj} {s:aM} {a:Act}
def RV.v_inv{x u}(hv:RV w A ρ h (.v x) u):u=x/\yJ x=true:=by
 cases hv with|dat hd=>cases hd with|v _ hp=>grind
def RV.emp_inv{u}(hv:RV w A ρ h .emp u):∃a,u=.slice a 0 0:=by
 cases hv with|dat hd=>cases hd with|emp a=>grind
def RV.sl_inv{k}{rows}{u}(hv:RV w A ρ h (.sl k rows) u):RD w A (.sl k rows) u:=by
 cases hv with|dat hd=>omega
def RD.sl_form{k}{rows}{u}(hv:RD w A (.sl k rows) u):∃a cap,u=.slice a (O rows) cap/\O rows<=cap:=by
 cases hv with|sl _ _ a cap _ _ hc=>grind
def RV.rsl_inv{id}{sub}{k lo n}{u}(hv:RV w A ρ h (.rsl id sub k lo n) u):
  ∃a cap,u=.slice a n cap/\cZ h id sub/\n<=cap/\(lo+cap)*k=(ρ id sub).2/\(cap=0\/a=some ⟨(ρ id sub).1,lo*k,none⟩):=by
 cases hv with
 |dat hd=>cases hd
 |rsl _ _ _ _ _ cap a hp hn hb ha=>grind
def RV.rsc_inv{id k lo n c}{u}(hv:RV w A ρ h (.rsc id k lo n c) u):
  ∃a,u=.slice a n c/\cZ h id none/\n<=c/\(lo+c)*k=(ρ id none).2/\(c=0\/a=some ⟨(ρ id none).1,lo*k,none⟩):=by
 cases hv with
 |dat hd=>cases hd
 |rsc _ _ _ _ _ a hp hn hb ha=>grind
def RV.ref_inv{id}{sub}{k i j}{u}(hv:RV w A ρ h (.ref id sub k i j) u):
  u=.pointer (some ⟨(ρ id sub).1,i*k+j,none⟩)/\cZ h id sub:=by
 cases hv with
 |dat hd=>cases hd
 |ref _ _ _ _ _ hp=>grind
def RV.fn_inv{f}{x y}{u}(hv:RV w A ρ h (.fn f x y) u):∃us ts,u=.func (.func f) us ts/\us.size=O x/\ts.size=O y/\
  (∀ (i:Nat) c u,x[i]?=some c->us[i]?=some u->RV w A ρ h c u)/\(∀ (i:Nat) c u,y[i]?=some c->ts[i]?=some u->RV w A ρ h c u):=by
 cases hv with
 |dat hd=>cases hd with|fn _=>grind
 |fn _ _ _ us ts hs ht hx hy=>grind
def RV.agg_inv{cs}{u}(hv:RV w A ρ h (.agg cs) u):∃us,u=.agg us/\us.size=O cs/\(∀ (i:Nat) u,us[i]?=some u->u.oneCell'=true)/\
  (∀ (i:Nat) c u,cs[i]?=some c->us[i]?=some u->RV w A ρ h c u):=by
 cases hv with
 |dat hd=>cases hd with|agg _ us hs h1 hr=>exact⟨us,rfl,hs,h1,fun i c u hc hu=>.dat (hr i c u hc hu)⟩
 |agg _ us hs h1 hr=>grind
def Wb{v}{c}(hc:Y4 v=some c):RD w A c v:=by
 unfold Y4 at hc;split at hc<;>cases hc
 ·exact .emp none
 all_goals exact .v _ rfl
theorem bp{x}{y}(hc:di x=some y)(hs:RS w A ρ h s a.tmps):RV w A ρ h (ev s y) (a.eval x):=by
 cases x with
 |tmp t=>simp[di]at hc;subst hc;exact hs t
 |const v=>
  simp[di]at hc;obtain⟨c,h1,rfl⟩:=hc;exact .dat (Wb h1)
 |func f=>simp[di]at hc;subst hc;exact .dat (.fn f)
 |global g=>simp[di]at hc;subst hc;exact .anyv _
def B9(hs:RS w A ρ h s a.tmps):∀ {x} {y},wk x=some y->O y=O x/\∀ (i:Nat) o p,x[i]?=some o->y[i]?=some p->RV w A ρ h (ev s p) (a.eval o)
 |[],y,hc=>by grind[wk]
 |o::l,y,hc=>by
  simp only[wk,aEQ]at hc;obtain⟨p,h1,q,h2,h3⟩:=hc;cases h3;obtain⟨h4,h5⟩:=B9 hs h2;refine⟨by simp[h4],fun i o' p' ho hp=>?_⟩;cases i with
  |zero=>simp at ho hp;subst ho hp;exact bp h1 hs
  |succ i=>exact h5 i o' p' (by simpa using ho) (by simpa using hp)
def afV{op}{t}{u v r}(hb:nU op u v=some r):(binOp op t u v).run P w=.ok r w/\yJ r=true:=by
 cases u with
 |int k x=>
  cases v with
  |int k' y=>
   have hk:∀op,(if k=k' then yH op k x y else none)=some r->op≠ .shl->op≠ .shr->(binOp op t (.int k x) (.int k' y)).run P w=.ok r w/\yJ r=true:=by
    intro op hq h1 h2;split at hq
    ·cases op<;>simp[yH]at hq h1 h2<;> (first|subst hq| (obtain⟨h0,hq⟩:=hq;subst hq))<;>simp_all[binOp,Op.intArith,Op.intDiv,Op.intBits,Op.intCmp,yJ]
    grind
   cases op<;>first
    |exact hk _ hb σ σ
    | (simp[nU,alO,alP]at hb;obtain⟨h0,hb⟩:=hb;subst hb;simp[binOp,Op.shift,show¬y<0 from by omega,yJ])
  |_=>simp[nU]at hb
 |string x=>
  cases v with
  |string y=>
   cases op<;>simp[nU,ar2]at hb
   case add=>obtain⟨h0,hb⟩:=hb;subst hb;simp[binOp,Op.stringOp,yJ,h0]
   all_goals subst hb;simp[binOp,Op.stringOp,yJ]
  |_=>simp[nU]at hb
 |_=>simp[nU]at hb
theorem FW{op}{t}{x y}{u v}(hu:u.oneCell'=true)(h2:u=.nilIface->v≠ .nilIface):(eqGuard op t x y u v).run P w=.ok () w:=by
 unfold eqGuard
 all_goals (cases u<;>simp[Value.oneCell']at hu⊢ <;>cases v<;>simp at h2⊢)
abbrev yg(P:Program)(w:World)(A:Nat->Prop)(ρ:fL)(h:aj)(m:Sem Value)(z:AV):Prop:=∃v,m.run P w=.ok v w/\RV w A ρ h z v
theorem Ba{α β}{m}{f:α->Sem β}{x}{w w'}(hm:m.run P w=.ok x w'):(m>>=f).run P w=(f x).run P w':=by
 simp_all
def afW{c x y}{u v t}{z}(hc:RV w A ρ h c t)(hx:RV w A ρ h x u)(hy:RV w A ρ h y v)(hz:Oc c x y=some z):
  yg P w A ρ h (do pure (if←asBool t then u else v)) z:=by
 unfold Oc at hz;split at hz
 ·rename_i b;obtain⟨rfl,_⟩:=hc.v_inv;refine⟨if b then u else v,by simp[asBool],?_⟩;grind
 grind
def Wc{op}{t}{xo yo}{x y z}{u v}(hx:RV w A ρ h x u)(hy:RV w A ρ h y v)(hz:fK op x y=some z):
  yg P w A ρ h (do eqGuard op t xo yo u v;binOp op t u v) z:=by
 unfold fK at hz;split at hz
 ·simp only[aEU]at hz;obtain⟨r,hr,rfl⟩:=hz;obtain⟨rfl,_⟩:=hx.v_inv;obtain⟨rfl,_⟩:=hy.v_inv;obtain⟨h1,h2⟩:=afV (P:=P) (w:=w) (t:=t) hr;refine⟨r,?_,.dat (.v _ h2)⟩;rw[Ba (FW ?_ ?_),h1]
  ·cases u<;>first|rfl|simp[nU]at hr
  grind[nU]
 grind
def aip{t}(ht:P.underlying t=some .bool)(d)(p q):(Op.equalIn (d+1) t (.bool p) (.bool q)).run P w=.ok (p==q) w:=by
 simp[Op.equalIn,run_underlying ht]
def Y8{t e}(ht:P.underlying t=some (.pointer e))(d)(p):(Op.equalIn (d+1) t (.pointer p) (.pointer none)).run P w=.ok p.isNone w:=by
 cases p<;>simp[Op.equalIn,run_underlying ht]
def apq{t}{x y}{b}(ht:P.underlying t=some (.func x y b))(d)(f)(p q):(Op.equalIn (d+1) t (.func f p q) .nilFunc).run P w=.ok false w:=by
 simp[Op.equalIn,run_underlying ht]
def alU{t}{x y}{b}(ht:P.underlying t=some (.func x y b))(d):(Op.equalIn (d+1) t .nilFunc .nilFunc).run P w=.ok true w:=by
 simp[Op.equalIn,run_underlying ht]
def FlV(P:Program)(t:TypeId)(p:List Int)(u:Value):Prop:=(P.underlying t=some (.int .i64)/\∃n,p=[n]/\u=.int .i64 n)\/(∃fs,P.underlying t=some (.struct fs))/\u=.agg (p.map (.int .i64)).toArray
def Y9{g:TypeId->Option Nat}{D:Nat}{w:World}(hg:∀t k,g t=some k->∀p q u v,O p=k->O q=k->FlV P t p u->FlV P t q v->(Op.equalIn D t u v).run P w=.ok (p==q) w)(hk:∀t k,g t=some k->P.underlying t=some (.int .i64)/\k=1\/∃fs,P.underlying t=some (.struct fs)){p q:List Int}:∀ {fs:List Field} {o k:Nat},Oi P g fs o=some k->O p=k->O q=k->
  (Op.eqFields D (p.map (.int .i64)).toArray (q.map (.int .i64)).toArray fs).run P w=.ok (p.drop o==q.drop o) w/\o<=k
 |[],o,k,h,hp,hq=>by
  cases h;rw[aFq ω,aFq ω];simp[Op.eqFields]
 |f::fs,o,k,h,hp,hq=>by
  unfold Oi at h;split at h
  case isFalse=>cases h
  rename_i hf;obtain⟨hf,rfl⟩:=hf;rw[aEQ]at h;obtain⟨m,hm,h⟩:=h;split at h
  case isFalse=>cases h
  rename_i hs;obtain⟨ih,hle⟩:=Y9 hg hk h hp hq;have pt:∀r:List Int,O r=k->∃u,(part f.type (r.map (.int .i64)).toArray f.offset).run P w=.ok u w/\FlV P f.type ((r.drop f.offset).take m) u:=fun r hr=>by
   rcases hk _ _ hm with⟨h1,rfl⟩| ⟨fs',h1⟩
   ·have e:(r.drop f.offset).take 1=[r[f.offset]]:=by
     rw[aFe ω];rfl
    refine⟨.int .i64 r[f.offset],?_,.inl ⟨h1,_,e,rfl⟩⟩;simp[part,isAgg,run_underlying h1,show f.offset<O r by omega]
   ·refine⟨.agg (((r.drop f.offset).take m).map (.int .i64)).toArray,?_,.inr ⟨⟨_,h1⟩,rfl⟩⟩;simp only[bQ,aEU]at hs;obtain⟨i,h3,h2⟩:=hs;simp[part,isAgg,run_underlying h1,sizeOf,typeInfo,h3,h2]
  obtain⟨u,hu,fu⟩:=pt p hp;obtain⟨v,hv,fv⟩:=pt q hq;have he:=hg _ _ hm _ _ _ _ (by simp;omega) (by simp;omega) fu fv;have e2:∀r:List Int,r.drop f.offset=(r.drop f.offset).take m++r.drop (f.offset+m):=fun r=>by rw[←List.drop_drop,List.take_append_drop]
  refine⟨?_,by omega⟩;simp only[Op.eqFields,hf,ne_eq,not_false_eq_true,if_true,Sem.run_bind,hu,hv,he,Result.andThen_ok];have ep:=e2 p;have eq:=e2 q;have hl:O ((p.drop f.offset).take m)=O ((q.drop f.offset).take m):=by
   simp;omega
  generalize(p.drop f.offset).take m=a at*
  generalize(q.drop f.offset).take m=b at*
  rw[ep,eq];by_cases g:a=b
  ·subst g;simp only[beq_self_eq_true,aMD,aFv,if_false,ih];rw[Bool.eq_iff_iff.2 (by simp:(p.drop (f.offset+m)==q.drop (f.offset+m))=true↔(a++p.drop (f.offset+m)==a++q.drop (f.offset+m))=true)]
  ·have h1:(a==b)=false:=by simpa using g
   have h2:(a++p.drop (f.offset+m)==b++q.drop (f.offset+m))=false:=by
    simp only[beq_eq_false_iff_ne,ne_eq];exact fun h=>g (List.append_inj h hl).1
   simp[h1,h2]
def afX{d:Nat}{t:TypeId}{k:Nat}(h:CT P true d t=some k):P.underlying t=some (.int .i64)/\k=1\/∃fs,P.underlying t=some (.struct fs):=by
 cases d with
 |zero=>cases h
 |succ d=>
  unfold CT at h;split at h
  ·cases h;exact .inl ⟨by assumption,rfl⟩
  ·exact .inr ⟨_,by assumption⟩
  ·cases h
def Wd{g:TypeId->Option Nat}:∀ {fs:List Field} {o k:Nat},Oi P g fs o=some k->∀f∈fs,∃m,g f.type=some m
 |[],_,_,_=>fun _ h=>nomatch h
 |f::fs,o,k,h=>by
  unfold Oi at h;split at h
  case isFalse=>cases h
  rw[aEQ]at h;obtain⟨m,hm,h⟩:=h;split at h
  case isFalse=>cases h
  exact fun x hx=>(List.mem_cons.1 hx).elim (fun e=>e▸ ⟨m,hm⟩) (Wd h x)
def Sa:∀ {D d:Nat} {t:TypeId} {k:Nat},CT P true D t=some k->D<d->P.eqGuardType d t=false
 |0,_,_,_,h,_=>nomatch h
 |D+1,0,_,_,_,h=>absurd h ω
 |D+1,d+1,t,k,h,hd=>by
  unfold CT at h;unfold Program.eqGuardType;split at h
  ·rename_i h1;rw[h1]
  ·rename_i fs h1;rw[h1];split at h
   ·cases h
   simp only[Array.any_eq_false',aEV,not_and,Bool.not_eq_true];intro f hf _;obtain⟨m,hm⟩:=Wd h f (by simpa using hf);exact Sa hm ω
  ·cases h
def We{w:World}:∀ {d D:Nat} {t:TypeId} {k:Nat},CT P true d t=some k->∀p q u v,O p=k->O q=k->FlV P t p u->FlV P t q v->(Op.equalIn (D+d) t u v).run P w=.ok (p==q) w
 |0,_,_,_,h=>nomatch h
 |d+1,D,t,k,h=>fun p q u v hp hq fu fv=>by
  unfold CT at h;split at h
  ·rename_i h1;cases h;rcases fu with⟨_,n,rfl,rfl⟩| ⟨⟨fs,h2⟩,_⟩
   ·rcases fv with⟨_,m,rfl,rfl⟩| ⟨⟨fs,h2⟩,_⟩
    ·rw[←aFZ,run_equalIn_int w _ _ _ _ _ _ h1];simp
    ·rw[h1]at h2;cases h2
   ·rw[h1]at h2;cases h2
  ·rename_i fs h1;split at h
   ·cases h
   rename_i hs;rcases fu with⟨h2,_⟩| ⟨_,rfl⟩
   ·rw[h1]at h2;cases h2
   rcases fv with⟨h2,_⟩| ⟨_,rfl⟩
   ·rw[h1]at h2;cases h2
   have e:P.fieldsOf t=fs:=by simp[Program.fieldsOf,h1]
   rw[←aFZ,run_equalIn_struct w _ _ _ _ (by rw[e];exact h1) (by simpa using hs),e];have:=(Y9 (w:=w) (g:=CT P true d) (D:=D+d) (fun t k h=>We h) (fun t k h=>afX h) h hp hq).1;simpa using this
  ·cases h
theorem MH{w:World}{A:Nat->Prop}{ρ:fL}{h:aj}:∀ {a:List AV} {p:List Int},RY a=some p->∀ {us:List Value},O us=O a->(∀ (i:Nat) c u,a[i]?=some c->us[i]?=some u->RV w A ρ h c u)->us=p.map (.int .i64)
 |[],p,e,us,hl,_=>by
  cases e;simpa using hl
 |x::a,p,e,us,hl,hr=>by
  unfold RY at e;split at e
  ·grind
  ·rename_i z l h1;cases h1;rw[aEU]at e;obtain⟨p',e,rfl⟩:=e;cases us with
   |nil=>simp at hl
   |cons u us=>
    have h0:=(hr 0 _ _ rfl rfl).v_inv.1;rw[MH e (us:=us) (by simpa using hl) fun i c u h1 h2=>hr (i+1) c u (by simpa using h1) (by simpa using h2),h0];rfl
  ·cases e
def Iz{op}{n}{tc}{t}{xo yo}{x y z}{u v}(hx:RV w A ρ h x u)(hy:RV w A ρ h y v)(hop:Jf op=some n)
  (ht:(tc=0->P.underlying t=some .bool)/\(tc=1->∃e,P.underlying t=some (.pointer e))/\(tc=2->∃p q r,P.underlying t=some (.func p q r))/\(∀k,tc=3+k->CT P true 3 t=some k/\∃fs,P.underlying t=some (.struct fs))) (hz:Qd n tc x y=some z):
  yg P w A ρ h (do eqGuard op t xo yo u v;binOp op t u v) z:=by
 have hop':(op=.eql/\n=false)\/(op=.neq/\n=true):=by grind[Jf]
 have key:∀r,u.oneCell'=true->u≠ .nilIface->(∀k q,u≠ .int k q)->(∀q,u≠ .string q)->(∀k q,u≠ .float k q)->(∀k p q,u≠ .complex k p q)->(Op.equal t u v).run P w=.ok r w->yg P w A ρ h (do eqGuard op t xo yo u v;binOp op t u v) (B (n !=r)):=by
  intro r h1 h2 h3 h4 h5 h6 he;rcases hop' with⟨rfl,rfl⟩| ⟨rfl,rfl⟩
  ·refine⟨.bool r,?_,?_⟩
   ·simp_all[Ba,FW,absurd,binOp]
   ·have:(false !=r)=r:=by simp_all
    rw[this];exact .dat (.v _ rfl)
  ·refine⟨.bool (!r),?_,?_⟩
   ·simp_all[Ba,FW,absurd,binOp]
   ·have:(true !=r)=!r:=γ
    rw[this];exact .dat (.v _ rfl)
 unfold Qd at hz;split at hz
 ·split at hz
  ·rename_i p q htc;cases hz;obtain⟨rfl,_⟩:=hx.v_inv;obtain⟨rfl,_⟩:=hy.v_inv;refine key (p==q) rfl σ σ σ σ σ ?_;exact aip (ht.1 htc) 9999 p q
  grind
 ·split at hz
  ·rename_i htc;obtain⟨rfl,_⟩:=hx.ref_inv;obtain⟨rfl,_⟩:=hy.v_inv;obtain⟨e,he⟩:=ht.2.1 htc;have:=key false rfl σ σ σ σ σ (Y8 he 9999 _);grind
  grind
 ·split at hz
  ·rename_i htc;obtain⟨rfl,_⟩:=hx.v_inv;obtain⟨rfl,_⟩:=hy.v_inv;obtain⟨e,he⟩:=ht.2.1 htc;have:=key true rfl σ σ σ σ σ (Y8 he 9999 _);grind
  grind
 ·split at hz
  ·rename_i htc;obtain⟨us,ts,rfl,_⟩:=hx.fn_inv;obtain⟨rfl,_⟩:=hy.v_inv;obtain⟨p,q,r,he⟩:=ht.2.2.1 htc;have:=key false rfl σ σ σ σ σ (apq he 9999 _ _ _);grind
  grind
 ·split at hz
  ·rename_i htc;obtain⟨rfl,_⟩:=hx.v_inv;obtain⟨rfl,_⟩:=hy.v_inv;obtain⟨p,q,r,he⟩:=ht.2.2.1 htc;have:=key true rfl σ σ σ σ σ (alU he 9999);grind
  grind
 ·split at hz
  case isFalse=>cases hz
  rename_i a b htc;obtain⟨h3,ha,hb⟩:=htc;simp only[aEQ,aEU]at hz;obtain⟨p,hp,q,hq,rfl⟩:=hz;obtain⟨us,rfl,s1,_,r1⟩:=hx.agg_inv;obtain⟨vs,rfl,s2,_,r2⟩:=hy.agg_inv;obtain⟨f1,f2⟩:=ht.2.2.2 (tc-3) ω;have f3:=Sa (d:=P.depth) f1 (by simp only[Program.depth,Made.depth];omega);have e1:=MH hp (us:=us.toList) (by simpa using s1) (by simpa using r1);have e2:=MH hq (us:=vs.toList) (by simpa using s2) (by simpa using r2);have l1:O p=tc-3:=by have:=congrArg List.length e1;simp at this;omega
  have l2:O q=tc-3:=by have:=congrArg List.length e2;simp at this;omega
  have e:=We (w:=w) (D:=9997) f1 p q (.agg us) (.agg vs) l1 l2 (.inr ⟨f2,by rw[←e1]⟩) (.inr ⟨f2,by rw[←e2]⟩);have hgd:=run_eqGuard_agg (w:=w) op t xo yo us vs f3;rcases hop' with⟨rfl,rfl⟩| ⟨rfl,rfl⟩
  ·refine⟨.bool (p==q),?_,?_⟩
   ·rw[Ba hgd,run_eql_struct,e];rfl
   ·rw[show(false != (p==q))=(p==q)by simp];exact .dat (.v _ rfl)
  ·refine⟨.bool (!(p==q)),?_,?_⟩
   ·rw[Ba hgd,run_neq_struct,e];rfl
   ·rw[show(true != (p==q))=!(p==q)by simp];exact .dat (.v _ rfl)
 grind
def alV{op}{x z}{u}(hx:RV w A ρ h x u)(hz:YM op x=some z):yg P w A ρ h (Op.unary op u) z:=by
 unfold YM at hz;split at hz
 ·obtain⟨rfl,_⟩:=hx.v_inv;cases op<;>simp only[Option.some.injEq]at hz<;>try (cases hz;done)
  ·subst hz;exact⟨_,by simp[Op.unary,Op.intArith],.dat (.v _ rfl)⟩
  ·subst hz;exact⟨_,by simp[Op.unary,Op.intBits],.dat (.v _ rfl)⟩
 ·obtain⟨rfl,_⟩:=hx.v_inv;cases op<;>simp at hz;subst hz;exact⟨_,by simp[Op.unary],.dat (.v _ rfl)⟩
 grind
def alW{src dst}{k}{x z}{u}(hx:RV w A ρ h x u)(hs:(P.underlying src).isSome=true)(hd:P.underlying dst=some (.int k))(hz:cvA k x=some z):
  yg P w A ρ h (convert src dst u) z:=by
 unfold cvA at hz;split at hz
 ·obtain⟨rfl,_⟩:=hx.v_inv;cases hz;obtain⟨d,hd'⟩:=Option.isSome_iff_exists.1 hs;exact⟨_,by simp_all[convert,run_underlying,Conv.intToInt],.dat (.v _ rfl)⟩
 grind
def air{src dst}{x z}{u}(hx:RV w A ρ h x u)(hs:P.underlying src=some .string)(hd:P.underlying dst=some .string)(hz:afN x=some z):
  yg P w A ρ h (convert src dst u) z:=by
 unfold afN at hz;split at hz
 ·obtain⟨rfl,_⟩:=hx.v_inv;cases hz;exact⟨_,by simp_all[convert,run_underlying],.dat (.v _ rfl)⟩
 grind
end
section
variable {P:Program} {w:World} {A:Nat→Prop} {ρ:fL} {h:aj} {s:aM} {a:Act}
inductive RVo (w:World) (A:Nat->Prop) (ρ:fL) (h:aj):Option AV->Option Value->Prop
 |none:RVo w A ρ h none none
 |some {x:AV} {u:Value} (hv:RV w A ρ h x u):RVo w A ρ h (some x) (some u)
def vJ{x}{y}(hc:Iy x=some y)(hs:RS w A ρ h s a.tmps):RVo w A ρ h (evo s y) (x.map a.eval):=by
 cases x with
 |none=>simp[Iy]at hc;subst hc;exact .none
 |some x=>
  simp only[Iy,aEU]at hc;obtain⟨p,h1,rfl⟩:=hc;exact .some (bp h1 hs)
def Fh{d n}{x}{u}{r}(hx:RV w A ρ h x u)(hb:mS d n (some x)=some r)(y)(hy:n<=y)(code):
  (Instr.sliceBound u y code).run P w=.ok r w/\r<=n:=by
 cases x with
 |v x=>
  obtain⟨rfl,_⟩:=hx.v_inv;cases u with
  |int k i=>
   grind[mS,run_sliceBound]
  |_=>simp[mS]at hb
 |_=>simp[mS]at hb
def zU{n cap}(isS){lo hi mx}{lo' hi' mx'}(hl:RVo w A ρ h lo lo')(hh:RVo w A ρ h hi hi')(hm:RVo w A ρ h mx mx'){l r}
  (hb:nc n lo hi mx=some (l,r)) (hc:n<=cap):∃m,(Instr.sliceBounds isS n cap lo' hi' mx').run P w=.ok (l,r,m) w/\l<=r/\r<=n/\r<=m/\m<=cap/\(mx=none->m=cap)/\(My mx=true->m=0):=by
 have low:∀r,(mS 0 r lo).bind (fun x=>some (x,r))=some (l,r)->∀code,((match lo' with|some v=>Instr.sliceBound v r code|none=>pure 0)).run P w=.ok l w/\l<=r:=by
  intro r hb code;cases hl with
  |none=>simp[mS]at hb;subst hb;simp_all
  |some hv=>
   simp only[aEQ]at hb;obtain⟨x,h1,h2⟩:=hb;cases h2;exact Fh hv h1 r (aET _) code
 cases hm with
 |none=>
  simp only[nc,aEQ]at hb;obtain⟨q,h1,x,h2,h3⟩:=hb;have hq:q=r:=γ
  subst hq;have h4:=low q γ;cases hh with
  |none=>
   simp[mS]at h1;subst h1;refine⟨cap,?_,(h4 .sliceB).2,aET _,hc,aET _,fun _=>rfl,fun e=>by grind[My]⟩;cases lo'<;>simp_all[Instr.sliceBounds]
  |some hv=>
   have h6:=fun code=>Fh (P:=P) hv h1 cap hc code;refine⟨cap,?_,(h4 .sliceB).2,(h6 .sliceB).2,aEX (h6 .sliceB).2 hc,aET _,fun _=>rfl,fun e=>by grind[My]⟩;cases lo'<;>simp_all[Instr.sliceBounds]
 |some hm=>
  rename_i xm um;simp only[nc,aEQ]at hb;obtain⟨m,h0,hb⟩:=hb;cases hh with
  |none=>grind
  |some hv=>
   simp only[aEQ]at hb;obtain⟨q,h1,x,h2,h3⟩:=hb;have hq:q=r:=γ
   subst hq;have h4:=low q γ;have h6:=fun code=>Fh (P:=P) hv h1 m (aET _) code;have h8:=fun code=>Fh (P:=P) hm h0 cap hc code;refine⟨m,?_,(h4 .slice3C).2,aEX (h6 .slice3B).2 (h8 .slice3B).2,(h6 .slice3B).2,aEX (h8 .slice3B).2 hc,fun e=>by grind,fun e=>?_⟩
   ·cases lo'<;>simp_all[Instr.sliceBounds]
   ·cases xm with
    |v x=>
     cases x with
     |int k i=>
      have:i=0:=by
       unfold My at e;grind
      grind[mS]
     |_=>simp[My]at e
    |_=>simp[My]at e
def ais{t e}{k}(ht:P.underlying t=some (.slice e))(hk:bQ P e=some k){x z}{u}{lo hi mx}{lo' hi' mx'}
  (hx:RV w A ρ h x u) (hl:RVo w A ρ h lo lo') (hh:RVo w A ρ h hi hi') (hm:RVo w A ρ h mx mx') (hz:gA k x lo hi mx=some z):
  yg P w A ρ h (Instr.sliceAt t u lo' hi' mx') z:=by
 have hsz:∀w,(sizeOf e).run P w=.ok k w:=by
  intro w;simp only[bQ,aEU]at hk;obtain⟨i,h1,h2⟩:=hk
  simp_all[sizeOf,typeInfo]
 have run:∀a n cap l r m,(Instr.sliceBounds true n cap lo' hi' mx').run P w=.ok (l,r,m) w->
   (Instr.sliceAt t (.slice a n cap) lo' hi' mx').run P w=.ok (.slice (if m=l then a else a.map (·.add (l*k))) (r-l) (m-l)) w:=by
  simp_all[Instr.sliceAt,Instr.slice,run_underlying]
 cases x with
 |emp=>
  obtain⟨a,rfl⟩:=hx.emp_inv;simp only[gA,aEU]at hz;obtain⟨⟨l,r⟩,h1,rfl⟩:=hz;obtain⟨m,h2,h3,h4,h5,h6,_⟩:=zU (P:=P) true hl hh hm h1 (aET 0);grind
 |sl k' rows=>
  obtain⟨a,cap,rfl,hcap⟩:=hx.sl_inv.sl_form;simp only[gA]at hz;split at hz
  ·rename_i hkk;subst hkk;simp only[aEU]at hz;obtain⟨⟨l,r⟩,h1,rfl⟩:=hz;obtain⟨m,h2,h3,h4,h5,h6,h7,h8⟩:=zU (P:=P) true hl hh hm h1 hcap;refine⟨_,run _ _ _ _ _ _ h2,?_⟩;split
   ·rename_i hZ;have:=h8 hZ;have:l=0:=ω
    have:r=0:=ω
    subst_vars
    exact .dat (.emp _)
   ·have hd:=hx.sl_inv;cases hd with
    |sl _ _ _ _ ad vals hc ha hk' hv hdl hr=>
     have hlen:O ((rows.drop l).take (r-l))=r-l:=γ
     have key:RD w A (.sl k' ((rows.drop l).take (r-l))) (.slice (if m=l then a else a.map (·.add (l*k'))) (O ((rows.drop l).take (r-l))) (m-l)):=by
      have at_:∀i row,((rows.drop l).take (r-l))[i]?=some row->rows[l+i]?=some row:=by
       grind
      refine .sl k' _ _ _ (ad.add (l*k')) (fun i j=>vals (l+i) j) ω (fun hne=>?_) (fun row hrow=>hk' row (List.mem_of_mem_drop (List.mem_of_mem_take hrow))) (fun i row j c h1 h2=>?_) (fun row hrow=>hdl row (List.mem_of_mem_drop (List.mem_of_mem_take hrow))) (fun i row j c h1 h2=>hr _ _ _ _ (at_ i row h1) h2)
      ·have hlr:l<r:=by
        rcases Nat.lt_or_ge l r with hlt|hge
        all_goals simp_all
       have hr0:rows≠[]:=γ
       obtain⟨ha1,ha2,ha3⟩:=ha hr0;refine⟨?_,by grind[vH],Qi _ ha3⟩;grind
      grind[Hd,aFZ,aFf]
     rw[hlen]at key;exact .dat key
  grind
 |rsl id sub k' l0 n=>
  obtain⟨a,cap,rfl,hp,hn,hb,ha⟩:=hx.rsl_inv;simp only[gA]at hz;split at hz
  ·rename_i hkk;subst hkk;simp only[aEU]at hz;obtain⟨⟨l,r⟩,h1,rfl⟩:=hz;obtain⟨m,h2,h3,h4,h5,h6,h7,h8⟩:=zU (P:=P) true hl hh hm h1 hn;cases hmx:mx with
   |some mv=>
    exact⟨_,run _ _ _ _ _ _ h2,.anyv _⟩
   |none=>
   have hmc:=h7 hmx;refine⟨_,run _ _ _ _ _ _ h2,.rsl _ _ _ _ _ _ _ hp ω γ ?_⟩;rcases ha with h0|h0
   ·omega
   ·by_cases hml:m=l
    all_goals simp_all[if_neg,aFK,sG,aFf]
  grind
 |rsc id k' l0 n c=>
  obtain⟨a,rfl,hp,hn,hb,ha⟩:=hx.rsc_inv;simp only[gA]at hz;split at hz
  ·rename_i hkk;subst hkk;unfold YN at hz;split at hz
   ·rename_i hi;cases hm;cases hl;simp only[aEU]at hz;obtain⟨r,h1,rfl⟩:=hz;cases hh with
    | @some _ uh hv=>
    have h6:=fun code=>Fh (P:=P) hv h1 c (aET _) code;have hbd:(Instr.sliceBounds true n c none (some uh) none).run P w=.ok (0,r,c) w:=by
     simp_all[Instr.sliceBounds]
    refine⟨_,run _ _ _ _ _ _ hbd,.rsc _ _ _ _ _ _ hp (by have:=(h6 .sliceAcap).2;omega) hb ?_⟩;rcases ha with h0|h0
    all_goals simp_all[if_neg,sG]
   ·simp only[aEU]at hz;obtain⟨⟨l,r⟩,h1,rfl⟩:=hz;cases hm;obtain⟨m,h2,h3,h4,h5,h6,h7,h8⟩:=zU (P:=P) true hl hh .none h1 hn;have hmc:=h7 rfl;refine⟨_,run _ _ _ _ _ _ h2,.rsl _ _ _ _ _ _ _ hp ω γ ?_⟩;rcases ha with h0|h0
    ·omega
    ·by_cases hml:m=l
     all_goals simp_all[if_neg,aFK,sG,aFf]
   grind
  grind
 |_=>simp[gA]at hz
def afY{t}(ht:P.underlying t=some .string){x z}{u}{lo hi}{lo' hi'}
  (hx:RV w A ρ h x u) (hl:RVo w A ρ h lo lo') (hh:RVo w A ρ h hi hi') (hz:Ys x lo hi=some z):yg P w A ρ h (Instr.sliceAt t u lo' hi' none) z:=by
 unfold Ys at hz;split at hz
 ·obtain⟨rfl,_⟩:=hx.v_inv;simp only[aEU]at hz;obtain⟨⟨l,r⟩,h1,rfl⟩:=hz;obtain⟨m,h2,_⟩:=zU (P:=P) (mx:=none) (mx':=none) false hl hh .none h1 (aET _);exact⟨_,by simp_all[Instr.sliceAt,Instr.slice,run_underlying],.dat (.v _ rfl)⟩
 grind
end
section
variable {P:Program} {w:World} {A:Nat→Prop} {ρ:fL} {h:aj} {s:aM} {a:Act}
theorem jI{e}{k}(hk:bQ P e=some k)(w):(sizeOf e).run P w=.ok k w:=by
 simp only[bQ,aEU]at hk;obtain⟨i,h1,h2⟩:=hk
 simp_all[sizeOf,typeInfo]
theorem On{e}{g}(hg:xU P e=some g)(w):(isAgg e).run P w=.ok g w:=by
 unfold xU at hg;split at hg
 all_goals simp_all[isAgg,Sem.run_bind,run_underlying,Result.andThen]
def PG{t}{f}{fd}(hf:JC P t f=some fd):∃fs,P.underlying t=some (.struct fs)/\fs[f]?=some fd:=by
 grind[JC]
def RV.ipt_drop{cs}{u}(n)(hx:RV w A ρ h (.ipt cs) u):∃ad,u=.pointer (some ad)/\RV w A ρ h (.ipt (cs.drop n)) (.pointer (some (ad.add n))):=by
 cases hx with
 |dat hd=>cases hd
 |ipt _ ad vals hA hs hv hl hr=>
  refine⟨ad,rfl,.ipt _ _ (fun j=>vals (n+j)) (by rw[vH];omega) (Qi _ hs) (fun j c hc=>?_) (fun c hc=>hl c (List.mem_of_mem_drop hc)) (fun j c hc=>?_)⟩
  ·rw[Hd];grind
  grind
def afZ{t}{f}{fd}{k}(hf:JC P t f=some fd)(hk:bQ P fd.type=some k)(hk0:k≠0){x z}{u}(hx:RV w A ρ h x u)(hz:EV fd.offset x=some z):
  yg P w A ρ h (Instr.fieldAt t u f) z:=by
 obtain⟨fs,h1,h2⟩:=PG hf;have run:∀ad,(Instr.fieldAt t (.pointer (some ad)) f).run P w=.ok (.pointer (some (ad.add fd.offset))) w:=by
  simp_all[Instr.fieldAt,run_underlying,Instr.sureAddr,fieldPlace,jI]
 cases x with
 |ref id sub k i j=>
  obtain⟨rfl,hp⟩:=hx.ref_inv;simp[EV]at hz;subst hz;refine⟨_,run _,?_⟩;rw[sG,aFZ];exact .ref _ _ _ _ _ hp
 |ipt cs=>
  simp[EV]at hz;obtain⟨ad,rfl,h3⟩:=hx.ipt_drop fd.offset;grind
 |_=>simp[EV]at hz
def Sc{e}{k off}{g}(hk:bQ P e=some k)(hg:xU P e=some g){cs}{us}{z}(hs:us.size=O cs)
  (h1:∀ (i:Nat) u,us[i]?=some u->u.oneCell'=true) (hr:∀ (i:Nat) c u,cs[i]?=some c->us[i]?=some u->RV w A ρ h c u) (hz:nO k g cs off=some z):
  yg P w A ρ h (part e us off) z:=by
 unfold nO at hz;cases g with
 |true=>
  simp only[if_true]at hz;split at hz
  ·cases hz;refine⟨.agg (us.extract off (off+k)),by simp_all[part,On,jI],.agg _ _ ?_ (fun i u hu=>?_) (fun i c u hc hu=>?_)⟩
   ·grind
   ·rw[Array.getElem?_extract]at hu;grind
   grind
  grind
 |false=>
  have hlt:off<us.size:=γ
  obtain⟨u,hu⟩:∃u,us[off]?=some u:=⟨us[off],Array.getElem?_eq_getElem hlt⟩;exact⟨u,by simp_all[part,On],hr _ _ _ hz hu⟩
def ait{t}{f}{fd}{k}{g}(hf:JC P t f=some fd)(hk:bQ P fd.type=some k)(hg:xU P fd.type=some g){x z}{u}(hx:RV w A ρ h x u)(hz:YO fd.offset k g x=some z):
  yg P w A ρ h (Instr.field t u f) z:=by
 obtain⟨fs,h1,h2⟩:=PG hf;unfold YO at hz;split at hz
 ·obtain⟨us,rfl,hs,h3,hr⟩:=hx.agg_inv;obtain⟨v,h4,h5⟩:=Sc hk hg hs h3 hr hz;exact⟨v,by simp_all[Instr.field,run_underlying,asAgg],h5⟩
 grind
def acu{t e}{k}(ht:P.underlying t=some (.slice e))(hk:bQ P e=some k){x i z}{u v}(hx:RV w A ρ h x u)(hi:RV w A ρ h i v)(hz:A9 k x i=some z):
  yg P w A ρ h (Instr.indexAt t u v) z:=by
 have he:P.elem t=e:=by grind[Program.elem]
 unfold A9 at hz;split at hz
 ·split at hz
  ·rename_i k' rows kk q hkk;obtain⟨rfl,_⟩:=hi.v_inv;unfold dF at hz;split at hz
   ·simp only[aEU]at hz;obtain⟨row,h1,rfl⟩:=hz;have hlt:=(List.getElem?_eq_some_iff.1 h1).1;have hne:rows≠[]:=γ
    have hd:=hx.sl_inv;cases hd with
    |sl _ _ a cap ad vals hc ha hk' hv hdl hr=>
     obtain⟨rfl,hA,hsp⟩:=ha hne;refine⟨_,?_,.ipt row (ad.add (q.toNat*k')) (vals q.toNat) (by grind[vH]) (Qi _ hsp) (fun j c hc=>by grind[Hd]) (hdl row (aE6 h1)) (fun j c hc=>hr _ _ _ _ h1 hc)⟩
     simp_all[run_indexAt_slice,if_pos,jI]
   grind
  grind
 ·split at hz
  ·rename_i id sub k' lo n kk q hkk;subst hkk;split at hz
   ·cases hz;obtain⟨rfl,_⟩:=hi.v_inv;obtain⟨a,cap,rfl,hp,hn,hb,ha⟩:=hx.rsl_inv;have ha:a=some ⟨(ρ id sub).1,lo*k',none⟩:=by
     grind
    refine⟨_,?_,.ref id sub k' (lo+q.toNat) 0 hp⟩
    simp_all[run_indexAt_slice,if_pos,jI,Result.andThen,sG,aFA,aFf]
   grind
  grind
 grind
def acv{t e}{n k}(ht:P.underlying t=some (.array n e))(hk:bQ P e=some k){x i z}{u v}(hx:RV w A ρ h x u)(hi:RV w A ρ h i v)(hz:JB n k x i=some z):
  yg P w A ρ h (Instr.indexAt t u v) z:=by
 have he:P.elem t=e:=by grind[Program.elem]
 have hn:P.arrayLen t=n:=by grind[Program.arrayLen]
 have run:∀ad kk (q:Int),0<=q/\q<n->(Instr.indexAt t (.pointer (some ad)) (.int kk q)).run P w=.ok (.pointer (some (ad.add (q.toNat*k)))) w:=by
  simp_all[run_indexAt_array,if_pos,jI]
 unfold JB at hz;split at hz
 ·split at hz
  ·cases hz;obtain⟨rfl,_⟩:=hi.v_inv;obtain⟨rfl,hp⟩:=hx.ref_inv;refine⟨_,run _ _ _ ω,?_⟩;rw[sG,aFZ];exact .ref _ _ _ _ _ hp
  grind
 ·split at hz
  ·rename_i cs kk q hq;obtain⟨rfl,_⟩:=hi.v_inv;obtain⟨ad,rfl,h3⟩:=hx.ipt_drop (q.toNat*k);grind
  grind
 grind
def af0{t}(ht:P.underlying t=some .string){x i z}{u v}(hx:RV w A ρ h x u)(hi:RV w A ρ h i v)(hz:Od x i=some z):yg P w A ρ h (Instr.index t u v) z:=by
 unfold Od at hz;split at hz
 ·obtain⟨rfl,_⟩:=hi.v_inv;obtain⟨rfl,_⟩:=hx.v_inv;split at hz
  ·simp only[aEU]at hz;obtain⟨b,h1,rfl⟩:=hz;exact⟨_,by simp_all[Instr.index,asIntOf,run_underlying],.dat (.v _ rfl)⟩
  grind
 grind
def af1{t e}{n k}{g}(ht:P.underlying t=some (.array n e))(hk:bQ P e=some k)(hg:xU P e=some g){x i z}{u v}(hx:RV w A ρ h x u)(hi:RV w A ρ h i v)(hz:Oe n k g x i=some z):
  yg P w A ρ h (Instr.index t u v) z:=by
 unfold Oe at hz;split at hz
 ·split at hz
  ·obtain⟨rfl,_⟩:=hi.v_inv;obtain⟨us,rfl,hs,h3,hr⟩:=hx.agg_inv;obtain⟨v,h4,h5⟩:=Sc hk hg hs h3 hr hz;exact⟨v,by simp_all[Instr.index,asIntOf,run_underlying,jI],h5⟩
  grind
 grind
def aiu{i}{x z}{u}(hx:RV w A ρ h x u)(hz:YP i x=some z):yg P w A ρ h (Instr.extract u i) z:=by
 unfold YP at hz;split at hz
 ·cases hx with
  |dat hd=>cases hd
  |tup vs us hs hr=>
   have hlt:i<us.size:=γ
   obtain⟨u,hu⟩:∃u,us[i]?=some u:=⟨us[i],Array.getElem?_eq_getElem hlt⟩;exact⟨u,by simp[Instr.extract,hu],hr _ _ _ hz hu⟩
 grind
def af2{t ty e}{ts}(h0:ts[0]?=some t)(ht:P.underlying t=some (.slice e)){x z}{u}(hx:RV w A ρ h x u)(hz:uF false x=some z):yg P w A ρ h (Builtin.len_ ts ty #[u]) z:=by
 have run:∀a n c,(Builtin.len_ ts ty #[.slice a n c]).run P w=.ok (goInt n) w:=by
  simp_all[Builtin.len_,run_underlying]
 cases x with
 |emp=>obtain⟨a,rfl⟩:=hx.emp_inv;simp[uF]at hz;subst hz;exact⟨_,run _ _ _,.dat (.v _ rfl)⟩
 |sl k rows=>obtain⟨a,cap,rfl,_⟩:=hx.sl_inv.sl_form;simp[uF]at hz;subst hz;exact⟨_,run _ _ _,.dat (.v _ rfl)⟩
 |rsl=>obtain⟨a,cap,rfl,_⟩:=hx.rsl_inv;simp[uF]at hz;subst hz;exact⟨_,run _ _ _,.dat (.v _ rfl)⟩
 |rsc=>obtain⟨a,rfl,_⟩:=hx.rsc_inv;simp[uF]at hz;subst hz;exact⟨_,run _ _ _,.dat (.v _ rfl)⟩
 |v x=>cases x<;>simp[uF]at hz
 |_=>simp[uF]at hz
def af3{t ty}{ts}(h0:ts[0]?=some t)(ht:P.underlying t=some .string){x z}{u}(hx:RV w A ρ h x u)(hz:uF true x=some z):yg P w A ρ h (Builtin.len_ ts ty #[u]) z:=by
 cases x with
 |v x=>
  cases x with
  |string b=>
   obtain⟨rfl,_⟩:=hx.v_inv;simp[uF]at hz;subst hz;exact⟨_,by simp[Builtin.len_,h0,run_underlying ht];rfl,.dat (.v _ rfl)⟩
  |_=>simp[uF]at hz
 |_=>simp[uF]at hz
def aiv{t ty e}{ts}(h0:ts[0]?=some t)(ht:P.underlying t=some (.slice e)){x z}{u}(hx:RV w A ρ h x u)(hz:Uh x=some z):yg P w A ρ h (Builtin.cap_ ts ty #[u]) z:=by
 unfold Uh at hz;split at hz
 ·obtain⟨a,rfl⟩:=hx.emp_inv;cases hz;exact⟨_,by simp[Builtin.cap_,h0,run_underlying ht];rfl,.dat (.v _ rfl)⟩
 ·obtain⟨a,rfl,_⟩:=hx.rsc_inv;cases hz;exact⟨_,by simp[Builtin.cap_,h0,run_underlying ht];rfl,.dat (.v _ rfl)⟩
 grind
def af4{m}{x y z}{u v}(hx:RV w A ρ h x u)(hy:RV w A ρ h y v)(hz:Ui m x y=some z):
  ∃r,(if m then Builtin.min2 u v else Builtin.max2 u v)=pure r/\RV w A ρ h z r:=by
 unfold Ui at hz;split at hz
 ·obtain⟨rfl,_⟩:=hx.v_inv;obtain⟨rfl,_⟩:=hy.v_inv;cases hz;cases m
  ·exact⟨_,by simp only[aFv,if_false,Builtin.max2],.dat (.v _ rfl)⟩
  ·exact⟨_,by simp only[if_true,Builtin.min2],.dat (.v _ rfl)⟩
 grind
def Sd{m}:∀ {ys} {vs:List Value} {x z} {u},RV w A ρ h x u->O vs=O ys->(∀ (i:Nat) c u,ys[i]?=some c->vs[i]?=some u->RV w A ρ h c u)->Jb m x ys=some z->
  ∃r,(vs.foldlM (fun a b=>if m then Builtin.min2 a b else Builtin.max2 a b) u).run P w=.ok r w/\RV w A ρ h z r
 |[],[],x,z,u,hx,_,_,hz=>by
  simp_all[Jb,Option.some.injEq]
 |[],v::vs,x,z,u,_,hl,_,_=>by grind
 |y::ys,[],x,z,u,_,hl,_,_=>by grind
 |y::ys,v::vs,x,z,u,hx,hl,hv,hz=>by
  simp only[Jb,aEQ]at hz;obtain⟨c,e1,e2⟩:=hz;obtain⟨r,h1,h2⟩:=af4 hx (hv 0 y v rfl rfl) e1;obtain⟨r',h3,h4⟩:=Sd h2 (by simpa using hl) (fun i c u h5 h6=>hv (i+1) c u γ γ) e2;grind
def Wf{m}{ts}{ty}{x z}{ys}{u}{vs}{args}(ha:args.toList=u::vs)(hx:RV w A ρ h x u)(hl:O vs=O ys)(hy:∀ (i:Nat) c u,ys[i]?=some c->vs[i]?=some u->RV w A ρ h c u)(hz:Jb m x ys=some z):
  yg P w A ρ h (if m then Builtin.min_ ts ty args else Builtin.max_ ts ty args) z:=by
 obtain⟨r,h1,h2⟩:=Sd (P:=P) hx hl hy hz;refine⟨r,?_,h2⟩;cases m
 all_goals simp_all[aFv,if_false,Builtin.max_,if_true,Builtin.min_]
theorem FX(j):∀cs row,O (setRow row j cs)=O row:=by
 intro cs;induction cs generalizing j with
 |nil=>intro row;rfl
 |cons c cs ih=>grind[setRow,aFR]
theorem zV(i):∀cs row j,j+O cs<=O row->(setRow row j cs)[i]?=if j<=i/\i<j+O cs then cs[i-j]? else row[i]?:=by
 intro cs;induction cs with
 |nil=>grind[setRow]
 |cons c cs ih=>
  simp only[setRow];grind
def Cells(w:World)(A:Nat->Prop)(ρ:fL)(h:aj)(cs:List AV)(us:Array Value):Prop:=
 us.size=O cs/\(∀ (i:Nat) u,us[i]?=some u->u.oneCell'=true)/\(∀ (i:Nat) c u,cs[i]?=some c->us[i]?=some u->RV w A ρ h c u)
def E4{x}{u}{cs}(hx:RV w A ρ h x u)(hc:ke x=some cs):Cells w A ρ h cs u.cells:=by
 have one:∀ {x} {u},RV w A ρ h x u->u.oneCell'=true->u.cells=#[u]->Cells w A ρ h [x] u.cells:=by
  intro x u hx h1 h2;rw[h2];refine⟨rfl,fun i v hv=>?_,fun i c v hc hv=>?_⟩
  all_goals grind
 unfold ke at hc;split at hc
 ·cases hc;obtain⟨us,rfl,h1,h2,h3⟩:=hx.agg_inv;exact⟨h1,h2,h3⟩
 all_goals first| (cases hc;done)|skip
 have h1:u.oneCell'=true/\u.cells=#[u]:=by
  cases x with
  |v x=>obtain⟨rfl,h⟩:=hx.v_inv;exact⟨KH h,by cases u<;>first|rfl|simp[yJ]at h⟩
  |emp=>obtain⟨a,rfl⟩:=hx.emp_inv;exact⟨rfl,rfl⟩
  |sl k rows=>obtain⟨a,cap,rfl,_⟩:=hx.sl_inv.sl_form;exact⟨rfl,rfl⟩
  |ref=>obtain⟨rfl,_⟩:=hx.ref_inv;exact⟨rfl,rfl⟩
  |rsl=>obtain⟨a,cap,rfl,_⟩:=hx.rsl_inv;exact⟨rfl,rfl⟩
  |rsc=>obtain⟨a,rfl,_⟩:=hx.rsc_inv;exact⟨rfl,rfl⟩
  |ipt cs=>obtain⟨ad,rfl,_⟩:=hx.ipt_drop 0;exact⟨rfl,rfl⟩
  |fn=>obtain⟨us,ts,rfl,_⟩:=hx.fn_inv;exact⟨rfl,rfl⟩
  |_=>simp_all
 grind
def Cells.set{cs ds}{us vs}{off}(hc:Cells w A ρ h cs us)(hd:Cells w A ρ h ds vs)(hle:off+O ds<=O cs):
  Cells w A ρ h (setRow cs off ds) (vs.zipIdx.foldl (fun cs (c,j)=>cs.setIfInBounds (off+j) c) us):=by
 have fold:∀ (l:List Value) k (us:Array Value),((l.zipIdx k).foldl (fun cs x=>cs.setIfInBounds (off+x.2) x.1) us).size=us.size/\
   ∀i,off+k+O l<=us.size->((l.zipIdx k).foldl (fun cs x=>cs.setIfInBounds (off+x.2) x.1) us)[i]?=if off+k<=i/\i<off+k+O l then l[i- (off+k)]? else us[i]?:=by
  intro l;induction l with
  |nil=>intro k us;exact⟨by simp,fun i _=>by simp;omega⟩
  |cons v l ih=>
   simp only[List.zipIdx_cons,List.foldl_cons];grind
 have e:vs.zipIdx.foldl (fun cs (c,j)=>cs.setIfInBounds (off+j) c) us=(vs.toList.zipIdx 0).foldl (fun cs x=>cs.setIfInBounds (off+x.2) x.1) us:=by
  rw[←Array.foldl_toList,Array.toList_zipIdx]
 obtain⟨h1,h2⟩:=fold vs.toList 0 us;have hl:O vs.toList=O ds:=by simpa using hd.1
 have g:∀i,(vs.zipIdx.foldl (fun cs (c,j)=>cs.setIfInBounds (off+j) c) us)[i]?=if off<=i/\i<off+O ds then vs[i-off]? else us[i]?:=by
  intro i;rw[e,h2 i (by rw[hl,hc.1];omega)];grind
 refine⟨by rw[e,h1,FX];exact hc.1,fun i u hu=>?_,fun i c u hcc hu=>?_⟩
 ·rw[g]at hu;split at hu
  ·exact hd.2.1 _ _ hu
  ·exact hc.2.1 _ _ hu
 ·rw[g]at hu;rw[zV i ds cs off hle]at hcc;split at hu
  ·rename_i hi;rw[if_pos hi]at hcc;exact hd.2.2 _ _ _ hcc hu
  ·rename_i hi;rw[if_neg hi]at hcc;exact hc.2.2 _ _ _ hcc hu
def KJ{place}(hs:RS w A ρ h s a.tmps):∀ps q,Hc P place ps=some q->
  ∀zero us,Cells w A ρ h zero us->∀cs,CN zero (q.map fun p=>(p.1,p.2.1,ev s p.2.2))=some cs->
   ∃vs,Instr.fill place us (ps.map fun p=>(p.1,a.eval p.2))=some vs/\Cells w A ρ h cs vs
 |[],q,hq,zero,us,hz,cs,hb=>by
  simp[Hc]at hq;subst hq;simp[CN]at hb;subst hb;exact⟨us,rfl,hz⟩
 | (i,x)::ps,q,hq,zero,us,hz,cs,hb=>by
  simp only[Hc,aEQ]at hq;obtain⟨⟨off,k⟩,h1,y,h2,q',h3,h4⟩:=hq;cases h4;simp only[aFr,CN,aEQ]at hb;obtain⟨ds,h5,h6⟩:=hb;split at h6
  ·have h7:=E4 (bp h2 hs) h5;have h8:=hz.set (off:=off) h7 ω;obtain⟨vs,h9,h10⟩:=KJ hs ps q' h3 _ _ h8 cs h6;refine⟨vs,?_,h10⟩;simp only[aFr,Instr.fill,h1];rw[if_neg (by have e1:=h7.1;have e2:=hz.1;grind)];omega
  grind
def Se:∀l cs,ME l=some cs->Cells w A ρ h cs l.toArray
 |[],cs,hc=>by simp[ME]at hc;subst hc;exact⟨rfl,fun i u hu=>by grind,fun i c u hc=>by grind⟩
 |v::l,cs,hc=>by
  simp only[ME,aEQ]at hc;obtain⟨c,h1,q,h2,h3⟩:=hc;cases h3;obtain⟨e1,e2,e3⟩:=Se l q h2;have hv:RD w A c v:=Wb h1;have ho:v.oneCell'=true:=by unfold Y4 at h1;split at h1<;>first|rfl|cases h1
  refine⟨by grind,fun i u hu=>?_,fun i c' u hc hu=>?_⟩
  ·cases i with
   |zero=>grind
   |succ i=>exact e2 i u γ
  ·cases i with
   |zero=>simp at hu hc;subst hu hc;exact .dat hv
   |succ i=>grind
def sJ{t}{zs}(hz:oJ P t=some zs):∃ (i:TypeInfo) (z:Value),P.info? t=some i/\i.zero=some z/\z.cells.size=i.size/\O zs=i.size/\Cells w A ρ h zs z.cells:=by
 simp only[oJ,aEQ]at hz;obtain⟨i,h1,z,h2,h3⟩:=hz;split at h3
 ·rename_i h4;have h5:=Se (w:=w) (A:=A) (ρ:=ρ) (h:=h) _ _ h3;refine⟨i,z,h1,h2,h4,?_,by omega⟩;have:=h5.1;grind
 grind
def acw{t}{ps:Array (Nat×Operand)}{pop}(hc:Y5 P t ps.toList=some pop)(hs:RS w A ρ h s a.tmps){z}(hz:jB s pop=some z):
  yg P w A ρ h (Instr.build t (ps.map fun(i,x)=>(i,a.eval x))) z:=by
 simp only[Y5,aEQ]at hc;obtain⟨zs,h1,hc⟩:=hc;obtain⟨i,zv,g1,g2,g3,g4,g5⟩:=sJ (w:=w) (A:=A) (ρ:=ρ) (h:=h) h1;have hzero:∀w,(zeroValue t).run P w=.ok zv w:=fun w=>by simp_all[zeroValue,typeInfo]
 split at hc
 ·rename_i fs ht;split at hc
  ·rename_i hall;simp only[aEU]at hc;obtain⟨q,h2,rfl⟩:=hc;simp only[jB,aEU]at hz;obtain⟨cs,h3,rfl⟩:=hz;obtain⟨vs,h4,h5⟩:=KJ hs _ _ h2 _ _ g5 _ h3;refine⟨.agg vs,?_,.agg _ _ h5.1 h5.2.1 h5.2.2⟩;have hplaces:∀w,(fs.mapM fun f=>(do pure (f.offset,←sizeOf f.type):Sem (Nat×Nat))).run P w=.ok (fs.map fun f=>(f.offset,(bQ P f.type).getD 0)) w:=by
    intro w;rw[Array.mapM_eq_mapM_toList];have:∀l:List Field,(∀f∈l,(bQ P f.type).isSome)->(l.mapM fun f=>(Prod.mk f.offset<$>sizeOf f.type)).run P w=.ok (l.map fun f=>(f.offset,(bQ P f.type).getD 0)) w:=by
     intro l;induction l with
     |nil=>simp_all
     |cons f l ih=>
      intro hl;obtain⟨k,hk⟩:=Option.isSome_iff_exists.1 (hl f σ)
      simp_all[jI]
    have hall':∀f∈fs.toList,(bQ P f.type).isSome:=by
     intro f hf;have:=Array.all_eq_true_iff_forall_mem.1 hall f γ;omega
    simp[this _ hall'];grind
   have hpl:(fun i=>(fs.map fun f=>(f.offset,(bQ P f.type).getD 0))[i]?)=Oj P fs:=by
    funext i;simp only[Oj,Array.getElem?_map];cases hf:fs[i]? with
    |none=>rfl
    |some f=>
     obtain⟨k,hk⟩:=Option.isSome_iff_exists.1 (show(bQ P f.type).isSome from by
      grind)
     grind
   simp_all[Instr.build,Sem.run_bind,run_underlying,Result.andThen]
  grind
 ·simp only[aEQ,aEU]at hc;obtain⟨k,hk,q,h2,rfl⟩:=hc;simp only[jB,aEU]at hz;obtain⟨cs,h3,rfl⟩:=hz;obtain⟨vs,h4,h5⟩:=KJ hs _ _ h2 _ _ g5 _ h3;refine⟨.agg vs,?_,.agg _ _ h5.1 h5.2.1 h5.2.2⟩
  simp_all[Instr.build,Sem.run_bind,run_underlying,Result.andThen,jI]
 grind
def aiw{f}{xs ys}{x y}(hx:wk xs=some x)(hy:wk ys=some y)(hs:RS w A ρ h s a.tmps):
  RV w A ρ h (.fn f (x.map (ev s)) (y.map (ev s))) (.func (.func f) (xs.map a.eval).toArray (ys.map a.eval).toArray):=by
 obtain⟨h1,h2⟩:=B9 hs hx;obtain⟨h3,h4⟩:=B9 hs hy;have key:∀ {xs:List Operand} {x:List Opd},O x=O xs->(∀ (i:Nat) o p,xs[i]?=some o->x[i]?=some p->RV w A ρ h (ev s p) (a.eval o))->
   ∀ (i:Nat) c u,(x.map (ev s))[i]?=some c->(xs.map a.eval).toArray[i]?=some u->RV w A ρ h c u:=by
  grind
 exact .fn f _ _ _ _ γ γ (key h1 h2) (key h3 h4)
theorem alX{y}(hc:di y=some (.c .emp)):a.eval y=.slice none 0 0:=by
 cases y with
 |tmp t=>grind[di]
 |func f=>grind[di]
 |global g=>grind[di]
 |const v=>
  simp only[di,aEU,Opd.c.injEq]at hc;obtain⟨c,h1,rfl⟩:=hc;unfold Y4 at h1;split at h1<;>first| (cases h1;done)|rfl
def af5{op}{n}{t e}{xo yo}{x z}{u}(ht:P.underlying t=some (.slice e))(hx:RV w A ρ h x u)(hop:Jf op=some n)(hz:Gy n x=some z):
  yg P w A ρ h (do eqGuard op t xo yo u (.slice none 0 0);binOp op t u (.slice none 0 0)) z:=by
 have hop':(op=.eql/\n=false)\/(op=.neq/\n=true):=by grind[Jf]
 have hu:(∃ad m c,u=.slice (some ad) m c)/\z=B n:=by
  unfold Gy at hz;split at hz
  ·cases hx with
   |dat hd=>
    cases hd with
    |sl k rows a cap ad vals hc ha hk hv hl hr=>
     simp_all
  ·split at hz
   ·obtain⟨a,cap,rfl,hp,hn,hb,ha⟩:=hx.rsl_inv;grind
   grind
  grind
 obtain⟨⟨ad,m,c,rfl⟩,rfl⟩:=hu;have heq:(Op.equal t (.slice (some ad) m c) (.slice none 0 0)).run P w=.ok false w:=by
  have h9:∀d,(Op.equalIn (d+1) t (.slice (some ad) m c) (.slice none 0 0)).run P w=.ok false w:=fun d=>by simp[Op.equalIn,run_underlying ht]
  exact h9 9999
 rcases hop' with⟨rfl,rfl⟩| ⟨rfl,rfl⟩
 ·refine⟨.bool false,?_,.dat (.v _ rfl)⟩;simp[eqGuard,binOp,heq,Result.andThen]
 ·refine⟨.bool true,?_,.dat (.v _ rfl)⟩;simp[eqGuard,binOp,heq,Result.andThen]
def af6{op}{pop}(hc:MF P op=some (.p pop))(hs:RS w A ρ h s a.tmps){z}(hz:jB s pop=some z)(o)(ho:o.op=op):
  ∃v,(execOp a.eval o).run P w=.ok (.value v) w/\RV w A ρ h z v:=by
 have fin:∀ {m},yg P w A ρ h m z->∃v,(do pure (.value (←m)):Sem Next).run P w=.ok (.value v) w/\RV w A ρ h z v:=by
  simp_all
 cases op<;>simp only[MF]at hc
 case move=>
  simp only[aEU]at hc;obtain⟨y,h1,h2⟩:=hc;cases h2;cases hz
  simp_all[execOp,bp]
 case assign=>
  simp only[aEU]at hc;obtain⟨y,h1,h2⟩:=hc;cases h2;cases hz
  simp_all[execOp,bp]
 case pick=>
  simp only[aEQ,aEU]at hc;obtain⟨c,h1,x,h2,y,h3,h4⟩:=hc;cases h4;obtain⟨v,g1,g2⟩:=afW (P:=P) (bp h1 hs) (bp h2 hs) (bp h3 hs) hz;exact⟨v,by simp only[execOp,ho];rw[Sem.run_bind]at g1⊢;cases hb:(asBool _).run P w<;>rw[hb]at g1<;>simp[Result.andThen]at g1⊢;omega,g2⟩
 case alloc=>simp_all
 case box=>simp_all[aEQ]
 case build=>
  simp only[aEU]at hc;obtain⟨p,h1,h2⟩:=hc;cases h2;simp only[execOp,ho];exact fin (acw h1 hs hz)
 case buildSlice=>
  simp_all[GU,aEQ]
 case load=>
  grind[aEQ]
 case store=>simp_all[aEQ]
 case nilCheck=>
  simp only[aEU]at hc;obtain⟨y,h1,h2⟩:=hc;cases h2;have hv:=bp h1 hs;simp only[jB]at hz;cases hy:ev s y<;>rw[hy]at hz hv<;>simp[Mw]at hz
  all_goals subst hz
  ·obtain⟨e,_⟩:=hv.ref_inv;simp_all[execOp]
  ·obtain⟨ad,e,_⟩:=hv.ipt_drop 0;simp_all[execOp]
  ·obtain⟨us,ts,e,_⟩:=hv.fn_inv;simp_all[execOp]
 case binOp=>
  simp only[aEQ,aEU]at hc;obtain⟨x,h1,y,h2,p,h3,h4⟩:=hc;cases h4;have hx:=bp h1 hs;have hy:=bp h2 hs;simp only[execOp,ho];refine fin ?_;unfold ar8 at h3;split at h3
  ·simp only[aEU]at h3;obtain⟨n,h5,rfl⟩:=h3;exact Iz (tc:=0) hx hy h5 ⟨fun _=>ω,fun e=>absurd e δ,fun e=>absurd e δ,fun k e=>absurd e ω⟩ hz
  ·simp only[aEU]at h3;obtain⟨n,h5,rfl⟩:=h3;exact Iz (tc:=1) hx hy h5 ⟨fun e=>absurd e δ,fun _=>⟨_,by omega⟩,fun e=>absurd e δ,fun k e=>absurd e ω⟩ hz
  ·simp only[aEU]at h3;obtain⟨n,h5,rfl⟩:=h3;exact Iz (tc:=2) hx hy h5 ⟨fun e=>absurd e δ,fun e=>absurd e δ,fun _=>⟨_,_,_,by omega⟩,fun k e=>absurd e ω⟩ hz
  ·cases h3;exact Wc hx hy hz
  ·cases h3;exact Wc hx hy hz
  ·rename_i e ht;split at h3
   ·simp only[aEU]at h3;obtain⟨n,h5,rfl⟩:=h3;rw[alX h2];exact af5 ht hx h5 hz
   grind
  ·rename_i fs ht;simp only[aEQ,aEU]at h3;obtain⟨k,hk,n,h5,rfl⟩:=h3;exact Iz (tc:=3+k) hx hy h5 ⟨fun e=>absurd e ω,fun e=>absurd e ω,fun e=>absurd e ω,fun k' e=>⟨by rw[show k'=k by omega];exact hk,_,ht⟩⟩ hz
  grind
 case unOp=>
  simp only[aEU]at hc;obtain⟨y,h1,h2⟩:=hc;cases h2;simp only[execOp,ho];exact fin (alV (bp h1 hs) hz)
 case convert=>
  simp only[aEQ,aEU]at hc;obtain⟨x,h1,p,h2,h3⟩:=hc;cases h3;simp only[execOp,ho];unfold aoC at h2;split at h2
  ·rename_i e1 e2;cases h2;exact fin (alW (bp h1 hs) γ e2 hz)
  ·rename_i e1 e2;cases h2;exact fin (air (bp h1 hs) e1 e2 hz)
  grind
 case makeFunc fn _ _=>
  cases fn<;>simp only[aEQ,aEU]at hc<;>try (cases hc;done)
  obtain⟨x,h1,y,h2,h3⟩:=hc;cases h3;simp only[jB,Option.some.injEq]at hz;subst hz;simp only[execOp,ho];refine fin ⟨_,rfl,?_⟩;have e:∀l:Array Operand,(l.toList.map a.eval).toArray=l.map a.eval:=fun l=>Array.toList_inj.1 σ;have:=aiw (f:=‹FuncId›) h1 h2 hs;grind
 case makeSlice=>
  simp_all[Yu,aEQ]
 case slice=>
  simp only[aEQ,aEU]at hc;obtain⟨x,h1,lo,h2,hi,h3,mx,h4,p,h5,h6⟩:=hc;cases h6;simp only[execOp,ho];refine fin ?_;unfold ain at h5;split at h5
  ·simp only[aEU]at h5;obtain⟨k,h7,rfl⟩:=h5;exact ais ω h7 (bp h1 hs) (vJ h2 hs) (vJ h3 hs) (vJ h4 hs) hz
  ·split at h5
   ·cases h5;have e4:=vJ h4 hs;simp only[evo]at e4;generalize hm:Option.map a.eval _=m at e4⊢;cases e4;exact afY ω (bp h1 hs) (vJ h2 hs) (vJ h3 hs) hz
   grind
  grind
 case fieldAddr=>
  simp only[aEQ]at hc;obtain⟨x,h1,f,h2,k,h3,hc⟩:=hc;split at hc
  ·grind
  ·cases hc;simp only[execOp,ho];exact fin (afZ h2 h3 ω (bp h1 hs) hz)
 case field=>
  simp only[aEQ,aEU]at hc;obtain⟨x,h1,f,h2,k,h3,g,h4,h5⟩:=hc;cases h5;simp only[execOp,ho];exact fin (ait h2 h3 h4 (bp h1 hs) hz)
 case indexAddr=>
  simp only[aEQ,aEU]at hc;obtain⟨x,h1,i,h2,p,h3,h4⟩:=hc;cases h4;simp only[execOp,ho];refine fin ?_;unfold aoD at h3;split at h3
  ·simp only[aEU]at h3;obtain⟨k,h5,rfl⟩:=h3;exact acu ω h5 (bp h1 hs) (bp h2 hs) hz
  ·simp only[aEU]at h3;obtain⟨k,h5,rfl⟩:=h3;exact acv ω h5 (bp h1 hs) (bp h2 hs) hz
  grind
 case index=>
  simp only[aEQ,aEU]at hc;obtain⟨x,h1,i,h2,p,h3,h4⟩:=hc;cases h4;simp only[execOp,ho];refine fin ?_;unfold ar9 at h3;split at h3
  ·cases h3;exact af0 ω (bp h1 hs) (bp h2 hs) hz
  ·simp only[aEQ,aEU]at h3;obtain⟨k,h5,g,h6,rfl⟩:=h3;exact af1 ω h5 h6 (bp h1 hs) (bp h2 hs) hz
  grind
 case extract=>
  simp only[aEU]at hc;obtain⟨y,h1,h2⟩:=hc;cases h2;simp only[execOp,ho];exact fin (aiu (bp h1 hs) hz)
 case call c=>
  unfold Yx at hc;split at hc
  ·rename_i b hb;have run:∀args,args=c.args.map a.eval->(execOp a.eval o).run P w=(builtin b c.argTypes o.type (c.args.map fun| .const _=>true|_=>false) args).run P w:=by
    grind[execOp,resolve,Sem.run_bind,Sem.run_pure,Result.andThen,invoke]
   unfold KC at hc;split at hc
   ·rename_i t ts x e1 e2;simp only[aEQ,aEU]at hc;obtain⟨y,h1,p,h2,h3⟩:=hc;cases h3;have hargs:c.args.map a.eval=#[a.eval x]:=Array.toList_inj.1 (by simp[e2]);have h0:c.argTypes[0]?=some t:=by rw[←Array.getElem?_toList,e1];rfl
    rw[run _ rfl,hargs];unfold asa at h2;split at h2
    ·cases h2;exact fin (af2 h0 ω (bp h1 hs) hz)
    ·cases h2;exact fin (af3 h0 ω (bp h1 hs) hz)
    ·rename_i n e ht;cases h2;simp only[jB,ev,Option.some.injEq]at hz;subst hz;exact fin ⟨_,by simp[Builtin.len_,h0,run_underlying ht];rfl,.dat (.v _ rfl)⟩
    grind
   ·rename_i t ts x e1 e2;simp only[aEQ,aEU]at hc;obtain⟨y,h1,p,h2,h3⟩:=hc;cases h3;have hargs:c.args.map a.eval=#[a.eval x]:=Array.toList_inj.1 (by simp[e2]);have h0:c.argTypes[0]?=some t:=by rw[←Array.getElem?_toList,e1];rfl
    rw[run _ rfl,hargs];unfold asb at h2;split at h2
    ·cases h2;exact fin (aiv h0 ω (bp h1 hs) hz)
    grind
   ·rename_i x l e2;simp only[aEQ,aEU]at hc;obtain⟨x',h1,y',h2,h3⟩:=hc;cases h3;obtain⟨l1,l2⟩:=B9 hs h2;rw[run _ rfl];exact fin (Wf (m:=true) (ts:=c.argTypes) (ty:=o.type) (vs:=l.map a.eval) (by simp[e2]) (bp h1 hs) γ (fun i c u h3 h4=>by
     grind) hz)
   ·rename_i x l e2;simp only[aEQ,aEU]at hc;obtain⟨x',h1,y',h2,h3⟩:=hc;cases h3;obtain⟨l1,l2⟩:=B9 hs h2;rw[run _ rfl];exact fin (Wf (m:=false) (ts:=c.argTypes) (ty:=o.type) (vs:=l.map a.eval) (by simp[e2]) (bp h1 hs) γ (fun i c u h3 h4=>by
     grind) hz)
   ·unfold afS at hc;split at hc
    all_goals grind[Yv,aEQ]
   ·unfold Yw at hc;grind[aEQ]
   ·unfold R9 at hc;grind[aEQ]
   grind
  all_goals simp_all[aEQ]
 all_goals cases hc
end
theorem aD{α}(s)(d)(x:α):upd s d x d=x:=if_pos rfl
theorem aW{α}(s){d i}(x:α)(hi:i≠d):upd s d x i=s i:=if_neg hi
theorem Fi{h:aj}{id id'}{o}(he:h id≠ .dead)(hd:upd h id o id'≠ .dead):h id'≠ .dead:=by
 grind[aW]
theorem eu{h h'}{id}{sub}(e:h' id=h id):live h' id sub↔live h id sub:=by
 cases sub<;>simp[live,e]
theorem iu{h h'}{id}{sub}(e:h' id=h id):cZ h' id sub↔cZ h id sub:=by
 simp_all[cZ,eu]
def Oo{w:World}{b}{o}(h:w.heap[b]?=some o):b<w.heap.size:=(Array.getElem?_eq_some_iff.1 h).1
section
variable {w:World} {X:Nat→Prop} {ρ:fL} {h:aj}
def Rel.live_heap(r:Rel w X ρ h){id}{sub}(hl:live h id sub):∃us e,w.heap[(ρ id sub).1]?=some (.cells us e (0,0))/\us.size=(ρ id sub).2:=by
 have ho:=r.ob id;cases sub with
 |none=>
  cases e:h id with
  |bx cs=>rw[e]at ho;obtain⟨us,t,h1,h2,_⟩:=ho;grind
  |ar k rows=>rw[e]at ho;obtain⟨us,t,h1,h2,_⟩:=ho;grind
  |_=>simp[live,e]at hl
 |some p=>
  obtain⟨cs,k,rows,e,hc⟩:=hl;rw[e]at ho;obtain⟨us,t,h1,h2,h3,h4⟩:=ho;obtain⟨u,_,g⟩:=h4 p _ hc;obtain⟨a,cap,us',t',_,_,_,g4,g5,_⟩:=g;grind
theorem sK{A}{b k lo n cap}{us}{e}{fr}{rows}{a}(hb:w.heap[b]?=some (.cells us e fr))(hA:A b)(hr:dG w A k rows us)
  (hle:lo+n<=O rows) (hn:n<=cap) (ha:cap=0\/a=some ⟨b,lo*k,none⟩):RD w A (tJ k lo n rows) (.slice a n cap):=by
 have hlen:O ((rows.drop lo).take n)=n:=γ
 have at_:∀i row,((rows.drop lo).take n)[i]?=some row->rows[lo+i]?=some row:=by
  grind
 have key:RD w A (.sl k ((rows.drop lo).take n)) (.slice a (O ((rows.drop lo).take n)) cap):=by
  refine .sl k _ a cap ⟨b,lo*k,none⟩ (fun i j=>(us[(lo+i)*k+j]?).getD undef) ω (fun hne=>?_) (fun row hrow=>?_) (fun i row j c h1 h2=>?_) (fun row hrow c hc=>?_) (fun i row j c h1 h2=>?_)
  ·rcases ha with h0|h0
   all_goals simp_all
  ·obtain⟨i,hi⟩:=aFL hrow;exact(hr _ _ (at_ i row hi)).1
  ·obtain⟨u,h3,_⟩:=(hr _ _ (at_ i row h1)).2 j c h2;grind[sG,GV,aFZ,aFf]
  ·obtain⟨i,hi⟩:=aFL hrow;obtain⟨j,hj⟩:=aFL hc;obtain⟨_,_,_,h4⟩:=(hr _ _ (at_ i row hi)).2 j c hj;omega
  ·obtain⟨u,h3,h4,_⟩:=(hr _ _ (at_ i row h1)).2 j c h2;grind
 rw[hlen]at key;exact key
def ase(r:Rel w X ρ h){id k}{rows}(e:h id=.ar k rows):Rel w X ρ (upd h id (.fz k rows))/\Evo w ρ h w ρ (upd h id (.fz k rows)) []:=by
 have hl:∀id' sub,live (upd h id (.fz k rows)) id' sub->id'≠id/\live h id' sub:=by
  intro id' sub hl;by_cases hi:id'=id
  ·cases sub with
   |none=>grind[live,aD]
   |some p=>grind[live,aD]
  grind[eu,aW]
 have ev:Evo w ρ h w ρ (upd h id (.fz k rows)) []:=by
  refine⟨rfl,rfl,rfl,aET _,fun _ _ _=>rfl,fun id' sub hp _=>⟨?_,rfl⟩,fun b ho=>?_,fun id' hb=>⟨?_,rfl⟩,fun id' _ hd=>⟨Fi γ hd,rfl⟩⟩
  ·by_cases hi:id'=id
   ·subst hi;cases sub with
    |none=>simp[cZ,aD]
    |some p=>obtain⟨cs,k',rows',e',_⟩:=hp;grind
   grind[iu,aW]
  ·obtain⟨id',sub,h1,h2⟩:=ho;exact .inl ⟨id',sub,(hl id' sub h1).2,h2⟩
  grind[aD,bf,aW]
 refine⟨r.step ev (·=id) (fun id' hi=>⟨aW h _ hi,fun _=>rfl,fun _ _=>rfl⟩) (fun a b c d h1 h2=>r.inj a b c d (hl a b h1).2 (hl c d h2).2) (fun a b h1=>r.nx a b (hl a b h1).2) (fun id' hi=>?_),ev⟩;subst hi;rw[aD];have ho:=r.ob id';rw[e]at ho;obtain⟨us,t,h1,h2,h3,h4⟩:=ho;have hlv:live h id' none:=by grind[live]
 refine⟨⟨Oo h1,fun hx=>r.nx id' none hlv (.inl hx),fun ho=>?_⟩,us,t,_,h1,h2,h3,h4.mono fun b hb=>ev.al hb⟩;obtain⟨id2,sub,h5,h6⟩:=ho;exact(hl id2 sub h5).1 (r.inj id2 sub id' none (hl id2 sub h5).2 hlv h6).1
def KL{c}(hc:qh c=true):aI (pe c)=true:=by
 cases c<;>first| (simp[qh,bI,aI,pe]at hc⊢;done)| (simp[qh,bI,aI,pe]at hc⊢;exact hc)
def Qj{A'}{id p}{c}{u}(hr:RC w (aN w X h ρ) ρ h id p c u)(hd:qh c=true)
  (hA:∀b,aN w X h ρ b->A' b) (hb:∀k rows,c=.osl k rows->A' (ρ id (some p)).1):RD w A' (pe c) u:=by
 cases hO:bI c with
 |true=>
  cases c<;>simp[bI]at hO;rename_i k rows;obtain⟨a,cap,us',t',g1,g2,g3,g4,g5,g6,g7⟩:=hr;have:=sK (lo:=0) (n:=O rows) (cap:=cap) (a:=a) g4 (hb k rows rfl) (g7.mono (w':=w) fun b h=>⟨hA b h,rfl⟩) ω g3 γ;grind[tJ,pe]
 |false=>
  rw[yK hO]at hr;have hd':aI c=true:=by grind[qh]
  have:pe c=c:=by cases c<;>first|rfl|simp[bI]at hO
  rw[this];exact(hr.1.toD hd' hr.2.1).mono fun b h=>⟨hA b h,rfl⟩
def asf(r:Rel w X ρ h){id}{cs}(e:h id=.bx cs)(hd:cs.all qh=true):Rel w X ρ (upd h id (.fz 1 (zQ cs)))/\Evo w ρ h w ρ (upd h id (.fz 1 (zQ cs))) [(id,true)]:=by
 have hl:∀id' sub,live (upd h id (.fz 1 (zQ cs))) id' sub->id'≠id/\live h id' sub:=by
  intro id' sub hl;by_cases hi:id'=id
  ·cases sub with
   |none=>grind[live,aD]
   |some p=>grind[live,aD]
  grind[eu,aW]
 have ev:Evo w ρ h w ρ (upd h id (.fz 1 (zQ cs))) [(id,true)]:=by
  refine⟨rfl,rfl,rfl,aET _,fun _ _ _=>rfl,fun id' sub hp hk=>⟨?_,rfl⟩,fun b ho=>?_,fun id' hb=>⟨?_,rfl⟩,fun id' _ hd=>⟨Fi γ hd,rfl⟩⟩
  ·by_cases hi:id'=id
   ·simp_all[cZ,aD,lF]
   grind[iu,aW]
  ·obtain⟨id',sub,h1,h2⟩:=ho;exact .inl ⟨id',sub,(hl id' sub h1).2,h2⟩
  grind[aD,bf,aW]
 have free:∀sub,live h id sub->aN w X (upd h id (.fz 1 (zQ cs))) ρ (ρ id sub).1:=by
  intro sub hlv;obtain⟨us,t,h1,_⟩:=r.live_heap hlv;refine⟨Oo h1,fun hx=>r.nx id sub hlv (.inl hx),fun ho=>?_⟩;obtain⟨id2,sub2,h5,h6⟩:=ho;exact(hl id2 sub2 h5).1 (r.inj id2 sub2 id sub (hl id2 sub2 h5).2 hlv h6).1
 refine⟨r.step ev (·=id) (fun id' hi=>⟨aW h _ hi,fun _=>rfl,fun _ _=>rfl⟩) (fun a b c d h1 h2=>r.inj a b c d (hl a b h1).2 (hl c d h2).2) (fun a b h1=>r.nx a b (hl a b h1).2) (fun id' hi=>?_),ev⟩;subst hi;rw[aD];have ho:=r.ob id';rw[e]at ho;obtain⟨us,t,h1,h2,h3,h4⟩:=ho;refine⟨free none (by grind[live]),us,t,_,h1,h2,by grind[zQ],fun i row hi=>?_⟩;simp only[zQ,aFw,aEU]at hi;obtain⟨c,hc,rfl⟩:=hi;refine⟨rfl,fun j d hj=>?_⟩;cases j with
 |succ j=>grind
 |zero=>
  simp at hj;subst hj;obtain⟨u,h5,h6⟩:=h4 i c hc;refine⟨u,by grind,Qj h6 ?_ (fun b hb=>(ev.al hb).1) (fun k rows ec=>?_),KL (List.all_eq_true.1 hd c (aE6 hc))⟩
  ·grind
  ·subst ec;exact free (some i) ⟨cs,k,rows,e,hc⟩
def MI(r:Rel w X ρ h){id}{cs ds}(e:h id=.bx cs)(hlen:O ds=O cs)(hds:∀ (p:Nat) c,cs[p]?=some c->ds[p]?=some c\/(bI c=true/\ds[p]?=some (pe c))):
  Rel w X ρ (upd h id (.bx ds))/\Evo w ρ h w ρ (upd h id (.bx ds)) [(id,true)]:=by
 have back:∀ (p k:Nat) rows,ds[p]?=some (AV.osl k rows)->cs[p]?=some (AV.osl k rows):=by
  intro p k rows hp;have hlt:=(List.getElem?_eq_some_iff.1 hp).1;obtain⟨c,hc⟩:∃c,cs[p]?=some c:=⟨cs[p]'(by omega),aE1 ω⟩;rcases hds p c hc with h1| ⟨h1,h2⟩
  ·grind
  ·rw[hp]at h2;cases c<;>simp[bI,pe]at h1 h2
 have hl:∀id' sub,live (upd h id (.bx ds)) id' sub->live h id' sub:=by
  intro id' sub hl;by_cases hi:id'=id
  ·subst hi;cases sub with
   |none=>grind[live]
   |some p=>
    obtain⟨cs',k,rows,h1,h2⟩:=hl;rw[aD]at h1;cases h1;exact⟨cs,k,rows,e,back p k rows h2⟩
  grind[eu,aW]
 have ev:Evo w ρ h w ρ (upd h id (.bx ds)) [(id,true)]:=by
  refine⟨rfl,rfl,rfl,aET _,fun _ _ _=>rfl,fun id' sub hp hk=>⟨?_,rfl⟩,fun b ho=>?_,fun id' hb=>⟨?_,rfl⟩,fun id' _ hd=>⟨Fi γ hd,rfl⟩⟩
  ·by_cases hi:id'=id
   ·simp_all[cZ,aD,lF]
   grind[iu,aW]
  ·obtain⟨id',sub,h1,h2⟩:=ho;exact .inl ⟨id',sub,hl id' sub h1,h2⟩
  grind[aD,bf,aW]
 refine⟨r.step ev (·=id) (fun id' hi=>⟨aW h _ hi,fun _=>rfl,fun _ _=>rfl⟩) (fun a b c d h1 h2=>r.inj a b c d (hl a b h1) (hl c d h2)) (fun a b h1=>r.nx a b (hl a b h1)) (fun id' hi=>?_),ev⟩;subst hi;rw[aD];have ho:=r.ob id';have ho':=ho.keep (w':=w) (A':=aN w X (upd h id' (.bx ds)) ρ) (ρ':=ρ) (h':=upd h id' (.bx ds)) (fun b hb=>ev.al hb) ev.boxes (fun _=>rfl) (fun _ _=>rfl);rw[e]at ho ho';obtain⟨us,t,h1,h2,h3,h4⟩:=ho;obtain⟨us',t',h1',_,_,h4'⟩:=ho';refine⟨us,t,h1,h2,by omega,fun p d hd=>?_⟩;have hlt:=(List.getElem?_eq_some_iff.1 hd).1;obtain⟨c,hc⟩:∃c,cs[p]?=some c:=⟨cs[p]'(by omega),aE1 ω⟩;rcases hds p c hc with g1| ⟨g1,g2⟩
 ·grind
 ·rw[hd]at g2;cases g2;obtain⟨u,h5,h6⟩:=h4 p c hc;have hlv:live h id' (some p):=by
   cases c<;>simp[bI]at g1;exact⟨cs,_,_,e,hc⟩
  have hfr:=by
   refine Qj h6 (by grind[qh]) (fun b hb=>(ev.al hb).1) (fun k rows ec=>?_);obtain⟨us2,t2,e1,_⟩:=r.live_heap hlv;refine⟨Oo e1,fun hx=>r.nx _ _ hlv (.inl hx),fun ho=>?_⟩;obtain⟨id2,sub2,h7,h8⟩:=ho;obtain⟨rfl,rfl⟩:=r.inj id2 sub2 id' (some p) (hl id2 sub2 h7) hlv h8;obtain⟨cs2,k2,rows2,h9,h10⟩:=h7;grind[aD,pe]
  have hnO:bI (pe c)=false:=by cases c<;>simp[bI]at g1<;>rfl
  refine⟨u,h5,(yK hnO).2 ⟨.dat hfr,hfr.one (KL (by grind[qh])),CU (KL (by grind[qh]))⟩⟩
end
section
variable {P:Program} {w:World} {X:Nat→Prop} {ρ:fL} {h h':aj}
def MJ{id k lo n cap}{a}{rows}(r:Rel w X ρ h)(e:h id=.fz k rows)(hle:lo+n<=O rows)(hn:n<=cap)
  (ha:cap=0\/a=some ⟨(ρ id none).1,lo*k,none⟩):RD w (aN w X h ρ) (tJ k lo n rows) (.slice a n cap):=by
 have ho:=r.ob id;rw[e]at ho;obtain⟨h0,us,t,fr,h1,h2,h3,h4⟩:=ho;grind[sK]
theorem Sf(r:Rel w X ρ h){id k lo n cap}{a}(hn:n<=cap)(ha:cap=0\/a=some ⟨(ρ id none).1,lo*k,none⟩){c}{ks}(hc:qX h id k lo n (h id)=some (c,h',ks)):
  Rel w X ρ h'/\Evo w ρ h w ρ h' ks/\RD w (aN w X h' ρ) c (.slice a n cap)/\aI c=true:=by
 cases e:h id with
 |dead=>grind[qX]
 |ar k' rows=>
  simp only[e,qX]at hc;split at hc
  ·rename_i hk;obtain⟨rfl,hle⟩:=hk;cases hc;obtain⟨h1,h2⟩:=ase r e;exact⟨h1,h2,MJ h1 (aD _ _ _) hle hn ha,rfl⟩
  grind
 |fz k' rows=>
  simp only[e,qX]at hc;split at hc
  ·rename_i hk;obtain⟨rfl,hle⟩:=hk;cases hc;exact⟨r,.refl _ _ _,MJ r e hle hn ha,rfl⟩
  grind
 |bx cs=>
  simp only[e,qX]at hc;split at hc
  ·rename_i hk;obtain⟨rfl,hle,hd⟩:=hk;cases hc;obtain⟨h1,h2⟩:=asf r e hd;exact⟨h1,h2,MJ h1 (aD _ _ _) (by grind[zQ]) hn ha,rfl⟩
  grind
def aix(r:Rel w X ρ h){id}{sub}(hl:live h id sub)(hn:¬live h' id sub)(hb:∀id sub,live h' id sub->live h id sub):aN w X h' ρ (ρ id sub).1:=by
 obtain⟨us,t,h1,_⟩:=r.live_heap hl;refine⟨Oo h1,fun hx=>r.nx id sub hl (.inl hx),fun ho=>?_⟩;obtain⟨id2,sub2,h5,h6⟩:=ho;obtain⟨rfl,rfl⟩:=r.inj id2 sub2 id sub (hb _ _ h5) hl h6;grind
def Sg(r:Rel w X ρ h){id p k lo n cap}{a}(hn:n<=cap)(ha:cap=0\/a=some ⟨(ρ id (some p)).1,lo*k,none⟩){c}{ks}(hc:Mz h id p k lo n (h id)=some (c,h',ks)):
  Rel w X ρ h'/\Evo w ρ h w ρ h' ks/\RD w (aN w X h' ρ) c (.slice a n cap)/\aI c=true:=by
 cases e:h id with
 |bx cs=>
  simp only[e,Mz]at hc;unfold alQ at hc;split at hc
  ·rename_i k' rows hp;split at hc
   ·rename_i hk;obtain⟨rfl,hle⟩:=hk;cases hc;obtain⟨h1,h2⟩:=MI r e (ds:=cs.set p (.sl k' rows)) σ (fun q c hq=>by
     by_cases hqp:q=p
     ·subst hqp;rw[hp]at hq;cases hq;exact .inr ⟨rfl,by grind[pe]⟩
     grind)
    refine⟨h1,h2,?_,rfl⟩;have hlv:live h id (some p):=⟨cs,k',rows,e,hp⟩;have hal:aN w X (upd h id (.bx (cs.set p (.sl k' rows)))) ρ (ρ id (some p)).1:=by
     refine aix r hlv (fun hl=>?_) (fun id' sub hl=>?_)
     ·obtain⟨cs2,k2,r2,e1,e2⟩:=hl;grind[aD]
     ·by_cases hi:id'=id
      ·subst hi;cases sub with
       |none=>grind[live]
       |some q=>
        obtain⟨cs2,k2,r2,e1,e2⟩:=hl;rw[aD]at e1;cases e1;by_cases hqp:q=p
        ·grind
        ·exact⟨cs,k2,r2,e,by rwa[List.getElem?_set_ne (fun e=>hqp e.symm)]at e2⟩
      grind[eu,aW]
    have ho:=r.ob id;rw[e]at ho;obtain⟨us,t,g1,g2,g3,g4⟩:=ho;obtain⟨u,g5,g6⟩:=g4 p _ hp;obtain⟨a',cap',us',t',e1,e2,e3,e4,e5,e6,e7⟩:=g6;exact sK e4 hal (e7.mono fun b hb=>h2.al hb) hle hn ha
   grind
  grind
 |_=>simp[e,Mz]at hc
def CV(r:Rel w X ρ h){A0}{h0}{c d}{u}{ks}(hv:RV w A0 ρ h0 c u)(hA:∀b,A0 b->aN w X h ρ b)(h1:u.oneCell'=true)(hc:iJ h c=some (d,h',ks)):
  Rel w X ρ h'/\Evo w ρ h w ρ h' ks/\RD w (aN w X h' ρ) d u/\aI d=true:=by
 have dl:aI c=true->iJ h c=some (c,h,[])->Rel w X ρ h'/\Evo w ρ h w ρ h' ks/\RD w (aN w X h' ρ) d u/\aI d=true:=by
  intro hd hq;rw[hq]at hc;cases hc;exact⟨r,.refl _ _ _,(hv.toD hd h1).mono fun b hb=>⟨hA b hb,rfl⟩,hd⟩
 cases c with
 |rsl id sub k lo n=>
  obtain⟨a,cap,rfl,hp,hn,hb,ha⟩:=hv.rsl_inv;cases sub with
  |none=>exact Sf r hn ha hc
  |some p=>exact Sg r hn ha hc
 |fn f x y=>
  grind[iJ]
 |any=>exact dl rfl rfl
 |v x=>exact dl rfl rfl
 |emp=>exact dl rfl rfl
 |sl k rows=>exact dl rfl rfl
 |_=>simp[iJ,aI]at hc
def Jg{A0}{h0}:∀cs {us:Array Value} off {h h'} {ds} {ks},Rel w X ρ h->(∀b,A0 b->aN w X h ρ b)->
  (∀i c u,cs[i]?=some c->us[off+i]?=some u->RV w A0 ρ h0 c u/\u.oneCell'=true)->off+O cs<=us.size->kX h cs=some (ds,h',ks)->
   Rel w X ρ h'/\Evo w ρ h w ρ h' ks/\O ds=O cs/\(∀d∈ds,aI d=true)/\(∀i d u,ds[i]?=some d->us[off+i]?=some u->RD w (aN w X h' ρ) d u)
 |[],us,off,h,h',ds,ks,r,hA,hv,hl,hc=>by
  obtain⟨rfl,rfl,rfl⟩:=hc;exact⟨r,.refl _ _ _,rfl,fun d hd=>γ,fun i d u hd=>γ⟩
 |c::cs,us,off,h,h',ds,ks,r,hA,hv,hl,hc=>by
  simp only[kX,aEQ]at hc;obtain⟨⟨d,h1,k1⟩,e1,⟨ds',h2,k2⟩,e2,e3⟩:=hc;cases e3;simp only[aFk]at hl;obtain⟨u,hu⟩:∃u,us[off]?=some u:=⟨us[off]'(by omega),Array.getElem?_eq_getElem ω⟩;obtain⟨hv0,hv1⟩:=hv 0 c u σ ω;obtain⟨g1,g2,g3,g4⟩:=CV r hv0 hA hv1 e1;obtain⟨f1,f2,f3,f4,f5⟩:=Jg cs (off+1) g1 (fun b hb=>(g2.al (hA b hb)).1) (fun i c u h1 h2=>hv (i+1) c u γ (by rw[←h2];congr 1;omega)) ω e2;refine⟨f1,g2.trans f2,by grind,fun x hx=>?_,fun i x v hx hv=>?_⟩
  ·grind
  ·cases i with
   |zero=>
    simp at hx hv;subst hx;rw[hu]at hv;cases hv;exact f2.rd g3
   |succ i=>grind
def aiy(r:Rel w X ρ h){A0}{h0}{c d}{u}{ks}(hv:RV w A0 ρ h0 c u)(hA:∀b,A0 b->aN w X h ρ b)(hc:Av h c=some (d,h',ks))(h1:(∀cs,c≠ .agg cs)->u.oneCell'=true):
  Rel w X ρ h'/\Evo w ρ h w ρ h' ks/\RD w (aN w X h' ρ) d u/\dat d=true:=by
 cases c with
 |agg cs=>
  simp only[Av,aEQ]at hc;obtain⟨⟨ds,h2,k2⟩,e1,e2⟩:=hc;cases e2;obtain⟨us,rfl,hs,g1,g2⟩:=hv.agg_inv;obtain⟨f1,f2,f3,f4,f5⟩:=Jg cs (us:=us) 0 r hA (fun i c u hc hu=>⟨g2 i c u hc γ,g1 _ u ω⟩) ω e1;exact⟨f1,f2,.agg _ _ γ g1 fun i d u hd hu=>f5 i d u hd γ,by grind[dat]⟩
 |_=>
  obtain⟨f1,f2,f3,f4⟩:=CV r hv hA (h1 fun cs e=>by cases e) hc;refine⟨f1,f2,f3,?_⟩;cases d<;>first|exact f4|simp[aI]at f4
theorem Jh{e}{ad}{u}(hg:xU P e=some false)(hc:w.cell? ad=some u):(loadVar e ad).run P w=.ok u w:=by
 simp_all[loadVar,On]
def acx{e}{k}{ad}{vs:List Value}(hg:xU P e=some true)(hk:bQ P e=some k)(hl:O vs=k)(hc:∀j v,vs[j]?=some v->w.cell? (ad.add j)=some v):
  (loadVar e ad).run P w=.ok (.agg vs.toArray) w:=by
 have:=run_loadCells_list (P:=P) w ad vs hc
 simp_all[loadVar,On,jI]
def D5{A}{h}{e}{k off}{g}(hg:xU P e=some g)(hk:bQ P e=some k){cs}{ad:Addr}{z}{vals:Nat->Value}
  (hv:∀j c,cs[j]?=some c->w.cell? (ad.add j)=some (vals j)) (hr:∀j c,cs[j]?=some c->RV w A ρ h c (vals j)/\(vals j).oneCell'=true) (hz:nO k g cs off=some z):
  ∃v,(loadVar e (ad.add off)).run P w=.ok v w/\RV w A ρ h z v:=by
 unfold nO at hz;cases g with
 |true=>
  simp only[if_true]at hz;split at hz
  ·cases hz;refine⟨_,acx hg hk (vs:=(List.range k).map fun j=>vals (off+j)) σ (fun j v hj=>?_),.agg _ _ γ (fun i u hu=>?_) (fun i c u hc hu=>?_)⟩
   ·simp only[aFw,aEU]at hj;obtain⟨i,hi,rfl⟩:=hj;obtain⟨h1,h2⟩:=List.getElem?_eq_some_iff.1 hi;simp at h2 h1;subst h2;rw[Hd];exact hv _ _ (aE1 (show off+j<O cs by omega))
   ·simp only[List.getElem?_toArray,aFw,aEU]at hu;obtain⟨j,hj,rfl⟩:=hu;obtain⟨h1,h2⟩:=List.getElem?_eq_some_iff.1 hj;simp at h2 h1;subst h2;exact(hr _ _ (aE1 (show off+i<O cs by omega))).2
   grind
  grind
 |false=>
  grind[Jh]
def Ji{A}{h}{e}{k}{g}(hg:xU P e=some g)(hk:bQ P e=some k){b k0 i j k'}{us}{t}{fr}{rows}
  (hb:w.heap[b]?=some (.cells us t fr)) (hr:dG w A k' rows us) {z} {h'} {ks} (hz:sE h k g k0 i j (some (k',rows))=some (z,h',ks)):
  h'=h/\ks=[]/\∃v,(loadVar e ⟨b,i*k0+j,none⟩).run P w=.ok v w/\RV w A ρ h z v:=by
 simp only[sE]at hz;split at hz
 ·simp only[aEQ,aEU]at hz;obtain⟨row,h1,a,h2,h3⟩:=hz;cases h3;have cell:∀j c,row[j]?=some c->us[i*k'+j]?=some ((us[i*k'+j]?).getD undef)/\RD w A c ((us[i*k'+j]?).getD undef)/\aI c=true:=by
   intro j c hc;obtain⟨u,g1,g2,g3⟩:=(hr i row h1).2 j c hc;grind
  have:=D5 (P:=P) (ρ:=ρ) (h:=h) (A:=A) (off:=j) hg hk (cs:=row) (ad:=⟨b,i*k',none⟩) (z:=z) (vals:=fun j=>(us[i*k'+j]?).getD undef)
   (fun j c hc=>by grind[sG,GV]) (fun j c hc=>⟨.dat (cell j c hc).2.1,(cell j c hc).2.1.one (cell j c hc).2.2⟩) h2
  grind[sG]
 grind
end
def qt(ρ:fL)(d:Nat)(sub:Option Nat)(b:Nat×Nat):fL:=fun id s=>if id=d/\s=sub then b else ρ id s
theorem bZ(ρ)(d)(sub)(b):qt ρ d sub b d sub=b:=if_pos ⟨rfl,rfl⟩
def JE{ρ}{d id}{sub s}{b}(h:¬ (id=d/\s=sub)):qt ρ d sub b id s=ρ id s:=if_neg h
section
variable {P:Program} {w:World} {X:Nat→Prop} {ρ:fL} {h h':aj}
def JF(w:World)(o){b}(hb:b<w.heap.size):(w.alloc o).heap[b]?=w.heap[b]?:=by
 show(w.heap.push o)[b]?=_;grind
theorem CW(w:World)(o):(w.alloc o).heap[w.heap.size]?=some o:=by
 show(w.heap.push o)[w.heap.size]?=_;grind
def af7(w:World)(A:Nat->Prop)(ρ:fL)(h:aj)(us:Array Value):Ob->Prop
 | .bx cs=>O cs<=us.size/\∀ (p:Nat) c,cs[p]?=some c->bI c=false/\∃u,us[p]?=some u/\RV w A ρ h c u/\u.oneCell'=true/\qZ h c
 | .ar k rows=>O rows*k<=us.size/\dG w A k rows us
 |_=>False
def Fj(r:Rel w X ρ h){d}(hdp:bu d=false)(hd:h d=.dead){us}{e}{o}(ho:af7 w (aN w X h ρ) ρ h us o):
  Rel (w.alloc (.cells us e)) X (qt ρ d none (w.heap.size,us.size)) (upd h d o)/\Evo w ρ h (w.alloc (.cells us e)) (qt ρ d none (w.heap.size,us.size)) (upd h d o) []:=by
 have hl:∀id sub,live (upd h d o) id sub->(id=d/\sub=none)\/(id≠d/\live h id sub):=by
  intro id sub hl;by_cases hi:id=d
  ·subst hi;cases sub with
   |none=>grind
   |some p=>
    obtain⟨cs,k,rows,h1,h2⟩:=hl;rw[aD]at h1;subst h1;exact absurd (ho.2 p _ h2).1 (by simp[bI])
  grind[eu,aW]
 have hρ:∀id sub,id≠d->qt ρ d none (w.heap.size,us.size) id sub=ρ id sub:=fun id sub hi=>JE fun e=>hi e.1;have ev:Evo w ρ h (w.alloc (.cells us e)) (qt ρ d none (w.heap.size,us.size)) (upd h d o) []:=by
  refine⟨rfl,rfl,rfl,by simp_all,fun b hb _=>JF w _ hb,fun id sub hp _=>?_,fun b hb=>?_,fun id hb=>?_,fun id hp hnd=>?_⟩
  ·have hi:id≠d:=by
    rintro rfl
    cases sub with
    |none=>exact hp hd
    |some p=>obtain⟨_,_,_,h1,_⟩:=hp;grind
   grind[iu,aW]
  ·obtain⟨id,sub,h1,h2⟩:=hb;rcases hl id sub h1 with⟨rfl,rfl⟩| ⟨hi,h3⟩
   ·simp_all[bZ,aET]
   ·rw[hρ id sub hi]at h2;exact .inl ⟨id,sub,h3,h2⟩
  ·have hi:id≠d:=by rintro rfl;rw[hd]at hb;cases hb
   grind[aW]
  grind[aW]
 have lt:∀id sub,live h id sub->(ρ id sub).1<w.heap.size:=fun id sub hl=>by obtain⟨us,t,h1,_⟩:=r.live_heap hl;grind
 refine⟨r.step ev (·=d) (fun id hi=>⟨aW h _ hi,fun sub=>hρ id sub hi,fun sub hl=>JF w _ (lt id sub hl)⟩) (fun a b c e' h1 h2 h3=>?_) (fun a b h1=>?_) (fun id hi=>?_),ev⟩
 ·rcases hl a b h1 with⟨rfl,rfl⟩| ⟨ha,h4⟩<;>rcases hl c e' h2 with⟨rfl,rfl⟩| ⟨hc,h5⟩
  ·grind
  ·grind[bZ]
  ·grind[bZ]
  ·rw[hρ a b ha,hρ c e' hc]at h3;exact r.inj a b c e' h4 h5 h3
 ·rcases hl a b h1 with⟨rfl,rfl⟩| ⟨ha,h4⟩
  ·rw[bZ];intro hx;have:=r.xl _ hx;omega
  ·rw[hρ a b ha];exact r.nx a b h4
 ·subst hi;rw[aD];cases o with
  |bx cs=>
   refine⟨us,e,by grind[bZ,CW],by rw[bZ],ho.1,fun p c hc=>?_⟩;obtain⟨h1,u,h2,h3,h4,h5⟩:=ho.2 p c hc;obtain⟨h6,h7⟩:=h3.keepC h5 (fun b hb=>ev.al hb) ev.boxes;grind[yK]
  |ar k rows=>exact⟨us,e,by grind[bZ,CW],by rw[bZ],ho.1,ho.2.mono fun b hb=>ev.al hb⟩
  |dead=>exact ho.elim
  |fz k rows=>exact ho.elim
theorem Si{t}{i}{z}(h1:P.info? t=some i)(h2:i.zero=some z)(w):(zeroValue t).run P w=.ok z w:=by simp_all[zeroValue,typeInfo]
def Wg{cs}{us}{A}(hc:Cells w A ρ h cs us)(hd:cs.all aI=true):af7 w A ρ h us (.bx cs):=
 ⟨Nat.le_of_eq hc.1.symm,fun p c hp=>by
  have h1:=List.all_eq_true.1 hd c (aE6 hp);obtain⟨u,hu⟩:∃u,us[p]?=some u:=⟨us[p]'(by have:=(List.getElem?_eq_some_iff.1 hp).1;have:=hc.1;omega),Array.getElem?_eq_getElem _⟩;exact⟨by cases c<;>simp[aI]at h1<;>rfl,u,hu,hc.2.2 p c u hp hu,hc.2.1 p u hu,CU h1⟩⟩
theorem Za:∀l cs,ME l=some cs->cs.all aI=true
 |[],cs,hc=>by grind[ME]
 |v::l,cs,hc=>by
  simp only[ME,aEQ]at hc;obtain⟨c,h1,q,h2,h3⟩:=hc;cases h3;have h4:aI c=true:=by unfold Y4 at h1;split at h1<;>cases h1<;>rfl
  simp[h4];simpa using Za l q h2
def Zb{t}{zs}(hz:oJ P t=some zs):zs.all aI=true:=by
 grind[oJ,aEQ,Za]
def pg{d}{a}{o}{ks}{x}{ks'}(hn:FT h d a o ks (h d)=some (x,h',ks')):h d=.dead/\x=a/\h'=upd h d o/\ks'=ks:=by
 grind[FT]
structure Got (w:World) (X:Nat->Prop) (ρ:fL) (h:aj) (w':World) (h':aj) (ks:K) (x:AV) (v:Value):Prop where
 ex:∃ρ',Rel w' X ρ' h'/\Evo w ρ h w' ρ' h' ks/\RV w' (aN w' X h' ρ') ρ' h' x v
def acy{t}{zs}(r:Rel w X ρ h)(hz:oJ P t=some zs){d}(hdp:bu d=false){x}{ks}(hn:qY h d zs []=some (x,h',ks)):
  ∃v w',(Instr.alloc t true (.tuple #[])).run P w=.ok v w'/\Got w X ρ h w' h' ks x v:=by
 obtain⟨h1,rfl,rfl,rfl⟩:=pg hn;obtain⟨i,z,g1,g2,g3,g4,g5⟩:=sJ (w:=w) (A:=aN w X h ρ) (ρ:=ρ) (h:=h) hz;obtain⟨g6,g7⟩:=Fj (e:=t) r hdp h1 (Wg g5 (Zb hz));refine⟨.pointer (some ⟨w.heap.size,0,none⟩),_,?_,⟨_,g6,g7,?_⟩⟩
 ·simp_all[Instr.alloc,Sem.run_bind,Si,Result.andThen,newVar,newRow]
 ·have:=RV.ref (w:=w.alloc (.cells z.cells t)) (A:=aN (w.alloc (.cells z.cells t)) X (upd h d (.bx zs)) (qt ρ d none (w.heap.size,z.cells.size))) (ρ:=qt ρ d none (w.heap.size,z.cells.size)) (h:=upd h d (.bx zs)) d none 0 0 0 (by simp[cZ,aD]);grind[bZ]
end
section
variable {P:Program} {w:World} {X:Nat→Prop} {ρ:fL} {h h':aj}
theorem IA(a:Addr):a.add 0=a:=by simp_all[Addr.add,if_pos]
theorem adp{c}(hc:bI c=false):pe c=c:=by cases c<;>first|rfl|simp[bI]at hc
theorem Rel.cell(r:Rel w X ρ h){id}{cs}(e:h id=.bx cs):∃us t,w.heap[(ρ id none).1]?=some (.cells us t (0,0))/\us.size=(ρ id none).2/\O cs<=us.size/\
  ∀p c,cs[p]?=some c->∃u,us[p]?=some u/\RC w (aN w X h ρ) ρ h id p c u:=by
 have ho:=r.ob id;rw[e]at ho;exact ho
def acz(r:Rel w X ρ h){ty}{k}{g}(hg:xU P ty=some g)(hk:bQ P ty=some k){id p}{cs}(e:h id=.bx cs){z}{ks}(hz:Kz h id p k g cs=some (z,h',ks)):
  ∃v,(loadVar ty ⟨(ρ id none).1,p,none⟩).run P w=.ok v w/\Rel w X ρ h'/\Evo w ρ h w ρ h' ks/\RV w (aN w X h' ρ) ρ h' z v:=by
 have key:∀h1 ds,Rel w X ρ h1->h1 id=.bx ds->g=true->p+k<=O ds->(∀c∈ (ds.drop p).take k,bI c=false)->
   ∃v,(loadVar ty ⟨(ρ id none).1,p,none⟩).run P w=.ok v w/\RV w (aN w X h1 ρ) ρ h1 (.agg ((ds.drop p).take k)) v:=by
  intro h1 ds r1 e1 hgt hle hn;obtain⟨us,t,g1,g2,g3,g4⟩:=r1.cell e1;have cell:∀j c,((ds.drop p).take k)[j]?=some c->us[p+j]?=some ((us[p+j]?).getD undef)/\RV w (aN w X h1 ρ) ρ h1 c ((us[p+j]?).getD undef)/\((us[p+j]?).getD undef).oneCell'=true:=by
   grind[yK,List.mem_of_getElem]
  have:=D5 (P:=P) (ρ:=ρ) (h:=h1) (A:=aN w X h1 ρ) (off:=0) hg hk (cs:=(ds.drop p).take k) (ad:=⟨(ρ id none).1,p,none⟩) (z:=.agg ((ds.drop p).take k)) (vals:=fun j=>(us[p+j]?).getD undef)
   (fun j c hc=>by grind[sG,GV]) (fun j c hc=>(cell j c hc).2) (by
    have hl:O ((ds.drop p).take k)=k:=γ
    simp_all[nO,if_true,if_pos,aFX,aFi])
  grind[IA]
 unfold Kz at hz;cases g with
 |true=>
  simp only[if_true]at hz;split at hz
  ·rename_i hle;split at hz
   ·obtain⟨r1,e1⟩:=MI r e (ds:=cs.map pe) σ (fun q c hq=>by
     grind[bI,adp])
    obtain⟨v,h1,h2⟩:=key _ _ r1 (aD _ _ _) rfl γ (fun c hc=>by
     have:=List.mem_of_mem_drop (List.mem_of_mem_take hc);simp only[aFN]at this;obtain⟨c',_,rfl⟩:=this;cases c'<;>rfl)
    grind
   ·cases hz;obtain⟨v,h1,h2⟩:=key _ _ r e rfl hle (fun c hc=>by
     grind)
    exact⟨v,h1,r,.refl _ _ _,h2⟩
  grind
 |false=>
  simp only[aFv,if_false,aEU]at hz;obtain⟨c,hc,e3⟩:=hz;cases e3;obtain⟨us,t,g1,g2,g3,g4⟩:=r.cell e;obtain⟨u,f1,f2⟩:=g4 p c hc;refine⟨u,Jh hg (by grind[GV]),r,.refl _ _ _,?_⟩;cases hO:bI c with
  |true=>
   cases c<;>simp[bI]at hO;rename_i k' rows;obtain⟨a,cap,us',t',e1,e2,e3,e4,e5,e6,e7⟩:=f2;subst e1;exact .rsl id (some p) k' 0 (O rows) cap a ⟨cs,k',rows,e,hc⟩ e3 γ γ
  |false=>
   rw[yK hO]at f2;have:EW id p c=c:=by cases c<;>first|rfl|simp[bI]at hO
   grind
def PH(r:Rel w X ρ h){ty}{k}{g}(hg:xU P ty=some g)(hk:bQ P ty=some k){x z}{u}{ks}(hx:RV w (aN w X h ρ) ρ h x u)(hz:kY h k g x=some (z,h',ks)):
  ∃ad v,u=.pointer (some ad)/\(loadVar ty ad).run P w=.ok v w/\Rel w X ρ h'/\Evo w ρ h w ρ h' ks/\RV w (aN w X h' ρ) ρ h' z v:=by
 cases x with
 |ipt cs=>
  simp only[kY,aEU]at hz;obtain⟨a,h1,h2⟩:=hz;cases h2;cases hx with
  |dat hd=>cases hd
  |ipt _ ad vals hA hs hv hl hr=>
   obtain⟨v,f1,f2⟩:=D5 (P:=P) (ρ:=ρ) (h:=h) (A:=aN w X h ρ) (off:=0) hg hk hv (fun j c hc=>⟨.dat (hr j c hc),(hr j c hc).one (hl c (aE6 hc))⟩) h1;exact⟨ad,v,rfl,by rwa[IA]at f1,r,.refl _ _ _,f2⟩
 |ref id sub k0 i j=>
  obtain⟨rfl,hp⟩:=hx.ref_inv;cases sub with
  |none=>
   simp only[kY]at hz;cases e:h id with
   |dead=>rw[e]at hz;cases hz
   |bx cs=>
    rw[e]at hz;obtain⟨v,f1,f2,f3,f4⟩:=acz (P:=P) r hg hk e hz;grind
   |ar k' rows=>
    rw[e]at hz;have ho:=r.ob id;rw[e]at ho;obtain⟨us,t,g1,g2,g3,g4⟩:=ho;obtain⟨rfl,rfl,v,f1,f2⟩:=Ji (P:=P) (ρ:=ρ) hg hk g1 g4 hz;exact⟨_,v,rfl,f1,r,.refl _ _ _,f2⟩
   |fz k' rows=>
    rw[e]at hz;have ho:=r.ob id;rw[e]at ho;obtain⟨_,us,t,fr,g1,g2,g3,g4⟩:=ho;obtain⟨rfl,rfl,v,f1,f2⟩:=Ji (P:=P) (ρ:=ρ) hg hk g1 g4 hz;exact⟨_,v,rfl,f1,r,.refl _ _ _,f2⟩
  |some p=>
   simp only[kY]at hz;cases e:h id with
   |bx cs=>
    rw[e]at hz;simp only[ni]at hz;cases e2:cs[p]? with
    |none=>rw[e2]at hz;cases hz
    |some c=>
     rw[e2]at hz;cases c<;>simp only[BA]at hz<;>try (cases hz;done)
     obtain⟨us,t,g1,g2,g3,g4⟩:=r.cell e;obtain⟨u,f1,a,cap,us',t',e1,e2',e3,e4,e5,e6,e7⟩:=g4 p _ e2;obtain⟨rfl,rfl,v,f1,f2⟩:=Ji (P:=P) (ρ:=ρ) hg hk e4 e7 hz;exact⟨_,v,rfl,f1,r,.refl _ _ _,f2⟩
   |_=>rw[e]at hz;cases hz
 |_=>cases hz
def ef(us:Array Value)(o:Nat)(vs:List Value):Array Value:=(us.toList.take o++vs++us.toList.drop (o+O vs)).toArray
theorem iX{us}{o}{vs}(hle:o+O vs<=us.size)(q):(ef us o vs)[q]?=if o<=q/\q<o+O vs then vs[q-o]? else us[q]?:=by
 unfold ef;grind
theorem eZ{us}{o}{vs}(hle:o+O vs<=us.size):(ef us o vs).size=us.size:=by
 grind[ef]
theorem sL{us}{o}{vs}(hle:o+O vs<=us.size)(hs:∀j v,vs[j]?=some v->us[o+j]?=some v):ef us o vs=us:=by
 apply Array.ext_getElem?;intro q;rw[iX hle];grind
theorem aiz{us}{o}{v}{vs}(hle:o+O (v::vs)<=us.size):ef (ef us o [v]) (o+1) vs=ef us o (v::vs):=by
 have h1:o+[v].length<=us.size:=γ
 apply Array.ext_getElem?;intro q;rw[iX (by grind[eZ]),iX h1,iX ω];grind
def AD{ty}{k}(hk:bQ P ty=some k){v}(hv:v.cells.size=k)(h1:∀u∈v.cells.toList,u.oneCell'=true){b o}{us}{t}
  (hb:w.heap[b]?=some (.cells us t (0,0))) (hle:o+k<=us.size):(storeVar ty ⟨b,o,none⟩ v).run P w=.ok () (w.setRow b (ef us o v.cells.toList)):=by
 have:=run_storeCells_at P b o t v.cells.toList 0 us w hb γ h1
 simp_all[storeVar,Sem.run_bind,jI,Result.andThen,ne_eq,not_true_eq_false,if_false,ef]
end
section
variable {P:Program} {w w':World} {X:Nat→Prop} {ρ ρ':fL} {h h':aj} {A A':Nat→Prop}
def RC.keep{id p}{c}{u}(hc:RC w A ρ h id p c u)(hA:∀b,A b->A' b/\w'.heap[b]?=w.heap[b]?)(hB:∀id,bf (h id)=true->bf (h' id)=true/\ρ' id none=ρ id none)
  (hρ:ρ' id (some p)=ρ id (some p)) (hb:bI c=true->w'.heap[(ρ id (some p)).1]?=w.heap[(ρ id (some p)).1]?):RC w' A' ρ' h' id p c u:=by
 cases hO:bI c with
 |true=>
  cases c<;>simp[bI]at hO;obtain⟨a,cap,us',t',g1,g2,g3,g4,g5,g6,g7⟩:=hc;exact⟨a,cap,us',t',g1,by grind,g3,by rw[hρ,hb rfl,g4],by grind,g6,g7.mono hA⟩
 |false=>
  rw[yK hO]at hc⊢;obtain⟨g1,g2⟩:=hc.1.keepC hc.2.2 hA hB;grind
def D6(_r:Rel w X ρ h){id}{sub}(hl:live h id sub){o'}{ks:K}(us')(hlive:∀s,live (upd h id o') id s->live h id s)
  (hkeep:∀s,cZ h id s->lF ks id s=false->cZ (upd h id o') id s) (hbf:bf (h id)=true->bf o'=true):Evo w ρ h (w.setRow (ρ id sub).1 us') ρ (upd h id o') ks:=by
 have hl':∀id' s,live (upd h id o') id' s->live h id' s:=by
  grind[eu,aW]
 refine⟨rfl,rfl,rfl,by simp,fun b _ ho=>setRow_other w _ b us' (fun e=>ho ⟨id,sub,hl,e.symm⟩),fun id' s hp hk=>⟨?_,rfl⟩,fun b ho=>?_,fun id' hb=>⟨?_,rfl⟩,fun id' _ hd=>⟨Fi (fun e=>by cases sub<;>simp[live,e]at hl) hd,rfl⟩⟩
 ·grind[iu,aW]
 ·obtain⟨id',s,h1,h2⟩:=ho;exact .inl ⟨id',s,hl' id' s h1,h2⟩
 grind[aD,aW]
def yL(r:Rel w X ρ h){id}{sub}(hl:live h id sub){o'}{ks}(us')(hlive:∀s,live (upd h id o') id s->live h id s)
  (ev:Evo w ρ h (w.setRow (ρ id sub).1 us') ρ (upd h id o') ks) (ho:RO (w.setRow (ρ id sub).1 us') (aN (w.setRow (ρ id sub).1 us') X (upd h id o') ρ) ρ (upd h id o') id o'):Rel (w.setRow (ρ id sub).1 us') X ρ (upd h id o'):=by
 have hl':∀id' s,live (upd h id o') id' s->live h id' s:=by
  grind[eu,aW]
 refine r.step ev (·=id) (fun id' hi=>⟨aW h _ hi,fun _=>rfl,fun s h1=>setRow_other w _ _ us' fun e=>hi (r.inj id' s id sub h1 hl e).1⟩) (fun a b c d h1 h2=>r.inj a b c d (hl' a b h1) (hl' c d h2)) (fun a b h1=>r.nx a b (hl' a b h1)) (fun id' hi=>?_);grind[aD]
def wrB(r:Rel w X ρ h){id p}{cs xs}(e:h id=.bx cs){us}{t}(hb:w.heap[(ρ id none).1]?=some (.cells us t (0,0))){vals}(hlen:O vals=O xs)
  (hx:∀ (m:Nat) c u,xs[m]?=some c->vals[m]?=some u->bI c=false/\RV w (aN w X h ρ) ρ h c u/\u.oneCell'=true/\qZ h c) (hle:p+O xs<=O cs):
  Rel (w.setRow (ρ id none).1 (ef us p vals)) X ρ (upd h id (.bx (setRow cs p xs)))/\Evo w ρ h (w.setRow (ρ id none).1 (ef us p vals)) ρ (upd h id (.bx (setRow cs p xs))) (if((cs.drop p).take (O xs)).any bI then [(id,true)]else []):=by
 have hln:live h id none:=by grind[live]
 obtain⟨us0,t0,g1,g2,g3,g4⟩:=r.cell e;rw[hb]at g1;cases g1;have hov:p+O vals<=us.size:=ω
 have hlive:∀s,live (upd h id (.bx (setRow cs p xs))) id s->live h id s:=by
  intro s h1;cases s with
  |none=>omega
  |some q=>
   obtain⟨cs',k,rows,h2,h3⟩:=h1;rw[aD]at h2;cases h2;rw[zV q xs cs p hle]at h3;split at h3
   ·obtain⟨u,hu⟩:∃u,vals[q-p]?=some u:=⟨vals[q-p]'(by omega),aE1 _⟩;grind[bI]
   ·exact⟨cs,k,rows,e,h3⟩
 have hkeep:∀s,cZ h id s->lF (if((cs.drop p).take (O xs)).any bI then [(id,true)]else []) id s=false->cZ (upd h id (.bx (setRow cs p xs))) id s:=by
  intro s hp hk;cases s with
  |none=>simp[cZ,aD]
  |some q=>
   obtain⟨cs',k,rows,h2,h3⟩:=hp;rw[e]at h2;cases h2;refine⟨setRow cs p xs,k,rows,aD _ _ _,?_⟩;rw[zV q xs cs p hle];split
   ·have:((cs.drop p).take (O xs)).any bI=true:=List.any_eq_true.2 ⟨.osl k rows,by
     refine aE6 (i:=q-p) ?_;grind,rfl⟩
    grind[lF]
   omega
 have ev:=D6 (X:=X) r hln (ef us p vals) hlive hkeep (fun _=>rfl);refine⟨yL r hln (ef us p vals) hlive ev ?_,ev⟩;refine⟨ef us p vals,t,setRow_heap w _ us _ t _ hb,by grind[eZ],by grind[eZ,FX],fun q c hq=>?_⟩;rw[zV q xs cs p hle]at hq;rw[iX hov];split at hq
 ·obtain⟨u,hu⟩:∃u,vals[q-p]?=some u:=⟨vals[q-p]'(by omega),aE1 _⟩;obtain⟨f1,f2,f3,f4⟩:=hx _ _ _ hq hu;obtain⟨f5,f6⟩:=f2.keepC f4 (fun b hb=>ev.al hb) ev.boxes;grind[yK]
 ·rw[if_neg ω];obtain⟨u,f1,f2⟩:=g4 q c hq;refine⟨u,f1,f2.keep (fun b hb=>ev.al hb) ev.boxes rfl (fun hO=>?_)⟩;cases c<;>simp[bI]at hO;exact setRow_other w _ _ _ fun e2=>absurd (r.inj id (some q) id none ⟨cs,_,_,e,hq⟩ hln e2).2 σ
def mvB(r:Rel w X ρ h){id p id0 k cap}{cs}{rows}{a}(e:h id=.bx cs){us}{t}(hb:w.heap[(ρ id none).1]?=some (.cells us t (0,0)))(e0:h id0=.ar k rows)
  (hn:O rows<=cap) (hc:cap*k=(ρ id0 none).2) (ha:cap=0\/a=some ⟨(ρ id0 none).1,0,none⟩) (hp:p<O cs):
  Rel (w.setRow (ρ id none).1 (ef us p [.slice a (O rows) cap])) X (qt ρ id (some p) (ρ id0 none)) (upd (upd h id0 .dead) id (.bx (cs.set p (.osl k rows))))/\
   Evo w ρ h (w.setRow (ρ id none).1 (ef us p [.slice a (O rows) cap])) (qt ρ id (some p) (ρ id0 none)) (upd (upd h id0 .dead) id (.bx (cs.set p (.osl k rows)))) ([(id0,false)]++(if(cs[p]?).any bI then [(id,true)]else [])):=by
 have hln:live h id none:=by grind[live]
 have hl0:live h id0 none:=by grind[live]
 have hne:id0≠id:=γ
 obtain⟨us0,t0,g1,g2,g3,g4⟩:=r.cell e;rw[hb]at g1;cases g1;have hov:p+[Value.slice a (O rows) cap].length<=us.size:=γ
 have hρ:∀id' s,¬ (id'=id/\s=some p)->qt ρ id (some p) (ρ id0 none) id' s=ρ id' s:=fun id' s hh=>JE hh;have hl:∀id' s,live (upd (upd h id0 .dead) id (.bx (cs.set p (.osl k rows)))) id' s->(id'=id/\s=some p)\/(¬ (id'=id/\s=some p)/\id'≠id0/\live h id' s):=by
  intro id' s h1;by_cases hi:id'=id
  ·subst hi;cases s with
   |none=>grind
   |some q=>
    by_cases hq:q=p
    ·grind
    ·obtain⟨cs',k',rows',h2,h3⟩:=h1;rw[aD]at h2;cases h2;rw[List.getElem?_set_ne (fun e=>hq e.symm)]at h3;exact .inr ⟨by grind,fun e=>hne e.symm,⟨cs,k',rows',e,h3⟩⟩
  ·by_cases hi0:id'=id0
   ·subst hi0;exfalso;have:=(eu (aW (upd h id' .dead) (.bx (cs.set p (.osl k rows))) hi)).1 h1;cases s<;>simp[live,aD]at this
   grind[eu,aW,upd]
 have blk:∀id' s,live (upd (upd h id0 .dead) id (.bx (cs.set p (.osl k rows)))) id' s->∃id2 s2,live h id2 s2/\(qt ρ id (some p) (ρ id0 none) id' s).1=(ρ id2 s2).1/\((id'=id/\s=some p/\id2=id0/\s2=none)\/(id2=id'/\s2=s/\id2≠id0)):=by
  grind[bZ]
 have ev:Evo w ρ h (w.setRow (ρ id none).1 (ef us p [.slice a (O rows) cap])) (qt ρ id (some p) (ρ id0 none)) (upd (upd h id0 .dead) id (.bx (cs.set p (.osl k rows)))) ([(id0,false)]++(if(cs[p]?).any bI then [(id,true)]else [])):=by
  refine⟨rfl,rfl,rfl,by simp,fun b _ ho=>setRow_other w _ b _ (fun e=>ho ⟨id,none,hln,e.symm⟩),fun id' s hps hk=>?_,fun b ho=>?_,fun id' hbf=>?_,fun id' _ hnd=>⟨fun e1=>?_,hρ _ _ σ⟩⟩
  ·have hi0:id'≠id0:=by grind[lF]
   by_cases hi:id'=id
   ·subst hi;cases s with
    |none=>grind[cZ,aD]
    |some q=>
     obtain⟨cs',k',rows',h2,h3⟩:=hps;rw[e]at h2;cases h2;have hq:q≠p:=by
      grind[bI,lF]
     exact⟨⟨_,k',rows',aD _ _ _,by grind⟩,hρ _ _ γ⟩
   grind[iu,aW]
  ·obtain⟨id',s,h1,h2⟩:=ho;obtain⟨id2,s2,h3,h4,_⟩:=blk id' s h1;exact .inl ⟨id2,s2,h3,h4.symm.trans h2⟩
  all_goals grind[bf,aD,aW]
 refine⟨r.step ev (fun i=>i=id\/i=id0) (fun id' hi=>?_) (fun i s i' s' h1 h2 h3=>?_) (fun i s h1=>?_) (fun id' hi=>?_),ev⟩
 ·simp only[not_or]at hi;exact⟨by rw[aW _ _ hi.1,aW _ _ hi.2],fun s=>hρ _ _ ω,fun s h1=>setRow_other w _ _ _ fun e=>hi.1 (r.inj id' s id none h1 hln e).1⟩
 ·obtain⟨i2,s2,f1,f2,f3⟩:=blk i s h1;obtain⟨i3,s3,f4,f5,f6⟩:=blk i' s' h2;obtain⟨rfl,rfl⟩:=r.inj i2 s2 i3 s3 f1 f4 ω;grind
 ·obtain⟨i2,s2,f1,f2,_⟩:=blk i s h1;rw[f2];exact r.nx _ _ f1
 ·rcases hi with rfl|rfl
  ·rw[aD];refine⟨ef us p [.slice a (O rows) cap],t,by grind[setRow_heap],by grind[eZ],by grind[eZ,aFR],fun q c hq=>?_⟩;rw[iX hov];by_cases hqp:q=p
   ·subst hqp;rw[List.getElem?_set_self hp]at hq;cases hq;rw[if_pos σ];refine⟨.slice a (O rows) cap,by simp,?_⟩;have ho:=r.ob id0;rw[e0]at ho;obtain⟨us1,t1,f1,f2,f3,f4⟩:=ho;refine⟨a,cap,us1,t1,rfl,by grind[bZ],hn,?_,by grind[bZ],by omega,f4.mono fun b hb=>ev.al hb⟩;rw[bZ,setRow_other w _ _ _ (fun e2=>hne (r.inj id0 none id' none hl0 hln e2).1)];omega
   ·rw[List.getElem?_set_ne (fun e=>hqp e.symm)]at hq;rw[if_neg γ];obtain⟨u,f1,f2⟩:=g4 q c hq;refine⟨u,f1,f2.keep (fun b hb=>ev.al hb) ev.boxes (hρ _ _ γ) (fun hO=>?_)⟩;cases c<;>simp[bI]at hO;exact setRow_other w _ _ _ fun e2=>absurd (r.inj id' (some q) id' none ⟨cs,_,_,e,hq⟩ hln e2).2 σ
  ·rw[aW _ _ hne,aD];trivial
end
section
variable {P:Program} {w w':World} {X:Nat→Prop} {ρ ρ':fL} {h h':aj} {A A':Nat→Prop}
def af8(w:World)(X:Nat->Prop)(ρ:fL)(h h':aj)(y:AV)(u:Value)(ks:K):Prop:=
 (Rel w X ρ h'/\Evo w ρ h w ρ h' ks/\bI y=false/\RV w (aN w X h' ρ) ρ h' y u/\qZ h' y)\/
  (∃id0 k rows0 rows cap a,h id0=.ar k rows0/\(∃m,rows=rows0.take m)/\y=.osl k rows/\h'=upd h id0 .dead/\ks=[(id0,false)]/\u=.slice a (O rows) cap/\O rows<=cap/\cap*k=(ρ id0 none).2/\(cap=0\/a=some ⟨(ρ id0 none).1,0,none⟩))
theorem Ur{c}(hd:aI c=true):bI c=false:=by cases c<;>simp[aI]at hd<;>rfl
def aiA(r:Rel w X ρ h){x y}{u}{ks}(hx:RV w (aN w X h ρ) ρ h x u)(h1:u.oneCell'=true)(hi:LS h x=some (y,h',ks)):af8 w X ρ h h' y u ks:=by
 have dl:aI x=true->LS h x=some (x,h,[])->af8 w X ρ h h' y u ks:=fun hd hq=>by
  rw[hq]at hi;obtain⟨rfl,rfl,rfl⟩:=hi;exact .inl ⟨r,.refl _ _ _,Ur hd,hx,CU hd⟩
 have fr:Rel w X ρ h'/\Evo w ρ h w ρ h' ks/\RD w (aN w X h' ρ) y u/\aI y=true->af8 w X ρ h h' y u ks:=
  fun⟨f1,f2,f3,f4⟩=>.inl ⟨f1,f2,Ur f4,.dat f3,CU f4⟩
 cases x with
 |rsl id sub k lo n=>
  obtain⟨a,cap,rfl,hp,hn,hb,ha⟩:=hx.rsl_inv;cases sub with
  |some p=>exact fr (Sg r hn ha hi)
  |none=>
   simp only[LS]at hi;have other:V9 h id k lo n (h id)=qX h id k lo n (h id)->af8 w X ρ h h' y (.slice a n cap) ks:=fun hq=>by
    grind[Sf]
   cases e:h id with
   |ar k' rows=>
    by_cases hk:k'=k
    ·subst hk;by_cases hw:lo=0/\n=O rows
     ·obtain⟨rfl,rfl⟩:=hw;rw[e]at hi;simp only[V9,and_self,if_true]at hi;cases hi;exact .inr ⟨id,k',rows,rows,cap,a,e,⟨O rows,List.take_length.symm⟩,rfl,rfl,rfl,rfl,hn,by grind,by grind⟩
     ·by_cases hw2:lo=0/\n<=O rows
      ·obtain⟨rfl,hle⟩:=hw2;rw[e]at hi;simp only[V9,if_true]at hi;rw[if_neg (fun h=>hw ⟨rfl,h.2⟩),if_pos ⟨trivial,hle⟩]at hi;cases hi;have hlen:O (rows.take n)=n:=γ
       exact .inr ⟨id,k',rows,rows.take n,cap,a,e,⟨n,rfl⟩,rfl,rfl,rfl,by rw[hlen],by omega,by grind,by grind⟩
      grind[V9]
    grind[V9]
   |_=>exact other (by rw[e];rfl)
 |ref id sub k i j=>
  cases sub with
  |some p=>grind[LS,aI]
  |none=>
   simp only[LS]at hi;cases e:h id<;>rw[e]at hi<;>simp only[inP]at hi<;>cases hi;exact .inl ⟨r,.refl _ _ _,rfl,hx,by grind[qZ,bf]⟩
 |fn f a b=>
  simp only[LS]at hi;split at hi
  ·rename_i hd;cases hi;exact .inl ⟨r,.refl _ _ _,rfl,hx,hd⟩
  grind
 |any=>exact dl rfl rfl
 |v x=>exact dl rfl rfl
 |emp=>exact dl rfl rfl
 |sl k rows=>exact dl rfl rfl
 |_=>simp[LS,aI]at hi
theorem aiB{α}(s)(d)(x y:α):upd (upd s d x) d y=upd s d y:=by
 grind[upd]
def aiC(r:Rel w X ρ h){id k m}{rows}(e:h id=.ar k rows):Rel w X ρ (upd h id (.ar k (rows.take m)))/\Evo w ρ h w ρ (upd h id (.ar k (rows.take m))) []:=by
 have hl:∀id' s,live (upd h id (.ar k (rows.take m))) id' s->live h id' s:=by
  intro id' s h1;by_cases hi:id'=id
  all_goals simp_all[live,aD,eu,aW]
 have ev:Evo w ρ h w ρ (upd h id (.ar k (rows.take m))) []:=by
  refine⟨rfl,rfl,rfl,aET _,fun _ _ _=>rfl,fun id' s hp hk=>⟨?_,rfl⟩,fun b ho=>?_,fun id' hb=>⟨?_,rfl⟩,fun id' _ hd=>⟨Fi γ hd,rfl⟩⟩
  ·by_cases hi:id'=id
   ·subst hi;cases s with
    |none=>simp[cZ,aD]
    |some q=>obtain⟨_,_,_,h2,_⟩:=hp;grind
   grind[iu,aW]
  ·obtain⟨id',s,h1,h2⟩:=ho;exact .inl ⟨id',s,hl id' s h1,h2⟩
  grind[bf,aW]
 refine⟨r.step ev (·=id) (fun id' hi=>⟨aW h _ hi,fun _=>rfl,fun _ _=>rfl⟩) (fun a b c d h1 h2=>r.inj a b c d (hl a b h1) (hl c d h2)) (fun a b h1=>r.nx a b (hl a b h1)) (fun id' hi=>?_),ev⟩;subst hi;have ho:=r.ob id';rw[e]at ho;obtain⟨us,t0,g1,g2,g3,g4⟩:=ho;rw[aD];refine⟨us,t0,g1,g2,aEX (aE4 k γ) g3,fun i row hr=>?_⟩;rw[List.getElem?_take]at hr;split at hr
 ·exact(g4.mono fun b hb=>ev.al hb) i row hr
 grind
def af9(r:Rel w X ρ h){id p}{cs}(e:h id=.bx cs){us}{t}(hb:w.heap[(ρ id none).1]?=some (.cells us t (0,0))){x y}{u}{h1}{k1 ks}
  (hx:RV w (aN w X h ρ) ρ h x u) (hu:u.oneCell'=true) (hi:LS h x=some (y,h1,k1)) (hs:Qe h1 id p y k1 (h1 id)=some (h',ks)):
  ∃ρ',Rel (w.setRow (ρ id none).1 (ef us p [u])) X ρ' h'/\Evo w ρ h (w.setRow (ρ id none).1 (ef us p [u])) ρ' h' ks/\ρ' id none=ρ id none/\p<us.size/\∃cs',h' id=.bx cs':=by
 obtain⟨us0,t0,g1,g2,g3,g4⟩:=r.cell e;rw[hb]at g1;cases g1;rcases aiA r hx hu hi with⟨f1,f2,f3,f4,f5⟩| ⟨id0,k,rows0,rows,cap,a,e0,⟨mm,hmm⟩,rfl,rfl,rfl,rfl,f2,f3,f4⟩
 ·cases e1:h1 id with
  |bx cs1=>
   rw[e1]at hs;simp only[Qe]at hs;split at hs
   ·cases hs;obtain⟨w1,w2⟩:=wrB (vals:=[u]) (xs:=[y]) (p:=p) f1 e1 hb rfl (fun m c v hc hv=>by
     grind) γ
    refine⟨ρ,w1,?_,rfl,?_,_,aD _ _ _⟩
    ·have w3:=f2.trans w2;have h9:List.take 1 (List.drop p cs1)=[cs1[p]]:=by grind[aFe]
     have:(List.take [y].length (List.drop p cs1)).any bI=Option.any bI cs1[p]?:=by
      grind
     rw[this]at w3;exact w3
    ·obtain⟨us2,t2,q1,q2,q3,q4⟩:=f1.cell e1;omega
   grind
  |_=>rw[e1]at hs;cases hs
 ·have hne:id≠id0:=γ
  rw[aW _ _ hne,e]at hs;simp only[Qe]at hs;split at hs
  ·rename_i hp;cases hs;subst hmm;obtain⟨s1,s2⟩:=aiC r e0 (m:=mm);have e':(upd h id0 (.ar k (rows0.take mm))) id=.bx cs:=by grind[aW]
   obtain⟨w1,w2⟩:=mvB (p:=p) s1 e' hb (aD _ _ _) f2 f3 f4 hp;rw[aiB]at w1 w2;exact⟨_,w1,by simpa using s2.trans w2,JE σ,by omega,_,aD _ _ _⟩
  grind
def aiD{ks}{xs}{m:Nat}{c}(hc:(Gz ks xs)[m]?=some c):∃c',xs[m]?=some c'/\(c=c'/\(ks=[]\/men ks c'=false)\/c=.any):=by
 cases ks with
 |nil=>exact⟨c,hc,.inl ⟨rfl,.inl rfl⟩⟩
 |cons k ks=>
  grind[Gz,aEU,yc]
def Evo.rvk{ks}(e:Evo w ρ h w' ρ' h' ks){c}{u}(hv:RV w (aN w X h ρ) ρ h c u)(hm:ks=[]\/men ks c=false):RV w' (aN w' X h' ρ') ρ' h' c u:=by
 rcases hm with rfl|hm
 ·exact e.rv hv
 ·exact hv.keep2 (fun b hb=>e.al hb) (fun id sub hp hk=>e.keep id sub hp hk) hm
theorem Zc(ks)(xs):O (Gz ks xs)=O xs:=by cases ks<;>simp[Gz]
def He:∀n xs vals p {w} {ρ} {h h'} {ks} {id} {cs} {us} {t},Rel w X ρ h->h id=.bx cs->w.heap[(ρ id none).1]?=some (.cells us t (0,0))->
  O vals=O xs->(∀ (m:Nat) c u,xs[m]?=some c->vals[m]?=some u->RV w (aN w X h ρ) ρ h c u/\u.oneCell'=true)->p+O vals<=us.size->wN h id p n xs=some (h',ks)->
  ∃ρ',Rel (w.setRow (ρ id none).1 (ef us p vals)) X ρ' h'/\Evo w ρ h (w.setRow (ρ id none).1 (ef us p vals)) ρ' h' ks/\ρ' id none=ρ id none/\∃cs',h' id=.bx cs'
 |_,[],vals,p,w,ρ,h,h',ks,id,cs,us,t,r,e,hb,hlen,_,hle,hs=>by
  simp only[wN,Option.some.injEq,Prod.mk.injEq]at hs;obtain⟨rfl,rfl⟩:=hs;rw[sL hle (fun j v hv=>by grind),setRow_self w _ us t (0,0) hb];exact⟨ρ,r,.refl _ _ _,rfl,cs,e⟩
 |0,x::xs,_,_,_,_,_,_,_,_,_,_,_,_,_,_,_,_,_,hs=>by grind[wN]
 |n+1,x::xs,[],p,w,ρ,h,h',ks,id,cs,us,t,r,e,hb,hlen,hx,hle,hs=>by grind
 |n+1,x::xs,u::vals,p,w,ρ,h,h',ks,id,cs,us,t,r,e,hb,hlen,hx,hle,hs=>by
  simp only[wN,aEQ]at hs;obtain⟨⟨y,h1,k1⟩,e1,⟨h2,k2⟩,e2,⟨h3,k3⟩,e3,e4⟩:=hs;cases e4;obtain⟨f1,f2⟩:=hx 0 x u rfl rfl;obtain⟨ρ1,g1,g2,g3,g4,cs1,g5⟩:=af9 r e hb f1 f2 e1 e2;have hsz:(ef us p [u]).size=us.size:=eZ γ;have hb1:(w.setRow (ρ id none).1 (ef us p [u])).heap[(ρ1 id none).1]?=some (.cells (ef us p [u]) t (0,0)):=by grind[setRow_heap]
  obtain⟨ρ2,q1,q2,q3,q4⟩:=He n (Gz k2 xs) vals (p+1) g1 g5 hb1 (by grind[Zc]) (fun m c v hc hv=>by
   obtain⟨c',p1,p2⟩:=aiD hc;obtain⟨p3,p4⟩:=hx (m+1) c' v γ γ;refine⟨?_,p4⟩;rcases p2 with⟨rfl,p2⟩|rfl
   ·exact g2.rvk p3 p2
   ·exact .anyv v) γ e3
  rw[g3,setRow_setRow,aiz hle]at q1 q2;exact⟨ρ2,q1,g2.trans q2,q3.trans g3,q4⟩
def MK{k}{rows}{us}(hr:dG w A k rows us)(hs:O rows*k<=us.size){i j}{row xs}{vals}(hi:rows[i]?=some row)(hj:j+O xs<=O row)
  (hlen:O vals=O xs) (hx:∀ (m:Nat) c u,xs[m]?=some c->vals[m]?=some u->RD w A c u/\aI c=true):
  dG w A k (rows.set i (setRow row j xs)) (ef us (i*k+j) vals)/\i*k+j+O vals<=us.size:=by
 have hrow:=(hr i row hi).1;have hil:=(List.getElem?_eq_some_iff.1 hi).1;have h1:(i+1)*k<=O rows*k:=aE4 k hil;rw[aFf,Nat.one_mul]at h1;have hov:i*k+j+O vals<=us.size:=ω
 refine⟨fun i' row' hi'=>?_,hov⟩;by_cases e:i'=i
 ·subst e;rw[List.getElem?_set_self hil]at hi';cases hi';refine⟨by grind[FX],fun q c hq=>?_⟩;rw[zV q xs row j hj]at hq;rw[iX hov];split at hq
  ·obtain⟨u,hu⟩:∃u,vals[q-j]?=some u:=⟨vals[q-j]'(by omega),aE1 _⟩;grind
  ·rw[if_neg ω];exact(hr i' row hi).2 q c hq
 ·rw[List.getElem?_set_ne (fun x=>e x.symm)]at hi';obtain⟨h2,h3⟩:=hr i' row' hi';refine⟨h2,fun q c hq=>?_⟩;rw[iX hov,if_neg]
  ·grind
  ·rcases Nat.lt_or_gt_of_ne e with h5|h5
   ·have h6:=aE4 k h5;grind
   ·have h6:=aE4 k h5;grind
def wrA(r:Rel w X ρ h){id k i j}{rows}{row xs}(e:h id=.ar k rows){us}{t}(hb:w.heap[(ρ id none).1]?=some (.cells us t (0,0))){vals}(hlen:O vals=O xs)
  (hx:∀ (m:Nat) c u,xs[m]?=some c->vals[m]?=some u->RD w (aN w X h ρ) c u/\aI c=true) (hi:rows[i]?=some row) (hj:j+O xs<=O row):
  Rel (w.setRow (ρ id none).1 (ef us (i*k+j) vals)) X ρ (upd h id (.ar k (rows.set i (setRow row j xs))))/\Evo w ρ h (w.setRow (ρ id none).1 (ef us (i*k+j) vals)) ρ (upd h id (.ar k (rows.set i (setRow row j xs)))) []/\i*k+j+O vals<=us.size:=by
 have hln:live h id none:=by grind[live]
 have ho:=r.ob id;rw[e]at ho;obtain⟨us0,t0,g1,g2,g3,g4⟩:=ho;rw[hb]at g1;cases g1;have hlive:∀s,live (upd h id (.ar k (rows.set i (setRow row j xs)))) id s->live h id s:=by
  intro s h1;cases s with
  |none=>omega
  |some q=>obtain⟨_,_,_,h2,_⟩:=h1;grind[aD]
 have ev:Evo w ρ h (w.setRow (ρ id none).1 (ef us (i*k+j) vals)) ρ (upd h id (.ar k (rows.set i (setRow row j xs)))) []:=
  D6 (X:=X) r hln _ hlive (fun s hp _=>by
   cases s with
   |none=>simp[cZ,aD]
   |some q=>obtain⟨_,_,_,h2,_⟩:=hp;grind) (fun hbf=>by rw[e]at hbf;cases hbf)
 obtain⟨f1,f2⟩:=MK (g4.mono fun b hb=>ev.al hb) g3 hi hj hlen (fun m c u hc hu=>⟨ev.rd (hx m c u hc hu).1,(hx m c u hc hu).2⟩);exact⟨yL r hln _ hlive ev ⟨_,t,setRow_heap w _ us _ t _ hb,by grind[eZ],by grind[eZ,aFR],f1⟩,ev,f2⟩
def wrS(r:Rel w X ρ h){id p k i j}{cs}{rows}{row xs}(e:h id=.bx cs)(ep:cs[p]?=some (.osl k rows)){us}{t}(hb:w.heap[(ρ id (some p)).1]?=some (.cells us t (0,0)))
  {vals} (hlen:O vals=O xs) (hx:∀ (m:Nat) c u,xs[m]?=some c->vals[m]?=some u->RD w (aN w X h ρ) c u/\aI c=true) (hi:rows[i]?=some row) (hj:j+O xs<=O row):
  Rel (w.setRow (ρ id (some p)).1 (ef us (i*k+j) vals)) X ρ (upd h id (.bx (cs.set p (.osl k (rows.set i (setRow row j xs))))))/\Evo w ρ h (w.setRow (ρ id (some p)).1 (ef us (i*k+j) vals)) ρ (upd h id (.bx (cs.set p (.osl k (rows.set i (setRow row j xs)))))) []/\
   i*k+j+O vals<=us.size:=by
 have hlp:live h id (some p):=⟨cs,k,rows,e,ep⟩;have hln:live h id none:=by grind[live]
 have hpl:=(List.getElem?_eq_some_iff.1 ep).1;obtain⟨us0,t0,g1,g2,g3,g4⟩:=r.cell e;obtain⟨u0,q1,a,cap,us1,t1,rfl,q2,q3,q4,q5,q6,q7⟩:=g4 p _ ep;rw[hb]at q4;cases q4;have hlive:∀s,live (upd h id (.bx (cs.set p (.osl k (rows.set i (setRow row j xs)))))) id s->live h id s:=by
  intro s h1;cases s with
  |none=>omega
  |some q=>
   by_cases hq:q=p
   ·grind
   ·obtain⟨cs',k',rows',h2,h3⟩:=h1;rw[aD]at h2;cases h2;rw[List.getElem?_set_ne (fun e=>hq e.symm)]at h3;exact⟨cs,k',rows',e,h3⟩
 have ev:Evo w ρ h (w.setRow (ρ id (some p)).1 (ef us (i*k+j) vals)) ρ (upd h id (.bx (cs.set p (.osl k (rows.set i (setRow row j xs)))))) []:=
  D6 (X:=X) r hlp _ hlive (fun s hp _=>by
   cases s with
   |none=>simp[cZ,aD]
   |some q=>
    by_cases hq:q=p
    ·subst hq;exact⟨_,k,_,aD _ _ _,List.getElem?_set_self hpl⟩
    ·obtain⟨cs',k',rows',h2,h3⟩:=hp;exact⟨_,k',rows',aD _ _ _,by grind⟩) (fun _=>rfl)
 obtain⟨f1,f2⟩:=MK (q7.mono fun b hb=>ev.al hb) (aEX (aE4 k q3) (Nat.le_of_eq q6)) hi hj hlen (fun m c u hc hu=>⟨ev.rd (hx m c u hc hu).1,(hx m c u hc hu).2⟩);refine⟨yL r hlp _ hlive ev ?_,ev,f2⟩;have oth:∀s,live h id s->s≠some p->(w.setRow (ρ id (some p)).1 (ef us (i*k+j) vals)).heap[(ρ id s).1]?=w.heap[(ρ id s).1]?:=fun s h1 h2=>setRow_other w _ _ _ fun e2=>h2 (r.inj id s id (some p) h1 hlp e2).2;refine⟨us0,t0,by grind,g2,by grind,fun q c hq=>?_⟩;by_cases hqp:q=p
 ·subst hqp;rw[List.getElem?_set_self hpl]at hq;cases hq;exact⟨_,q1,a,cap,_,t,by rw[aFR],q2,by grind,setRow_heap w _ us _ t _ hb,by grind[eZ],by grind[eZ],f1⟩
 ·rw[List.getElem?_set_ne (fun e=>hqp e.symm)]at hq;obtain⟨u,f3,f4⟩:=g4 q c hq;refine⟨u,f3,f4.keep (fun b hb=>ev.al hb) ev.boxes rfl (fun hO=>?_)⟩;cases c<;>simp[bI]at hO;exact oth (some q) ⟨cs,_,_,e,hq⟩ γ
end
section
variable {P:Program} {w w':World} {X:Nat→Prop} {ρ ρ':fL} {h h':aj} {A A':Nat→Prop}
theorem Cells.toList{cs}{us}(hc:Cells w A ρ h cs us):O us.toList=O cs/\(∀u∈us.toList,u.oneCell'=true)/\
  ∀ (m:Nat) c u,cs[m]?=some c->us.toList[m]?=some u->RV w A ρ h c u/\u.oneCell'=true:=by
 refine⟨by simpa using hc.1,fun u hu=>?_,fun m c u h1 h2=>?_⟩
 ·obtain⟨i,hi⟩:=aFL hu;exact hc.2.1 i u γ
 ·exact⟨hc.2.2 m c u h1 γ,hc.2.1 m u γ⟩
def KM{A0}{h0}{cs ds}{us}{ks}(r:Rel w X ρ h)(hA:∀b,A0 b->aN w X h ρ b)(hc:Cells w A0 ρ h0 cs us)(he:kX h cs=some (ds,h',ks)):
  Rel w X ρ h'/\Evo w ρ h w ρ h' ks/\O ds=O cs/\∀ (m:Nat) c u,ds[m]?=some c->us.toList[m]?=some u->RD w (aN w X h' ρ) c u/\aI c=true:=by
 obtain⟨f1,f2,f3,f4,f5⟩:=Jg cs (us:=us) 0 r hA (fun i c u h1 h2=>⟨hc.2.2 i c u h1 γ,hc.2.1 i u γ⟩) (by rw[hc.1];omega) he;grind
def Wh{k k0 i j k'}{xs}{rows q}(hs:vX k k0 i j xs k' rows=some q):k'=k0/\∃row,rows[i]?=some row/\j+k<=O row/\q=rows.set i (setRow row j xs):=by
 grind[vX,aEQ]
def Zd(r:Rel w X ρ h){ty}{k}(hk:bQ P ty=some k){a x z}{ua ux}{ks}(ha:RV w (aN w X h ρ) ρ h a ua)(hx:RV w (aN w X h ρ) ρ h x ux)(hz:pC h k a x=some (z,h',ks)):
  ∃ad w' ρ',z=.und/\ua=.pointer (some ad)/\(storeVar ty ad ux).run P w=.ok () w'/\Rel w' X ρ' h'/\Evo w ρ h w' ρ' h' ks:=by
 simp only[pC,aEQ]at hz;obtain⟨xs,e0,hz⟩:=hz;have hc:=E4 hx e0;obtain⟨c1,c2,c3⟩:=hc.toList;split at hz
 ·rename_i hlen;subst hlen;have hsz:=hc.1;cases a with
  |ref id sub k0 i j=>
   obtain⟨rfl,hp⟩:=ha.ref_inv;cases sub with
   |none=>
    simp only at hz;cases e:h id with
    |bx cs=>
     rw[e]at hz;simp only[Jd,Uj]at hz;split at hz
     ·rename_i hle;obtain⟨us,t,g1,g2,g3,g4⟩:=r.cell e;have run:=AD hk hsz c2 g1 (o:=i*k0+j) ω;split at hz
      ·obtain⟨f1,f2⟩:=wrB r e g1 c1 (fun m c u h1 h2=>by
        grind[Ur,CU]) hle
       grind
      ·simp only[aEU,Prod.mk.injEq]at hz;obtain⟨⟨h2,k2⟩,e2,hzu,rfl,rfl⟩:=hz;obtain⟨ρ',f1,f2,_⟩:=He (O xs) xs ux.cells.toList (i*k0+j) r e g1 c1 c3 ω e2;grind
     grind
    |ar k' rows=>
     rw[e]at hz;simp only[Jd,aEQ]at hz;obtain⟨⟨ds,h1,k1⟩,e1,hz⟩:=hz;obtain⟨f1,f2,f3,f4⟩:=KM r (fun _ hb=>hb) hc e1;simp only at hz;cases e2:h1 id<;>rw[e2]at hz<;>simp only[Uk]at hz<;>try (cases hz;done)
     rename_i k2 rows2;simp only[aEU,Prod.mk.injEq]at hz;obtain⟨q,e3,hzu,rfl,rfl⟩:=hz;obtain⟨rfl,row,g1,g2,rfl⟩:=Wh e3;have ho:=f1.ob id;rw[e2]at ho;obtain⟨us,t,q1,q2,q3,q4⟩:=ho;obtain⟨w1,w2,w3⟩:=wrA f1 e2 q1 ω f4 g1 (by rw[f3];omega);have run:=AD hk hsz c2 q1 (o:=i*k2+j) ω;exact⟨_,_,ρ,hzu.symm,rfl,run,w1,by simpa using f2.trans w2⟩
    |_=>rw[e]at hz;cases hz
   |some p=>
    simp only[aEQ]at hz;obtain⟨⟨ds,h1,k1⟩,e1,hz⟩:=hz;obtain⟨f1,f2,f3,f4⟩:=KM r (fun _ hb=>hb) hc e1;simp only at hz;cases e2:h1 id<;>rw[e2]at hz<;>simp only[Iu]at hz<;>try (cases hz;done)
    rename_i cs;cases e3:cs[p]? with
    |none=>rw[e3]at hz;cases hz
    |some c=>
     rw[e3]at hz;cases c<;>simp only[afO]at hz<;>try (cases hz;done)
     rename_i k2 rows2;simp only[aEU,Prod.mk.injEq]at hz;obtain⟨q,e4,hzu,rfl,rfl⟩:=hz;obtain⟨rfl,row,g1,g2,rfl⟩:=Wh e4;obtain⟨us,t,q1,q2⟩:=f1.live_heap (id:=id) (sub:=some p) ⟨cs,k2,rows2,e2,e3⟩;obtain⟨w1,w2,w3⟩:=wrS f1 e2 e3 q1 ω f4 g1 (by rw[f3];omega);have run:=AD hk hsz c2 q1 (o:=i*k2+j) ω;exact⟨_,_,ρ,hzu.symm,rfl,run,w1,by simpa using f2.trans w2⟩
  |_=>cases hz
 grind
def aiE{h2}{d}{b}{w2}(hd:h2 d≠ .dead)(hρ:ρ d none=b):RV w2 (aN w2 X h2 ρ) ρ h2 (.ref d none 0 0 0) (.pointer (some ⟨b.1,0,none⟩)):=by
 have:=RV.ref (w:=w2) (A:=aN w2 X h2 ρ) (ρ:=ρ) (h:=h2) d none 0 0 0 hd;grind
def aiF{h2}{d k n cap}{b}{w2}(hd:h2 d≠ .dead)(hρ:ρ d none=b)(hn:n<=cap)(hb:cap*k=b.2):RV w2 (aN w2 X h2 ρ) ρ h2 (.rsl d none k 0 n) (.slice (some ⟨b.1,0,none⟩) n cap):=
 .rsl d none k 0 n cap _ hd hn γ (.inr γ)
def aga{t}{k}(r:Rel w X ρ h){d}(hdp:bu d=false){x z}{u}{ks}(hx:RV w (aN w X h ρ) ρ h x u)(hn:G9 h d k x=some (z,h',ks)):
  ∃v w',(Instr.box t u).run P w=.ok v w'/\Got w X ρ h w' h' ks z v:=by
 simp only[G9,aEQ]at hn;obtain⟨xs,e0,hn⟩:=hn;have hc:=E4 hx e0;obtain⟨c1,c2,c3⟩:=hc.toList;split at hn
 ·refine⟨.pointer (some ⟨w.heap.size,0,none⟩),w.alloc (.cells u.cells t),by simp[Instr.box,newVar,newRow],?_⟩;split at hn
  ·rename_i hd;obtain⟨h1,rfl,rfl,rfl⟩:=pg hn;obtain⟨g6,g7⟩:=Fj (e:=t) r hdp h1 (Wg hc hd);exact⟨_,g6,g7,aiE (by grind[aD]) (bZ _ _ _ _)⟩
  ·simp only[aEQ]at hn;obtain⟨⟨z1,h1,k1⟩,e1,hn⟩:=hn;obtain⟨hd,rfl,rfl,rfl⟩:=pg e1;simp only[Qf,aEU,Prod.mk.injEq]at hn;obtain⟨⟨h2,k2⟩,e2,rfl,rfl,rfl⟩:=hn;have hok:af7 w (aN w X h ρ) ρ h u.cells (.bx (aER k .any)):=by
    refine⟨by grind,fun p c hp=>?_⟩;obtain⟨hp1,hp2⟩:=List.getElem?_eq_some_iff.1 hp;simp only[aFU]at hp1;rw[List.getElem_replicate]at hp2;subst hp2;have hsz:=hc.1;obtain⟨v,hv⟩:∃v,u.cells[p]?=some v:=⟨u.cells[p]'(by omega),Array.getElem?_eq_getElem _⟩;exact⟨rfl,v,hv,.anyv v,hc.2.1 p v hv,trivial⟩
   obtain⟨g6,g7⟩:=Fj (e:=t) r hdp hd hok;have hb1:(w.alloc (.cells u.cells t)).heap[(qt ρ d none (w.heap.size,u.cells.size) d none).1]?=some (.cells u.cells t (0,0)):=by grind[bZ,CW]
   obtain⟨ρ',q1,q2,q3,cs',q4⟩:=He (O xs) xs u.cells.toList 0 g6 (aD _ _ _) hb1 c1 (fun m c v h1 h2=>⟨g7.rv (c3 m c v h1 h2).1,(c3 m c v h1 h2).2⟩) σ e2;rw[sL σ (fun j v hv=>by simpa using hv),setRow_self _ _ _ t (0,0) hb1]at q1 q2;exact⟨ρ',q1,g7.trans q2,aiE (b:=(w.heap.size,u.cells.size)) γ (by rw[q3,bZ])⟩
 grind
theorem aiG(off)(vs us:Array Value)(hle:off+vs.size<=us.size):vs.zipIdx.foldl (fun cs (c,j)=>cs.setIfInBounds (off+j) c) us=ef us off vs.toList:=by
 have fold:∀ (l:List Value) k (us:Array Value),((l.zipIdx k).foldl (fun cs x=>cs.setIfInBounds (off+x.2) x.1) us).size=us.size/\
   ∀i,off+k+O l<=us.size->((l.zipIdx k).foldl (fun cs x=>cs.setIfInBounds (off+x.2) x.1) us)[i]?=if off+k<=i/\i<off+k+O l then l[i- (off+k)]? else us[i]?:=by
  intro l;induction l with
  |nil=>intro k us;exact⟨by simp,fun i _=>by simp;omega⟩
  |cons v l ih=>
   simp only[List.zipIdx_cons,List.foldl_cons];grind
 have e:vs.zipIdx.foldl (fun cs (c,j)=>cs.setIfInBounds (off+j) c) us=(vs.toList.zipIdx 0).foldl (fun cs x=>cs.setIfInBounds (off+x.2) x.1) us:=by
  rw[←Array.foldl_toList,Array.toList_zipIdx]
 apply Array.ext_getElem?;grind[iX]
theorem agb{row xs}(hl:O xs=O row):setRow row 0 xs=xs:=by
 apply List.ext_getElem?;grind[zV]
def JG{k}{A0}{h0}:∀ps vs {h h'} {rows rows'} {us} {ks},Rel w X ρ h->(∀b,A0 b->aN w X h ρ b)->O vs=O ps->
  (∀ (m:Nat) p v,ps[m]?=some p->vs[m]?=some v->v.1=p.1/\RV w A0 ρ h0 p.2 v.2)->dG w (aN w X h ρ) k rows us->O rows*k<=us.size->gB k h rows ps=some (rows',h',ks)->
  ∃us',Instr.fill (fun i=>some (i*k,k)) us vs=some us'/\us'.size=us.size/\O rows'=O rows/\dG w (aN w X h' ρ) k rows' us'/\Rel w X ρ h'/\Evo w ρ h w ρ h' ks
 |[],vs,h,h',rows,rows',us,ks,r,hA,hl,hv,hr,hs,hp=>by
  have:=List.eq_nil_of_length_eq_zero ω;subst this;obtain⟨rfl,rfl,rfl⟩:=hp;exact⟨us,rfl,rfl,rfl,hr,r,.refl _ _ _⟩
 |p::ps,[],h,h',rows,rows',us,ks,r,hA,hl,hv,hr,hs,hp=>by grind
 | (i,a)::ps,(i',v)::vs,h,h',rows,rows',us,ks,r,hA,hl,hv,hr,hs,hp=>by
  simp only[gB,aEQ]at hp;obtain⟨cs,e0,hp⟩:=hp;obtain⟨hv1,hv2⟩:=hv 0 (i,a) (i',v) rfl rfl;subst hv1;have hc:=E4 hv2 e0;split at hp
  ·rename_i hcond;obtain⟨hck,hi⟩:=hcond;simp only[aEQ]at hp;obtain⟨⟨ds,h1,k1⟩,e1,⟨rows2,h2,k2⟩,e2,e3⟩:=hp;cases e3;obtain⟨f1,f2,f3,f4⟩:=KM r hA hc e1;obtain⟨row,hrow⟩:∃row,rows[i']?=some row:=⟨rows[i'],aE1 hi⟩;have hrl:=(hr i' row hrow).1;have hcs:O v.cells.toList=O ds:=by rw[f3];simpa using hc.1
   obtain⟨g1,g2⟩:=MK (hr.mono (w':=w) fun b hb=>f2.al hb) hs hrow (j:=0) (xs:=ds) (vals:=v.cells.toList) ω hcs f4;rw[agb ω,aFA]at g1;rw[aFA]at g2;obtain⟨us',q1,q2,q3,q4,q5,q6⟩:=JG ps vs (us:=ef us (i'*k) v.cells.toList) f1 (fun b hb=>(f2.al (hA b hb)).1) γ (fun m p q h1 h2=>hv (m+1) p q γ γ) g1
    (by grind[eZ,aFR]) e2
   refine⟨us',?_,by rw[q2,eZ g2],by rw[q3,aFR],q4,q5,f2.trans q6⟩;simp only[Instr.fill];have hle:i'*k+v.cells.size<=us.size:=ω
   rw[if_neg γ,aiG (i'*k) v.cells us hle];omega
  grind
end
section
variable {P:Program} {w w':World} {X:Nat→Prop} {ρ ρ':fL} {h h':aj} {A A':Nat→Prop}
theorem sM{t e}(he:Bp P t=some e):P.underlying t=some (.slice e):=by
 grind[Bp]
def Fk{e}{k}{zs}(hk:bQ P e=some k)(hz:oJ P e=some zs)(n c)(hn:n<=c):∃zv,(∀w,(zeroValue e).run P w=.ok zv w)/\
  ((Array.range (c*k)).map (zv.cells[· %zv.cells.size]!)).size=c*k/\O (aER n zs)*k<=((Array.range (c*k)).map (zv.cells[· %zv.cells.size]!)).size/\dG w A k (aER n zs) ((Array.range (c*k)).map (zv.cells[· %zv.cells.size]!)):=by
 obtain⟨i,z,g1,g2,g3,g4,g5⟩:=sJ (w:=w) (A:=A) (ρ:=fun _ _=>(0,0)) (h:=fun _=>.dead) hz;have hik:i.size=k:=by grind[bQ]
 refine⟨z,Si g1 g2,by simp,?_,fun q row hq=>?_⟩
 ·simp_all[aFU,Array.size_map,Array.size_range,aE4]
 ·obtain⟨h1,h2⟩:=List.getElem?_eq_some_iff.1 hq;simp only[aFU]at h1;rw[List.getElem_replicate]at h2;subst h2;refine⟨by omega,fun j c2 hj=>?_⟩;have hjl:=(List.getElem?_eq_some_iff.1 hj).1;have hzl:j<z.cells.size:=ω
  have hlt:q*k+j<c*k:=by
   have:(q+1)*k<=c*k:=aE4 k ω;grind
  have hd:=List.all_eq_true.1 (Zb hz) c2 (aE6 hj);refine⟨z.cells[j],?_,(g5.2.2 j c2 _ hj (Array.getElem?_eq_getElem hzl)).toD hd (g5.2.1 j _ (Array.getElem?_eq_getElem hzl)),hd⟩;grind[aFd,Nat.mul_add_mod,aFG]
def wT(r:Rel w X ρ h){d k n cap}(hdp:bu d=false){rows}{us}{t}{x}{ks ks'}(hr:dG w (aN w X h ρ) k rows us)(hs:O rows*k<=us.size)(hn:n<=cap)(hc:cap*k=us.size)
  (hz:dH h d k rows n ks=some (x,h',ks')):ks'=ks/\∃ρ',Rel (w.alloc (.cells us t)) X ρ' h'/\Evo w ρ h (w.alloc (.cells us t)) ρ' h' []/\RV (w.alloc (.cells us t)) (aN (w.alloc (.cells us t)) X h' ρ') ρ' h' x (.slice (some ⟨w.heap.size,0,none⟩) n cap):=by
 obtain⟨hd,rfl,rfl,rfl⟩:=pg hz;obtain⟨g1,g2⟩:=Fj (e:=t) r hdp hd (us:=us) (o:=.ar k rows) ⟨hs,hr⟩;exact⟨rfl,_,g1,g2,aiF (b:=(w.heap.size,us.size)) (by grind[aD]) (bZ _ _ _ _) hn hc⟩
def LU(r:Rel w X ρ h){t e}{k n d}(hdp:bu d=false){zs}{ps}{vs}{z}{ks}(he:Bp P t=some e)(hk:bQ P e=some k)(hz:oJ P e=some zs)(hn:n*k<=16777216)
  (hl:vs.size=O ps) (hv:∀ (m:Nat) p v,ps[m]?=some p->vs[m]?=some v->v.1=p.1/\RV w (aN w X h ρ) ρ h p.2 v.2)
  (hr:((gB k h (aER n zs) ps).bind fun q=>dH q.2.1 d k q.1 n q.2.2)=some (z,h',ks)):∃v w',(Instr.buildSlice t n vs).run P w=.ok v w'/\Got w X ρ h w' h' ks z v:=by
 simp only[aEQ]at hr;obtain⟨⟨rows,h1,k1⟩,e1,e2⟩:=hr;obtain⟨zv,z1,z2,z3,z4⟩:=Fk (w:=w) (A:=aN w X h ρ) hk hz n n (aET n);obtain⟨us',f1,f2,f3,f4,f5,f6⟩:=JG ps vs.toList r (fun _ hb=>hb) ω (fun m p v h1 h2=>hv m p v h1 γ) z4 z3 e1;obtain⟨rfl,ρ',g1,g2,g3⟩:=wT (t:=e) (cap:=n) f5 hdp f4 γ (aET n) (by rw[f2,z2]) e2;refine⟨.slice (some ⟨w.heap.size,0,none⟩) n n,w.alloc (.cells us' e),?_,ρ',g1,by simpa using f6.trans g2,g3⟩;have hnk:¬ (n*k>2^24):=ω
 have harr:(Array.range (n*k)).map ((if n*k=0 then #[]else zv.cells)[· % (if n*k=0 then #[]else zv.cells).size]!)=(Array.range (n*k)).map (zv.cells[· %zv.cells.size]!):=by
  grind
 simp only[Instr.buildSlice,Sem.run_bind,run_underlying (sM he),Result.andThen,jI hk,if_neg hnk];by_cases h9:n*k=0
 ·rw[if_pos h9]at harr⊢;simp only[Sem.run_bind,Sem.run_pure,Result.andThen];rw[harr,f1];simp[newRow]
 simp_all[if_neg,Sem.run_bind,Sem.run_pure,Result.andThen,newRow]
def agc(r:Rel w X ρ h){t e}{k b d}(hdp:bu d=false){zs}{l c z}{ul uc}{ks}(he:Bp P t=some e)(hk:bQ P e=some k)(hb:wQ P e=some b)(hz:oJ P e=some zs)
  (hl:RV w (aN w X h ρ) ρ h l ul) (hc:RV w (aN w X h ρ) ρ h c uc)
  (hr:((oH l c).bind fun p=>if p.2*b<=140737488355328 then dH h d k (aER p.1 zs) p.1 []else none)=some (z,h',ks)):∃v w',(Instr.makeSlice t ul uc).run P w=.ok v w'/\Got w X ρ h w' h' ks z v:=by
 simp only[aEQ]at hr;obtain⟨⟨ln,cn⟩,e1,e2⟩:=hr;split at e2
 ·unfold oH at e1;split at e1
  ·rename_i li ci;obtain⟨rfl,_⟩:=hl.v_inv;obtain⟨rfl,_⟩:=hc.v_inv;split at e1
   ·obtain⟨rfl,rfl⟩:=e1;obtain⟨zv,z1,z2,z3,z4⟩:=Fk (w:=w) (A:=aN w X h ρ) hk hz li.toNat ci.toNat ω;obtain⟨rfl,ρ',g1,g2,g3⟩:=wT (t:=e) (cap:=ci.toNat) r hdp z4 z3 ω (by rw[z2]) e2;refine⟨_,w.alloc (.cells ((Array.range (ci.toNat*k)).map (zv.cells[· %zv.cells.size]!)) e),?_,ρ',g1,g2,g3⟩;obtain⟨i,hi,hib⟩:∃i,P.info? e=some i/\i.bytes=b:=by simp_all[wQ]
    have harr:(Array.range (ci.toNat*k)).map ((if ci.toNat*k=0 then #[]else zv.cells)[· % (if ci.toNat*k=0 then #[]else zv.cells).size]!)=(Array.range (ci.toNat*k)).map (zv.cells[· %zv.cells.size]!):=by
     grind
    have hwl:IntKind.i64.wrap li=li:=by grind[IntKind.wrap,IntKind.signed,IntKind.bits]
    have hwc:IntKind.i64.wrap ci=ci:=by grind[IntKind.wrap,IntKind.signed,IntKind.bits]
    have hti:(typeInfo e).run P w=.ok i w:=by simp[typeInfo,hi]
    have hli:∀n,(asInt (.int .i64 n)).run P w=.ok n w:=fun _=>rfl;simp only[Instr.makeSlice,Sem.run_bind,run_underlying (sM he),Result.andThen, *];rw[if_neg γ];simp only[Sem.run_bind,run_askRoom,Result.andThen,jI hk];by_cases h9:ci.toNat*k=0
    ·rw[if_pos h9]at harr⊢;simp only[Sem.run_bind,Sem.run_pure,Result.andThen];rw[harr];simp[newRow]
    simp_all[if_neg,Sem.run_bind,Sem.run_pure,Result.andThen,newRow]
   grind
  grind
 grind
end
section
variable {P:Program} {w w':World} {X:Nat→Prop} {ρ ρ':fL} {h h':aj} {A A':Nat→Prop}
def GB(r:Rel w X ρ h):Rel w.drew X ρ h/\Evo w ρ h w.drew ρ h []:=by
 have ev:Evo w ρ h w.drew ρ h []:=⟨rfl,rfl,rfl,aET _,fun _ _ _=>rfl,fun _ _ hp _=>⟨hp,rfl⟩,fun _ ho=>.inl ho,fun _ hb=>⟨hb,rfl⟩,fun _ _ hd=>⟨hd,rfl⟩⟩;exact⟨r.step ev (fun _=>False) (fun _ _=>⟨rfl,fun _=>rfl,fun _ _=>rfl⟩) r.inj r.nx (fun _ hf=>hf.elim),ev⟩
def Sj{k}{rows}{ad:Addr}(hk:∀row∈rows,O row=k)(h0:0<k)
  (hc:∀i row j c,rows[i]?=some row->row[j]?=some c->∃u,w.cell? (ad.add (i*k+j))=some u/\RD w A c u/\aI c=true):
  ∃news:List Value,O news=O rows*k/\(∀q v,news[q]?=some v->w.cell? (ad.add q)=some v)/\dG w A k rows news.toArray:=by
 have all:∀q,q<O rows*k->∃row c,rows[q/k]?=some row/\row[q%k]?=some c:=by
  simp_all[Nat.div_lt_of_lt_mul,aFd,aFx,aFg]
 refine⟨(List.range (O rows*k)).map fun q=>(w.cell? (ad.add q)).getD undef,by simp,fun q v hq=>?_,fun i row hi=>⟨hk row (aE6 hi),fun j c hj=>?_⟩⟩
 ·grind[aFd,aFM]
 ·have hil:=(List.getElem?_eq_some_iff.1 hi).1;have hlt:i*k+j<O rows*k:=by
   have:=aE4 k hil;grind
  grind
theorem lI(size)(a)(l c)(w):(Builtin.firstCells size 0 (.slice a l c)).run P w=.ok #[] w:=by
 cases a with
 |none=>simp[Builtin.firstCells]
 |some b=>grind[run_firstCells_some]
def BB{b o k n l cap}{us}{t}{fr}{rows}(hb:w.heap[b]?=some (.cells us t fr))(hr:dG w A k rows us)(hle:o+n<=O rows)(h0:0<k):
  ∃news:List Value,O news=n*k/\(∀w2,w2.heap=w.heap->(Builtin.firstCells k n (.slice (some ⟨b,o*k,none⟩) l cap)).run P w2=.ok news.toArray w2)/\dG w A k ((rows.drop o).take n) news.toArray:=by
 have at_:∀i row,((rows.drop o).take n)[i]?=some row->rows[o+i]?=some row:=by
  grind
 obtain⟨news,h1,h2,h3⟩:=Sj (w:=w) (A:=A) (k:=k) (rows:=(rows.drop o).take n) (ad:=⟨b,o*k,none⟩) (fun row hrow=>by
  obtain⟨i,hi⟩:=aFL hrow;exact(hr _ _ (at_ i row hi)).1) h0 (fun i row j c hi hj=>by
  obtain⟨u,f1,f2,f3⟩:=(hr _ _ (at_ i row hi)).2 j c hj;grind[sG,GV,aFZ,aFf])
 grind[run_firstCells_some,sH]
def PI(r:Rel w X ρ h){k}{y}{uy}{ys}(h0:0<k)(hy:RV w (aN w X h ρ) ρ h y uy)(hr:zS h k y=some ys):
  ∃a c,uy=.slice a (O ys) c/\∃news:List Value,O news=O ys*k/\(∀w2,w2.heap=w.heap->(Builtin.firstCells k (O ys) uy).run P w2=.ok news.toArray w2)/\dG w (aN w X h ρ) k ys news.toArray:=by
 cases y with
 |emp=>
  cases hr;obtain⟨a,rfl⟩:=hy.emp_inv;exact⟨a,0,rfl,[],by simp,fun _ _=>lI _ _ _ _ _,fun i row hi=>by grind⟩
 |sl k' rows=>
  simp only[zS]at hr;split at hr
  ·rename_i hk;subst hk;cases hr;have hd:=hy.sl_inv;cases hd with
   |sl _ _ a cap ad vals hc ha hk hv hl hrr=>
    obtain⟨news,h1,h2,h3⟩:=Sj (w:=w) (A:=aN w X h ρ) (k:=k') (rows:=ys) (ad:=ad) hk h0 (fun i row j c hi hj=>⟨vals i j,hv i row j c hi hj,hrr i row j c hi hj,hl row (aE6 hi) c (aE6 hj)⟩);by_cases hne:ys=[]
    ·simp_all[List.eq_nil_of_length_eq_zero,lI]
    grind[run_firstCells_some,sH]
  grind
 |rsl id sub k' lo n=>
  simp only[zS]at hr;split at hr
  ·rename_i hk;subst hk;obtain⟨a,cap,rfl,hp,hn,hb,ha⟩:=hy.rsl_inv;have key:∀rows us t fr,w.heap[(ρ id sub).1]?=some (.cells us t fr)->dG w (aN w X h ρ) k' rows us->lo+n<=O rows->ys=(rows.drop lo).take n->
     ∃a' c,Value.slice a n cap=.slice a' (O ys) c/\∃news:List Value,O news=O ys*k'/\(∀w2,w2.heap=w.heap->(Builtin.firstCells k' (O ys) (.slice a n cap)).run P w2=.ok news.toArray w2)/\dG w (aN w X h ρ) k' ys news.toArray:=by
    intro rows us t fr g1 g2 g3 g4;have hlen:O ys=n:=γ
    refine⟨a,cap,by rw[hlen],?_⟩;rw[hlen];by_cases hn0:n=0
    ·subst hn0;have:=List.eq_nil_of_length_eq_zero hlen;exact⟨[],by simp,fun _ _=>lI _ _ _ _ _,fun i row hi=>by grind⟩
    ·rcases ha with h9|rfl
     ·omega
     ·obtain⟨news,f1,f2,f3⟩:=BB (P:=P) (l:=n) (cap:=cap) g1 g2 g3 h0;grind
   have cut:∀ {q},kN k' lo n q=some ys->∃rows,q=some (k',rows)/\lo+n<=O rows/\ys=(rows.drop lo).take n:=by
    intro q hq;cases q with
    |none=>cases hq
    |some p=>
     grind[kN]
   obtain⟨rows,e1,e2,e3⟩:=cut hr;have ho:=r.ob id;cases sub with
   |none=>
    simp only[CO]at e1;cases e:h id with
    |ar k2 rows2=>
     rw[e]at e1 ho;obtain⟨rfl,rfl⟩:=e1;obtain⟨us,t,g1,g2,g3,g4⟩:=ho;grind
    |fz k2 rows2=>
     rw[e]at e1 ho;obtain⟨rfl,rfl⟩:=e1;obtain⟨_,us,t,fr,g1,g2,g3,g4⟩:=ho;grind
    |_=>rw[e]at e1;cases e1
   |some p=>
    simp only[CO]at e1;cases e:h id with
    |bx cs=>
     rw[e]at e1;simp only[ni]at e1;cases ec:cs[p]? with
     |none=>rw[ec]at e1;cases e1
     |some c=>
      rw[ec]at e1;cases c<;>simp only[BA]at e1<;>try (cases e1;done)
      obtain⟨us,t,g1,g2,g3,g4⟩:=r.cell e;obtain⟨u,_,a',cap',us',t',_,_,_,q4,q5,q6,q7⟩:=g4 p _ ec;grind
    |_=>rw[e]at e1;cases e1
  grind
 |_=>cases hr
def Hf{t u ty e e'}{k}(ht:P.underlying t=some (.slice e))(hu:P.underlying u=some (.slice e'))(hk:bQ P e=some k){base ay}{n cap m cy}{news}
  (hnew:(Builtin.firstCells k m (.slice ay m cy)).run P w=.ok news.toArray w) (hroom:n+m<=cap) (hst:∀a,base=some a->(storeCells (a.add (n*k)) news).run P w=.ok () w') (hno:base=none->w'=w):
  (Builtin.append_ #[t,u] ty #[.slice base n cap,.slice ay m cy]).run P w=.ok (.slice base (n+m) cap) w':=by
 cases base with
 |none=>
  obtain rfl:=hno rfl;simp[Builtin.append_,run_underlying ht,run_underlying hu,jI hk,Builtin.lenOf, *]
 |some a=>
  have:=hst a rfl;simp[Builtin.append_,run_underlying ht,run_underlying hu,jI hk,Builtin.lenOf, *]
def ML{t u ty e e'}{i}{z}(ht:P.underlying t=some (.slice e))(hu:P.underlying u=some (.slice e'))(hi:P.info? e=some i)(hz:i.zero=some z)(hb:0<i.bytes){base ay}{n cap m cy}{old:List Value}
  (hold:(Builtin.firstCells i.size n (.slice base n cap)).run P w.drew=.ok old.toArray w.drew) (hnew:(Builtin.firstCells i.size m (.slice ay m cy)).run P w.drew=.ok news.toArray w.drew) (hg:cap<n+m) (hfit:Builtin.nextslicecap (n+m) cap*i.bytes<=281474976710656):
  (Builtin.append_ #[t,u] ty #[.slice base n cap,.slice ay m cy]).run P w=
   .ok (.slice (some ⟨w.heap.size,0,none⟩) (n+m) (grownCap w (n+m) cap e)) (w.drew.alloc (.cells (old.toArray++news.toArray++Builtin.zeroCells z.cells (grownCap w (n+m) cap e- (n+m))) e)):=by
 have hn:=ω
 have h48':=ω
 have hb':=ω
 simp[Builtin.append_,run_underlying ht,run_underlying hu,sizeOf,typeInfo,zeroValue,Builtin.lenOf,Question.forced,newRow,grownCap, *];grind
end
section
variable {P:Program} {w w':World} {X:Nat→Prop} {ρ ρ':fL} {h h':aj} {A A':Nat→Prop}
theorem PJ{k}{rows ys}{us vs ts}(h1:dG w A k rows us)(h2:dG w A k ys vs)(g1:∀q,q<O rows*k->ts[q]?=us[q]?)(g2:∀q,q<O ys*k->ts[O rows*k+q]?=vs[q]?):dG w A k (rows++ys) ts:=by
 have lt:∀ {l:List (List AV)} {i} {j},i<O l->j<k->i*k+j<O l*k:=by
  intro l i j hi hj;have:=aE4 k hi;grind
 intro i row hi;rw[List.getElem?_append]at hi;split at hi
 ·obtain⟨f1,f2⟩:=h1 i row hi;grind
 ·obtain⟨f1,f2⟩:=h2 _ row hi;refine⟨f1,fun j c hj=>?_⟩;have e:i*k+j=O rows*k+((i-O rows)*k+j):=by
   rw[←aFZ,←aFf,show O rows+(i-O rows)=i from by omega]
  grind
def MN{k}{rows ys}{old:List Value}(zs)(h1:dG w A k rows old.toArray)(hl:O old=O rows*k)(h2:dG w A k ys news.toArray)(hm:O news=O ys*k):
  dG w A k (rows++ys) (old.toArray++news.toArray++zs):=by
 grind[PJ,Array.append_assoc]
def agd{k}{rows ys}{us}{news}(h1:dG w A k rows us)(h2:dG w A k ys news.toArray)(hm:O news=O ys*k)(hle:O rows*k+O news<=us.size):
  dG w A k (rows++ys) (ef us (O rows*k) news):=by
 refine PJ h1 h2 (fun q hq=>?_) (fun q hq=>?_)
 ·rw[iX hle,if_neg ω]
 simp_all[iX,if_pos]
def Sk(r:Rel w X ρ h){id k}{rows}(e:h id=.ar k rows):Rel w X ρ (upd h id .dead)/\Evo w ρ h w ρ (upd h id .dead) [(id,false)]:=by
 have hl:∀id' s,live (upd h id .dead) id' s->id'≠id/\live h id' s:=by
  intro id' s h1;by_cases hi:id'=id
  ·subst hi;cases s<;>simp[live,aD]at h1
  grind[eu,aW]
 have ev:Evo w ρ h w ρ (upd h id .dead) [(id,false)]:=by
  refine⟨rfl,rfl,rfl,aET _,fun _ _ _=>rfl,fun id' s hp hk=>⟨?_,rfl⟩,fun b ho=>?_,fun id' hb=>⟨?_,rfl⟩,fun id' _ hd=>⟨Fi γ hd,rfl⟩⟩
  ·grind[lF,iu,aW]
  ·obtain⟨id',s,h1,h2⟩:=ho;exact .inl ⟨id',s,(hl id' s h1).2,h2⟩
  grind[bf,aW]
 exact⟨r.step ev (·=id) (fun id' hi=>⟨aW h _ hi,fun _=>rfl,fun _ _=>rfl⟩) (fun a b c d h1 h2=>r.inj a b c d (hl a b h1).2 (hl c d h2).2) (fun a b h1=>r.nx a b (hl a b h1).2) (fun id' hi=>by subst hi;rw[aD];trivial),ev⟩
theorem JH{α}(s)(d)(x y:α):upd (upd s d x) d y=upd s d y:=by
 grind[upd]
def age(r:Rel w X ρ h){id p d k}{cs}{rows}(e:h id=.bx cs)(ep:cs[p]?=some (.osl k rows))(hdp:bu d=false)(hd:h d=.dead):
  Rel w X (qt ρ d none (ρ id (some p))) (upd (upd h id (.bx (cs.set p .any))) d (.ar k rows))/\Evo w ρ h w (qt ρ d none (ρ id (some p))) (upd (upd h id (.bx (cs.set p .any))) d (.ar k rows)) [(id,true)]:=by
 have hlp:live h id (some p):=⟨cs,k,rows,e,ep⟩;have hln:live h id none:=by grind[live]
 have hpl:=(List.getElem?_eq_some_iff.1 ep).1;have hne:id≠d:=γ
 have hρ:∀id' s,¬ (id'=d/\s=none)->qt ρ d none (ρ id (some p)) id' s=ρ id' s:=fun id' s hh=>JE hh;have hl:∀id' s,live (upd (upd h id (.bx (cs.set p .any))) d (.ar k rows)) id' s->(id'=d/\s=none)\/(¬ (id'=d/\s=none)/\¬ (id'=id/\s=some p)/\live h id' s):=by
  intro id' s h1;by_cases hi:id'=d
  ·subst hi;cases s with
   |none=>grind
   |some q=>obtain⟨_,_,_,h2,_⟩:=h1;grind[aD]
  ·have h2:=(eu (aW (upd h id (.bx (cs.set p .any))) (.ar k rows) hi)).1 h1;by_cases hi2:id'=id
   ·subst hi2;cases s with
    |none=>grind
    |some q=>
     obtain⟨cs',k',rows',h3,h4⟩:=h2;rw[aD]at h3;cases h3;by_cases hq:q=p
     ·grind
     ·rw[List.getElem?_set_ne (fun e=>hq e.symm)]at h4;exact .inr ⟨by omega,by grind,⟨cs,k',rows',e,h4⟩⟩
   grind[eu,aW]
 have blk:∀id' s,live (upd (upd h id (.bx (cs.set p .any))) d (.ar k rows)) id' s->∃id2 s2,live h id2 s2/\(qt ρ d none (ρ id (some p)) id' s).1=(ρ id2 s2).1/\((id'=d/\s=none/\id2=id/\s2=some p)\/(id2=id'/\s2=s/\¬ (id2=id/\s2=some p))):=by
  grind[bZ]
 have nd:∀id' s,cZ h id' s->id'≠d:=by
  rintro id' s hp rfl
  cases s with
  |none=>exact hp hd
  |some q=>obtain⟨_,_,_,h2,_⟩:=hp;grind
 have ev:Evo w ρ h w (qt ρ d none (ρ id (some p))) (upd (upd h id (.bx (cs.set p .any))) d (.ar k rows)) [(id,true)]:=by
  refine⟨rfl,rfl,rfl,aET _,fun _ _ _=>rfl,fun id' s hp hk=>?_,fun b ho=>?_,fun id' hb=>?_,fun id' hps hnd=>?_⟩
  ·have hi:=nd id' s hp;by_cases hi2:id'=id
   ·simp_all[cZ,aW,aD,lF]
   grind[iu,aW]
  ·obtain⟨id',s,h1,h2⟩:=ho;obtain⟨id2,s2,h3,h4,_⟩:=blk id' s h1;exact .inl ⟨id2,s2,h3,h4.symm.trans h2⟩
  ·have hi:=nd id' none (Uq hb);refine⟨?_,hρ _ _ ω⟩;rw[aW _ _ hi];by_cases hi2:id'=id
   ·subst hi2;rw[aD];rfl
   grind[aW]
  grind[aW,Fi]
 refine⟨r.step ev (fun i=>i=id\/i=d) (fun id' hi=>?_) (fun i s i' s' h1 h2 h3=>?_) (fun i s h1=>?_) (fun id' hi=>?_),ev⟩
 ·grind[aW]
 ·obtain⟨i2,s2,f1,f2,f3⟩:=blk i s h1;obtain⟨i3,s3,f4,f5,f6⟩:=blk i' s' h2;obtain⟨rfl,rfl⟩:=r.inj i2 s2 i3 s3 f1 f4 ω;grind
 ·obtain⟨i2,s2,f1,f2,_⟩:=blk i s h1;rw[f2];exact r.nx _ _ f1
 ·obtain⟨us0,t0,g1,g2,g3,g4⟩:=r.cell e;rcases hi with rfl|rfl
  ·rw[aW _ _ hne,aD];refine⟨us0,t0,by grind,by grind,by grind,fun q c hq=>?_⟩;by_cases hqp:q=p
   ·subst hqp;rw[List.getElem?_set_self hpl]at hq;cases hq;obtain⟨u,f1,a,cap,us1,t1,rfl,_⟩:=g4 q _ ep;exact⟨_,f1,.anyv _,rfl,trivial⟩
   ·rw[List.getElem?_set_ne (fun e=>hqp e.symm)]at hq;obtain⟨u,f1,f2⟩:=g4 q c hq;exact⟨u,f1,f2.keep (fun b hb=>ev.al hb) ev.boxes (hρ _ _ σ) (fun _=>rfl)⟩
  ·rw[aD];obtain⟨u,f1,a,cap,us1,t1,q1,q2,q3,q4,q5,q6,q7⟩:=g4 p _ ep;exact⟨us1,t1,by grind[bZ],by grind[bZ],aEX (aE4 k q3) (Nat.le_of_eq q6),q7.mono fun b hb=>ev.al hb⟩
def asg(r:Rel w X ρ h){id d k}{rows}(e:h id=.ar k rows)(hdp:bu d=false)(hd:h d=.dead):
  Rel w X (qt ρ d none (ρ id none)) (upd (upd h id .dead) d (.ar k rows))/\Evo w ρ h w (qt ρ d none (ρ id none)) (upd (upd h id .dead) d (.ar k rows)) [(id,false)]:=by
 have hln:live h id none:=by grind[live]
 have hne:id≠d:=γ
 have hρ:∀id' s,¬ (id'=d/\s=none)->qt ρ d none (ρ id none) id' s=ρ id' s:=fun id' s hh=>JE hh;have hl:∀id' s,live (upd (upd h id .dead) d (.ar k rows)) id' s->(id'=d/\s=none)\/(¬ (id'=d/\s=none)/\id'≠id/\live h id' s):=by
  intro id' s h1;by_cases hi:id'=d
  ·cases s with
   |none=>grind
   |some q=>obtain⟨_,_,_,h2,_⟩:=h1;grind[aD]
  ·have h2:=(eu (aW (upd h id .dead) (.ar k rows) hi)).1 h1;by_cases hi2:id'=id
   ·subst hi2;cases s<;>simp[live,aD]at h2
   grind[eu,aW]
 have blk:∀id' s,live (upd (upd h id .dead) d (.ar k rows)) id' s->∃id2 s2,live h id2 s2/\(qt ρ d none (ρ id none) id' s).1=(ρ id2 s2).1/\((id'=d/\s=none/\id2=id/\s2=none)\/(id2=id'/\s2=s/\id2≠id)):=by
  grind[bZ]
 have nd:∀id' s,cZ h id' s->id'≠d:=by
  rintro id' s hp rfl
  cases s with
  |none=>exact hp hd
  |some q=>obtain⟨_,_,_,h2,_⟩:=hp;grind
 have ev:Evo w ρ h w (qt ρ d none (ρ id none)) (upd (upd h id .dead) d (.ar k rows)) [(id,false)]:=by
  refine⟨rfl,rfl,rfl,aET _,fun _ _ _=>rfl,fun id' s hp hk=>?_,fun b ho=>?_,fun id' hb=>?_,fun id' hps hnd=>?_⟩
  ·grind[lF,iu,aW]
  ·obtain⟨id',s,h1,h2⟩:=ho;obtain⟨id2,s2,h3,h4,_⟩:=blk id' s h1;exact .inl ⟨id2,s2,h3,h4.symm.trans h2⟩
  all_goals grind[Uq,bf,aW,Fi]
 refine⟨r.step ev (fun i=>i=id\/i=d) (fun id' hi=>?_) (fun i s i' s' h1 h2 h3=>?_) (fun i s h1=>?_) (fun id' hi=>?_),ev⟩
 ·grind[aW]
 ·obtain⟨i2,s2,f1,f2,f3⟩:=blk i s h1;obtain⟨i3,s3,f4,f5,f6⟩:=blk i' s' h2;obtain⟨rfl,rfl⟩:=r.inj i2 s2 i3 s3 f1 f4 ω;grind
 ·obtain⟨i2,s2,f1,f2,_⟩:=blk i s h1;rw[f2];exact r.nx _ _ f1
 ·have ho:=r.ob id;rw[e]at ho;obtain⟨us,t0,g1,g2,g3,g4⟩:=ho;rcases hi with rfl|rfl
  ·rw[aW _ _ hne,aD];trivial
  ·rw[aD];exact⟨us,t0,by grind[bZ],by grind[bZ],g3,g4.mono fun b hb=>ev.al hb⟩
def Wi{k lo}{rows ys}{us}{news}(_h0:0<k)(h1:dG w A k rows us)(h2:dG w A k ys news.toArray)(hm:O news=O ys*k)(hlo:lo+O ys<=O rows)(hle:O rows*k<=us.size):
  dG w A k (rows.take lo++ys++rows.drop (lo+O ys)) (ef us (lo*k) news):=by
 have hle2:lo*k+O news<=us.size:=by
  have:=aE4 k hlo;grind
 have hlt:O (rows.take lo)=lo:=γ
 intro i row hi;have cell:∀j,j<k->∀a b:Nat,a<b->a*k+j<b*k:=fun j hj a b hab=>by
  have:=aE4 k hab;grind
 by_cases c1:i<lo
 ·have hrow:rows[i]?=some row:=by
   grind
  obtain⟨g1,g2⟩:=h1 i row hrow;refine⟨g1,fun j c hj=>?_⟩;obtain⟨u,f1,f2⟩:=g2 j c hj;have hjk:j<k:=γ
  refine⟨u,?_,f2⟩;rw[iX hle2,if_neg γ];omega
 ·by_cases c2:i<lo+O ys
  ·have hrow:ys[i-lo]?=some row:=by
    grind
   obtain⟨g1,g2⟩:=h2 (i-lo) row hrow;refine⟨g1,fun j c hj=>?_⟩;obtain⟨u,f1,f2⟩:=g2 j c hj;have hjk:j<k:=γ
   refine⟨u,?_,f2⟩;have e1:=cell j hjk (i-lo) (O ys) ω;have e2:i*k+j=lo*k+((i-lo)*k+j):=by
    have:i*k=lo*k+(i-lo)*k:=by rw[←aFf];grind
    omega
   simp_all[iX,if_pos]
  ·have hrow:rows[i]?=some row:=by
    rw[List.getElem?_append_right γ,List.getElem?_drop,List.length_append,hlt]at hi;grind
   obtain⟨g1,g2⟩:=h1 i row hrow;refine⟨g1,fun j c hj=>?_⟩;obtain⟨u,f1,f2⟩:=g2 j c hj;refine⟨u,?_,f2⟩;have e1:(lo+O ys)*k<=i*k:=aE4 k ω;rw[aFf]at e1;rw[iX hle2,if_neg ω];omega
def acA(r:Rel w X ρ h){t u ty e e'}{k}(ht:P.underlying t=some (.slice e))(hu:P.underlying u=some (.slice e'))(hk:bQ P e=some k)(h0:0<k)
  {id lo n} {rows ys} (eo:h id=.ar k rows) {a ay} {cap cy} (hn:n<=cap) (hc:(lo+cap)*k=(ρ id none).2) (ha:cap=0\/a=some ⟨(ρ id none).1,lo*k,none⟩) (hfit:lo+n+O ys<=O rows) (n1:O news=O ys*k) (hnew:∀w2,w2.heap=w.heap->(Builtin.firstCells k (O ys) (.slice ay (O ys) cy)).run P w2=.ok news.toArray w2) (n3:dG w (aN w X h ρ) k ys news.toArray):
  ∃v w',(Builtin.append_ #[t,u] ty #[.slice a n cap,.slice ay (O ys) cy]).run P w=.ok v w'/\Got w X ρ h w' (upd h id (.ar k (rows.take (lo+n)++ys++rows.drop (lo+n+O ys)))) [] (.rsl id none k lo (n+O ys)) v:=by
 have hln:live h id none:=by grind[live]
 have ho:=r.ob id;rw[eo]at ho;obtain⟨us,t0,g1,g2,g3,g4⟩:=ho;have hroom:n+O ys<=cap:=by
  have h5:O rows*k<=(lo+cap)*k:=ω
  have:=Nat.le_of_mul_le_mul_right h5 h0;omega
 have hle:(lo+n)*k+O news<=us.size:=by
  have:=aE4 k hfit;grind
 have h1:∀v∈news,v.oneCell'=true:=by
  intro v hv;obtain⟨q,hq⟩:=aFL hv;have h3:q/k<O ys:=Nat.div_lt_of_lt_mul γ;obtain⟨f1,f2⟩:=n3 (q/k) _ (aE1 h3);have h4:q%k< O (ys[q/k]):=by simp_all[aFx]
  obtain⟨v',f3,f4,f5⟩:=f2 (q%k) _ (aE1 h4);have h5:q/k*k+q%k=q:=by grind[aFM]
  rw[h5,List.getElem?_toArray,hq]at f3;cases f3;exact f4.one f5
 generalize hm:lo+n=m at hle hfit;have hlive:∀s,live (upd h id (.ar k (rows.take m++ys++rows.drop (m+O ys)))) id s->live h id s:=by
  intro s h1;cases s with
  |none=>omega
  |some q=>obtain⟨_,_,_,h2,_⟩:=h1;grind[aD]
 have hkeep:∀s,cZ h id s->s=none:=by
  intro s hp;cases s with
  |none=>rfl
  |some q=>obtain⟨_,_,_,h2,_⟩:=hp;grind
 have ev:Evo w ρ h (w.setRow (ρ id none).1 (ef us (m*k) news)) ρ (upd h id (.ar k (rows.take m++ys++rows.drop (m+O ys)))) []:=
  D6 (X:=X) r hln _ hlive (fun s hp _=>by grind[cZ,aD]) (fun hbf=>by rw[eo]at hbf;cases hbf)
 have hlen2:O (rows.take m++ys++rows.drop (m+O ys))=O rows:=by
  grind
 have hrel:=yL r hln _ hlive ev ⟨_,t0,setRow_heap w _ us _ t0 _ g1,by grind[eZ],by grind[eZ],Wi h0 (g4.mono fun b hb=>ev.al hb) (n3.mono fun b hb=>ev.al hb) n1 ω g3⟩;refine⟨.slice a (n+O ys) cap,_,Hf ht hu hk (hnew w rfl) hroom (w':=w.setRow (ρ id none).1 (ef us (m*k) news)) (fun a' ha'=>?_) (fun ha'=>?_),ρ,hrel,ev,?_⟩
 ·rcases ha with h9|h9
  ·have e3:news=[]:=List.eq_nil_of_length_eq_zero γ;subst e3;rw[sL ω (fun j v hv=>by grind),setRow_self w _ us t0 (0,0) g1];rfl
  ·rw[h9]at ha';cases ha';rw[sG,←aFf,hm];grind[run_storeCells_at,ef]
 ·grind[List.eq_nil_of_length_eq_zero,sL,setRow_self]
 ·exact .rsl id none k lo _ cap a (by simp[cZ,aD]) hroom hc ha
def KN(r:Rel w X ρ h){t u ty e e'}{k b}{zs}(ht:P.underlying t=some (.slice e))(hu:P.underlying u=some (.slice e'))(hk:bQ P e=some k)(hb:wQ P e=some b)(hz:oJ P e=some zs)(h0:0<k)(hb0:0<b)
  {id} {rows ys} (eo:h id=.ar k rows) (hps:bu id=false) {a ay} {cap cy} (hn:O rows<=cap) (hc:cap*k=(ρ id none).2) (ha:cap=0\/a=some ⟨(ρ id none).1,0,none⟩) (hl:O news=O ys*k) (hnew:∀w2,w2.heap=w.heap->(Builtin.firstCells k (O ys) (.slice ay (O ys) cy)).run P w2=.ok news.toArray w2) (hr:dG w (aN w X h ρ) k ys news.toArray) (hfit:(O rows+O ys)*b<=140737488355328):
  ∃v w',(Builtin.append_ #[t,u] ty #[.slice a (O rows) cap,.slice ay (O ys) cy]).run P w=.ok v w'/\Got w X ρ h w' (upd h id (.ar k (rows++ys))) [(id,false)] (.rsl id none k 0 (O rows+O ys)) v:=by
 have hln:live h id none:=by grind[live]
 have ho:=r.ob id;rw[eo]at ho;obtain⟨us,t0,g1,g2,g3,g4⟩:=ho;by_cases hroom:O rows+O ys<=cap
 ·have hle:O rows*k+O news<=us.size:=by
   have:=aE4 k hroom;grind
  have h1:∀v∈news,v.oneCell'=true:=by
   intro v hv;obtain⟨q,hq⟩:=aFL hv;have h3:q/k<O ys:=Nat.div_lt_of_lt_mul γ;obtain⟨f1,f2⟩:=hr (q/k) _ (aE1 h3);have h4:q%k< O (ys[q/k]):=by simp_all[aFx]
   obtain⟨v',f3,f4,f5⟩:=f2 (q%k) _ (aE1 h4);have h5:q/k*k+q%k=q:=by grind[aFM]
   rw[h5,List.getElem?_toArray,hq]at f3;cases f3;exact f4.one f5
  have hlive:∀s,live (upd h id (.ar k (rows++ys))) id s->live h id s:=by
   intro s h1;cases s with
   |none=>omega
   |some q=>obtain⟨_,_,_,h2,_⟩:=h1;grind[aD]
  have ev:Evo w ρ h (w.setRow (ρ id none).1 (ef us (O rows*k) news)) ρ (upd h id (.ar k (rows++ys))) [(id,false)]:=
   D6 (X:=X) r hln _ hlive (fun s hp hk=>by grind[lF]) (fun hbf=>by rw[eo]at hbf;cases hbf)
  have hrel:=yL r hln _ hlive ev ⟨_,t0,setRow_heap w _ us _ t0 _ g1,by grind[eZ],by simp_all[eZ,List.length_append,aFf],agd (g4.mono fun b hb=>ev.al hb) (hr.mono fun b hb=>ev.al hb) hl hle⟩;refine⟨.slice a (O rows+O ys) cap,_,Hf ht hu hk (hnew w rfl) hroom (w':=w.setRow (ρ id none).1 (ef us (O rows*k) news)) (fun a' ha'=>?_) (fun ha'=>?_),ρ,hrel,ev,?_⟩
  ·rcases ha with h9|h9
   ·have e2:=ω
    have e3:news=[]:=List.eq_nil_of_length_eq_zero γ;subst e3;rw[sL ω (fun j v hv=>by grind),setRow_self w _ us t0 (0,0) g1];rfl
   ·rw[h9]at ha';cases ha';rw[sG,aES];grind[run_storeCells_at,ef]
  ·grind[List.eq_nil_of_length_eq_zero,sL,setRow_self]
  ·exact .rsl id none k 0 _ cap a (by simp[cZ,aD]) hroom γ γ
 ·obtain⟨i,z,z1,z2,z3,z4,_⟩:=sJ (w:=w) (A:=aN w X h ρ) (ρ:=ρ) (h:=h) hz;have hik:i.size=k:=by grind[bQ]
  have hib:i.bytes=b:=by grind[wQ]
  obtain⟨old,o1,o2,o3⟩:∃old:List Value,O old=O rows*k/\(Builtin.firstCells k (O rows) (.slice a (O rows) cap)).run P w.drew=.ok old.toArray w.drew/\dG w (aN w X h ρ) k rows old.toArray:=by
   by_cases hr0:O rows=0
   ·refine⟨[],by grind,by grind[lI],fun i row hi=>?_⟩;grind
   ·rcases ha with h9|rfl
    ·omega
    ·obtain⟨old,f1,f2,f3⟩:=BB (P:=P) (w:=w) (A:=aN w X h ρ) (o:=0) (n:=O rows) (l:=O rows) (cap:=cap) g1 g4 ω h0;simp only[Nat.zero_mul]at f2;exact⟨old,f1,f2 _ rfl,by grind⟩
  have run:=ML (P:=P) (w:=w) (ty:=ty) ht hu z1 z2 ω (old:=old) (news:=news) (n:=O rows) (m:=O ys) (by rw[hik];omega) (by rw[hik];exact hnew w.drew rfl) ω (growslice_fits ω γ);obtain⟨d1,d2⟩:=Sk r eo;obtain⟨d3,d4⟩:=GB d1;have hrows:=MN (w:=w) (A:=aN w X h ρ) (Builtin.zeroCells z.cells (grownCap w (O rows+O ys) cap e- (O rows+O ys))) o3 o1 hr hl;have hge:=grownCap_ge w (O rows+O ys) cap e;have hsz:(old.toArray++news.toArray++Builtin.zeroCells z.cells (grownCap w (O rows+O ys) cap e- (O rows+O ys))).size=grownCap w (O rows+O ys) cap e*k:=by
   simp only[Array.size_append,List.size_toArray,size_zeroCells,←aFf, *];grind
  obtain⟨n1,n2⟩:=Fj (e:=e) d3 hps (aD _ _ _) (o:=.ar k (rows++ys)) (us:=old.toArray++news.toArray++Builtin.zeroCells z.cells (grownCap w (O rows+O ys) cap e- (O rows+O ys)))
   ⟨by simp_all[aE4],hrows.mono fun b hb=>by obtain⟨q1,q2⟩:=d2.al hb;obtain⟨q3,q4⟩:=d4.al q1;grind⟩
  rw[JH]at n1 n2;refine⟨_,_,run,_,n1,by simpa using d2.trans (d4.trans n2),?_⟩;exact aiF (b:=(w.heap.size,_)) (by grind[aD]) (bZ _ _ _ _) hge (by rw[hsz])
def Evo.cut{ks}{d}(e:Evo w ρ h w' ρ' h' (ks++[(d,false)]))(hd:h d=.dead):Evo w ρ h w' ρ' h' ks:=
 ⟨e.os,e.tape,e.output,e.size,e.old,fun id sub hp hk=>e.keep id sub hp (by
  have hi:id≠d:=by
   rintro rfl
   cases sub with
   |none=>exact hp hd
   |some q=>obtain⟨_,_,_,h2,_⟩:=hp;grind
  rw[KI,hk];simpa [lF]using fun e:d=id=>hi e.symm),e.fresh,e.boxes,e.stay⟩
def agf(r:Rel w X ρ h){t u ty e e'}{k b}{zs}(ht:P.underlying t=some (.slice e))(hu:P.underlying u=some (.slice e'))(hk:bQ P e=some k)(hb:wQ P e=some b)(hz:oJ P e=some zs)(h0:0<k)(hb0:0<b)
  {d} (hdp:bu d=false) {x y z} {ux uy} {ks} (hx:RV w (aN w X h ρ) ρ h x ux) (hy:RV w (aN w X h ρ) ρ h y uy) (hr:Qh h d k b x y=some (z,h',ks)):
  ∃v w',(Builtin.append_ #[t,u] ty #[ux,uy]).run P w=.ok v w'/\Got w X ρ h w' h' ks z v:=by
 simp only[Qh,aEQ]at hr;obtain⟨ys,e1,hr⟩:=hr;obtain⟨ay,cy,rfl,news,n1,n2,n3⟩:=PI (P:=P) r h0 hy e1;cases x with
 |emp=>
  obtain⟨a,rfl⟩:=hx.emp_inv;simp only at hr;split at hr
  ·rename_i hfit;cases ys with
   |nil=>
    obtain⟨rfl,rfl,rfl⟩:=hr;have e3:news=[]:=List.eq_nil_of_length_eq_zero γ;subst e3;exact⟨_,w,Hf ht hu hk (n2 w rfl) (aET _) (fun _ _=>rfl) (fun _=>rfl),ρ,r,.refl _ _ _,.dat (.emp a)⟩
   |cons row rest=>
    simp only[YR]at hr;obtain⟨i,zv,z1,z2,z3,z4,_⟩:=sJ (w:=w) (A:=aN w X h ρ) (ρ:=ρ) (h:=h) hz;have hik:i.size=k:=by grind[bQ]
    have hib:i.bytes=b:=by grind[wQ]
    have run:=ML (P:=P) (w:=w) (ty:=ty) (base:=a) (n:=0) (cap:=0) (old:=[]) (news:=news) (m:=O (row::rest)) ht hu z1 z2 ω (lI _ _ _ _ _) (by rw[hik];exact n2 w.drew rfl) σ
     (growslice_fits σ γ)
    obtain⟨d3,d4⟩:=GB r;have hge:=grownCap_ge w (0+O (row::rest)) 0 e;have hrows:=MN (w:=w) (A:=aN w X h ρ) (rows:=[]) (old:=[]) (Builtin.zeroCells zv.cells (grownCap w (0+O (row::rest)) 0 e- (0+O (row::rest)))) (fun i row hi=>by grind) σ n3 n1;have hsz:([].toArray++news.toArray++Builtin.zeroCells zv.cells (grownCap w (0+O (row::rest)) 0 e- (0+O (row::rest)))).size=grownCap w (0+O (row::rest)) 0 e*k:=by
     simp only[Array.size_append,List.size_toArray,size_zeroCells,aFs,aES,←aFf, *];grind
    obtain⟨rfl,ρ',q1,q2,q3⟩:=wT (t:=e) (cap:=grownCap w (0+O (row::rest)) 0 e) d3 hdp (hrows.mono fun b hb=>d4.al hb) γ γ (by rw[hsz]) hr;refine⟨_,_,run,ρ',q1,d4.trans q2,?_⟩
    simp_all
  grind
 |rsl id sub k' lo n=>
  obtain⟨a,cap,rfl,hp,hn,hbd,ha⟩:=hx.rsl_inv;cases sub with
  |none=>
   simp only at hr;cases eo:h id<;>rw[eo]at hr<;>simp only[YQ]at hr<;>try (cases hr;done)
   rename_i k2 rows;split at hr
   ·rename_i hcond;obtain⟨rfl,rfl,rfl,rfl,hid,hfit⟩:=hcond;obtain⟨rfl,rfl,rfl⟩:=hr;exact KN r ht hu hk hb hz h0 hb0 eo (by grind[bu,decide_eq_false_iff_not]) hn γ γ n1 n2 n3 hfit
   ·rename_i hno;unfold Qg at hr;split at hr
    ·rename_i hcond;obtain⟨rfl,rfl,hfit⟩:=hcond;obtain⟨rfl,rfl,rfl⟩:=hr;exact acA r ht hu hk h0 eo hn hbd ha hfit n1 n2 n3
    ·split at hr
     ·rename_i hcond;obtain⟨rfl,rfl,rfl,rfl,hfit⟩:=hcond;obtain⟨hd',rfl,rfl,rfl⟩:=pg hr;have hne:d≠id:=by
       grind[bu,decide_eq_false_iff_not]
      have hd:h d=.dead:=by grind[aW]
      obtain⟨m1,m2⟩:=asg r eo hdp hd;obtain⟨v,w',q1,ρ',q2,q3,q4⟩:=KN (ty:=ty) (a:=a) (ay:=ay) (cy:=cy) (cap:=cap) m1 ht hu hk hb hz h0 hb0 (aD _ _ _) hdp hn (by grind[bZ]) (by grind[bZ]) n1 n2 (n3.mono fun b hb=>m2.al hb) hfit;rw[JH]at q2 q3 q4;exact⟨v,w',q1,ρ',q2,(m2.trans q3).cut hd,q4⟩
     grind
  |some p=>
   simp only at hr;cases eo:h id<;>rw[eo]at hr<;>simp only[alR]at hr<;>try (cases hr;done)
   rename_i cs;cases ec:cs[p]? with
   |none=>rw[ec]at hr;cases hr
   |some c=>
    rw[ec]at hr;cases c<;>simp only[ar4]at hr<;>try (cases hr;done)
    rename_i k2 rows;split at hr
    ·rename_i hcond;obtain⟨rfl,rfl,rfl,rfl,hfit⟩:=hcond;obtain⟨hd',rfl,rfl,rfl⟩:=pg hr;have hne:d≠id:=by grind[aD]
     have hd:h d=.dead:=by grind[aW]
     obtain⟨m1,m2⟩:=age r eo ec hdp hd;obtain⟨v,w',q1,ρ',q2,q3,q4⟩:=KN (ty:=ty) (a:=a) (ay:=ay) (cy:=cy) (cap:=cap) m1 ht hu hk hb hz h0 hb0 (aD _ _ _) hdp hn (by grind[bZ]) (by grind[bZ]) n1 n2 (n3.mono fun b hb=>m2.al hb) hfit;rw[JH]at q2 q3 q4;exact⟨v,w',q1,ρ',q2,(m2.trans q3).cut hd,q4⟩
    grind
 |_=>cases hr
end
section
variable {P:Program} {w w':World} {X:Nat→Prop} {ρ ρ':fL} {h h':aj} {A A':Nat→Prop}
def alY{t u ty e}{k}(ht:P.underlying t=some (.slice e))(hk:bQ P e=some k){base ay}{n cap l m cy}{news}(hm:Nat.min l n=m)
  (hnew:(Builtin.firstCells k m (.slice ay l cy)).run P w=.ok news.toArray w) (hst:∀a,base=some a->(storeCells a news).run P w=.ok () w') (hno:base=none->w'=w):
  (Builtin.copy_ #[t,u] ty #[.slice base n cap,.slice ay l cy]).run P w=.ok (goInt m) w':=by
 cases base with
 |none=>
  simp_all[Builtin.copy_,run_underlying,jI,Builtin.lenOf]
 |some a=>
  simp_all[Builtin.copy_,run_underlying,jI,Builtin.lenOf]
def agh{y}{uy}{l m}(hl:YT y=some l)(hy:RV w A ρ h y uy):∃a c,uy=.slice a l c/\RV w A ρ h (YS m y) (.slice a (min m l) c):=by
 cases y with
 |emp=>
  cases hl;obtain⟨a,rfl⟩:=hy.emp_inv;refine⟨a,0,rfl,?_⟩;rw[Nat.min_zero];exact hy
 |sl k rows=>
  cases hl;have hd:=hy.sl_inv;cases hd with
  |sl _ _ a cap ad vals hc ha hk hv hll hr=>
   refine⟨a,cap,rfl,?_⟩;have hlen:O (rows.take m)=min m (O rows):=aFm;have hget:∀ {i:Nat} {row},(rows.take m)[i]?=some row->rows[i]?=some row:=fun{i row} hi=>by
    grind
   have h1:RD w A (.sl k (rows.take m)) (.slice a (O (rows.take m)) cap):=
    .sl k (rows.take m) a cap ad vals ω (fun hne=>ha (fun e=>hne γ)) (fun row hm=>hk row (List.mem_of_mem_take hm))
     (fun i row j c hi hj=>hv i row j c (hget hi) hj) (fun row hm=>hll row (List.mem_of_mem_take hm)) (fun i row j c hi hj=>hr i row j c (hget hi) hj)
   rw[hlen]at h1;exact .dat h1
 |rsl id sub k lo n=>
  cases hl;obtain⟨a,cap,rfl,hp,hn,hb,ha⟩:=hy.rsl_inv;exact⟨a,cap,rfl,.rsl id sub k lo (min m l) cap a hp ω hb ha⟩
 |_=>cases hl
def agi{k lo}{rows ys}{us}{news}(_h0:0<k)(h1:dG w A k rows us)(h2:dG w A k ys news.toArray)(hm:O news=O ys*k)(hlo:lo<=O rows)(hle2:lo*k+O news<=us.size):
  dG w A k (rows.take lo++ys++rows.drop (lo+O ys)) (ef us (lo*k) news):=by
 have hlt:O (rows.take lo)=lo:=γ
 intro i row hi;have cell:∀j,j<k->∀a b:Nat,a<b->a*k+j<b*k:=fun j hj a b hab=>by
  have:=aE4 k hab;grind
 by_cases c1:i<lo
 ·have hrow:rows[i]?=some row:=by
   grind
  obtain⟨g1,g2⟩:=h1 i row hrow;refine⟨g1,fun j c hj=>?_⟩;obtain⟨u,f1,f2⟩:=g2 j c hj;have hjk:j<k:=γ
  refine⟨u,?_,f2⟩;rw[iX hle2,if_neg γ];omega
 ·by_cases c2:i<lo+O ys
  ·have hrow:ys[i-lo]?=some row:=by
    grind
   obtain⟨g1,g2⟩:=h2 (i-lo) row hrow;refine⟨g1,fun j c hj=>?_⟩;obtain⟨u,f1,f2⟩:=g2 j c hj;have hjk:j<k:=γ
   refine⟨u,?_,f2⟩;have e1:=cell j hjk (i-lo) (O ys) ω;have e2:i*k+j=lo*k+((i-lo)*k+j):=by
    have:i*k=lo*k+(i-lo)*k:=by rw[←aFf];grind
    omega
   simp_all[iX,if_pos]
  ·have hrow:rows[i]?=some row:=by
    rw[List.getElem?_append_right γ,List.getElem?_drop,List.length_append,hlt]at hi;grind
   obtain⟨g1,g2⟩:=h1 i row hrow;refine⟨g1,fun j c hj=>?_⟩;obtain⟨u,f1,f2⟩:=g2 j c hj;refine⟨u,?_,f2⟩;have e1:(lo+O ys)*k<=i*k:=aE4 k ω;rw[aFf]at e1;rw[iX hle2,if_neg ω];omega
def agj(r:Rel w X ρ h){t u ty e}{k}(ht:P.underlying t=some (.slice e))(hk:bQ P e=some k)(h0:0<k)
  {x y z} {ux uy} {ks} (hx:RV w (aN w X h ρ) ρ h x ux) (hy:RV w (aN w X h ρ) ρ h y uy) (hr:Ul h k x y=some (z,h',ks)):
  ∃v w',(Builtin.copy_ #[t,u] ty #[ux,uy]).run P w=.ok v w'/\Got w X ρ h w' h' ks z v:=by
 unfold Ul at hr;split at hr
 ·rename_i id k' lo n;simp only[aEQ]at hr;obtain⟨l,e1,ys,e2,hr⟩:=hr;obtain⟨ay,cy,rfl,hcut⟩:=agh (m:=n) e1 hy;obtain⟨a',c',e3,news,n1,n2,n3⟩:=PI (P:=P) r h0 hcut e2;injection e3 with e4 e5 e6
  subst e4 e6;obtain⟨a,cap,rfl,hp,hn,hbd,ha⟩:=hx.rsl_inv;cases eo:h id<;>rw[eo]at hr<;>simp only[YV]at hr<;>try (cases hr;done)
  rename_i k2 rows;split at hr
  ·rename_i hcond;obtain⟨rfl,rfl,hfit,hlen⟩:=hcond;obtain⟨rfl,rfl,rfl⟩:=hr;have hln:live h id none:=by grind[live]
   have ho:=r.ob id;rw[eo]at ho;obtain⟨us,t0,g1,g2,g3,g4⟩:=ho;have hyn:=ω
   have hle:lo*k'+O news<=us.size:=by
    have:(lo+O ys)*k'<=(lo+cap)*k':=aE4 k' ω;grind
   have h1:∀v∈news,v.oneCell'=true:=by
    intro v hv;obtain⟨q,hq⟩:=aFL hv;have h3:q/k'<O ys:=Nat.div_lt_of_lt_mul γ;obtain⟨f1,f2⟩:=n3 (q/k') _ (aE1 h3);have h4:q%k'< O (ys[q/k']):=by simp_all[aFx]
    obtain⟨v',f3,f4,f5⟩:=f2 (q%k') _ (aE1 h4);have h5:q/k'*k'+q%k'=q:=by grind[aFM]
    rw[h5,List.getElem?_toArray,hq]at f3;cases f3;exact f4.one f5
   have hlive:∀s,live (upd h id (.ar k' (rows.take lo++ys++rows.drop (lo+O ys)))) id s->live h id s:=by
    intro s h1;cases s with
    |none=>omega
    |some q=>obtain⟨_,_,_,h2,_⟩:=h1;grind[aD]
   have hkeep:∀s,cZ h id s->s=none:=by
    intro s hp;cases s with
    |none=>rfl
    |some q=>obtain⟨_,_,_,h2,_⟩:=hp;grind
   have ev:Evo w ρ h (w.setRow (ρ id none).1 (ef us (lo*k') news)) ρ (upd h id (.ar k' (rows.take lo++ys++rows.drop (lo+O ys)))) []:=
    D6 (X:=X) r hln _ hlive (fun s hp _=>by grind[cZ,aD]) (fun hbf=>by rw[eo]at hbf;cases hbf)
   have hlen2:O (rows.take lo++ys++rows.drop (lo+O ys))*k'<=us.size:=by
    rw[List.length_append,List.length_append,aFm,List.length_drop];grind[aFf]
   have hrel:=yL r hln _ hlive ev ⟨_,t0,setRow_heap w _ us _ t0 _ g1,by grind[eZ],by grind[eZ],agi h0 (g4.mono fun b hb=>ev.al hb) (n3.mono fun b hb=>ev.al hb) n1 hfit hle⟩;have hmin:=hlen.symm;have hnew:(Builtin.firstCells k' (O ys) (.slice ay l cy)).run P w=.ok news.toArray w:=by
    have:=n2 w rfl;cases ay<;>exact this
   refine⟨goInt (O ys),_,alY ht hk hmin hnew (w':=w.setRow (ρ id none).1 (ef us (lo*k') news)) (fun a2 ha'=>?_) (fun ha'=>?_),⟨ρ,hrel,ev,.dat (.v _ rfl)⟩⟩
   ·rcases ha with h9|h9
    ·have e2:=ω
     have e3:news=[]:=List.eq_nil_of_length_eq_zero γ;subst e3;rw[sL ω (fun j v hv=>by grind),setRow_self w _ us t0 (0,0) g1];rfl
    grind[run_storeCells_at,ef]
   grind[List.eq_nil_of_length_eq_zero,sL,setRow_self]
  grind
 grind
end
section
variable {P:Program} {w w':World} {X:Nat→Prop} {ρ ρ':fL} {h h':aj} {A A':Nat→Prop}
def acB(r:Rel w X ρ h){t e}{k}(ht:P.underlying t=some (.slice e))(hk:bQ P e=some k)(h0:0<k){x z}{u}{lo hi}{lo' hi'}{ks}
  (hx:RV w (aN w X h ρ) ρ h x u) (hl:RVo w (aN w X h ρ) ρ h lo lo') (hh:RVo w (aN w X h ρ) ρ h hi hi') (hz:Of h k x lo hi=some (z,h',ks)):
  ∃v,(Instr.sliceAt t u lo' hi' none).run P w=.ok v w/\Got w X ρ h w h' ks z v:=by
 have hsz:∀w,(sizeOf e).run P w=.ok k w:=by
  simp only[bQ,aEU]at hk;obtain⟨i,h1,h2⟩:=hk
  simp_all[sizeOf,typeInfo]
 have run:∀a n cap l r m,(Instr.sliceBounds true n cap lo' hi' none).run P w=.ok (l,r,m) w->
   (Instr.sliceAt t (.slice a n cap) lo' hi' none).run P w=.ok (.slice (if m=l then a else a.map (·.add (l*k))) (r-l) (m-l)) w:=by
  simp_all[Instr.sliceAt,Instr.slice,run_underlying]
 cases x<;>simp only[Of]at hz<;>try (cases hz;done)
 rename_i id sub k' l0 n;cases sub with
 |some p=>grind
 |none=>
 simp only at hz;split at hz
 ·rename_i hkk;subst hkk;obtain⟨a,cap,rfl,hp,hn,hb,ha⟩:=hx.rsl_inv;cases eo:h id<;>rw[eo]at hz<;>simp only[RZ]at hz<;>try (cases hz;done)
  rename_i k2 rows;split at hz
  ·rename_i hcond;obtain⟨rfl,hs,hle⟩:=hcond;simp only[aEU]at hz;obtain⟨⟨l,r'⟩,h1,h2⟩:=hz;obtain⟨rfl,rfl,rfl⟩:=h2;have ho:=r.ob id;rw[eo]at ho;obtain⟨us,t0,g1,g2,g3,g4⟩:=ho;have hcap:=by
    have h5:O rows*k2<=(l0+cap)*k2:=ω
    exact Nat.le_of_mul_le_mul_right h5 h0
   obtain⟨m,q2,q3,q4,q5,q6,q7,q8⟩:=zU (P:=P) (cap:=cap) true hl hh .none h1 ω;cases hh with
   |none=>grind
   |some hv=>
   have q2':=q2;refine⟨_,run _ _ _ _ _ _ q2',ρ,r,.refl _ _ _,.rsl _ _ _ _ _ _ _ hp ω γ ?_⟩;rcases ha with h0|h0
   ·omega
   ·by_cases hml:m=l
    all_goals simp_all[if_neg,aFK,sG,aFf]
  grind
 grind
def agk(r:Rel w X ρ h){t}(hg:xU P t=some false){d}(hdp:bu d=false){x z}{u}{ks}
  (hx:RV w (aN w X h ρ) ρ h x u) (hz:R2 h d x=some (z,h',ks)):
  ∃ad v,u=.pointer (some ad)/\(loadVar t ad).run P w=.ok v w/\Got w X ρ h w h' ks z v:=by
 cases x<;>simp only[R2]at hz<;>try (cases hz;done)
 rename_i id sub k0 i j;cases sub with
 |some p=>grind
 |none=>
 simp only at hz;obtain⟨rfl,hp⟩:=hx.ref_inv;cases eo:h id<;>rw[eo]at hz<;>simp only[Yt]at hz<;>try (cases hz;done)
 rename_i cs;obtain⟨us,t0,g1,g2,g3,g4⟩:=r.cell eo;generalize hpp:i*k0+j=p at hz⊢;cases ec:cs[p]? with
 |none=>grind[Og]
 |some c=>
  rw[ec]at hz;obtain⟨v,f1,f2⟩:=g4 p c ec;have hload:(loadVar t ⟨(ρ id none).1,p,none⟩).run P w=.ok v w:=Jh hg (by grind[GV]);refine⟨_,v,rfl,hload,?_⟩;cases c<;>simp only[Og]at hz<;>try (cases hz;done)
  ·obtain⟨rfl,rfl,rfl⟩:=hz;exact⟨ρ,r,.refl _ _ _,f2.1⟩
  ·rename_i k rows;obtain⟨hd',rfl,rfl,rfl⟩:=pg hz;have hne:d≠id:=by grind[aD]
   have hd:h d=.dead:=by grind[aW]
   obtain⟨m1,m2⟩:=age r eo ec hdp hd;obtain⟨a,cap,us1,t1,rfl,q2,q3,q4,q5,q6,q7⟩:=f2;refine⟨_,m1,m2,.rsl d none k 0 (O rows) cap a (by simp[cZ,aD]) q3 (by rw[bZ,aES,q6,q5]) ?_⟩
   simp_all[bZ,Nat.zero_mul]
def acC(r:Rel w X ρ h){k}(h0:0<k){id m}{rows ys}(eo:h id=.ar k rows)(hfit:m+O ys<=O rows)
  {news} (n1:O news=O ys*k) (n3:dG w (aN w X h ρ) k ys news.toArray):
  ∃w',Rel w' X ρ (upd h id (.ar k (rows.take m++ys++rows.drop (m+O ys))))/\Evo w ρ h w' ρ (upd h id (.ar k (rows.take m++ys++rows.drop (m+O ys)))) []/\
   (storeCells ⟨(ρ id none).1,m*k,none⟩ news).run P w=.ok () w'/\(news=[]->w'=w):=by
 have hln:live h id none:=by grind[live]
 have ho:=r.ob id;rw[eo]at ho;obtain⟨us,t0,g1,g2,g3,g4⟩:=ho;have hle:m*k+O news<=us.size:=by
  have:=aE4 k hfit;grind
 have h1:∀v∈news,v.oneCell'=true:=by
  intro v hv;obtain⟨q,hq⟩:=aFL hv;have h3:q/k<O ys:=Nat.div_lt_of_lt_mul γ;obtain⟨f1,f2⟩:=n3 (q/k) _ (aE1 h3);have h4:q%k< O (ys[q/k]):=by simp_all[aFx]
  obtain⟨v',f3,f4,f5⟩:=f2 (q%k) _ (aE1 h4);have h5:q/k*k+q%k=q:=by grind[aFM]
  rw[h5,List.getElem?_toArray,hq]at f3;cases f3;exact f4.one f5
 have hlive:∀s,live (upd h id (.ar k (rows.take m++ys++rows.drop (m+O ys)))) id s->live h id s:=by
  intro s h1;cases s with
  |none=>omega
  |some q=>obtain⟨_,_,_,h2,_⟩:=h1;grind[aD]
 have hkeep:∀s,cZ h id s->s=none:=by
  intro s hp;cases s with
  |none=>rfl
  |some q=>obtain⟨_,_,_,h2,_⟩:=hp;grind
 have ev:Evo w ρ h (w.setRow (ρ id none).1 (ef us (m*k) news)) ρ (upd h id (.ar k (rows.take m++ys++rows.drop (m+O ys)))) []:=
  D6 (X:=X) r hln _ hlive (fun s hp _=>by grind[cZ,aD]) (fun hbf=>by rw[eo]at hbf;cases hbf)
 have hrel:=yL r hln _ hlive ev ⟨_,t0,setRow_heap w _ us _ t0 _ g1,by grind[eZ],by grind[eZ],Wi h0 (g4.mono fun b hb=>ev.al hb) (n3.mono fun b hb=>ev.al hb) n1 ω g3⟩;grind[run_storeCells_at,ef,sL,setRow_self]
def agl(r:Rel w X ρ h){t e ty}{k}{zs}(ht:P.underlying t=some (.slice e))(hk:bQ P e=some k)(hzz:oJ P e=some zs)(h0:0<k){x z}{u}{ks}
  (hx:RV w (aN w X h ρ) ρ h x u) (hz:Um h k zs x=some (z,h',ks)):
  ∃v w',(Builtin.clear_ #[t] ty #[u]).run P w=.ok v w'/\Got w X ρ h w' h' ks z v:=by
 cases x<;>simp only[Um]at hz<;>try (cases hz;done)
 rename_i id sub k' lo n;cases sub with
 |some p=>grind
 |none=>
 simp only at hz;split at hz
 ·obtain⟨a,cap,rfl,hp,hn,hb,ha⟩:=hx.rsl_inv;cases eo:h id<;>rw[eo]at hz<;>simp only[YW]at hz<;>try (cases hz;done)
  rename_i k2 rows;split at hz
  ·rename_i hcond;obtain⟨rfl,hfit⟩:=hcond;obtain⟨rfl,rfl,rfl⟩:=hz;obtain⟨zv,z1,z2,z3,z4⟩:=Fk (w:=w) (A:=aN w X h ρ) hk hzz n n (aET n);obtain⟨ii,zw,y1,y2,y3,y4,_⟩:=sJ (w:=w) (A:=aN w X h ρ) (ρ:=ρ) (h:=h) hzz;have hzv:zv=zw:=by
    have h5:=z1 w;rw[Si y1 y2 w]at h5;grind
   have hcs:zv.cells.size=k2:=by grind[bQ]
   have hnews:(Builtin.zeroCells zv.cells n)=(Array.range (n*k2)).map (zv.cells[· %zv.cells.size]!):=by
    grind[Builtin.zeroCells]
   obtain⟨w',m1,m2,m3,m4⟩:=acC (P:=P) r h0 (m:=lo) (ys:=aER n zs) (news:=(Builtin.zeroCells zv.cells n).toList) eo γ γ (by rw[Array.toArray_toList,hnews];omega);rw[aFU]at m1 m2;refine⟨.tuple #[],w',?_,ρ,m1,m2,.tup [] #[] rfl (fun i c u hc=>by grind)⟩;by_cases hn0:n=0
   ·subst hn0;have:(Builtin.zeroCells zv.cells 0).toList=[]:=γ
    rw[m4 this];cases a<;>simp[Builtin.clear_,run_underlying ht]
   ·rcases ha with h9|h9
    all_goals simp_all[Nat.exists_eq_succ_of_ne_zero,Builtin.clear_,run_underlying]
  grind
 grind
theorem agm{z}{n c}(hn:n<=c):Builtin.zeroCells z n++Builtin.zeroCells z (c-n)=(Array.range (c*z.size)).map (z[· %z.size]!):=by
 unfold Builtin.zeroCells;apply Array.ext
 ·simp only[Array.size_append,Array.size_map,Array.size_range];rw[←aFf];grind
 ·intro i h1 h2;rw[Array.getElem_append];split
  ·simp
  ·rename_i h3;simp only[Array.size_map,Array.size_range]at h3;have:i%z.size=(i-n*z.size) %z.size:=by
    have h4:i=(i-n*z.size)+n*z.size:=ω
    rw[h4,Nat.add_mul_mod_self_right,Nat.add_sub_cancel]
   grind
def acD(r:Rel w X ρ h){t u e ty}{k b d}(hdp:bu d=false){zs}(ht:P.underlying t=some (.slice e))(hu:P.underlying u=some (.int .i64))(hk:bQ P e=some k)(hbb:wQ P e=some b)(hzz:oJ P e=some zs)(h0:0<k)(hb0:0<b)
  {x y z} {ux uy} {ks} (hx:RV w (aN w X h ρ) ρ h x ux) (hy:RV w (aN w X h ρ) ρ h y uy) (hr:Iv h d k b zs x y=some (z,h',ks)):
  ∃v w',(Builtin.append_ #[t,u] ty #[ux,uy]).run P w=.ok v w'/\Got w X ρ h w' h' ks z v:=by
 unfold Iv at hr;split at hr
 ·rename_i c;obtain⟨a,rfl⟩:=hx.emp_inv;obtain⟨rfl,_⟩:=hy.v_inv;split at hr
  ·rename_i hcond;obtain⟨hc0,hfit⟩:=hcond;obtain⟨n,rfl⟩:=aFy (show 0<=c by omega);rw[aEY]at hr hfit;obtain⟨i,zv,z1,z2,z3,z4,_⟩:=sJ (w:=w) (A:=aN w X h ρ) (ρ:=ρ) (h:=h) hzz;have hik:i.size=k:=by grind[bQ]
   have hib:i.bytes=b:=by grind[wQ]
   have hcs:zv.cells.size=k:=ω
   obtain⟨d3,d4⟩:=GB r;have hge:=grownCap_ge w (0+n) 0 e;obtain⟨zw,y1,y2,y3,y4⟩:=Fk (w:=w.drew) (A:=aN w.drew X h ρ) hk hzz n (grownCap w (0+n) 0 e) ω;have hzv:zw=zv:=by
    have h5:=y1 w;rw[Si z1 z2 w]at h5;grind
   subst hzv;obtain⟨rfl,ρ',q1,q2,q3⟩:=wT (t:=e) (cap:=grownCap w (0+n) 0 e) d3 hdp y4 y3 ω (by rw[y2]) hr;refine⟨_,_,?_,ρ',q1,d4.trans q2,q3⟩;have hnb:n<=140737488355328:=by
    have:n*1<=n*b:=aFV n hb0;omega
   have hw:IntKind.i64.wrap (n:Int)=n:=by grind[IntKind.wrap,IntKind.signed,IntKind.bits]
   have hn1:n≠0:=ω
   have h48:¬ (281474976710656< (n:Int)*i.bytes):=by
    grind
   have hmax:¬ ((9223372036854775807:Int)< (n:Int)):=ω
   have hns:¬ (281474976710656<Builtin.nextslicecap n 0*i.bytes):=by
    simp_all[growslice_fits,bytes]
   have hb':i.bytes≠0:=ω
   have hk':i.size≠0:=ω
   have hneg:¬ ((n:Int)<0):=ω
   have hli:∀w:World,(asInt (.int .i64 (n:Int))).run P w=.ok (n:Int) w:=fun _=>rfl;simp only[aES]at hge⊢;simp[Builtin.append_,run_underlying ht,run_underlying hu,sizeOf,typeInfo,zeroValue,z1,z2,hli,hw,hn1,h48,hmax,hns,hb',hneg,Question.forced,newRow,grownCap,lI]
   simp_all[if_neg,Nat.mul_eq_zero,agm,grownCap]
  grind
 ·rename_i id k' lo i c m;obtain⟨a,rfl,hp,hn,hbd,ha⟩:=hx.rsc_inv;obtain⟨rfl,_⟩:=hy.v_inv;split at hr
  ·rename_i hcond;obtain⟨rfl,rfl,hm0,hroom⟩:=hcond;obtain⟨n,rfl⟩:=aFy (show 0<=m by omega);rw[aEY]at hr hroom;cases eo:h id<;>rw[eo]at hr<;>simp only[R1]at hr<;>try (cases hr;done)
   rename_i k2 rows;split at hr
   ·rename_i hcond2;obtain⟨rfl,hle,hfit⟩:=hcond2;have ho:=r.ob id;rw[eo]at ho;obtain⟨us,t0,g1,g2,g3,g4⟩:=ho;obtain⟨ii,zv,z1,z2,z3,z4,_⟩:=sJ (w:=w) (A:=aN w X h ρ) (ρ:=ρ) (h:=h) hzz;have hik:ii.size=k2:=by grind[bQ]
    have hib:ii.bytes=b:=by grind[wQ]
    have hcs:zv.cells.size=k2:=ω
    have hlt:O (rows.take i)=i:=γ
    obtain⟨old,o1,o2,o3⟩:∃old:List Value,O old=O (rows.take i)*k2/\(∀w2:World,w2.heap=w.heap->(Builtin.firstCells k2 i (.slice a i c)).run P w2=.ok old.toArray w2)/\dG w (aN w X h ρ) k2 (rows.take i) old.toArray:=by
     rw[hlt];by_cases hr0:i=0
     ·subst hr0;exact⟨[],by simp,fun w2 _=>lI _ _ _ _ _,fun q row hq=>by grind⟩
     ·rcases ha with h9|rfl
      ·omega
      ·obtain⟨old,f1,f2,f3⟩:=BB (P:=P) (w:=w) (A:=aN w X h ρ) (o:=0) (n:=i) (l:=i) (cap:=c) g1 g4 ω h0;grind
    obtain⟨zw,y1,y2,y3,y4⟩:=Fk (w:=w) (A:=aN w X h ρ) hk hzz n n (aET _);have hzv:zw=zv:=by
     have h5:=y1 w;rw[Si z1 z2 w]at h5;grind
    subst hzv;have hnews:Builtin.zeroCells zw.cells n=(Array.range (n*k2)).map (zw.cells[· %zw.cells.size]!):=by
     grind[Builtin.zeroCells]
    have hz4:dG w (aN w X h ρ) k2 (aER n zs) (Builtin.zeroCells zw.cells n).toList.toArray:=by
     rw[Array.toArray_toList,hnews];omega
    obtain⟨d3,d4⟩:=GB r;have hge:=grownCap_ge w (i+n) c e;have hl2:(Builtin.zeroCells zw.cells n).toList.length=O (aER n zs)*k2:=γ
    have hrows:=MN (w:=w) (A:=aN w X h ρ) (Builtin.zeroCells zw.cells (grownCap w (i+n) c e- (i+n))) o3 o1 hz4 hl2;have hsz:(old.toArray++(Builtin.zeroCells zw.cells n).toList.toArray++Builtin.zeroCells zw.cells (grownCap w (i+n) c e- (i+n))).size=grownCap w (i+n) c e*k2:=by
     simp only[Array.size_append,List.size_toArray,size_zeroCells,hcs,o1,hlt,hl2,aFU,←aFf];grind
    have hlen:O (rows.take i++aER n zs)=i+n:=γ
    obtain⟨rfl,ρ',q1,q2,q3⟩:=wT (t:=e) (cap:=grownCap w (i+n) c e) d3 hdp (hrows.mono fun b hb=>d4.al hb) (by simp_all[aE4]) hge hsz.symm hr;refine⟨_,_,?_,ρ',q1,d4.trans q2,q3⟩;have hnb:(i+n)*1<=(i+n)*b:=aFV _ hb0;have hw:IntKind.i64.wrap (n:Int)=n:=by grind[IntKind.wrap,IntKind.signed,IntKind.bits]
    have hn1:n≠0:=ω
    have hnb2:n*b<=(i+n)*b:=aE4 b ω;have h48:¬ (281474976710656< (n:Int)*ii.bytes):=by
     grind
    have hmax:¬ ((9223372036854775807:Int)< (i:Int)+(n:Int)):=ω
    have hcap:¬ (i+n<=c):=ω
    have hns:¬ (281474976710656<Builtin.nextslicecap (i+n) c*ii.bytes):=by
     simp_all[growslice_fits,bytes]
    have hb':ii.bytes≠0:=ω
    have hk':ii.size≠0:=ω
    have hneg:¬ ((n:Int)<0):=ω
    have hli:∀w:World,(asInt (.int .i64 (n:Int))).run P w=.ok (n:Int) w:=fun _=>rfl;have ho2:=o2 w.drew rfl;simp[Builtin.append_,run_underlying ht,run_underlying hu,sizeOf,typeInfo,zeroValue,z1,z2,hli,hw,h48,hmax,hns,hb',hneg,hcap,Question.forced,newRow,grownCap,hik,ho2];grind
   grind
  grind
 grind
end
section
variable {P:Program} {w w':World} {X:Nat→Prop} {ρ ρ':fL} {h h':aj} {s:aM} {a:Act}
def Jj(hs:RS w (aN w X h ρ) ρ h s a.tmps):∀ps q,JD ps=some q->O q=O ps/\
  ∀ (m:Nat) p v,q[m]?=some p->ps[m]?=some v->v.1=p.1/\RV w (aN w X h ρ) ρ h (ev s p.2) (a.eval v.2)
 |[],q,hq=>by grind[JD]
 | (i,x)::ps,q,hq=>by
  simp only[JD,aEQ]at hq;obtain⟨y,h1,q',h2,h3⟩:=hq;cases h3;obtain⟨g1,g2⟩:=Jj hs ps q' h2;refine⟨by simp[g1],fun m p v e1 e2=>?_⟩;cases m with
  |zero=>simp at e1 e2;subst e1 e2;exact⟨rfl,bp h1 hs⟩
  |succ m=>exact g2 m p v (by simpa using e1) (by simpa using e2)
def uH{x:Option α}{f:α->POp}{y}(hc:(x.map fun a=>AOp.p (f a))=some y):∃p,y=.p p:=by
 grind[aEU]
def fy{x:Option α}{f}{y:AOp}(hf:∀a,f a=some y->∃p,y=.p p)(hc:x.bind f=some y):∃p,y=.p p:=by
 grind[aEQ]
def ash{c} [Decidable c]{p}{y}(hc:(if c then none else some (AOp.p p))=some y):∃p,y=.p p:=by
 grind
def agn{u}(h:afR P u=true):P.underlying u=some (.int .i64):=by
 grind[afR]
def alZ{op}{aop}{call}{md}(hc:MF P op=some aop)(hnc:∀f zas,aop≠ .call f zas)(r:Rel w X ρ h)(hs:RS w (aN w X h ρ) ρ h s a.tmps){d}(hdp:bu d=false){z}{ks}
  (hz:step call md d aop s h=some (z,h',ks)) (o) (ho:o.op=op):
  ∃nx v w',(execOp a.eval o).run P w=.ok nx w'/\(nx=.value v\/(nx=.skip/\v=undef))/\Got w X ρ h w' h' ks z v:=by
 have fin:∀ {m},(∃v w',m.run P w=.ok v w'/\Got w X ρ h w' h' ks z v)->∃nx v w',(do pure (.value (←m)):Sem Next).run P w=.ok nx w'/\(nx=.value v\/(nx=.skip/\v=undef))/\Got w X ρ h w' h' ks z v:=by
  intro m hm;obtain⟨v,w',h1,h2⟩:=hm;exact⟨_,v,w',by simp_all,.inl rfl,h2⟩
 by_cases hp:∃pop,aop=.p pop
 ·obtain⟨pop,rfl⟩:=hp;simp only[step,Ha,aEU,Prod.mk.injEq]at hz;obtain⟨z',h1,rfl,rfl,rfl⟩:=hz;obtain⟨v,g1,g2⟩:=af6 hc hs h1 o ho;exact⟨_,v,w,g1,.inl rfl,ρ,r,.refl _ _ _,g2⟩
 ·cases op<;>simp only[MF]at hc
  case alloc=>
   simp only[aEU]at hc;obtain⟨zs,h1,h2⟩:=hc;cases h2;simp only[execOp,ho];exact fin (acy r h1 hdp hz)
  case box=>
   simp only[aEQ,aEU]at hc;obtain⟨k,h1,y,h2,h3⟩:=hc;cases h3;simp only[execOp,ho];exact fin (aga r hdp (bp h2 hs) hz)
  case buildSlice t n ps=>
   simp only[GU,aEQ]at hc;obtain⟨e,h1,k,h2,hc⟩:=hc;split at hc
   ·rename_i hn;simp only[aEQ,aEU]at hc;obtain⟨zs,h3,q,h4,h5⟩:=hc;cases h5;obtain⟨g1,g2⟩:=Jj hs _ _ h4;simp only[execOp,ho];simp only[step]at hz;refine fin (LU r hdp h1 h2 h3 hn.1 γ (fun m p v e1 e2=>?_) hz);grind
   grind
  case makeSlice t l c=>
   simp only[Yu,aEQ]at hc;obtain⟨l',h1,c',h2,e,h3,k,h4,b,h5,hc⟩:=hc;split at hc
   ·simp only[aEU]at hc;obtain⟨zs,h6,h7⟩:=hc;cases h7;simp only[execOp,ho];exact fin (agc r hdp h3 h4 h5 h6 (bp h1 hs) (bp h2 hs) hz)
   grind
  case load t x=>
   simp only[aEQ]at hc;obtain⟨g,h1,k,h2,y,h3,hc⟩:=hc;split at hc
   ·cases hc;obtain⟨ad,v,g1,g2,g3,g4,g5⟩:=PH (P:=P) r h1 h2 (bp h3 hs) hz;simp only[execOp,ho];exact fin ⟨v,w,by rw[g1];exact g2,ρ,g3,g4,g5⟩
   grind
  case store t x y=>
   simp only[aEQ,aEU]at hc;obtain⟨k,h1,x',h2,y',h3,h4⟩:=hc;cases h4;obtain⟨ad,w',ρ',rfl,g1,g2,g3,g4⟩:=Zd (P:=P) r h1 (bp h2 hs) (bp h3 hs) hz;simp only[execOp,ho];refine⟨.skip,undef,w',?_,.inr ⟨rfl,rfl⟩,ρ',g3,g4,.und⟩;have:(Instr.storeAt t (a.eval x) (a.eval y)).run P w=.ok () w':=by rw[g1];exact g2
   simp_all
  case call c=>
   unfold Yx at hc;split at hc
   ·rename_i b hb;have run:∀args,args=c.args.map a.eval->(execOp a.eval o).run P w=(builtin b c.argTypes o.type (c.args.map fun| .const _=>true|_=>false) args).run P w:=by
     grind[execOp,resolve,Sem.run_bind,Sem.run_pure,Result.andThen,invoke]
    unfold KC at hc;split at hc
    ·exact absurd (fy (fun _ h=>uH h) hc) hp
    ·exact absurd (fy (fun _ h=>uH h) hc) hp
    ·exact absurd (fy (fun _ h=>uH h) hc) hp
    ·exact absurd (fy (fun _ h=>uH h) hc) hp
    ·unfold afS at hc;split at hc
     ·rename_i t u x y e1 e2;have hargs:c.args.map a.eval=#[a.eval x,a.eval y]:=Array.toList_inj.1 (by simp[e2]);have hts:c.argTypes=#[t,u]:=Array.toList_inj.1 ω;split at hc
      ·rename_i hi64;simp only[Yv,aEQ]at hc;obtain⟨e,q1,k,q3,b,q4,x',q5,y',q6,zs,hzs,hc⟩:=hc;split at hc
       ·rename_i hcond;cases hc;rw[run _ rfl,hargs,hts];exact fin (acD r hdp (sM q1) (agn hi64) q3 q4 hzs hcond.1 hcond.2 (bp q5 hs) (bp q6 hs) hz)
       grind
      ·simp only[aEQ]at hc;obtain⟨e,q1,e',q2,k,q3,b,q4,x',q5,y',q6,hc⟩:=hc;split at hc
       ·rename_i hcond;cases hc;obtain⟨zs,hzs⟩:=Option.isSome_iff_exists.1 hcond.2.2;rw[run _ rfl,hargs,hts];exact fin (agf r (sM q1) (sM q2) q3 q4 hzs hcond.1 hcond.2.1 hdp (bp q5 hs) (bp q6 hs) hz)
       grind
     grind
    ·unfold Yw at hc;split at hc
     ·rename_i t u x y e1 e2;simp only[aEQ]at hc;obtain⟨e,q1,k,q3,x',q5,y',q6,hc⟩:=hc;split at hc
      ·rename_i hcond;cases hc;have hargs:c.args.map a.eval=#[a.eval x,a.eval y]:=Array.toList_inj.1 (by simp[e2]);have hts:c.argTypes=#[t,u]:=Array.toList_inj.1 ω;rw[run _ rfl,hargs,hts];obtain⟨v,w',g1,g2⟩:=agj (P:=P) (u:=u) (ty:=o.type) r (sM q1) q3 hcond (bp q5 hs) (bp q6 hs) hz;refine⟨.value v,v,w',?_,.inl rfl,g2⟩;show(do pure (.value (←Builtin.copy_ #[t,u] o.type #[a.eval x,a.eval y])):Sem Next).run P w=_
       simp_all
      grind
     grind
    ·unfold R9 at hc;split at hc
     ·rename_i t x e1 e2;simp only[aEQ]at hc;obtain⟨e,q1,k,q3,x',q5,zs,hzs,hc⟩:=hc;split at hc
      ·rename_i hcond;cases hc;have hargs:c.args.map a.eval=#[a.eval x]:=Array.toList_inj.1 (by simp[e2]);have hts:c.argTypes=#[t]:=Array.toList_inj.1 ω;rw[run _ rfl,hargs,hts];exact fin (agl (P:=P) (ty:=o.type) r (sM q1) q3 hzs hcond (bp q5 hs) hz)
      grind
     grind
    grind
   all_goals grind[aEQ,aEU,absurd]
  case makeFunc fn _ _=>
   cases fn
   ·exact absurd (fy (fun _ h=>uH h) hc) hp
   all_goals grind
  all_goals first
   | (cases hc;done)
   |exact absurd (uH hc) hp
   |exact absurd (fy (fun _ h=>uH h) hc) hp
   |exact absurd (fy (fun _ h=>fy (fun _ h=>uH h) h) hc) hp
   |exact absurd (fy (fun _ h=>fy (fun _ h=>fy (fun _ h=>uH h) h) h) hc) hp
   |exact absurd (fy (fun _ h=>fy (fun _ h=>fy (fun _ h=>fy (fun _ h=>uH h) h) h) h) hc) hp
   |exact absurd (fy (fun _ h=>fy (fun _ h=>fy (fun _ h=>ash h) h) h) hc) hp
def aiH{op}{hint aop}{call}{md}(hc:Y6 P hint op=some aop)(hnc:∀f zas,aop≠ .callC f zas)(r:Rel w X ρ h)(hs:RS w (aN w X h ρ) ρ h s a.tmps){d}(hdp:bu d=false){z}{ks}
  (hz:step call md d aop s h=some (z,h',ks)) (o) (ho:o.op=op):
  (∃nx v w',(execOp a.eval o).run P w=.ok nx w'/\(nx=.value v\/(nx=.skip/\v=undef))/\Got w X ρ h w' h' ks z v)/\∀f zas,aop≠ .call f zas:=by
 have fin:∀ {m},(∃v w',m.run P w=.ok v w'/\Got w X ρ h w' h' ks z v)->∃nx v w',(do pure (.value (←m)):Sem Next).run P w=.ok nx w'/\(nx=.value v\/(nx=.skip/\v=undef))/\Got w X ρ h w' h' ks z v:=by
  intro m hm;obtain⟨v,w',h1,h2⟩:=hm;exact⟨_,v,w',by simp_all,.inl rfl,h2⟩
 unfold Y6 at hc;split at hc
 ·simp only[aEQ]at hc;obtain⟨e,q1,k,q2,x',q3,lo',q4,hi',q5,hc⟩:=hc;split at hc
  ·rename_i h0;cases hc;refine⟨?_,fun f zas h=>by grind⟩;simp only[execOp,ho];obtain⟨v,g1,g2⟩:=acB (P:=P) r (sM q1) q2 h0 (bp q3 hs) (vJ q4 hs) (vJ q5 hs) hz;exact fin ⟨v,w,g1,g2⟩
  grind
 ·grind[aEQ,aEU,absurd]
 ·rename_i t n ps;simp only[GU,aEQ]at hc;obtain⟨b,⟨e,h1,k,h2,hc⟩,hb⟩:=hc;split at hc
  ·rename_i hn;simp only[aEQ,aEU]at hc;obtain⟨zs,h3,q,h4,rfl⟩:=hc;cases hb;obtain⟨g1,g2⟩:=Jj hs _ _ h4;refine⟨?_,fun f zas h=>by cases h⟩;simp only[execOp,ho];simp only[step,aEQ]at hz;obtain⟨⟨x0,h0,k0⟩,hz,hco⟩:=hz;obtain⟨v,w',r1,ρ',r2,r3,r4⟩:=LU (h':=h0) (vs:=ps.map fun p=>(p.1,a.eval p.2)) r hdp h1 h2 h3 hn.1 (by simp[g1]) (fun m p v e1 e2=>by
    simp only[aFw,aEU]at e1;obtain⟨p',e1,rfl⟩:=e1;simp only[Array.getElem?_map,aEU]at e2;obtain⟨v',e2,rfl⟩:=e2;exact g2 m p' v' e1 (by simpa using e2)) (Option.bind_eq_some_iff.2 hz)
   unfold Ix at hco;split at hco
   ·rename_i id k' lo m hx;simp only at hx;subst hx;simp only[aEU]at hco;obtain⟨c,c1,c2⟩:=hco;cases c2;obtain⟨f1,f2,f3⟩:=CV r2 r4 (fun _ hb=>hb) (by obtain⟨_,_,e,_⟩:=r4.rsl_inv;rw[e];rfl) c1;exact fin ⟨v,w',r1,ρ',f1,r3.trans f2,.dat f3.1⟩
   ·cases hco
  ·cases hc
 ·rename_i t x;simp only[aEQ]at hc;obtain⟨g,q1,x',q2,hc⟩:=hc;split at hc
  ·grind
  ·cases hc;refine⟨?_,fun f zas h=>by grind⟩;obtain⟨ad,v,g1,g2,g3⟩:=agk (P:=P) r (by simpa [Bool.not_eq_true]using (by grind:xU P t=some false)) hdp (bp q2 hs) hz;simp only[execOp,ho];exact fin ⟨v,w,by rw[g1];exact g2,g3⟩
 grind
end
structure Inv where
 p:World->(Nat->Prop)->Prop
 stab:∀ {w w':World} {X:Nat->Prop},p w X->(∀b,XZ X b->w'.heap[b]?=w.heap[b]?)->p w' X
 more:∀ {w:World} {X X':Nat->Prop},p w X->(∀b,X b->X' b)->p w X'
structure Far (nm:Bool) (w:World) (ρ:fL) (h:aj) (w':World) (ρ':fL) (h':aj):Prop where
 os:w'.os=w.os
 tape:w'.tape=w.tape
 output:w'.output=w.output
 size:w.heap.size<=w'.heap.size
 old:∀b,b<w.heap.size->¬wS h ρ b->w'.heap[b]?=w.heap[b]?
 fresh:∀b,wS h' ρ' b->wS h ρ b\/w.heap.size<=b
 stay:∀id,bu id=true->h' id≠ .dead->h id≠ .dead/\ρ' id none=ρ id none
 keep:nm=true->∀id p,bu id=true->h' id≠ .dead->cZ h id (some p)->cZ h' id (some p)/\ρ' id (some p)=ρ id (some p)
def al0{nm}{ks}(h:vZ nm ks=true)(hn:nm=true){id}(hp:bu id=true)(s):lF ks id s=false:=by
 simp only[vZ,aMD,Bool.false_or,aFc,aFS]at h;simp only[lF,List.any_eq_false,aEV,beq_iff_eq,not_and];grind
def Evo.far{nm}{w w'}{ρ ρ'}{h h'}{ks}(e:Evo w ρ h w' ρ' h' ks)(hn:vZ nm ks=true):Far nm w ρ h w' ρ' h':=
 ⟨e.os,e.tape,e.output,e.size,e.old,e.fresh,e.stay,fun h1 id p hp _ h2=>e.keep id (some p) h2 (al0 hn h1 hp _)⟩
theorem tK(nm):vZ nm []=true:=by cases nm<;>rfl
theorem Far.refl(nm)(w)(ρ)(h):Far nm w ρ h w ρ h:=(Evo.refl w ρ h).far (tK nm)
theorem Far.trans{nm}{w w' w''}{ρ ρ' ρ''}{h h' h''}(a:Far nm w ρ h w' ρ' h')(b:Far nm w' ρ' h' w'' ρ'' h''):Far nm w ρ h w'' ρ'' h'':=
 ⟨b.os.trans a.os,b.tape.trans a.tape,b.output.trans a.output,aEX a.size b.size,
  fun x hx ho=>(b.old x (aFQ hx a.size) (fun o=>by rcases a.fresh x o with o|o;all_goals grind)).trans (a.old x hx ho),
  fun x o=>by
   rcases b.fresh x o with o|o
   ·exact a.fresh x o
   ·exact .inr (aEX a.size o),
  fun id hp hd=>by
   obtain⟨h1,h2⟩:=b.stay id hp hd;obtain⟨h3,h4⟩:=a.stay id hp h1;grind,
  fun hn id p hp hd h1=>by
   obtain⟨h2,h3⟩:=a.keep hn id p hp (b.stay id hp hd).1 h1;obtain⟨h4,h5⟩:=b.keep hn id p hp hd h2;grind⟩
def Far.inv{I:Inv}{nm}{w w'}{X}{ρ ρ'}{h h'}(f:Far nm w ρ h w' ρ' h')(r:Rel w X ρ h)(hi:I.p w X):I.p w' X:=
 I.stab hi fun b hb=>f.old b (r.xl b hb) fun⟨id,sub,hl,e⟩=>r.nx id sub hl (e▸hb)
def Evo.inv{I:Inv}{w w'}{X}{ρ ρ'}{h h'}{ks}(f:Evo w ρ h w' ρ' h' ks)(r:Rel w X ρ h)(hi:I.p w X):I.p w' X:=(f.far (nm:=false) rfl).inv r hi
def Enters(P:Program)(f:FuncId)(vals:Array Value)(w:World)(R:Value->World->Prop):Prop:=
 match (callFunc f vals).run P w with
 | .ok (.value v) w'=>R v w'
 | .ok (.enter g args) w'=>Calls P g args w' fun e w''=>match e with| .returned v=>R v w''|_=>False
 | .ok (.row row args) w'=>Rows P row args w' R
 |_=>False
theorem Enters.mono{P}{f}{vals}{w}{R R'}(h:Enters P f vals w R)(hr:∀v w',R v w'->R' v w'):Enters P f vals w R':=by
 unfold Enters at*
 grind[Calls.mono,Rows.mono]
def qG(P:Program)(I:Inv)(call:j8)(md:Mode):Prop:=
 ∀ {w} {X} {ρ} {h h'} {d} {f z} {zas} {ks} {uf} {us},d<1000->I.p w X->Rel w X ρ h->RV w (aN w X h ρ) ρ h f uf->us.size=O zas->
  (∀ (i:Nat) c u,zas[i]?=some c->us[i]?=some u->RV w (aN w X h ρ) ρ h c u)->bF call md h d zas f=some (z,h',ks)->
  ∃g first cap,uf=.func (.func g) first cap/\Enters P g (first++us++cap) w fun v w'=>Got w X ρ h w' h' ks z v
section
variable {P:Program} {w:World} {X:Nat→Prop} {ρ:fL} {h:aj} {s:aM} {a:Act} {call:j8} {md:Mode} {N:Nat} {ops:Array Oper} {Q:Exit→Act→World→Prop} {I:Inv}
structure Ok (I:Inv) (N:Nat) (w:World) (X:Nat->Prop) (ρ:fL) (h:aj) (s:aM) (a:Act):Prop where
 rel:Rel w X ρ h
 rs:RS w (aN w X h ρ) ρ h s a.tmps
 size:N<=a.tmps.size
 defers:a.defers=[]
 inv:I.p w X
theorem Ok.put{w'}{ρ'}{h'}{ks}{z}{v}(ok:Ok I N w X ρ h s a)(r:Rel w' X ρ' h')(e:Evo w ρ h w' ρ' h' ks)(hv:RV w' (aN w' X h' ρ') ρ' h' z v){d}(hd:d.getD 0<N):
  Ok I N w' X ρ' h' (iK (ng ks s) d z) (a.put d v):=by
 have h1:=e.rs (X:=X) ok.rs;cases d with
 |none=>exact⟨r,h1,ok.size,ok.defers,e.inv ok.rel ok.inv⟩
 |some d=>exact⟨r,h1.upd (aFQ hd ok.size) hv,by simpa [Act.put]using ok.size,ok.defers,e.inv ok.rel ok.inv⟩
def aiI{d}(hd:d<1000):bu d=false:=by grind[bu,decide_eq_false_iff_not]
def adq(hcall:qG P I call md)(hN:N<=1000){o:Oper}{c}{fo}{f}{zas}(ho:o.op=.call c)(hfo:c.callee=.value fo)(h1:di fo=some f)(h2:wk c.args.toList=some zas)
  (hd:o.dst.getD 0<N) (ok:Ok I N w X ρ h s a) {z} {h'} {ks} (hz:bF call md h (o.dst.getD 0) (zas.map (ev s)) (ev s f)=some (z,h',ks))
  {K'} (fin:∀v w',Got w X ρ h w' h' ks z v->K' (a.put o.dst v) w'):o.wp P a w K' Q:=by
 obtain⟨l1,l2⟩:=B9 ok.rs h2;obtain⟨g,first,cap,e1,e2⟩:=hcall (us:=c.args.map a.eval) (aFQ hd hN) ok.inv ok.rel (bp h1 ok.rs) γ (fun i c' u hc' hu=>by
  grind) hz
 have hrun:(execOp a.eval o).run P w=(callFunc g (first++c.args.map a.eval++cap)).run P w:=by
  grind[execOp,resolve,Deferred.ofValue,invoke,Sem.run_bind,Sem.run_pure,Result.andThen]
 unfold Oper.wp;rw[hrun];unfold Enters at e2;generalize(callFunc g (first++c.args.map a.eval++cap)).run P w=res at e2;cases res with
 |ok n w'=>
  cases n<;>simp only at e2
  case value v=>exact fin _ _ e2
  case enter g' args'=>
   show Calls P g' args' w' _;grind[Calls.mono]
  case row row args'=>exact Rows.mono e2 fin
 |halt x w'=>grind
def ago{d}{r z}{w'}{v}(hg:Got w X ρ h w' r.2.1 r.2.2 r.1 v)(hz:CR d r=some z):Got w X ρ h w' z.2.1 z.2.2 z.1 v:=by
 obtain⟨x,h1,k1⟩:=r;unfold CR at hz;split at hz
 ·rename_i id k lo n he;split at hz
  ·simp only[aEU]at hz;obtain⟨q,e1,rfl⟩:=hz;obtain⟨ρ',g1,g2,g3⟩:=hg;subst he;obtain⟨a,cap,rfl,_⟩:=g3.rsl_inv;obtain⟨f1,f2,f3⟩:=CV g1 g3 (fun _ hb=>hb) rfl e1;exact⟨ρ',f1,g2.trans f2,.dat f3.1⟩
  grind
 grind
theorem auT(hcall:qG P I call md)(hN:N<=1000){o:Oper}{hint aop}(hc:alT P hint o.op=some aop)(hd:o.dst.getD 0<N)(ok:Ok I N w X ρ h s a){z}{h'}{ks}(hz:step call md (o.dst.getD 0) aop s h=some (z,h',ks))(hnm:vZ md.nm ks=true)
  {K'} (hK:∀a' w' ρ',Ok I N w' X ρ' h' (iK (ng ks s) o.dst z) a'->Far md.nm w ρ h w' ρ' h'->K' a' w'):o.wp P a w K' Q:=by
 have hdp:=aiI (aFQ hd hN);unfold alT at hc;cases halt:Y6 P hint o.op with
 |some a0=>
  rw[halt]at hc;obtain rfl:=Option.some.inj hc;by_cases hcc:∃f zas,a0=.callC f zas
  ·obtain⟨f,zas,rfl⟩:=hcc;have hop:∃c fo,o.op=.call c/\c.callee=.value fo/\di fo=some f/\wk c.args.toList=some zas:=by
    unfold Y6 at halt;split at halt
    ·simp only[aEQ]at halt;obtain⟨_,_,_,_,_,_,_,_,_,_,halt⟩:=halt;split at halt<;>cases halt
    ·rename_i c hop;split at halt
     ·rename_i fo hfo;simp only[aEQ,aEU]at halt;obtain⟨f',h1,l,h2,h3⟩:=halt;cases h3;exact⟨c,fo,hop,hfo,h1,h2⟩
     ·cases halt
    ·simp only[aEQ]at halt;obtain⟨b,_,halt⟩:=halt;unfold asc at halt;split at halt<;>cases halt
    ·simp only[aEQ]at halt;obtain⟨_,_,_,_,halt⟩:=halt;split at halt<;>cases halt
    ·cases halt
   obtain⟨c,fo,ho,hfo,h1,h2⟩:=hop;simp only[step,aEQ]at hz;obtain⟨r,e1,e2⟩:=hz;exact adq hcall hN ho hfo h1 h2 hd ok (z:=r.1) (h':=r.2.1) (ks:=r.2.2) e1 fun v w' hg=>by
    obtain⟨ρ',g1,g2,g3⟩:=ago hg e2;exact hK _ _ ρ' (ok.put g1 g2 g3 hd) (g2.far hnm)
  obtain⟨⟨nx,v,w',g1,g2,ρ',g3,g4,g5⟩,_⟩:=aiH halt (fun f zas e=>hcc ⟨f,zas,e⟩) ok.rel ok.rs hdp hz o rfl;unfold Oper.wp;rw[g1];rcases g2 with rfl| ⟨rfl,rfl⟩
  ·exact hK _ _ ρ' (ok.put g3 g4 g5 hd) (g4.far hnm)
  ·exact hK _ _ ρ' (ok.put g3 g4 g5 hd) (g4.far hnm)
 |none=>
 rw[halt]at hc;simp only at hc
 replace hc:MF P o.op=some aop:=by
  simp only[cOp,Option.some.injEq]at hc;cases h0:MF P o.op with
  |none=>rw[h0]at hc;simp only[Option.getD_none]at hc;subst hc;cases hz
  |some q=>rw[h0]at hc;simp only[Option.getD_some]at hc;rw[hc]
 by_cases hcl:∃f zas,aop=.call f zas
 ·obtain⟨f,zas,rfl⟩:=hcl;have hop:∃c fo,o.op=.call c/\c.callee=.value fo/\di fo=some f/\wk c.args.toList=some zas:=by
   cases ho:o.op<;>rw[ho]at hc<;>simp only[MF]at hc
   case call c=>
    unfold Yx at hc;split at hc
    ·exfalso;unfold KC at hc;split at hc
     ·obtain⟨p,hp⟩:=fy (fun _ h=>uH h) hc;cases hp
     ·obtain⟨p,hp⟩:=fy (fun _ h=>uH h) hc;cases hp
     ·obtain⟨p,hp⟩:=fy (fun _ h=>uH h) hc;cases hp
     ·obtain⟨p,hp⟩:=fy (fun _ h=>uH h) hc;cases hp
     ·unfold afS at hc;split at hc
      ·split at hc
       ·simp only[Yv,aEQ]at hc;obtain⟨_,_,_,_,_,_,_,_,_,_,_,_,hc⟩:=hc;split at hc<;>cases hc
       ·simp only[aEQ]at hc;obtain⟨_,_,_,_,_,_,_,_,_,_,_,_,hc⟩:=hc;split at hc<;>cases hc
      ·cases hc
     ·unfold Yw at hc;split at hc
      ·simp only[aEQ]at hc;obtain⟨_,_,_,_,_,_,_,_,hc⟩:=hc;split at hc<;>cases hc
      ·cases hc
     ·unfold R9 at hc;split at hc
      ·simp only[aEQ]at hc;obtain⟨_,_,_,_,_,_,_,_,hc⟩:=hc;split at hc<;>cases hc
      ·cases hc
     ·cases hc
    ·rename_i fo hfo;simp only[aEQ,aEU]at hc;obtain⟨f',h1,l,h2,h3⟩:=hc;cases h3;exact⟨c,fo,rfl,hfo,h1,h2⟩
    ·cases hc
   case makeFunc fn _ _=>
    cases fn
    ·obtain⟨p,hp⟩:=fy (fun _ h=>uH h) hc;cases hp
    all_goals cases hc
   case alloc=>simp[aEU]at hc
   case box=>simp[aEQ]at hc
   case buildSlice=>
    simp only[GU,aEQ]at hc;obtain⟨_,_,_,_,hc⟩:=hc;split at hc
    ·simp[aEQ]at hc
    ·cases hc
   case makeSlice=>
    simp only[Yu,aEQ]at hc;obtain⟨_,_,_,_,_,_,_,_,_,_,hc⟩:=hc;split at hc
    ·simp at hc
    ·cases hc
   case load=>
    simp only[aEQ]at hc;obtain⟨_,_,_,_,_,_,hc⟩:=hc;split at hc<;>cases hc
   case store=>simp[aEQ]at hc
   all_goals first
    | (cases hc;done)
    | (obtain⟨p,hp⟩:=uH hc;cases hp;done)
    | (obtain⟨p,hp⟩:=fy (fun _ h=>uH h) hc;cases hp;done)
    | (obtain⟨p,hp⟩:=fy (fun _ h=>fy (fun _ h=>uH h) h) hc;cases hp;done)
    | (obtain⟨p,hp⟩:=fy (fun _ h=>fy (fun _ h=>fy (fun _ h=>uH h) h) h) hc;cases hp;done)
    | (obtain⟨p,hp⟩:=fy (fun _ h=>fy (fun _ h=>fy (fun _ h=>fy (fun _ h=>uH h) h) h) h) hc;cases hp;done)
    | (obtain⟨p,hp⟩:=fy (fun _ h=>fy (fun _ h=>fy (fun _ h=>ash h) h) h) hc;cases hp;done)
  obtain⟨c,fo,ho,hfo,h1,h2⟩:=hop;exact adq hcall hN ho hfo h1 h2 hd ok hz fun v w' ⟨ρ',g1,g2,g3⟩=>hK _ _ ρ' (ok.put g1 g2 g3 hd) (g2.far hnm)
 ·obtain⟨nx,v,w',g1,g2,ρ',g3,g4,g5⟩:=alZ hc (fun f zas e=>hcl ⟨f,zas,e⟩) ok.rel ok.rs hdp hz o rfl;unfold Oper.wp;rw[g1];rcases g2 with rfl| ⟨rfl,rfl⟩
  ·exact hK _ _ ρ' (ok.put g3 g4 g5 hd) (g4.far hnm)
  ·exact hK _ _ ρ' (ok.put g3 g4 g5 hd) (g4.far hnm)
end
end Go.Ab
