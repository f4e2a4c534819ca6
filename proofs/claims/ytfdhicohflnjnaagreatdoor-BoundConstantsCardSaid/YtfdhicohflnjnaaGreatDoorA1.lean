/-
  A law of ranges holds at every input that the statement speaks of, under the conditions that its card names. Part A1.
-/
import GoSem.Core.Code
import GoSem.Core.View
import Derived.Calls
import Derived.Laws.World
import Derived.Laws.Sem
import Derived.Below
import GoSem.Core.Program
import GoSem.Core.Region
import Derived.Laws.Slices
import Derived.Laws.Entries
import Derived.Laws.Cells
import Derived.Laws.CopyRow
import Derived.Laws.AppendOwn
namespace Go.Ab
open Go
inductive AV where
 | any
 | und
 | v (x:Value)
 | emp
 | sl (k:Nat) (rows:List (List AV))
 | osl (k:Nat) (rows:List (List AV))
 | obx (cs:List AV)
 | agg (cs:List AV)
 | tup (vs:List AV)
 | ref (id:Nat) (sub:Option Nat) (k i j:Nat)
 | rsl (id:Nat) (sub:Option Nat) (k lo n:Nat)
 | rsc (id k lo n c:Nat)
 | ipt (cs:List AV)
 | fn (f:FuncId) (first cap:List AV)
 deriving Inhabited
abbrev I (n:Int):AV:=.v (.int .i64 n)
abbrev U (n:Int):AV:=.v (.int .u32 n)
abbrev W (n:Int):AV:=.v (.int .u64 n)
abbrev B (b:Bool):AV:=.v (.bool b)
abbrev S (x:ByteArray):AV:=.v (.string x)
inductive Ob where
 | dead
 | bx (cs:List AV)
 | ar (k:Nat) (rows:List (List AV))
 | fz (k:Nat) (rows:List (List AV))
 deriving Inhabited
abbrev ag:=Nat→AV
abbrev ab:=Nat→Ob
def upd {α:Type} (s:Nat→α) (d:Nat) (x:α):Nat→α:=fun i=>if i=d then x else s i
theorem gk {α:Type} (s:Nat→α) (d:Nat) (x:α) (i:Nat):upd s d x i=if i=d then x else s i:=_root_.id rfl
structure St where
 s:ag
 h:ab
inductive Opd where
 | t (n:Nat)
 | c (a:AV)
inductive POp where
 | mv (x:Opd)
 | pick (c a b:Opd)
 | nilck (x:Opd)
 | nilq (neq:Bool) (x:Opd)
 | bin (op:BinOp) (x y:Opd)
 | un (op:UnOp) (x:Opd)
 | cv (k:IntKind) (x:Opd)
 | cv0 (x:Opd)
 | slc (k:Nat) (x:Opd) (lo hi mx:Option Opd)
 | slcS (x:Opd) (lo hi:Option Opd)
 | fadr (off:Nat) (x:Opd)
 | fld (off k:Nat) (agg:Bool) (x:Opd)
 | iadrS (k:Nat) (x i:Opd)
 | iadrA (n k:Nat) (x i:Opd)
 | idxS (x i:Opd)
 | idxA (n k:Nat) (agg:Bool) (x i:Opd)
 | ext (i:Nat) (x:Opd)
 | len (str:Bool) (x:Opd)
 | eqc (neq:Bool) (tc:Nat) (x y:Opd)
 | capp (x:Opd)
 | mnx (isMin:Bool) (x:Opd) (ys:List Opd)
 | build (zero:List AV) (parts:List (Nat × Nat × Opd))
 | mkF (f:FuncId) (first cap:List Opd)
inductive AOp where
 | p (op:POp)
 | alloc (zero:List AV)
 | box (k:Nat) (x:Opd)
 | buildSl (k:Nat) (zero:List AV) (n:Nat) (parts:List (Nat × Opd))
 | mkSl (k:Nat) (zero:List AV) (bytes:Nat) (l c:Opd)
 | load (k:Nat) (agg:Bool) (x:Opd)
 | store (k:Nat) (x y:Opd)
 | app (k bytes:Nat) (x y:Opd)
 | cpy (k:Nat) (x y:Opd)
 | slcM (k:Nat) (x:Opd) (lo hi:Option Opd)
 | clr (k:Nat) (zero:List AV) (x:Opd)
 | appz (k bytes:Nat) (zero:List AV) (x n:Opd)
 | take (x:Opd)
 | call (f:Opd) (args:List Opd)
 | callC (f:Opd) (args:List Opd)
 | bad
structure COp where
 d:Option Nat
 g:Option (Nat × Bool)
 op:AOp
inductive Cmd where
 | skip
 | ops (ks:List Nat) (l:List COp)
 | dops (ks:List Nat) (l:List COp) (ps:List (Nat × Nat))
 | seq (a b:Cmd)
 | cond (c:Opd) (a b:Cmd)
 | block (id:Nat) (ks:List Nat) (a:Cmd)
 | loop (ks hs:List Nat) (a:Cmd)
 | exit (id:Nat)
 | ret
 | frz (is:List Nat) (a:Cmd)
inductive Ex where
 | normal | exit (id:Nat) | ret
inductive Rv where
 | t (n:Nat)
 | cell (n k:Nat) (agg:Bool)
abbrev dG:=FuncId→List AV→List Ob→Option (AV × List Ob)
def ev (s:ag):Opd→AV
 | .t n=>s n
 | .c a=>a
def evo (s:ag):Option Opd→Option AV
 | none=>none
 | some x=>some (ev s x)
def eN:AV→Option (List AV)
 | .agg cs=>some cs
 | .any | .und | .tup _ | .osl _ _ | .obx _=>none
 | a=>some [a]
def setRow (row:List AV) (j:Nat):List AV→List AV
 | []=>row
 | c::cs=>setRow (row.set j c) (j+1) cs
def C0 (c a b:AV):Option AV:=match c with
 | .v (.bool t)=>some (if t then a else b)
 | _=>none
def Bc:AV→Option AV
 | .ref id sub k i j=>some (.ref id sub k i j)
 | .ipt cs=>some (.ipt cs)
 | .fn f a b=>some (.fn f a b)
 | _=>none
def nf (op:BinOp) (k:IntKind) (a b:Int):Option Value:=match op with
 | .add=>some (.int k (k.wrap (a+b)))
 | .sub=>some (.int k (k.wrap (a - b)))
 | .mul=>some (.int k (k.wrap (a*b)))
 | .quo=>if b=0 then none else some (.int k (k.wrap (a.tdiv b)))
 | .rem=>if b=0 then none else some (.int k (a.tmod b))
 | .and=>some (.int k (k.wrap ((BitVec.ofInt k.bits a &&& BitVec.ofInt k.bits b).toNat)))
 | .or=>some (.int k (k.wrap ((BitVec.ofInt k.bits a ||| BitVec.ofInt k.bits b).toNat)))
 | .xor=>some (.int k (k.wrap ((BitVec.ofInt k.bits a ^^^ BitVec.ofInt k.bits b).toNat)))
 | .andNot=>some (.int k (k.wrap ((BitVec.ofInt k.bits a &&& ~~~BitVec.ofInt k.bits b).toNat)))
 | .lss=>some (.bool (decide (a < b)))
 | .leq=>some (.bool (decide (a≤b)))
 | .gtr=>some (.bool (decide (a > b)))
 | .geq=>some (.bool (decide (a ≥ b)))
 | .eql=>some (.bool (a == b))
 | .neq=>some (.bool (a != b))
 | _=>none
def abJ (k:IntKind) (a b:Int):Option Value:=if b < 0 then none else some (.int k (k.wrap (a*2 ^ (min b.toNat k.bits))))
def abK (k:IntKind) (a b:Int):Option Value:=if b < 0 then none else some (.int k (a.fdiv (2 ^ (min b.toNat k.bits))))
def ah5 (op:BinOp) (a b:ByteArray):Option Value:=match op with
 | .add=>if ((a.size+b.size:Nat):Int) > IntKind.i64.max then none else some (.string (a++b))
 | .eql=>some (.bool (a.toList == b.toList))
 | .neq=>some (.bool (!(a.toList == b.toList)))
 | _=>none
def gJ (op:BinOp):Value→Value→Option Value
 | .int k a,.int k' b=>match op with
  | .shl=>abJ k a b
  | .shr=>abK k a b
  | op=>if k=k' then nf op k a b else none
 | .string a,.string b=>ah5 op a b
 | _,_=>none
def dZ (op:BinOp):AV→AV→Option AV
 | .v a,.v b=>(gJ op a b).map .v
 | _,_=>none
def OO (n:Bool) (tc:Nat):AV→AV→Option AV
 | .v (.bool a),.v (.bool b)=>if tc=0 then some (B (n != (a == b))) else none
 | .ref _ _ _ _ _,.v (.pointer none)=>if tc=1 then some (B n) else none
 | .v (.pointer none),.v (.pointer none)=>if tc=1 then some (B (!n)) else none
 | .fn _ _ _,.v .nilFunc=>if tc=2 then some (B n) else none
 | .v .nilFunc,.v .nilFunc=>if tc=2 then some (B (!n)) else none
 | _,_=>none
def C1 (n:Bool):AV→Option AV
 | .sl _ (_::_)=>some (B n)
 | .rsl _ _ _ _ m=>if 0 < m then some (B n) else none
 | _=>none
def OP (op:UnOp):AV→Option AV
 | .v (.int k n)=>match op with
  | .neg=>some (.v (.int k (k.wrap (0 - n))))
  | .xor=>some (.v (.int k (k.wrap ((BitVec.ofInt k.bits (if k.signed then -1 else k.max) ^^^ BitVec.ofInt k.bits n).toNat))))
  | _=>none
 | .v (.bool b)=>match op with
  | .not=>some (B (!b))
  | _=>none
 | _=>none
def YB (k:IntKind):AV→Option AV
 | .v (.int _ n)=>some (.v (.int k (k.wrap n)))
 | _=>none
def VG:AV→Option AV
 | .v (.string x)=>some (.v (.string x))
 | _=>none
def iW (d:Nat) (n:Nat):Option AV→Option Nat
 | none=>some d
 | some (.v (.int _ i))=>if 0≤i∧i≤n then some i.toNat else none
 | _=>none
def jA (n:Nat) (lo hi mx:Option AV):Option (Nat × Nat) :=
 match mx with
 | none=>(iW n n hi).bind fun h=>(iW 0 h lo).bind fun l=>some (l,h)
 | some m=>(iW n n (some m)).bind fun m=>match hi with
  | none=>none
  | some hi=>(iW n m (some hi)).bind fun h=>(iW 0 h lo).bind fun l=>some (l,h)
def Bd:Option AV→Bool
 | some (.v (.int _ 0))=>true
 | _=>false
def OQ (k id l0 n c:Nat):Option AV→Option AV→Option AV→Option AV
 | none,some hi,none=>(iW n c (some hi)).map fun r=>.rsc id k l0 r c
 | some lo,hi,none=>(jA n (some lo) hi none).map fun p=>.rsl id none k (l0+p.1) (p.2 - p.1)
 | _,_,_=>none
def eO (k:Nat) (x:AV) (lo hi mx:Option AV):Option AV:=match x with
 | .emp=>(jA 0 lo hi mx).map fun _=>.emp
 | .sl k' rows=>if k'=k then (jA rows.length lo hi mx).map fun p=>(if Bd mx then .emp else .sl k ((rows.drop p.1).take (p.2 - p.1))) else none
 | .rsl id sub k' l0 n=>if k'=k then (jA n lo hi mx).map fun p=>(if mx.isNone then .rsl id sub k (l0+p.1) (p.2 - p.1) else .any) else none
 | .rsc id k' l0 n c=>if k'=k then OQ k id l0 n c lo hi mx else none
 | _=>none
def On (x:AV) (lo hi:Option AV):Option AV:=match x with
 | .v (.string b)=>(jA b.size lo hi none).map fun p=>.v (.string (b.extract p.1 p.2))
 | _=>none
def sO (off:Nat):AV→Option AV
 | .ref id sub k i j=>some (.ref id sub k i (j+off))
 | .ipt cs=>some (.ipt (cs.drop off))
 | _=>none
def iu (k:Nat) (agg:Bool) (cs:List AV) (off:Nat):Option AV :=
 if agg then (if off+k≤cs.length then some (.agg ((cs.drop off).take k)) else none) else cs[off]?
def OR (off k:Nat) (agg:Bool):AV→Option AV
 | .agg cs=>iu k agg cs off
 | _=>none
def bu (rows:List (List AV)) (i:Int):Option AV:=if 0≤i then (rows[i.toNat]?).map .ipt else none
def po (k:Nat):AV→AV→Option AV
 | .sl k' rows,.v (.int _ i)=>if k'=k then bu rows i else none
 | .rsl id sub k' lo n,.v (.int _ i)=>if k'=k then (if 0≤i∧i < n then some (.ref id sub k (lo+i.toNat) 0) else none) else none
 | _,_=>none
def yr (n k:Nat):AV→AV→Option AV
 | .ref id sub k' a j,.v (.int _ i)=>if 0≤i∧i < n then some (.ref id sub k' a (j+i.toNat*k)) else none
 | .ipt cs,.v (.int _ i)=>if 0≤i∧i < n then some (.ipt (cs.drop (i.toNat*k))) else none
 | _,_=>none
def C2:AV→AV→Option AV
 | .v (.string b),.v (.int _ i)=>if 0≤i then (b[i.toNat]?).map fun x=>.v (.int .u8 x.toNat) else none
 | _,_=>none
def C3 (n k:Nat) (agg:Bool):AV→AV→Option AV
 | .agg cs,.v (.int _ i)=>if 0≤i∧i < n then iu k agg cs (i.toNat*k) else none
 | _,_=>none
def OS (i:Nat):AV→Option AV
 | .tup vs=>vs[i]?
 | _=>none
def ky (str:Bool):AV→Option AV
 | .sl _ rows=>if str then none else some (I rows.length)
 | .emp=>if str then none else some (I 0)
 | .rsl _ _ _ _ n=>if str then none else some (I n)
 | .rsc _ _ _ n _=>if str then none else some (I n)
 | .v (.string b)=>if str then some (I b.size) else none
 | _=>none
def OT:AV→Option AV
 | .emp=>some (I 0)
 | .rsc _ _ _ _ c=>some (I c)
 | _=>none
def Jl (isMin:Bool):AV→AV→Option AV
 | .v (.int k x),.v (.int _ y)=>some (.v (.int k (if isMin then (if y < x then y else x) else (if x < y then y else x))))
 | _,_=>none
def xE (isMin:Bool):AV→List AV→Option AV
 | a,[]=>some a
 | a,b::l=>(Jl isMin a b).bind fun c=>xE isMin c l
def qC (zero:List AV):List (Nat × Nat × AV)→Option (List AV)
 | []=>some zero
 | (off,k,a)::ps=>(eN a).bind fun cs=>if cs.length=k∧off+k≤zero.length then qC (setRow zero off cs) ps else none
def en (s:ag):POp→Option AV
 | .mv x=>some (ev s x)
 | .pick c a b=>C0 (ev s c) (ev s a) (ev s b)
 | .nilck x=>Bc (ev s x)
 | .nilq n x=>C1 n (ev s x)
 | .bin op x y=>dZ op (ev s x) (ev s y)
 | .un op x=>OP op (ev s x)
 | .cv k x=>YB k (ev s x)
 | .cv0 x=>VG (ev s x)
 | .slc k x lo hi mx=>eO k (ev s x) (evo s lo) (evo s hi) (evo s mx)
 | .slcS x lo hi=>On (ev s x) (evo s lo) (evo s hi)
 | .fadr off x=>sO off (ev s x)
 | .fld off k g x=>OR off k g (ev s x)
 | .iadrS k x i=>po k (ev s x) (ev s i)
 | .iadrA n k x i=>yr n k (ev s x) (ev s i)
 | .idxS x i=>C2 (ev s x) (ev s i)
 | .idxA n k g x i=>C3 n k g (ev s x) (ev s i)
 | .ext i x=>OS i (ev s x)
 | .len m x=>ky m (ev s x)
 | .eqc m t x y=>OO m t (ev s x) (ev s y)
 | .capp x=>OT (ev s x)
 | .mnx m x ys=>xE m (ev s x) (ys.map (ev s))
 | .build z ps=>(qC z (ps.map fun p=>(p.1,p.2.1,ev s p.2.2))).map .agg
 | .mkF f a b=>some (.fn f (a.map (ev s)) (b.map (ev s)))
def aA:AV→Bool
 | .any | .v _ | .emp | .sl _ _=>true
 | .fn _ a b=>a.isEmpty && b.isEmpty
 | _=>false
def dat:AV→Bool
 | .agg cs=>cs.all aA
 | a=>aA a
def fF (K:List (Nat × Bool)) (id:Nat) (sub:Option Nat):Bool:=K.any fun p=>p.1 == id && (!p.2 || sub.isSome)
def lw (K:List (Nat × Bool)):AV→Bool
 | .ref id sub _ _ _=>fF K id sub
 | .rsl id sub _ _ _=>fF K id sub
 | .rsc id _ _ _ _=>fF K id none
 | .fn _ a b=>!(a.isEmpty && b.isEmpty)
 | .agg _ | .tup _ | .osl _ _ | .obx _=>true
 | _=>false
def xF (K:List (Nat × Bool)):AV→Bool
 | .agg cs=>cs.any (lw K)
 | .fn _ a b=>a.any (lw K) || b.any (lw K)
 | a=>lw K a
def Uj (K:List (Nat × Bool)):AV→Bool
 | .tup vs=>vs.any (xF K)
 | a=>xF K a
def mQ (K:List (Nat × Bool)) (a:AV):AV:=if Uj K a then .any else a
def gl (K:List (Nat × Bool)) (s:ag):ag:=match K with
 | []=>s
 | K=>fun i=>mQ K (s i)
inductive Sh where
 | o (k:Nat) (cs:List Sh)
 deriving Inhabited
mutual
def nrmL:Sh→AV→AV
 | .o 0 _,a=>a
 | .o (k+1) _,.emp=>.sl k []
 | .o (_+1) cs,.sl k' rows=>.sl k' (rows.map (cX cs))
 | .o (_+1) cs,.osl k' rows=>.sl k' (rows.map (cX cs))
 | .o (_+1) _,a=>a
def cX:List Sh→List AV→List AV
 | s::ss,a::l=>nrmL s a::cX ss l
 | _,l=>l
end
def nrmV (ss:List Sh):AV→AV
 | .agg cs=>.agg (cX ss cs)
 | a=>nrmL (ss.headD (.o 0 [])) a
def bg:List (List Sh)→List AV→List AV
 | s::ss,a::l=>nrmV s a::bg ss l
 | _,l=>l
structure FD where
 np:Nat
 rs:List (List Sh)
 res:List Rv
 body:Cmd
abbrev K:=List (Nat × Bool)
def aY (id:Nat):Bool:=decide (1000≤id∧id < 2000)
abbrev R3:=AV × ab × K
def iX:AV→AV
 | .osl k r=>.sl k r
 | a=>a
def bd:AV→Bool
 | .osl _ _=>true
 | _=>false
def iv (c:AV):Bool:=bd c || aA c
def kz (k lo n:Nat) (rows:List (List AV)):AV:=.sl k ((rows.drop lo).take n)
def nS (cs:List AV):List (List AV):=cs.map fun c=>[iX c]
def kB (h:ab) (id k lo n:Nat):Ob→Option R3
 | .ar k' rows=>if k'=k∧lo+n≤rows.length then some (kz k lo n rows,upd h id (.fz k rows),[]) else none
 | .fz k' rows=>if k'=k∧lo+n≤rows.length then some (kz k lo n rows,h,[]) else none
 | .bx cs=>if k=1∧lo+n≤cs.length∧cs.all iv=true then some (kz 1 lo n (nS cs),upd h id (.fz 1 (nS cs)),[(id,true)]) else none
 | .dead=>none
def abL (h:ab) (id p k lo n:Nat) (cs:List AV):Option AV→Option R3
 | some (.osl k' rows)=>if k'=k∧lo+n≤rows.length then some (kz k lo n rows,upd h id (.bx (cs.set p (.sl k' rows))),[(id,true)]) else none
 | _=>none
def Be (h:ab) (id p k lo n:Nat):Ob→Option R3
 | .bx cs=>abL h id p k lo n cs cs[p]?
 | _=>none
def ey (h:ab):AV→Option R3
 | .rsl id none k lo n=>kB h id k lo n (h id)
 | .rsl id (some p) k lo n=>Be h id p k lo n (h id)
 | a=>if aA a then some (a,h,[]) else none
def eS (h:ab):List AV→Option (List AV × ab × K)
 | []=>some ([],h,[])
 | a::l=>(ey h a).bind fun p=>(eS p.2.1 l).bind fun q=>some (p.1::q.1,q.2.1,p.2.2++q.2.2)
def pp (h:ab):AV→Option R3
 | .agg cs=>(eS h cs).bind fun p=>some (.agg p.1,p.2)
 | a=>ey h a
def pq:Ob→Option (Nat × List (List AV))
 | .ar k rows=>some (k,rows)
 | .fz k rows=>some (k,rows)
 | _=>none
def pW:Option AV→Option (Nat × List (List AV))
 | some (.osl k rows)=>some (k,rows)
 | _=>none
def go (p:Nat):Ob→Option (Nat × List (List AV))
 | .bx cs=>pW cs[p]?
 | _=>none
def qD (h:ab) (id:Nat):Option Nat→Option (Nat × List (List AV))
 | none=>pq (h id)
 | some p=>go p (h id)
def sP (id p:Nat):AV→AV
 | .osl k rows=>.rsl id (some p) k 0 rows.length
 | a=>a
def ze (h:ab) (id p k:Nat) (agg:Bool) (cs:List AV):Option R3 :=
 if agg then
  (if p+k≤cs.length then
   (if ((cs.drop p).take k).any bd then some (.agg (((cs.map iX).drop p).take k),upd h id (.bx (cs.map iX)),[(id,true)])
    else some (.agg ((cs.drop p).take k),h,[]))
   else none)
 else (cs[p]?).map fun c=>(sP id p c,h,[])
def jI (h:ab) (k:Nat) (agg:Bool) (k0 i j:Nat):Option (Nat × List (List AV))→Option R3
 | some (k',rows)=>if k'=k0 then (rows[i]?).bind fun row=>(iu k agg row j).map fun a=>(a,h,[]) else none
 | none=>none
def sQ (h:ab) (k:Nat) (agg:Bool) (id k0 i j:Nat):Ob→Option R3
 | .bx cs=>ze h id (i*k0+j) k agg cs
 | .ar k' rows=>jI h k agg k0 i j (some (k',rows))
 | .fz k' rows=>jI h k agg k0 i j (some (k',rows))
 | .dead=>none
def fw (h:ab) (k:Nat) (agg:Bool):AV→Option R3
 | .ipt cs=>(iu k agg cs 0).map fun a=>(a,h,[])
 | .ref id none k0 i j=>sQ h k agg id k0 i j (h id)
 | .ref id (some p) k0 i j=>jI h k agg k0 i j (go p (h id))
 | _=>none
def LI (h:ab) (id k lo n:Nat):Ob→Option R3
 | .ar k' rows=>if k'=k then (if lo=0∧n=rows.length then some (.osl k rows,upd h id .dead,[(id,false)]) else if lo=0∧n≤rows.length then some (.osl k (rows.take n),upd h id .dead,[(id,false)]) else kB h id k lo n (.ar k' rows)) else none
 | o=>kB h id k lo n o
def inP (h:ab) (a:AV):Ob→Option R3
 | .bx _=>some (a,h,[])
 | _=>none
def Aw (h:ab) (a:AV):Option R3:=match a with
 | .rsl id none k lo n=>LI h id k lo n (h id)
 | .rsl id (some p) k lo n=>Be h id p k lo n (h id)
 | .ref id none _ _ _=>inP h a (h id)
 | .fn _ x y=>if x.all aA && y.all aA then some (a,h,[]) else none
 | a=>if aA a then some (a,h,[]) else none
def EO (h:ab) (id p:Nat) (x:AV) (ks:K):Ob→Option (ab × K)
 | .bx cs=>if p < cs.length then some (upd h id (.bx (cs.set p x)),ks++(if (cs[p]?).any bd then [(id,true)] else [])) else none
 | _=>none
def uG (ks:K) (xs:List AV):List AV:=match ks with
 | []=>xs
 | ks=>xs.map (mQ ks)
def lZ (h:ab) (id p:Nat):Nat→List AV→Option (ab × K)
 | _,[]=>some (h,[])
 | 0,_=>none
 | n+1,x::xs=>(Aw h x).bind fun r=>(EO r.2.1 id p r.1 r.2.2 (r.2.1 id)).bind fun q=>(lZ q.1 id (p+1) n (uG q.2 xs)).bind fun t=>some (t.1,q.2++t.2)
def rS (k k0 i j:Nat) (cs:List AV) (k':Nat) (rows:List (List AV)):Option (List (List AV)) :=
 if k'=k0 then (rows[i]?).bind fun row=>if j+k≤row.length then some (rows.set i (setRow row j cs)) else none else none
def VH (h:ab) (id p k k0 i j:Nat) (xs cs:List AV) (ks:K):Option AV→Option R3
 | some (.osl k' rows)=>(rS k k0 i j xs k' rows).map fun q=>(.und,upd h id (.bx (cs.set p (.osl k' q))),ks)
 | _=>none
def Jm (h:ab) (id p k:Nat) (xs cs:List AV):Option R3 :=
 if p+k≤cs.length then
  (if xs.all aA then some (.und,upd h id (.bx (setRow cs p xs)),if ((cs.drop p).take k).any bd then [(id,true)] else [])
   else (lZ h id p xs.length xs).map fun q=>(.und,q.1,q.2))
 else none
def Jn (h:ab) (id k k0 i j:Nat) (xs:List AV) (ks:K):Ob→Option R3
 | .ar k' rows=>(rS k k0 i j xs k' rows).map fun q=>(.und,upd h id (.ar k' q),ks)
 | _=>none
def xG (h:ab) (k id k0 i j:Nat) (xs:List AV):Ob→Option R3
 | .bx cs=>Jm h id (i*k0+j) k xs cs
 | .ar _ _=>(eS h xs).bind fun q=>Jn q.2.1 id k k0 i j q.1 q.2.2 (q.2.1 id)
 | _=>none
def xd (h:ab) (k id p k0 i j:Nat) (xs:List AV) (ks:K):Ob→Option R3
 | .bx cs=>VH h id p k k0 i j xs cs ks cs[p]?
 | _=>none
def ib (h:ab) (k:Nat) (a x:AV):Option R3:=(eN x).bind fun xs =>
 if xs.length=k then match a with
  | .ref id none k0 i j=>xG h k id k0 i j xs (h id)
  | .ref id (some p) k0 i j=>(eS h xs).bind fun q=>xd q.2.1 k id p k0 i j q.1 q.2.2 (q.2.1 id)
  | _=>none
 else none
def vL (h:ab) (d:Nat) (a:AV) (o:Ob) (ks:K):Ob→Option R3
 | .dead=>some (a,upd h d o,ks)
 | _=>none
def ic (h:ab) (d:Nat) (cs:List AV) (ks:K):Option R3:=vL h d (.ref d none 0 0 0) (.bx cs) ks (h d)
def EP (id p:Nat) (xs:List AV) (r:R3):Option R3:=(lZ r.2.1 id p xs.length xs).map fun q=>(r.1,q.1,r.2.2++q.2)
def vM (h:ab) (d:Nat) (k:Nat) (x:AV):Option R3:=(eN x).bind fun xs=>if xs.length=k then
 (if xs.all aA then ic h d xs [] else (ic h d (List.replicate k .any) []).bind (EP d 0 xs)) else none
def cG (h:ab) (d k:Nat) (rows:List (List AV)) (n:Nat) (ks:K):Option R3:=vL h d (.rsl d none k 0 n) (.ar k rows) ks (h d)
def dT (k:Nat) (h:ab) (rows:List (List AV)):List (Nat × AV)→Option (List (List AV) × ab × K)
 | []=>some (rows,h,[])
 | (i,a)::ps=>(eN a).bind fun cs=>if cs.length=k∧i < rows.length then (eS h cs).bind fun q=>(dT k q.2.1 (rows.set i q.1) ps).bind fun r=>some (r.1,r.2.1,q.2.2++r.2.2) else none
def lz (l c:AV):Option (Nat × Nat):=match l,c with
 | .v (.int .i64 l),.v (.int .i64 c)=>if 0≤l∧l≤c∧c < 9223372036854775808 then some (l.toNat,c.toNat) else none
 | _,_=>none
def fp (k lo n:Nat):Option (Nat × List (List AV))→Option (List (List AV))
 | some (k',rows)=>if k'=k∧lo+n≤rows.length then some ((rows.drop lo).take n) else none
 | none=>none
def nT (h:ab) (k:Nat):AV→Option (List (List AV))
 | .emp=>some []
 | .sl k' rows=>if k'=k then some rows else none
 | .rsl id sub k' lo n=>if k'=k then fp k lo n (qD h id sub) else none
 | _=>none
def EQ (h:ab) (d k bytes id k' lo n:Nat) (ys:List (List AV)) (k0:Nat) (rows:List (List AV)):Option R3 :=
 if k0=k∧k'=k∧lo+n+ys.length≤rows.length then some (.rsl id none k lo (n+ys.length),upd h id (.ar k (rows.take (lo+n)++ys++rows.drop (lo+n+ys.length))),[])
 else if k0=k∧k'=k∧lo=0∧n=rows.length∧(n+ys.length)*bytes≤140737488355328 then cG (upd h id .dead) d k (rows++ys) (n+ys.length) [(id,false)]
 else none
def OU (h:ab) (d k bytes id k' lo n:Nat) (ys:List (List AV)):Ob→Option R3
 | .ar k0 rows=>if k0=k∧k'=k∧lo=0∧n=rows.length∧(id < 1000∨2000≤id)∧(n+ys.length)*bytes≤140737488355328 then
   some (.rsl id none k 0 (n+ys.length),upd h id (.ar k (rows++ys)),[(id,false)]) else EQ h d k bytes id k' lo n ys k0 rows
 | _=>none
def ah7 (h:ab) (d k bytes id p k' lo n:Nat) (ys:List (List AV)) (cs:List AV):Option AV→Option R3
 | some (.osl k0 rows)=>if k0=k∧k'=k∧lo=0∧n=rows.length∧(n+ys.length)*bytes≤140737488355328 then
   cG (upd h id (.bx (cs.set p .any))) d k (rows++ys) (n+ys.length) [(id,true)] else none
 | _=>none
def abM (h:ab) (d k bytes id p k' lo n:Nat) (ys:List (List AV)):Ob→Option R3
 | .bx cs=>ah7 h d k bytes id p k' lo n ys cs cs[p]?
 | _=>none
def Jo (h:ab) (d k:Nat):List (List AV)→Option R3
 | []=>some (.emp,h,[])
 | y::ys=>cG h d k (y::ys) (ys.length+1) []
def Jp (h:ab) (d k bytes:Nat) (x y:AV):Option R3:=(nT h k y).bind fun ys=>match x with
 | .emp=>if ys.length*bytes≤140737488355328 then Jo h d k ys else none
 | .rsl id none k' lo n=>OU h d k bytes id k' lo n ys (h id)
 | .rsl id (some p) k' lo n=>abM h d k bytes id p k' lo n ys (h id)
 | _=>none
def OV (m:Nat):AV→AV
 | .sl k rows=>.sl k (rows.take m)
 | .rsl id sub k lo n=>.rsl id sub k lo (min m n)
 | a=>a
def OW:AV→Option Nat
 | .emp=>some 0
 | .sl _ rows=>some rows.length
 | .rsl _ _ _ _ n=>some n
 | _=>none
def OX (h:ab) (id k k' lo n l:Nat) (ys:List (List AV)):Ob→Option R3
 | .ar k0 rows=>if k0=k∧k'=k∧lo≤rows.length∧ys.length=min l n then some (.v (.int .i64 ys.length),upd h id (.ar k (rows.take lo++ys++rows.drop (lo+ys.length))),[]) else none
 | _=>none
def Jq (h:ab) (k:Nat) (x y:AV):Option R3:=match x with
 | .rsl id none k' lo n=>(OW y).bind fun l=>(nT h k (OV n y)).bind fun ys=>OX h id k k' lo n l ys (h id)
 | _=>none
def GU (h:ab) (k id l0:Nat) (lo hi:Option AV):Ob→Option R3
 | .ar k0 rows=>if k0=k∧hi.isSome=true∧l0≤rows.length then (jA (rows.length - l0) lo hi none).map fun p=>(.rsl id none k (l0+p.1) (p.2 - p.1),h,[]) else none
 | _=>none
def C4 (h:ab) (k:Nat) (x:AV) (lo hi:Option AV):Option R3:=match x with
 | .rsl id none k' l0 _=>if k'=k then GU h k id l0 lo hi (h id) else none
 | _=>none
def OY (h:ab) (k id lo n:Nat) (z:List AV):Ob→Option R3
 | .ar k0 rows=>if k0=k∧lo+n≤rows.length then some (.tup [],upd h id (.ar k (rows.take lo++List.replicate n z++rows.drop (lo+n))),[]) else none
 | _=>none
def Jr (h:ab) (k:Nat) (z:List AV) (x:AV):Option R3:=match x with
 | .rsl id none k' lo n=>if k'=k then OY h k id lo n z (h id) else none
 | _=>none
def GV (h:ab) (d k bytes _id i m:Nat) (z:List AV):Ob→Option R3
 | .ar k0 rows=>if k0=k∧i≤rows.length∧(i+m)*bytes≤140737488355328 then cG h d k (rows.take i++List.replicate m z) (i+m) [] else none
 | _=>none
def C5 (h:ab) (d k bytes:Nat) (z:List AV) (x n:AV):Option R3:=match x,n with
 | .emp,.v (.int .i64 c)=>if 0 < c∧c.toNat*bytes≤140737488355328 then cG h d k (List.replicate c.toNat z) c.toNat [] else none
 | .rsc id k' lo i c,.v (.int .i64 m)=>if k'=k∧lo=0∧0 < m∧c < i+m.toNat then GV h d k bytes id i m.toNat z (h id) else none
 | _,_=>none
def C6 (h:ab) (d id p:Nat) (cs:List AV):Option AV→Option R3
 | some (.osl k rows)=>cG (upd h id (.bx (cs.set p .any))) d k rows rows.length [(id,true)]
 | some .emp=>some (.emp,h,[])
 | _=>none
def Oo (h:ab) (d id p:Nat):Ob→Option R3
 | .bx cs=>C6 h d id p cs cs[p]?
 | _=>none
def GW (h:ab) (d:Nat) (x:AV):Option R3:=match x with
 | .ref id none k0 i j=>Oo h d id (i*k0+j) (h id)
 | _=>none
structure Mode where
 m:FuncId→List Nat
 sh:FuncId→List (List Sh)
 keep:FuncId→Bool
 nm:Bool
def abN:Ob→Bool
 | .ar _ _=>true
 | _=>false
def ct (h:ab) (m:Nat) (a:AV):Option R3:=match a with
 | .rsl id none _ _ _=>if m=0 then ey h a else if m=1 || abN (h id) then some (a,h,[]) else none
 | .ref _ none _ _ _=>some (a,h,[])
 | .ipt _=>some (a,h,[])
 | .fn _ _ _=>some (a,h,[])
 | a=>pp h a
def bH (h:ab):List Nat→List AV→Option (List AV × ab × K)
 | _,[]=>some ([],h,[])
 | ms,a::l=>(ct h (ms.headD 0) a).bind fun p=>(bH p.2.1 ms.tail l).bind fun q=>some (p.1::q.1,q.2.1,p.2.2++q.2.2)
def dM:AV→List Nat
 | .ref id _ _ _ _=>[id]
 | .rsl id _ _ _ _=>[id]
 | _=>[]
def bI:AV→List Nat
 | .agg cs=>cs.flatMap dM
 | .fn _ a b=>a.flatMap dM++b.flatMap dM
 | a=>dM a
def bE (l:List Nat):List Nat→List Nat
 | []=>l
 | a::r=>bE (if l.contains a then l else l++[a]) r
def j8:Ob→List Nat
 | .bx cs=>cs.flatMap bI
 | _=>[]
def bW (h:ab):Nat→List Nat→Nat→List Nat
 | 0,l,_=>l
 | n+1,l,i=>match l[i]? with
  | none=>l
  | some a=>bW h n (bE l (j8 (h a))) (i+1)
def bm (l:List Nat) (a:Nat):Nat:=1000+l.idxOf a
def iw (g:Nat→Nat):AV→AV
 | .ref id sub k i j=>.ref (g id) sub k i j
 | .rsl id sub k i j=>.rsl (g id) sub k i j
 | a=>a
def dh (g:Nat→Nat):AV→AV
 | .agg cs=>.agg (cs.map (iw g))
 | .fn f a b=>.fn f (a.map (iw g)) (b.map (iw g))
 | a=>iw g a
def zf (g:Nat→Nat):AV→AV
 | .tup vs=>.tup (vs.map (dh g))
 | a=>dh g a
def cY (g:Nat→Nat):Ob→Ob
 | .bx cs=>.bx (cs.map (dh g))
 | o=>o
def bj (l:List Nat):AV→Bool
 | .ref id sub _ _ _=>l.contains id && sub.isNone
 | .rsl id sub _ _ _=>l.contains id && sub.isNone
 | .rsc _ _ _ _ _=>false
 | .fn _ a b=>a.isEmpty && b.isEmpty
 | .agg _ | .tup _ | .osl _ _ | .obx _=>false
 | _=>true
def aZ (l:List Nat):AV→Bool
 | .agg cs=>cs.all (bj l)
 | .fn _ a b=>a.all (bj l) && b.all (bj l)
 | a=>bj l a
def gp (l:List Nat) (c:AV):Bool:=bd c || aZ l c
def aT (l:List Nat):Ob→Bool
 | .bx cs=>cs.all (gp l)
 | _=>true
def ak (hs:List Ob):ab:=fun i=>if 1000≤i then (hs[i - 1000]?).getD .dead else .dead
def cM (n:Nat) (h:ab):AV→AV × ab
 | .osl k rows=>(.rsl n none k 0 rows.length,upd h n (.ar k rows))
 | .obx cs=>(.ref n none 0 0 0,upd h n (.bx cs))
 | a=>(a,h)
def bP (n:Nat) (h:ab):List AV→List AV × ab
 | []=>([],h)
 | a::l=>((cM n h a).1::(bP (n+1) (cM n h a).2 l).1,(bP (n+1) (cM n h a).2 l).2)
def mat (n:Nat) (h:ab):AV→AV × ab
 | .tup vs=>(.tup (bP n h vs).1,(bP n h vs).2)
 | a=>cM n h a
def mR:List Nat→List AV→K
 | _,[]=>[]
 | ms,a::l=>(if ms.headD 0=2 then (dM a).map (·,false) else [])++mR ms.tail l
def eU (h:ab):K→ab
 | []=>h
 | p::l=>eU (upd h p.1 .dead) l
def cf:Ob→Bool
 | .dead=>true
 | _=>false
def cV (h:ab) (n:Nat):Nat→Bool
 | 0=>true
 | m+1=>cf (h n) && cV h (n+1) m
def cx:AV→Nat
 | .tup vs=>vs.length
 | _=>1
def bf:Ob→Bool
 | .bx _=>true
 | .fz _ _=>true
 | _=>false
def cW (h:ab) (gv:K):List Nat→List Ob→Bool
 | a::l,o::r=>(!bf (h a) || bf o) && (gv.any (·.1 == a) || !cf o) && cW h gv l r
 | _,_=>true
def cN (n:Nat):List Nat:=List.range' 1000 n
def zg (h:ab) (gv:K):Bool:=gv.all fun p=>!bf (h p.1)
def dH (l:List Nat):AV→Bool
 | .osl _ _=>true
 | .obx cs=>cs.all iv
 | c=>aZ l c
def fG (l:List Nat):AV→Bool
 | .tup vs=>vs.all (dH l)
 | c=>dH l c
def cF (ids:List Nat) (i:Nat):Nat:=if i < 2000 then ids.getD (i - 1000) 0 else i
def dt (h:ab) (ids:List Nat):List Nat→List Ob→ab
 | a::l,o::r=>dt (upd h a (cY (cF ids) o)) ids l r
 | _,_=>h
def vN (ids:List Nat) (gv:K):List Nat:=match gv with
 | []=>cN ids.length
 | gv=>(cN ids.length).filter fun i=>!gv.any fun p=>p.1 == cF ids i
def pF (h:ab) (ids:List Nat) (gv:K) (r:AV × List Ob):Bool:=zg h gv && (fG (vN ids gv) r.1 && r.2.all (aT (vN ids gv)))
def dN (kp:Bool) (h:ab) (d:Nat) (ids:List Nat) (ks gv:K) (r:AV × List Ob):Option R3 :=
 if r.2.length=ids.length∧ids.length≤1000∧cx r.1≤8∧cV h (2000+8*d) (cx r.1)=true∧cW h gv ids r.2=true∧pF h ids gv r=true then
  some (zf (cF ids) (mat (2000+8*d) (eU (dt h ids ids r.2) gv) r.1).1,(mat (2000+8*d) (eU (dt h ids ids r.2) gv) r.1).2,ks++((if kp then [] else ids.map (·,true))++gv))
 else none
def ix (call:dG) (md:Mode) (h:ab) (d:Nat) (f:FuncId) (ids:List Nat) (args:List AV) (ks:K):Option R3 :=
 if args.all (aZ ids) && (ids.all fun a=>aT ids (h a) && !cf (h a)) then
  (call f (args.map (dh (bm ids))) (ids.map fun a=>cY (bm ids) (h a))).bind (dN (md.keep f) h d ids ks (mR (md.m f) args))
 else none
def dm (call:dG) (md:Mode) (h:ab) (d:Nat) (args:List AV):AV→Option R3
 | .fn f a b=>(bH h (md.m f) (a++args++b)).bind fun p=>ix call md p.2.1 d f (bW p.2.1 40 (bE [] (p.1.flatMap bI)) 0) (bg (md.sh f) p.1) p.2.2
 | _=>none
def VJ (h:ab):AV→Option AV
 | .rsl id sub k lo n=>(fp k lo n (qD h id sub)).map (.sl k)
 | .v x=>some (.v x)
 | .emp=>some .emp
 | .sl k r=>some (.sl k r)
 | .fn f [] []=>some (.fn f [] [])
 | _=>none
def Js (h:ab):List AV→Option (List AV)
 | []=>some []
 | a::l=>(VJ h a).bind fun b=>(Js h l).bind fun q=>some (b::q)
def qE:AV→Bool
 | .v _=>true
 | _=>false
def Bg:AV→Bool
 | .tup vs=>vs.all qE
 | a=>qE a
def OZ (h:ab):AV × List Ob→Option R3
 | (r,[])=>if Bg r=true then some (r,h,[]) else none
 | _=>none
def GX:AV→Bool
 | .rsl _ _ _ _ _=>false
 | .rsc _ _ _ _ _=>false
 | _=>true
def iY (md:Mode) (args:List AV):AV→Bool
 | .fn f a b=>(md.m f).contains 3 && (a++args++b).any fun x=>!GX x
 | _=>false
def GY (call:dG) (md:Mode) (h:ab) (args:List AV):AV→Option R3
 | .fn f a b=>(Js h (a++args++b)).bind fun zas=>(call f (bg (md.sh f) zas) []).bind (OZ h)
 | _=>none
def bA (call:dG) (md:Mode) (h:ab) (d:Nat) (args:List AV) (f:AV):Option R3:=if iY md args f=true then GY call md h args f else dm call md h d args f
def qF (d:Nat) (r:R3):Option R3:=match r.1 with
 | .rsl id none k lo n=>if id=2000+8*d then (ey r.2.1 (.rsl id none k lo n)).map fun q=>(q.1,q.2.1,r.2.2++q.2.2) else none
 | _=>some r
def vO (h:ab) (x:Option AV):Option R3:=x.map fun a=>(a,h,[])
def step (call:dG) (md:Mode) (d:Nat) (op:AOp) (s:ag) (h:ab):Option R3 :=
 match op with
 | .p op=>vO h (en s op)
 | .alloc z=>ic h d z []
 | .box k x=>vM h d k (ev s x)
 | .buildSl k z n ps=>(dT k h (List.replicate n z) (ps.map fun p=>(p.1,ev s p.2))).bind fun q=>cG q.2.1 d k q.1 n q.2.2
 | .mkSl k z b l c=>(lz (ev s l) (ev s c)).bind fun p =>
  if p.2*b≤140737488355328 then cG h d k (List.replicate p.1 z) p.1 [] else none
 | .load k g x=>fw h k g (ev s x)
 | .store k x y=>ib h k (ev s x) (ev s y)
 | .app k b x y=>Jp h d k b (ev s x) (ev s y)
 | .cpy k x y=>Jq h k (ev s x) (ev s y)
 | .slcM k x lo hi=>C4 h k (ev s x) (evo s lo) (evo s hi)
 | .clr k z x=>Jr h k z (ev s x)
 | .appz k b z x n=>C5 h d k b z (ev s x) (ev s n)
 | .take x=>GW h d (ev s x)
 | .call f args=>bA call md h d (args.map (ev s)) (ev s f)
 | .callC f args=>(bA call md h d (args.map (ev s)) (ev s f)).bind (qF d)
 | .bad=>none
def di (s:ag) (d:Option Nat) (x:AV):ag:=match d with
 | some d=>upd s d x
 | none=>s
def lA (nm:Bool) (ks:K):Bool:=!nm || ks.all fun p=>!aY p.1
def cz (nm:Bool) (s:ag) (d:Option Nat) (r:Option R3):Option St:=match r with
 | some (x,h,ks)=>if lA nm ks then some ⟨di (gl ks s) d x,h⟩ else none
 | none=>none
def gR (d:Option Nat) (want:Bool) (st:Option St) (s:ag) (h:ab):AV→Option St
 | .v (.bool b)=>if b=want then st else some ⟨di s d .und,h⟩
 | .und=>some ⟨di s d .und,h⟩
 | _=>none
def iy (call:dG) (md:Mode) (o:COp) (s:ag) (h:ab):Option St:=match o.g with
 | none=>cz md.nm s o.d (step call md (o.d.getD 0) o.op s h)
 | some g=>gR o.d g.2 (cz md.nm s o.d (step call md (o.d.getD 0) o.op s h)) s h (s g.1)
def bc {β:Type} (x:Option St) (f:ag→ab→Option β):Option β:=match x with
 | none=>none
 | some t=>f t.s t.h
def aF (call:dG) (md:Mode):List COp→ag→ab→Option St
 | [],s,h=>some ⟨s,h⟩
 | o::rest,s,h=>bc (iy call md o s h) (aF call md rest)
def eP:Opd→List Nat
 | .t n=>[n]
 | .c _=>[]
def kn (l:List Opd):List Nat:=l.flatMap eP
def GZ:POp→List Nat
 | .mv x | .nilck x | .nilq _ x | .un _ x | .cv _ x | .cv0 x | .fadr _ x | .fld _ _ _ x | .ext _ x | .len _ x | .capp x=>eP x
 | .pick c a b=>eP c++(eP a++eP b)
 | .bin _ x y | .eqc _ _ x y | .iadrS _ x y | .iadrA _ _ x y | .idxS x y | .idxA _ _ _ x y=>eP x++eP y
 | .mnx _ x ys=>eP x++kn ys
 | .slc _ x lo hi mx=>eP x++(kn lo.toList++(kn hi.toList++kn mx.toList))
 | .slcS x lo hi=>eP x++(kn lo.toList++kn hi.toList)
 | .build _ ps=>ps.flatMap fun p=>eP p.2.2
 | .mkF _ a b=>kn a++kn b
def G0:AOp→List Nat
 | .p op=>GZ op
 | .alloc _=>[]
 | .box _ x=>eP x
 | .buildSl _ _ _ ps=>ps.flatMap fun p=>eP p.2
 | .mkSl _ _ _ l c=>eP l++eP c
 | .load _ _ x=>eP x
 | .store _ x y=>eP x++eP y
 | .app _ _ x y=>eP x++eP y
 | .cpy _ x y=>eP x++eP y
 | .slcM _ x lo hi=>eP x++(kn lo.toList++kn hi.toList)
 | .clr _ _ x=>eP x
 | .appz _ _ _ x n=>eP x++eP n
 | .take x=>eP x
 | .call f args=>eP f++kn args
 | .callC f args=>eP f++kn args
 | .bad=>[]
def ie (o:COp):List Nat:=(match o.g with | some g=>[g.1] | none=>[])++G0 o.op
def uH (a b:COp):Bool :=
 (match a.d with | some d=>!(ie b).contains d | none=>true) && (match b.d with | some d=>!(ie a).contains d | none=>true) &&
 (match a.d,b.d with | some x,some y=>x != y | _,_=>true)
abbrev Fp:=Option (List Nat × List Nat)
def cI (i:Nat):Nat:=if i < 2000 then i else i - i % 8
def l4:AV→Bool
 | .rsl _ _ _ _ _=>false
 | .rsc _ _ _ _ _=>false
 | _=>true
def nU:AV→Bool
 | .agg cs=>cs.all l4
 | .fn _ a b=>a.all l4 && b.all l4
 | a=>l4 a
def ng:AV→Fp
 | .ipt _=>some ([],[])
 | .ref id _ _ _ _=>some ([cI id],[])
 | _=>none
def sR (y:AV):AV→Fp
 | .ref id _ _ _ _=>if dat y then some ([cI id],[cI id]) else none
 | _=>none
def eqV:Value→Value→Bool
 | .int k a,.int k' b=>decide (k=k') && decide (a=b)
 | .bool a,.bool b=>a == b
 | .string a,.string b=>decide (a.data.toList=b.data.toList)
 | .pointer none,.pointer none=>true
 | .nilFunc,.nilFunc=>true
 | _,_=>false
mutual
def eqA:AV→AV→Bool
 | .any,.any=>true
 | .und,.und=>true
 | .emp,.emp=>true
 | .v a,.v b=>eqV a b
 | .sl k r,.sl k' r'=>decide (k=k') && O0 r r'
 | .osl k r,.osl k' r'=>decide (k=k') && O0 r r'
 | .obx c,.obx c'=>Bh c c'
 | .agg c,.agg c'=>Bh c c'
 | .ref a b c d e,.ref a' b' c' d' e'=>decide (a=a'∧b=b'∧c=c'∧d=d'∧e=e')
 | .rsl a b c d e,.rsl a' b' c' d' e'=>decide (a=a'∧b=b'∧c=c'∧d=d'∧e=e')
 | .ipt c,.ipt c'=>Bh c c'
 | .fn f a b,.fn f' a' b'=>decide (f=f') && (Bh a a' && Bh b b')
 | _,_=>false
def Bh:List AV→List AV→Bool
 | [],[]=>true
 | a::l,b::r=>eqA a b && Bh l r
 | _,_=>false
def O0:List (List AV)→List (List AV)→Bool
 | [],[]=>true
 | a::l,b::r=>Bh a b && O0 l r
 | _,_=>false
end
def Oq:Ob→Ob→Bool
 | .dead,.dead=>true
 | .bx c,.bx c'=>Bh c c'
 | .ar k r,.ar k' r'=>decide (k=k') && O0 r r'
 | .fz k r,.fz k' r'=>decide (k=k') && O0 r r'
 | _,_=>false
def LJ (h h':ab) (ids:List Nat):List Nat:=ids.filter fun a=>!Oq (h a) (h' a)
def gK (h:ab) (d:Nat) (l:List AV) (h':ab):Fp :=
 if l.all dat then some ([],[2000+8*d])
 else if l.all nU then some ((bW h 40 (bE [] (l.flatMap bI)) 0).map cI,(LJ h h' (bW h 40 (bE [] (l.flatMap bI)) 0)).map cI++[2000+8*d])
 else none
def jJ (l:List AV):AV→List AV
 | .fn _ a b=>a++l++b
 | _=>l
def Bi (d:Nat) (_h:ab) (l:List AV):Fp:=if l.all dat then some ([],[2000+8*d]) else none
def ed (d:Nat) (op:AOp) (s:ag) (h h':ab):Fp:=match op with
 | .p _=>some ([],[])
 | .alloc _=>some ([],[cI d])
 | .box _ x=>if dat (ev s x) then some ([],[cI d]) else none
 | .buildSl _ _ _ ps=>if ps.all fun p=>dat (ev s p.2) then some ([],[cI d]) else none
 | .mkSl _ _ _ _ _=>some ([],[cI d])
 | .load _ _ x=>ng (ev s x)
 | .store _ x y=>sR (ev s y) (ev s x)
 | .app _ _ _ _=>none
 | .cpy _ _ _=>none
 | .slcM _ _ _ _=>none
 | .clr _ _ _=>none
 | .appz _ _ _ _ _=>none
 | .take _=>none
 | .call f args=>gK h d (jJ (args.map (ev s)) (ev s f)) h'
 | .callC f args=>Bi d h (jJ (args.map (ev s)) (ev s f))
 | .bad=>none
def tP (a b:List Nat):Bool:=a.all fun x=>!b.contains x
def jE:Fp→Fp→Bool
 | none,none=>false
 | none,some b=>b.1.isEmpty && b.2.isEmpty
 | some a,none=>a.1.isEmpty && a.2.isEmpty
 | some a,some b=>tP a.2 (b.1++b.2) && tP b.2 a.1
def gF (s:ag) (d:Option Nat) (f:ab→Fp) (r:Option R3):Option (St × Fp):=match r with
 | some (x,h,[])=>some (⟨di s d x,h⟩,f h)
 | _=>none
def lB (d:Option Nat) (want:Bool) (st:Option (St × Fp)) (s:ag) (h:ab):AV→Option (St × Fp)
 | .v (.bool b)=>if b=want then st else some (⟨di s d .und,h⟩,some ([],[]))
 | .und=>some (⟨di s d .und,h⟩,some ([],[]))
 | _=>none
def db (call:dG) (md:Mode) (o:COp) (s:ag) (h:ab):Option (St × Fp):=match o.g with
 | none=>gF s o.d (ed (o.d.getD 0) o.op s h) (step call md (o.d.getD 0) o.op s h)
 | some g=>lB o.d g.2 (gF s o.d (ed (o.d.getD 0) o.op s h) (step call md (o.d.getD 0) o.op s h)) s h (s g.1)
def eQ (call:dG) (md:Mode):List COp→ag→ab→Option (St × List Fp)
 | [],s,h=>some (⟨s,h⟩,[])
 | o::rest,s,h=>(db call md o s h).bind fun r=>(eQ call md rest r.1.s r.1.h).bind fun q=>some (q.1,r.2::q.2)
def isP:AOp→Bool
 | .p _=>true
 | _=>false
def O1:AOp→Bool
 | .load _ _ _=>true
 | _=>false
def ql (l:List Fp) (p:Nat × Nat):Bool:=match l[p.1]?,l[p.2]? with
 | some a,some b=>jE a b
 | _,_=>false
def th (call:dG) (md:Mode) (l:List COp) (ps:List (Nat × Nat)) (s:ag) (h:ab):Option St :=
 (eQ call md l s h).bind fun r=>if ps.all (ql r.2) then some r.1 else none
def G1 (i:Nat) (s:ag) (h:ab) (id p k lo n:Nat) (cs:List AV):Option AV→Option (ag × ab × K)
 | some (.osl k' rows)=>if k'=k∧lo=0∧n=rows.length∧cf (h i)=true then
   some (upd (gl [(id,true)] s) i (.rsl i none k 0 n),upd (upd h id (.bx (cs.set p .any))) i (.ar k rows),[(id,true)]) else none
 | _=>none
def Uk (i:Nat) (s:ag) (h:ab) (id p k lo n:Nat):Ob→Option (ag × ab × K)
 | .bx cs=>G1 i s h id p k lo n cs cs[p]?
 | _=>none
def LK (i:Nat) (s:ag) (h:ab):AV→Option (ag × ab × K)
 | .rsl id (some p) k lo n=>if aY i=false then Uk i s h id p k lo n (h id) else none
 | .emp=>some (s,h,[])
 | _=>none
def mS (nm:Bool) (g:Nat) (s:ag) (h:ab):Option St:=match g with
 | 0=>some ⟨s,h⟩
 | i+1=>(LK i s h (s i)).bind fun r=>if lA nm r.2.2 then some ⟨r.1,r.2.1⟩ else none
def zi (call:dG) (md:Mode) (l:List COp) (m g:Nat) (ps:List (Nat × Nat)) (s:ag) (h:ab):Option St :=
 (eQ call md (l.take m) s h).bind fun r=>if ps.all (ql r.2) then bc (mS md.nm g r.1.s r.1.h) (aF call md (l.drop m)) else none
def sT:List (Nat × Nat)→Option (Nat × Nat)
 | (p,g)::_=>if 1000000≤p then some (p - 1000000,g) else none
 | []=>none
def lC (call:dG) (md:Mode) (l:List COp) (ps:List (Nat × Nat)) (s:ag) (h:ab):Option St:=match sT ps with
 | some q=>zi call md l q.1 q.2 ps.tail s h
 | none=>th call md l ps s h
def mk {α:Type} (d:α) (f:Nat→α):List Nat→Nat→α
 | []=>fun _=>d
 | i::l=>upd (mk d f l) i (f i)
def knownL (l:List Nat):AV→Bool
 | .ref id _ _ _ _=>l.contains id
 | .rsl id _ _ _ _=>l.contains id
 | .rsc _ _ _ _ _=>false
 | .fn _ a b=>a.isEmpty && b.isEmpty
 | .agg _ | .tup _ | .osl _ _ | .obx _=>false
 | _=>true
def knownA (l:List Nat):AV→Bool
 | .agg cs=>cs.all (knownL l)
 | .fn _ a b=>a.all (knownL l) && b.all (knownL l)
 | a=>knownL l a
def eH (hs:List Nat) (a:AV):AV:=if knownA hs a then a else .any
def mI (body:ag→ab→Option (Ex × St)) (ks hs:List Nat):Nat→ag→ab→Option (Ex × St)
 | 0,_,_=>none
 | n+1,s,h=>if hs.all fun a=>aT hs (h a) then (match body (mk .any (fun i=>eH hs (s i)) ks) (mk .dead h hs) with
  | some (.normal,t)=>mI body ks hs n t.s t.h
  | r=>r) else none
def bX (x:Option (Ex × St)) (f:ag→ab→Option (Ex × St)):Option (Ex × St):=match x with
 | none=>none
 | some (.normal,t)=>f t.s t.h
 | some (.exit i,t)=>some (.exit i,t)
 | some (.ret,t)=>some (.ret,t)
def VK (i:Nat) (s:ag) (h:ab):AV→Option (ag × ab × K)
 | .rsl id sub k lo n=>(ey h (.rsl id sub k lo n)).map fun r=>(upd (gl r.2.2 s) i r.1,r.2.1,r.2.2)
 | .ref id none _ _ _=>match h id with
  | .bx cs=>some (gl [(id,true)] s,upd h id (.bx (cs.map iX)),[(id,true)])
  | _=>none
 | _=>none
def C7 (h:ab):AV→ab
 | .rsl id none _ lo n=>match h id with
  | .ar k rows=>upd h id (.ar k (rows.take (lo+n)))
  | _=>h
 | _=>h
def Bj (i:Nat) (s:ag) (h:ab) (id k lo n:Nat):Ob→Option (ag × ab × K)
 | .ar k' rows=>if k'=k∧lo=0∧aY i=false∧cf (h i)=true then
   some (upd (gl [(id,false)] s) i (.rsl i none k 0 n),upd (upd h id .dead) i (.ar k rows),[(id,false)]) else none
 | _=>none
def Jt (i:Nat) (s:ag) (h:ab):AV→Option (ag × ab × K)
 | .rsl id none k lo n=>Bj i s h id k lo n (h id)
 | .rsc id k lo n _=>Bj i s h id k lo n (h id)
 | .emp=>some (s,h,[])
 | _=>none
def rT (nm:Bool):List Nat→ag→ab→Option St
 | [],s,h=>some ⟨s,h⟩
 | i::l,s,h=>if 200000≤i then (Jt (i - 200000) s h (s (i - 200000))).bind fun r=>if lA nm r.2.2 then rT nm l r.1 r.2.1 else none else if 100000≤i then rT nm l s (C7 h (s (i - 100000))) else (VK i s h (s i)).bind fun r=>if lA nm r.2.2 then rT nm l r.1 r.2.1 else none
def aB (id:Nat) (ks:List Nat):Option (Ex × St)→Option (Ex × St)
 | none=>none
 | some (.normal,t)=>some (.normal,⟨mk .any t.s ks,t.h⟩)
 | some (.exit i,t)=>if i=id then some (.normal,⟨mk .any t.s ks,t.h⟩) else some (.exit i,t)
 | some (.ret,t)=>some (.ret,t)
def lD (a b:Option (Ex × St)):AV→Option (Ex × St)
 | .v (.bool t)=>if t then a else b
 | _=>none
def bG (call:dG) (md:Mode) (lf:Nat):Cmd→ag→ab→Option (Ex × St)
 | .skip,s,h=>some (.normal,⟨s,h⟩)
 | .ops ks l,s,h=>bc (aF call md l s h) fun s h=>some (.normal,⟨mk .any s ks,h⟩)
 | .dops ks l ps,s,h=>bc (lC call md l ps s h) fun s h=>some (.normal,⟨mk .any s ks,h⟩)
 | .seq a b,s,h=>bX (bG call md lf a s h) (bG call md lf b)
 | .cond c a b,s,h=>lD (bG call md lf a s h) (bG call md lf b s h) (ev s c)
 | .block id ks a,s,h=>aB id ks (bG call md lf a s h)
 | .loop ks hs a,s,h=>mI (bG call md lf a) ks hs lf s h
 | .exit id,s,h=>some (.exit id,⟨s,h⟩)
 | .ret,s,h=>some (.ret,⟨s,h⟩)
 | .frz is a,s,h=>bc (rT md.nm is s h) (bG call md lf a)
def tQ (k lo n:Nat):Ob→Option AV
 | .ar k' rows=>if k'=k∧lo+n≤rows.length then (if lo=0∧n=rows.length then some (.osl k rows) else some (kz k lo n rows)) else none
 | .fz k' rows=>if k'=k∧lo+n≤rows.length then some (kz k lo n rows) else none
 | .bx cs=>if k=1∧lo+n≤cs.length∧cs.all iv=true then some (kz 1 lo n (nS cs)) else none
 | .dead=>none
def abO:Ob→Option AV
 | .bx cs=>if cs.all iv then some (.obx cs) else none
 | _=>none
def aib (k lo n:Nat):Option (Nat × List (List AV))→Option AV
 | some (k',rows)=>if k'=k∧lo+n≤rows.length then some (kz k lo n rows) else none
 | none=>none
def iC (h:ab) (a:AV):Option AV:=match a with
 | .rsl id none k lo n=>if aY id then none else tQ k lo n (h id)
 | .rsl id (some p) k lo n=>if aY id then none else aib k lo n (go p (h id))
 | .ref id none k i j=>if aY id then some a else if k=0∧i=0∧j=0 then abO (h id) else none
 | a=>if aA a then some a else none
def tT:AV→Option AV
 | .osl k rows=>some (.sl k rows)
 | a=>if aA a then some a else none
def iD (h:ab):List AV→Option (List AV)
 | []=>some []
 | a::l=>(iC h a).bind fun b=>(tT b).bind fun c=>(iD h l).bind fun q=>some (c::q)
def ni (h:ab):AV→Option AV
 | .agg cs=>(iD h cs).map .agg
 | a=>iC h a
def nV (h:ab):List AV→Option (List AV)
 | []=>some []
 | a::l=>(ni h a).bind fun b=>(nV h l).bind fun q=>some (b::q)
def gL:List Nat→Bool
 | []=>true
 | a::l=>!l.contains a && gL l
def pG:List AV→AV
 | [a]=>a
 | l=>.tup l
def O2 (ks:K) (a:AV):AV:=match ks with
 | []=>a
 | ks=>mQ ks a
def abP (s:ag) (h:ab):Rv→Option R3
 | .t n=>some (s n,h,[])
 | .cell n k g=>fw h k g (s n)
def qG (s:ag) (h:ab):List Rv→Option (List AV × ab × K)
 | []=>some ([],h,[])
 | r::l=>(abP s h r).bind fun p=>(qG (gl p.2.2 s) p.2.1 l).bind fun q=>some (O2 q.2.2 p.1::q.1,q.2.1,p.2.2++q.2.2)
def qH (rs:List (List Sh)) (n:Nat) (h:ab) (vs:List AV):Option (AV × List Ob) :=
 if gL ((vs.flatMap bI).filter fun i=>!aY i) && ((cN n).all fun i=>aT (cN n) (h i)) then (nV h vs).map fun us=>(pG (bg rs us),(cN n).map h) else none
def vP (nm:Bool) (rs:List (List Sh)) (res:List Rv) (n:Nat) (s:ag) (h:ab):Option (AV × List Ob):=(qG s h res).bind fun q=>if lA nm q.2.2 then qH rs n q.2.1 q.1 else none
def gq (nm:Bool) (rs:List (List Sh)) (res:List Rv) (n:Nat):Option (Ex × St)→Option (AV × List Ob)
 | some (.normal,t)=>vP nm rs res n t.s t.h
 | some (.ret,t)=>vP nm rs res n t.s t.h
 | _=>none
def oT (args:List AV):ag:=fun i=>(args[i]?).getD .any
def rU (call:dG) (md:Mode) (lf:Nat) (fd:FD) (args:List AV) (hs:List Ob):Option (AV × List Ob) :=
 if args.length=fd.np∧hs.length≤1000 then gq md.nm fd.rs fd.res hs.length (bG call md lf fd.body (oT args) (ak hs)) else none
structure Env where
 E:FuncId→Option (List AV→List Ob→Option (AV × List Ob))
 C:FuncId→Option FD
 md:Mode
def dj (e:Env):Nat→dG
 | 0=>fun _ _ _=>none
 | n+1=>fun f args hs=>match e.E f with
  | some g=>g args hs
  | none=>(e.C f).bind fun fd=>rU (dj e n) { e.md with nm:=e.md.keep f } n fd args hs
theorem jK (a:Addr) (n:Nat):(a.add n).block=a.block:=by unfold Addr.add; split <;> rfl
theorem ER {a:Addr} (n:Nat) (h:a.spot=none):(a.add n).spot=none:=by unfold Addr.add; split <;> simp [h]
theorem vQ (a:Addr) (i j:Nat):(a.add i).add j=a.add (i+j):=by
 unfold Addr.add
 by_cases hi:i=0 <;> by_cases hj:j=0 <;> simp [hi,hj,Nat.add_assoc]
theorem jL (b o n:Nat):(Addr.mk b o none).add n=⟨b,o+n,none⟩:=by
 unfold Addr.add; by_cases h:n=0 <;> simp [h]
theorem jM {w w':World} {a:Addr} (h:w'.heap[a.block]?=w.heap[a.block]?):w'.cell? a=w.cell? a:=by
 simp [World.cell?,h]
theorem vo {w:World} {b o:Nat} {us:Array Value} {e:TypeId} {fr:Nat × Nat} (h:w.heap[b]?=some (.cells us e fr)):w.cell? ⟨b,o,none⟩=us[o]?:=by
 simp [World.cell?,h]
def nj:Value→Bool
 | .bool _ | .int _ _ | .float _ _ | .string _ | .pointer none | .map none | .chan none | .nilFunc | .nilIface=>true
 | _=>false
theorem zj {x:Value} (h:nj x=true):x.oneCell'=true:=by
 cases x <;> simp [nj,Value.oneCell'] at h ⊢
inductive RD (w:World) (A:Nat→Prop):AV→Value→Prop
 | any (u:Value) (h:u.oneCell'=true):RD w A .any u
 | v (x:Value) (h:nj x=true):RD w A (.v x) x
 | emp (a:Option Addr):RD w A .emp (.slice a 0 0)
 | sl (k:Nat) (rows:List (List AV)) (a:Option Addr) (cap:Nat) (ad:Addr) (vals:Nat→Nat→Value) (hc:rows.length≤cap)
   (ha:rows ≠ []→a=some ad∧A ad.block∧ad.spot=none) (hk:∀ row ∈ rows,row.length=k)
   (hv:∀ (i:Nat) (row:List AV) (j:Nat) (c:AV),rows[i]?=some row→row[j]?=some c→w.cell? (ad.add (i*k+j))=some (vals i j))
   (hl:∀ row ∈ rows,∀ c ∈ row,aA c=true) (hr:∀ (i:Nat) (row:List AV) (j:Nat) (c:AV),rows[i]?=some row→row[j]?=some c→RD w A c (vals i j)):RD w A (.sl k rows) (.slice a rows.length cap)
 | agg (cs:List AV) (us:Array Value) (hs:us.size=cs.length) (h1:∀ (i:Nat) (u:Value),us[i]?=some u→u.oneCell'=true)
   (hr:∀ (i:Nat) (c:AV) (u:Value),cs[i]?=some c→us[i]?=some u→RD w A c u):RD w A (.agg cs) (.agg us)
 | fn (f:FuncId):RD w A (.fn f [] []) (.func (.func f) #[] #[])
abbrev bB:=Nat→Option Nat→Nat × Nat
def live (h:ab) (id:Nat):Option Nat→Prop
 | none=>match h id with | .bx _ | .ar _ _=>True | _=>False
 | some p=>∃ cs k rows,h id=.bx cs∧cs[p]?=some (.osl k rows)
def bM (h:ab) (id:Nat):Option Nat→Prop
 | none=>h id ≠ .dead
 | some p=>live h id (some p)
def l5 (h:ab) (ρ:bB) (b:Nat):Prop:=∃ id sub,live h id sub∧(ρ id sub).1=b
def aH (w:World) (X:Nat→Prop) (h:ab) (ρ:bB) (b:Nat):Prop:=b < w.heap.size∧¬ X b∧¬ l5 h ρ b
theorem YC {h:ab} {id:Nat} {sub:Option Nat} (hl:live h id sub):bM h id sub:=by
 cases sub with
 | none=>intro e; simp [live,e] at hl
 | some p=>exact hl
inductive RV (w:World) (A:Nat→Prop) (ρ:bB) (h:ab):AV→Value→Prop
 | anyv (u:Value):RV w A ρ h .any u
 | und:RV w A ρ h .und undef
 | dat {c:AV} {u:Value} (hd:RD w A c u):RV w A ρ h c u
 | ref (id:Nat) (sub:Option Nat) (k i j:Nat) (hp:bM h id sub):RV w A ρ h (.ref id sub k i j) (.pointer (some ⟨(ρ id sub).1,i*k+j,none⟩))
 | rsl (id:Nat) (sub:Option Nat) (k lo n cap:Nat) (a:Option Addr) (hp:bM h id sub) (hn:n≤cap) (hb:(lo+cap)*k=(ρ id sub).2)
   (ha:cap=0∨a=some ⟨(ρ id sub).1,lo*k,none⟩):RV w A ρ h (.rsl id sub k lo n) (.slice a n cap)
 | rsc (id k lo n cap:Nat) (a:Option Addr) (hp:bM h id none) (hn:n≤cap) (hb:(lo+cap)*k=(ρ id none).2)
   (ha:cap=0∨a=some ⟨(ρ id none).1,lo*k,none⟩):RV w A ρ h (.rsc id k lo n cap) (.slice a n cap)
 | ipt (cs:List AV) (ad:Addr) (vals:Nat→Value) (hA:A ad.block) (hs:ad.spot=none) (hv:∀ (j:Nat) (c:AV),cs[j]?=some c→w.cell? (ad.add j)=some (vals j))
   (hl:∀ c ∈ cs,aA c=true) (hr:∀ (j:Nat) (c:AV),cs[j]?=some c→RD w A c (vals j)):RV w A ρ h (.ipt cs) (.pointer (some ad))
 | agg (cs:List AV) (us:Array Value) (hs:us.size=cs.length) (h1:∀ (i:Nat) (u:Value),us[i]?=some u→u.oneCell'=true)
   (hr:∀ (i:Nat) (c:AV) (u:Value),cs[i]?=some c→us[i]?=some u→RV w A ρ h c u):RV w A ρ h (.agg cs) (.agg us)
 | tup (vs:List AV) (us:Array Value) (hs:us.size=vs.length) (hr:∀ (i:Nat) (c:AV) (u:Value),vs[i]?=some c→us[i]?=some u→RV w A ρ h c u):RV w A ρ h (.tup vs) (.tuple us)
 | fn (f:FuncId) (x y:List AV) (us ts:Array Value) (hs:us.size=x.length) (ht:ts.size=y.length) (hx:∀ (i:Nat) (c:AV) (u:Value),x[i]?=some c→us[i]?=some u→RV w A ρ h c u)
   (hy:∀ (i:Nat) (c:AV) (u:Value),y[i]?=some c→ts[i]?=some u→RV w A ρ h c u):RV w A ρ h (.fn f x y) (.func (.func f) us ts)
def bT (w:World) (A:Nat→Prop) (k:Nat) (rows:List (List AV)) (us:Array Value):Prop :=
 ∀ i row,rows[i]?=some row→row.length=k∧∀ j c,row[j]?=some c→∃ u,us[i*k+j]?=some u∧RD w A c u∧aA c=true
def iZ (h:ab):AV→Prop
 | .any | .v _ | .emp | .sl _ _=>True
 | .ref id none _ _ _=>bf (h id)=true
 | .fn _ x y=>(x.all aA && y.all aA)=true
 | _=>False
def RC (w:World) (A:Nat→Prop) (ρ:bB) (h:ab) (id p:Nat) (c:AV) (u:Value):Prop :=
 match c with
 | .osl k rows=>∃ a cap us e,u=.slice a rows.length cap∧(cap=0∨a=some ⟨(ρ id (some p)).1,0,none⟩)∧rows.length≤cap ∧
   w.heap[(ρ id (some p)).1]?=some (.cells us e (0,0))∧us.size=(ρ id (some p)).2∧cap*k=us.size∧bT w A k rows us
 | c=>RV w A ρ h c u∧u.oneCell'=true∧iZ h c
def RO (w:World) (A:Nat→Prop) (ρ:bB) (h:ab) (id:Nat):Ob→Prop
 | .dead=>True
 | .bx cs=>∃ us e,w.heap[(ρ id none).1]?=some (.cells us e (0,0))∧us.size=(ρ id none).2∧cs.length≤us.size∧∀ p c,cs[p]?=some c→∃ u,us[p]?=some u∧RC w A ρ h id p c u
 | .ar k rows=>∃ us e,w.heap[(ρ id none).1]?=some (.cells us e (0,0))∧us.size=(ρ id none).2∧rows.length*k≤us.size∧bT w A k rows us
 | .fz k rows=>A (ρ id none).1∧∃ us e fr,w.heap[(ρ id none).1]?=some (.cells us e fr)∧us.size=(ρ id none).2∧rows.length*k≤us.size∧bT w A k rows us
structure Rel (w:World) (X:Nat→Prop) (ρ:bB) (h:ab):Prop where
 inj:∀ id sub id' sub',live h id sub→live h id' sub'→(ρ id sub).1=(ρ id' sub').1→id=id'∧sub=sub'
 nx:∀ id sub,live h id sub→¬ X (ρ id sub).1
 ob:∀ id,RO w (aH w X h ρ) ρ h id (h id)
 xl:∀ b,X b→b < w.heap.size
structure Evo (w:World) (ρ:bB) (h:ab) (w':World) (ρ':bB) (h':ab) (ks:K):Prop where
 os:w'.os=w.os
 tape:w'.tape=w.tape
 output:w'.output=w.output
 size:w.heap.size≤w'.heap.size
 old:∀ b,b < w.heap.size→¬ l5 h ρ b→w'.heap[b]?=w.heap[b]?
 keep:∀ id sub,bM h id sub→fF ks id sub=false→bM h' id sub∧ρ' id sub=ρ id sub
 fresh:∀ b,l5 h' ρ' b→l5 h ρ b∨w.heap.size≤b
 boxes:∀ id,bf (h id)=true→bf (h' id)=true∧ρ' id none=ρ id none
 stay:∀ id,aY id=true→h' id ≠ .dead→h id ≠ .dead∧ρ' id none=ρ id none
theorem Evo.refl (w:World) (ρ:bB) (h:ab):Evo w ρ h w ρ h []:=⟨rfl,rfl,rfl,Nat.le_refl _,fun _ _ _=>rfl,fun _ _ hp _=>⟨hp,rfl⟩,fun _ ho=>.inl ho,fun _ hb=>⟨hb,rfl⟩,fun _ _ hd=>⟨hd,rfl⟩⟩
theorem uI (a b:K) (id:Nat) (sub:Option Nat):fF (a++b) id sub=(fF a id sub || fF b id sub):=by simp [fF]
theorem Evo.trans {w w' w'':World} {ρ ρ' ρ'':bB} {h h' h'':ab} {ks ks':K} (a:Evo w ρ h w' ρ' h' ks) (b:Evo w' ρ' h' w'' ρ'' h'' ks'):Evo w ρ h w'' ρ'' h'' (ks++ks') :=
 ⟨b.os.trans a.os,b.tape.trans a.tape,b.output.trans a.output,Nat.le_trans a.size b.size,
  fun x hx ho=>(b.old x (Nat.lt_of_lt_of_le hx a.size) (fun o=>by rcases a.fresh x o with o | o; exact ho o; omega)).trans (a.old x hx ho),
  fun id sub hp hk=>by
   rw [uI,Bool.or_eq_false_iff] at hk
   obtain ⟨h1,h2⟩:=a.keep id sub hp hk.1
   obtain ⟨h3,h4⟩:=b.keep id sub h1 hk.2
   exact ⟨h3,h4.trans h2⟩,
  fun x o=>by
   rcases b.fresh x o with o | o
   ·exact a.fresh x o
   ·exact .inr (Nat.le_trans a.size o),
  fun id hb=>by
   obtain ⟨h1,h2⟩:=a.boxes id hb
   obtain ⟨h3,h4⟩:=b.boxes id h1
   exact ⟨h3,h4.trans h2⟩,
  fun id hp hd=>by
   obtain ⟨h1,h2⟩:=b.stay id hp hd
   obtain ⟨h3,h4⟩:=a.stay id hp h1
   exact ⟨h3,h2.trans h4⟩⟩
theorem Evo.al {w w':World} {X:Nat→Prop} {ρ ρ':bB} {h h':ab} {ks:K} (e:Evo w ρ h w' ρ' h' ks) {b:Nat} (hb:aH w X h ρ b):aH w' X h' ρ' b∧w'.heap[b]?=w.heap[b]? :=
 ⟨⟨Nat.lt_of_lt_of_le hb.1 e.size,hb.2.1,fun o=>by rcases e.fresh b o with o | o; exact hb.2.2 o; have:=hb.1; omega⟩,e.old b hb.1 hb.2.2⟩
section
variable {w w':World} {A A':Nat→Prop}
theorem RD.mono {c:AV} {u:Value} (h:RD w A c u) (hA:∀ b,A b→A' b∧w'.heap[b]?=w.heap[b]?):RD w' A' c u:=by
 induction h with
 | any u h=>exact .any u h
 | v x h=>exact .v x h
 | emp a=>exact .emp a
 | sl k rows a cap ad vals hc ha hk hv hl hr ih =>
  refine .sl k rows a cap ad vals hc (fun hne=>⟨(ha hne).1,(hA _ (ha hne).2.1).1,(ha hne).2.2⟩) hk (fun i row j c h1 h2=>?_) hl ih
  have hne:rows ≠ []:=by intro e; simp [e] at h1
  rw [jM (w:=w) (w':=w') (by rw [jK]; exact (hA _ (ha hne).2.1).2)]
  exact hv i row j c h1 h2
 | agg cs us hs h1 hr ih=>exact .agg cs us hs h1 ih
 | fn f=>exact .fn f
theorem bT.mono {k:Nat} {rows:List (List AV)} {us:Array Value} (h:bT w A k rows us) (hA:∀ b,A b→A' b∧w'.heap[b]?=w.heap[b]?):bT w' A' k rows us :=
 fun i row hi=>⟨(h i row hi).1,fun j c hc=>by obtain ⟨u,h1,h2,h3⟩:=(h i row hi).2 j c hc; exact ⟨u,h1,h2.mono hA,h3⟩⟩
end
theorem RD.one {w:World} {A:Nat→Prop} {c:AV} {u:Value} (h:RD w A c u) (hd:aA c=true):u.oneCell'=true:=by
 cases h with
 | any u h=>exact h
 | v x h=>exact zj h
 | emp a=>rfl
 | sl=>rfl
 | agg=>simp [aA] at hd
 | fn=>rfl
section
variable {w w':World} {A A':Nat→Prop} {ρ ρ':bB} {h h':ab}
theorem RV.keep {c:AV} {u:Value} (hv:RV w A ρ h c u) (hA:∀ b,A b→A' b∧w'.heap[b]?=w.heap[b]?) (hk:∀ id sub,bM h id sub→bM h' id sub∧ρ' id sub=ρ id sub):RV w' A' ρ' h' c u:=by
 induction hv with
 | anyv u=>exact .anyv u
 | und=>exact .und
 | dat hd=>exact .dat (hd.mono hA)
 | ref id sub k i j hp=>rw [← (hk id sub hp).2]; exact .ref id sub k i j (hk id sub hp).1
 | rsl id sub k lo n cap a hp hn hb ha =>
  obtain ⟨h1,h2⟩:=hk id sub hp
  exact .rsl id sub k lo n cap a h1 hn (by rw [h2]; exact hb) (by rw [h2]; exact ha)
 | rsc id k lo n cap a hp hn hb ha =>
  obtain ⟨h1,h2⟩:=hk id none hp
  exact .rsc id k lo n cap a h1 hn (by rw [h2]; exact hb) (by rw [h2]; exact ha)
 | ipt cs ad vals hA' hs hv hl hr =>
  exact .ipt cs ad vals (hA _ hA').1 hs (fun j c hc=>by rw [jM (w:=w) (w':=w') (by rw [jK]; exact (hA _ hA').2)]; exact hv j c hc) hl (fun j c hc=>(hr j c hc).mono hA)
 | agg cs us hs h1 hr ih=>exact .agg cs us hs h1 ih
 | tup vs us hs hr ih=>exact .tup vs us hs ih
 | fn f x y us ts hs ht hx hy ihx ihy=>exact .fn f x y us ts hs ht ihx ihy
theorem RV.keepL {ks:K} {c:AV} {u:Value} (hv:RV w A ρ h c u) (hA:∀ b,A b→A' b∧w'.heap[b]?=w.heap[b]?) (hk:∀ id sub,bM h id sub→fF ks id sub=false→bM h' id sub∧ρ' id sub=ρ id sub) (hm:lw ks c=false):RV w' A' ρ' h' c u:=by
 cases hv with
 | anyv u=>exact .anyv u
 | und=>exact .und
 | dat hd=>exact .dat (hd.mono hA)
 | ref id sub k i j hp =>
  obtain ⟨h1,h2⟩:=hk id sub hp (by simpa [lw] using hm)
  rw [← h2]; exact .ref id sub k i j h1
 | rsl id sub k lo n cap a hp hn hb ha =>
  obtain ⟨h1,h2⟩:=hk id sub hp (by simpa [lw] using hm)
  exact .rsl id sub k lo n cap a h1 hn (by rw [h2]; exact hb) (by rw [h2]; exact ha)
 | rsc id k lo n cap a hp hn hb ha =>
  obtain ⟨h1,h2⟩:=hk id none hp (by simpa [lw] using hm)
  exact .rsc id k lo n cap a h1 hn (by rw [h2]; exact hb) (by rw [h2]; exact ha)
 | ipt cs ad vals hA' hs hv hl hr =>
  exact .ipt cs ad vals (hA _ hA').1 hs (fun j c hc=>by rw [jM (w:=w) (w':=w') (by rw [jK]; exact (hA _ hA').2)]; exact hv j c hc) hl (fun j c hc=>(hr j c hc).mono hA)
 | agg cs us hs h1 hr=>simp [lw] at hm
 | tup vs us hs hr=>simp [lw] at hm
 | fn f x y us ts hs ht hx hy =>
  simp [lw] at hm
  obtain ⟨rfl,rfl⟩:=hm
  exact .fn f [] [] us ts hs ht (fun i c u hc=>by simp at hc) (fun i c u hc=>by simp at hc)
theorem RV.keep1 {ks:K} {c:AV} {u:Value} (hv:RV w A ρ h c u) (hA:∀ b,A b→A' b∧w'.heap[b]?=w.heap[b]?) (hk:∀ id sub,bM h id sub→fF ks id sub=false→bM h' id sub∧ρ' id sub=ρ id sub) (hm:xF ks c=false):RV w' A' ρ' h' c u:=by
 cases c with
 | agg cs =>
  simp [xF] at hm
  cases hv with
  | dat hd=>exact .dat (hd.mono hA)
  | agg _ us hs h1 hr=>exact .agg cs us hs h1 fun i c u hc hu=>(hr i c u hc hu).keepL hA hk (hm c (List.mem_of_getElem? hc))
 | fn f x y =>
  simp [xF] at hm
  cases hv with
  | dat hd=>exact .dat (hd.mono hA)
  | fn _ _ _ us ts hs ht hx hy=>exact .fn f x y us ts hs ht (fun i c u hc hu=>(hx i c u hc hu).keepL hA hk (hm.1 c (List.mem_of_getElem? hc))) (fun i c u hc hu=>(hy i c u hc hu).keepL hA hk (hm.2 c (List.mem_of_getElem? hc)))
 | _=>exact hv.keepL hA hk (by simpa [xF] using hm)
theorem RV.keep2 {ks:K} {c:AV} {u:Value} (hv:RV w A ρ h c u) (hA:∀ b,A b→A' b∧w'.heap[b]?=w.heap[b]?) (hk:∀ id sub,bM h id sub→fF ks id sub=false→bM h' id sub∧ρ' id sub=ρ id sub) (hm:Uj ks c=false):RV w' A' ρ' h' c u:=by
 cases c with
 | tup vs =>
  simp [Uj] at hm
  cases hv with
  | dat hd=>cases hd
  | tup _ us hs hr=>exact .tup vs us hs fun i c u hc hu=>(hr i c u hc hu).keep1 hA hk (hm c (List.mem_of_getElem? hc))
 | _=>exact hv.keep1 hA hk (by simpa [Uj] using hm)
end
def RS (w:World) (A:Nat→Prop) (ρ:bB) (h:ab) (s:ag) (tm:Array Value):Prop:=∀ i,RV w A ρ h (s i) (tm.getD i undef)
section
variable {w w':World} {X:Nat→Prop} {ρ ρ':bB} {h h':ab} {ks:K}
theorem Evo.rs (e:Evo w ρ h w' ρ' h' ks) {s:ag} {tm:Array Value} (hs:RS w (aH w X h ρ) ρ h s tm):RS w' (aH w' X h' ρ') ρ' h' (gl ks s) tm:=by
 intro i
 cases ks with
 | nil=>exact (hs i).keep (fun b hb=>e.al hb) (fun id sub hp=>e.keep id sub hp rfl)
 | cons p l =>
  show RV _ _ _ _ (mQ (p::l) (s i)) _
  unfold mQ
  split
  ·exact .anyv _
  ·rename_i hm
   exact (hs i).keep2 (fun b hb=>e.al hb) (fun id sub hp hk=>e.keep id sub hp hk) (by simpa using hm)
theorem Evo.rv (e:Evo w ρ h w' ρ' h' []) {c:AV} {u:Value} (hv:RV w (aH w X h ρ) ρ h c u):RV w' (aH w' X h' ρ') ρ' h' c u :=
 hv.keep (fun _ hb=>e.al hb) (fun id sub hp=>e.keep id sub hp rfl)
theorem Evo.rd (e:Evo w ρ h w' ρ' h' ks) {c:AV} {u:Value} (hd:RD w (aH w X h ρ) c u):RD w' (aH w' X h' ρ') c u:=hd.mono fun _ hb=>e.al hb
end
theorem RS.upd {w:World} {A:Nat→Prop} {ρ:bB} {h:ab} {s:ag} {tm:Array Value} (hs:RS w A ρ h s tm) {d:Nat} {x:AV} {v:Value} (hd:d < tm.size) (hv:RV w A ρ h x v):RS w A ρ h (upd s d x) (tm.setIfInBounds d v):=by
 intro i
 unfold Ab.upd
 by_cases hi:i=d
 ·subst hi; simpa [Array.getD_eq_getD_getElem?,hd] using hv
 ·rw [if_neg hi]
  have:=hs i
  simpa [Array.getD_eq_getD_getElem?,Array.getElem?_setIfInBounds_ne (show d ≠ i from fun e=>hi e.symm)] using this
theorem Ju {h:ab} {id:Nat} (hb:bf (h id)=true):bM h id none:=by intro e; simp [e,bf] at hb
section
variable {w w':World} {A A':Nat→Prop} {ρ ρ':bB} {h h':ab} {c:AV} {u:Value}
theorem RV.toD (hd:aA c=true) (h1:u.oneCell'=true) (hv:RV w A ρ h c u):RD w A c u:=by
 cases hv with
 | anyv u=>exact .any u h1
 | und=>simp [aA] at hd
 | dat hd=>exact hd
 | fn f x y us ts hs ht hx hy =>
  simp [aA] at hd
  obtain ⟨rfl,rfl⟩:=hd
  have e1:us=#[]:=by simpa using hs
  have e2:ts=#[]:=by simpa using ht
  subst e1 e2
  exact .fn f
 | _=>simp [aA] at hd
theorem RV.keepD (hd:aA c=true) (hv:RV w A ρ h c u) (hA:∀ b,A b→A' b∧w'.heap[b]?=w.heap[b]?):RV w' A' ρ' h' c u:=by
 cases hv with
 | anyv u=>exact .anyv u
 | und=>exact .und
 | dat hd=>exact .dat (hd.mono hA)
 | fn f x y us ts hs ht hx hy =>
  simp [aA] at hd
  obtain ⟨rfl,rfl⟩:=hd
  exact .fn f [] [] us ts hs ht (fun i c u hc=>by simp at hc) (fun i c u hc=>by simp at hc)
 | _=>simp [aA] at hd
theorem RV.keepC (hv:RV w A ρ h c u) (ho:iZ h c) (hA:∀ b,A b→A' b∧w'.heap[b]?=w.heap[b]?) (hB:∀ id,bf (h id)=true→bf (h' id)=true∧ρ' id none=ρ id none):RV w' A' ρ' h' c u∧iZ h' c:=by
 cases hv with
 | anyv u=>exact ⟨.anyv u,trivial⟩
 | und=>cases ho
 | dat hd =>
  refine ⟨.dat (hd.mono hA),?_⟩
  cases hd <;> first | trivial | exact ho
 | ref id sub k i j hp =>
  cases sub with
  | none =>
   obtain ⟨h1,h2⟩:=hB id ho
   exact ⟨by rw [← h2]; exact .ref id none k i j (Ju h1),h1⟩
  | some p=>cases ho
 | fn f x y us ts hs ht hx hy =>
  have ho':=ho
  simp only [iZ,Bool.and_eq_true,List.all_eq_true] at ho'
  exact ⟨.fn f x y us ts hs ht (fun i c u hc hu=>(hx i c u hc hu).keepD (ho'.1 c (List.mem_of_getElem? hc)) hA) (fun i c u hc hu=>(hy i c u hc hu).keepD (ho'.2 c (List.mem_of_getElem? hc)) hA),ho⟩
 | _=>cases ho
theorem qI (hd:aA c=true):iZ h c:=by
 cases c <;> simp [aA] at hd <;> first | trivial | (obtain ⟨rfl,rfl⟩:=hd; simp [iZ])
theorem nn (hn:bd c=false) {id p:Nat}:RC w A ρ h id p c u↔RV w A ρ h c u∧u.oneCell'=true∧iZ h c:=by
 cases c <;> first | rfl | simp [bd] at hn
theorem RO.keep {id:Nat} (ho:RO w A ρ h id (h id)) (hA:∀ b,A b→A' b∧w'.heap[b]?=w.heap[b]?) (hB:∀ id,bf (h id)=true→bf (h' id)=true∧ρ' id none=ρ id none)
  (hρ:∀ sub,ρ' id sub=ρ id sub) (hb:∀ sub,live h id sub→w'.heap[(ρ id sub).1]?=w.heap[(ρ id sub).1]?):RO w' A' ρ' h' id (h id):=by
 cases e:h id with
 | dead=>trivial
 | bx cs =>
  rw [e] at ho
  obtain ⟨us,t,h1,h2,h3,h4⟩:=ho
  refine ⟨us,t,?_,by rw [hρ]; exact h2,h3,fun p c hc=>?_⟩
  ·rw [hρ,hb none (by simp [live,e]),h1]
  ·obtain ⟨u,h5,h6⟩:=h4 p c hc
   refine ⟨u,h5,?_⟩
   cases hO:bd c with
   | true =>
    cases c <;> simp [bd] at hO
    rename_i k rows
    obtain ⟨a,cap,us',t',g1,g2,g3,g4,g5,g6,g7⟩:=h6
    refine ⟨a,cap,us',t',g1,by rw [hρ]; exact g2,g3,?_,by rw [hρ]; exact g5,g6,g7.mono hA⟩
    rw [hρ,hb (some p) ⟨cs,k,rows,e,hc⟩,g4]
   | false =>
    rw [nn hO] at h6 ⊢
    obtain ⟨g1,g2⟩:=h6.1.keepC h6.2.2 hA hB
    exact ⟨g1,h6.2.1,g2⟩
 | ar k rows =>
  rw [e] at ho
  obtain ⟨us,t,h1,h2,h3,h4⟩:=ho
  exact ⟨us,t,by rw [hρ,hb none (by simp [live,e]),h1],by rw [hρ]; exact h2,h3,h4.mono hA⟩
 | fz k rows =>
  rw [e] at ho
  obtain ⟨h0,us,t,fr,h1,h2,h3,h4⟩:=ho
  obtain ⟨g1,g2⟩:=hA _ h0
  exact ⟨by rw [hρ]; exact g1,us,t,fr,by rw [hρ,g2,h1],by rw [hρ]; exact h2,h3,h4.mono hA⟩
end
theorem Rel.step {w w':World} {X:Nat→Prop} {ρ ρ':bB} {h h':ab} {ks:K} (r:Rel w X ρ h) (e:Evo w ρ h w' ρ' h' ks) (S:Nat→Prop)
  (hS:∀ id,¬ S id→h' id=h id∧(∀ sub,ρ' id sub=ρ id sub)∧(∀ sub,live h id sub→w'.heap[(ρ id sub).1]?=w.heap[(ρ id sub).1]?))
  (hi:∀ id sub id' sub',live h' id sub→live h' id' sub'→(ρ' id sub).1=(ρ' id' sub').1→id=id'∧sub=sub') (hx:∀ id sub,live h' id sub→¬ X (ρ' id sub).1)
  (hc:∀ id,S id→RO w' (aH w' X h' ρ') ρ' h' id (h' id)):Rel w' X ρ' h' :=
 ⟨hi,hx,fun id=>by
  by_cases hs:S id
  ·exact hc id hs
  ·obtain ⟨h1,h2,h3⟩:=hS id hs
   rw [h1]
   exact (r.ob id).keep (fun b hb=>e.al hb) e.boxes h2 h3,
  fun b hb=>Nat.lt_of_lt_of_le (r.xl b hb) e.size⟩
def O3:Value→Option AV
 | .slice none 0 0=>some .emp
 | .bool b=>some (.v (.bool b))
 | .int k n=>some (.v (.int k n))
 | .string s=>some (.v (.string s))
 | .pointer none=>some (.v (.pointer none))
 | .nilFunc=>some (.v .nilFunc)
 | .nilIface=>some (.v .nilIface)
 | .map none=>some (.v (.map none))
 | _=>none
def Bk:List Value→Option (List AV)
 | []=>some []
 | v::l=>(O3 v).bind fun a=>(Bk l).bind fun q=>some (a::q)
def bQ:Operand→Option Opd
 | .tmp t=>some (.t t)
 | .const v=>(O3 v).map .c
 | .func f=>some (.c (.fn f [] []))
 | .global _=>some (.c .any)
def lE:List Operand→Option (List Opd)
 | []=>some []
 | v::l=>(bQ v).bind fun a=>(lE l).bind fun q=>some (a::q)
def xe:Option Operand→Option (Option Opd)
 | none=>some none
 | some x=>(bQ x).map some
def mJ (P:Program) (t:TypeId):Option Bool:=match P.underlying t with
 | some (.struct _)=>some true
 | some (.array _ _)=>some true
 | some _=>some false
 | none=>none
def br (P:Program) (t:TypeId):Option Nat:=(P.info? t).map (·.size)
def l6 (P:Program) (t:TypeId):Option Nat:=(P.info? t).map (·.bytes)
def iE (P:Program) (t:TypeId):Option (List AV):=(P.info? t).bind fun i=>i.zero.bind fun z=>if z.cells.size=i.size then Bk z.cells.toList else none
def pH (P:Program) (t:TypeId):Option TypeId:=match P.underlying t with
 | some (.slice e)=>some e
 | _=>none
def yt (P:Program) (t:TypeId) (f:Nat):Option Field:=match P.underlying t with
 | some (.struct fs)=>fs[f]?
 | _=>none
def Bl:BinOp→Option Bool
 | .eql=>some false
 | .neq=>some true
 | _=>none
def aic (P:Program) (op:BinOp) (t:TypeId) (x y:Opd):Option POp:=match P.underlying t with
 | some .bool=>(Bl op).map fun n=>.eqc n 0 x y
 | some (.pointer _)=>(Bl op).map fun n=>.eqc n 1 x y
 | some (.func _ _ _)=>(Bl op).map fun n=>.eqc n 2 x y
 | some (.int _)=>some (.bin op x y)
 | some .string=>some (.bin op x y)
 | some (.slice _)=>(match y with | .c .emp=>(Bl op).map fun n=>.nilq n x | _=>none)
 | _=>none
def aek (P:Program) (src dst:TypeId) (x:Opd):Option POp:=match P.underlying src,P.underlying dst with
 | some (.int _),some (.int k)=>some (.cv k x)
 | some .string,some .string=>some (.cv0 x)
 | _,_=>none
def YD (P:Program) (t:TypeId) (x:Opd) (lo hi mx:Option Opd):Option POp:=match P.underlying t with
 | some (.slice e)=>(br P e).map fun k=>.slc k x lo hi mx
 | some .string=>match mx with
  | none=>some (.slcS x lo hi)
  | some _=>none
 | _=>none
def ael (P:Program) (t:TypeId) (x i:Opd):Option POp:=match P.underlying t with
 | some (.slice e)=>(br P e).map fun k=>.iadrS k x i
 | some (.array n e)=>(br P e).map fun k=>.iadrA n k x i
 | _=>none
def aid (P:Program) (t:TypeId) (x i:Opd):Option POp:=match P.underlying t with
 | some .string=>some (.idxS x i)
 | some (.array n e)=>(br P e).bind fun k=>(mJ P e).map fun g=>.idxA n k g x i
 | _=>none
def aie (P:Program) (t:TypeId) (x:Opd):Option POp:=match P.underlying t with
 | some (.slice _)=>some (.len false x)
 | some .string=>some (.len true x)
 | some (.array n _)=>some (.mv (.c (I n)))
 | _=>none
def aif (P:Program) (t:TypeId) (x:Opd):Option POp:=match P.underlying t with
 | some (.slice _)=>some (.capp x)
 | _=>none
def yu (P:Program) (fs:Nat→Option (Nat × Nat)):List (Nat × Operand)→Option (List (Nat × Nat × Opd))
 | []=>some []
 | (i,x)::l=>(fs i).bind fun p=>(bQ x).bind fun a=>(yu P fs l).bind fun q=>some ((p.1,p.2,a)::q)
def yv:List (Nat × Operand)→Option (List (Nat × Opd))
 | []=>some []
 | (i,x)::l=>(bQ x).bind fun a=>(yv l).bind fun q=>some ((i,a)::q)
def Jv (P:Program) (fs:Array Field) (i:Nat):Option (Nat × Nat):=(fs[i]?).bind fun f=>(br P f.type).map fun k=>(f.offset,k)
def O4 (P:Program) (t:TypeId) (ps:List (Nat × Operand)):Option POp:=(iE P t).bind fun z=>match P.underlying t with
 | some (.struct fs)=>if fs.all (fun f=>(br P f.type).isSome) then (yu P (Jv P fs) ps).map fun q=>.build z q else none
 | some (.array _ e)=>(br P e).bind fun k=>(yu P (fun i=>some (i*k,k)) ps).map fun q=>.build z q
 | _=>none
def C8 (P:Program) (t:TypeId) (n:Nat) (ps:List (Nat × Operand)):Option AOp:=(pH P t).bind fun e=>(br P e).bind fun k =>
 if n*k≤16777216∧0 < k then (iE P e).bind fun z=>(yv ps).map fun q=>.buildSl k z n q else none
def Ot (P:Program) (t:TypeId) (l c:Opd):Option AOp:=(pH P t).bind fun e=>(br P e).bind fun k=>(l6 P e).bind fun b =>
 if 0 < k then (iE P e).map fun z=>.mkSl k z b l c else none
def VL (P:Program) (u:TypeId):Bool:=match P.underlying u with
 | some (.int .i64)=>true
 | _=>false
def Ou (P:Program) (t:TypeId) (x y:Operand):Option AOp:=(pH P t).bind fun e=>(br P e).bind fun k=>(l6 P e).bind fun b=>(bQ x).bind fun x=>(bQ y).bind fun y =>
  (iE P e).bind fun z=>if 0 < k∧0 < b then some (.appz k b z x y) else none
def VM (P:Program) (ts:List TypeId) (zas:List Operand):Option AOp:=match ts,zas with
 | [t,u],[x,y]=>if VL P u=true then Ou P t x y else (pH P t).bind fun e=>(pH P u).bind fun _=>(br P e).bind fun k=>(l6 P e).bind fun b=>(bQ x).bind fun x=>(bQ y).bind fun y =>
  if 0 < k∧0 < b∧(iE P e).isSome=true then some (.app k b x y) else none
 | _,_=>none
def Ov (P:Program) (ts:List TypeId) (zas:List Operand):Option AOp:=match ts,zas with
 | [t,_],[x,y]=>(pH P t).bind fun e=>(br P e).bind fun k=>(bQ x).bind fun x=>(bQ y).bind fun y=>if 0 < k then some (.cpy k x y) else none
 | _,_=>none
def G2 (P:Program) (ts:List TypeId) (zas:List Operand):Option AOp:=match ts,zas with
 | [t],[x]=>(pH P t).bind fun e=>(br P e).bind fun k=>(bQ x).bind fun x=>(iE P e).bind fun z=>if 0 < k then some (.clr k z x) else none
 | _,_=>none
def zk (P:Program) (b:Builtin) (ts:List TypeId) (zas:List Operand):Option AOp:=match b,ts,zas with
 | .len,t::_,[x]=>(bQ x).bind fun x=>(aie P t x).map .p
 | .cap,t::_,[x]=>(bQ x).bind fun x=>(aif P t x).map .p
 | .min,_,x::l=>(bQ x).bind fun x=>(lE l).map fun ys=>.p (.mnx true x ys)
 | .max,_,x::l=>(bQ x).bind fun x=>(lE l).map fun ys=>.p (.mnx false x ys)
 | .append,ts,zas=>VM P ts zas
 | .copy,ts,zas=>Ov P ts zas
 | .clear,ts,zas=>G2 P ts zas
 | _,_,_=>none
def Ow (P:Program) (c:Call):Option AOp:=match c.callee with
 | .builtin b=>zk P b c.argTypes.toList c.args.toList
 | .value f=>(bQ f).bind fun f=>(lE c.args.toList).map fun l=>.call f l
 | .invoke _ _=>none
def Bm (P:Program) (op:Op):Option AOp:=match op with
 | .move x | .assign x=>(bQ x).map fun x=>.p (.mv x)
 | .pick c a b=>(bQ c).bind fun c=>(bQ a).bind fun a=>(bQ b).map fun b=>.p (.pick c a b)
 | .alloc t=>(iE P t).map .alloc
 | .box t x=>(br P t).bind fun k=>(bQ x).map fun x=>.box k x
 | .build t ps=>(O4 P t ps.toList).map .p
 | .buildSlice t n ps=>C8 P t n ps.toList
 | .load t x=>(mJ P t).bind fun g=>(br P t).bind fun k=>(bQ x).bind fun x=>if g || k == 1 then some (.load k g x) else none
 | .store t x y=>(br P t).bind fun k=>(bQ x).bind fun x=>(bQ y).map fun y=>.store k x y
 | .nilCheck x=>(bQ x).map fun x=>.p (.nilck x)
 | .binOp op t x y _=>(bQ x).bind fun x=>(bQ y).bind fun y=>(aic P op t x y).map .p
 | .unOp op _ x=>(bQ x).map fun x=>.p (.un op x)
 | .convert s d x=>(bQ x).bind fun x=>(aek P s d x).map .p
 | .makeFunc (.func f) a b=>(lE a.toList).bind fun a=>(lE b.toList).map fun b=>.p (.mkF f a b)
 | .makeSlice t l c=>(bQ l).bind fun l=>(bQ c).bind fun c=>Ot P t l c
 | .slice t x lo hi mx=>(bQ x).bind fun x=>(xe lo).bind fun lo=>(xe hi).bind fun hi=>(xe mx).bind fun mx=>(YD P t x lo hi mx).map .p
 | .fieldAddr t x f=>(bQ x).bind fun x=>(yt P t f).bind fun f=>(br P f.type).bind fun k=>if k=0 then none else some (.p (.fadr f.offset x))
 | .field t x f=>(bQ x).bind fun x=>(yt P t f).bind fun f=>(br P f.type).bind fun k=>(mJ P f.type).map fun g=>.p (.fld f.offset k g x)
 | .indexAddr t x i=>(bQ x).bind fun x=>(bQ i).bind fun i=>(ael P t x i).map .p
 | .index t x i=>(bQ x).bind fun x=>(bQ i).bind fun i=>(aid P t x i).map .p
 | .extract x i=>(bQ x).map fun x=>.p (.ext i x)
 | .call c=>Ow P c
 | _=>none
def cOp (P:Program) (op:Op):Option AOp:=some ((Bm P op).getD .bad)
def O5 (ops:Array Oper):Option (Nat × Bool)→Option (Option (Nat × Bool))
 | none=>some none
 | some (j,b)=>((ops[j]?).bind (·.dst)).map fun d=>some (d,b)
def AOp.gives:AOp→Bool
 | .store _ _ _=>false
 | .call _ _=>false
 | .callC _ _=>false
 | .bad=>false
 | .clr _ _ _=>false
 | _=>true
def O6 (P:Program) (hint:AOp) (op:Op):Option AOp:=match hint,op with
 | .slcM _ _ _ _,.slice t x lo hi none=>(pH P t).bind fun e=>(br P e).bind fun k=>(bQ x).bind fun x=>(xe lo).bind fun lo=>(xe hi).bind fun hi=>if 0 < k then some (.slcM k x lo hi) else none
 | .callC _ _,.call c=>match c.callee with
  | .value f=>(bQ f).bind fun f=>(lE c.args.toList).map fun l=>.callC f l
  | _=>none
 | .take _,.load t x=>(mJ P t).bind fun g=>(bQ x).bind fun x=>if g=true then none else some (.take x)
 | _,_=>none
def abQ (P:Program) (hint:AOp) (op:Op):Option AOp:=match O6 P hint op with
 | some a=>some a
 | none=>cOp P op
def aig:List COp→AOp
 | o::_=>o.op
 | []=>.bad
def Ox (P:Program) (N:Nat) (ops:Array Oper) (hint:AOp) (o:Oper):Option COp:=(O5 ops o.guard).bind fun g=>(abQ P hint o.op).bind fun op =>
 if (!op.gives || o.dst.isSome) && decide (o.dst.getD 0 < N) then some ⟨o.dst,g,op⟩ else none
def l7 (P:Program) (N:Nat) (ops:Array Oper):List COp→List Oper→Option (List COp)
 | _,[]=>some []
 | hs,o::l=>(Ox P N ops (aig hs) o).bind fun a=>(l7 P N ops hs.tail l).bind fun q=>some (a::q)
def lF (o:Oper):List Nat:=(o.after.toList.filter (Region.binds .any)).map (·.on)
def Ul:List Nat→List Nat→List Nat
 | acc,[]=>acc
 | acc,a::l=>match acc.contains a with
  | true=>Ul acc l
  | false=>Ul (a::acc) l
def zo (o:Oper) (acc:List (List Nat)):List Nat:=Ul [] (lF o++(lF o).flatMap fun d=>acc.getD d [])
def jB:List Oper→List (List Nat)→List (List Nat)
 | [],acc=>acc
 | o::l,acc=>jB l (acc++[zo o acc])
def VN (ps:List (Nat × Nat)) (i j:Nat) (a b:COp):Bool:=uH a b && (isP a.op || isP b.op || (O1 a.op && O1 b.op) || ps.contains (i,j))
def VO (g:Nat) (a b:COp):Bool:=match a with
 | ⟨some e,none,.p (.mv (.t n))⟩=>uH a b && (g == 0 || (g != e+1 && g != n+1))
 | _=>false
def C9 (m g:Nat) (ps:List (Nat × Nat)) (i j:Nat) (a b:COp):Bool:=if j < m then VN ps i j a b else decide (i < m) && VO g a b
def aem (ps:List (Nat × Nat)):Nat→Nat→COp→COp→Bool:=match sT ps with
 | some q=>C9 q.1 q.2 ps.tail
 | none=>VN ps
def Da (C:Nat→Nat→COp→COp→Bool) (j:Nat) (b:COp) (bf:List Nat):Nat→List COp→Bool
 | _,[]=>true
 | i,a::l=>(bf.contains i || C i j a b) && Da C j b bf (i+1) l
def zp (C:Nat→Nat→COp→COp→Bool):Nat→List COp→List COp→List (List Nat)→Bool
 | j,done,b::l,bf::bs=>(bf.all fun i=>decide (i < j)) && (Da C j b bf 0 done && zp C (j+1) (done++[b]) l bs)
 | _,_,[],[]=>true
 | _,_,_,_=>false
def O7 (ops:List Oper) (cl:List COp) (ps:List (Nat × Nat)):Bool:=zp (aem ps) 0 [] cl (jB ops [])
def fy (P:Program) (N:Nat):Code→Cmd→Option Cmd
 | .skip,.skip=>some .skip
 | .region _ ops false,.ops ks hs=>(l7 P N ops hs ops.toList).map fun l=>.ops ks l
 | .region _ ops true,.dops ks hs ps=>(l7 P N ops hs ops.toList).bind fun l=>if O7 ops.toList l ps then some (.dops ks l ps) else none
 | .seq a b,.seq c d=>(fy P N a c).bind fun c=>(fy P N b d).map fun d=>.seq c d
 | .cond x a b,.cond _ c d=>(bQ x).bind fun x=>(fy P N a c).bind fun c=>(fy P N b d).map fun d=>.cond x c d
 | .block i a,.block _ ks c=>(fy P N a c).map fun c=>.block i ks c
 | .loop a,.loop ks hs c=>(fy P N a c).map fun c=>.loop ks hs c
 | .exit i,.exit _=>some (.exit i)
 | .refuse _,.ops [] [⟨none,none,.bad⟩]=>some (.ops [] [⟨none,none,.bad⟩])
 | .ret,.ret=>some .ret
 | c,.frz is a=>(fy P N c a).map (.frz is)
 | _,_=>none
def zt (P:Program):List ResultVar→Option (List Rv)
 | []=>some []
 | .tmp t::l=>(zt P l).map fun q=>.t t::q
 | .cell a t::l=>(mJ P t).bind fun g=>(br P t).bind fun k=>if g || k == 1 then (zt P l).map fun q=>.cell a k g::q else none
section
variable {P:Program} {w:World} {A:Nat→Prop} {ρ:bB} {h:ab} {s:ag} {a:Act}
theorem RV.v_inv {x u:Value} (hv:RV w A ρ h (.v x) u):u=x∧nj x=true:=by
 cases hv with | dat hd=>cases hd with | v _ hp=>exact ⟨rfl,hp⟩
theorem RV.emp_inv {u:Value} (hv:RV w A ρ h .emp u):∃ a,u=.slice a 0 0:=by
 cases hv with | dat hd=>cases hd with | emp a=>exact ⟨a,rfl⟩
theorem RV.sl_inv {k:Nat} {rows:List (List AV)} {u:Value} (hv:RV w A ρ h (.sl k rows) u):RD w A (.sl k rows) u:=by
 cases hv with | dat hd=>exact hd
theorem RD.sl_form {k:Nat} {rows:List (List AV)} {u:Value} (hv:RD w A (.sl k rows) u):∃ a cap,u=.slice a rows.length cap∧rows.length≤cap:=by
 cases hv with | sl _ _ a cap _ _ hc=>exact ⟨a,cap,rfl,hc⟩
theorem RV.rsl_inv {id:Nat} {sub:Option Nat} {k lo n:Nat} {u:Value} (hv:RV w A ρ h (.rsl id sub k lo n) u) :
  ∃ a cap,u=.slice a n cap∧bM h id sub∧n≤cap∧(lo+cap)*k=(ρ id sub).2∧(cap=0∨a=some ⟨(ρ id sub).1,lo*k,none⟩):=by
 cases hv with
 | dat hd=>cases hd
 | rsl _ _ _ _ _ cap a hp hn hb ha=>exact ⟨a,cap,rfl,hp,hn,hb,ha⟩
theorem RV.rsc_inv {id k lo n c:Nat} {u:Value} (hv:RV w A ρ h (.rsc id k lo n c) u) :
  ∃ a,u=.slice a n c∧bM h id none∧n≤c∧(lo+c)*k=(ρ id none).2∧(c=0∨a=some ⟨(ρ id none).1,lo*k,none⟩):=by
 cases hv with
 | dat hd=>cases hd
 | rsc _ _ _ _ _ a hp hn hb ha=>exact ⟨a,rfl,hp,hn,hb,ha⟩
theorem RV.ref_inv {id:Nat} {sub:Option Nat} {k i j:Nat} {u:Value} (hv:RV w A ρ h (.ref id sub k i j) u) :
  u=.pointer (some ⟨(ρ id sub).1,i*k+j,none⟩)∧bM h id sub:=by
 cases hv with
 | dat hd=>cases hd
 | ref _ _ _ _ _ hp=>exact ⟨rfl,hp⟩
theorem RV.fn_inv {f:FuncId} {x y:List AV} {u:Value} (hv:RV w A ρ h (.fn f x y) u):∃ us ts:Array Value,u=.func (.func f) us ts∧us.size=x.length∧ts.size=y.length ∧
  (∀ (i:Nat) (c:AV) (u:Value),x[i]?=some c→us[i]?=some u→RV w A ρ h c u)∧(∀ (i:Nat) (c:AV) (u:Value),y[i]?=some c→ts[i]?=some u→RV w A ρ h c u):=by
 cases hv with
 | dat hd=>cases hd with | fn _=>exact ⟨#[],#[],rfl,rfl,rfl,fun i c u hc=>by simp at hc,fun i c u hc=>by simp at hc⟩
 | fn _ _ _ us ts hs ht hx hy=>exact ⟨us,ts,rfl,hs,ht,hx,hy⟩
theorem RV.agg_inv {cs:List AV} {u:Value} (hv:RV w A ρ h (.agg cs) u):∃ us:Array Value,u=.agg us∧us.size=cs.length∧(∀ (i:Nat) (u:Value),us[i]?=some u→u.oneCell'=true) ∧
  (∀ (i:Nat) (c:AV) (u:Value),cs[i]?=some c→us[i]?=some u→RV w A ρ h c u):=by
 cases hv with
 | dat hd=>cases hd with | agg _ us hs h1 hr=>exact ⟨us,rfl,hs,h1,fun i c u hc hu=>.dat (hr i c u hc hu)⟩
 | agg _ us hs h1 hr=>exact ⟨us,rfl,hs,h1,hr⟩
theorem LL {v:Value} {c:AV} (hc:O3 v=some c):RD w A c v:=by
 unfold O3 at hc
 split at hc <;> cases hc
 ·exact .emp none
 all_goals exact .v _ rfl
theorem aU {x:Operand} {y:Opd} (hc:bQ x=some y) (hs:RS w A ρ h s a.tmps):RV w A ρ h (ev s y) (a.eval x):=by
 cases x with
 | tmp t=>simp [bQ] at hc; subst hc; exact hs t
 | const v =>
  simp [bQ] at hc
  obtain ⟨c,h1,rfl⟩:=hc
  exact .dat (LL h1)
 | func f=>simp [bQ] at hc; subst hc; exact .dat (.fn f)
 | global g=>simp [bQ] at hc; subst hc; exact .anyv _
theorem qm (hs:RS w A ρ h s a.tmps):∀ {x:List Operand} {y:List Opd},lE x=some y→y.length=x.length∧∀ (i:Nat) (o:Operand) (p:Opd),x[i]?=some o→y[i]?=some p→RV w A ρ h (ev s p) (a.eval o)
 | [],y,hc=>by simp [lE] at hc; subst hc; exact ⟨rfl,fun i o p h=>by simp at h⟩
 | o::l,y,hc=>by
  simp only [lE,Option.bind_eq_some_iff] at hc
  obtain ⟨p,h1,q,h2,h3⟩:=hc
  cases h3
  obtain ⟨h4,h5⟩:=qm hs h2
  refine ⟨by simp [h4],fun i o' p' ho hp=>?_⟩
  cases i with
  | zero=>simp at ho hp; subst ho hp; exact aU h1 hs
  | succ i=>exact h5 i o' p' (by simpa using ho) (by simpa using hp)
theorem VP {op:BinOp} {t:TypeId} {u v r:Value} (hb:gJ op u v=some r):(binOp op t u v).run P w=.ok r w∧nj r=true:=by
 cases u with
 | int k x =>
  cases v with
  | int k' y =>
   have hk:∀ op,(if k=k' then nf op k x y else none)=some r→op ≠ .shl→op ≠ .shr→(binOp op t (.int k x) (.int k' y)).run P w=.ok r w∧nj r=true:=by
    clear hb
    intro op hq h1 h2
    split at hq
    ·rename_i hk
     subst hk
     cases op <;> simp [nf] at hq h1 h2 <;> (first | subst hq | (obtain ⟨h0,hq⟩:=hq; subst hq)) <;> simp_all [binOp,Op.intArith,Op.intDiv,Op.intBits,Op.intCmp,nj]
    ·cases hq
   cases op <;> first
    | exact hk _ hb (by simp) (by simp)
    | (simp [gJ,abJ,abK] at hb; obtain ⟨h0,hb⟩:=hb; subst hb; simp [binOp,Op.shift,show ¬ y < 0 from by omega,nj])
  | _=>simp [gJ] at hb
 | string x =>
  cases v with
  | string y =>
   cases op <;> simp [gJ,ah5] at hb
   case add=>obtain ⟨h0,hb⟩:=hb; subst hb; simp [binOp,Op.stringOp,nj,h0]
   all_goals subst hb; simp [binOp,Op.stringOp,nj]
  | _=>simp [gJ] at hb
 | _=>simp [gJ] at hb
theorem tU {op:BinOp} {t:TypeId} {x y:Operand} {u v:Value} (hu:u.oneCell'=true) (h2:u=.nilIface→v ≠ .nilIface):(eqGuard op t x y u v).run P w=.ok () w:=by
 unfold eqGuard
 cases op <;> simp
 all_goals (cases u <;> simp [Value.oneCell'] at hu ⊢ <;> cases v <;> simp at h2 ⊢)
abbrev lg (P:Program) (w:World) (A:Nat→Prop) (ρ:bB) (h:ab) (m:Sem Value) (z:AV):Prop:=∃ v,m.run P w=.ok v w∧RV w A ρ h z v
theorem xH {α β:Type} {m:Sem α} {f:α→Sem β} {x:α} {w w':World} (hm:m.run P w=.ok x w'):(m >>= f).run P w=(f x).run P w':=by
 rw [Sem.run_bind,hm]; rfl
theorem VQ {c x y:AV} {u v t:Value} {z:AV} (hc:RV w A ρ h c t) (hx:RV w A ρ h x u) (hy:RV w A ρ h y v) (hz:C0 c x y=some z) :
  lg P w A ρ h (do pure (if ← asBool t then u else v)) z:=by
 unfold C0 at hz
 split at hz
 ·rename_i b
  cases hz
  obtain ⟨rfl,_⟩:=hc.v_inv
  refine ⟨if b then u else v,by simp [asBool],?_⟩
  cases b <;> simpa
 ·cases hz
theorem LM {op:BinOp} {t:TypeId} {xo yo:Operand} {x y z:AV} {u v:Value} (hx:RV w A ρ h x u) (hy:RV w A ρ h y v) (hz:dZ op x y=some z) :
  lg P w A ρ h (do eqGuard op t xo yo u v; binOp op t u v) z:=by
 unfold dZ at hz
 split at hz
 ·rename_i p q
  simp only [Option.map_eq_some_iff] at hz
  obtain ⟨r,hr,rfl⟩:=hz
  obtain ⟨rfl,_⟩:=hx.v_inv
  obtain ⟨rfl,_⟩:=hy.v_inv
  obtain ⟨h1,h2⟩:=VP (P:=P) (w:=w) (t:=t) hr
  refine ⟨r,?_,.dat (.v _ h2)⟩
  rw [xH (tU ?_ ?_),h1]
  ·cases u <;> first | rfl | simp [gJ] at hr
  ·intro e; subst e; simp [gJ] at hr
 ·cases hz
theorem YE {t:TypeId} (ht:P.underlying t=some .bool) (d:Nat) (p q:Bool):(Op.equalIn (d+1) t (.bool p) (.bool q)).run P w=.ok (p == q) w:=by
 simp [Op.equalIn,run_underlying ht]
theorem O8 {t e:TypeId} (ht:P.underlying t=some (.pointer e)) (d:Nat) (p:Option Addr):(Op.equalIn (d+1) t (.pointer p) (.pointer none)).run P w=.ok p.isNone w:=by
 cases p <;> simp [Op.equalIn,run_underlying ht]
theorem afl {t:TypeId} {x y:Array TypeId} {b:Bool} (ht:P.underlying t=some (.func x y b)) (d:Nat) (f:Fn) (p q:Array Value):(Op.equalIn (d+1) t (.func f p q) .nilFunc).run P w=.ok false w:=by
 simp [Op.equalIn,run_underlying ht]
theorem abR {t:TypeId} {x y:Array TypeId} {b:Bool} (ht:P.underlying t=some (.func x y b)) (d:Nat):(Op.equalIn (d+1) t .nilFunc .nilFunc).run P w=.ok true w:=by
 simp [Op.equalIn,run_underlying ht]
theorem Bn {op:BinOp} {n:Bool} {tc:Nat} {t:TypeId} {xo yo:Operand} {x y z:AV} {u v:Value} (hx:RV w A ρ h x u) (hy:RV w A ρ h y v) (hop:Bl op=some n)
  (ht:(tc=0→P.underlying t=some .bool)∧(tc=1→∃ e,P.underlying t=some (.pointer e))∧(tc=2→∃ p q r,P.underlying t=some (.func p q r))) (hz:OO n tc x y=some z) :
  lg P w A ρ h (do eqGuard op t xo yo u v; binOp op t u v) z:=by
 have hop':(op=.eql∧n=false)∨(op=.neq∧n=true):=by cases op <;> simp [Bl] at hop <;> subst hop <;> simp
 have key:∀ (r:Bool),u.oneCell'=true→u ≠ .nilIface→(∀ k q,u ≠ .int k q)→(∀ q,u ≠ .string q)→(∀ k q,u ≠ .float k q)→(∀ k p q,u ≠ .complex k p q)→(Op.equal t u v).run P w=.ok r w→lg P w A ρ h (do eqGuard op t xo yo u v; binOp op t u v) (B (n != r)):=by
  intro r h1 h2 h3 h4 h5 h6 he
  rcases hop' with ⟨rfl,rfl⟩ | ⟨rfl,rfl⟩
  ·refine ⟨.bool r,?_,?_⟩
   ·rw [xH (tU h1 fun e=>absurd e h2)]
    cases u <;> simp at h3 h4 h5 h6 <;> simp [binOp,he]
   ·have:(false != r)=r:=by cases r <;> rfl
    rw [this]; exact .dat (.v _ rfl)
  ·refine ⟨.bool (!r),?_,?_⟩
   ·rw [xH (tU h1 fun e=>absurd e h2)]
    cases u <;> simp at h3 h4 h5 h6 <;> simp [binOp,he]
   ·have:(true != r)=!r:=by cases r <;> rfl
    rw [this]; exact .dat (.v _ rfl)
 unfold OO at hz
 split at hz
 ·split at hz
  ·rename_i p q htc
   cases hz
   obtain ⟨rfl,_⟩:=hx.v_inv
   obtain ⟨rfl,_⟩:=hy.v_inv
   refine key (p == q) rfl (by simp) (by simp) (by simp) (by simp) (by simp) ?_
   exact YE (ht.1 htc) 9999 p q
  ·cases hz
 ·split at hz
  ·rename_i htc
   cases hz
   obtain ⟨rfl,_⟩:=hx.ref_inv
   obtain ⟨rfl,_⟩:=hy.v_inv
   obtain ⟨e,he⟩:=ht.2.1 htc
   have:=key false rfl (by simp) (by simp) (by simp) (by simp) (by simp) (O8 he 9999 _)
   simpa using this
  ·cases hz
 ·split at hz
  ·rename_i htc
   cases hz
   obtain ⟨rfl,_⟩:=hx.v_inv
   obtain ⟨rfl,_⟩:=hy.v_inv
   obtain ⟨e,he⟩:=ht.2.1 htc
   have:=key true rfl (by simp) (by simp) (by simp) (by simp) (by simp) (O8 he 9999 _)
   have e2:(n != true)=!n:=by cases n <;> rfl
   rwa [e2] at this
  ·cases hz
 ·split at hz
  ·rename_i htc
   cases hz
   obtain ⟨us,ts,rfl,_⟩:=hx.fn_inv
   obtain ⟨rfl,_⟩:=hy.v_inv
   obtain ⟨p,q,r,he⟩:=ht.2.2 htc
   have:=key false rfl (by simp) (by simp) (by simp) (by simp) (by simp) (afl he 9999 _ _ _)
   simpa using this
  ·cases hz
 ·split at hz
  ·rename_i htc
   cases hz
   obtain ⟨rfl,_⟩:=hx.v_inv
   obtain ⟨rfl,_⟩:=hy.v_inv
   obtain ⟨p,q,r,he⟩:=ht.2.2 htc
   have:=key true rfl (by simp) (by simp) (by simp) (by simp) (by simp) (abR he 9999)
   have e2:(n != true)=!n:=by cases n <;> rfl
   rwa [e2] at this
  ·cases hz
 ·cases hz
theorem abS {op:UnOp} {x z:AV} {u:Value} (hx:RV w A ρ h x u) (hz:OP op x=some z):lg P w A ρ h (Op.unary op u) z:=by
 unfold OP at hz
 split at hz
 ·obtain ⟨rfl,_⟩:=hx.v_inv
  cases op <;> simp only [Option.some.injEq] at hz <;> try (cases hz; done)
  ·subst hz
   exact ⟨_,by simp [Op.unary,Op.intArith],.dat (.v _ rfl)⟩
  ·subst hz
   exact ⟨_,by simp [Op.unary,Op.intBits],.dat (.v _ rfl)⟩
 ·obtain ⟨rfl,_⟩:=hx.v_inv
  cases op <;> simp at hz
  subst hz
  exact ⟨_,by simp [Op.unary],.dat (.v _ rfl)⟩
 ·cases hz
theorem abT {src dst:TypeId} {k:IntKind} {x z:AV} {u:Value} (hx:RV w A ρ h x u) (hs:(P.underlying src).isSome=true) (hd:P.underlying dst=some (.int k)) (hz:YB k x=some z) :
  lg P w A ρ h (convert src dst u) z:=by
 unfold YB at hz
 split at hz
 ·obtain ⟨rfl,_⟩:=hx.v_inv
  cases hz
  obtain ⟨d,hd'⟩:=Option.isSome_iff_exists.1 hs
  exact ⟨_,by simp [convert,run_underlying hd',run_underlying hd,Conv.intToInt],.dat (.v _ rfl)⟩
 ·cases hz
theorem YF {src dst:TypeId} {x z:AV} {u:Value} (hx:RV w A ρ h x u) (hs:P.underlying src=some .string) (hd:P.underlying dst=some .string) (hz:VG x=some z) :
  lg P w A ρ h (convert src dst u) z:=by
 unfold VG at hz
 split at hz
 ·obtain ⟨rfl,_⟩:=hx.v_inv
  cases hz
  exact ⟨_,by simp [convert,run_underlying hs,run_underlying hd],.dat (.v _ rfl)⟩
 ·cases hz
end
section
variable {P:Program} {w:World} {A:Nat→Prop} {ρ:bB} {h:ab} {s:ag} {a:Act}
inductive RVo (w:World) (A:Nat→Prop) (ρ:bB) (h:ab):Option AV→Option Value→Prop
 | none:RVo w A ρ h none none
 | some {x:AV} {u:Value} (hv:RV w A ρ h x u):RVo w A ρ h (some x) (some u)
theorem lh {x:Option Operand} {y:Option Opd} (hc:xe x=some y) (hs:RS w A ρ h s a.tmps):RVo w A ρ h (evo s y) (x.map a.eval):=by
 cases x with
 | none=>simp [xe] at hc; subst hc; exact .none
 | some x =>
  simp only [xe,Option.map_eq_some_iff] at hc
  obtain ⟨p,h1,rfl⟩:=hc
  exact .some (aU h1 hs)
theorem tj {d n:Nat} {x:AV} {u:Value} {r:Nat} (hx:RV w A ρ h x u) (hb:iW d n (some x)=some r) (y:Nat) (hy:n≤y) (code:BoundsCode) :
  (Instr.sliceBound u y code).run P w=.ok r w∧r≤n:=by
 cases x with
 | v x =>
  obtain ⟨rfl,_⟩:=hx.v_inv
  cases u with
  | int k i =>
   simp only [iW] at hb
   split at hb
   ·rename_i hi
    cases hb
    exact ⟨run_sliceBound w k i y code hi.1 (by omega),by omega⟩
   ·cases hb
  | _=>simp [iW] at hb
 | _=>simp [iW] at hb
theorem nW {n cap:Nat} (isS:Bool) {lo hi mx:Option AV} {lo' hi' mx':Option Value} (hl:RVo w A ρ h lo lo') (hh:RVo w A ρ h hi hi') (hm:RVo w A ρ h mx mx') {l r:Nat}
  (hb:jA n lo hi mx=some (l,r)) (hc:n≤cap):∃ m,(Instr.sliceBounds isS n cap lo' hi' mx').run P w=.ok (l,r,m) w∧l≤r∧r≤n∧r≤m∧m≤cap∧(mx=none→m=cap)∧(Bd mx=true→m=0):=by
 have low:∀ (r:Nat),(iW 0 r lo).bind (fun x=>some (x,r))=some (l,r)→∀ (code:BoundsCode),((match lo' with | some v=>Instr.sliceBound v r code | none=>pure 0:Sem Nat)).run P w=.ok l w∧l≤r:=by
  intro r hb code
  cases hl with
  | none=>simp [iW] at hb; subst hb; exact ⟨rfl,Nat.zero_le _⟩
  | some hv =>
   simp only [Option.bind_eq_some_iff] at hb
   obtain ⟨x,h1,h2⟩:=hb
   cases h2
   exact tj hv h1 r (Nat.le_refl _) code
 cases hm with
 | none =>
  simp only [jA,Option.bind_eq_some_iff] at hb
  obtain ⟨q,h1,x,h2,h3⟩:=hb
  have hq:q=r:=by cases h3; rfl
  subst hq
  have h4:=low q (by simp only [Option.bind_eq_some_iff]; exact ⟨x,h2,h3⟩)
  cases hh with
  | none =>
   simp [iW] at h1
   subst h1
   refine ⟨cap,?_,(h4 .sliceB).2,Nat.le_refl _,hc,Nat.le_refl _,fun _=>rfl,fun e=>by simp [Bd] at e⟩
   have h5:=(h4 .sliceB).1
   cases lo' <;> simp_all [Instr.sliceBounds]
  | some hv =>
   have h6:∀ code,_:=fun code=>tj (P:=P) hv h1 cap hc code
   refine ⟨cap,?_,(h4 .sliceB).2,(h6 .sliceB).2,Nat.le_trans (h6 .sliceB).2 hc,Nat.le_refl _,fun _=>rfl,fun e=>by simp [Bd] at e⟩
   have h5:=(h4 .sliceB).1
   have h7:=(h6 (if isS then .sliceAcap else .sliceAlen)).1
   cases lo' <;> simp_all [Instr.sliceBounds]
 | some hm =>
  rename_i xm um
  simp only [jA,Option.bind_eq_some_iff] at hb
  obtain ⟨m,h0,hb⟩:=hb
  cases hh with
  | none=>simp at hb
  | some hv =>
   simp only [Option.bind_eq_some_iff] at hb
   obtain ⟨q,h1,x,h2,h3⟩:=hb
   have hq:q=r:=by cases h3; rfl
   subst hq
   have h4:=low q (by simp only [Option.bind_eq_some_iff]; exact ⟨x,h2,h3⟩)
   have h6:∀ code,_:=fun code=>tj (P:=P) hv h1 m (Nat.le_refl _) code
   have h8:∀ code,_:=fun code=>tj (P:=P) hm h0 cap hc code
   refine ⟨m,?_,(h4 .slice3C).2,Nat.le_trans (h6 .slice3B).2 (h8 .slice3B).2,(h6 .slice3B).2,Nat.le_trans (h8 .slice3B).2 hc,fun e=>by simp at e,fun e=>?_⟩
   ·have h5:=(h4 .slice3C).1
    have h7:=(h6 .slice3B).1
    have h9:=(h8 (if isS then .slice3Acap else .slice3Alen)).1
    cases lo' <;> simp_all [Instr.sliceBounds]
   ·cases xm with
    | v x =>
     cases x with
     | int k i =>
      have:i=0:=by
       unfold Bd at e
       split at e
       ·rename_i e2; cases e2; rfl
       ·cases e
      subst this
      simp [iW] at h0
      exact h0.symm
     | _=>simp [Bd] at e
    | _=>simp [Bd] at e
theorem YG {t e:TypeId} {k:Nat} (ht:P.underlying t=some (.slice e)) (hk:br P e=some k) {x z:AV} {u:Value} {lo hi mx:Option AV} {lo' hi' mx':Option Value}
  (hx:RV w A ρ h x u) (hl:RVo w A ρ h lo lo') (hh:RVo w A ρ h hi hi') (hm:RVo w A ρ h mx mx') (hz:eO k x lo hi mx=some z) :
  lg P w A ρ h (Instr.sliceAt t u lo' hi' mx') z:=by
 have hsz:∀ w,(sizeOf e).run P w=.ok k w:=by
  intro w
  simp only [br,Option.map_eq_some_iff] at hk
  obtain ⟨i,h1,h2⟩:=hk
  simp [sizeOf,typeInfo,h1,h2]
 have run:∀ (a:Option Addr) (n cap l r m:Nat),(Instr.sliceBounds true n cap lo' hi' mx').run P w=.ok (l,r,m) w →
   (Instr.sliceAt t (.slice a n cap) lo' hi' mx').run P w=.ok (.slice (if m=l then a else a.map (·.add (l*k))) (r - l) (m - l)) w:=by
  intro a n cap l r m hb
  simp [Instr.sliceAt,Instr.slice,run_underlying ht,hb,hsz]
 cases x with
 | emp =>
  obtain ⟨a,rfl⟩:=hx.emp_inv
  simp only [eO,Option.map_eq_some_iff] at hz
  obtain ⟨⟨l,r⟩,h1,rfl⟩:=hz
  obtain ⟨m,h2,h3,h4,h5,h6,_⟩:=nW (P:=P) true hl hh hm h1 (Nat.le_refl 0)
  refine ⟨_,run _ _ _ _ _ _ h2,?_⟩
  have:l=0:=by omega
  have:r=0:=by omega
  have:m=0:=by omega
  subst_vars
  exact .dat (.emp _)
 | sl k' rows =>
  obtain ⟨a,cap,rfl,hcap⟩:=hx.sl_inv.sl_form
  simp only [eO] at hz
  split at hz
  ·rename_i hkk
   subst hkk
   simp only [Option.map_eq_some_iff] at hz
   obtain ⟨⟨l,r⟩,h1,rfl⟩:=hz
   obtain ⟨m,h2,h3,h4,h5,h6,h7,h8⟩:=nW (P:=P) true hl hh hm h1 hcap
   refine ⟨_,run _ _ _ _ _ _ h2,?_⟩
   split
   ·rename_i hZ
    have:m=0:=h8 hZ
    have:l=0:=by omega
    have:r=0:=by omega
    subst_vars
    exact .dat (.emp _)
   ·have hd:=hx.sl_inv
    cases hd with
    | sl _ _ _ _ ad vals hc ha hk' hv hdl hr =>
     have hlen:((rows.drop l).take (r - l)).length=r - l:=by simp; omega
     have key:RD w A (.sl k' ((rows.drop l).take (r - l))) (.slice (if m=l then a else a.map (·.add (l*k'))) ((rows.drop l).take (r - l)).length (m - l)):=by
      have at_:∀ (i:Nat) (row:List AV),((rows.drop l).take (r - l))[i]?=some row→rows[l+i]?=some row:=by
       intro i row hi
       rw [List.getElem?_take] at hi
       split at hi
       ·rwa [List.getElem?_drop] at hi
       ·cases hi
      refine .sl k' _ _ _ (ad.add (l*k')) (fun i j=>vals (l+i) j) (by rw [hlen]; omega) (fun hne=>?_) (fun row hrow=>hk' row (List.mem_of_mem_drop (List.mem_of_mem_take hrow))) (fun i row j c h1 h2=>?_) (fun row hrow=>hdl row (List.mem_of_mem_drop (List.mem_of_mem_take hrow))) (fun i row j c h1 h2=>hr _ _ _ _ (at_ i row h1) h2)
      ·have hlr:l < r:=by
        rcases Nat.lt_or_ge l r with hlt | hge
        ·exact hlt
        ·exact absurd (List.eq_nil_of_length_eq_zero (by rw [hlen]; omega)) hne
       have hr0:rows ≠ []:=by intro e; subst e; simp at h4; omega
       obtain ⟨ha1,ha2,ha3⟩:=ha hr0
       refine ⟨?_,by rw [jK]; exact ha2,ER _ ha3⟩
       rw [if_neg (by omega),ha1]; rfl
      ·rw [vQ,← Nat.add_assoc,← Nat.add_mul]
       exact hv _ _ _ _ (at_ i row h1) h2
     rw [hlen] at key
     exact .dat key
  ·cases hz
 | rsl id sub k' l0 n =>
  obtain ⟨a,cap,rfl,hp,hn,hb,ha⟩:=hx.rsl_inv
  simp only [eO] at hz
  split at hz
  ·rename_i hkk
   subst hkk
   simp only [Option.map_eq_some_iff] at hz
   obtain ⟨⟨l,r⟩,h1,rfl⟩:=hz
   obtain ⟨m,h2,h3,h4,h5,h6,h7,h8⟩:=nW (P:=P) true hl hh hm h1 hn
   cases hmx:mx with
   | some mv =>
    show lg P w A ρ h (Instr.sliceAt t (.slice a n cap) lo' hi' mx') .any
    exact ⟨_,run _ _ _ _ _ _ h2,.anyv _⟩
   | none =>
   show lg P w A ρ h (Instr.sliceAt t (.slice a n cap) lo' hi' mx') (.rsl id sub k' (l0+l) (r - l))
   have hmc:m=cap:=h7 hmx
   refine ⟨_,run _ _ _ _ _ _ h2,.rsl _ _ _ _ _ _ _ hp (by omega) (by rw [← hb]; congr 1; omega) ?_⟩
   rcases ha with h0 | h0
   ·exact .inl (by omega)
   ·by_cases hml:m=l
    ·exact .inl (by omega)
    ·refine .inr ?_
     rw [if_neg hml,h0]
     simp only [Option.map_some,jL]
     rw [← Nat.add_mul]
  ·cases hz
 | rsc id k' l0 n c =>
  obtain ⟨a,rfl,hp,hn,hb,ha⟩:=hx.rsc_inv
  simp only [eO] at hz
  split at hz
  ·rename_i hkk
   subst hkk
   unfold OQ at hz
   split at hz
   ·rename_i hi
    cases hm
    cases hl
    simp only [Option.map_eq_some_iff] at hz
    obtain ⟨r,h1,rfl⟩:=hz
    cases hh with
    | @some _ uh hv =>
    have h6:=fun code=>tj (P:=P) hv h1 c (Nat.le_refl _) code
    have hbd:(Instr.sliceBounds true n c none (some uh) none).run P w=.ok (0,r,c) w:=by
     have h7:=(h6 .sliceAcap).1
     simp_all [Instr.sliceBounds]
    refine ⟨_,run _ _ _ _ _ _ hbd,.rsc _ _ _ _ _ _ hp (by have:=(h6 .sliceAcap).2; omega) hb ?_⟩
    rcases ha with h0 | h0
    ·exact .inl h0
    ·by_cases h9:c=0
     ·exact .inl h9
     ·refine .inr ?_
      rw [if_neg h9,h0]
      simp [jL]
   ·simp only [Option.map_eq_some_iff] at hz
    obtain ⟨⟨l,r⟩,h1,rfl⟩:=hz
    cases hm
    obtain ⟨m,h2,h3,h4,h5,h6,h7,h8⟩:=nW (P:=P) true hl hh .none h1 hn
    have hmc:m=c:=h7 rfl
    refine ⟨_,run _ _ _ _ _ _ h2,.rsl _ _ _ _ _ _ _ hp (by omega) (by rw [← hb]; congr 1; omega) ?_⟩
    rcases ha with h0 | h0
    ·exact .inl (by omega)
    ·by_cases hml:m=l
     ·exact .inl (by omega)
     ·refine .inr ?_
      rw [if_neg hml,h0]
      simp only [Option.map_some,jL]
      rw [← Nat.add_mul]
   ·cases hz
  ·cases hz
 | _=>simp [eO] at hz
theorem VR {t:TypeId} (ht:P.underlying t=some .string) {x z:AV} {u:Value} {lo hi:Option AV} {lo' hi':Option Value}
  (hx:RV w A ρ h x u) (hl:RVo w A ρ h lo lo') (hh:RVo w A ρ h hi hi') (hz:On x lo hi=some z):lg P w A ρ h (Instr.sliceAt t u lo' hi' none) z:=by
 unfold On at hz
 split at hz
 ·obtain ⟨rfl,_⟩:=hx.v_inv
  simp only [Option.map_eq_some_iff] at hz
  obtain ⟨⟨l,r⟩,h1,rfl⟩:=hz
  obtain ⟨m,h2,_⟩:=nW (P:=P) (mx:=none) (mx':=none) false hl hh .none h1 (Nat.le_refl _)
  exact ⟨_,by simp [Instr.sliceAt,Instr.slice,run_underlying ht,h2],.dat (.v _ rfl)⟩
 ·cases hz
end
section
variable {P:Program} {w:World} {A:Nat→Prop} {ρ:bB} {h:ab} {s:ag} {a:Act}
theorem ez {e:TypeId} {k:Nat} (hk:br P e=some k) (w:World):(sizeOf e).run P w=.ok k w:=by
 simp only [br,Option.map_eq_some_iff] at hk
 obtain ⟨i,h1,h2⟩:=hk
 simp [sizeOf,typeInfo,h1,h2]
theorem Db {e:TypeId} {g:Bool} (hg:mJ P e=some g) (w:World):(isAgg e).run P w=.ok g w:=by
 unfold mJ at hg
 split at hg
 ·rename_i fs h1; cases hg; simp [isAgg,run_underlying h1]
 ·rename_i n e' h1; cases hg; simp [isAgg,run_underlying h1]
 ·rename_i d h1 h2 h3
  cases hg
  simp only [isAgg,Sem.run_bind,run_underlying h3,Result.andThen]
  rfl
 ·cases hg
theorem Ef {t:TypeId} {f:Nat} {fd:Field} (hf:yt P t f=some fd):∃ fs,P.underlying t=some (.struct fs)∧fs[f]?=some fd:=by
 unfold yt at hf
 split at hf
 ·exact ⟨_,by assumption,hf⟩
 ·cases hf
theorem RV.ipt_drop {cs:List AV} {u:Value} (n:Nat) (hx:RV w A ρ h (.ipt cs) u):∃ ad,u=.pointer (some ad)∧RV w A ρ h (.ipt (cs.drop n)) (.pointer (some (ad.add n))):=by
 cases hx with
 | dat hd=>cases hd
 | ipt _ ad vals hA hs hv hl hr =>
  refine ⟨ad,rfl,.ipt _ _ (fun j=>vals (n+j)) (by rw [jK]; exact hA) (ER _ hs) (fun j c hc=>?_) (fun c hc=>hl c (List.mem_of_mem_drop hc)) (fun j c hc=>?_)⟩
  ·rw [vQ]; exact hv _ _ (by rwa [List.getElem?_drop] at hc)
  ·exact hr _ _ (by rwa [List.getElem?_drop] at hc)
theorem VS {t:TypeId} {f:Nat} {fd:Field} {k:Nat} (hf:yt P t f=some fd) (hk:br P fd.type=some k) (hk0:k ≠ 0) {x z:AV} {u:Value} (hx:RV w A ρ h x u) (hz:sO fd.offset x=some z) :
  lg P w A ρ h (Instr.fieldAt t u f) z:=by
 obtain ⟨fs,h1,h2⟩:=Ef hf
 have run:∀ ad,(Instr.fieldAt t (.pointer (some ad)) f).run P w=.ok (.pointer (some (ad.add fd.offset))) w:=by
  intro ad
  simp [Instr.fieldAt,run_underlying h1,h2,Instr.sureAddr,fieldPlace,ez hk,hk0]
 cases x with
 | ref id sub k i j =>
  obtain ⟨rfl,hp⟩:=hx.ref_inv
  simp [sO] at hz
  subst hz
  refine ⟨_,run _,?_⟩
  rw [jL,Nat.add_assoc]
  exact .ref _ _ _ _ _ hp
 | ipt cs =>
  simp [sO] at hz
  subst hz
  obtain ⟨ad,rfl,h3⟩:=hx.ipt_drop fd.offset
  exact ⟨_,run _,h3⟩
 | _=>simp [sO] at hz
theorem G3 {e:TypeId} {k off:Nat} {g:Bool} (hk:br P e=some k) (hg:mJ P e=some g) {cs:List AV} {us:Array Value} {z:AV} (hs:us.size=cs.length)
  (h1:∀ (i:Nat) (u:Value),us[i]?=some u→u.oneCell'=true) (hr:∀ (i:Nat) (c:AV) (u:Value),cs[i]?=some c→us[i]?=some u→RV w A ρ h c u) (hz:iu k g cs off=some z) :
  lg P w A ρ h (part e us off) z:=by
 unfold iu at hz
 cases g with
 | true =>
  simp only [if_true] at hz
  split at hz
  ·rename_i hle
   cases hz
   refine ⟨.agg (us.extract off (off+k)),by simp [part,Db hg,ez hk],.agg _ _ ?_ (fun i u hu=>?_) (fun i c u hc hu=>?_)⟩
   ·simp; omega
   ·rw [Array.getElem?_extract] at hu
    split at hu
    ·exact h1 _ _ hu
    ·cases hu
   ·rw [Array.getElem?_extract] at hu
    split at hu
    ·rw [List.getElem?_take] at hc
     split at hc
     ·rw [List.getElem?_drop] at hc
      exact hr _ _ _ hc hu
     ·cases hc
    ·cases hu
  ·cases hz
 | false =>
  simp at hz
  have hlt:off < us.size:=by rw [hs]; exact (List.getElem?_eq_some_iff.1 hz).1
  obtain ⟨u,hu⟩:∃ u,us[off]?=some u:=⟨us[off],Array.getElem?_eq_getElem hlt⟩
  exact ⟨u,by simp [part,Db hg,hu],hr _ _ _ hz hu⟩
theorem YH {t:TypeId} {f:Nat} {fd:Field} {k:Nat} {g:Bool} (hf:yt P t f=some fd) (hk:br P fd.type=some k) (hg:mJ P fd.type=some g) {x z:AV} {u:Value} (hx:RV w A ρ h x u) (hz:OR fd.offset k g x=some z) :
  lg P w A ρ h (Instr.field t u f) z:=by
 obtain ⟨fs,h1,h2⟩:=Ef hf
 unfold OR at hz
 split at hz
 ·obtain ⟨us,rfl,hs,h3,hr⟩:=hx.agg_inv
  obtain ⟨v,h4,h5⟩:=G3 hk hg hs h3 hr hz
  exact ⟨v,by simp [Instr.field,run_underlying h1,h2,asAgg,h4],h5⟩
 ·cases hz
theorem S6 {t e:TypeId} {k:Nat} (ht:P.underlying t=some (.slice e)) (hk:br P e=some k) {x i z:AV} {u v:Value} (hx:RV w A ρ h x u) (hi:RV w A ρ h i v) (hz:po k x i=some z) :
  lg P w A ρ h (Instr.indexAt t u v) z:=by
 have he:P.elem t=e:=by simp [Program.elem,ht]
 unfold po at hz
 split at hz
 ·split at hz
  ·rename_i k' rows kk q hkk
   subst hkk
   obtain ⟨rfl,_⟩:=hi.v_inv
   unfold bu at hz
   split at hz
   ·rename_i hq
    simp only [Option.map_eq_some_iff] at hz
    obtain ⟨row,h1,rfl⟩:=hz
    have hlt:=(List.getElem?_eq_some_iff.1 h1).1
    have hne:rows ≠ []:=by intro e; subst e; simp at hlt
    have hd:=hx.sl_inv
    cases hd with
    | sl _ _ a cap ad vals hc ha hk' hv hdl hr =>
     obtain ⟨rfl,hA,hsp⟩:=ha hne
     refine ⟨_,?_,.ipt row (ad.add (q.toNat*k')) (vals q.toNat) (by rw [jK]; exact hA) (ER _ hsp) (fun j c hc=>by rw [vQ]; exact hv _ _ _ _ h1 hc) (hdl row (List.mem_of_getElem? h1)) (fun j c hc=>hr _ _ _ _ h1 hc)⟩
     rw [run_indexAt_slice w t ad rows.length cap kk q (by rw [he]; exact ht),if_pos ⟨hq,by omega⟩,he,ez hk]
     rfl
   ·cases hz
  ·cases hz
 ·split at hz
  ·rename_i id sub k' lo n kk q hkk
   subst hkk
   split at hz
   ·rename_i hq
    cases hz
    obtain ⟨rfl,_⟩:=hi.v_inv
    obtain ⟨a,cap,rfl,hp,hn,hb,ha⟩:=hx.rsl_inv
    have ha:a=some ⟨(ρ id sub).1,lo*k',none⟩:=by
     rcases ha with h0 | h0
     ·omega
     ·exact h0
    subst ha
    refine ⟨_,?_,.ref id sub k' (lo+q.toNat) 0 hp⟩
    rw [run_indexAt_slice w t _ n cap kk q (by rw [he]; exact ht),if_pos hq,he,ez hk]
    simp only [Result.andThen,jL]
    rw [Nat.add_zero,Nat.add_mul]
   ·cases hz
  ·cases hz
 ·cases hz
theorem S7 {t e:TypeId} {n k:Nat} (ht:P.underlying t=some (.array n e)) (hk:br P e=some k) {x i z:AV} {u v:Value} (hx:RV w A ρ h x u) (hi:RV w A ρ h i v) (hz:yr n k x i=some z) :
  lg P w A ρ h (Instr.indexAt t u v) z:=by
 have he:P.elem t=e:=by simp [Program.elem,ht]
 have hn:P.arrayLen t=n:=by simp [Program.arrayLen,ht]
 have run:∀ ad kk (q:Int),0≤q∧q < n→(Instr.indexAt t (.pointer (some ad)) (.int kk q)).run P w=.ok (.pointer (some (ad.add (q.toNat*k)))) w:=by
  intro ad kk q hq
  rw [run_indexAt_array w t ad kk q (by rw [he,hn]; exact ht),hn,if_pos hq,he,ez hk]
  rfl
 unfold yr at hz
 split at hz
 ·split at hz
  ·cases hz
   obtain ⟨rfl,_⟩:=hi.v_inv
   obtain ⟨rfl,hp⟩:=hx.ref_inv
   refine ⟨_,run _ _ _ (by assumption),?_⟩
   rw [jL,Nat.add_assoc]
   exact .ref _ _ _ _ _ hp
  ·cases hz
 ·split at hz
  ·rename_i cs kk q hq
   cases hz
   obtain ⟨rfl,_⟩:=hi.v_inv
   obtain ⟨ad,rfl,h3⟩:=hx.ipt_drop (q.toNat*k)
   exact ⟨_,run _ _ _ hq,h3⟩
  ·cases hz
 ·cases hz
theorem VU {t:TypeId} (ht:P.underlying t=some .string) {x i z:AV} {u v:Value} (hx:RV w A ρ h x u) (hi:RV w A ρ h i v) (hz:C2 x i=some z):lg P w A ρ h (Instr.index t u v) z:=by
 unfold C2 at hz
 split at hz
 ·obtain ⟨rfl,_⟩:=hi.v_inv
  obtain ⟨rfl,_⟩:=hx.v_inv
  split at hz
  ·simp only [Option.map_eq_some_iff] at hz
   obtain ⟨b,h1,rfl⟩:=hz
   rename_i hq
   exact ⟨_,by simp [Instr.index,asIntOf,run_underlying ht,hq,h1],.dat (.v _ rfl)⟩
  ·cases hz
 ·cases hz
theorem VV {t e:TypeId} {n k:Nat} {g:Bool} (ht:P.underlying t=some (.array n e)) (hk:br P e=some k) (hg:mJ P e=some g) {x i z:AV} {u v:Value} (hx:RV w A ρ h x u) (hi:RV w A ρ h i v) (hz:C3 n k g x i=some z) :
  lg P w A ρ h (Instr.index t u v) z:=by
 unfold C3 at hz
 split at hz
 ·split at hz
  ·rename_i hq
   obtain ⟨rfl,_⟩:=hi.v_inv
   obtain ⟨us,rfl,hs,h3,hr⟩:=hx.agg_inv
   obtain ⟨v,h4,h5⟩:=G3 hk hg hs h3 hr hz
   exact ⟨v,by simp [Instr.index,asIntOf,run_underlying ht,hq,ez hk,h4],h5⟩
  ·cases hz
 ·cases hz
theorem YI {i:Nat} {x z:AV} {u:Value} (hx:RV w A ρ h x u) (hz:OS i x=some z):lg P w A ρ h (Instr.extract u i) z:=by
 unfold OS at hz
 split at hz
 ·cases hx with
  | dat hd=>cases hd
  | tup vs us hs hr =>
   have hlt:i < us.size:=by rw [hs]; exact (List.getElem?_eq_some_iff.1 hz).1
   obtain ⟨u,hu⟩:∃ u,us[i]?=some u:=⟨us[i],Array.getElem?_eq_getElem hlt⟩
   exact ⟨u,by simp [Instr.extract,hu],hr _ _ _ hz hu⟩
 ·cases hz
theorem VW {t ty e:TypeId} {ts:Array TypeId} (h0:ts[0]?=some t) (ht:P.underlying t=some (.slice e)) {x z:AV} {u:Value} (hx:RV w A ρ h x u) (hz:ky false x=some z):lg P w A ρ h (Builtin.len_ ts ty #[u]) z:=by
 have run:∀ a n c,(Builtin.len_ ts ty #[.slice a n c]).run P w=.ok (goInt n) w:=by
  intro a n c
  simp [Builtin.len_,h0,run_underlying ht]
 cases x with
 | emp=>obtain ⟨a,rfl⟩:=hx.emp_inv; simp [ky] at hz; subst hz; exact ⟨_,run _ _ _,.dat (.v _ rfl)⟩
 | sl k rows=>obtain ⟨a,cap,rfl,_⟩:=hx.sl_inv.sl_form; simp [ky] at hz; subst hz; exact ⟨_,run _ _ _,.dat (.v _ rfl)⟩
 | rsl=>obtain ⟨a,cap,rfl,_⟩:=hx.rsl_inv; simp [ky] at hz; subst hz; exact ⟨_,run _ _ _,.dat (.v _ rfl)⟩
 | rsc=>obtain ⟨a,rfl,_⟩:=hx.rsc_inv; simp [ky] at hz; subst hz; exact ⟨_,run _ _ _,.dat (.v _ rfl)⟩
 | v x=>cases x <;> simp [ky] at hz
 | _=>simp [ky] at hz
theorem VX {t ty:TypeId} {ts:Array TypeId} (h0:ts[0]?=some t) (ht:P.underlying t=some .string) {x z:AV} {u:Value} (hx:RV w A ρ h x u) (hz:ky true x=some z):lg P w A ρ h (Builtin.len_ ts ty #[u]) z:=by
 cases x with
 | v x =>
  cases x with
  | string b =>
   obtain ⟨rfl,_⟩:=hx.v_inv
   simp [ky] at hz
   subst hz
   exact ⟨_,by simp [Builtin.len_,h0,run_underlying ht]; rfl,.dat (.v _ rfl)⟩
  | _=>simp [ky] at hz
 | _=>simp [ky] at hz
theorem YJ {t ty e:TypeId} {ts:Array TypeId} (h0:ts[0]?=some t) (ht:P.underlying t=some (.slice e)) {x z:AV} {u:Value} (hx:RV w A ρ h x u) (hz:OT x=some z):lg P w A ρ h (Builtin.cap_ ts ty #[u]) z:=by
 unfold OT at hz
 split at hz
 ·obtain ⟨a,rfl⟩:=hx.emp_inv
  cases hz
  exact ⟨_,by simp [Builtin.cap_,h0,run_underlying ht]; rfl,.dat (.v _ rfl)⟩
 ·obtain ⟨a,rfl,_⟩:=hx.rsc_inv
  cases hz
  exact ⟨_,by simp [Builtin.cap_,h0,run_underlying ht]; rfl,.dat (.v _ rfl)⟩
 ·cases hz
theorem VY {m:Bool} {x y z:AV} {u v:Value} (hx:RV w A ρ h x u) (hy:RV w A ρ h y v) (hz:Jl m x y=some z) :
  ∃ r,(if m then Builtin.min2 u v else Builtin.max2 u v)=pure r∧RV w A ρ h z r:=by
 unfold Jl at hz
 split at hz
 ·obtain ⟨rfl,_⟩:=hx.v_inv
  obtain ⟨rfl,_⟩:=hy.v_inv
  cases hz
  cases m
  ·exact ⟨_,by simp only [Bool.false_eq_true,if_false,Builtin.max2],.dat (.v _ rfl)⟩
  ·exact ⟨_,by simp only [if_true,Builtin.min2],.dat (.v _ rfl)⟩
 ·cases hz
theorem G4 {m:Bool}:∀ {ys:List AV} {vs:List Value} {x z:AV} {u:Value},RV w A ρ h x u→vs.length=ys.length→(∀ (i:Nat) (c:AV) (u:Value),ys[i]?=some c→vs[i]?=some u→RV w A ρ h c u)→xE m x ys=some z →
  ∃ r,(vs.foldlM (fun a b=>if m then Builtin.min2 a b else Builtin.max2 a b) u).run P w=.ok r w∧RV w A ρ h z r
 | [],[],x,z,u,hx,_,_,hz=>by
  simp only [xE,Option.some.injEq] at hz
  subst hz
  exact ⟨u,rfl,hx⟩
 | [],v::vs,x,z,u,_,hl,_,_=>by simp at hl
 | y::ys,[],x,z,u,_,hl,_,_=>by simp at hl
 | y::ys,v::vs,x,z,u,hx,hl,hv,hz=>by
  simp only [xE,Option.bind_eq_some_iff] at hz
  obtain ⟨c,e1,e2⟩:=hz
  obtain ⟨r,h1,h2⟩:=VY hx (hv 0 y v rfl rfl) e1
  obtain ⟨r',h3,h4⟩:=G4 h2 (by simpa using hl) (fun i c u h5 h6=>hv (i+1) c u (by simpa using h5) (by simpa using h6)) e2
  refine ⟨r',?_,h4⟩
  rw [List.foldlM_cons,h1]
  exact h3
theorem LN {m:Bool} {ts:Array TypeId} {ty:TypeId} {x z:AV} {ys:List AV} {u:Value} {vs:List Value} {args:Array Value} (ha:args.toList=u::vs) (hx:RV w A ρ h x u) (hl:vs.length=ys.length) (hy:∀ (i:Nat) (c:AV) (u:Value),ys[i]?=some c→vs[i]?=some u→RV w A ρ h c u) (hz:xE m x ys=some z) :
  lg P w A ρ h (if m then Builtin.min_ ts ty args else Builtin.max_ ts ty args) z:=by
 obtain ⟨r,h1,h2⟩:=G4 (P:=P) hx hl hy hz
 refine ⟨r,?_,h2⟩
 cases m
 ·simp only [Bool.false_eq_true,if_false] at h1 ⊢
  simp only [Builtin.max_,ha]
  exact h1
 ·simp only [if_true] at h1 ⊢
  simp only [Builtin.min_,ha]
  exact h1
theorem tV (j:Nat):∀ (cs row:List AV),(setRow row j cs).length=row.length:=by
 intro cs
 induction cs generalizing j with
 | nil=>intro row; rfl
 | cons c cs ih=>intro row; simp only [setRow]; rw [ih,List.length_set]
theorem nX (i:Nat):∀ (cs row:List AV) (j:Nat),j+cs.length≤row.length→(setRow row j cs)[i]?=if j≤i∧i < j+cs.length then cs[i - j]? else row[i]?:=by
 intro cs
 induction cs with
 | nil=>intro row j _; simp [setRow]; omega
 | cons c cs ih =>
  intro row j hle
  simp only [setRow]
  rw [ih _ _ (by simp at hle ⊢; omega)]
  simp only [List.length_cons] at hle ⊢
  by_cases h1:i=j
  ·subst h1
   rw [if_neg (by omega),if_pos (by omega)]
   simp [show i < row.length from by omega]
  ·by_cases h2:j+1≤i∧i < j+1+cs.length
   ·rw [if_pos h2,if_pos (by omega)]
    rw [show i - j=(i - (j+1))+1 from by omega]; rfl
   ·rw [if_neg h2,if_neg (by omega),List.getElem?_set_ne (by omega)]
def Cells (w:World) (A:Nat→Prop) (ρ:bB) (h:ab) (cs:List AV) (us:Array Value):Prop :=
 us.size=cs.length∧(∀ (i:Nat) (u:Value),us[i]?=some u→u.oneCell'=true)∧(∀ (i:Nat) (c:AV) (u:Value),cs[i]?=some c→us[i]?=some u→RV w A ρ h c u)
theorem sU {x:AV} {u:Value} {cs:List AV} (hx:RV w A ρ h x u) (hc:eN x=some cs):Cells w A ρ h cs u.cells:=by
 have one:∀ {x:AV} {u:Value},RV w A ρ h x u→u.oneCell'=true→u.cells=#[u]→Cells w A ρ h [x] u.cells:=by
  intro x u hx h1 h2
  rw [h2]
  refine ⟨rfl,fun i v hv=>?_,fun i c v hc hv=>?_⟩
  ·cases i <;> simp at hv; subst hv; exact h1
  ·cases i <;> simp at hc hv; subst hc hv; exact hx
 unfold eN at hc
 split at hc
 ·cases hc
  obtain ⟨us,rfl,h1,h2,h3⟩:=hx.agg_inv
  exact ⟨h1,h2,h3⟩
 all_goals first | (cases hc; done) | skip
 cases hc
 have h1:u.oneCell'=true∧u.cells=#[u]:=by
  cases x with
  | v x=>obtain ⟨rfl,h⟩:=hx.v_inv; exact ⟨zj h,by cases u <;> first | rfl | simp [nj] at h⟩
  | emp=>obtain ⟨a,rfl⟩:=hx.emp_inv; exact ⟨rfl,rfl⟩
  | sl k rows=>obtain ⟨a,cap,rfl,_⟩:=hx.sl_inv.sl_form; exact ⟨rfl,rfl⟩
  | ref=>obtain ⟨rfl,_⟩:=hx.ref_inv; exact ⟨rfl,rfl⟩
  | rsl=>obtain ⟨a,cap,rfl,_⟩:=hx.rsl_inv; exact ⟨rfl,rfl⟩
  | rsc=>obtain ⟨a,rfl,_⟩:=hx.rsc_inv; exact ⟨rfl,rfl⟩
  | ipt cs=>obtain ⟨ad,rfl,_⟩:=hx.ipt_drop 0; exact ⟨rfl,rfl⟩
  | fn=>obtain ⟨us,ts,rfl,_⟩:=hx.fn_inv; exact ⟨rfl,rfl⟩
  | _=>simp_all
 exact one hx h1.1 h1.2
theorem Cells.set {cs ds:List AV} {us vs:Array Value} {off:Nat} (hc:Cells w A ρ h cs us) (hd:Cells w A ρ h ds vs) (hle:off+ds.length≤cs.length) :
  Cells w A ρ h (setRow cs off ds) (vs.zipIdx.foldl (fun cs (c,j)=>cs.setIfInBounds (off+j) c) us):=by
 have fold:∀ (l:List Value) (k:Nat) (us:Array Value),((l.zipIdx k).foldl (fun cs (x:Value × Nat)=>cs.setIfInBounds (off+x.2) x.1) us).size=us.size ∧
   ∀ (i:Nat),off+k+l.length≤us.size→((l.zipIdx k).foldl (fun cs (x:Value × Nat)=>cs.setIfInBounds (off+x.2) x.1) us)[i]?=if off+k≤i∧i < off+k+l.length then l[i - (off+k)]? else us[i]?:=by
  intro l
  induction l with
  | nil=>intro k us; exact ⟨by simp,fun i _=>by simp; omega⟩
  | cons v l ih =>
   intro k us
   simp only [List.zipIdx_cons,List.foldl_cons]
   obtain ⟨h1,h2⟩:=ih (k+1) (us.setIfInBounds (off+k) v)
   refine ⟨by rw [h1]; simp,fun i hle=>?_⟩
   simp only [List.length_cons] at hle ⊢
   rw [h2 i (by simp; omega)]
   by_cases e1:i=off+k
   ·subst e1
    rw [if_neg (by omega),if_pos (by omega)]
    simp [show off+k < us.size from by omega]
   ·by_cases e2:off+(k+1)≤i∧i < off+(k+1)+l.length
    ·rw [if_pos e2,if_pos (by omega),show i - (off+k)=(i - (off+(k+1)))+1 from by omega]; rfl
    ·rw [if_neg e2,if_neg (by omega),Array.getElem?_setIfInBounds_ne (by omega)]
 have e:vs.zipIdx.foldl (fun cs (c,j)=>cs.setIfInBounds (off+j) c) us=(vs.toList.zipIdx 0).foldl (fun cs (x:Value × Nat)=>cs.setIfInBounds (off+x.2) x.1) us:=by
  rw [← Array.foldl_toList,Array.toList_zipIdx]
 obtain ⟨h1,h2⟩:=fold vs.toList 0 us
 have hl:vs.toList.length=ds.length:=by simpa using hd.1
 have g:∀ i,(vs.zipIdx.foldl (fun cs (c,j)=>cs.setIfInBounds (off+j) c) us)[i]?=if off≤i∧i < off+ds.length then vs[i - off]? else us[i]?:=by
  intro i
  rw [e,h2 i (by rw [hl,hc.1]; omega)]
  simp only [Nat.add_zero,hl]
  split <;> simp
 refine ⟨by rw [e,h1,tV]; exact hc.1,fun i u hu=>?_,fun i c u hcc hu=>?_⟩
 ·rw [g] at hu
  split at hu
  ·exact hd.2.1 _ _ hu
  ·exact hc.2.1 _ _ hu
 ·rw [g] at hu
  rw [nX i ds cs off hle] at hcc
  split at hu
  ·rename_i hi; rw [if_pos hi] at hcc; exact hd.2.2 _ _ _ hcc hu
  ·rename_i hi; rw [if_neg hi] at hcc; exact hc.2.2 _ _ _ hcc hu
theorem zu {place:Nat→Option (Nat × Nat)} (hs:RS w A ρ h s a.tmps):∀ (ps:List (Nat × Operand)) (q:List (Nat × Nat × Opd)),yu P place ps=some q →
  ∀ (zero:List AV) (us:Array Value),Cells w A ρ h zero us→∀ cs,qC zero (q.map fun p=>(p.1,p.2.1,ev s p.2.2))=some cs →
   ∃ vs,Instr.fill place us (ps.map fun p=>(p.1,a.eval p.2))=some vs∧Cells w A ρ h cs vs
 | [],q,hq,zero,us,hz,cs,hb=>by
  simp [yu] at hq; subst hq
  simp [qC] at hb; subst hb
  exact ⟨us,rfl,hz⟩
 | (i,x)::ps,q,hq,zero,us,hz,cs,hb=>by
  simp only [yu,Option.bind_eq_some_iff] at hq
  obtain ⟨⟨off,k⟩,h1,y,h2,q',h3,h4⟩:=hq
  cases h4
  simp only [List.map_cons,qC,Option.bind_eq_some_iff] at hb
  obtain ⟨ds,h5,h6⟩:=hb
  split at h6
  ·rename_i hle
   have h7:=sU (aU h2 hs) h5
   have h8:=hz.set (off:=off) h7 (by omega)
   obtain ⟨vs,h9,h10⟩:=zu hs ps q' h3 _ _ h8 cs h6
   refine ⟨vs,?_,h10⟩
   simp only [List.map_cons,Instr.fill,h1]
   rw [if_neg (by have e1:=h7.1; have e2:=hz.1; simp; omega)]
   exact h9
  ·cases h6
theorem G5:∀ (l:List Value) (cs:List AV),Bk l=some cs→Cells w A ρ h cs l.toArray
 | [],cs,hc=>by simp [Bk] at hc; subst hc; exact ⟨rfl,fun i u hu=>by simp at hu,fun i c u hc=>by simp at hc⟩
 | v::l,cs,hc=>by
  simp only [Bk,Option.bind_eq_some_iff] at hc
  obtain ⟨c,h1,q,h2,h3⟩:=hc
  cases h3
  obtain ⟨e1,e2,e3⟩:=G5 l q h2
  have hv:RD w A c v:=LL h1
  have ho:v.oneCell'=true:=by unfold O3 at h1; split at h1 <;> first | rfl | cases h1
  refine ⟨by simp at e1 ⊢; exact e1,fun i u hu=>?_,fun i c' u hc hu=>?_⟩
  ·cases i with
   | zero=>simp at hu; subst hu; exact ho
   | succ i=>exact e2 i u (by simpa using hu)
  ·cases i with
   | zero=>simp at hu hc; subst hu hc; exact .dat hv
   | succ i=>exact e3 i c' u (by simpa using hc) (by simpa using hu)
theorem jN {t:TypeId} {zs:List AV} (hz:iE P t=some zs):∃ (i:TypeInfo) (z:Value),P.info? t=some i∧i.zero=some z∧z.cells.size=i.size∧zs.length=i.size∧Cells w A ρ h zs z.cells:=by
 simp only [iE,Option.bind_eq_some_iff] at hz
 obtain ⟨i,h1,z,h2,h3⟩:=hz
 split at h3
 ·rename_i h4
  have h5:=G5 (w:=w) (A:=A) (ρ:=ρ) (h:=h) _ _ h3
  refine ⟨i,z,h1,h2,h4,?_,by simpa using h5⟩
  have:=h5.1
  simp at this
  omega
 ·cases h3
theorem S8 {t:TypeId} {ps:Array (Nat × Operand)} {pop:POp} (hc:O4 P t ps.toList=some pop) (hs:RS w A ρ h s a.tmps) {z:AV} (hz:en s pop=some z) :
  lg P w A ρ h (Instr.build t (ps.map fun (i,x)=>(i,a.eval x))) z:=by
 simp only [O4,Option.bind_eq_some_iff] at hc
 obtain ⟨zs,h1,hc⟩:=hc
 obtain ⟨i,zv,g1,g2,g3,g4,g5⟩:=jN (w:=w) (A:=A) (ρ:=ρ) (h:=h) h1
 have hzero:∀ w,(zeroValue t).run P w=.ok zv w:=fun w=>by simp [zeroValue,typeInfo,g1,g2]
 have hmap:(ps.map fun (i,x)=>(i,a.eval x)).toList=ps.toList.map fun p=>(p.1,a.eval p.2):=by simp
 split at hc
 ·rename_i fs ht
  split at hc
  ·rename_i hall
   simp only [Option.map_eq_some_iff] at hc
   obtain ⟨q,h2,rfl⟩:=hc
   simp only [en,Option.map_eq_some_iff] at hz
   obtain ⟨cs,h3,rfl⟩:=hz
   obtain ⟨vs,h4,h5⟩:=zu hs _ _ h2 _ _ g5 _ h3
   refine ⟨.agg vs,?_,.agg _ _ h5.1 h5.2.1 h5.2.2⟩
   have hplaces:∀ w,(fs.mapM fun f=>(do pure (f.offset,← sizeOf f.type):Sem (Nat × Nat))).run P w=.ok (fs.map fun f=>(f.offset,(br P f.type).getD 0)) w:=by
    intro w
    rw [Array.mapM_eq_mapM_toList]
    simp only [bind_pure_comp]
    have:∀ l:List Field,(∀ f ∈ l,(br P f.type).isSome)→(l.mapM fun f=>(Prod.mk f.offset <$> sizeOf f.type:Sem (Nat × Nat))).run P w=.ok (l.map fun f=>(f.offset,(br P f.type).getD 0)) w:=by
     intro l
     induction l with
     | nil=>intro _; rfl
     | cons f l ih =>
      intro hl
      obtain ⟨k,hk⟩:=Option.isSome_iff_exists.1 (hl f (by simp))
      rw [List.mapM_cons]
      simp [ez hk,ih (fun g hg=>hl g (by simp [hg])),hk]
    have hall':∀ f ∈ fs.toList,(br P f.type).isSome:=by
     intro f hf
     have:=Array.all_eq_true_iff_forall_mem.1 hall f (by simpa using hf)
     simpa using this
    simp [this _ hall']
    exact Array.toList_inj.1 (by simp)
   have hpl:(fun i=>(fs.map fun f=>(f.offset,(br P f.type).getD 0))[i]?)=Jv P fs:=by
    funext i
    simp only [Jv,Array.getElem?_map]
    cases hf:fs[i]? with
    | none=>rfl
    | some f =>
     obtain ⟨k,hk⟩:=Option.isSome_iff_exists.1 (show (br P f.type).isSome from by
      have:=Array.all_eq_true_iff_forall_mem.1 hall f (Array.mem_of_getElem? hf)
      simpa using this)
     simp [hk]
   simp only [Instr.build,Sem.run_bind,hzero,run_underlying ht,Result.andThen,hplaces,hmap]
   rw [hpl,h4]
   rfl
  ·cases hc
 ·rename_i n e ht
  simp only [Option.bind_eq_some_iff,Option.map_eq_some_iff] at hc
  obtain ⟨k,hk,q,h2,rfl⟩:=hc
  simp only [en,Option.map_eq_some_iff] at hz
  obtain ⟨cs,h3,rfl⟩:=hz
  obtain ⟨vs,h4,h5⟩:=zu hs _ _ h2 _ _ g5 _ h3
  refine ⟨.agg vs,?_,.agg _ _ h5.1 h5.2.1 h5.2.2⟩
  simp only [Instr.build,Sem.run_bind,hzero,run_underlying ht,Result.andThen,ez hk,hmap]
  rw [h4]
  rfl
 ·cases hc
theorem YK {f:FuncId} {xs ys:List Operand} {x y:List Opd} (hx:lE xs=some x) (hy:lE ys=some y) (hs:RS w A ρ h s a.tmps) :
  RV w A ρ h (.fn f (x.map (ev s)) (y.map (ev s))) (.func (.func f) (xs.map a.eval).toArray (ys.map a.eval).toArray):=by
 obtain ⟨h1,h2⟩:=qm hs hx
 obtain ⟨h3,h4⟩:=qm hs hy
 have key:∀ {xs:List Operand} {x:List Opd},x.length=xs.length→(∀ (i:Nat) (o:Operand) (p:Opd),xs[i]?=some o→x[i]?=some p→RV w A ρ h (ev s p) (a.eval o)) →
   ∀ (i:Nat) (c:AV) (u:Value),(x.map (ev s))[i]?=some c→(xs.map a.eval).toArray[i]?=some u→RV w A ρ h c u:=by
  intro xs x hl hr i c u hc hu
  simp only [List.getElem?_map,Option.map_eq_some_iff] at hc
  obtain ⟨p,hp,rfl⟩:=hc
  simp only [List.getElem?_toArray,List.getElem?_map,Option.map_eq_some_iff] at hu
  obtain ⟨o,ho,rfl⟩:=hu
  exact hr i o p ho hp
 exact .fn f _ _ _ _ (by simp [h1]) (by simp [h3]) (key h1 h2) (key h3 h4)
theorem abU {y:Operand} (hc:bQ y=some (.c .emp)):a.eval y=.slice none 0 0:=by
 cases y with
 | tmp t=>simp [bQ] at hc
 | func f=>simp [bQ] at hc
 | global g=>simp [bQ] at hc
 | const v =>
  simp only [bQ,Option.map_eq_some_iff,Opd.c.injEq] at hc
  obtain ⟨c,h1,rfl⟩:=hc
  unfold O3 at h1
  split at h1 <;> first | (cases h1; done) | rfl
theorem VZ {op:BinOp} {n:Bool} {t e:TypeId} {xo yo:Operand} {x z:AV} {u:Value} (ht:P.underlying t=some (.slice e)) (hx:RV w A ρ h x u) (hop:Bl op=some n) (hz:C1 n x=some z) :
  lg P w A ρ h (do eqGuard op t xo yo u (.slice none 0 0); binOp op t u (.slice none 0 0)) z:=by
 have hop':(op=.eql∧n=false)∨(op=.neq∧n=true):=by cases op <;> simp [Bl] at hop <;> subst hop <;> simp
 have hu:(∃ ad m c,u=.slice (some ad) m c)∧z=B n:=by
  unfold C1 at hz
  split at hz
  ·cases hz
   cases hx with
   | dat hd =>
    cases hd with
    | sl k rows a cap ad vals hc ha hk hv hl hr =>
     obtain ⟨rfl,_⟩:=ha (by simp)
     exact ⟨⟨_,_,_,rfl⟩,rfl⟩
  ·split at hz
   ·rename_i hm
    cases hz
    obtain ⟨a,cap,rfl,hp,hn,hb,ha⟩:=hx.rsl_inv
    rcases ha with ha | rfl
    ·omega
    ·exact ⟨⟨_,_,_,rfl⟩,rfl⟩
   ·cases hz
  ·cases hz
 obtain ⟨⟨ad,m,c,rfl⟩,rfl⟩:=hu
 have heq:(Op.equal t (.slice (some ad) m c) (.slice none 0 0)).run P w=.ok false w:=by
  have h9:∀ d,(Op.equalIn (d+1) t (.slice (some ad) m c) (.slice none 0 0)).run P w=.ok false w:=fun d=>by simp [Op.equalIn,run_underlying ht]
  exact h9 9999
 rcases hop' with ⟨rfl,rfl⟩ | ⟨rfl,rfl⟩
 ·refine ⟨.bool false,?_,.dat (.v _ rfl)⟩
  simp [eqGuard,binOp,heq,Result.andThen]
 ·refine ⟨.bool true,?_,.dat (.v _ rfl)⟩
  simp [eqGuard,binOp,heq,Result.andThen]
theorem V0 {op:Op} {pop:POp} (hc:Bm P op=some (.p pop)) (hs:RS w A ρ h s a.tmps) {z:AV} (hz:en s pop=some z) (o:Oper) (ho:o.op=op) :
  ∃ v,(execOp a.eval o).run P w=.ok (.value v) w∧RV w A ρ h z v:=by
 have fin:∀ {m:Sem Value},lg P w A ρ h m z→∃ v,(do pure (.value (← m)):Sem Next).run P w=.ok (.value v) w∧RV w A ρ h z v:=by
  intro m hm
  obtain ⟨v,h1,h2⟩:=hm
  exact ⟨v,by simp [h1],h2⟩
 cases op <;> simp only [Bm] at hc
 case move =>
  simp only [Option.map_eq_some_iff] at hc
  obtain ⟨y,h1,h2⟩:=hc
  cases h2; cases hz
  exact ⟨_,by simp [execOp,ho],aU h1 hs⟩
 case assign =>
  simp only [Option.map_eq_some_iff] at hc
  obtain ⟨y,h1,h2⟩:=hc
  cases h2; cases hz
  exact ⟨_,by simp [execOp,ho],aU h1 hs⟩
 case pick =>
  simp only [Option.bind_eq_some_iff,Option.map_eq_some_iff] at hc
  obtain ⟨c,h1,x,h2,y,h3,h4⟩:=hc
  cases h4
  obtain ⟨v,g1,g2⟩:=VQ (P:=P) (aU h1 hs) (aU h2 hs) (aU h3 hs) hz
  exact ⟨v,by simp only [execOp,ho]; rw [Sem.run_bind] at g1 ⊢; cases hb:(asBool _).run P w <;> rw [hb] at g1 <;> simp [Result.andThen] at g1 ⊢; exact g1,g2⟩
 case alloc=>simp at hc
 case box=>simp [Option.bind_eq_some_iff] at hc
 case build =>
  simp only [Option.map_eq_some_iff] at hc
  obtain ⟨p,h1,h2⟩:=hc
  cases h2
  simp only [execOp,ho]
  exact fin (S8 h1 hs hz)
 case buildSlice =>
  simp only [C8,Option.bind_eq_some_iff] at hc
  obtain ⟨e,_,k,_,hc⟩:=hc
  split at hc
  ·simp [Option.bind_eq_some_iff] at hc
  ·cases hc
 case load =>
  simp only [Option.bind_eq_some_iff] at hc
  obtain ⟨g,_,k,_,x,_,hc⟩:=hc
  split at hc <;> cases hc
 case store=>simp [Option.bind_eq_some_iff] at hc
 case nilCheck =>
  simp only [Option.map_eq_some_iff] at hc
  obtain ⟨y,h1,h2⟩:=hc
  cases h2
  have hv:=aU h1 hs
  simp only [en] at hz
  cases hy:ev s y <;> rw [hy] at hz hv <;> simp [Bc] at hz
  all_goals subst hz
  ·obtain ⟨e,_⟩:=hv.ref_inv; exact ⟨_,by simp [execOp,ho,e],hv⟩
  ·obtain ⟨ad,e,_⟩:=hv.ipt_drop 0; exact ⟨_,by simp [execOp,ho,e],hv⟩
  ·obtain ⟨us,ts,e,_⟩:=hv.fn_inv; exact ⟨_,by simp [execOp,ho,e],hv⟩
 case binOp =>
  simp only [Option.bind_eq_some_iff,Option.map_eq_some_iff] at hc
  obtain ⟨x,h1,y,h2,p,h3,h4⟩:=hc
  cases h4
  have hx:=aU h1 hs
  have hy:=aU h2 hs
  simp only [execOp,ho]
  refine fin ?_
  unfold aic at h3
  split at h3
  ·simp only [Option.map_eq_some_iff] at h3
   obtain ⟨n,h5,rfl⟩:=h3
   exact Bn (tc:=0) hx hy h5 ⟨fun _=>(by assumption),fun e=>absurd e (by decide),fun e=>absurd e (by decide)⟩ hz
  ·simp only [Option.map_eq_some_iff] at h3
   obtain ⟨n,h5,rfl⟩:=h3
   exact Bn (tc:=1) hx hy h5 ⟨fun e=>absurd e (by decide),fun _=>⟨_,by assumption⟩,fun e=>absurd e (by decide)⟩ hz
  ·simp only [Option.map_eq_some_iff] at h3
   obtain ⟨n,h5,rfl⟩:=h3
   exact Bn (tc:=2) hx hy h5 ⟨fun e=>absurd e (by decide),fun e=>absurd e (by decide),fun _=>⟨_,_,_,by assumption⟩⟩ hz
  ·cases h3; exact LM hx hy hz
  ·cases h3; exact LM hx hy hz
  ·rename_i e ht
   split at h3
   ·simp only [Option.map_eq_some_iff] at h3
    obtain ⟨n,h5,rfl⟩:=h3
    rw [abU h2]
    exact VZ ht hx h5 hz
   ·cases h3
  ·cases h3
 case unOp =>
  simp only [Option.map_eq_some_iff] at hc
  obtain ⟨y,h1,h2⟩:=hc
  cases h2
  simp only [execOp,ho]
  exact fin (abS (aU h1 hs) hz)
 case convert =>
  simp only [Option.bind_eq_some_iff,Option.map_eq_some_iff] at hc
  obtain ⟨x,h1,p,h2,h3⟩:=hc
  cases h3
  simp only [execOp,ho]
  unfold aek at h2
  split at h2
  ·rename_i e1 e2
   cases h2
   exact fin (abT (aU h1 hs) (by rw [e1]; rfl) e2 hz)
  ·rename_i e1 e2
   cases h2
   exact fin (YF (aU h1 hs) e1 e2 hz)
  ·cases h2
 case makeFunc fn _ _ =>
  cases fn <;> simp only [Option.bind_eq_some_iff,Option.map_eq_some_iff] at hc <;> try (cases hc; done)
  obtain ⟨x,h1,y,h2,h3⟩:=hc
  cases h3
  simp only [en,Option.some.injEq] at hz
  subst hz
  simp only [execOp,ho]
  refine fin ⟨_,rfl,?_⟩
  have e:∀ l:Array Operand,(l.toList.map a.eval).toArray=l.map a.eval:=fun l=>Array.toList_inj.1 (by simp)
  have:=YK (f:=‹FuncId›) h1 h2 hs
  rw [e,e] at this
  exact this
 case makeSlice =>
  simp only [Ot,Option.bind_eq_some_iff] at hc
  obtain ⟨l,_,c,_,e,_,k,_,b,_,hc⟩:=hc
  split at hc
  ·simp at hc
  ·cases hc
 case slice =>
  simp only [Option.bind_eq_some_iff,Option.map_eq_some_iff] at hc
  obtain ⟨x,h1,lo,h2,hi,h3,mx,h4,p,h5,h6⟩:=hc
  cases h6
  simp only [execOp,ho]
  refine fin ?_
  unfold YD at h5
  split at h5
  ·simp only [Option.map_eq_some_iff] at h5
   obtain ⟨k,h7,rfl⟩:=h5
   exact YG (by assumption) h7 (aU h1 hs) (lh h2 hs) (lh h3 hs) (lh h4 hs) hz
  ·split at h5
   ·cases h5
    have e4:=lh h4 hs
    simp only [evo] at e4
    generalize hm:Option.map a.eval _=m at e4 ⊢
    cases e4
    exact VR (by assumption) (aU h1 hs) (lh h2 hs) (lh h3 hs) hz
   ·cases h5
  ·cases h5
 case fieldAddr =>
  simp only [Option.bind_eq_some_iff] at hc
  obtain ⟨x,h1,f,h2,k,h3,hc⟩:=hc
  split at hc
  ·cases hc
  ·cases hc
   simp only [execOp,ho]
   exact fin (VS h2 h3 (by assumption) (aU h1 hs) hz)
 case field =>
  simp only [Option.bind_eq_some_iff,Option.map_eq_some_iff] at hc
  obtain ⟨x,h1,f,h2,k,h3,g,h4,h5⟩:=hc
  cases h5
  simp only [execOp,ho]
  exact fin (YH h2 h3 h4 (aU h1 hs) hz)
 case indexAddr =>
  simp only [Option.bind_eq_some_iff,Option.map_eq_some_iff] at hc
  obtain ⟨x,h1,i,h2,p,h3,h4⟩:=hc
  cases h4
  simp only [execOp,ho]
  refine fin ?_
  unfold ael at h3
  split at h3
  ·simp only [Option.map_eq_some_iff] at h3
   obtain ⟨k,h5,rfl⟩:=h3
   exact S6 (by assumption) h5 (aU h1 hs) (aU h2 hs) hz
  ·simp only [Option.map_eq_some_iff] at h3
   obtain ⟨k,h5,rfl⟩:=h3
   exact S7 (by assumption) h5 (aU h1 hs) (aU h2 hs) hz
  ·cases h3
 case index =>
  simp only [Option.bind_eq_some_iff,Option.map_eq_some_iff] at hc
  obtain ⟨x,h1,i,h2,p,h3,h4⟩:=hc
  cases h4
  simp only [execOp,ho]
  refine fin ?_
  unfold aid at h3
  split at h3
  ·cases h3
   exact VU (by assumption) (aU h1 hs) (aU h2 hs) hz
  ·simp only [Option.bind_eq_some_iff,Option.map_eq_some_iff] at h3
   obtain ⟨k,h5,g,h6,rfl⟩:=h3
   exact VV (by assumption) h5 h6 (aU h1 hs) (aU h2 hs) hz
  ·cases h3
 case extract =>
  simp only [Option.map_eq_some_iff] at hc
  obtain ⟨y,h1,h2⟩:=hc
  cases h2
  simp only [execOp,ho]
  exact fin (YI (aU h1 hs) hz)
 case call c =>
  unfold Ow at hc
  split at hc
  ·rename_i b hb
   have run:∀ (args:Array Value),args=c.args.map a.eval→(execOp a.eval o).run P w=(builtin b c.argTypes o.type (c.args.map fun | .const _=>true | _=>false) args).run P w:=by
    intro args he
    subst he
    simp only [execOp,ho,resolve,hb,Sem.run_bind,Sem.run_pure,Result.andThen,invoke]
    rfl
   unfold zk at hc
   split at hc
   ·rename_i t ts x e1 e2
    simp only [Option.bind_eq_some_iff,Option.map_eq_some_iff] at hc
    obtain ⟨y,h1,p,h2,h3⟩:=hc
    cases h3
    have hargs:c.args.map a.eval=#[a.eval x]:=Array.toList_inj.1 (by simp [e2])
    have h0:c.argTypes[0]?=some t:=by rw [← Array.getElem?_toList,e1]; rfl
    rw [run _ rfl,hargs]
    unfold aie at h2
    split at h2
    ·cases h2; exact fin (VW h0 (by assumption) (aU h1 hs) hz)
    ·cases h2; exact fin (VX h0 (by assumption) (aU h1 hs) hz)
    ·rename_i n e ht
     cases h2
     simp only [en,ev,Option.some.injEq] at hz
     subst hz
     exact fin ⟨_,by simp [Builtin.len_,h0,run_underlying ht]; rfl,.dat (.v _ rfl)⟩
    ·cases h2
   ·rename_i t ts x e1 e2
    simp only [Option.bind_eq_some_iff,Option.map_eq_some_iff] at hc
    obtain ⟨y,h1,p,h2,h3⟩:=hc
    cases h3
    have hargs:c.args.map a.eval=#[a.eval x]:=Array.toList_inj.1 (by simp [e2])
    have h0:c.argTypes[0]?=some t:=by rw [← Array.getElem?_toList,e1]; rfl
    rw [run _ rfl,hargs]
    unfold aif at h2
    split at h2
    ·cases h2; exact fin (YJ h0 (by assumption) (aU h1 hs) hz)
    ·cases h2
   ·rename_i x l e2
    simp only [Option.bind_eq_some_iff,Option.map_eq_some_iff] at hc
    obtain ⟨x',h1,y',h2,h3⟩:=hc
    cases h3
    obtain ⟨l1,l2⟩:=qm hs h2
    rw [run _ rfl]
    exact fin (LN (m:=true) (ts:=c.argTypes) (ty:=o.type) (vs:=l.map a.eval) (by simp [e2]) (aU h1 hs) (by simp [l1]) (fun i c u h3 h4=>by
     simp only [List.getElem?_map,Option.map_eq_some_iff] at h3 h4
     obtain ⟨p,hp,rfl⟩:=h3
     obtain ⟨q,hq,rfl⟩:=h4
     exact l2 i q p hq hp) hz)
   ·rename_i x l e2
    simp only [Option.bind_eq_some_iff,Option.map_eq_some_iff] at hc
    obtain ⟨x',h1,y',h2,h3⟩:=hc
    cases h3
    obtain ⟨l1,l2⟩:=qm hs h2
    rw [run _ rfl]
    exact fin (LN (m:=false) (ts:=c.argTypes) (ty:=o.type) (vs:=l.map a.eval) (by simp [e2]) (aU h1 hs) (by simp [l1]) (fun i c u h3 h4=>by
     simp only [List.getElem?_map,Option.map_eq_some_iff] at h3 h4
     obtain ⟨p,hp,rfl⟩:=h3
     obtain ⟨q,hq,rfl⟩:=h4
     exact l2 i q p hq hp) hz)
   ·unfold VM at hc
    split at hc
    ·split at hc
     ·simp only [Ou,Option.bind_eq_some_iff] at hc
      obtain ⟨e,_,k,_,b,_,x,_,y,_,z,_,hc⟩:=hc
      split at hc <;> cases hc
     ·simp only [Option.bind_eq_some_iff] at hc
      obtain ⟨e,_,_,_,k,_,b,_,x,_,y,_,hc⟩:=hc
      split at hc <;> cases hc
    ·cases hc
   ·unfold Ov at hc
    split at hc
    ·simp only [Option.bind_eq_some_iff] at hc
     obtain ⟨e,_,k,_,x,_,y,_,hc⟩:=hc
     split at hc <;> cases hc
    ·cases hc
   ·unfold G2 at hc
    split at hc
    ·simp only [Option.bind_eq_some_iff] at hc
     obtain ⟨e,_,k,_,x,_,z,_,hc⟩:=hc
     split at hc <;> cases hc
    ·cases hc
   ·cases hc
  ·simp [Option.bind_eq_some_iff] at hc
  ·cases hc
 all_goals cases hc
end
theorem ap {α:Type} (s:Nat→α) (d:Nat) (x:α):upd s d x d=x:=if_pos rfl
theorem aG {α:Type} (s:Nat→α) {d i:Nat} (x:α) (hi:i ≠ d):upd s d x i=s i:=if_neg hi
theorem tk {h:ab} {id id':Nat} {o:Ob} (he:h id ≠ .dead) (hd:upd h id o id' ≠ .dead):h id' ≠ .dead:=by
 by_cases hi:id'=id
 ·subst hi; exact he
 ·rwa [aG _ _ hi] at hd
theorem bZ {h h':ab} {id:Nat} {sub:Option Nat} (e:h' id=h id):live h' id sub↔live h id sub:=by
 cases sub <;> simp [live,e]
theorem du {h h':ab} {id:Nat} {sub:Option Nat} (e:h' id=h id):bM h' id sub↔bM h id sub:=by
 cases sub with
 | none=>simp [bM,e]
 | some p=>exact bZ (sub:=some p) e
theorem yw {w:World} {b:Nat} {o:Obj} (h:w.heap[b]?=some o):b < w.heap.size:=(Array.getElem?_eq_some_iff.1 h).1
section
variable {w:World} {X:Nat→Prop} {ρ:bB} {h:ab}
theorem Rel.live_heap (r:Rel w X ρ h) {id:Nat} {sub:Option Nat} (hl:live h id sub):∃ us e,w.heap[(ρ id sub).1]?=some (.cells us e (0,0))∧us.size=(ρ id sub).2:=by
 have ho:=r.ob id
 cases sub with
 | none =>
  cases e:h id with
  | bx cs=>rw [e] at ho; obtain ⟨us,t,h1,h2,_⟩:=ho; exact ⟨us,t,h1,h2⟩
  | ar k rows=>rw [e] at ho; obtain ⟨us,t,h1,h2,_⟩:=ho; exact ⟨us,t,h1,h2⟩
  | _=>simp [live,e] at hl
 | some p =>
  obtain ⟨cs,k,rows,e,hc⟩:=hl
  rw [e] at ho
  obtain ⟨us,t,h1,h2,h3,h4⟩:=ho
  obtain ⟨u,_,g⟩:=h4 p _ hc
  obtain ⟨a,cap,us',t',_,_,_,g4,g5,_⟩:=g
  exact ⟨us',t',g4,g5⟩
theorem jO {A:Nat→Prop} {b k lo n cap:Nat} {us:Array Value} {e:TypeId} {fr:Nat × Nat} {rows:List (List AV)} {a:Option Addr} (hb:w.heap[b]?=some (.cells us e fr)) (hA:A b) (hr:bT w A k rows us)
  (hle:lo+n≤rows.length) (hn:n≤cap) (ha:cap=0∨a=some ⟨b,lo*k,none⟩):RD w A (kz k lo n rows) (.slice a n cap):=by
 have hlen:((rows.drop lo).take n).length=n:=by simp; omega
 have at_:∀ (i:Nat) (row:List AV),((rows.drop lo).take n)[i]?=some row→rows[lo+i]?=some row:=by
  intro i row hi
  rw [List.getElem?_take] at hi
  split at hi
  ·rwa [List.getElem?_drop] at hi
  ·cases hi
 have key:RD w A (.sl k ((rows.drop lo).take n)) (.slice a ((rows.drop lo).take n).length cap):=by
  refine .sl k _ a cap ⟨b,lo*k,none⟩ (fun i j=>(us[(lo+i)*k+j]?).getD undef) (by rw [hlen]; exact hn) (fun hne=>?_) (fun row hrow=>?_) (fun i row j c h1 h2=>?_) (fun row hrow c hc=>?_) (fun i row j c h1 h2=>?_)
  ·refine ⟨?_,hA,rfl⟩
   rcases ha with h0 | h0
   ·exfalso; apply hne; apply List.eq_nil_of_length_eq_zero; rw [hlen]; omega
   ·exact h0
  ·obtain ⟨i,hi⟩:=List.getElem?_of_mem hrow
   exact (hr _ _ (at_ i row hi)).1
  ·obtain ⟨u,h3,_⟩:=(hr _ _ (at_ i row h1)).2 j c h2
   rw [jL,vo hb,← Nat.add_assoc,← Nat.add_mul,h3]; rfl
  ·obtain ⟨i,hi⟩:=List.getElem?_of_mem hrow
   obtain ⟨j,hj⟩:=List.getElem?_of_mem hc
   obtain ⟨_,_,_,h4⟩:=(hr _ _ (at_ i row hi)).2 j c hj
   exact h4
  ·obtain ⟨u,h3,h4,_⟩:=(hr _ _ (at_ i row h1)).2 j c h2
   rw [h3]; exact h4
 rw [hlen] at key
 exact key
theorem aih (r:Rel w X ρ h) {id k:Nat} {rows:List (List AV)} (e:h id=.ar k rows):Rel w X ρ (upd h id (.fz k rows))∧Evo w ρ h w ρ (upd h id (.fz k rows)) []:=by
 have hl:∀ id' sub,live (upd h id (.fz k rows)) id' sub→id' ≠ id∧live h id' sub:=by
  intro id' sub hl
  by_cases hi:id'=id
  ·subst hi
   exfalso
   cases sub with
   | none=>simp [live,ap] at hl
   | some p=>simp [live,ap] at hl
  ·exact ⟨hi,(bZ (aG h _ hi)).1 hl⟩
 have ev:Evo w ρ h w ρ (upd h id (.fz k rows)) []:=by
  refine ⟨rfl,rfl,rfl,Nat.le_refl _,fun _ _ _=>rfl,fun id' sub hp _=>⟨?_,rfl⟩,fun b ho=>?_,fun id' hb=>⟨?_,rfl⟩,fun id' _ hd=>⟨tk (by rw [e]; exact fun e=>by cases e) hd,rfl⟩⟩
  ·by_cases hi:id'=id
   ·subst hi
    cases sub with
    | none=>simp [bM,ap]
    | some p=>obtain ⟨cs,k',rows',e',_⟩:=hp; rw [e] at e'; cases e'
   ·exact (du (aG h _ hi)).2 hp
  ·obtain ⟨id',sub,h1,h2⟩:=ho
   exact .inl ⟨id',sub,(hl id' sub h1).2,h2⟩
  ·by_cases hi:id'=id
   ·subst hi; simp [ap,bf]
   ·rw [aG h _ hi]; exact hb
 refine ⟨r.step ev (·=id) (fun id' hi=>⟨aG h _ hi,fun _=>rfl,fun _ _=>rfl⟩) (fun a b c d h1 h2=>r.inj a b c d (hl a b h1).2 (hl c d h2).2) (fun a b h1=>r.nx a b (hl a b h1).2) (fun id' hi=>?_),ev⟩
 subst hi
 rw [ap]
 have ho:=r.ob id'
 rw [e] at ho
 obtain ⟨us,t,h1,h2,h3,h4⟩:=ho
 have hlv:live h id' none:=by simp [live,e]
 refine ⟨⟨yw h1,r.nx id' none hlv,fun ho=>?_⟩,us,t,_,h1,h2,h3,h4.mono fun b hb=>ev.al hb⟩
 obtain ⟨id2,sub,h5,h6⟩:=ho
 exact (hl id2 sub h5).1 (r.inj id2 sub id' none (hl id2 sub h5).2 hlv h6).1
theorem zz {c:AV} (hc:iv c=true):aA (iX c)=true:=by
 cases c <;> first | (simp [iv,bd,aA,iX] at hc ⊢; done) | (simp [iv,bd,aA,iX] at hc ⊢; exact hc)
theorem ES {A':Nat→Prop} {id p:Nat} {c:AV} {u:Value} (hr:RC w (aH w X h ρ) ρ h id p c u) (hd:iv c=true)
  (hA:∀ b,aH w X h ρ b→A' b) (hb:∀ k rows,c=.osl k rows→A' (ρ id (some p)).1):RD w A' (iX c) u:=by
 cases hO:bd c with
 | true =>
  cases c <;> simp [bd] at hO
  rename_i k rows
  obtain ⟨a,cap,us',t',g1,g2,g3,g4,g5,g6,g7⟩:=hr
  subst g1
  have:=jO (lo:=0) (n:=rows.length) (cap:=cap) (a:=a) g4 (hb k rows rfl) (g7.mono (w':=w) fun b h=>⟨hA b h,rfl⟩) (by omega) g3 (by simpa using g2)
  simpa [kz,iX] using this
 | false =>
  rw [nn hO] at hr
  have hd':aA c=true:=by simpa [iv,hO] using hd
  have:iX c=c:=by cases c <;> first | rfl | simp [bd] at hO
  rw [this]
  exact (hr.1.toD hd' hr.2.1).mono fun b h=>⟨hA b h,rfl⟩
theorem aii (r:Rel w X ρ h) {id:Nat} {cs:List AV} (e:h id=.bx cs) (hd:cs.all iv=true):Rel w X ρ (upd h id (.fz 1 (nS cs)))∧Evo w ρ h w ρ (upd h id (.fz 1 (nS cs))) [(id,true)]:=by
 have hl:∀ id' sub,live (upd h id (.fz 1 (nS cs))) id' sub→id' ≠ id∧live h id' sub:=by
  intro id' sub hl
  by_cases hi:id'=id
  ·subst hi
   exfalso
   cases sub with
   | none=>simp [live,ap] at hl
   | some p=>simp [live,ap] at hl
  ·exact ⟨hi,(bZ (aG h _ hi)).1 hl⟩
 have ev:Evo w ρ h w ρ (upd h id (.fz 1 (nS cs))) [(id,true)]:=by
  refine ⟨rfl,rfl,rfl,Nat.le_refl _,fun _ _ _=>rfl,fun id' sub hp hk=>⟨?_,rfl⟩,fun b ho=>?_,fun id' hb=>⟨?_,rfl⟩,fun id' _ hd=>⟨tk (by rw [e]; exact fun e=>by cases e) hd,rfl⟩⟩
  ·by_cases hi:id'=id
   ·subst hi
    cases sub with
    | none=>simp [bM,ap]
    | some p=>simp [fF] at hk
   ·exact (du (aG h _ hi)).2 hp
  ·obtain ⟨id',sub,h1,h2⟩:=ho
   exact .inl ⟨id',sub,(hl id' sub h1).2,h2⟩
  ·by_cases hi:id'=id
   ·subst hi; simp [ap,bf]
   ·rw [aG h _ hi]; exact hb
 have free:∀ sub,live h id sub→aH w X (upd h id (.fz 1 (nS cs))) ρ (ρ id sub).1:=by
  intro sub hlv
  obtain ⟨us,t,h1,_⟩:=r.live_heap hlv
  refine ⟨yw h1,r.nx id sub hlv,fun ho=>?_⟩
  obtain ⟨id2,sub2,h5,h6⟩:=ho
  exact (hl id2 sub2 h5).1 (r.inj id2 sub2 id sub (hl id2 sub2 h5).2 hlv h6).1
 refine ⟨r.step ev (·=id) (fun id' hi=>⟨aG h _ hi,fun _=>rfl,fun _ _=>rfl⟩) (fun a b c d h1 h2=>r.inj a b c d (hl a b h1).2 (hl c d h2).2) (fun a b h1=>r.nx a b (hl a b h1).2) (fun id' hi=>?_),ev⟩
 subst hi
 rw [ap]
 have ho:=r.ob id'
 rw [e] at ho
 obtain ⟨us,t,h1,h2,h3,h4⟩:=ho
 refine ⟨free none (by simp [live,e]),us,t,_,h1,h2,by simp [nS]; omega,fun i row hi=>?_⟩
 simp only [nS,List.getElem?_map,Option.map_eq_some_iff] at hi
 obtain ⟨c,hc,rfl⟩:=hi
 refine ⟨rfl,fun j d hj=>?_⟩
 cases j with
 | succ j=>simp at hj
 | zero =>
  simp at hj
  subst hj
  obtain ⟨u,h5,h6⟩:=h4 i c hc
  refine ⟨u,by simpa using h5,ES h6 ?_ (fun b hb=>(ev.al hb).1) (fun k rows ec=>?_),zz (List.all_eq_true.1 hd c (List.mem_of_getElem? hc))⟩
  ·exact List.all_eq_true.1 hd c (List.mem_of_getElem? hc)
  ·subst ec; exact free (some i) ⟨cs,k,rows,e,hc⟩
theorem Bo (r:Rel w X ρ h) {id:Nat} {cs ds:List AV} (e:h id=.bx cs) (hlen:ds.length=cs.length) (hds:∀ (p:Nat) (c:AV),cs[p]?=some c→ds[p]?=some c∨(bd c=true∧ds[p]?=some (iX c))) :
  Rel w X ρ (upd h id (.bx ds))∧Evo w ρ h w ρ (upd h id (.bx ds)) [(id,true)]:=by
 have back:∀ (p k:Nat) (rows:List (List AV)),ds[p]?=some (AV.osl k rows)→cs[p]?=some (AV.osl k rows):=by
  intro p k rows hp
  have hlt:=(List.getElem?_eq_some_iff.1 hp).1
  obtain ⟨c,hc⟩:∃ c,cs[p]?=some c:=⟨cs[p]'(by omega),List.getElem?_eq_getElem (by omega)⟩
  rcases hds p c hc with h1 | ⟨h1,h2⟩
  ·rw [hp] at h1; cases h1; exact hc
  ·rw [hp] at h2
   cases c <;> simp [bd,iX] at h1 h2
 have hl:∀ id' sub,live (upd h id (.bx ds)) id' sub→live h id' sub:=by
  intro id' sub hl
  by_cases hi:id'=id
  ·subst hi
   cases sub with
   | none=>simp [live,e]
   | some p =>
    obtain ⟨cs',k,rows,h1,h2⟩:=hl
    rw [ap] at h1
    cases h1
    exact ⟨cs,k,rows,e,back p k rows h2⟩
  ·exact (bZ (aG h _ hi)).1 hl
 have ev:Evo w ρ h w ρ (upd h id (.bx ds)) [(id,true)]:=by
  refine ⟨rfl,rfl,rfl,Nat.le_refl _,fun _ _ _=>rfl,fun id' sub hp hk=>⟨?_,rfl⟩,fun b ho=>?_,fun id' hb=>⟨?_,rfl⟩,fun id' _ hd=>⟨tk (by rw [e]; exact fun e=>by cases e) hd,rfl⟩⟩
  ·by_cases hi:id'=id
   ·subst hi
    cases sub with
    | none=>simp [bM,ap]
    | some p=>simp [fF] at hk
   ·exact (du (aG h _ hi)).2 hp
  ·obtain ⟨id',sub,h1,h2⟩:=ho
   exact .inl ⟨id',sub,hl id' sub h1,h2⟩
  ·by_cases hi:id'=id
   ·subst hi; simp [ap,bf]
   ·rw [aG h _ hi]; exact hb
 refine ⟨r.step ev (·=id) (fun id' hi=>⟨aG h _ hi,fun _=>rfl,fun _ _=>rfl⟩) (fun a b c d h1 h2=>r.inj a b c d (hl a b h1) (hl c d h2)) (fun a b h1=>r.nx a b (hl a b h1)) (fun id' hi=>?_),ev⟩
 subst hi
 rw [ap]
 have ho:=r.ob id'
 have ho':=ho.keep (w':=w) (A':=aH w X (upd h id' (.bx ds)) ρ) (ρ':=ρ) (h':=upd h id' (.bx ds)) (fun b hb=>ev.al hb) ev.boxes (fun _=>rfl) (fun _ _=>rfl)
 rw [e] at ho ho'
 obtain ⟨us,t,h1,h2,h3,h4⟩:=ho
 obtain ⟨us',t',h1',_,_,h4'⟩:=ho'
 rw [h1] at h1'
 cases h1'
 refine ⟨us,t,h1,h2,by omega,fun p d hd=>?_⟩
 have hlt:=(List.getElem?_eq_some_iff.1 hd).1
 obtain ⟨c,hc⟩:∃ c,cs[p]?=some c:=⟨cs[p]'(by omega),List.getElem?_eq_getElem (by omega)⟩
 rcases hds p c hc with g1 | ⟨g1,g2⟩
 ·rw [hd] at g1; cases g1
  exact h4' p d hc
 ·rw [hd] at g2; cases g2
  obtain ⟨u,h5,h6⟩:=h4 p c hc
  have hlv:live h id' (some p):=by
   cases c <;> simp [bd] at g1
   exact ⟨cs,_,_,e,hc⟩
  have hfr:RD w (aH w X (upd h id' (.bx ds)) ρ) (iX c) u:=by
   refine ES h6 (by simp [iv,g1]) (fun b hb=>(ev.al hb).1) (fun k rows ec=>?_)
   obtain ⟨us2,t2,e1,_⟩:=r.live_heap hlv
   refine ⟨yw e1,r.nx _ _ hlv,fun ho=>?_⟩
   obtain ⟨id2,sub2,h7,h8⟩:=ho
   obtain ⟨rfl,rfl⟩:=r.inj id2 sub2 id' (some p) (hl id2 sub2 h7) hlv h8
   obtain ⟨cs2,k2,rows2,h9,h10⟩:=h7
   rw [ap] at h9
   cases h9
   rw [hd] at h10
   subst ec
   simp [iX] at h10
  have hnO:bd (iX c)=false:=by cases c <;> simp [bd] at g1 <;> rfl
  refine ⟨u,h5,(nn hnO).2 ⟨.dat hfr,hfr.one (zz (by simp [iv,g1])),qI (zz (by simp [iv,g1]))⟩⟩
end
section
variable {P:Program} {w:World} {X:Nat→Prop} {ρ:bB} {h h':ab}
theorem Bp {id k lo n cap:Nat} {a:Option Addr} {rows:List (List AV)} (r:Rel w X ρ h) (e:h id=.fz k rows) (hle:lo+n≤rows.length) (hn:n≤cap)
  (ha:cap=0∨a=some ⟨(ρ id none).1,lo*k,none⟩):RD w (aH w X h ρ) (kz k lo n rows) (.slice a n cap):=by
 have ho:=r.ob id
 rw [e] at ho
 obtain ⟨h0,us,t,fr,h1,h2,h3,h4⟩:=ho
 exact jO h1 h0 h4 hle hn ha
theorem G6 (r:Rel w X ρ h) {id k lo n cap:Nat} {a:Option Addr} (hn:n≤cap) (ha:cap=0∨a=some ⟨(ρ id none).1,lo*k,none⟩) {c:AV} {ks:K} (hc:kB h id k lo n (h id)=some (c,h',ks)) :
  Rel w X ρ h'∧Evo w ρ h w ρ h' ks∧RD w (aH w X h' ρ) c (.slice a n cap)∧aA c=true:=by
 cases e:h id with
 | dead=>simp [e,kB] at hc
 | ar k' rows =>
  simp only [e,kB] at hc
  split at hc
  ·rename_i hk
   obtain ⟨rfl,hle⟩:=hk
   cases hc
   obtain ⟨h1,h2⟩:=aih r e
   exact ⟨h1,h2,Bp h1 (ap _ _ _) hle hn ha,rfl⟩
  ·cases hc
 | fz k' rows =>
  simp only [e,kB] at hc
  split at hc
  ·rename_i hk
   obtain ⟨rfl,hle⟩:=hk
   cases hc
   exact ⟨r,.refl _ _ _,Bp r e hle hn ha,rfl⟩
  ·cases hc
 | bx cs =>
  simp only [e,kB] at hc
  split at hc
  ·rename_i hk
   obtain ⟨rfl,hle,hd⟩:=hk
   cases hc
   obtain ⟨h1,h2⟩:=aii r e hd
   exact ⟨h1,h2,Bp h1 (ap _ _ _) (by simpa [nS] using hle) hn ha,rfl⟩
  ·cases hc
theorem YL (r:Rel w X ρ h) {id:Nat} {sub:Option Nat} (hl:live h id sub) (hn:¬ live h' id sub) (hb:∀ id sub,live h' id sub→live h id sub):aH w X h' ρ (ρ id sub).1:=by
 obtain ⟨us,t,h1,_⟩:=r.live_heap hl
 refine ⟨yw h1,r.nx id sub hl,fun ho=>?_⟩
 obtain ⟨id2,sub2,h5,h6⟩:=ho
 obtain ⟨rfl,rfl⟩:=r.inj id2 sub2 id sub (hb _ _ h5) hl h6
 exact hn h5
theorem G7 (r:Rel w X ρ h) {id p k lo n cap:Nat} {a:Option Addr} (hn:n≤cap) (ha:cap=0∨a=some ⟨(ρ id (some p)).1,lo*k,none⟩) {c:AV} {ks:K} (hc:Be h id p k lo n (h id)=some (c,h',ks)) :
  Rel w X ρ h'∧Evo w ρ h w ρ h' ks∧RD w (aH w X h' ρ) c (.slice a n cap)∧aA c=true:=by
 cases e:h id with
 | bx cs =>
  simp only [e,Be] at hc
  unfold abL at hc
  split at hc
  ·rename_i k' rows hp
   split at hc
   ·rename_i hk
    obtain ⟨rfl,hle⟩:=hk
    cases hc
    have hlt:=(List.getElem?_eq_some_iff.1 hp).1
    obtain ⟨h1,h2⟩:=Bo r e (ds:=cs.set p (.sl k' rows)) (by simp) (fun q c hq=>by
     by_cases hqp:q=p
     ·subst hqp; rw [hp] at hq; cases hq; exact .inr ⟨rfl,by simp [hlt,iX]⟩
     ·exact .inl (by rw [List.getElem?_set_ne (fun e=>hqp e.symm)]; exact hq))
    refine ⟨h1,h2,?_,rfl⟩
    have hlv:live h id (some p):=⟨cs,k',rows,e,hp⟩
    have hal:aH w X (upd h id (.bx (cs.set p (.sl k' rows)))) ρ (ρ id (some p)).1:=by
     refine YL r hlv (fun hl=>?_) (fun id' sub hl=>?_)
     ·obtain ⟨cs2,k2,r2,e1,e2⟩:=hl
      rw [ap] at e1
      cases e1
      simp [hlt] at e2
     ·by_cases hi:id'=id
      ·subst hi
       cases sub with
       | none=>simp [live,e]
       | some q =>
        obtain ⟨cs2,k2,r2,e1,e2⟩:=hl
        rw [ap] at e1
        cases e1
        by_cases hqp:q=p
        ·subst hqp; simp [hlt] at e2
        ·exact ⟨cs,k2,r2,e,by rwa [List.getElem?_set_ne (fun e=>hqp e.symm)] at e2⟩
      ·exact (bZ (aG h _ hi)).1 hl
    have ho:=r.ob id
    rw [e] at ho
    obtain ⟨us,t,g1,g2,g3,g4⟩:=ho
    obtain ⟨u,g5,g6⟩:=g4 p _ hp
    obtain ⟨a',cap',us',t',e1,e2,e3,e4,e5,e6,e7⟩:=g6
    exact jO e4 hal (e7.mono fun b hb=>h2.al hb) hle hn ha
   ·cases hc
  ·cases hc
 | _=>simp [e,Be] at hc
theorem uJ (r:Rel w X ρ h) {A0:Nat→Prop} {h0:ab} {c d:AV} {u:Value} {ks:K} (hv:RV w A0 ρ h0 c u) (hA:∀ b,A0 b→aH w X h ρ b) (h1:u.oneCell'=true) (hc:ey h c=some (d,h',ks)) :
  Rel w X ρ h'∧Evo w ρ h w ρ h' ks∧RD w (aH w X h' ρ) d u∧aA d=true:=by
 have dl:aA c=true→ey h c=some (c,h,[])→Rel w X ρ h'∧Evo w ρ h w ρ h' ks∧RD w (aH w X h' ρ) d u∧aA d=true:=by
  intro hd hq
  rw [hq] at hc
  cases hc
  exact ⟨r,.refl _ _ _,(hv.toD hd h1).mono fun b hb=>⟨hA b hb,rfl⟩,hd⟩
 cases c with
 | rsl id sub k lo n =>
  obtain ⟨a,cap,rfl,hp,hn,hb,ha⟩:=hv.rsl_inv
  cases sub with
  | none=>exact G6 r hn ha hc
  | some p=>exact G7 r hn ha hc
 | fn f x y =>
  simp only [ey] at hc
  split at hc
  ·rename_i hd; exact dl hd (by simp [ey,hd])
  ·cases hc
 | any=>exact dl rfl rfl
 | v x=>exact dl rfl rfl
 | emp=>exact dl rfl rfl
 | sl k rows=>exact dl rfl rfl
 | _=>simp [ey,aA] at hc
theorem xI {A0:Nat→Prop} {h0:ab}:∀ (cs:List AV) {us:Array Value} (off:Nat) {h h':ab} {ds:List AV} {ks:K},Rel w X ρ h→(∀ b,A0 b→aH w X h ρ b) →
  (∀ (i:Nat) (c:AV) (u:Value),cs[i]?=some c→us[off+i]?=some u→RV w A0 ρ h0 c u∧u.oneCell'=true)→off+cs.length≤us.size→eS h cs=some (ds,h',ks) →
   Rel w X ρ h'∧Evo w ρ h w ρ h' ks∧ds.length=cs.length∧(∀ d ∈ ds,aA d=true)∧(∀ (i:Nat) (d:AV) (u:Value),ds[i]?=some d→us[off+i]?=some u→RD w (aH w X h' ρ) d u)
 | [],us,off,h,h',ds,ks,r,hA,hv,hl,hc=>by
  simp [eS] at hc
  obtain ⟨rfl,rfl,rfl⟩:=hc
  exact ⟨r,.refl _ _ _,rfl,fun d hd=>(by simp at hd),fun i d u hd=>(by simp at hd)⟩
 | c::cs,us,off,h,h',ds,ks,r,hA,hv,hl,hc=>by
  simp only [eS,Option.bind_eq_some_iff] at hc
  obtain ⟨⟨d,h1,k1⟩,e1,⟨ds',h2,k2⟩,e2,e3⟩:=hc
  cases e3
  simp only [List.length_cons] at hl
  obtain ⟨u,hu⟩:∃ u,us[off]?=some u:=⟨us[off]'(by omega),Array.getElem?_eq_getElem (by omega)⟩
  obtain ⟨hv0,hv1⟩:=hv 0 c u (by simp) (by simpa using hu)
  obtain ⟨g1,g2,g3,g4⟩:=uJ r hv0 hA hv1 e1
  obtain ⟨f1,f2,f3,f4,f5⟩:=xI cs (off+1) g1 (fun b hb=>(g2.al (hA b hb)).1) (fun i c u h1 h2=>hv (i+1) c u (by simpa using h1) (by rw [← h2]; congr 1; omega)) (by omega) e2
  refine ⟨f1,g2.trans f2,by simp [f3],fun x hx=>?_,fun i x v hx hv=>?_⟩
  ·rcases List.mem_cons.1 hx with rfl | hx
   ·exact g4
   ·exact f4 x hx
  ·cases i with
   | zero =>
    simp at hx hv
    subst hx
    rw [hu] at hv
    cases hv
    exact f2.rd g3
   | succ i=>exact f5 i x v (by simpa using hx) (by rw [← hv]; congr 1; omega)
theorem YM (r:Rel w X ρ h) {A0:Nat→Prop} {h0:ab} {c d:AV} {u:Value} {ks:K} (hv:RV w A0 ρ h0 c u) (hA:∀ b,A0 b→aH w X h ρ b) (hc:pp h c=some (d,h',ks)) (h1:(∀ cs,c ≠ .agg cs)→u.oneCell'=true) :
  Rel w X ρ h'∧Evo w ρ h w ρ h' ks∧RD w (aH w X h' ρ) d u∧dat d=true:=by
 cases c with
 | agg cs =>
  simp only [pp,Option.bind_eq_some_iff] at hc
  obtain ⟨⟨ds,h2,k2⟩,e1,e2⟩:=hc
  cases e2
  obtain ⟨us,rfl,hs,g1,g2⟩:=hv.agg_inv
  obtain ⟨f1,f2,f3,f4,f5⟩:=xI cs (us:=us) 0 r hA (fun i c u hc hu=>⟨g2 i c u hc (by simpa using hu),g1 _ u (by simpa using hu)⟩) (by omega) e1
  exact ⟨f1,f2,.agg _ _ (by rw [hs]; exact f3.symm) g1 fun i d u hd hu=>f5 i d u hd (by simpa using hu),by simpa [dat] using f4⟩
 | _ =>
  obtain ⟨f1,f2,f3,f4⟩:=uJ r hv hA (h1 fun cs e=>by cases e) hc
  refine ⟨f1,f2,f3,?_⟩
  cases d <;> first | exact f4 | simp [aA] at f4
theorem xJ {e:TypeId} {ad:Addr} {u:Value} (hg:mJ P e=some false) (hc:w.cell? ad=some u):(loadVar e ad).run P w=.ok u w:=by
 simp [loadVar,Db hg,hc]
theorem S9 {e:TypeId} {k:Nat} {ad:Addr} {vs:List Value} (hg:mJ P e=some true) (hk:br P e=some k) (hl:vs.length=k) (hc:∀ j v,vs[j]?=some v→w.cell? (ad.add j)=some v) :
  (loadVar e ad).run P w=.ok (.agg vs.toArray) w:=by
 have:=run_loadCells_list (P:=P) w ad vs hc
 rw [hl] at this
 simp [loadVar,Db hg,ez hk,this]
theorem rW {A:Nat→Prop} {h:ab} {e:TypeId} {k off:Nat} {g:Bool} (hg:mJ P e=some g) (hk:br P e=some k) {cs:List AV} {ad:Addr} {z:AV} {vals:Nat→Value}
  (hv:∀ (j:Nat) (c:AV),cs[j]?=some c→w.cell? (ad.add j)=some (vals j)) (hr:∀ (j:Nat) (c:AV),cs[j]?=some c→RV w A ρ h c (vals j)∧(vals j).oneCell'=true) (hz:iu k g cs off=some z) :
  ∃ v,(loadVar e (ad.add off)).run P w=.ok v w∧RV w A ρ h z v:=by
 unfold iu at hz
 cases g with
 | true =>
  simp only [if_true] at hz
  split at hz
  ·rename_i hle
   cases hz
   refine ⟨_,S9 hg hk (vs:=(List.range k).map fun j=>vals (off+j)) (by simp) (fun j v hj=>?_),.agg _ _ (by simp; omega) (fun i u hu=>?_) (fun i c u hc hu=>?_)⟩
   ·simp only [List.getElem?_map,Option.map_eq_some_iff] at hj
    obtain ⟨i,hi,rfl⟩:=hj
    obtain ⟨h1,h2⟩:=List.getElem?_eq_some_iff.1 hi
    simp at h2 h1
    subst h2
    rw [vQ]
    exact hv _ _ (List.getElem?_eq_getElem (show off+j < cs.length by omega))
   ·simp only [List.getElem?_toArray,List.getElem?_map,Option.map_eq_some_iff] at hu
    obtain ⟨j,hj,rfl⟩:=hu
    obtain ⟨h1,h2⟩:=List.getElem?_eq_some_iff.1 hj
    simp at h2 h1
    subst h2
    exact (hr _ _ (List.getElem?_eq_getElem (show off+i < cs.length by omega))).2
   ·rw [List.getElem?_take] at hc
    split at hc
    ·rw [List.getElem?_drop] at hc
     simp only [List.getElem?_toArray,List.getElem?_map,Option.map_eq_some_iff] at hu
     obtain ⟨j,hj,rfl⟩:=hu
     obtain ⟨h1,h2⟩:=List.getElem?_eq_some_iff.1 hj
     simp at h2
     subst h2
     exact (hr _ _ hc).1
    ·cases hc
  ·cases hz
 | false =>
  simp at hz
  exact ⟨_,xJ hg (hv _ _ hz),(hr _ _ hz).1⟩
theorem xK {A:Nat→Prop} {h:ab} {e:TypeId} {k:Nat} {g:Bool} (hg:mJ P e=some g) (hk:br P e=some k) {b k0 i j k':Nat} {us:Array Value} {t:TypeId} {fr:Nat × Nat} {rows:List (List AV)}
  (hb:w.heap[b]?=some (.cells us t fr)) (hr:bT w A k' rows us) {z:AV} {h':ab} {ks:K} (hz:jI h k g k0 i j (some (k',rows))=some (z,h',ks)) :
  h'=h∧ks=[]∧∃ v,(loadVar e ⟨b,i*k0+j,none⟩).run P w=.ok v w∧RV w A ρ h z v:=by
 simp only [jI] at hz
 split at hz
 ·rename_i hkk
  subst hkk
  simp only [Option.bind_eq_some_iff,Option.map_eq_some_iff] at hz
  obtain ⟨row,h1,a,h2,h3⟩:=hz
  cases h3
  refine ⟨rfl,rfl,?_⟩
  have cell:∀ (j:Nat) (c:AV),row[j]?=some c→us[i*k'+j]?=some ((us[i*k'+j]?).getD undef)∧RD w A c ((us[i*k'+j]?).getD undef)∧aA c=true:=by
   intro j c hc
   obtain ⟨u,g1,g2,g3⟩:=(hr i row h1).2 j c hc
   rw [g1]; exact ⟨rfl,g2,g3⟩
  have:=rW (P:=P) (ρ:=ρ) (h:=h) (A:=A) (off:=j) hg hk (cs:=row) (ad:=⟨b,i*k',none⟩) (z:=z) (vals:=fun j=>(us[i*k'+j]?).getD undef)
   (fun j c hc=>by rw [jL,vo hb]; exact (cell j c hc).1) (fun j c hc=>⟨.dat (cell j c hc).2.1,(cell j c hc).2.1.one (cell j c hc).2.2⟩) h2
  rwa [jL] at this
 ·cases hz
end
def iF (ρ:bB) (d:Nat) (sub:Option Nat) (b:Nat × Nat):bB:=fun id s=>if id=d∧s=sub then b else ρ id s
theorem bt (ρ:bB) (d:Nat) (sub:Option Nat) (b:Nat × Nat):iF ρ d sub b d sub=b:=if_pos ⟨rfl,rfl⟩
theorem yx {ρ:bB} {d id:Nat} {sub s:Option Nat} {b:Nat × Nat} (h:¬ (id=d∧s=sub)):iF ρ d sub b id s=ρ id s:=if_neg h
section
variable {P:Program} {w:World} {X:Nat→Prop} {ρ:bB} {h h':ab}
theorem yy (w:World) (o:Obj) {b:Nat} (hb:b < w.heap.size):(w.alloc o).heap[b]?=w.heap[b]?:=by
 show (w.heap.push o)[b]?=_
 rw [Array.getElem?_push,if_neg (by omega)]
theorem qJ (w:World) (o:Obj):(w.alloc o).heap[w.heap.size]?=some o:=by
 show (w.heap.push o)[w.heap.size]?=_
 rw [Array.getElem?_push,if_pos rfl]
theorem G8 (w:World) (o:Obj):(w.alloc o).heap.size=w.heap.size+1:=by
 show (w.heap.push o).size=_
 rw [Array.size_push]
def V1 (w:World) (A:Nat→Prop) (ρ:bB) (h:ab) (us:Array Value):Ob→Prop
 | .bx cs=>cs.length≤us.size∧∀ (p:Nat) (c:AV),cs[p]?=some c→bd c=false∧∃ u,us[p]?=some u∧RV w A ρ h c u∧u.oneCell'=true∧iZ h c
 | .ar k rows=>rows.length*k≤us.size∧bT w A k rows us
 | _=>False
theorem tl (r:Rel w X ρ h) {d:Nat} (hdp:aY d=false) (hd:h d=.dead) {us:Array Value} {e:TypeId} {o:Ob} (ho:V1 w (aH w X h ρ) ρ h us o) :
  Rel (w.alloc (.cells us e)) X (iF ρ d none (w.heap.size,us.size)) (upd h d o)∧Evo w ρ h (w.alloc (.cells us e)) (iF ρ d none (w.heap.size,us.size)) (upd h d o) []:=by
 have hl:∀ id sub,live (upd h d o) id sub→(id=d∧sub=none)∨(id ≠ d∧live h id sub):=by
  intro id sub hl
  by_cases hi:id=d
  ·subst hi
   cases sub with
   | none=>exact .inl ⟨rfl,rfl⟩
   | some p =>
    obtain ⟨cs,k,rows,h1,h2⟩:=hl
    rw [ap] at h1
    subst h1
    exact absurd (ho.2 p _ h2).1 (by simp [bd])
  ·exact .inr ⟨hi,(bZ (aG h _ hi)).1 hl⟩
 have hρ:∀ id sub,id ≠ d→iF ρ d none (w.heap.size,us.size) id sub=ρ id sub:=fun id sub hi=>yx fun e=>hi e.1
 have ev:Evo w ρ h (w.alloc (.cells us e)) (iF ρ d none (w.heap.size,us.size)) (upd h d o) []:=by
  refine ⟨rfl,rfl,rfl,by rw [G8]; omega,fun b hb _=>yy w _ hb,fun id sub hp _=>?_,fun b hb=>?_,fun id hb=>?_,fun id hp hnd=>?_⟩
  ·have hi:id ≠ d:=by
    rintro rfl
    cases sub with
    | none=>exact hp hd
    | some p=>obtain ⟨_,_,_,h1,_⟩:=hp; rw [hd] at h1; cases h1
   exact ⟨(du (aG h _ hi)).2 hp,hρ id sub hi⟩
  ·obtain ⟨id,sub,h1,h2⟩:=hb
   rcases hl id sub h1 with ⟨rfl,rfl⟩ | ⟨hi,h3⟩
   ·rw [bt] at h2; exact .inr (by rw [← h2]; exact Nat.le_refl _)
   ·rw [hρ id sub hi] at h2; exact .inl ⟨id,sub,h3,h2⟩
  ·have hi:id ≠ d:=by rintro rfl; rw [hd] at hb; cases hb
   rw [aG h _ hi]
   exact ⟨hb,hρ id none hi⟩
  ·have hi:id ≠ d:=by rintro rfl; rw [hdp] at hp; cases hp
   rw [aG h _ hi] at hnd
   exact ⟨hnd,hρ id none hi⟩
 have lt:∀ id sub,live h id sub→(ρ id sub).1 < w.heap.size:=fun id sub hl=>by obtain ⟨us,t,h1,_⟩:=r.live_heap hl; exact yw h1
 refine ⟨r.step ev (·=d) (fun id hi=>⟨aG h _ hi,fun sub=>hρ id sub hi,fun sub hl=>yy w _ (lt id sub hl)⟩) (fun a b c e' h1 h2 h3=>?_) (fun a b h1=>?_) (fun id hi=>?_),ev⟩
 ·rcases hl a b h1 with ⟨rfl,rfl⟩ | ⟨ha,h4⟩ <;> rcases hl c e' h2 with ⟨rfl,rfl⟩ | ⟨hc,h5⟩
  ·exact ⟨rfl,rfl⟩
  ·rw [bt,hρ c e' hc] at h3; have:=lt c e' h5; simp at h3; omega
  ·rw [bt,hρ a b ha] at h3; have:=lt a b h4; simp at h3; omega
  ·rw [hρ a b ha,hρ c e' hc] at h3; exact r.inj a b c e' h4 h5 h3
 ·rcases hl a b h1 with ⟨rfl,rfl⟩ | ⟨ha,h4⟩
  ·rw [bt]; intro hx; have:=r.xl _ hx; simp at this
  ·rw [hρ a b ha]; exact r.nx a b h4
 ·subst hi
  rw [ap]
  cases o with
  | bx cs =>
   refine ⟨us,e,by rw [bt]; exact qJ w _,by rw [bt],ho.1,fun p c hc=>?_⟩
   obtain ⟨h1,u,h2,h3,h4,h5⟩:=ho.2 p c hc
   obtain ⟨h6,h7⟩:=h3.keepC h5 (fun b hb=>ev.al hb) ev.boxes
   exact ⟨u,h2,(nn h1).2 ⟨h6,h4,h7⟩⟩
  | ar k rows=>exact ⟨us,e,by rw [bt]; exact qJ w _,by rw [bt],ho.1,ho.2.mono fun b hb=>ev.al hb⟩
  | dead=>exact ho.elim
  | fz k rows=>exact ho.elim
theorem G9 {t:TypeId} {i:TypeInfo} {z:Value} (h1:P.info? t=some i) (h2:i.zero=some z) (w:World):(zeroValue t).run P w=.ok z w:=by simp [zeroValue,typeInfo,h1,h2]
theorem LO {cs:List AV} {us:Array Value} {A:Nat→Prop} (hc:Cells w A ρ h cs us) (hd:cs.all aA=true):V1 w A ρ h us (.bx cs) :=
 ⟨Nat.le_of_eq hc.1.symm,fun p c hp=>by
  have h1:aA c=true:=List.all_eq_true.1 hd c (List.mem_of_getElem? hp)
  obtain ⟨u,hu⟩:∃ u,us[p]?=some u:=⟨us[p]'(by have:=(List.getElem?_eq_some_iff.1 hp).1; have:=hc.1; omega),Array.getElem?_eq_getElem _⟩
  exact ⟨by cases c <;> simp [aA] at h1 <;> rfl,u,hu,hc.2.2 p c u hp hu,hc.2.1 p u hu,qI h1⟩⟩
theorem O9:∀ (l:List Value) (cs:List AV),Bk l=some cs→cs.all aA=true
 | [],cs,hc=>by simp [Bk] at hc; subst hc; rfl
 | v::l,cs,hc=>by
  simp only [Bk,Option.bind_eq_some_iff] at hc
  obtain ⟨c,h1,q,h2,h3⟩:=hc
  cases h3
  have h4:aA c=true:=by unfold O3 at h1; split at h1 <;> cases h1 <;> rfl
  simp [h4]
  simpa using O9 l q h2
theorem Pa {t:TypeId} {zs:List AV} (hz:iE P t=some zs):zs.all aA=true:=by
 simp only [iE,Option.bind_eq_some_iff] at hz
 obtain ⟨i,h1,z,h2,h3⟩:=hz
 split at h3
 ·exact O9 _ _ h3
 ·cases h3
theorem i7 {d:Nat} {a:AV} {o:Ob} {ks:K} {x:AV} {ks':K} (hn:vL h d a o ks (h d)=some (x,h',ks')):h d=.dead∧x=a∧h'=upd h d o∧ks'=ks:=by
 cases e:h d <;> simp [e,vL] at hn
 exact ⟨rfl,hn.1.symm,hn.2.1.symm,hn.2.2.symm⟩
structure Got (w:World) (X:Nat→Prop) (ρ:bB) (h:ab) (w':World) (h':ab) (ks:K) (x:AV) (v:Value):Prop where
 ex:∃ ρ',Rel w' X ρ' h'∧Evo w ρ h w' ρ' h' ks∧RV w' (aH w' X h' ρ') ρ' h' x v
theorem Ta {t:TypeId} {zs:List AV} (r:Rel w X ρ h) (hz:iE P t=some zs) {d:Nat} (hdp:aY d=false) {x:AV} {ks:K} (hn:ic h d zs []=some (x,h',ks)) :
  ∃ v w',(Instr.alloc t true (.tuple #[])).run P w=.ok v w'∧Got w X ρ h w' h' ks x v:=by
 obtain ⟨h1,rfl,rfl,rfl⟩:=i7 hn
 obtain ⟨i,z,g1,g2,g3,g4,g5⟩:=jN (w:=w) (A:=aH w X h ρ) (ρ:=ρ) (h:=h) hz
 obtain ⟨g6,g7⟩:=tl (e:=t) r hdp h1 (LO g5 (Pa hz))
 refine ⟨.pointer (some ⟨w.heap.size,0,none⟩),_,?_,⟨_,g6,g7,?_⟩⟩
 ·simp only [Instr.alloc,Sem.run_bind,G9 g1 g2,Result.andThen]
  simp [newVar,newRow]
 ·have:=RV.ref (w:=w.alloc (.cells z.cells t)) (A:=aH (w.alloc (.cells z.cells t)) X (upd h d (.bx zs)) (iF ρ d none (w.heap.size,z.cells.size))) (ρ:=iF ρ d none (w.heap.size,z.cells.size)) (h:=upd h d (.bx zs)) d none 0 0 0 (by simp [bM,ap])
  rw [bt] at this
  simpa using this
end
section
variable {P:Program} {w:World} {X:Nat→Prop} {ρ:bB} {h h':ab}
theorem xf (a:Addr):a.add 0=a:=by unfold Addr.add; rw [if_pos rfl]
theorem Um {c:AV} (hc:bd c=false):iX c=c:=by cases c <;> first | rfl | simp [bd] at hc
theorem Rel.cell (r:Rel w X ρ h) {id:Nat} {cs:List AV} (e:h id=.bx cs):∃ us t,w.heap[(ρ id none).1]?=some (.cells us t (0,0))∧us.size=(ρ id none).2∧cs.length≤us.size ∧
  ∀ (p:Nat) (c:AV),cs[p]?=some c→∃ u,us[p]?=some u∧RC w (aH w X h ρ) ρ h id p c u:=by
 have ho:=r.ob id
 rw [e] at ho
 exact ho
theorem Tb (r:Rel w X ρ h) {ty:TypeId} {k:Nat} {g:Bool} (hg:mJ P ty=some g) (hk:br P ty=some k) {id p:Nat} {cs:List AV} (e:h id=.bx cs) {z:AV} {ks:K} (hz:ze h id p k g cs=some (z,h',ks)) :
  ∃ v,(loadVar ty ⟨(ρ id none).1,p,none⟩).run P w=.ok v w∧Rel w X ρ h'∧Evo w ρ h w ρ h' ks∧RV w (aH w X h' ρ) ρ h' z v:=by
 have key:∀ (h1:ab) (ds:List AV),Rel w X ρ h1→h1 id=.bx ds→g=true→p+k≤ds.length→(∀ c ∈ (ds.drop p).take k,bd c=false) →
   ∃ v,(loadVar ty ⟨(ρ id none).1,p,none⟩).run P w=.ok v w∧RV w (aH w X h1 ρ) ρ h1 (.agg ((ds.drop p).take k)) v:=by
  intro h1 ds r1 e1 hgt hle hn
  subst hgt
  obtain ⟨us,t,g1,g2,g3,g4⟩:=r1.cell e1
  have at_:∀ (j:Nat) (c:AV),((ds.drop p).take k)[j]?=some c→ds[p+j]?=some c:=by
   intro j c hj
   rw [List.getElem?_take] at hj
   split at hj
   ·rwa [List.getElem?_drop] at hj
   ·cases hj
  have cell:∀ (j:Nat) (c:AV),((ds.drop p).take k)[j]?=some c→us[p+j]?=some ((us[p+j]?).getD undef)∧RV w (aH w X h1 ρ) ρ h1 c ((us[p+j]?).getD undef)∧((us[p+j]?).getD undef).oneCell'=true:=by
   intro j c hc
   obtain ⟨u,f1,f2⟩:=g4 _ c (at_ j c hc)
   rw [nn (hn c (List.mem_of_getElem? hc))] at f2
   rw [f1]; exact ⟨rfl,f2.1,f2.2.1⟩
  have:=rW (P:=P) (ρ:=ρ) (h:=h1) (A:=aH w X h1 ρ) (off:=0) hg hk (cs:=(ds.drop p).take k) (ad:=⟨(ρ id none).1,p,none⟩) (z:=.agg ((ds.drop p).take k)) (vals:=fun j=>(us[p+j]?).getD undef)
   (fun j c hc=>by rw [jL,vo g1]; exact (cell j c hc).1) (fun j c hc=>(cell j c hc).2) (by
    have hl:((ds.drop p).take k).length=k:=by simp; omega
    simp only [iu,if_true]
    rw [if_pos (by omega),List.drop_zero,List.take_of_length_le (by omega)])
  rwa [xf] at this
 unfold ze at hz
 cases g with
 | true =>
  simp only [if_true] at hz
  split at hz
  ·rename_i hle
   split at hz
   ·cases hz
    obtain ⟨r1,e1⟩:=Bo r e (ds:=cs.map iX) (by simp) (fun q c hq=>by
     cases hO:bd c with
     | true=>exact .inr ⟨rfl,by simp [hq]⟩
     | false=>exact .inl (by simp [hq,Um hO]))
    obtain ⟨v,h1,h2⟩:=key _ _ r1 (ap _ _ _) rfl (by simpa using hle) (fun c hc=>by
     have:=List.mem_of_mem_drop (List.mem_of_mem_take hc)
     simp only [List.mem_map] at this
     obtain ⟨c',_,rfl⟩:=this
     cases c' <;> rfl)
    exact ⟨v,h1,r1,e1,h2⟩
   ·rename_i hno
    cases hz
    obtain ⟨v,h1,h2⟩:=key _ _ r e rfl hle (fun c hc=>by
     simp only [List.any_eq_true,not_exists,not_and] at hno
     simpa using hno c hc)
    exact ⟨v,h1,r,.refl _ _ _,h2⟩
  ·cases hz
 | false =>
  simp only [Bool.false_eq_true,if_false,Option.map_eq_some_iff] at hz
  obtain ⟨c,hc,e3⟩:=hz
  cases e3
  obtain ⟨us,t,g1,g2,g3,g4⟩:=r.cell e
  obtain ⟨u,f1,f2⟩:=g4 p c hc
  refine ⟨u,xJ hg (by rw [vo g1]; exact f1),r,.refl _ _ _,?_⟩
  cases hO:bd c with
  | true =>
   cases c <;> simp [bd] at hO
   rename_i k' rows
   obtain ⟨a,cap,us',t',e1,e2,e3,e4,e5,e6,e7⟩:=f2
   subst e1
   exact .rsl id (some p) k' 0 rows.length cap a ⟨cs,k',rows,e,hc⟩ e3 (by rw [← e5]; simpa using e6) (by simpa using e2)
  | false =>
   rw [nn hO] at f2
   have:sP id p c=c:=by cases c <;> first | rfl | simp [bd] at hO
   rw [this]
   exact f2.1
theorem Eg (r:Rel w X ρ h) {ty:TypeId} {k:Nat} {g:Bool} (hg:mJ P ty=some g) (hk:br P ty=some k) {x z:AV} {u:Value} {ks:K} (hx:RV w (aH w X h ρ) ρ h x u) (hz:fw h k g x=some (z,h',ks)) :
  ∃ ad v,u=.pointer (some ad)∧(loadVar ty ad).run P w=.ok v w∧Rel w X ρ h'∧Evo w ρ h w ρ h' ks∧RV w (aH w X h' ρ) ρ h' z v:=by
 cases x with
 | ipt cs =>
  simp only [fw,Option.map_eq_some_iff] at hz
  obtain ⟨a,h1,h2⟩:=hz
  cases h2
  cases hx with
  | dat hd=>cases hd
  | ipt _ ad vals hA hs hv hl hr =>
   obtain ⟨v,f1,f2⟩:=rW (P:=P) (ρ:=ρ) (h:=h) (A:=aH w X h ρ) (off:=0) hg hk hv (fun j c hc=>⟨.dat (hr j c hc),(hr j c hc).one (hl c (List.mem_of_getElem? hc))⟩) h1
   exact ⟨ad,v,rfl,by rwa [xf] at f1,r,.refl _ _ _,f2⟩
 | ref id sub k0 i j =>
  obtain ⟨rfl,hp⟩:=hx.ref_inv
  cases sub with
  | none =>
   simp only [fw] at hz
   cases e:h id with
   | dead=>rw [e] at hz; cases hz
   | bx cs =>
    rw [e] at hz
    obtain ⟨v,f1,f2,f3,f4⟩:=Tb (P:=P) r hg hk e hz
    exact ⟨_,v,rfl,f1,f2,f3,f4⟩
   | ar k' rows =>
    rw [e] at hz
    have ho:=r.ob id
    rw [e] at ho
    obtain ⟨us,t,g1,g2,g3,g4⟩:=ho
    obtain ⟨rfl,rfl,v,f1,f2⟩:=xK (P:=P) (ρ:=ρ) hg hk g1 g4 hz
    exact ⟨_,v,rfl,f1,r,.refl _ _ _,f2⟩
   | fz k' rows =>
    rw [e] at hz
    have ho:=r.ob id
    rw [e] at ho
    obtain ⟨_,us,t,fr,g1,g2,g3,g4⟩:=ho
    obtain ⟨rfl,rfl,v,f1,f2⟩:=xK (P:=P) (ρ:=ρ) hg hk g1 g4 hz
    exact ⟨_,v,rfl,f1,r,.refl _ _ _,f2⟩
  | some p =>
   simp only [fw] at hz
   cases e:h id with
   | bx cs =>
    rw [e] at hz
    simp only [go] at hz
    cases e2:cs[p]? with
    | none=>rw [e2] at hz; cases hz
    | some c =>
     rw [e2] at hz
     cases c <;> simp only [pW] at hz <;> try (cases hz; done)
     rename_i k' rows
     obtain ⟨us,t,g1,g2,g3,g4⟩:=r.cell e
     obtain ⟨u,f1,a,cap,us',t',e1,e2',e3,e4,e5,e6,e7⟩:=g4 p _ e2
     obtain ⟨rfl,rfl,v,f1,f2⟩:=xK (P:=P) (ρ:=ρ) hg hk e4 e7 hz
     exact ⟨_,v,rfl,f1,r,.refl _ _ _,f2⟩
   | _=>rw [e] at hz; cases hz
 | _=>cases hz
def ch (us:Array Value) (o:Nat) (vs:List Value):Array Value:=(us.toList.take o++vs++us.toList.drop (o+vs.length)).toArray
theorem dU {us:Array Value} {o:Nat} {vs:List Value} (hle:o+vs.length≤us.size) (q:Nat):(ch us o vs)[q]?=if o≤q∧q < o+vs.length then vs[q - o]? else us[q]?:=by
 have hlen:us.toList.length=us.size:=Array.length_toList
 unfold ch
 rw [List.getElem?_toArray,List.append_assoc,List.getElem?_append]
 have ht:(us.toList.take o).length=o:=by rw [List.length_take,hlen]; omega
 rw [ht]
 by_cases h1:q < o
 ·rw [if_pos h1,if_neg (by omega),List.getElem?_take,if_pos h1,Array.getElem?_toList]
 ·rw [if_neg h1,List.getElem?_append]
  by_cases h2:q - o < vs.length
  ·rw [if_pos h2,if_pos (by omega)]
  ·rw [if_neg h2,if_neg (by omega),List.getElem?_drop,Array.getElem?_toList]
   congr 1
   omega
theorem cH {us:Array Value} {o:Nat} {vs:List Value} (hle:o+vs.length≤us.size):(ch us o vs).size=us.size:=by
 have hlen:us.toList.length=us.size:=Array.length_toList
 simp [ch]
 omega
theorem jP {us:Array Value} {o:Nat} {vs:List Value} (hle:o+vs.length≤us.size) (hs:∀ (j:Nat) (v:Value),vs[j]?=some v→us[o+j]?=some v):ch us o vs=us:=by
 apply Array.ext_getElem?
 intro q
 rw [dU hle]
 split
 ·rename_i h1
  obtain ⟨v,hv⟩:∃ v,vs[q - o]?=some v:=⟨vs[q - o]'(by omega),List.getElem?_eq_getElem _⟩
  rw [hv,← hs _ v hv]
  congr 1
  omega
 ·rfl
theorem YN {us:Array Value} {o:Nat} {v:Value} {vs:List Value} (hle:o+(v::vs).length≤us.size):ch (ch us o [v]) (o+1) vs=ch us o (v::vs):=by
 have h1:o+[v].length≤us.size:=by simp at hle ⊢; omega
 simp only [List.length_cons] at hle
 apply Array.ext_getElem?
 intro q
 rw [dU (by rw [cH h1]; omega),dU h1,dU (by simpa using hle)]
 simp only [List.length_cons,List.length_nil]
 by_cases e:q=o
 ·subst e
  rw [if_neg (by omega),if_pos (by omega),if_pos (by omega)]
  simp
 ·by_cases h2:o+1≤q∧q < o+1+vs.length
  ·rw [if_pos h2,if_pos (by omega),show q - o=(q - (o+1))+1 from by omega,List.getElem?_cons_succ]
  ·rw [if_neg h2,if_neg (by omega),if_neg (by omega)]
theorem oU {ty:TypeId} {k:Nat} (hk:br P ty=some k) {v:Value} (hv:v.cells.size=k) (h1:∀ u ∈ v.cells.toList,u.oneCell'=true) {b o:Nat} {us:Array Value} {t:TypeId}
  (hb:w.heap[b]?=some (.cells us t (0,0))) (hle:o+k≤us.size):(storeVar ty ⟨b,o,none⟩ v).run P w=.ok () (w.setRow b (ch us o v.cells.toList)):=by
 have:=run_storeCells_at P b o t v.cells.toList 0 us w hb (by simpa [hv] using hle) h1
 simp only [storeVar,Sem.run_bind,ez hk,Result.andThen,hv,ne_eq,not_true_eq_false,if_false]
 simpa [ch] using this
end
section
variable {P:Program} {w w':World} {X:Nat→Prop} {ρ ρ':bB} {h h':ab} {A A':Nat→Prop}
theorem RC.keep {id p:Nat} {c:AV} {u:Value} (hc:RC w A ρ h id p c u) (hA:∀ b,A b→A' b∧w'.heap[b]?=w.heap[b]?) (hB:∀ id,bf (h id)=true→bf (h' id)=true∧ρ' id none=ρ id none)
  (hρ:ρ' id (some p)=ρ id (some p)) (hb:bd c=true→w'.heap[(ρ id (some p)).1]?=w.heap[(ρ id (some p)).1]?):RC w' A' ρ' h' id p c u:=by
 cases hO:bd c with
 | true =>
  cases c <;> simp [bd] at hO
  rename_i k rows
  obtain ⟨a,cap,us',t',g1,g2,g3,g4,g5,g6,g7⟩:=hc
  exact ⟨a,cap,us',t',g1,by rw [hρ]; exact g2,g3,by rw [hρ,hb rfl,g4],by rw [hρ]; exact g5,g6,g7.mono hA⟩
 | false =>
  rw [nn hO] at hc ⊢
  obtain ⟨g1,g2⟩:=hc.1.keepC hc.2.2 hA hB
  exact ⟨g1,hc.2.1,g2⟩
theorem rX (_r:Rel w X ρ h) {id:Nat} {sub:Option Nat} (hl:live h id sub) {o':Ob} {ks:K} (us':Array Value) (hlive:∀ s,live (upd h id o') id s→live h id s)
  (hkeep:∀ s,bM h id s→fF ks id s=false→bM (upd h id o') id s) (hbf:bf (h id)=true→bf o'=true):Evo w ρ h (w.setRow (ρ id sub).1 us') ρ (upd h id o') ks:=by
 have hl':∀ id' s,live (upd h id o') id' s→live h id' s:=by
  intro id' s h1
  by_cases hi:id'=id
  ·subst hi; exact hlive s h1
  ·exact (bZ (aG h _ hi)).1 h1
 refine ⟨rfl,rfl,rfl,by simp,fun b _ ho=>setRow_other w _ b us' (fun e=>ho ⟨id,sub,hl,e.symm⟩),fun id' s hp hk=>⟨?_,rfl⟩,fun b ho=>?_,fun id' hb=>⟨?_,rfl⟩,fun id' _ hd=>⟨tk (fun e=>by cases sub <;> simp [live,e] at hl) hd,rfl⟩⟩
 ·by_cases hi:id'=id
  ·subst hi; exact hkeep s hp hk
  ·exact (du (aG h _ hi)).2 hp
 ·obtain ⟨id',s,h1,h2⟩:=ho
  exact .inl ⟨id',s,hl' id' s h1,h2⟩
 ·by_cases hi:id'=id
  ·subst hi; rw [ap]; exact hbf hb
  ·rw [aG h _ hi]; exact hb
theorem ns (r:Rel w X ρ h) {id:Nat} {sub:Option Nat} (hl:live h id sub) {o':Ob} {ks:K} (us':Array Value) (hlive:∀ s,live (upd h id o') id s→live h id s)
  (ev:Evo w ρ h (w.setRow (ρ id sub).1 us') ρ (upd h id o') ks) (ho:RO (w.setRow (ρ id sub).1 us') (aH (w.setRow (ρ id sub).1 us') X (upd h id o') ρ) ρ (upd h id o') id o'):Rel (w.setRow (ρ id sub).1 us') X ρ (upd h id o'):=by
 have hl':∀ id' s,live (upd h id o') id' s→live h id' s:=by
  intro id' s h1
  by_cases hi:id'=id
  ·subst hi; exact hlive s h1
  ·exact (bZ (aG h _ hi)).1 h1
 refine r.step ev (·=id) (fun id' hi=>⟨aG h _ hi,fun _=>rfl,fun s h1=>setRow_other w _ _ us' fun e=>hi (r.inj id' s id sub h1 hl e).1⟩) (fun a b c d h1 h2=>r.inj a b c d (hl' a b h1) (hl' c d h2)) (fun a b h1=>r.nx a b (hl' a b h1)) (fun id' hi=>?_)
 subst hi
 rw [ap]
 exact ho
theorem wrB (r:Rel w X ρ h) {id p:Nat} {cs xs:List AV} (e:h id=.bx cs) {us:Array Value} {t:TypeId} (hb:w.heap[(ρ id none).1]?=some (.cells us t (0,0))) {vals:List Value} (hlen:vals.length=xs.length)
  (hx:∀ (m:Nat) (c:AV) (u:Value),xs[m]?=some c→vals[m]?=some u→bd c=false∧RV w (aH w X h ρ) ρ h c u∧u.oneCell'=true∧iZ h c) (hle:p+xs.length≤cs.length) :
  Rel (w.setRow (ρ id none).1 (ch us p vals)) X ρ (upd h id (.bx (setRow cs p xs)))∧Evo w ρ h (w.setRow (ρ id none).1 (ch us p vals)) ρ (upd h id (.bx (setRow cs p xs))) (if ((cs.drop p).take xs.length).any bd then [(id,true)] else []):=by
 have hln:live h id none:=by simp [live,e]
 obtain ⟨us0,t0,g1,g2,g3,g4⟩:=r.cell e
 rw [hb] at g1
 cases g1
 have hov:p+vals.length≤us.size:=by omega
 have hlive:∀ s,live (upd h id (.bx (setRow cs p xs))) id s→live h id s:=by
  intro s h1
  cases s with
  | none=>exact hln
  | some q =>
   obtain ⟨cs',k,rows,h2,h3⟩:=h1
   rw [ap] at h2
   cases h2
   rw [nX q xs cs p hle] at h3
   split at h3
   ·obtain ⟨u,hu⟩:∃ u,vals[q - p]?=some u:=⟨vals[q - p]'(by omega),List.getElem?_eq_getElem _⟩
    have:=(hx _ _ u h3 hu).1
    simp [bd] at this
   ·exact ⟨cs,k,rows,e,h3⟩
 have hkeep:∀ s,bM h id s→fF (if ((cs.drop p).take xs.length).any bd then [(id,true)] else []) id s=false→bM (upd h id (.bx (setRow cs p xs))) id s:=by
  intro s hp hk
  cases s with
  | none=>simp [bM,ap]
  | some q =>
   obtain ⟨cs',k,rows,h2,h3⟩:=hp
   rw [e] at h2
   cases h2
   refine ⟨setRow cs p xs,k,rows,ap _ _ _,?_⟩
   rw [nX q xs cs p hle]
   split
   ·rename_i h4
    exfalso
    have:((cs.drop p).take xs.length).any bd=true:=List.any_eq_true.2 ⟨.osl k rows,by
     refine List.mem_of_getElem? (i:=q - p) ?_
     rw [List.getElem?_take,if_pos (by omega),List.getElem?_drop,show p+(q - p)=q from by omega,h3],rfl⟩
    rw [if_pos this] at hk
    simp [fF] at hk
   ·exact h3
 have ev:=rX (X:=X) r hln (ch us p vals) hlive hkeep (fun _=>rfl)
 refine ⟨ns r hln (ch us p vals) hlive ev ?_,ev⟩
 refine ⟨ch us p vals,t,setRow_heap w _ us _ t _ hb,by rw [cH hov]; exact g2,by rw [cH hov,tV]; exact g3,fun q c hq=>?_⟩
 rw [nX q xs cs p hle] at hq
 rw [dU hov]
 split at hq
 ·rename_i h1
  rw [if_pos (by omega)]
  obtain ⟨u,hu⟩:∃ u,vals[q - p]?=some u:=⟨vals[q - p]'(by omega),List.getElem?_eq_getElem _⟩
  obtain ⟨f1,f2,f3,f4⟩:=hx _ _ _ hq hu
  obtain ⟨f5,f6⟩:=f2.keepC f4 (fun b hb=>ev.al hb) ev.boxes
  exact ⟨u,hu,(nn f1).2 ⟨f5,f3,f6⟩⟩
 ·rename_i h1
  rw [if_neg (by omega)]
  obtain ⟨u,f1,f2⟩:=g4 q c hq
  refine ⟨u,f1,f2.keep (fun b hb=>ev.al hb) ev.boxes rfl (fun hO=>?_)⟩
  cases c <;> simp [bd] at hO
  exact setRow_other w _ _ _ fun e2=>absurd (r.inj id (some q) id none ⟨cs,_,_,e,hq⟩ hln e2).2 (by simp)
theorem mvB (r:Rel w X ρ h) {id p id0 k cap:Nat} {cs:List AV} {rows:List (List AV)} {a:Option Addr} (e:h id=.bx cs) {us:Array Value} {t:TypeId} (hb:w.heap[(ρ id none).1]?=some (.cells us t (0,0))) (e0:h id0=.ar k rows)
  (hn:rows.length≤cap) (hc:cap*k=(ρ id0 none).2) (ha:cap=0∨a=some ⟨(ρ id0 none).1,0,none⟩) (hp:p < cs.length) :
  Rel (w.setRow (ρ id none).1 (ch us p [.slice a rows.length cap])) X (iF ρ id (some p) (ρ id0 none)) (upd (upd h id0 .dead) id (.bx (cs.set p (.osl k rows)))) ∧
   Evo w ρ h (w.setRow (ρ id none).1 (ch us p [.slice a rows.length cap])) (iF ρ id (some p) (ρ id0 none)) (upd (upd h id0 .dead) id (.bx (cs.set p (.osl k rows)))) ([(id0,false)]++(if (cs[p]?).any bd then [(id,true)] else [])):=by
 have hln:live h id none:=by simp [live,e]
 have hl0:live h id0 none:=by simp [live,e0]
 have hne:id0 ≠ id:=by rintro rfl; rw [e] at e0; cases e0
 obtain ⟨us0,t0,g1,g2,g3,g4⟩:=r.cell e
 rw [hb] at g1
 cases g1
 have hov:p+[Value.slice a rows.length cap].length≤us.size:=by simp; omega
 have hρ:∀ id' s,¬ (id'=id∧s=some p)→iF ρ id (some p) (ρ id0 none) id' s=ρ id' s:=fun id' s hh=>yx hh
 have hl:∀ id' s,live (upd (upd h id0 .dead) id (.bx (cs.set p (.osl k rows)))) id' s→(id'=id∧s=some p)∨(¬ (id'=id∧s=some p)∧id' ≠ id0∧live h id' s):=by
  intro id' s h1
  by_cases hi:id'=id
  ·subst hi
   cases s with
   | none=>exact .inr ⟨by simp,fun e=>hne e.symm,hln⟩
   | some q =>
    by_cases hq:q=p
    ·subst hq; exact .inl ⟨rfl,rfl⟩
    ·obtain ⟨cs',k',rows',h2,h3⟩:=h1
     rw [ap] at h2
     cases h2
     rw [List.getElem?_set_ne (fun e=>hq e.symm)] at h3
     exact .inr ⟨by simp [hq],fun e=>hne e.symm,⟨cs,k',rows',e,h3⟩⟩
  ·by_cases hi0:id'=id0
   ·subst hi0
    exfalso
    have:=(bZ (aG (upd h id' .dead) (.bx (cs.set p (.osl k rows))) hi)).1 h1
    cases s <;> simp [live,ap] at this
   ·refine .inr ⟨by simp [hi],hi0,?_⟩
    have:=(bZ (aG (upd h id0 .dead) (.bx (cs.set p (.osl k rows))) hi)).1 h1
    exact (bZ (aG h _ hi0)).1 this
 have blk:∀ id' s,live (upd (upd h id0 .dead) id (.bx (cs.set p (.osl k rows)))) id' s→∃ id2 s2,live h id2 s2∧(iF ρ id (some p) (ρ id0 none) id' s).1=(ρ id2 s2).1∧((id'=id∧s=some p∧id2=id0∧s2=none)∨(id2=id'∧s2=s∧id2 ≠ id0)):=by
  intro id' s h1
  rcases hl id' s h1 with ⟨rfl,rfl⟩ | ⟨h2,h3,h4⟩
  ·exact ⟨id0,none,hl0,by rw [bt],.inl ⟨rfl,rfl,rfl,rfl⟩⟩
  ·exact ⟨id',s,h4,by rw [hρ id' s h2],.inr ⟨rfl,rfl,h3⟩⟩
 have ev:Evo w ρ h (w.setRow (ρ id none).1 (ch us p [.slice a rows.length cap])) (iF ρ id (some p) (ρ id0 none)) (upd (upd h id0 .dead) id (.bx (cs.set p (.osl k rows)))) ([(id0,false)]++(if (cs[p]?).any bd then [(id,true)] else [])):=by
  refine ⟨rfl,rfl,rfl,by simp,fun b _ ho=>setRow_other w _ b _ (fun e=>ho ⟨id,none,hln,e.symm⟩),fun id' s hps hk=>?_,fun b ho=>?_,fun id' hbf=>?_,fun id' _ hnd=>⟨fun e1=>?_,hρ _ _ (by simp)⟩⟩
  ·rw [uI,Bool.or_eq_false_iff] at hk
   have hi0:id' ≠ id0:=by rintro rfl; simp [fF] at hk
   by_cases hi:id'=id
   ·subst hi
    cases s with
    | none=>exact ⟨by simp [bM,ap],hρ _ _ (by simp)⟩
    | some q =>
     obtain ⟨cs',k',rows',h2,h3⟩:=hps
     rw [e] at h2
     cases h2
     have hq:q ≠ p:=by
      rintro rfl
      have:=hk.2
      simp [h3,bd,fF] at this
     exact ⟨⟨_,k',rows',ap _ _ _,by rw [List.getElem?_set_ne (fun e=>hq e.symm)]; exact h3⟩,hρ _ _ (by simp [hq])⟩
   ·exact ⟨(du (by rw [aG _ _ hi,aG _ _ hi0])).2 hps,hρ _ _ (by simp [hi])⟩
  ·obtain ⟨id',s,h1,h2⟩:=ho
   obtain ⟨id2,s2,h3,h4,_⟩:=blk id' s h1
   exact .inl ⟨id2,s2,h3,h4.symm.trans h2⟩
  ·have hi0:id' ≠ id0:=by rintro rfl; simp [e0,bf] at hbf
   refine ⟨?_,hρ _ _ (by simp)⟩
   by_cases hi:id'=id
   ·subst hi; rw [ap]; rfl
   ·rw [aG _ _ hi,aG _ _ hi0]; exact hbf
  ·have hi:id' ≠ id:=by rintro rfl; rw [e] at e1; cases e1
   have hi0:id' ≠ id0:=by rintro rfl; rw [e0] at e1; cases e1
   rw [aG _ _ hi,aG _ _ hi0] at hnd
   exact hnd e1
 refine ⟨r.step ev (fun i=>i=id∨i=id0) (fun id' hi=>?_) (fun i s i' s' h1 h2 h3=>?_) (fun i s h1=>?_) (fun id' hi=>?_),ev⟩
 ·simp only [not_or] at hi
  exact ⟨by rw [aG _ _ hi.1,aG _ _ hi.2],fun s=>hρ _ _ (by simp [hi.1]),fun s h1=>setRow_other w _ _ _ fun e=>hi.1 (r.inj id' s id none h1 hln e).1⟩
 ·obtain ⟨i2,s2,f1,f2,f3⟩:=blk i s h1
  obtain ⟨i3,s3,f4,f5,f6⟩:=blk i' s' h2
  obtain ⟨rfl,rfl⟩:=r.inj i2 s2 i3 s3 f1 f4 (by rw [← f2,← f5]; exact h3)
  rcases f3 with ⟨rfl,rfl,f7,f8⟩ | ⟨rfl,rfl,f7⟩ <;> rcases f6 with ⟨rfl,rfl,f9,f10⟩ | ⟨rfl,rfl,f9⟩
  ·exact ⟨rfl,rfl⟩
  ·exact absurd f7 f9
  ·exact absurd f9 f7
  ·exact ⟨rfl,rfl⟩
 ·obtain ⟨i2,s2,f1,f2,_⟩:=blk i s h1
  rw [f2]
  exact r.nx _ _ f1
 ·rcases hi with rfl | rfl
  ·rw [ap]
   refine ⟨ch us p [.slice a rows.length cap],t,by rw [hρ _ _ (by simp)]; exact setRow_heap w _ us _ t _ hb,by rw [cH hov,hρ _ _ (by simp)]; exact g2,by rw [cH hov,List.length_set]; exact g3,fun q c hq=>?_⟩
   rw [dU hov]
   by_cases hqp:q=p
   ·subst hqp
    rw [List.getElem?_set_self hp] at hq
    cases hq
    rw [if_pos (by simp)]
    refine ⟨.slice a rows.length cap,by simp,?_⟩
    have ho:=r.ob id0
    rw [e0] at ho
    obtain ⟨us1,t1,f1,f2,f3,f4⟩:=ho
    refine ⟨a,cap,us1,t1,rfl,by rw [bt]; exact ha,hn,?_,by rw [bt]; exact f2,by rw [f2]; exact hc,f4.mono fun b hb=>ev.al hb⟩
    rw [bt,setRow_other w _ _ _ (fun e2=>hne (r.inj id0 none id' none hl0 hln e2).1)]
    exact f1
   ·rw [List.getElem?_set_ne (fun e=>hqp e.symm)] at hq
    rw [if_neg (by simp; omega)]
    obtain ⟨u,f1,f2⟩:=g4 q c hq
    refine ⟨u,f1,f2.keep (fun b hb=>ev.al hb) ev.boxes (hρ _ _ (by simp [hqp])) (fun hO=>?_)⟩
    cases c <;> simp [bd] at hO
    exact setRow_other w _ _ _ fun e2=>absurd (r.inj id' (some q) id' none ⟨cs,_,_,e,hq⟩ hln e2).2 (by simp)
  ·rw [aG _ _ hne,ap]
   trivial
end
section
variable {P:Program} {w w':World} {X:Nat→Prop} {ρ ρ':bB} {h h':ab} {A A':Nat→Prop}
def V3 (w:World) (X:Nat→Prop) (ρ:bB) (h h':ab) (y:AV) (u:Value) (ks:K):Prop :=
 (Rel w X ρ h'∧Evo w ρ h w ρ h' ks∧bd y=false∧RV w (aH w X h' ρ) ρ h' y u∧iZ h' y) ∨
  (∃ id0 k rows0 rows cap a,h id0=.ar k rows0∧(∃ m,rows=rows0.take m)∧y=.osl k rows∧h'=upd h id0 .dead∧ks=[(id0,false)]∧u=.slice a rows.length cap∧rows.length≤cap∧cap*k=(ρ id0 none).2∧(cap=0∨a=some ⟨(ρ id0 none).1,0,none⟩))
theorem Jw {c:AV} (hd:aA c=true):bd c=false:=by cases c <;> simp [aA] at hd <;> rfl
theorem YO (r:Rel w X ρ h) {x y:AV} {u:Value} {ks:K} (hx:RV w (aH w X h ρ) ρ h x u) (h1:u.oneCell'=true) (hi:Aw h x=some (y,h',ks)):V3 w X ρ h h' y u ks:=by
 have dl:aA x=true→Aw h x=some (x,h,[])→V3 w X ρ h h' y u ks:=fun hd hq=>by
  rw [hq] at hi
  simp only [Option.some.injEq,Prod.mk.injEq] at hi
  obtain ⟨rfl,rfl,rfl⟩:=hi
  exact .inl ⟨r,.refl _ _ _,Jw hd,hx,qI hd⟩
 have fr:Rel w X ρ h'∧Evo w ρ h w ρ h' ks∧RD w (aH w X h' ρ) y u∧aA y=true→V3 w X ρ h h' y u ks :=
  fun ⟨f1,f2,f3,f4⟩=>.inl ⟨f1,f2,Jw f4,.dat f3,qI f4⟩
 cases x with
 | rsl id sub k lo n =>
  obtain ⟨a,cap,rfl,hp,hn,hb,ha⟩:=hx.rsl_inv
  cases sub with
  | some p=>exact fr (G7 r hn ha hi)
  | none =>
   simp only [Aw] at hi
   have other:LI h id k lo n (h id)=kB h id k lo n (h id)→V3 w X ρ h h' y (.slice a n cap) ks:=fun hq=>by
    rw [hq] at hi
    exact fr (G6 r hn ha hi)
   cases e:h id with
   | ar k' rows =>
    by_cases hk:k'=k
    ·subst hk
     by_cases hw:lo=0∧n=rows.length
     ·obtain ⟨rfl,rfl⟩:=hw
      rw [e] at hi
      simp only [LI,and_self,if_true] at hi
      cases hi
      exact .inr ⟨id,k',rows,rows,cap,a,e,⟨rows.length,List.take_length.symm⟩,rfl,rfl,rfl,rfl,hn,by simpa using hb,by simpa using ha⟩
     ·by_cases hw2:lo=0∧n≤rows.length
      ·obtain ⟨rfl,hle⟩:=hw2
       rw [e] at hi
       simp only [LI,if_true] at hi
       rw [if_neg (fun h=>hw ⟨rfl,h.2⟩),if_pos ⟨trivial,hle⟩] at hi
       cases hi
       have hlen:(rows.take n).length=n:=by rw [List.length_take]; omega
       exact .inr ⟨id,k',rows,rows.take n,cap,a,e,⟨n,rfl⟩,rfl,rfl,rfl,by rw [hlen],by rw [hlen]; exact hn,by simpa using hb,by simpa using ha⟩
      ·exact other (by rw [e]; simp [LI,hw,hw2])
    ·rw [e] at hi
     simp [LI,hk] at hi
   | _=>exact other (by rw [e]; rfl)
 | ref id sub k i j =>
  cases sub with
  | some p=>simp [Aw,aA] at hi
  | none =>
   simp only [Aw] at hi
   cases e:h id <;> rw [e] at hi <;> simp only [inP] at hi <;> cases hi
   exact .inl ⟨r,.refl _ _ _,rfl,hx,by simp [iZ,e,bf]⟩
 | fn f a b =>
  simp only [Aw] at hi
  split at hi
  ·rename_i hd
   cases hi
   exact .inl ⟨r,.refl _ _ _,rfl,hx,hd⟩
  ·cases hi
 | any=>exact dl rfl rfl
 | v x=>exact dl rfl rfl
 | emp=>exact dl rfl rfl
 | sl k rows=>exact dl rfl rfl
 | _=>simp [Aw,aA] at hi
theorem YP {α:Type} (s:Nat→α) (d:Nat) (x y:α):upd (upd s d x) d y=upd s d y:=by
 funext i
 unfold upd
 split <;> rfl
theorem YQ (r:Rel w X ρ h) {id k m:Nat} {rows:List (List AV)} (e:h id=.ar k rows):Rel w X ρ (upd h id (.ar k (rows.take m)))∧Evo w ρ h w ρ (upd h id (.ar k (rows.take m))) []:=by
 have hl:∀ id' s,live (upd h id (.ar k (rows.take m))) id' s→live h id' s:=by
  intro id' s h1
  by_cases hi:id'=id
  ·subst hi
   cases s with
   | none=>simp [live,e]
   | some q=>obtain ⟨_,_,_,h2,_⟩:=h1; rw [ap] at h2; cases h2
  ·exact (bZ (aG h _ hi)).1 h1
 have ev:Evo w ρ h w ρ (upd h id (.ar k (rows.take m))) []:=by
  refine ⟨rfl,rfl,rfl,Nat.le_refl _,fun _ _ _=>rfl,fun id' s hp hk=>⟨?_,rfl⟩,fun b ho=>?_,fun id' hb=>⟨?_,rfl⟩,fun id' _ hd=>⟨tk (by rw [e]; exact fun e=>by cases e) hd,rfl⟩⟩
  ·by_cases hi:id'=id
   ·subst hi
    cases s with
    | none=>simp [bM,ap]
    | some q=>obtain ⟨_,_,_,h2,_⟩:=hp; rw [e] at h2; cases h2
   ·exact (du (aG h _ hi)).2 hp
  ·obtain ⟨id',s,h1,h2⟩:=ho
   exact .inl ⟨id',s,hl id' s h1,h2⟩
  ·have hi:id' ≠ id:=by rintro rfl; simp [e,bf] at hb
   rw [aG h _ hi]; exact hb
 refine ⟨r.step ev (·=id) (fun id' hi=>⟨aG h _ hi,fun _=>rfl,fun _ _=>rfl⟩) (fun a b c d h1 h2=>r.inj a b c d (hl a b h1) (hl c d h2)) (fun a b h1=>r.nx a b (hl a b h1)) (fun id' hi=>?_),ev⟩
 subst hi
 have ho:=r.ob id'
 rw [e] at ho
 obtain ⟨us,t0,g1,g2,g3,g4⟩:=ho
 rw [ap]
 refine ⟨us,t0,g1,g2,Nat.le_trans (Nat.mul_le_mul_right k (by rw [List.length_take]; omega)) g3,fun i row hr=>?_⟩
 rw [List.getElem?_take] at hr
 split at hr
 ·exact (g4.mono fun b hb=>ev.al hb) i row hr
 ·cases hr
theorem V4 (r:Rel w X ρ h) {id p:Nat} {cs:List AV} (e:h id=.bx cs) {us:Array Value} {t:TypeId} (hb:w.heap[(ρ id none).1]?=some (.cells us t (0,0))) {x y:AV} {u:Value} {h1:ab} {k1 ks:K}
  (hx:RV w (aH w X h ρ) ρ h x u) (hu:u.oneCell'=true) (hi:Aw h x=some (y,h1,k1)) (hs:EO h1 id p y k1 (h1 id)=some (h',ks)) :
  ∃ ρ',Rel (w.setRow (ρ id none).1 (ch us p [u])) X ρ' h'∧Evo w ρ h (w.setRow (ρ id none).1 (ch us p [u])) ρ' h' ks∧ρ' id none=ρ id none∧p < us.size∧∃ cs',h' id=.bx cs':=by
 obtain ⟨us0,t0,g1,g2,g3,g4⟩:=r.cell e
 rw [hb] at g1
 cases g1
 rcases YO r hx hu hi with ⟨f1,f2,f3,f4,f5⟩ | ⟨id0,k,rows0,rows,cap,a,e0,⟨mm,hmm⟩,rfl,rfl,rfl,rfl,f2,f3,f4⟩
 ·cases e1:h1 id with
  | bx cs1 =>
   rw [e1] at hs
   simp only [EO] at hs
   split at hs
   ·rename_i hp
    cases hs
    obtain ⟨w1,w2⟩:=wrB (vals:=[u]) (xs:=[y]) (p:=p) f1 e1 hb rfl (fun m c v hc hv=>by
     cases m with
     | zero=>simp at hc hv; subst hc hv; exact ⟨f3,f4,hu,f5⟩
     | succ m=>simp at hc) (by simp only [List.length_singleton]; omega)
    refine ⟨ρ,w1,?_,rfl,?_,_,ap _ _ _⟩
    ·have w3:=f2.trans w2
     have h9:List.take 1 (List.drop p cs1)=[cs1[p]]:=by rw [List.drop_eq_getElem_cons hp]; rfl
     have:(List.take [y].length (List.drop p cs1)).any bd=Option.any bd cs1[p]?:=by
      rw [List.getElem?_eq_getElem hp]
      show (List.take 1 (List.drop p cs1)).any bd=_
      rw [h9]
      simp
     rw [this] at w3
     exact w3
    ·obtain ⟨us2,t2,q1,q2,q3,q4⟩:=f1.cell e1
     rw [hb] at q1; cases q1
     omega
   ·cases hs
  | _=>rw [e1] at hs; cases hs
 ·have hne:id ≠ id0:=by rintro rfl; rw [e] at e0; cases e0
  rw [aG _ _ hne,e] at hs
  simp only [EO] at hs
  split at hs
  ·rename_i hp
   cases hs
   subst hmm
   obtain ⟨s1,s2⟩:=YQ r e0 (m:=mm)
   have e':(upd h id0 (.ar k (rows0.take mm))) id=.bx cs:=by rw [aG _ _ hne]; exact e
   obtain ⟨w1,w2⟩:=mvB (p:=p) s1 e' hb (ap _ _ _) f2 f3 f4 hp
   rw [YP] at w1 w2
   exact ⟨_,w1,by simpa using s2.trans w2,yx (by simp),by omega,_,ap _ _ _⟩
  ·cases hs
theorem YR {ks:K} {xs:List AV} {m:Nat} {c:AV} (hc:(uG ks xs)[m]?=some c):∃ c',xs[m]?=some c'∧(c=c'∧(ks=[]∨Uj ks c'=false)∨c=.any):=by
 cases ks with
 | nil=>exact ⟨c,hc,.inl ⟨rfl,.inl rfl⟩⟩
 | cons k ks =>
  simp only [uG,List.getElem?_map,Option.map_eq_some_iff] at hc
  obtain ⟨c',h1,h2⟩:=hc
  refine ⟨c',h1,?_⟩
  unfold mQ at h2
  split at h2
  ·exact .inr h2.symm
  ·rename_i h3; exact .inl ⟨h2.symm,.inr (by simpa using h3)⟩
theorem Evo.rvk {ks:K} (e:Evo w ρ h w' ρ' h' ks) {c:AV} {u:Value} (hv:RV w (aH w X h ρ) ρ h c u) (hm:ks=[]∨Uj ks c=false):RV w' (aH w' X h' ρ') ρ' h' c u:=by
 rcases hm with rfl | hm
 ·exact e.rv hv
 ·exact hv.keep2 (fun b hb=>e.al hb) (fun id sub hp hk=>e.keep id sub hp hk) hm
theorem Pb (ks:K) (xs:List AV):(uG ks xs).length=xs.length:=by cases ks <;> simp [uG]
theorem vR:∀ (n:Nat) (xs:List AV) (vals:List Value) (p:Nat) {w:World} {ρ:bB} {h h':ab} {ks:K} {id:Nat} {cs:List AV} {us:Array Value} {t:TypeId},Rel w X ρ h→h id=.bx cs→w.heap[(ρ id none).1]?=some (.cells us t (0,0)) →
  vals.length=xs.length→(∀ (m:Nat) (c:AV) (u:Value),xs[m]?=some c→vals[m]?=some u→RV w (aH w X h ρ) ρ h c u∧u.oneCell'=true)→p+vals.length≤us.size→lZ h id p n xs=some (h',ks) →
  ∃ ρ',Rel (w.setRow (ρ id none).1 (ch us p vals)) X ρ' h'∧Evo w ρ h (w.setRow (ρ id none).1 (ch us p vals)) ρ' h' ks∧ρ' id none=ρ id none∧∃ cs',h' id=.bx cs'
 | _,[],vals,p,w,ρ,h,h',ks,id,cs,us,t,r,e,hb,hlen,_,hle,hs=>by
  have hn:vals=[]:=List.eq_nil_of_length_eq_zero (by simpa using hlen)
  subst hn
  simp only [lZ,Option.some.injEq,Prod.mk.injEq] at hs
  obtain ⟨rfl,rfl⟩:=hs
  rw [jP hle (fun j v hv=>by simp at hv),setRow_self w _ us t (0,0) hb]
  exact ⟨ρ,r,.refl _ _ _,rfl,cs,e⟩
 | 0,x::xs,_,_,_,_,_,_,_,_,_,_,_,_,_,_,_,_,_,hs=>by simp [lZ] at hs
 | n+1,x::xs,[],p,w,ρ,h,h',ks,id,cs,us,t,r,e,hb,hlen,hx,hle,hs=>by simp at hlen
 | n+1,x::xs,u::vals,p,w,ρ,h,h',ks,id,cs,us,t,r,e,hb,hlen,hx,hle,hs=>by
  simp only [lZ,Option.bind_eq_some_iff] at hs
  obtain ⟨⟨y,h1,k1⟩,e1,⟨h2,k2⟩,e2,⟨h3,k3⟩,e3,e4⟩:=hs
  cases e4
  obtain ⟨f1,f2⟩:=hx 0 x u rfl rfl
  obtain ⟨ρ1,g1,g2,g3,g4,cs1,g5⟩:=V4 r e hb f1 f2 e1 e2
  have hsz:(ch us p [u]).size=us.size:=cH (by simp only [List.length_singleton]; omega)
  have hb1:(w.setRow (ρ id none).1 (ch us p [u])).heap[(ρ1 id none).1]?=some (.cells (ch us p [u]) t (0,0)):=by rw [g3]; exact setRow_heap w _ us _ t _ hb
  obtain ⟨ρ2,q1,q2,q3,q4⟩:=vR n (uG k2 xs) vals (p+1) g1 g5 hb1 (by rw [Pb]; simpa using hlen) (fun m c v hc hv=>by
   obtain ⟨c',p1,p2⟩:=YR hc
   obtain ⟨p3,p4⟩:=hx (m+1) c' v (by simpa using p1) (by simpa using hv)
   refine ⟨?_,p4⟩
   rcases p2 with ⟨rfl,p2⟩ | rfl
   ·exact g2.rvk p3 p2
   ·exact .anyv v) (by rw [hsz]; simp at hle; omega) e3
  rw [g3,setRow_setRow,YN hle] at q1 q2
  exact ⟨ρ2,q1,g2.trans q2,q3.trans g3,q4⟩
theorem Bq {k:Nat} {rows:List (List AV)} {us:Array Value} (hr:bT w A k rows us) (hs:rows.length*k≤us.size) {i j:Nat} {row xs:List AV} {vals:List Value} (hi:rows[i]?=some row) (hj:j+xs.length≤row.length)
  (hlen:vals.length=xs.length) (hx:∀ (m:Nat) (c:AV) (u:Value),xs[m]?=some c→vals[m]?=some u→RD w A c u∧aA c=true) :
  bT w A k (rows.set i (setRow row j xs)) (ch us (i*k+j) vals)∧i*k+j+vals.length≤us.size:=by
 have hrow:=(hr i row hi).1
 have hil:i < rows.length:=(List.getElem?_eq_some_iff.1 hi).1
 have h1:(i+1)*k≤rows.length*k:=Nat.mul_le_mul_right k hil
 rw [Nat.add_mul,Nat.one_mul] at h1
 have hov:i*k+j+vals.length≤us.size:=by omega
 refine ⟨fun i' row' hi'=>?_,hov⟩
 by_cases e:i'=i
 ·subst e
  rw [List.getElem?_set_self hil] at hi'
  cases hi'
  refine ⟨by rw [tV]; exact hrow,fun q c hq=>?_⟩
  rw [nX q xs row j hj] at hq
  rw [dU hov]
  split at hq
  ·rename_i h2
   rw [if_pos (by omega),show i'*k+q - (i'*k+j)=q - j from by omega]
   obtain ⟨u,hu⟩:∃ u,vals[q - j]?=some u:=⟨vals[q - j]'(by omega),List.getElem?_eq_getElem _⟩
   obtain ⟨h3,h4⟩:=hx _ _ _ hq hu
   exact ⟨u,hu,h3,h4⟩
  ·rw [if_neg (by omega)]
   exact (hr i' row hi).2 q c hq
 ·rw [List.getElem?_set_ne (fun x=>e x.symm)] at hi'
  obtain ⟨h2,h3⟩:=hr i' row' hi'
  refine ⟨h2,fun q c hq=>?_⟩
  have hql:=(List.getElem?_eq_some_iff.1 hq).1
  rw [dU hov,if_neg]
  ·exact h3 q c hq
  ·intro h4
   rcases Nat.lt_or_gt_of_ne e with h5 | h5
   ·have h6:(i'+1)*k≤i*k:=Nat.mul_le_mul_right k h5
    rw [Nat.add_mul,Nat.one_mul] at h6
    omega
   ·have h6:(i+1)*k≤i'*k:=Nat.mul_le_mul_right k h5
    rw [Nat.add_mul,Nat.one_mul] at h6
    omega
theorem wrA (r:Rel w X ρ h) {id k i j:Nat} {rows:List (List AV)} {row xs:List AV} (e:h id=.ar k rows) {us:Array Value} {t:TypeId} (hb:w.heap[(ρ id none).1]?=some (.cells us t (0,0))) {vals:List Value} (hlen:vals.length=xs.length)
  (hx:∀ (m:Nat) (c:AV) (u:Value),xs[m]?=some c→vals[m]?=some u→RD w (aH w X h ρ) c u∧aA c=true) (hi:rows[i]?=some row) (hj:j+xs.length≤row.length) :
  Rel (w.setRow (ρ id none).1 (ch us (i*k+j) vals)) X ρ (upd h id (.ar k (rows.set i (setRow row j xs))))∧Evo w ρ h (w.setRow (ρ id none).1 (ch us (i*k+j) vals)) ρ (upd h id (.ar k (rows.set i (setRow row j xs)))) []∧i*k+j+vals.length≤us.size:=by
 have hln:live h id none:=by simp [live,e]
 have ho:=r.ob id
 rw [e] at ho
 obtain ⟨us0,t0,g1,g2,g3,g4⟩:=ho
 rw [hb] at g1
 cases g1
 have hlive:∀ s,live (upd h id (.ar k (rows.set i (setRow row j xs)))) id s→live h id s:=by
  intro s h1
  cases s with
  | none=>exact hln
  | some q=>obtain ⟨_,_,_,h2,_⟩:=h1; rw [ap] at h2; cases h2
 have ev:Evo w ρ h (w.setRow (ρ id none).1 (ch us (i*k+j) vals)) ρ (upd h id (.ar k (rows.set i (setRow row j xs)))) [] :=
  rX (X:=X) r hln _ hlive (fun s hp _=>by
   cases s with
   | none=>simp [bM,ap]
   | some q=>obtain ⟨_,_,_,h2,_⟩:=hp; rw [e] at h2; cases h2) (fun hbf=>by rw [e] at hbf; cases hbf)
 obtain ⟨f1,f2⟩:=Bq (g4.mono fun b hb=>ev.al hb) g3 hi hj hlen (fun m c u hc hu=>⟨ev.rd (hx m c u hc hu).1,(hx m c u hc hu).2⟩)
 exact ⟨ns r hln _ hlive ev ⟨_,t,setRow_heap w _ us _ t _ hb,by rw [cH f2]; exact g2,by rw [cH f2,List.length_set]; exact g3,f1⟩,ev,f2⟩
theorem wrS (r:Rel w X ρ h) {id p k i j:Nat} {cs:List AV} {rows:List (List AV)} {row xs:List AV} (e:h id=.bx cs) (ep:cs[p]?=some (.osl k rows)) {us:Array Value} {t:TypeId} (hb:w.heap[(ρ id (some p)).1]?=some (.cells us t (0,0)))
  {vals:List Value} (hlen:vals.length=xs.length) (hx:∀ (m:Nat) (c:AV) (u:Value),xs[m]?=some c→vals[m]?=some u→RD w (aH w X h ρ) c u∧aA c=true) (hi:rows[i]?=some row) (hj:j+xs.length≤row.length) :
  Rel (w.setRow (ρ id (some p)).1 (ch us (i*k+j) vals)) X ρ (upd h id (.bx (cs.set p (.osl k (rows.set i (setRow row j xs))))))∧Evo w ρ h (w.setRow (ρ id (some p)).1 (ch us (i*k+j) vals)) ρ (upd h id (.bx (cs.set p (.osl k (rows.set i (setRow row j xs)))))) [] ∧
   i*k+j+vals.length≤us.size:=by
 have hlp:live h id (some p):=⟨cs,k,rows,e,ep⟩
 have hln:live h id none:=by simp [live,e]
 have hpl:p < cs.length:=(List.getElem?_eq_some_iff.1 ep).1
 obtain ⟨us0,t0,g1,g2,g3,g4⟩:=r.cell e
 obtain ⟨u0,q1,a,cap,us1,t1,rfl,q2,q3,q4,q5,q6,q7⟩:=g4 p _ ep
 rw [hb] at q4
 cases q4
 have hlive:∀ s,live (upd h id (.bx (cs.set p (.osl k (rows.set i (setRow row j xs)))))) id s→live h id s:=by
  intro s h1
  cases s with
  | none=>exact hln
  | some q =>
   by_cases hq:q=p
   ·subst hq; exact hlp
   ·obtain ⟨cs',k',rows',h2,h3⟩:=h1
    rw [ap] at h2
    cases h2
    rw [List.getElem?_set_ne (fun e=>hq e.symm)] at h3
    exact ⟨cs,k',rows',e,h3⟩
 have ev:Evo w ρ h (w.setRow (ρ id (some p)).1 (ch us (i*k+j) vals)) ρ (upd h id (.bx (cs.set p (.osl k (rows.set i (setRow row j xs)))))) [] :=
  rX (X:=X) r hlp _ hlive (fun s hp _=>by
   cases s with
   | none=>simp [bM,ap]
   | some q =>
    by_cases hq:q=p
    ·subst hq; exact ⟨_,k,_,ap _ _ _,List.getElem?_set_self hpl⟩
    ·obtain ⟨cs',k',rows',h2,h3⟩:=hp
     rw [e] at h2
     cases h2
     exact ⟨_,k',rows',ap _ _ _,by rw [List.getElem?_set_ne (fun e=>hq e.symm)]; exact h3⟩) (fun _=>rfl)
 obtain ⟨f1,f2⟩:=Bq (q7.mono fun b hb=>ev.al hb) (Nat.le_trans (Nat.mul_le_mul_right k q3) (Nat.le_of_eq q6)) hi hj hlen (fun m c u hc hu=>⟨ev.rd (hx m c u hc hu).1,(hx m c u hc hu).2⟩)
 refine ⟨ns r hlp _ hlive ev ?_,ev,f2⟩
 have oth:∀ s,live h id s→s ≠ some p→(w.setRow (ρ id (some p)).1 (ch us (i*k+j) vals)).heap[(ρ id s).1]?=w.heap[(ρ id s).1]?:=fun s h1 h2=>setRow_other w _ _ _ fun e2=>h2 (r.inj id s id (some p) h1 hlp e2).2
 refine ⟨us0,t0,by rw [oth none hln (by simp)]; exact g1,g2,by rw [List.length_set]; exact g3,fun q c hq=>?_⟩
 by_cases hqp:q=p
 ·subst hqp
  rw [List.getElem?_set_self hpl] at hq
  cases hq
  exact ⟨_,q1,a,cap,_,t,by rw [List.length_set],q2,by rw [List.length_set]; exact q3,setRow_heap w _ us _ t _ hb,by rw [cH f2]; exact q5,by rw [cH f2]; exact q6,f1⟩
 ·rw [List.getElem?_set_ne (fun e=>hqp e.symm)] at hq
  obtain ⟨u,f3,f4⟩:=g4 q c hq
  refine ⟨u,f3,f4.keep (fun b hb=>ev.al hb) ev.boxes rfl (fun hO=>?_)⟩
  cases c <;> simp [bd] at hO
  exact oth (some q) ⟨cs,_,_,e,hq⟩ (by simp [hqp])
end
section
variable {P:Program} {w w':World} {X:Nat→Prop} {ρ ρ':bB} {h h':ab} {A A':Nat→Prop}
theorem Cells.toList {cs:List AV} {us:Array Value} (hc:Cells w A ρ h cs us):us.toList.length=cs.length∧(∀ u ∈ us.toList,u.oneCell'=true) ∧
  ∀ (m:Nat) (c:AV) (u:Value),cs[m]?=some c→us.toList[m]?=some u→RV w A ρ h c u∧u.oneCell'=true:=by
 refine ⟨by simpa using hc.1,fun u hu=>?_,fun m c u h1 h2=>?_⟩
 ·obtain ⟨i,hi⟩:=List.getElem?_of_mem hu
  exact hc.2.1 i u (by simpa using hi)
 ·exact ⟨hc.2.2 m c u h1 (by simpa using h2),hc.2.1 m u (by simpa using h2)⟩
theorem zA {A0:Nat→Prop} {h0:ab} {cs ds:List AV} {us:Array Value} {ks:K} (r:Rel w X ρ h) (hA:∀ b,A0 b→aH w X h ρ b) (hc:Cells w A0 ρ h0 cs us) (he:eS h cs=some (ds,h',ks)) :
  Rel w X ρ h'∧Evo w ρ h w ρ h' ks∧ds.length=cs.length∧∀ (m:Nat) (c:AV) (u:Value),ds[m]?=some c→us.toList[m]?=some u→RD w (aH w X h' ρ) c u∧aA c=true:=by
 obtain ⟨f1,f2,f3,f4,f5⟩:=xI cs (us:=us) 0 r hA (fun i c u h1 h2=>⟨hc.2.2 i c u h1 (by simpa using h2),hc.2.1 i u (by simpa using h2)⟩) (by rw [hc.1]; omega) he
 exact ⟨f1,f2,f3,fun m c u h1 h2=>⟨f5 m c u h1 (by simpa using h2),f4 c (List.mem_of_getElem? h1)⟩⟩
theorem LP {k k0 i j k':Nat} {xs:List AV} {rows q:List (List AV)} (hs:rS k k0 i j xs k' rows=some q):k'=k0∧∃ row,rows[i]?=some row∧j+k≤row.length∧q=rows.set i (setRow row j xs):=by
 unfold rS at hs
 split at hs
 ·rename_i e
  simp only [Option.bind_eq_some_iff] at hs
  obtain ⟨row,h1,h2⟩:=hs
  split at h2
  ·cases h2; exact ⟨e,row,h1,by assumption,rfl⟩
  ·cases h2
 ·cases hs
theorem Pc (r:Rel w X ρ h) {ty:TypeId} {k:Nat} (hk:br P ty=some k) {a x z:AV} {ua ux:Value} {ks:K} (ha:RV w (aH w X h ρ) ρ h a ua) (hx:RV w (aH w X h ρ) ρ h x ux) (hz:ib h k a x=some (z,h',ks)) :
  ∃ ad w' ρ',z=.und∧ua=.pointer (some ad)∧(storeVar ty ad ux).run P w=.ok () w'∧Rel w' X ρ' h'∧Evo w ρ h w' ρ' h' ks:=by
 simp only [ib,Option.bind_eq_some_iff] at hz
 obtain ⟨xs,e0,hz⟩:=hz
 have hc:=sU hx e0
 obtain ⟨c1,c2,c3⟩:=hc.toList
 split at hz
 ·rename_i hlen
  subst hlen
  have hsz:ux.cells.size=xs.length:=hc.1
  cases a with
  | ref id sub k0 i j =>
   obtain ⟨rfl,hp⟩:=ha.ref_inv
   cases sub with
   | none =>
    simp only at hz
    cases e:h id with
    | bx cs =>
     rw [e] at hz
     simp only [xG,Jm] at hz
     split at hz
     ·rename_i hle
      obtain ⟨us,t,g1,g2,g3,g4⟩:=r.cell e
      have run:=oU hk hsz c2 g1 (o:=i*k0+j) (by omega)
      split at hz
      ·rename_i hd
       simp only [Option.some.injEq,Prod.mk.injEq] at hz
       obtain ⟨hzu,rfl,rfl⟩:=hz
       obtain ⟨f1,f2⟩:=wrB r e g1 c1 (fun m c u h1 h2=>by
        have hdc:aA c=true:=List.all_eq_true.1 hd c (List.mem_of_getElem? h1)
        obtain ⟨q1,q2⟩:=c3 m c u h1 h2
        exact ⟨Jw hdc,q1,q2,qI hdc⟩) hle
       exact ⟨_,_,ρ,hzu.symm,rfl,run,f1,f2⟩
      ·simp only [Option.map_eq_some_iff,Prod.mk.injEq] at hz
       obtain ⟨⟨h2,k2⟩,e2,hzu,rfl,rfl⟩:=hz
       obtain ⟨ρ',f1,f2,_⟩:=vR xs.length xs ux.cells.toList (i*k0+j) r e g1 c1 c3 (by omega) e2
       exact ⟨_,_,ρ',hzu.symm,rfl,run,f1,f2⟩
     ·cases hz
    | ar k' rows =>
     rw [e] at hz
     simp only [xG,Option.bind_eq_some_iff] at hz
     obtain ⟨⟨ds,h1,k1⟩,e1,hz⟩:=hz
     obtain ⟨f1,f2,f3,f4⟩:=zA r (fun _ hb=>hb) hc e1
     simp only at hz
     cases e2:h1 id <;> rw [e2] at hz <;> simp only [Jn] at hz <;> try (cases hz; done)
     rename_i k2 rows2
     simp only [Option.map_eq_some_iff,Prod.mk.injEq] at hz
     obtain ⟨q,e3,hzu,rfl,rfl⟩:=hz
     obtain ⟨rfl,row,g1,g2,rfl⟩:=LP e3
     have ho:=f1.ob id
     rw [e2] at ho
     obtain ⟨us,t,q1,q2,q3,q4⟩:=ho
     obtain ⟨w1,w2,w3⟩:=wrA f1 e2 q1 (by rw [f3]; exact c1) f4 g1 (by rw [f3]; exact g2)
     have run:=oU hk hsz c2 q1 (o:=i*k2+j) (by rw [c1] at w3; exact w3)
     exact ⟨_,_,ρ,hzu.symm,rfl,run,w1,by simpa using f2.trans w2⟩
    | _=>rw [e] at hz; cases hz
   | some p =>
    simp only [Option.bind_eq_some_iff] at hz
    obtain ⟨⟨ds,h1,k1⟩,e1,hz⟩:=hz
    obtain ⟨f1,f2,f3,f4⟩:=zA r (fun _ hb=>hb) hc e1
    simp only at hz
    cases e2:h1 id <;> rw [e2] at hz <;> simp only [xd] at hz <;> try (cases hz; done)
    rename_i cs
    cases e3:cs[p]? with
    | none=>rw [e3] at hz; cases hz
    | some c =>
     rw [e3] at hz
     cases c <;> simp only [VH] at hz <;> try (cases hz; done)
     rename_i k2 rows2
     simp only [Option.map_eq_some_iff,Prod.mk.injEq] at hz
     obtain ⟨q,e4,hzu,rfl,rfl⟩:=hz
     obtain ⟨rfl,row,g1,g2,rfl⟩:=LP e4
     obtain ⟨us,t,q1,q2⟩:=f1.live_heap (id:=id) (sub:=some p) ⟨cs,k2,rows2,e2,e3⟩
     obtain ⟨w1,w2,w3⟩:=wrS f1 e2 e3 q1 (by rw [f3]; exact c1) f4 g1 (by rw [f3]; exact g2)
     have run:=oU hk hsz c2 q1 (o:=i*k2+j) (by rw [c1] at w3; exact w3)
     exact ⟨_,_,ρ,hzu.symm,rfl,run,w1,by simpa using f2.trans w2⟩
  | _=>cases hz
 ·cases hz
theorem YS {h2:ab} {d:Nat} {b:Nat × Nat} {w2:World} (hd:h2 d ≠ .dead) (hρ:ρ d none=b):RV w2 (aH w2 X h2 ρ) ρ h2 (.ref d none 0 0 0) (.pointer (some ⟨b.1,0,none⟩)):=by
 have:=RV.ref (w:=w2) (A:=aH w2 X h2 ρ) (ρ:=ρ) (h:=h2) d none 0 0 0 hd
 rw [hρ] at this
 simpa using this
theorem YT {h2:ab} {d k n cap:Nat} {b:Nat × Nat} {w2:World} (hd:h2 d ≠ .dead) (hρ:ρ d none=b) (hn:n≤cap) (hb:cap*k=b.2):RV w2 (aH w2 X h2 ρ) ρ h2 (.rsl d none k 0 n) (.slice (some ⟨b.1,0,none⟩) n cap) :=
 .rsl d none k 0 n cap _ hd hn (by rw [hρ]; simpa using hb) (.inr (by rw [hρ]; simp))
theorem V5 {t:TypeId} {k:Nat} (r:Rel w X ρ h) {d:Nat} (hdp:aY d=false) {x z:AV} {u:Value} {ks:K} (hx:RV w (aH w X h ρ) ρ h x u) (hn:vM h d k x=some (z,h',ks)) :
  ∃ v w',(Instr.box t u).run P w=.ok v w'∧Got w X ρ h w' h' ks z v:=by
 simp only [vM,Option.bind_eq_some_iff] at hn
 obtain ⟨xs,e0,hn⟩:=hn
 have hc:=sU hx e0
 obtain ⟨c1,c2,c3⟩:=hc.toList
 split at hn
 ·rename_i hlen
  refine ⟨.pointer (some ⟨w.heap.size,0,none⟩),w.alloc (.cells u.cells t),by simp [Instr.box,newVar,newRow],?_⟩
  split at hn
  ·rename_i hd
   obtain ⟨h1,rfl,rfl,rfl⟩:=i7 hn
   obtain ⟨g6,g7⟩:=tl (e:=t) r hdp h1 (LO hc hd)
   exact ⟨_,g6,g7,YS (by rw [ap]; exact fun e=>by cases e) (bt _ _ _ _)⟩
  ·simp only [Option.bind_eq_some_iff] at hn
   obtain ⟨⟨z1,h1,k1⟩,e1,hn⟩:=hn
   obtain ⟨hd,rfl,rfl,rfl⟩:=i7 e1
   simp only [EP,Option.map_eq_some_iff,Prod.mk.injEq] at hn
   obtain ⟨⟨h2,k2⟩,e2,rfl,rfl,rfl⟩:=hn
   have hok:V1 w (aH w X h ρ) ρ h u.cells (.bx (List.replicate k .any)):=by
    refine ⟨by rw [List.length_replicate,← hlen,← c1]; simp,fun p c hp=>?_⟩
    obtain ⟨hp1,hp2⟩:=List.getElem?_eq_some_iff.1 hp
    simp only [List.length_replicate] at hp1
    rw [List.getElem_replicate] at hp2
    subst hp2
    have hsz:u.cells.size=xs.length:=hc.1
    obtain ⟨v,hv⟩:∃ v,u.cells[p]?=some v:=⟨u.cells[p]'(by omega),Array.getElem?_eq_getElem _⟩
    exact ⟨rfl,v,hv,.anyv v,hc.2.1 p v hv,trivial⟩
   obtain ⟨g6,g7⟩:=tl (e:=t) r hdp hd hok
   have hb1:(w.alloc (.cells u.cells t)).heap[(iF ρ d none (w.heap.size,u.cells.size) d none).1]?=some (.cells u.cells t (0,0)):=by rw [bt]; exact qJ w _
   obtain ⟨ρ',q1,q2,q3,cs',q4⟩:=vR xs.length xs u.cells.toList 0 g6 (ap _ _ _) hb1 c1 (fun m c v h1 h2=>⟨g7.rv (c3 m c v h1 h2).1,(c3 m c v h1 h2).2⟩) (by simp) e2
   rw [jP (by simp) (fun j v hv=>by simpa using hv),setRow_self _ _ _ t (0,0) hb1] at q1 q2
   exact ⟨ρ',q1,g7.trans q2,YS (b:=(w.heap.size,u.cells.size)) (by show h2 d ≠ _; rw [q4]; exact fun e=>by cases e) (by rw [q3,bt])⟩
 ·cases hn
theorem YV (off:Nat) (vs us:Array Value) (hle:off+vs.size≤us.size):vs.zipIdx.foldl (fun cs (c,j)=>cs.setIfInBounds (off+j) c) us=ch us off vs.toList:=by
 have fold:∀ (l:List Value) (k:Nat) (us:Array Value),((l.zipIdx k).foldl (fun cs (x:Value × Nat)=>cs.setIfInBounds (off+x.2) x.1) us).size=us.size ∧
   ∀ (i:Nat),off+k+l.length≤us.size→((l.zipIdx k).foldl (fun cs (x:Value × Nat)=>cs.setIfInBounds (off+x.2) x.1) us)[i]?=if off+k≤i∧i < off+k+l.length then l[i - (off+k)]? else us[i]?:=by
  intro l
  induction l with
  | nil=>intro k us; exact ⟨by simp,fun i _=>by simp; omega⟩
  | cons v l ih =>
   intro k us
   simp only [List.zipIdx_cons,List.foldl_cons]
   obtain ⟨h1,h2⟩:=ih (k+1) (us.setIfInBounds (off+k) v)
   refine ⟨by rw [h1]; simp,fun i hle=>?_⟩
   simp only [List.length_cons] at hle ⊢
   rw [h2 i (by simp; omega)]
   by_cases e1:i=off+k
   ·subst e1
    rw [if_neg (by omega),if_pos (by omega)]
    simp [show off+k < us.size from by omega]
   ·by_cases e2:off+(k+1)≤i∧i < off+(k+1)+l.length
    ·rw [if_pos e2,if_pos (by omega),show i - (off+k)=(i - (off+(k+1)))+1 from by omega]; rfl
    ·rw [if_neg e2,if_neg (by omega),Array.getElem?_setIfInBounds_ne (by omega)]
 have e:vs.zipIdx.foldl (fun cs (c,j)=>cs.setIfInBounds (off+j) c) us=(vs.toList.zipIdx 0).foldl (fun cs (x:Value × Nat)=>cs.setIfInBounds (off+x.2) x.1) us:=by
  rw [← Array.foldl_toList,Array.toList_zipIdx]
 rw [e]
 obtain ⟨h1,h2⟩:=fold vs.toList 0 us
 apply Array.ext_getElem?
 intro i
 have hl:vs.toList.length=vs.size:=Array.length_toList
 rw [h2 i (by rw [hl]; omega),dU (by rw [hl]; omega)]
 rfl
theorem V6 {row xs:List AV} (hl:xs.length=row.length):setRow row 0 xs=xs:=by
 apply List.ext_getElem?
 intro i
 rw [nX i xs row 0 (by omega)]
 split
 ·rfl
 ·rw [List.getElem?_eq_none (by omega),List.getElem?_eq_none (by omega)]
theorem yz {k:Nat} {A0:Nat→Prop} {h0:ab}:∀ (ps:List (Nat × AV)) (vs:List (Nat × Value)) {h h':ab} {rows rows':List (List AV)} {us:Array Value} {ks:K},Rel w X ρ h→(∀ b,A0 b→aH w X h ρ b)→vs.length=ps.length →
  (∀ (m:Nat) (p:Nat × AV) (v:Nat × Value),ps[m]?=some p→vs[m]?=some v→v.1=p.1∧RV w A0 ρ h0 p.2 v.2)→bT w (aH w X h ρ) k rows us→rows.length*k≤us.size→dT k h rows ps=some (rows',h',ks) →
  ∃ us',Instr.fill (fun i=>some (i*k,k)) us vs=some us'∧us'.size=us.size∧rows'.length=rows.length∧bT w (aH w X h' ρ) k rows' us'∧Rel w X ρ h'∧Evo w ρ h w ρ h' ks
 | [],vs,h,h',rows,rows',us,ks,r,hA,hl,hv,hr,hs,hp=>by
  have:vs=[]:=List.eq_nil_of_length_eq_zero (by simpa using hl)
  subst this
  simp only [dT,Option.some.injEq,Prod.mk.injEq] at hp
  obtain ⟨rfl,rfl,rfl⟩:=hp
  exact ⟨us,rfl,rfl,rfl,hr,r,.refl _ _ _⟩
 | p::ps,[],h,h',rows,rows',us,ks,r,hA,hl,hv,hr,hs,hp=>by simp at hl
 | (i,a)::ps,(i',v)::vs,h,h',rows,rows',us,ks,r,hA,hl,hv,hr,hs,hp=>by
  simp only [dT,Option.bind_eq_some_iff] at hp
  obtain ⟨cs,e0,hp⟩:=hp
  obtain ⟨hv1,hv2⟩:=hv 0 (i,a) (i',v) rfl rfl
  simp only at hv1 hv2
  subst hv1
  have hc:=sU hv2 e0
  split at hp
  ·rename_i hcond
   obtain ⟨hck,hi⟩:=hcond
   simp only [Option.bind_eq_some_iff] at hp
   obtain ⟨⟨ds,h1,k1⟩,e1,⟨rows2,h2,k2⟩,e2,e3⟩:=hp
   cases e3
   obtain ⟨f1,f2,f3,f4⟩:=zA r hA hc e1
   obtain ⟨row,hrow⟩:∃ row,rows[i']?=some row:=⟨rows[i'],List.getElem?_eq_getElem hi⟩
   have hrl:=(hr i' row hrow).1
   have hcs:v.cells.toList.length=ds.length:=by rw [f3]; simpa using hc.1
   obtain ⟨g1,g2⟩:=Bq (hr.mono (w':=w) fun b hb=>f2.al hb) hs hrow (j:=0) (xs:=ds) (vals:=v.cells.toList) (by omega) hcs f4
   rw [V6 (by omega),Nat.add_zero] at g1
   rw [Nat.add_zero] at g2
   have hsz:v.cells.size=k:=by rw [hc.1,hck]
   obtain ⟨us',q1,q2,q3,q4,q5,q6⟩:=yz ps vs (us:=ch us (i'*k) v.cells.toList) f1 (fun b hb=>(f2.al (hA b hb)).1) (by simpa using hl) (fun m p q h1 h2=>hv (m+1) p q (by simpa using h1) (by simpa using h2)) g1
    (by rw [cH g2,List.length_set]; exact hs) e2
   refine ⟨us',?_,by rw [q2,cH g2],by rw [q3,List.length_set],q4,q5,f2.trans q6⟩
   simp only [Instr.fill]
   have hle:i'*k+v.cells.size≤us.size:=by simpa using g2
   rw [if_neg (by simp; omega),YV (i'*k) v.cells us hle]
   exact q1
  ·cases hp
end
section
variable {P:Program} {w w':World} {X:Nat→Prop} {ρ ρ':bB} {h h':ab} {A A':Nat→Prop}
theorem jQ {t e:TypeId} (he:pH P t=some e):P.underlying t=some (.slice e):=by
 unfold pH at he
 split at he
 ·cases he; assumption
 ·cases he
theorem tp {e:TypeId} {k:Nat} {zs:List AV} (hk:br P e=some k) (hz:iE P e=some zs) (n c:Nat) (hn:n≤c):∃ zv:Value,(∀ w,(zeroValue e).run P w=.ok zv w) ∧
  ((Array.range (c*k)).map (zv.cells[· % zv.cells.size]!)).size=c*k∧(List.replicate n zs).length*k≤((Array.range (c*k)).map (zv.cells[· % zv.cells.size]!)).size∧bT w A k (List.replicate n zs) ((Array.range (c*k)).map (zv.cells[· % zv.cells.size]!)):=by
 obtain ⟨i,z,g1,g2,g3,g4,g5⟩:=jN (w:=w) (A:=A) (ρ:=fun _ _=>(0,0)) (h:=fun _=>.dead) hz
 have hik:i.size=k:=by simpa [br,g1] using hk
 refine ⟨z,G9 g1 g2,by simp,?_,fun q row hq=>?_⟩
 ·simp only [List.length_replicate,Array.size_map,Array.size_range]
  exact Nat.mul_le_mul_right k hn
 ·obtain ⟨h1,h2⟩:=List.getElem?_eq_some_iff.1 hq
  simp only [List.length_replicate] at h1
  rw [List.getElem_replicate] at h2
  subst h2
  refine ⟨by omega,fun j c2 hj=>?_⟩
  have hjl:=(List.getElem?_eq_some_iff.1 hj).1
  have hjk:j < k:=by omega
  have hzl:j < z.cells.size:=by omega
  have hlt:q*k+j < c*k:=by
   have:(q+1)*k≤c*k:=Nat.mul_le_mul_right k (by omega)
   rw [Nat.add_mul,Nat.one_mul] at this
   omega
  have hd:aA c2=true:=List.all_eq_true.1 (Pa hz) c2 (List.mem_of_getElem? hj)
  refine ⟨z.cells[j],?_,(g5.2.2 j c2 _ hj (Array.getElem?_eq_getElem hzl)).toD hd (g5.2.1 j _ (Array.getElem?_eq_getElem hzl)),hd⟩
  rw [Array.getElem?_map,Array.getElem?_range,if_pos hlt]
  simp only [Option.map_some]
  have hm:(q*k+j) % z.cells.size=j:=by rw [g3,hik,Nat.mul_comm,Nat.mul_add_mod,Nat.mod_eq_of_lt hjk]
  rw [hm,getElem!_pos z.cells j hzl]
theorem l8 (r:Rel w X ρ h) {d k n cap:Nat} (hdp:aY d=false) {rows:List (List AV)} {us:Array Value} {t:TypeId} {x:AV} {ks ks':K} (hr:bT w (aH w X h ρ) k rows us) (hs:rows.length*k≤us.size) (hn:n≤cap) (hc:cap*k=us.size)
  (hz:cG h d k rows n ks=some (x,h',ks')):ks'=ks∧∃ ρ',Rel (w.alloc (.cells us t)) X ρ' h'∧Evo w ρ h (w.alloc (.cells us t)) ρ' h' []∧RV (w.alloc (.cells us t)) (aH (w.alloc (.cells us t)) X h' ρ') ρ' h' x (.slice (some ⟨w.heap.size,0,none⟩) n cap):=by
 obtain ⟨hd,rfl,rfl,rfl⟩:=i7 hz
 obtain ⟨g1,g2⟩:=tl (e:=t) r hdp hd (us:=us) (o:=.ar k rows) ⟨hs,hr⟩
 exact ⟨rfl,_,g1,g2,YT (b:=(w.heap.size,us.size)) (by rw [ap]; exact fun e=>by cases e) (bt _ _ _ _) hn hc⟩
theorem MG (r:Rel w X ρ h) {t e:TypeId} {k n d:Nat} (hdp:aY d=false) {zs:List AV} {ps:List (Nat × AV)} {vs:Array (Nat × Value)} {z:AV} {ks:K} (he:pH P t=some e) (hk:br P e=some k) (hz:iE P e=some zs) (hn:n*k≤16777216)
  (hl:vs.size=ps.length) (hv:∀ (m:Nat) (p:Nat × AV) (v:Nat × Value),ps[m]?=some p→vs[m]?=some v→v.1=p.1∧RV w (aH w X h ρ) ρ h p.2 v.2)
  (hr:((dT k h (List.replicate n zs) ps).bind fun q=>cG q.2.1 d k q.1 n q.2.2)=some (z,h',ks)):∃ v w',(Instr.buildSlice t n vs).run P w=.ok v w'∧Got w X ρ h w' h' ks z v:=by
 simp only [Option.bind_eq_some_iff] at hr
 obtain ⟨⟨rows,h1,k1⟩,e1,e2⟩:=hr
 obtain ⟨zv,z1,z2,z3,z4⟩:=tp (w:=w) (A:=aH w X h ρ) hk hz n n (Nat.le_refl n)
 obtain ⟨us',f1,f2,f3,f4,f5,f6⟩:=yz ps vs.toList r (fun _ hb=>hb) (by simpa using hl) (fun m p v h1 h2=>hv m p v h1 (by simpa using h2)) z4 z3 e1
 have hlen:(List.replicate n zs).length=n:=List.length_replicate
 obtain ⟨rfl,ρ',g1,g2,g3⟩:=l8 (t:=e) (cap:=n) f5 hdp f4 (by rw [f3,f2]; exact z3) (Nat.le_refl n) (by rw [f2,z2]) e2
 refine ⟨.slice (some ⟨w.heap.size,0,none⟩) n n,w.alloc (.cells us' e),?_,ρ',g1,by simpa using f6.trans g2,g3⟩
 have hnk:¬ (n*k > 2 ^ 24):=by omega
 have harr:(Array.range (n*k)).map ((if n*k=0 then #[] else zv.cells)[· % (if n*k=0 then #[] else zv.cells).size]!)=(Array.range (n*k)).map (zv.cells[· % zv.cells.size]!):=by
  by_cases h9:n*k=0
  ·rw [h9]; simp
  ·rw [if_neg h9]
 simp only [Instr.buildSlice,Sem.run_bind,run_underlying (jQ he),Result.andThen,ez hk,if_neg hnk]
 by_cases h9:n*k=0
 ·rw [if_pos h9] at harr ⊢
  simp only [Sem.run_bind,Sem.run_pure,Result.andThen]
  rw [harr,f1]
  simp [newRow]
 ·rw [if_neg h9]
  simp only [Sem.run_bind,Sem.run_pure,Result.andThen,z1]
  rw [f1]
  simp [newRow]
theorem V7 (r:Rel w X ρ h) {t e:TypeId} {k b d:Nat} (hdp:aY d=false) {zs:List AV} {l c z:AV} {ul uc:Value} {ks:K} (he:pH P t=some e) (hk:br P e=some k) (hb:l6 P e=some b) (hz:iE P e=some zs)
  (hl:RV w (aH w X h ρ) ρ h l ul) (hc:RV w (aH w X h ρ) ρ h c uc)
  (hr:((lz l c).bind fun p=>if p.2*b≤140737488355328 then cG h d k (List.replicate p.1 zs) p.1 [] else none)=some (z,h',ks)):∃ v w',(Instr.makeSlice t ul uc).run P w=.ok v w'∧Got w X ρ h w' h' ks z v:=by
 simp only [Option.bind_eq_some_iff] at hr
 obtain ⟨⟨ln,cn⟩,e1,e2⟩:=hr
 simp only at e2
 split at e2
 ·rename_i hbytes
  unfold lz at e1
  split at e1
  ·rename_i li ci
   obtain ⟨rfl,_⟩:=hl.v_inv
   obtain ⟨rfl,_⟩:=hc.v_inv
   split at e1
   ·rename_i hcond
    simp only [Option.some.injEq,Prod.mk.injEq] at e1
    obtain ⟨rfl,rfl⟩:=e1
    obtain ⟨hl0,hlc,hc9⟩:=hcond
    obtain ⟨zv,z1,z2,z3,z4⟩:=tp (w:=w) (A:=aH w X h ρ) hk hz li.toNat ci.toNat (by omega)
    obtain ⟨rfl,ρ',g1,g2,g3⟩:=l8 (t:=e) (cap:=ci.toNat) r hdp z4 z3 (by omega) (by rw [z2]) e2
    refine ⟨_,w.alloc (.cells ((Array.range (ci.toNat*k)).map (zv.cells[· % zv.cells.size]!)) e),?_,ρ',g1,g2,g3⟩
    obtain ⟨i,hi,hib⟩:∃ i,P.info? e=some i∧i.bytes=b:=by simpa [l6] using hb
    have harr:(Array.range (ci.toNat*k)).map ((if ci.toNat*k=0 then #[] else zv.cells)[· % (if ci.toNat*k=0 then #[] else zv.cells).size]!)=(Array.range (ci.toNat*k)).map (zv.cells[· % zv.cells.size]!):=by
     by_cases h9:ci.toNat*k=0
     ·rw [h9]; simp
     ·rw [if_neg h9]
    have hwl:IntKind.i64.wrap li=li:=by simp [IntKind.wrap,IntKind.signed,IntKind.bits]; omega
    have hwc:IntKind.i64.wrap ci=ci:=by simp [IntKind.wrap,IntKind.signed,IntKind.bits]; omega
    have hti:(typeInfo e).run P w=.ok i w:=by simp [typeInfo,hi]
    have hbig:¬ ((b:Int)*ci > 2 ^ 48):=by
     have h8:=Int.ofNat_le.2 hbytes
     rw [Int.natCast_mul,Int.toNat_of_nonneg (by omega),Int.mul_comm] at h8
     omega
    have hli:∀ n,(asInt (.int .i64 n)).run P w=.ok n w:=fun _=>rfl
    simp only [Instr.makeSlice,Sem.run_bind,run_underlying (jQ he),Result.andThen,hli,hti,hib,hwl,hwc]
    rw [if_neg (by simp only [Bool.or_eq_true,decide_eq_true_eq,not_or]; exact ⟨⟨⟨by omega,hbig⟩,by omega⟩,by omega⟩)]
    simp only [Sem.run_bind,run_askRoom,Result.andThen,ez hk]
    by_cases h9:ci.toNat*k=0
    ·rw [if_pos h9] at harr ⊢
     simp only [Sem.run_bind,Sem.run_pure,Result.andThen]
     rw [harr]
     simp [newRow]
    ·rw [if_neg h9]
     simp only [Sem.run_bind,Sem.run_pure,Result.andThen,z1]
     simp [newRow]
   ·cases e1
  ·cases e1
 ·cases e2
end
section
variable {P:Program} {w w':World} {X:Nat→Prop} {ρ ρ':bB} {h h':ab} {A A':Nat→Prop}
theorem uK (r:Rel w X ρ h):Rel w.drew X ρ h∧Evo w ρ h w.drew ρ h []:=by
 have ev:Evo w ρ h w.drew ρ h []:=⟨rfl,rfl,rfl,Nat.le_refl _,fun _ _ _=>rfl,fun _ _ hp _=>⟨hp,rfl⟩,fun _ ho=>.inl ho,fun _ hb=>⟨hb,rfl⟩,fun _ _ hd=>⟨hd,rfl⟩⟩
 exact ⟨r.step ev (fun _=>False) (fun _ _=>⟨rfl,fun _=>rfl,fun _ _=>rfl⟩) r.inj r.nx (fun _ hf=>hf.elim),ev⟩
theorem Ha {k:Nat} {rows:List (List AV)} {ad:Addr} (hk:∀ row ∈ rows,row.length=k) (h0:0 < k)
  (hc:∀ (i:Nat) (row:List AV) (j:Nat) (c:AV),rows[i]?=some row→row[j]?=some c→∃ u,w.cell? (ad.add (i*k+j))=some u∧RD w A c u∧aA c=true) :
  ∃ news:List Value,news.length=rows.length*k∧(∀ (q:Nat) (v:Value),news[q]?=some v→w.cell? (ad.add q)=some v)∧bT w A k rows news.toArray:=by
 have all:∀ q,q < rows.length*k→∃ row c,rows[q / k]?=some row∧row[q % k]?=some c:=by
  intro q hq
  have h1:q / k < rows.length:=Nat.div_lt_of_lt_mul (by rw [Nat.mul_comm]; exact hq)
  have h2:q % k < k:=Nat.mod_lt _ h0
  refine ⟨rows[q / k],(rows[q / k])[q % k]'(by rw [hk _ (List.getElem_mem h1)]; exact h2),List.getElem?_eq_getElem h1,List.getElem?_eq_getElem _⟩
 refine ⟨(List.range (rows.length*k)).map fun q=>(w.cell? (ad.add q)).getD undef,by simp,fun q v hq=>?_,fun i row hi=>⟨hk row (List.mem_of_getElem? hi),fun j c hj=>?_⟩⟩
 ·simp only [List.getElem?_map,Option.map_eq_some_iff] at hq
  obtain ⟨q',hq',rfl⟩:=hq
  obtain ⟨h1,h2⟩:=List.getElem?_eq_some_iff.1 hq'
  simp at h2 h1
  subst h2
  obtain ⟨row,c,h3,h4⟩:=all q h1
  obtain ⟨u,h5,_⟩:=hc _ _ _ _ h3 h4
  have:q / k*k+q % k=q:=by rw [Nat.mul_comm]; exact Nat.div_add_mod q k
  rw [this] at h5
  rw [h5]; rfl
 ·have hil:=(List.getElem?_eq_some_iff.1 hi).1
  have hjl:=(List.getElem?_eq_some_iff.1 hj).1
  rw [hk row (List.mem_of_getElem? hi)] at hjl
  have hlt:i*k+j < rows.length*k:=by
   have:(i+1)*k≤rows.length*k:=Nat.mul_le_mul_right k hil
   rw [Nat.add_mul,Nat.one_mul] at this
   omega
  obtain ⟨u,h5,h6,h7⟩:=hc i row j c hi hj
  refine ⟨u,?_,h6,h7⟩
  rw [List.getElem?_toArray,List.getElem?_map,List.getElem?_range hlt,Option.map_some,h5]
  rfl
theorem fH (size:Nat) (a:Option Addr) (l c:Nat) (w:World):(Builtin.firstCells size 0 (.slice a l c)).run P w=.ok #[] w:=by
 cases a with
 | none=>simp [Builtin.firstCells]
 | some b=>exact run_firstCells_some (P:=P) w size 0 b l c [] (by simp) (fun j v hv=>by simp at hv)
theorem pX {b o k n l cap:Nat} {us:Array Value} {t:TypeId} {fr:Nat × Nat} {rows:List (List AV)} (hb:w.heap[b]?=some (.cells us t fr)) (hr:bT w A k rows us) (hle:o+n≤rows.length) (h0:0 < k) :
  ∃ news:List Value,news.length=n*k∧(∀ w2:World,w2.heap=w.heap→(Builtin.firstCells k n (.slice (some ⟨b,o*k,none⟩) l cap)).run P w2=.ok news.toArray w2)∧bT w A k ((rows.drop o).take n) news.toArray:=by
 have hlen:((rows.drop o).take n).length=n:=by simp; omega
 have at_:∀ (i:Nat) (row:List AV),((rows.drop o).take n)[i]?=some row→rows[o+i]?=some row:=by
  intro i row hi
  rw [List.getElem?_take] at hi
  split at hi
  ·rwa [List.getElem?_drop] at hi
  ·cases hi
 obtain ⟨news,h1,h2,h3⟩:=Ha (w:=w) (A:=A) (k:=k) (rows:=(rows.drop o).take n) (ad:=⟨b,o*k,none⟩) (fun row hrow=>by
  obtain ⟨i,hi⟩:=List.getElem?_of_mem hrow
  exact (hr _ _ (at_ i row hi)).1) h0 (fun i row j c hi hj=>by
  obtain ⟨u,f1,f2,f3⟩:=(hr _ _ (at_ i row hi)).2 j c hj
  exact ⟨u,by rw [jL,vo hb,← Nat.add_assoc,← Nat.add_mul,f1],f2,f3⟩)
 rw [hlen] at h1
 exact ⟨news,h1,fun w2 hw=>run_firstCells_some (P:=P) w2 k n _ l cap news h1 fun j v hv=>by rw [jM (w:=w) (w':=w2) (by rw [hw])]; exact h2 j v hv,h3⟩
theorem Eh (r:Rel w X ρ h) {k:Nat} {y:AV} {uy:Value} {ys:List (List AV)} (h0:0 < k) (hy:RV w (aH w X h ρ) ρ h y uy) (hr:nT h k y=some ys) :
  ∃ a c,uy=.slice a ys.length c∧∃ news:List Value,news.length=ys.length*k∧(∀ w2:World,w2.heap=w.heap→(Builtin.firstCells k ys.length uy).run P w2=.ok news.toArray w2)∧bT w (aH w X h ρ) k ys news.toArray:=by
 cases y with
 | emp =>
  cases hr
  obtain ⟨a,rfl⟩:=hy.emp_inv
  exact ⟨a,0,rfl,[],by simp,fun _ _=>fH _ _ _ _ _,fun i row hi=>by simp at hi⟩
 | sl k' rows =>
  simp only [nT] at hr
  split at hr
  ·rename_i hk
   subst hk
   cases hr
   have hd:=hy.sl_inv
   cases hd with
   | sl _ _ a cap ad vals hc ha hk hv hl hrr =>
    refine ⟨a,cap,rfl,?_⟩
    obtain ⟨news,h1,h2,h3⟩:=Ha (w:=w) (A:=aH w X h ρ) (k:=k') (rows:=ys) (ad:=ad) hk h0 (fun i row j c hi hj=>⟨vals i j,hv i row j c hi hj,hrr i row j c hi hj,hl row (List.mem_of_getElem? hi) c (List.mem_of_getElem? hj)⟩)
    refine ⟨news,h1,?_,h3⟩
    by_cases hne:ys=[]
    ·subst hne
     have:news=[]:=List.eq_nil_of_length_eq_zero (by simpa using h1)
     subst this
     exact fun _ _=>fH _ _ _ _ _
    ·obtain ⟨rfl,_⟩:=ha hne
     exact fun w2 hw=>run_firstCells_some (P:=P) w2 k' _ ad _ cap news h1 fun j v hv=>by rw [jM (w:=w) (w':=w2) (by rw [hw])]; exact h2 j v hv
  ·cases hr
 | rsl id sub k' lo n =>
  simp only [nT] at hr
  split at hr
  ·rename_i hk
   subst hk
   obtain ⟨a,cap,rfl,hp,hn,hb,ha⟩:=hy.rsl_inv
   have key:∀ (rows:List (List AV)) (us:Array Value) (t:TypeId) (fr:Nat × Nat),w.heap[(ρ id sub).1]?=some (.cells us t fr)→bT w (aH w X h ρ) k' rows us→lo+n≤rows.length→ys=(rows.drop lo).take n →
     ∃ a' c,Value.slice a n cap=.slice a' ys.length c∧∃ news:List Value,news.length=ys.length*k'∧(∀ w2:World,w2.heap=w.heap→(Builtin.firstCells k' ys.length (.slice a n cap)).run P w2=.ok news.toArray w2)∧bT w (aH w X h ρ) k' ys news.toArray:=by
    intro rows us t fr g1 g2 g3 g4
    have hlen:ys.length=n:=by rw [g4]; simp; omega
    refine ⟨a,cap,by rw [hlen],?_⟩
    rw [hlen]
    by_cases hn0:n=0
    ·subst hn0
     have:ys=[]:=List.eq_nil_of_length_eq_zero hlen
     subst this
     exact ⟨[],by simp,fun _ _=>fH _ _ _ _ _,fun i row hi=>by simp at hi⟩
    ·rcases ha with h9 | rfl
     ·omega
     ·obtain ⟨news,f1,f2,f3⟩:=pX (P:=P) (l:=n) (cap:=cap) g1 g2 g3 h0
      exact ⟨news,f1,f2,by rw [g4]; exact f3⟩
   have cut:∀ {q:Option (Nat × List (List AV))},fp k' lo n q=some ys→∃ rows,q=some (k',rows)∧lo+n≤rows.length∧ys=(rows.drop lo).take n:=by
    intro q hq
    cases q with
    | none=>cases hq
    | some p =>
     simp only [fp] at hq
     split at hq
     ·rename_i hc
      cases hq
      exact ⟨p.2,by rw [← hc.1],hc.2,rfl⟩
     ·cases hq
   obtain ⟨rows,e1,e2,e3⟩:=cut hr
   have ho:=r.ob id
   cases sub with
   | none =>
    simp only [qD] at e1
    cases e:h id with
    | ar k2 rows2 =>
     rw [e] at e1 ho
     simp only [pq,Option.some.injEq,Prod.mk.injEq] at e1
     obtain ⟨rfl,rfl⟩:=e1
     obtain ⟨us,t,g1,g2,g3,g4⟩:=ho
     exact key _ us t _ g1 g4 e2 e3
    | fz k2 rows2 =>
     rw [e] at e1 ho
     simp only [pq,Option.some.injEq,Prod.mk.injEq] at e1
     obtain ⟨rfl,rfl⟩:=e1
     obtain ⟨_,us,t,fr,g1,g2,g3,g4⟩:=ho
     exact key _ us t _ g1 g4 e2 e3
    | _=>rw [e] at e1; cases e1
   | some p =>
    simp only [qD] at e1
    cases e:h id with
    | bx cs =>
     rw [e] at e1
     simp only [go] at e1
     cases ec:cs[p]? with
     | none=>rw [ec] at e1; cases e1
     | some c =>
      rw [ec] at e1
      cases c <;> simp only [pW] at e1 <;> try (cases e1; done)
      simp only [Option.some.injEq,Prod.mk.injEq] at e1
      obtain ⟨rfl,rfl⟩:=e1
      obtain ⟨us,t,g1,g2,g3,g4⟩:=r.cell e
      obtain ⟨u,_,a',cap',us',t',_,_,_,q4,q5,q6,q7⟩:=g4 p _ ec
      exact key _ us' t' _ q4 q7 e2 e3
    | _=>rw [e] at e1; cases e1
  ·cases hr
 | _=>cases hr
theorem vS {t u ty e e':TypeId} {k:Nat} (ht:P.underlying t=some (.slice e)) (hu:P.underlying u=some (.slice e')) (hk:br P e=some k) {base ay:Option Addr} {n cap m cy:Nat} {news:List Value}
  (hnew:(Builtin.firstCells k m (.slice ay m cy)).run P w=.ok news.toArray w) (hroom:n+m≤cap) (hst:∀ a,base=some a→(storeCells (a.add (n*k)) news).run P w=.ok () w') (hno:base=none→w'=w) :
  (Builtin.append_ #[t,u] ty #[.slice base n cap,.slice ay m cy]).run P w=.ok (.slice base (n+m) cap) w':=by
 cases base with
 | none =>
  obtain rfl:=hno rfl
  simp [Builtin.append_,run_underlying ht,run_underlying hu,ez hk,Builtin.lenOf,hroom,hnew]
 | some a =>
  have:=hst a rfl
  simp [Builtin.append_,run_underlying ht,run_underlying hu,ez hk,Builtin.lenOf,hroom,hnew,this]
theorem Br {t u ty e e':TypeId} {i:TypeInfo} {z:Value} (ht:P.underlying t=some (.slice e)) (hu:P.underlying u=some (.slice e')) (hi:P.info? e=some i) (hz:i.zero=some z) (hb:0 < i.bytes) {base ay:Option Addr} {n cap m cy:Nat} {old news:List Value}
  (hold:(Builtin.firstCells i.size n (.slice base n cap)).run P w.drew=.ok old.toArray w.drew) (hnew:(Builtin.firstCells i.size m (.slice ay m cy)).run P w.drew=.ok news.toArray w.drew) (hg:cap < n+m) (hfit:Builtin.nextslicecap (n+m) cap*i.bytes≤281474976710656) :
  (Builtin.append_ #[t,u] ty #[.slice base n cap,.slice ay m cy]).run P w =
   .ok (.slice (some ⟨w.heap.size,0,none⟩) (n+m) (grownCap w (n+m) cap e)) (w.drew.alloc (.cells (old.toArray++news.toArray++Builtin.zeroCells z.cells (grownCap w (n+m) cap e - (n+m))) e)):=by
 have hn:¬ (n+m≤cap):=by omega
 have h48':¬ (281474976710656 < Builtin.nextslicecap (n+m) cap*i.bytes):=by omega
 have hb':i.bytes ≠ 0:=by omega
 simp [Builtin.append_,run_underlying ht,run_underlying hu,sizeOf,typeInfo,zeroValue,hi,hz,Builtin.lenOf,hn,h48',hb',Question.forced,hold,hnew,newRow,grownCap]
 congr 2
 apply Array.ext'
 simp [List.append_assoc]
end
section
variable {P:Program} {w w':World} {X:Nat→Prop} {ρ ρ':bB} {h h':ab} {A A':Nat→Prop}
theorem Ei {k:Nat} {rows ys:List (List AV)} {us vs ts:Array Value} (h1:bT w A k rows us) (h2:bT w A k ys vs) (g1:∀ q,q < rows.length*k→ts[q]?=us[q]?) (g2:∀ q,q < ys.length*k→ts[rows.length*k+q]?=vs[q]?):bT w A k (rows++ys) ts:=by
 have lt:∀ {l:List (List AV)} {i:Nat} {j:Nat},i < l.length→j < k→i*k+j < l.length*k:=by
  intro l i j hi hj
  have:(i+1)*k≤l.length*k:=Nat.mul_le_mul_right k hi
  rw [Nat.add_mul,Nat.one_mul] at this
  omega
 intro i row hi
 rw [List.getElem?_append] at hi
 split at hi
 ·rename_i hil
  obtain ⟨f1,f2⟩:=h1 i row hi
  refine ⟨f1,fun j c hj=>?_⟩
  have hjl:=(List.getElem?_eq_some_iff.1 hj).1
  rw [g1 _ (lt hil (by omega))]
  exact f2 j c hj
 ·rename_i hil
  obtain ⟨f1,f2⟩:=h2 _ row hi
  have hi2:=(List.getElem?_eq_some_iff.1 hi).1
  refine ⟨f1,fun j c hj=>?_⟩
  have hjl:=(List.getElem?_eq_some_iff.1 hj).1
  have e:i*k+j=rows.length*k+((i - rows.length)*k+j):=by
   rw [← Nat.add_assoc,← Nat.add_mul,show rows.length+(i - rows.length)=i from by omega]
  rw [e,g2 _ (lt hi2 (by omega))]
  exact f2 j c hj
theorem Bs {k:Nat} {rows ys:List (List AV)} {old news:List Value} (zs:Array Value) (h1:bT w A k rows old.toArray) (hl:old.length=rows.length*k) (h2:bT w A k ys news.toArray) (hm:news.length=ys.length*k) :
  bT w A k (rows++ys) (old.toArray++news.toArray++zs):=by
 refine Ei h1 h2 (fun q hq=>?_) (fun q hq=>?_)
 ·rw [Array.append_assoc,Array.getElem?_append_left (by simpa [hl] using hq)]
 ·rw [Array.getElem?_append_left (by simp [hl,hm]; omega),Array.getElem?_append_right (by simp [hl])]
  simp [hl]
theorem V8 {k:Nat} {rows ys:List (List AV)} {us:Array Value} {news:List Value} (h1:bT w A k rows us) (h2:bT w A k ys news.toArray) (hm:news.length=ys.length*k) (hle:rows.length*k+news.length≤us.size) :
  bT w A k (rows++ys) (ch us (rows.length*k) news):=by
 refine Ei h1 h2 (fun q hq=>?_) (fun q hq=>?_)
 ·rw [dU hle,if_neg (by omega)]
 ·rw [dU hle,if_pos (by omega),show rows.length*k+q - rows.length*k=q from by omega]
  simp
theorem Hb (r:Rel w X ρ h) {id k:Nat} {rows:List (List AV)} (e:h id=.ar k rows):Rel w X ρ (upd h id .dead)∧Evo w ρ h w ρ (upd h id .dead) [(id,false)]:=by
 have hl:∀ id' s,live (upd h id .dead) id' s→id' ≠ id∧live h id' s:=by
  intro id' s h1
  by_cases hi:id'=id
  ·subst hi
   exfalso
   cases s <;> simp [live,ap] at h1
  ·exact ⟨hi,(bZ (aG h _ hi)).1 h1⟩
 have ev:Evo w ρ h w ρ (upd h id .dead) [(id,false)]:=by
  refine ⟨rfl,rfl,rfl,Nat.le_refl _,fun _ _ _=>rfl,fun id' s hp hk=>⟨?_,rfl⟩,fun b ho=>?_,fun id' hb=>⟨?_,rfl⟩,fun id' _ hd=>⟨tk (by rw [e]; exact fun e=>by cases e) hd,rfl⟩⟩
  ·have hi:id' ≠ id:=by rintro rfl; simp [fF] at hk
   exact (du (aG h _ hi)).2 hp
  ·obtain ⟨id',s,h1,h2⟩:=ho
   exact .inl ⟨id',s,(hl id' s h1).2,h2⟩
  ·have hi:id' ≠ id:=by rintro rfl; simp [e,bf] at hb
   rw [aG h _ hi]; exact hb
 exact ⟨r.step ev (·=id) (fun id' hi=>⟨aG h _ hi,fun _=>rfl,fun _ _=>rfl⟩) (fun a b c d h1 h2=>r.inj a b c d (hl a b h1).2 (hl c d h2).2) (fun a b h1=>r.nx a b (hl a b h1).2) (fun id' hi=>by subst hi; rw [ap]; trivial),ev⟩
theorem yA {α:Type} (s:Nat→α) (d:Nat) (x y:α):upd (upd s d x) d y=upd s d y:=by
 funext i
 unfold upd
 split <;> rfl
theorem V9 (r:Rel w X ρ h) {id p d k:Nat} {cs:List AV} {rows:List (List AV)} (e:h id=.bx cs) (ep:cs[p]?=some (.osl k rows)) (hdp:aY d=false) (hd:h d=.dead) :
  Rel w X (iF ρ d none (ρ id (some p))) (upd (upd h id (.bx (cs.set p .any))) d (.ar k rows))∧Evo w ρ h w (iF ρ d none (ρ id (some p))) (upd (upd h id (.bx (cs.set p .any))) d (.ar k rows)) [(id,true)]:=by
 have hlp:live h id (some p):=⟨cs,k,rows,e,ep⟩
 have hln:live h id none:=by simp [live,e]
 have hpl:p < cs.length:=(List.getElem?_eq_some_iff.1 ep).1
 have hne:id ≠ d:=by rintro rfl; rw [e] at hd; cases hd
 have hρ:∀ id' s,¬ (id'=d∧s=none)→iF ρ d none (ρ id (some p)) id' s=ρ id' s:=fun id' s hh=>yx hh
 have hl:∀ id' s,live (upd (upd h id (.bx (cs.set p .any))) d (.ar k rows)) id' s→(id'=d∧s=none)∨(¬ (id'=d∧s=none)∧¬ (id'=id∧s=some p)∧live h id' s):=by
  intro id' s h1
  by_cases hi:id'=d
  ·subst hi
   cases s with
   | none=>exact .inl ⟨rfl,rfl⟩
   | some q=>obtain ⟨_,_,_,h2,_⟩:=h1; rw [ap] at h2; cases h2
  ·have h2:=(bZ (aG (upd h id (.bx (cs.set p .any))) (.ar k rows) hi)).1 h1
   by_cases hi2:id'=id
   ·subst hi2
    cases s with
    | none=>exact .inr ⟨by simp [hi],by simp,hln⟩
    | some q =>
     obtain ⟨cs',k',rows',h3,h4⟩:=h2
     rw [ap] at h3
     cases h3
     by_cases hq:q=p
     ·subst hq; rw [List.getElem?_set_self hpl] at h4; cases h4
     ·rw [List.getElem?_set_ne (fun e=>hq e.symm)] at h4
      exact .inr ⟨by simp [hi],by simp [hq],⟨cs,k',rows',e,h4⟩⟩
   ·exact .inr ⟨by simp [hi],by simp [hi2],(bZ (aG h _ hi2)).1 h2⟩
 have blk:∀ id' s,live (upd (upd h id (.bx (cs.set p .any))) d (.ar k rows)) id' s→∃ id2 s2,live h id2 s2∧(iF ρ d none (ρ id (some p)) id' s).1=(ρ id2 s2).1∧((id'=d∧s=none∧id2=id∧s2=some p)∨(id2=id'∧s2=s∧¬ (id2=id∧s2=some p))):=by
  intro id' s h1
  rcases hl id' s h1 with ⟨rfl,rfl⟩ | ⟨h2,h3,h4⟩
  ·exact ⟨id,some p,hlp,by rw [bt],.inl ⟨rfl,rfl,rfl,rfl⟩⟩
  ·exact ⟨id',s,h4,by rw [hρ id' s h2],.inr ⟨rfl,rfl,h3⟩⟩
 have nd:∀ id' s,bM h id' s→id' ≠ d:=by
  rintro id' s hp rfl
  cases s with
  | none=>exact hp hd
  | some q=>obtain ⟨_,_,_,h2,_⟩:=hp; rw [hd] at h2; cases h2
 have ev:Evo w ρ h w (iF ρ d none (ρ id (some p))) (upd (upd h id (.bx (cs.set p .any))) d (.ar k rows)) [(id,true)]:=by
  refine ⟨rfl,rfl,rfl,Nat.le_refl _,fun _ _ _=>rfl,fun id' s hp hk=>?_,fun b ho=>?_,fun id' hb=>?_,fun id' hps hnd=>?_⟩
  ·have hi:=nd id' s hp
   refine ⟨?_,hρ _ _ (by simp [hi])⟩
   by_cases hi2:id'=id
   ·subst hi2
    cases s with
    | none=>simp [bM,aG _ _ hi,ap]
    | some q=>simp [fF] at hk
   ·exact (du (by rw [aG _ _ hi,aG _ _ hi2])).2 hp
  ·obtain ⟨id',s,h1,h2⟩:=ho
   obtain ⟨id2,s2,h3,h4,_⟩:=blk id' s h1
   exact .inl ⟨id2,s2,h3,h4.symm.trans h2⟩
  ·have hi:=nd id' none (Ju hb)
   refine ⟨?_,hρ _ _ (by simp [hi])⟩
   rw [aG _ _ hi]
   by_cases hi2:id'=id
   ·subst hi2; rw [ap]; rfl
   ·rw [aG _ _ hi2]; exact hb
  ·have hi:id' ≠ d:=by rintro rfl; rw [hdp] at hps; cases hps
   rw [aG _ _ hi] at hnd
   exact ⟨tk (by rw [e]; exact fun e=>by cases e) hnd,hρ _ _ (by simp [hi])⟩
 refine ⟨r.step ev (fun i=>i=id∨i=d) (fun id' hi=>?_) (fun i s i' s' h1 h2 h3=>?_) (fun i s h1=>?_) (fun id' hi=>?_),ev⟩
 ·simp only [not_or] at hi
  exact ⟨by rw [aG _ _ hi.2,aG _ _ hi.1],fun s=>hρ _ _ (by simp [hi.2]),fun _ _=>rfl⟩
 ·obtain ⟨i2,s2,f1,f2,f3⟩:=blk i s h1
  obtain ⟨i3,s3,f4,f5,f6⟩:=blk i' s' h2
  obtain ⟨rfl,rfl⟩:=r.inj i2 s2 i3 s3 f1 f4 (by rw [← f2,← f5]; exact h3)
  rcases f3 with ⟨rfl,rfl,f7,f8⟩ | ⟨rfl,rfl,f7⟩ <;> rcases f6 with ⟨rfl,rfl,f9,f10⟩ | ⟨rfl,rfl,f9⟩
  ·exact ⟨rfl,rfl⟩
  ·exact absurd ⟨f7,f8⟩ f9
  ·exact absurd ⟨f9,f10⟩ f7
  ·exact ⟨rfl,rfl⟩
 ·obtain ⟨i2,s2,f1,f2,_⟩:=blk i s h1
  rw [f2]
  exact r.nx _ _ f1
 ·obtain ⟨us0,t0,g1,g2,g3,g4⟩:=r.cell e
  rcases hi with rfl | rfl
  ·rw [aG _ _ hne,ap]
   refine ⟨us0,t0,by rw [hρ _ _ (by simp [hne])]; exact g1,by rw [hρ _ _ (by simp [hne])]; exact g2,by rw [List.length_set]; exact g3,fun q c hq=>?_⟩
   by_cases hqp:q=p
   ·subst hqp
    rw [List.getElem?_set_self hpl] at hq
    cases hq
    obtain ⟨u,f1,a,cap,us1,t1,rfl,_⟩:=g4 q _ ep
    exact ⟨_,f1,.anyv _,rfl,trivial⟩
   ·rw [List.getElem?_set_ne (fun e=>hqp e.symm)] at hq
    obtain ⟨u,f1,f2⟩:=g4 q c hq
    exact ⟨u,f1,f2.keep (fun b hb=>ev.al hb) ev.boxes (hρ _ _ (by simp)) (fun _=>rfl)⟩
  ·rw [ap]
   obtain ⟨u,f1,a,cap,us1,t1,q1,q2,q3,q4,q5,q6,q7⟩:=g4 p _ ep
   exact ⟨us1,t1,by rw [bt]; exact q4,by rw [bt]; exact q5,Nat.le_trans (Nat.mul_le_mul_right k q3) (Nat.le_of_eq q6),q7.mono fun b hb=>ev.al hb⟩
theorem aij (r:Rel w X ρ h) {id d k:Nat} {rows:List (List AV)} (e:h id=.ar k rows) (hdp:aY d=false) (hd:h d=.dead) :
  Rel w X (iF ρ d none (ρ id none)) (upd (upd h id .dead) d (.ar k rows))∧Evo w ρ h w (iF ρ d none (ρ id none)) (upd (upd h id .dead) d (.ar k rows)) [(id,false)]:=by
 have hln:live h id none:=by simp [live,e]
 have hne:id ≠ d:=by rintro rfl; rw [e] at hd; cases hd
 have hρ:∀ id' s,¬ (id'=d∧s=none)→iF ρ d none (ρ id none) id' s=ρ id' s:=fun id' s hh=>yx hh
 have hl:∀ id' s,live (upd (upd h id .dead) d (.ar k rows)) id' s→(id'=d∧s=none)∨(¬ (id'=d∧s=none)∧id' ≠ id∧live h id' s):=by
  intro id' s h1
  by_cases hi:id'=d
  ·subst hi
   cases s with
   | none=>exact .inl ⟨rfl,rfl⟩
   | some q=>obtain ⟨_,_,_,h2,_⟩:=h1; rw [ap] at h2; cases h2
  ·have h2:=(bZ (aG (upd h id .dead) (.ar k rows) hi)).1 h1
   by_cases hi2:id'=id
   ·subst hi2
    exfalso
    cases s <;> simp [live,ap] at h2
   ·exact .inr ⟨by simp [hi],hi2,(bZ (aG h _ hi2)).1 h2⟩
 have blk:∀ id' s,live (upd (upd h id .dead) d (.ar k rows)) id' s→∃ id2 s2,live h id2 s2∧(iF ρ d none (ρ id none) id' s).1=(ρ id2 s2).1∧((id'=d∧s=none∧id2=id∧s2=none)∨(id2=id'∧s2=s∧id2 ≠ id)):=by
  intro id' s h1
  rcases hl id' s h1 with ⟨rfl,rfl⟩ | ⟨h2,h3,h4⟩
  ·exact ⟨id,none,hln,by rw [bt],.inl ⟨rfl,rfl,rfl,rfl⟩⟩
  ·exact ⟨id',s,h4,by rw [hρ id' s h2],.inr ⟨rfl,rfl,h3⟩⟩
 have nd:∀ id' s,bM h id' s→id' ≠ d:=by
  rintro id' s hp rfl
  cases s with
  | none=>exact hp hd
  | some q=>obtain ⟨_,_,_,h2,_⟩:=hp; rw [hd] at h2; cases h2
 have ev:Evo w ρ h w (iF ρ d none (ρ id none)) (upd (upd h id .dead) d (.ar k rows)) [(id,false)]:=by
  refine ⟨rfl,rfl,rfl,Nat.le_refl _,fun _ _ _=>rfl,fun id' s hp hk=>?_,fun b ho=>?_,fun id' hb=>?_,fun id' hps hnd=>?_⟩
  ·have hi:=nd id' s hp
   have hi2:id' ≠ id:=by rintro rfl; simp [fF] at hk
   exact ⟨(du (by rw [aG _ _ hi,aG _ _ hi2])).2 hp,hρ _ _ (by simp [hi])⟩
  ·obtain ⟨id',s,h1,h2⟩:=ho
   obtain ⟨id2,s2,h3,h4,_⟩:=blk id' s h1
   exact .inl ⟨id2,s2,h3,h4.symm.trans h2⟩
  ·have hi:=nd id' none (Ju hb)
   have hi2:id' ≠ id:=by rintro rfl; simp [e,bf] at hb
   exact ⟨by rw [aG _ _ hi,aG _ _ hi2]; exact hb,hρ _ _ (by simp [hi])⟩
  ·have hi:id' ≠ d:=by rintro rfl; rw [hdp] at hps; cases hps
   rw [aG _ _ hi] at hnd
   exact ⟨tk (by rw [e]; exact fun e=>by cases e) hnd,hρ _ _ (by simp [hi])⟩
 refine ⟨r.step ev (fun i=>i=id∨i=d) (fun id' hi=>?_) (fun i s i' s' h1 h2 h3=>?_) (fun i s h1=>?_) (fun id' hi=>?_),ev⟩
 ·simp only [not_or] at hi
  exact ⟨by rw [aG _ _ hi.2,aG _ _ hi.1],fun s=>hρ _ _ (by simp [hi.2]),fun _ _=>rfl⟩
 ·obtain ⟨i2,s2,f1,f2,f3⟩:=blk i s h1
  obtain ⟨i3,s3,f4,f5,f6⟩:=blk i' s' h2
  obtain ⟨rfl,rfl⟩:=r.inj i2 s2 i3 s3 f1 f4 (by rw [← f2,← f5]; exact h3)
  rcases f3 with ⟨rfl,rfl,f7,f8⟩ | ⟨rfl,rfl,f7⟩ <;> rcases f6 with ⟨rfl,rfl,f9,f10⟩ | ⟨rfl,rfl,f9⟩
  ·exact ⟨rfl,rfl⟩
  ·exact absurd f7 f9
  ·exact absurd f9 f7
  ·exact ⟨rfl,rfl⟩
 ·obtain ⟨i2,s2,f1,f2,_⟩:=blk i s h1
  rw [f2]
  exact r.nx _ _ f1
 ·have ho:=r.ob id
  rw [e] at ho
  obtain ⟨us,t0,g1,g2,g3,g4⟩:=ho
  rcases hi with rfl | rfl
  ·rw [aG _ _ hne,ap]
   trivial
  ·rw [ap]
   exact ⟨us,t0,by rw [bt]; exact g1,by rw [bt]; exact g2,g3,g4.mono fun b hb=>ev.al hb⟩
theorem LQ {k lo:Nat} {rows ys:List (List AV)} {us:Array Value} {news:List Value} (_h0:0 < k) (h1:bT w A k rows us) (h2:bT w A k ys news.toArray) (hm:news.length=ys.length*k) (hlo:lo+ys.length≤rows.length) (hle:rows.length*k≤us.size) :
  bT w A k (rows.take lo++ys++rows.drop (lo+ys.length)) (ch us (lo*k) news):=by
 have hle2:lo*k+news.length≤us.size:=by
  have:(lo+ys.length)*k≤rows.length*k:=Nat.mul_le_mul_right k hlo
  rw [Nat.add_mul] at this
  omega
 have hlt:(rows.take lo).length=lo:=by rw [List.length_take]; omega
 intro i row hi
 have cell:∀ j,j < k→∀ a b:Nat,a < b→a*k+j < b*k:=fun j hj a b hab=>by
  have:(a+1)*k≤b*k:=Nat.mul_le_mul_right k hab
  rw [Nat.add_mul,Nat.one_mul] at this
  omega
 by_cases c1:i < lo
 ·have hrow:rows[i]?=some row:=by
   rw [List.append_assoc,List.getElem?_append_left (by omega),List.getElem?_take,if_pos c1] at hi
   exact hi
  obtain ⟨g1,g2⟩:=h1 i row hrow
  refine ⟨g1,fun j c hj=>?_⟩
  obtain ⟨u,f1,f2⟩:=g2 j c hj
  have hjk:j < k:=by rw [← g1]; exact (List.getElem?_eq_some_iff.1 hj).1
  refine ⟨u,?_,f2⟩
  rw [dU hle2,if_neg (by have:=cell j hjk i lo c1; omega)]
  exact f1
 ·by_cases c2:i < lo+ys.length
  ·have hrow:ys[i - lo]?=some row:=by
    rw [List.append_assoc,List.getElem?_append_right (by omega),List.getElem?_append_left (by omega),hlt] at hi
    exact hi
   obtain ⟨g1,g2⟩:=h2 (i - lo) row hrow
   refine ⟨g1,fun j c hj=>?_⟩
   obtain ⟨u,f1,f2⟩:=g2 j c hj
   have hjk:j < k:=by rw [← g1]; exact (List.getElem?_eq_some_iff.1 hj).1
   refine ⟨u,?_,f2⟩
   have e1:=cell j hjk (i - lo) ys.length (by omega)
   have e2:i*k+j=lo*k+((i - lo)*k+j):=by
    have:i*k=lo*k+(i - lo)*k:=by rw [← Nat.add_mul]; congr 1; omega
    omega
   rw [dU hle2,if_pos (by omega),show i*k+j - lo*k=(i - lo)*k+j by omega]
   rw [List.getElem?_toArray] at f1
   exact f1
  ·have hrow:rows[i]?=some row:=by
    rw [List.getElem?_append_right (by rw [List.length_append]; omega),List.getElem?_drop,List.length_append,hlt] at hi
    rw [show lo+ys.length+(i - (lo+ys.length))=i by omega] at hi
    exact hi
   obtain ⟨g1,g2⟩:=h1 i row hrow
   refine ⟨g1,fun j c hj=>?_⟩
   obtain ⟨u,f1,f2⟩:=g2 j c hj
   refine ⟨u,?_,f2⟩
   have e1:(lo+ys.length)*k≤i*k:=Nat.mul_le_mul_right k (by omega)
   rw [Nat.add_mul] at e1
   rw [dU hle2,if_neg (by omega)]
   exact f1
theorem Tc (r:Rel w X ρ h) {t u ty e e':TypeId} {k:Nat} (ht:P.underlying t=some (.slice e)) (hu:P.underlying u=some (.slice e')) (hk:br P e=some k) (h0:0 < k)
  {id lo n:Nat} {rows ys:List (List AV)} (eo:h id=.ar k rows) {a ay:Option Addr} {cap cy:Nat} (hn:n≤cap) (hc:(lo+cap)*k=(ρ id none).2) (ha:cap=0∨a=some ⟨(ρ id none).1,lo*k,none⟩) (hfit:lo+n+ys.length≤rows.length)
  {news:List Value} (n1:news.length=ys.length*k) (hnew:∀ w2:World,w2.heap=w.heap→(Builtin.firstCells k ys.length (.slice ay ys.length cy)).run P w2=.ok news.toArray w2) (n3:bT w (aH w X h ρ) k ys news.toArray) :
  ∃ v w',(Builtin.append_ #[t,u] ty #[.slice a n cap,.slice ay ys.length cy]).run P w=.ok v w'∧Got w X ρ h w' (upd h id (.ar k (rows.take (lo+n)++ys++rows.drop (lo+n+ys.length)))) [] (.rsl id none k lo (n+ys.length)) v:=by
 have hln:live h id none:=by simp [live,eo]
 have ho:=r.ob id
 rw [eo] at ho
 obtain ⟨us,t0,g1,g2,g3,g4⟩:=ho
 have hroom:n+ys.length≤cap:=by
  have h5:rows.length*k≤(lo+cap)*k:=by rw [hc,← g2]; exact g3
  have:=Nat.le_of_mul_le_mul_right h5 h0
  omega
 have hle:(lo+n)*k+news.length≤us.size:=by
  have:(lo+n+ys.length)*k≤rows.length*k:=Nat.mul_le_mul_right k hfit
  rw [Nat.add_mul] at this
  omega
 have h1:∀ v ∈ news,v.oneCell'=true:=by
  intro v hv
  obtain ⟨q,hq⟩:=List.getElem?_of_mem hv
  have hql:q < ys.length*k:=by rw [← n1]; exact (List.getElem?_eq_some_iff.1 hq).1
  have h3:q / k < ys.length:=Nat.div_lt_of_lt_mul (by rw [Nat.mul_comm]; exact hql)
  obtain ⟨f1,f2⟩:=n3 (q / k) _ (List.getElem?_eq_getElem h3)
  have h4:q % k < (ys[q / k]).length:=by rw [f1]; exact Nat.mod_lt _ h0
  obtain ⟨v',f3,f4,f5⟩:=f2 (q % k) _ (List.getElem?_eq_getElem h4)
  have h5:q / k*k+q % k=q:=by rw [Nat.mul_comm]; exact Nat.div_add_mod q k
  rw [h5,List.getElem?_toArray,hq] at f3
  cases f3
  exact f4.one f5
 generalize hm:lo+n=m at hle hfit
 have hlive:∀ s,live (upd h id (.ar k (rows.take m++ys++rows.drop (m+ys.length)))) id s→live h id s:=by
  intro s h1
  cases s with
  | none=>exact hln
  | some q=>obtain ⟨_,_,_,h2,_⟩:=h1; rw [ap] at h2; cases h2
 have hkeep:∀ s,bM h id s→s=none:=by
  intro s hp
  cases s with
  | none=>rfl
  | some q=>obtain ⟨_,_,_,h2,_⟩:=hp; rw [eo] at h2; cases h2
 have ev:Evo w ρ h (w.setRow (ρ id none).1 (ch us (m*k) news)) ρ (upd h id (.ar k (rows.take m++ys++rows.drop (m+ys.length)))) [] :=
  rX (X:=X) r hln _ hlive (fun s hp _=>by rw [hkeep s hp]; simp [bM,ap]) (fun hbf=>by rw [eo] at hbf; cases hbf)
 have hlen2:(rows.take m++ys++rows.drop (m+ys.length)).length=rows.length:=by
  rw [List.length_append,List.length_append,List.length_take,List.length_drop]
  omega
 have hrel:=ns r hln _ hlive ev ⟨_,t0,setRow_heap w _ us _ t0 _ g1,by rw [cH hle]; exact g2,by rw [cH hle,hlen2]; exact g3,LQ h0 (g4.mono fun b hb=>ev.al hb) (n3.mono fun b hb=>ev.al hb) n1 (by omega) g3⟩
 refine ⟨.slice a (n+ys.length) cap,_,vS ht hu hk (hnew w rfl) hroom (w':=w.setRow (ρ id none).1 (ch us (m*k) news)) (fun a' ha'=>?_) (fun ha'=>?_),ρ,hrel,ev,?_⟩
 ·rcases ha with h9 | h9
  ·have e2:ys.length=0:=by omega
   have e3:news=[]:=List.eq_nil_of_length_eq_zero (by rw [n1,e2]; simp)
   subst e3
   rw [jP (by simpa using hle) (fun j v hv=>by simp at hv),setRow_self w _ us t0 (0,0) g1]
   rfl
  ·rw [h9] at ha'
   cases ha'
   rw [jL,← Nat.add_mul,hm]
   have:=run_storeCells_at P (ρ id none).1 (m*k) t0 news 0 us w g1 (by simpa using hle) h1
   simpa [ch] using this
 ·rcases ha with h9 | h9
  ·have e2:ys.length=0:=by omega
   have e3:news=[]:=List.eq_nil_of_length_eq_zero (by rw [n1,e2]; simp)
   subst e3
   rw [jP (by simpa using hle) (fun j v hv=>by simp at hv),setRow_self w _ us t0 (0,0) g1]
  ·rw [h9] at ha'; cases ha'
 ·exact .rsl id none k lo _ cap a (by simp [bM,ap]) hroom hc ha
theorem zB (r:Rel w X ρ h) {t u ty e e':TypeId} {k b:Nat} {zs:List AV} (ht:P.underlying t=some (.slice e)) (hu:P.underlying u=some (.slice e')) (hk:br P e=some k) (hb:l6 P e=some b) (hz:iE P e=some zs) (h0:0 < k) (hb0:0 < b)
  {id:Nat} {rows ys:List (List AV)} (eo:h id=.ar k rows) (hps:aY id=false) {a ay:Option Addr} {cap cy:Nat} (hn:rows.length≤cap) (hc:cap*k=(ρ id none).2) (ha:cap=0∨a=some ⟨(ρ id none).1,0,none⟩)
  {news:List Value} (hl:news.length=ys.length*k) (hnew:∀ w2:World,w2.heap=w.heap→(Builtin.firstCells k ys.length (.slice ay ys.length cy)).run P w2=.ok news.toArray w2) (hr:bT w (aH w X h ρ) k ys news.toArray) (hfit:(rows.length+ys.length)*b≤140737488355328) :
  ∃ v w',(Builtin.append_ #[t,u] ty #[.slice a rows.length cap,.slice ay ys.length cy]).run P w=.ok v w'∧Got w X ρ h w' (upd h id (.ar k (rows++ys))) [(id,false)] (.rsl id none k 0 (rows.length+ys.length)) v:=by
 have hln:live h id none:=by simp [live,eo]
 have ho:=r.ob id
 rw [eo] at ho
 obtain ⟨us,t0,g1,g2,g3,g4⟩:=ho
 by_cases hroom:rows.length+ys.length≤cap
 ·have hle:rows.length*k+news.length≤us.size:=by
   have:(rows.length+ys.length)*k≤cap*k:=Nat.mul_le_mul_right k hroom
   rw [Nat.add_mul] at this
   omega
  have h1:∀ v ∈ news,v.oneCell'=true:=by
   intro v hv
   obtain ⟨q,hq⟩:=List.getElem?_of_mem hv
   have hql:q < ys.length*k:=by rw [← hl]; exact (List.getElem?_eq_some_iff.1 hq).1
   have h3:q / k < ys.length:=Nat.div_lt_of_lt_mul (by rw [Nat.mul_comm]; exact hql)
   obtain ⟨f1,f2⟩:=hr (q / k) _ (List.getElem?_eq_getElem h3)
   have h4:q % k < (ys[q / k]).length:=by rw [f1]; exact Nat.mod_lt _ h0
   obtain ⟨v',f3,f4,f5⟩:=f2 (q % k) _ (List.getElem?_eq_getElem h4)
   have h5:q / k*k+q % k=q:=by rw [Nat.mul_comm]; exact Nat.div_add_mod q k
   rw [h5,List.getElem?_toArray,hq] at f3
   cases f3
   exact f4.one f5
  have hlive:∀ s,live (upd h id (.ar k (rows++ys))) id s→live h id s:=by
   intro s h1
   cases s with
   | none=>exact hln
   | some q=>obtain ⟨_,_,_,h2,_⟩:=h1; rw [ap] at h2; cases h2
  have ev:Evo w ρ h (w.setRow (ρ id none).1 (ch us (rows.length*k) news)) ρ (upd h id (.ar k (rows++ys))) [(id,false)] :=
   rX (X:=X) r hln _ hlive (fun s hp hk=>by simp [fF] at hk) (fun hbf=>by rw [eo] at hbf; cases hbf)
  have hrel:=ns r hln _ hlive ev ⟨_,t0,setRow_heap w _ us _ t0 _ g1,by rw [cH hle]; exact g2,by rw [cH hle,List.length_append,Nat.add_mul,← hl]; exact hle,V8 (g4.mono fun b hb=>ev.al hb) (hr.mono fun b hb=>ev.al hb) hl hle⟩
  refine ⟨.slice a (rows.length+ys.length) cap,_,vS ht hu hk (hnew w rfl) hroom (w':=w.setRow (ρ id none).1 (ch us (rows.length*k) news)) (fun a' ha'=>?_) (fun ha'=>?_),ρ,hrel,ev,?_⟩
  ·rcases ha with h9 | h9
   ·have e1:rows.length=0:=by omega
    have e2:ys.length=0:=by omega
    have e3:news=[]:=List.eq_nil_of_length_eq_zero (by rw [hl,e2]; simp)
    subst e3
    rw [jP (by simpa using hle) (fun j v hv=>by simp at hv),setRow_self w _ us t0 (0,0) g1]
    rfl
   ·rw [h9] at ha'
    cases ha'
    rw [jL,Nat.zero_add]
    have:=run_storeCells_at P (ρ id none).1 (rows.length*k) t0 news 0 us w g1 (by simpa using hle) h1
    simpa [ch] using this
  ·rcases ha with h9 | h9
   ·have e1:rows.length=0:=by omega
    have e2:ys.length=0:=by omega
    have e3:news=[]:=List.eq_nil_of_length_eq_zero (by rw [hl,e2]; simp)
    subst e3
    rw [jP (by simpa using hle) (fun j v hv=>by simp at hv),setRow_self w _ us t0 (0,0) g1]
   ·rw [h9] at ha'; cases ha'
  ·exact .rsl id none k 0 _ cap a (by simp [bM,ap]) hroom (by simpa using hc) (by simpa using ha)
 ·obtain ⟨i,z,z1,z2,z3,z4,_⟩:=jN (w:=w) (A:=aH w X h ρ) (ρ:=ρ) (h:=h) hz
  have hik:i.size=k:=by simpa [br,z1] using hk
  have hib:i.bytes=b:=by simpa [l6,z1] using hb
  obtain ⟨old,o1,o2,o3⟩:∃ old:List Value,old.length=rows.length*k∧(Builtin.firstCells k rows.length (.slice a rows.length cap)).run P w.drew=.ok old.toArray w.drew∧bT w (aH w X h ρ) k rows old.toArray:=by
   by_cases hr0:rows.length=0
   ·refine ⟨[],by rw [hr0]; simp,by rw [hr0]; exact fH _ _ _ _ _,fun i row hi=>?_⟩
    rw [List.eq_nil_of_length_eq_zero hr0] at hi
    simp at hi
   ·rcases ha with h9 | rfl
    ·omega
    ·obtain ⟨old,f1,f2,f3⟩:=pX (P:=P) (w:=w) (A:=aH w X h ρ) (o:=0) (n:=rows.length) (l:=rows.length) (cap:=cap) g1 g4 (by omega) h0
     simp only [Nat.zero_mul] at f2
     exact ⟨old,f1,f2 _ rfl,by simpa using f3⟩
  have run:=Br (P:=P) (w:=w) (ty:=ty) ht hu z1 z2 (by omega) (old:=old) (news:=news) (n:=rows.length) (m:=ys.length) (by rw [hik]; exact o2) (by rw [hik]; exact hnew w.drew rfl) (by omega) (growslice_fits (by omega) (by rw [hib]; exact hfit))
  obtain ⟨d1,d2⟩:=Hb r eo
  obtain ⟨d3,d4⟩:=uK d1
  have hrows:=Bs (w:=w) (A:=aH w X h ρ) (Builtin.zeroCells z.cells (grownCap w (rows.length+ys.length) cap e - (rows.length+ys.length))) o3 o1 hr hl
  have hge:=grownCap_ge w (rows.length+ys.length) cap e
  have hsz:(old.toArray++news.toArray++Builtin.zeroCells z.cells (grownCap w (rows.length+ys.length) cap e - (rows.length+ys.length))).size=grownCap w (rows.length+ys.length) cap e*k:=by
   simp only [Array.size_append,List.size_toArray,size_zeroCells,z3,hik,o1,hl,← Nat.add_mul]
   congr 1
   omega
  have hlen:(rows++ys).length=rows.length+ys.length:=List.length_append
  obtain ⟨n1,n2⟩:=tl (e:=e) d3 hps (ap _ _ _) (o:=.ar k (rows++ys)) (us:=old.toArray++news.toArray++Builtin.zeroCells z.cells (grownCap w (rows.length+ys.length) cap e - (rows.length+ys.length)))
   ⟨by rw [hsz,hlen]; exact Nat.mul_le_mul_right k hge,hrows.mono fun b hb=>by obtain ⟨q1,q2⟩:=d2.al hb; obtain ⟨q3,q4⟩:=d4.al q1; exact ⟨q3,q4.trans q2⟩⟩
  rw [yA] at n1 n2
  refine ⟨_,_,run,_,n1,by simpa using d2.trans (d4.trans n2),?_⟩
  exact YT (b:=(w.heap.size,_)) (by rw [ap]; exact fun e=>by cases e) (bt _ _ _ _) hge (by rw [hsz])
theorem Evo.cut {ks:K} {d:Nat} (e:Evo w ρ h w' ρ' h' (ks++[(d,false)])) (hd:h d=.dead):Evo w ρ h w' ρ' h' ks :=
 ⟨e.os,e.tape,e.output,e.size,e.old,fun id sub hp hk=>e.keep id sub hp (by
  have hi:id ≠ d:=by
   rintro rfl
   cases sub with
   | none=>exact hp hd
   | some q=>obtain ⟨_,_,_,h2,_⟩:=hp; rw [hd] at h2; cases h2
  rw [uI,hk]
  simpa [fF] using fun e:d=id=>hi e.symm),e.fresh,e.boxes,e.stay⟩
theorem Wa (r:Rel w X ρ h) {t u ty e e':TypeId} {k b:Nat} {zs:List AV} (ht:P.underlying t=some (.slice e)) (hu:P.underlying u=some (.slice e')) (hk:br P e=some k) (hb:l6 P e=some b) (hz:iE P e=some zs) (h0:0 < k) (hb0:0 < b)
  {d:Nat} (hdp:aY d=false) {x y z:AV} {ux uy:Value} {ks:K} (hx:RV w (aH w X h ρ) ρ h x ux) (hy:RV w (aH w X h ρ) ρ h y uy) (hr:Jp h d k b x y=some (z,h',ks)) :
  ∃ v w',(Builtin.append_ #[t,u] ty #[ux,uy]).run P w=.ok v w'∧Got w X ρ h w' h' ks z v:=by
 simp only [Jp,Option.bind_eq_some_iff] at hr
 obtain ⟨ys,e1,hr⟩:=hr
 obtain ⟨ay,cy,rfl,news,n1,n2,n3⟩:=Eh (P:=P) r h0 hy e1
 cases x with
 | emp =>
  obtain ⟨a,rfl⟩:=hx.emp_inv
  simp only at hr
  split at hr
  ·rename_i hfit
   cases ys with
   | nil =>
    simp only [Jo,Option.some.injEq,Prod.mk.injEq] at hr
    obtain ⟨rfl,rfl,rfl⟩:=hr
    have e3:news=[]:=List.eq_nil_of_length_eq_zero (by simpa using n1)
    subst e3
    exact ⟨_,w,vS ht hu hk (n2 w rfl) (Nat.le_refl _) (fun _ _=>rfl) (fun _=>rfl),ρ,r,.refl _ _ _,.dat (.emp a)⟩
   | cons row rest =>
    simp only [Jo] at hr
    obtain ⟨i,zv,z1,z2,z3,z4,_⟩:=jN (w:=w) (A:=aH w X h ρ) (ρ:=ρ) (h:=h) hz
    have hik:i.size=k:=by simpa [br,z1] using hk
    have hib:i.bytes=b:=by simpa [l6,z1] using hb
    have run:=Br (P:=P) (w:=w) (ty:=ty) (base:=a) (n:=0) (cap:=0) (old:=[]) (news:=news) (m:=(row::rest).length) ht hu z1 z2 (by omega) (fH _ _ _ _ _) (by rw [hik]; exact n2 w.drew rfl) (by simp)
     (growslice_fits (by simp) (by rw [hib]; simpa using hfit))
    obtain ⟨d3,d4⟩:=uK r
    have hge:=grownCap_ge w (0+(row::rest).length) 0 e
    have hrows:=Bs (w:=w) (A:=aH w X h ρ) (rows:=[]) (old:=[]) (Builtin.zeroCells zv.cells (grownCap w (0+(row::rest).length) 0 e - (0+(row::rest).length))) (fun i row hi=>by simp at hi) (by simp) n3 n1
    have hsz:(([]:List Value).toArray++news.toArray++Builtin.zeroCells zv.cells (grownCap w (0+(row::rest).length) 0 e - (0+(row::rest).length))).size=grownCap w (0+(row::rest).length) 0 e*k:=by
     simp only [Array.size_append,List.size_toArray,size_zeroCells,z3,hik,n1,List.length_nil,Nat.zero_add,← Nat.add_mul]
     simp only [Nat.zero_add] at hge
     congr 1
     omega
    obtain ⟨rfl,ρ',q1,q2,q3⟩:=l8 (t:=e) (cap:=grownCap w (0+(row::rest).length) 0 e) d3 hdp (hrows.mono fun b hb=>d4.al hb) (by rw [hsz]; exact Nat.mul_le_mul_right k (by simpa using hge)) (by simpa using hge) (by rw [hsz]) hr
    refine ⟨_,_,run,ρ',q1,d4.trans q2,?_⟩
    simpa using q3
  ·cases hr
 | rsl id sub k' lo n =>
  obtain ⟨a,cap,rfl,hp,hn,hbd,ha⟩:=hx.rsl_inv
  cases sub with
  | none =>
   simp only at hr
   cases eo:h id <;> rw [eo] at hr <;> simp only [OU] at hr <;> try (cases hr; done)
   rename_i k2 rows
   split at hr
   ·rename_i hcond
    obtain ⟨rfl,rfl,rfl,rfl,hid,hfit⟩:=hcond
    simp only [Option.some.injEq,Prod.mk.injEq] at hr
    obtain ⟨rfl,rfl,rfl⟩:=hr
    exact zB r ht hu hk hb hz h0 hb0 eo (by simp only [aY,decide_eq_false_iff_not]; omega) hn (by simpa using hbd) (by simpa using ha) n1 n2 n3 hfit
   ·rename_i hno
    unfold EQ at hr
    split at hr
    ·rename_i hcond
     obtain ⟨rfl,rfl,hfit⟩:=hcond
     simp only [Option.some.injEq,Prod.mk.injEq] at hr
     obtain ⟨rfl,rfl,rfl⟩:=hr
     exact Tc r ht hu hk h0 eo hn hbd ha hfit n1 n2 n3
    ·split at hr
     ·rename_i hcond
      obtain ⟨rfl,rfl,rfl,rfl,hfit⟩:=hcond
      obtain ⟨hd',rfl,rfl,rfl⟩:=i7 hr
      have hne:d ≠ id:=by
       rintro rfl
       simp only [aY,decide_eq_false_iff_not] at hdp
       exact hno ⟨rfl,rfl,rfl,rfl,by omega,hfit⟩
      have hd:h d=.dead:=by rwa [aG _ _ hne] at hd'
      obtain ⟨m1,m2⟩:=aij r eo hdp hd
      obtain ⟨v,w',q1,ρ',q2,q3,q4⟩:=zB (ty:=ty) (a:=a) (ay:=ay) (cy:=cy) (cap:=cap) m1 ht hu hk hb hz h0 hb0 (ap _ _ _) hdp hn (by rw [bt]; simpa using hbd) (by rw [bt]; simpa using ha) n1 n2 (n3.mono fun b hb=>m2.al hb) hfit
      rw [yA] at q2 q3 q4
      exact ⟨v,w',q1,ρ',q2,(m2.trans q3).cut hd,q4⟩
     ·cases hr
  | some p =>
   simp only at hr
   cases eo:h id <;> rw [eo] at hr <;> simp only [abM] at hr <;> try (cases hr; done)
   rename_i cs
   cases ec:cs[p]? with
   | none=>rw [ec] at hr; cases hr
   | some c =>
    rw [ec] at hr
    cases c <;> simp only [ah7] at hr <;> try (cases hr; done)
    rename_i k2 rows
    split at hr
    ·rename_i hcond
     obtain ⟨rfl,rfl,rfl,rfl,hfit⟩:=hcond
     obtain ⟨hd',rfl,rfl,rfl⟩:=i7 hr
     have hne:d ≠ id:=by rintro rfl; rw [ap] at hd'; cases hd'
     have hd:h d=.dead:=by rwa [aG _ _ hne] at hd'
     obtain ⟨m1,m2⟩:=V9 r eo ec hdp hd
     obtain ⟨v,w',q1,ρ',q2,q3,q4⟩:=zB (ty:=ty) (a:=a) (ay:=ay) (cy:=cy) (cap:=cap) m1 ht hu hk hb hz h0 hb0 (ap _ _ _) hdp hn (by rw [bt]; simpa using hbd) (by rw [bt]; simpa using ha) n1 n2 (n3.mono fun b hb=>m2.al hb) hfit
     rw [yA] at q2 q3 q4
     exact ⟨v,w',q1,ρ',q2,(m2.trans q3).cut hd,q4⟩
    ·cases hr
 | _=>cases hr
end
section
variable {P:Program} {w w':World} {X:Nat→Prop} {ρ ρ':bB} {h h':ab} {A A':Nat→Prop}
theorem abV {t u ty e:TypeId} {k:Nat} (ht:P.underlying t=some (.slice e)) (hk:br P e=some k) {base ay:Option Addr} {n cap l m cy:Nat} {news:List Value} (hm:Nat.min l n=m)
  (hnew:(Builtin.firstCells k m (.slice ay l cy)).run P w=.ok news.toArray w) (hst:∀ a,base=some a→(storeCells a news).run P w=.ok () w') (hno:base=none→w'=w) :
  (Builtin.copy_ #[t,u] ty #[.slice base n cap,.slice ay l cy]).run P w=.ok (goInt m) w':=by
 cases base with
 | none =>
  obtain rfl:=hno rfl
  simp [Builtin.copy_,run_underlying ht,ez hk,Builtin.lenOf,hm,hnew]
 | some a =>
  have:=hst a rfl
  simp [Builtin.copy_,run_underlying ht,ez hk,Builtin.lenOf,hm,hnew,this]
theorem Wb {y:AV} {uy:Value} {l m:Nat} (hl:OW y=some l) (hy:RV w A ρ h y uy):∃ a c,uy=.slice a l c∧RV w A ρ h (OV m y) (.slice a (min m l) c):=by
 cases y with
 | emp =>
  cases hl
  obtain ⟨a,rfl⟩:=hy.emp_inv
  refine ⟨a,0,rfl,?_⟩
  rw [Nat.min_zero]
  exact hy
 | sl k rows =>
  cases hl
  have hd:=hy.sl_inv
  cases hd with
  | sl _ _ a cap ad vals hc ha hk hv hll hr =>
   refine ⟨a,cap,rfl,?_⟩
   have hlen:(rows.take m).length=min m rows.length:=List.length_take
   have hget:∀ {i:Nat} {row:List AV},(rows.take m)[i]?=some row→rows[i]?=some row:=fun {i row} hi=>by
    rw [List.getElem?_take] at hi
    split at hi
    ·exact hi
    ·cases hi
   have h1:RD w A (.sl k (rows.take m)) (.slice a (rows.take m).length cap) :=
    .sl k (rows.take m) a cap ad vals (by rw [hlen]; omega) (fun hne=>ha (fun e=>hne (by rw [e]; simp))) (fun row hm=>hk row (List.mem_of_mem_take hm))
     (fun i row j c hi hj=>hv i row j c (hget hi) hj) (fun row hm=>hll row (List.mem_of_mem_take hm)) (fun i row j c hi hj=>hr i row j c (hget hi) hj)
   rw [hlen] at h1
   exact .dat h1
 | rsl id sub k lo n =>
  cases hl
  obtain ⟨a,cap,rfl,hp,hn,hb,ha⟩:=hy.rsl_inv
  exact ⟨a,cap,rfl,.rsl id sub k lo (min m l) cap a hp (by omega) hb ha⟩
 | _=>cases hl
theorem Wc {k lo:Nat} {rows ys:List (List AV)} {us:Array Value} {news:List Value} (_h0:0 < k) (h1:bT w A k rows us) (h2:bT w A k ys news.toArray) (hm:news.length=ys.length*k) (hlo:lo≤rows.length) (hle2:lo*k+news.length≤us.size) :
  bT w A k (rows.take lo++ys++rows.drop (lo+ys.length)) (ch us (lo*k) news):=by
 have hlt:(rows.take lo).length=lo:=by rw [List.length_take]; omega
 intro i row hi
 have cell:∀ j,j < k→∀ a b:Nat,a < b→a*k+j < b*k:=fun j hj a b hab=>by
  have:(a+1)*k≤b*k:=Nat.mul_le_mul_right k hab
  rw [Nat.add_mul,Nat.one_mul] at this
  omega
 by_cases c1:i < lo
 ·have hrow:rows[i]?=some row:=by
   rw [List.append_assoc,List.getElem?_append_left (by omega),List.getElem?_take,if_pos c1] at hi
   exact hi
  obtain ⟨g1,g2⟩:=h1 i row hrow
  refine ⟨g1,fun j c hj=>?_⟩
  obtain ⟨u,f1,f2⟩:=g2 j c hj
  have hjk:j < k:=by rw [← g1]; exact (List.getElem?_eq_some_iff.1 hj).1
  refine ⟨u,?_,f2⟩
  rw [dU hle2,if_neg (by have:=cell j hjk i lo c1; omega)]
  exact f1
 ·by_cases c2:i < lo+ys.length
  ·have hrow:ys[i - lo]?=some row:=by
    rw [List.append_assoc,List.getElem?_append_right (by omega),List.getElem?_append_left (by omega),hlt] at hi
    exact hi
   obtain ⟨g1,g2⟩:=h2 (i - lo) row hrow
   refine ⟨g1,fun j c hj=>?_⟩
   obtain ⟨u,f1,f2⟩:=g2 j c hj
   have hjk:j < k:=by rw [← g1]; exact (List.getElem?_eq_some_iff.1 hj).1
   refine ⟨u,?_,f2⟩
   have e1:=cell j hjk (i - lo) ys.length (by omega)
   have e2:i*k+j=lo*k+((i - lo)*k+j):=by
    have:i*k=lo*k+(i - lo)*k:=by rw [← Nat.add_mul]; congr 1; omega
    omega
   rw [dU hle2,if_pos (by omega),show i*k+j - lo*k=(i - lo)*k+j by omega]
   rw [List.getElem?_toArray] at f1
   exact f1
  ·have hrow:rows[i]?=some row:=by
    rw [List.getElem?_append_right (by rw [List.length_append]; omega),List.getElem?_drop,List.length_append,hlt] at hi
    rw [show lo+ys.length+(i - (lo+ys.length))=i by omega] at hi
    exact hi
   obtain ⟨g1,g2⟩:=h1 i row hrow
   refine ⟨g1,fun j c hj=>?_⟩
   obtain ⟨u,f1,f2⟩:=g2 j c hj
   refine ⟨u,?_,f2⟩
   have e1:(lo+ys.length)*k≤i*k:=Nat.mul_le_mul_right k (by omega)
   rw [Nat.add_mul] at e1
   rw [dU hle2,if_neg (by omega)]
   exact f1
theorem Wd (r:Rel w X ρ h) {t u ty e:TypeId} {k:Nat} (ht:P.underlying t=some (.slice e)) (hk:br P e=some k) (h0:0 < k)
  {x y z:AV} {ux uy:Value} {ks:K} (hx:RV w (aH w X h ρ) ρ h x ux) (hy:RV w (aH w X h ρ) ρ h y uy) (hr:Jq h k x y=some (z,h',ks)) :
  ∃ v w',(Builtin.copy_ #[t,u] ty #[ux,uy]).run P w=.ok v w'∧Got w X ρ h w' h' ks z v:=by
 unfold Jq at hr
 split at hr
 ·rename_i id k' lo n
  simp only [Option.bind_eq_some_iff] at hr
  obtain ⟨l,e1,ys,e2,hr⟩:=hr
  obtain ⟨ay,cy,rfl,hcut⟩:=Wb (m:=n) e1 hy
  obtain ⟨a',c',e3,news,n1,n2,n3⟩:=Eh (P:=P) r h0 hcut e2
  injection e3 with e4 e5 e6
  subst e4 e6
  obtain ⟨a,cap,rfl,hp,hn,hbd,ha⟩:=hx.rsl_inv
  cases eo:h id <;> rw [eo] at hr <;> simp only [OX] at hr <;> try (cases hr; done)
  rename_i k2 rows
  split at hr
  ·rename_i hcond
   obtain ⟨rfl,rfl,hfit,hlen⟩:=hcond
   simp only [Option.some.injEq,Prod.mk.injEq] at hr
   obtain ⟨rfl,rfl,rfl⟩:=hr
   have hln:live h id none:=by simp [live,eo]
   have ho:=r.ob id
   rw [eo] at ho
   obtain ⟨us,t0,g1,g2,g3,g4⟩:=ho
   have hyn:ys.length≤n:=by omega
   have hle:lo*k'+news.length≤us.size:=by
    have:(lo+ys.length)*k'≤(lo+cap)*k':=Nat.mul_le_mul_right k' (by omega)
    rw [Nat.add_mul,hbd] at this
    omega
   have h1:∀ v ∈ news,v.oneCell'=true:=by
    intro v hv
    obtain ⟨q,hq⟩:=List.getElem?_of_mem hv
    have hql:q < ys.length*k':=by rw [← n1]; exact (List.getElem?_eq_some_iff.1 hq).1
    have h3:q / k' < ys.length:=Nat.div_lt_of_lt_mul (by rw [Nat.mul_comm]; exact hql)
    obtain ⟨f1,f2⟩:=n3 (q / k') _ (List.getElem?_eq_getElem h3)
    have h4:q % k' < (ys[q / k']).length:=by rw [f1]; exact Nat.mod_lt _ h0
    obtain ⟨v',f3,f4,f5⟩:=f2 (q % k') _ (List.getElem?_eq_getElem h4)
    have h5:q / k'*k'+q % k'=q:=by rw [Nat.mul_comm]; exact Nat.div_add_mod q k'
    rw [h5,List.getElem?_toArray,hq] at f3
    cases f3
    exact f4.one f5
   have hlive:∀ s,live (upd h id (.ar k' (rows.take lo++ys++rows.drop (lo+ys.length)))) id s→live h id s:=by
    intro s h1
    cases s with
    | none=>exact hln
    | some q=>obtain ⟨_,_,_,h2,_⟩:=h1; rw [ap] at h2; cases h2
   have hkeep:∀ s,bM h id s→s=none:=by
    intro s hp
    cases s with
    | none=>rfl
    | some q=>obtain ⟨_,_,_,h2,_⟩:=hp; rw [eo] at h2; cases h2
   have ev:Evo w ρ h (w.setRow (ρ id none).1 (ch us (lo*k') news)) ρ (upd h id (.ar k' (rows.take lo++ys++rows.drop (lo+ys.length)))) [] :=
    rX (X:=X) r hln _ hlive (fun s hp _=>by rw [hkeep s hp]; simp [bM,ap]) (fun hbf=>by rw [eo] at hbf; cases hbf)
   have hlen2:(rows.take lo++ys++rows.drop (lo+ys.length)).length*k'≤us.size:=by
    rw [List.length_append,List.length_append,List.length_take,List.length_drop]
    by_cases hq:lo+ys.length≤rows.length
    ·rw [show min lo rows.length+ys.length+(rows.length - (lo+ys.length))=rows.length by omega]
     exact g3
    ·rw [show min lo rows.length+ys.length+(rows.length - (lo+ys.length))=lo+ys.length by omega,Nat.add_mul,← n1]
     exact hle
   have hrel:=ns r hln _ hlive ev ⟨_,t0,setRow_heap w _ us _ t0 _ g1,by rw [cH hle]; exact g2,by rw [cH hle]; exact hlen2,Wc h0 (g4.mono fun b hb=>ev.al hb) (n3.mono fun b hb=>ev.al hb) n1 hfit hle⟩
   have hmin:Nat.min l n=ys.length:=hlen.symm
   have hnew:(Builtin.firstCells k' ys.length (.slice ay l cy)).run P w=.ok news.toArray w:=by
    have:=n2 w rfl
    cases ay <;> exact this
   refine ⟨goInt ys.length,_,abV ht hk hmin hnew (w':=w.setRow (ρ id none).1 (ch us (lo*k') news)) (fun a2 ha'=>?_) (fun ha'=>?_),⟨ρ,hrel,ev,.dat (.v _ rfl)⟩⟩
   ·rcases ha with h9 | h9
    ·have e2:ys.length=0:=by omega
     have e3:news=[]:=List.eq_nil_of_length_eq_zero (by rw [n1,e2]; simp)
     subst e3
     rw [jP (by simpa using hle) (fun j v hv=>by simp at hv),setRow_self w _ us t0 (0,0) g1]
     rfl
    ·rw [h9] at ha'
     cases ha'
     have:=run_storeCells_at P (ρ id none).1 (lo*k') t0 news 0 us w g1 (by simpa using hle) h1
     simpa [ch] using this
   ·rcases ha with h9 | h9
    ·have e2:ys.length=0:=by omega
     have e3:news=[]:=List.eq_nil_of_length_eq_zero (by rw [n1,e2]; simp)
     subst e3
     rw [jP (by simpa using hle) (fun j v hv=>by simp at hv),setRow_self w _ us t0 (0,0) g1]
    ·rw [h9] at ha'; cases ha'
  ·cases hr
 ·cases hr
end
end Go.Ab
