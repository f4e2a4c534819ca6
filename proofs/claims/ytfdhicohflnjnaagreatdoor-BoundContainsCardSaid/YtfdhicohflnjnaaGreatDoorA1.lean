/-
  A law of ranges holds at every input that the statement speaks of, under the conditions that its card names. Part A1.
-/
import GoSem.Core.Code
import GoSem.Core.View
import GoSem.Core.Program
import GoSem.Core.Region
import Derived.Calls
import Derived.Laws.World
import Derived.Laws.Sem
import Derived.Below
import Derived.Laws.Slices
import Derived.Laws.Entries
import Derived.Laws.Cells
import Derived.Laws.CopyRow
import Derived.Laws.AppendOwn
import Derived.Orders
import Derived.LoopN
set_option linter.all false
namespace Go.Ab
open Go
inductive AV where
 | any
 | und
 | v (x:Value)
 | emp
 | sl (k:Nat) (rows:List (List AV))
 | osl (k:Nat) (rows:List (List AV))
 | obx (cs:List AV)
 | agg (cs:List AV)
 | tup (vs:List AV)
 | ref (id:Nat) (sub:Option Nat) (k i j:Nat)
 | rsl (id:Nat) (sub:Option Nat) (k lo n:Nat)
 | rsc (id k lo n c:Nat)
 | ipt (cs:List AV)
 | fn (f:FuncId) (first cap:List AV)
 deriving Inhabited
abbrev I (n:Int):AV:=.v (.int .i64 n)
abbrev U (n:Int):AV:=.v (.int .u32 n)
abbrev W (n:Int):AV:=.v (.int .u64 n)
abbrev B (b:Bool):AV:=.v (.bool b)
abbrev S (x:ByteArray):AV:=.v (.string x)
inductive Ob where
 | dead
 | bx (cs:List AV)
 | ar (k:Nat) (rows:List (List AV))
 | fz (k:Nat) (rows:List (List AV))
 deriving Inhabited
abbrev ae:=Nat→AV
abbrev ac:=Nat→Ob
def upd {α:Type} (s:Nat→α) (d:Nat) (x:α):Nat→α:=fun i=>if i=d then x else s i
theorem acj {α:Type} (s:Nat→α) (d:Nat) (x:α) (i:Nat):upd s d x i=if i=d then x else s i:=_root_.id rfl
structure St where
 s:ae
 h:ac
inductive Opd where
 | t (n:Nat)
 | c (a:AV)
inductive POp where
 | mv (x:Opd)
 | pick (c a b:Opd)
 | nilck (x:Opd)
 | nilq (neq:Bool) (x:Opd)
 | bin (op:BinOp) (x y:Opd)
 | un (op:UnOp) (x:Opd)
 | cv (k:IntKind) (x:Opd)
 | cv0 (x:Opd)
 | slc (k:Nat) (x:Opd) (lo hi mx:Option Opd)
 | slcS (x:Opd) (lo hi:Option Opd)
 | fadr (off:Nat) (x:Opd)
 | fld (off k:Nat) (agg:Bool) (x:Opd)
 | iadrS (k:Nat) (x i:Opd)
 | iadrA (n k:Nat) (x i:Opd)
 | idxS (x i:Opd)
 | idxA (n k:Nat) (agg:Bool) (x i:Opd)
 | ext (i:Nat) (x:Opd)
 | len (str:Bool) (x:Opd)
 | eqc (neq:Bool) (tc:Nat) (x y:Opd)
 | capp (x:Opd)
 | mnx (isMin:Bool) (x:Opd) (ys:List Opd)
 | build (zero:List AV) (parts:List (Nat × Nat × Opd))
 | mkF (f:FuncId) (first cap:List Opd)
inductive AOp where
 | p (op:POp)
 | alloc (zero:List AV)
 | box (k:Nat) (x:Opd)
 | buildSl (k:Nat) (zero:List AV) (n:Nat) (parts:List (Nat × Opd))
 | mkSl (k:Nat) (zero:List AV) (bytes:Nat) (l c:Opd)
 | load (k:Nat) (agg:Bool) (x:Opd)
 | store (k:Nat) (x y:Opd)
 | app (k bytes:Nat) (x y:Opd)
 | cpy (k:Nat) (x y:Opd)
 | slcM (k:Nat) (x:Opd) (lo hi:Option Opd)
 | clr (k:Nat) (zero:List AV) (x:Opd)
 | appz (k bytes:Nat) (zero:List AV) (x n:Opd)
 | take (x:Opd)
 | call (f:Opd) (args:List Opd)
 | callC (f:Opd) (args:List Opd)
 | bad
structure COp where
 d:Option Nat
 g:Option (Nat × Bool)
 op:AOp
inductive Cmd where
 | skip
 | ops (ks:List Nat) (l:List COp)
 | dops (ks:List Nat) (l:List COp) (ps:List (Nat × Nat))
 | seq (a b:Cmd)
 | cond (c:Opd) (a b:Cmd)
 | block (id:Nat) (ks:List Nat) (a:Cmd)
 | loop (ks hs:List Nat) (a:Cmd)
 | exit (id:Nat)
 | ret
 | frz (is:List Nat) (a:Cmd)
inductive Ex where
 | normal | exit (id:Nat) | ret
inductive Rv where
 | t (n:Nat)
 | cell (n k:Nat) (agg:Bool)
abbrev dP:=FuncId→List AV→List Ob→Option (AV × List Ob)
def ev (s:ae):Opd→AV
 | .t n=>s n
 | .c a=>a
def evo (s:ae):Option Opd→Option AV
 | none=>none
 | some x=>some (ev s x)
def eY:AV→Option (List AV)
 | .agg cs=>some cs
 | .any | .und | .tup _ | .osl _ _ | .obx _=>none
 | a=>some [a]
def setRow (row:List AV) (j:Nat):List AV→List AV
 | []=>row
 | c::cs=>setRow (row.set j c) (j+1) cs
def Dp (c a b:AV):Option AV:=match c with
 | .v (.bool t)=>some (if t then a else b)
 | _=>none
def BQ:AV→Option AV
 | .ref id sub k i j=>some (.ref id sub k i j)
 | .ipt cs=>some (.ipt cs)
 | .fn f a b=>some (.fn f a b)
 | _=>none
def nZ (op:BinOp) (k:IntKind) (a b:Int):Option Value:=match op with
 | .add=>some (.int k (k.wrap (a+b)))
 | .sub=>some (.int k (k.wrap (a - b)))
 | .mul=>some (.int k (k.wrap (a*b)))
 | .quo=>if b=0 then none else some (.int k (k.wrap (a.tdiv b)))
 | .rem=>if b=0 then none else some (.int k (a.tmod b))
 | .and=>some (.int k (k.wrap ((BitVec.ofInt k.bits a &&& BitVec.ofInt k.bits b).toNat)))
 | .or=>some (.int k (k.wrap ((BitVec.ofInt k.bits a ||| BitVec.ofInt k.bits b).toNat)))
 | .xor=>some (.int k (k.wrap ((BitVec.ofInt k.bits a ^^^ BitVec.ofInt k.bits b).toNat)))
 | .andNot=>some (.int k (k.wrap ((BitVec.ofInt k.bits a &&& ~~~BitVec.ofInt k.bits b).toNat)))
 | .lss=>some (.bool (decide (a < b)))
 | .leq=>some (.bool (decide (a≤b)))
 | .gtr=>some (.bool (decide (a > b)))
 | .geq=>some (.bool (decide (a ≥ b)))
 | .eql=>some (.bool (a == b))
 | .neq=>some (.bool (a != b))
 | _=>none
def Wl (k:IntKind) (a b:Int):Option Value:=if b < 0 then none else some (.int k (k.wrap (a*2 ^ (min b.toNat k.bits))))
def Wm (k:IntKind) (a b:Int):Option Value:=if b < 0 then none else some (.int k (a.fdiv (2 ^ (min b.toNat k.bits))))
def aaI (op:BinOp) (a b:ByteArray):Option Value:=match op with
 | .add=>if ((a.size+b.size:Nat):Int) > IntKind.i64.max then none else some (.string (a++b))
 | .eql=>some (.bool (a.toList == b.toList))
 | .neq=>some (.bool (!(a.toList == b.toList)))
 | _=>none
def hF (op:BinOp):Value→Value→Option Value
 | .int k a,.int k' b=>match op with
  | .shl=>Wl k a b
  | .shr=>Wm k a b
  | op=>if k=k' then nZ op k a b else none
 | .string a,.string b=>aaI op a b
 | _,_=>none
def cK (op:BinOp):AV→AV→Option AV
 | .v a,.v b=>(hF op a b).map .v
 | _,_=>none
def LJ (n:Bool) (tc:Nat):AV→AV→Option AV
 | .v (.bool a),.v (.bool b)=>if tc=0 then some (B (n != (a == b))) else none
 | .ref _ _ _ _ _,.v (.pointer none)=>if tc=1 then some (B n) else none
 | .v (.pointer none),.v (.pointer none)=>if tc=1 then some (B (!n)) else none
 | .fn _ _ _,.v .nilFunc=>if tc=2 then some (B n) else none
 | .v .nilFunc,.v .nilFunc=>if tc=2 then some (B (!n)) else none
 | _,_=>none
def Dq (n:Bool):AV→Option AV
 | .sl _ (_::_)=>some (B n)
 | .rsl _ _ _ _ m=>if 0 < m then some (B n) else none
 | _=>none
def LK (op:UnOp):AV→Option AV
 | .v (.int k n)=>match op with
  | .neg=>some (.v (.int k (k.wrap (0 - n))))
  | .xor=>some (.v (.int k (k.wrap ((BitVec.ofInt k.bits (if k.signed then -1 else k.max) ^^^ BitVec.ofInt k.bits n).toNat))))
  | _=>none
 | .v (.bool b)=>match op with
  | .not=>some (B (!b))
  | _=>none
 | _=>none
def TS (k:IntKind):AV→Option AV
 | .v (.int _ n)=>some (.v (.int k (k.wrap n)))
 | _=>none
def Rz:AV→Option AV
 | .v (.string x)=>some (.v (.string x))
 | _=>none
def jK (d:Nat) (n:Nat):Option AV→Option Nat
 | none=>some d
 | some (.v (.int _ i))=>if 0≤i∧i≤n then some i.toNat else none
 | _=>none
def kw (n:Nat) (lo hi mx:Option AV):Option (Nat × Nat) :=
 match mx with
 | none=>(jK n n hi).bind fun h=>(jK 0 h lo).bind fun l=>some (l,h)
 | some m=>(jK n n (some m)).bind fun m=>match hi with
  | none=>none
  | some hi=>(jK n m (some hi)).bind fun h=>(jK 0 h lo).bind fun l=>some (l,h)
def BR:Option AV→Bool
 | some (.v (.int _ 0))=>true
 | _=>false
def LL (k id l0 n c:Nat):Option AV→Option AV→Option AV→Option AV
 | none,some hi,none=>(jK n c (some hi)).map fun r=>.rsc id k l0 r c
 | some lo,hi,none=>(kw n (some lo) hi none).map fun p=>.rsl id none k (l0+p.1) (p.2 - p.1)
 | _,_,_=>none
def eu (k:Nat) (x:AV) (lo hi mx:Option AV):Option AV:=match x with
 | .emp=>(kw 0 lo hi mx).map fun _=>.emp
 | .sl k' rows=>if k'=k then (kw rows.length lo hi mx).map fun p=>(if BR mx then .emp else .sl k ((rows.drop p.1).take (p.2 - p.1))) else none
 | .rsl id sub k' l0 n=>if k'=k then (kw n lo hi mx).map fun p=>(if mx.isNone then .rsl id sub k (l0+p.1) (p.2 - p.1) else .any) else none
 | .rsc id k' l0 n c=>if k'=k then LL k id l0 n c lo hi mx else none
 | _=>none
def Lq (x:AV) (lo hi:Option AV):Option AV:=match x with
 | .v (.string b)=>(kw b.size lo hi none).map fun p=>.v (.string (b.extract p.1 p.2))
 | _=>none
def tQ (off:Nat):AV→Option AV
 | .ref id sub k i j=>some (.ref id sub k i (j+off))
 | .ipt cs=>some (.ipt (cs.drop off))
 | _=>none
def jG (k:Nat) (agg:Bool) (cs:List AV) (off:Nat):Option AV :=
 if agg then (if off+k≤cs.length then some (.agg ((cs.drop off).take k)) else none) else cs[off]?
def LM (off k:Nat) (agg:Bool):AV→Option AV
 | .agg cs=>jG k agg cs off
 | _=>none
def aZ (rows:List (List AV)) (i:Int):Option AV:=if 0≤i then (rows[i.toNat]?).map .ipt else none
def p8 (k:Nat):AV→AV→Option AV
 | .sl k' rows,.v (.int _ i)=>if k'=k then aZ rows i else none
 | .rsl id sub k' lo n,.v (.int _ i)=>if k'=k then (if 0≤i∧i < n then some (.ref id sub k (lo+i.toNat) 0) else none) else none
 | _,_=>none
def zg (n k:Nat):AV→AV→Option AV
 | .ref id sub k' a j,.v (.int _ i)=>if 0≤i∧i < n then some (.ref id sub k' a (j+i.toNat*k)) else none
 | .ipt cs,.v (.int _ i)=>if 0≤i∧i < n then some (.ipt (cs.drop (i.toNat*k))) else none
 | _,_=>none
def Dr:AV→AV→Option AV
 | .v (.string b),.v (.int _ i)=>if 0≤i then (b[i.toNat]?).map fun x=>.v (.int .u8 x.toNat) else none
 | _,_=>none
def Ds (n k:Nat) (agg:Bool):AV→AV→Option AV
 | .agg cs,.v (.int _ i)=>if 0≤i∧i < n then jG k agg cs (i.toNat*k) else none
 | _,_=>none
def LN (i:Nat):AV→Option AV
 | .tup vs=>vs[i]?
 | _=>none
def lh (str:Bool):AV→Option AV
 | .sl _ rows=>if str then none else some (I rows.length)
 | .emp=>if str then none else some (I 0)
 | .rsl _ _ _ _ n=>if str then none else some (I n)
 | .rsc _ _ _ n _=>if str then none else some (I n)
 | .v (.string b)=>if str then some (I b.size) else none
 | _=>none
def LO:AV→Option AV
 | .emp=>some (I 0)
 | .rsc _ _ _ _ c=>some (I c)
 | _=>none
def H2 (isMin:Bool):AV→AV→Option AV
 | .v (.int k x),.v (.int _ y)=>some (.v (.int k (if isMin then (if y < x then y else x) else (if x < y then y else x))))
 | _,_=>none
def yE (isMin:Bool):AV→List AV→Option AV
 | a,[]=>some a
 | a,b::l=>(H2 isMin a b).bind fun c=>yE isMin c l
def rq (zero:List AV):List (Nat × Nat × AV)→Option (List AV)
 | []=>some zero
 | (off,k,a)::ps=>(eY a).bind fun cs=>if cs.length=k∧off+k≤zero.length then rq (setRow zero off cs) ps else none
def eA (s:ae):POp→Option AV
 | .mv x=>some (ev s x)
 | .pick c a b=>Dp (ev s c) (ev s a) (ev s b)
 | .nilck x=>BQ (ev s x)
 | .nilq n x=>Dq n (ev s x)
 | .bin op x y=>cK op (ev s x) (ev s y)
 | .un op x=>LK op (ev s x)
 | .cv k x=>TS k (ev s x)
 | .cv0 x=>Rz (ev s x)
 | .slc k x lo hi mx=>eu k (ev s x) (evo s lo) (evo s hi) (evo s mx)
 | .slcS x lo hi=>Lq (ev s x) (evo s lo) (evo s hi)
 | .fadr off x=>tQ off (ev s x)
 | .fld off k g x=>LM off k g (ev s x)
 | .iadrS k x i=>p8 k (ev s x) (ev s i)
 | .iadrA n k x i=>zg n k (ev s x) (ev s i)
 | .idxS x i=>Dr (ev s x) (ev s i)
 | .idxA n k g x i=>Ds n k g (ev s x) (ev s i)
 | .ext i x=>LN i (ev s x)
 | .len m x=>lh m (ev s x)
 | .eqc m t x y=>LJ m t (ev s x) (ev s y)
 | .capp x=>LO (ev s x)
 | .mnx m x ys=>yE m (ev s x) (ys.map (ev s))
 | .build z ps=>(rq z (ps.map fun p=>(p.1,p.2.1,ev s p.2.2))).map .agg
 | .mkF f a b=>some (.fn f (a.map (ev s)) (b.map (ev s)))
def aB:AV→Bool
 | .any | .v _ | .emp | .sl _ _=>true
 | .fn _ a b=>a.isEmpty && b.isEmpty
 | _=>false
def dat:AV→Bool
 | .agg cs=>cs.all aB
 | a=>aB a
def fR (K:List (Nat × Bool)) (id:Nat) (sub:Option Nat):Bool:=K.any fun p=>p.1 == id && (!p.2 || sub.isSome)
def lR (K:List (Nat × Bool)):AV→Bool
 | .ref id sub _ _ _=>fR K id sub
 | .rsl id sub _ _ _=>fR K id sub
 | .rsc id _ _ _ _=>fR K id none
 | .fn _ a b=>!(a.isEmpty && b.isEmpty)
 | .agg _ | .tup _ | .osl _ _ | .obx _=>true
 | _=>false
def yF (K:List (Nat × Bool)):AV→Bool
 | .agg cs=>cs.any (lR K)
 | .fn _ a b=>a.any (lR K) || b.any (lR K)
 | a=>lR K a
def P4 (K:List (Nat × Bool)):AV→Bool
 | .tup vs=>vs.any (yF K)
 | a=>yF K a
def nD (K:List (Nat × Bool)) (a:AV):AV:=if P4 K a then .any else a
def ir (K:List (Nat × Bool)) (s:ae):ae:=match K with
 | []=>s
 | K=>fun i=>nD K (s i)
inductive Sh where
 | o (k:Nat) (cs:List Sh)
 deriving Inhabited
mutual
def nrmL:Sh→AV→AV
 | .o 0 _,a=>a
 | .o (k+1) _,.emp=>.sl k []
 | .o (_+1) cs,.sl k' rows=>.sl k' (rows.map (cX cs))
 | .o (_+1) cs,.osl k' rows=>.sl k' (rows.map (cX cs))
 | .o (_+1) _,a=>a
def cX:List Sh→List AV→List AV
 | s::ss,a::l=>nrmL s a::cX ss l
 | _,l=>l
end
def nrmV (ss:List Sh):AV→AV
 | .agg cs=>.agg (cX ss cs)
 | a=>nrmL (ss.headD (.o 0 [])) a
def br:List (List Sh)→List AV→List AV
 | s::ss,a::l=>nrmV s a::br ss l
 | _,l=>l
structure FD where
 np:Nat
 rs:List (List Sh)
 res:List Rv
 body:Cmd
abbrev K:=List (Nat × Bool)
def aR (id:Nat):Bool:=decide (1000≤id∧id < 2000)
abbrev R3:=AV × ac × K
def kz:AV→AV
 | .osl k r=>.sl k r
 | a=>a
def aU:AV→Bool
 | .osl _ _=>true
 | _=>false
def ji (c:AV):Bool:=aU c || aB c
def m8 (k lo n:Nat) (rows:List (List AV)):AV:=.sl k ((rows.drop lo).take n)
def oV (cs:List AV):List (List AV):=cs.map fun c=>[kz c]
def m9 (h:ac) (id k lo n:Nat):Ob→Option R3
 | .ar k' rows=>if k'=k∧lo+n≤rows.length then some (m8 k lo n rows,upd h id (.fz k rows),[]) else none
 | .fz k' rows=>if k'=k∧lo+n≤rows.length then some (m8 k lo n rows,h,[]) else none
 | .bx cs=>if k=1∧lo+n≤cs.length∧cs.all ji=true then some (m8 1 lo n (oV cs),upd h id (.fz 1 (oV cs)),[(id,true)]) else none
 | .dead=>none
def Wn (h:ac) (id p k lo n:Nat) (cs:List AV):Option AV→Option R3
 | some (.osl k' rows)=>if k'=k∧lo+n≤rows.length then some (m8 k lo n rows,upd h id (.bx (cs.set p (.sl k' rows))),[(id,true)]) else none
 | _=>none
def BS (h:ac) (id p k lo n:Nat):Ob→Option R3
 | .bx cs=>Wn h id p k lo n cs cs[p]?
 | _=>none
def fS (h:ac):AV→Option R3
 | .rsl id none k lo n=>m9 h id k lo n (h id)
 | .rsl id (some p) k lo n=>BS h id p k lo n (h id)
 | a=>if aB a then some (a,h,[]) else none
def fI (h:ac):List AV→Option (List AV × ac × K)
 | []=>some ([],h,[])
 | a::l=>(fS h a).bind fun p=>(fI p.2.1 l).bind fun q=>some (p.1::q.1,q.2.1,p.2.2++q.2.2)
def sI (h:ac):AV→Option R3
 | .agg cs=>(fI h cs).bind fun p=>some (.agg p.1,p.2)
 | a=>fS h a
def uj:Ob→Option (Nat × List (List AV))
 | .ar k rows=>some (k,rows)
 | .fz k rows=>some (k,rows)
 | _=>none
def sP:Option AV→Option (Nat × List (List AV))
 | some (.osl k rows)=>some (k,rows)
 | _=>none
def jc (p:Nat):Ob→Option (Nat × List (List AV))
 | .bx cs=>sP cs[p]?
 | _=>none
def uk (h:ac) (id:Nat):Option Nat→Option (Nat × List (List AV))
 | none=>uj (h id)
 | some p=>jc p (h id)
def tT (id p:Nat):AV→AV
 | .osl k rows=>.rsl id (some p) k 0 rows.length
 | a=>a
def Am (h:ac) (id p k:Nat) (agg:Bool) (cs:List AV):Option R3 :=
 if agg then
  (if p+k≤cs.length then
   (if ((cs.drop p).take k).any aU then some (.agg (((cs.map kz).drop p).take k),upd h id (.bx (cs.map kz)),[(id,true)])
    else some (.agg ((cs.drop p).take k),h,[]))
   else none)
 else (cs[p]?).map fun c=>(tT id p c,h,[])
def kQ (h:ac) (k:Nat) (agg:Bool) (k0 i j:Nat):Option (Nat × List (List AV))→Option R3
 | some (k',rows)=>if k'=k0 then (rows[i]?).bind fun row=>(jG k agg row j).map fun a=>(a,h,[]) else none
 | none=>none
def tU (h:ac) (k:Nat) (agg:Bool) (id k0 i j:Nat):Ob→Option R3
 | .bx cs=>Am h id (i*k0+j) k agg cs
 | .ar k' rows=>kQ h k agg k0 i j (some (k',rows))
 | .fz k' rows=>kQ h k agg k0 i j (some (k',rows))
 | .dead=>none
def fJ (h:ac) (k:Nat) (agg:Bool):AV→Option R3
 | .ipt cs=>(jG k agg cs 0).map fun a=>(a,h,[])
 | .ref id none k0 i j=>tU h k agg id k0 i j (h id)
 | .ref id (some p) k0 i j=>kQ h k agg k0 i j (jc p (h id))
 | _=>none
def JS (h:ac) (id k lo n:Nat):Ob→Option R3
 | .ar k' rows=>if k'=k then (if lo=0∧n=rows.length then some (.osl k rows,upd h id .dead,[(id,false)]) else if lo=0∧n≤rows.length then some (.osl k (rows.take n),upd h id .dead,[(id,false)]) else m9 h id k lo n (.ar k' rows)) else none
 | o=>m9 h id k lo n o
def inP (h:ac) (a:AV):Ob→Option R3
 | .bx _=>some (a,h,[])
 | _=>none
def Bp (h:ac) (a:AV):Option R3:=match a with
 | .rsl id none k lo n=>JS h id k lo n (h id)
 | .rsl id (some p) k lo n=>BS h id p k lo n (h id)
 | .ref id none _ _ _=>inP h a (h id)
 | .fn _ x y=>if x.all aB && y.all aB then some (a,h,[]) else none
 | a=>if aB a then some (a,h,[]) else none
def E9 (h:ac) (id p:Nat) (x:AV) (ks:K):Ob→Option (ac × K)
 | .bx cs=>if p < cs.length then some (upd h id (.bx (cs.set p x)),ks++(if (cs[p]?).any aU then [(id,true)] else [])) else none
 | _=>none
def vP (ks:K) (xs:List AV):List AV:=match ks with
 | []=>xs
 | ks=>xs.map (nD ks)
def mz (h:ac) (id p:Nat):Nat→List AV→Option (ac × K)
 | _,[]=>some (h,[])
 | 0,_=>none
 | n+1,x::xs=>(Bp h x).bind fun r=>(E9 r.2.1 id p r.1 r.2.2 (r.2.1 id)).bind fun q=>(mz q.1 id (p+1) n (vP q.2 xs)).bind fun t=>some (t.1,q.2++t.2)
def nc (k k0 i j:Nat) (cs:List AV) (k':Nat) (rows:List (List AV)):Option (List (List AV)) :=
 if k'=k0 then (rows[i]?).bind fun row=>if j+k≤row.length then some (rows.set i (setRow row j cs)) else none else none
def RA (h:ac) (id p k k0 i j:Nat) (xs cs:List AV) (ks:K):Option AV→Option R3
 | some (.osl k' rows)=>(nc k k0 i j xs k' rows).map fun q=>(.und,upd h id (.bx (cs.set p (.osl k' q))),ks)
 | _=>none
def H3 (h:ac) (id p k:Nat) (xs cs:List AV):Option R3 :=
 if p+k≤cs.length then
  (if xs.all aB then some (.und,upd h id (.bx (setRow cs p xs)),if ((cs.drop p).take k).any aU then [(id,true)] else [])
   else (mz h id p xs.length xs).map fun q=>(.und,q.1,q.2))
 else none
def H4 (h:ac) (id k k0 i j:Nat) (xs:List AV) (ks:K):Ob→Option R3
 | .ar k' rows=>(nc k k0 i j xs k' rows).map fun q=>(.und,upd h id (.ar k' q),ks)
 | _=>none
def yG (h:ac) (k id k0 i j:Nat) (xs:List AV):Ob→Option R3
 | .bx cs=>H3 h id (i*k0+j) k xs cs
 | .ar _ _=>(fI h xs).bind fun q=>H4 q.2.1 id k k0 i j q.1 q.2.2 (q.2.1 id)
 | _=>none
def An (h:ac) (k id p k0 i j:Nat) (xs:List AV) (ks:K):Ob→Option R3
 | .bx cs=>RA h id p k k0 i j xs cs ks cs[p]?
 | _=>none
def iF (h:ac) (k:Nat) (a x:AV):Option R3:=(eY x).bind fun xs =>
 if xs.length=k then match a with
  | .ref id none k0 i j=>yG h k id k0 i j xs (h id)
  | .ref id (some p) k0 i j=>(fI h xs).bind fun q=>An q.2.1 k id p k0 i j q.1 q.2.2 (q.2.1 id)
  | _=>none
 else none
def wB (h:ac) (d:Nat) (a:AV) (o:Ob) (ks:K):Ob→Option R3
 | .dead=>some (a,upd h d o,ks)
 | _=>none
def jj (h:ac) (d:Nat) (cs:List AV) (ks:K):Option R3:=wB h d (.ref d none 0 0 0) (.bx cs) ks (h d)
def Fa (id p:Nat) (xs:List AV) (r:R3):Option R3:=(mz r.2.1 id p xs.length xs).map fun q=>(r.1,q.1,r.2.2++q.2)
def wC (h:ac) (d:Nat) (k:Nat) (x:AV):Option R3:=(eY x).bind fun xs=>if xs.length=k then
 (if xs.all aB then jj h d xs [] else (jj h d (List.replicate k .any) []).bind (Fa d 0 xs)) else none
def cY (h:ac) (d k:Nat) (rows:List (List AV)) (n:Nat) (ks:K):Option R3:=wB h d (.rsl d none k 0 n) (.ar k rows) ks (h d)
def eF (k:Nat) (h:ac) (rows:List (List AV)):List (Nat × AV)→Option (List (List AV) × ac × K)
 | []=>some (rows,h,[])
 | (i,a)::ps=>(eY a).bind fun cs=>if cs.length=k∧i < rows.length then (fI h cs).bind fun q=>(eF k q.2.1 (rows.set i q.1) ps).bind fun r=>some (r.1,r.2.1,q.2.2++r.2.2) else none
def oW (l c:AV):Option (Nat × Nat):=match l,c with
 | .v (.int .i64 l),.v (.int .i64 c)=>if 0≤l∧l≤c∧c < 9223372036854775808 then some (l.toNat,c.toNat) else none
 | _,_=>none
def gj (k lo n:Nat):Option (Nat × List (List AV))→Option (List (List AV))
 | some (k',rows)=>if k'=k∧lo+n≤rows.length then some ((rows.drop lo).take n) else none
 | none=>none
def oZ (h:ac) (k:Nat):AV→Option (List (List AV))
 | .emp=>some []
 | .sl k' rows=>if k'=k then some rows else none
 | .rsl id sub k' lo n=>if k'=k then gj k lo n (uk h id sub) else none
 | _=>none
def LP (h:ac) (d k bytes id k' lo n:Nat) (ys:List (List AV)) (k0:Nat) (rows:List (List AV)):Option R3 :=
 if k0=k∧k'=k∧lo+n+ys.length≤rows.length then some (.rsl id none k lo (n+ys.length),upd h id (.ar k (rows.take (lo+n)++ys++rows.drop (lo+n+ys.length))),[])
 else if k0=k∧k'=k∧lo=0∧n=rows.length∧(n+ys.length)*bytes≤140737488355328 then cY (upd h id .dead) d k (rows++ys) (n+ys.length) [(id,false)]
 else none
def LQ (h:ac) (d k bytes id k' lo n:Nat) (ys:List (List AV)):Ob→Option R3
 | .ar k0 rows=>if k0=k∧k'=k∧lo=0∧n=rows.length∧(id < 1000∨2000≤id)∧(n+ys.length)*bytes≤140737488355328 then
   some (.rsl id none k 0 (n+ys.length),upd h id (.ar k (rows++ys)),[(id,false)]) else LP h d k bytes id k' lo n ys k0 rows
 | _=>none
def aaK (h:ac) (d k bytes id p k' lo n:Nat) (ys:List (List AV)) (cs:List AV):Option AV→Option R3
 | some (.osl k0 rows)=>if k0=k∧k'=k∧lo=0∧n=rows.length∧(n+ys.length)*bytes≤140737488355328 then
   cY (upd h id (.bx (cs.set p .any))) d k (rows++ys) (n+ys.length) [(id,true)] else none
 | _=>none
def Wo (h:ac) (d k bytes id p k' lo n:Nat) (ys:List (List AV)):Ob→Option R3
 | .bx cs=>aaK h d k bytes id p k' lo n ys cs cs[p]?
 | _=>none
def LR (h:ac) (d k:Nat):List (List AV)→Option R3
 | []=>some (.emp,h,[])
 | y::ys=>cY h d k (y::ys) (ys.length+1) []
def H5 (h:ac) (d k bytes:Nat) (x y:AV):Option R3:=(oZ h k y).bind fun ys=>match x with
 | .emp=>if ys.length*bytes≤140737488355328 then LR h d k ys else none
 | .rsl id none k' lo n=>LQ h d k bytes id k' lo n ys (h id)
 | .rsl id (some p) k' lo n=>Wo h d k bytes id p k' lo n ys (h id)
 | _=>none
def LS (m:Nat):AV→AV
 | .sl k rows=>.sl k (rows.take m)
 | .rsl id sub k lo n=>.rsl id sub k lo (min m n)
 | a=>a
def LT:AV→Option Nat
 | .emp=>some 0
 | .sl _ rows=>some rows.length
 | .rsl _ _ _ _ n=>some n
 | _=>none
def LU (h:ac) (id k k' lo n l:Nat) (ys:List (List AV)):Ob→Option R3
 | .ar k0 rows=>if k0=k∧k'=k∧lo≤rows.length∧ys.length=min l n then some (.v (.int .i64 ys.length),upd h id (.ar k (rows.take lo++ys++rows.drop (lo+ys.length))),[]) else none
 | _=>none
def H6 (h:ac) (k:Nat) (x y:AV):Option R3:=match x with
 | .rsl id none k' lo n=>(LT y).bind fun l=>(oZ h k (LS n y)).bind fun ys=>LU h id k k' lo n l ys (h id)
 | _=>none
def Gc (h:ac) (k id l0:Nat) (lo hi:Option AV):Ob→Option R3
 | .ar k0 rows=>if k0=k∧hi.isSome=true∧l0≤rows.length then (kw (rows.length - l0) lo hi none).map fun p=>(.rsl id none k (l0+p.1) (p.2 - p.1),h,[]) else none
 | _=>none
def Dt (h:ac) (k:Nat) (x:AV) (lo hi:Option AV):Option R3:=match x with
 | .rsl id none k' l0 _=>if k'=k then Gc h k id l0 lo hi (h id) else none
 | _=>none
def LV (h:ac) (k id lo n:Nat) (z:List AV):Ob→Option R3
 | .ar k0 rows=>if k0=k∧lo+n≤rows.length then some (.tup [],upd h id (.ar k (rows.take lo++List.replicate n z++rows.drop (lo+n))),[]) else none
 | _=>none
def H7 (h:ac) (k:Nat) (z:List AV) (x:AV):Option R3:=match x with
 | .rsl id none k' lo n=>if k'=k then LV h k id lo n z (h id) else none
 | _=>none
def Gd (h:ac) (d k bytes _id i m:Nat) (z:List AV):Ob→Option R3
 | .ar k0 rows=>if k0=k∧i≤rows.length∧(i+m)*bytes≤140737488355328 then cY h d k (rows.take i++List.replicate m z) (i+m) [] else none
 | _=>none
def Du (h:ac) (d k bytes:Nat) (z:List AV) (x n:AV):Option R3:=match x,n with
 | .emp,.v (.int .i64 c)=>if 0 < c∧c.toNat*bytes≤140737488355328 then cY h d k (List.replicate c.toNat z) c.toNat [] else none
 | .rsc id k' lo i c,.v (.int .i64 m)=>if k'=k∧lo=0∧0 < m∧c < i+m.toNat then Gd h d k bytes id i m.toNat z (h id) else none
 | _,_=>none
def Dv (h:ac) (d id p:Nat) (cs:List AV):Option AV→Option R3
 | some (.osl k rows)=>cY (upd h id (.bx (cs.set p .any))) d k rows rows.length [(id,true)]
 | some .emp=>some (.emp,h,[])
 | _=>none
def Lr (h:ac) (d id p:Nat):Ob→Option R3
 | .bx cs=>Dv h d id p cs cs[p]?
 | _=>none
def Ge (h:ac) (d:Nat) (x:AV):Option R3:=match x with
 | .ref id none k0 i j=>Lr h d id (i*k0+j) (h id)
 | _=>none
structure Mode where
 m:FuncId→List Nat
 sh:FuncId→List (List Sh)
 keep:FuncId→Bool
 nm:Bool
def agq:Ob→Bool
 | .ar _ _=>true
 | _=>false
def cR (h:ac) (m:Nat) (a:AV):Option R3:=match a with
 | .rsl id none _ _ _=>if m=0 then fS h a else if m=1 || agq (h id) then some (a,h,[]) else none
 | .ref _ none _ _ _=>some (a,h,[])
 | .ipt _=>some (a,h,[])
 | .fn _ _ _=>some (a,h,[])
 | a=>sI h a
def bZ (h:ac):List Nat→List AV→Option (List AV × ac × K)
 | _,[]=>some ([],h,[])
 | ms,a::l=>(cR h (ms.headD 0) a).bind fun p=>(bZ p.2.1 ms.tail l).bind fun q=>some (p.1::q.1,q.2.1,p.2.2++q.2.2)
def fT:AV→List Nat
 | .ref id _ _ _ _=>[id]
 | .rsl id _ _ _ _=>[id]
 | _=>[]
def bT:AV→List Nat
 | .agg cs=>cs.flatMap fT
 | .fn _ a b=>a.flatMap fT++b.flatMap fT
 | a=>fT a
def bJ (l:List Nat):List Nat→List Nat
 | []=>l
 | a::r=>bJ (if l.contains a then l else l++[a]) r
def lj:Ob→List Nat
 | .bx cs=>cs.flatMap bT
 | _=>[]
def cf (h:ac):Nat→List Nat→Nat→List Nat
 | 0,l,_=>l
 | n+1,l,i=>match l[i]? with
  | none=>l
  | some a=>cf h n (bJ l (lj (h a))) (i+1)
def bo (l:List Nat) (a:Nat):Nat:=1000+l.idxOf a
def kB (g:Nat→Nat):AV→AV
 | .ref id sub k i j=>.ref (g id) sub k i j
 | .rsl id sub k i j=>.rsl (g id) sub k i j
 | a=>a
def dM (g:Nat→Nat):AV→AV
 | .agg cs=>.agg (cs.map (kB g))
 | .fn f a b=>.fn f (a.map (kB g)) (b.map (kB g))
 | a=>kB g a
def H8 (g:Nat→Nat):AV→AV
 | .tup vs=>.tup (vs.map (dM g))
 | a=>dM g a
def cZ (g:Nat→Nat):Ob→Ob
 | .bx cs=>.bx (cs.map (dM g))
 | o=>o
def bg (l:List Nat):AV→Bool
 | .ref id sub _ _ _=>l.contains id && sub.isNone
 | .rsl id sub _ _ _=>l.contains id && sub.isNone
 | .rsc _ _ _ _ _=>false
 | .fn _ a b=>a.isEmpty && b.isEmpty
 | .agg _ | .tup _ | .osl _ _ | .obx _=>false
 | _=>true
def aV (l:List Nat):AV→Bool
 | .agg cs=>cs.all (bg l)
 | .fn _ a b=>a.all (bg l) && b.all (bg l)
 | a=>bg l a
def gI (l:List Nat) (c:AV):Bool:=aU c || aV l c
def aM (l:List Nat):Ob→Bool
 | .bx cs=>cs.all (gI l)
 | _=>true
def aj (hs:List Ob):ac:=fun i=>if 1000≤i then (hs[i - 1000]?).getD .dead else .dead
def da (n:Nat) (h:ac):AV→AV × ac
 | .osl k rows=>(.rsl n none k 0 rows.length,upd h n (.ar k rows))
 | .obx cs=>(.ref n none 0 0 0,upd h n (.bx cs))
 | a=>(a,h)
def bQ (n:Nat) (h:ac):List AV→List AV × ac
 | []=>([],h)
 | a::l=>((da n h a).1::(bQ (n+1) (da n h a).2 l).1,(bQ (n+1) (da n h a).2 l).2)
def mat (n:Nat) (h:ac):AV→AV × ac
 | .tup vs=>(.tup (bQ n h vs).1,(bQ n h vs).2)
 | a=>da n h a
def ru:List Nat→List AV→K
 | _,[]=>[]
 | ms,a::l=>(if ms.headD 0=2 then (fT a).map (·,false) else [])++ru ms.tail l
def gA (h:ac):K→ac
 | []=>h
 | p::l=>gA (upd h p.1 .dead) l
def cM:Ob→Bool
 | .dead=>true
 | _=>false
def dp (h:ac) (n:Nat):Nat→Bool
 | 0=>true
 | m+1=>cM (h n) && dp h (n+1) m
def cG:AV→Nat
 | .tup vs=>vs.length
 | _=>1
def bf:Ob→Bool
 | .bx _=>true
 | .fz _ _=>true
 | _=>false
def dz (h:ac) (gv:K):List Nat→List Ob→Bool
 | a::l,o::r=>(!bf (h a) || bf o) && (gv.any (·.1 == a) || !cM o) && dz h gv l r
 | _,_=>true
def cp (n:Nat):List Nat:=List.range' 1000 n
def H9 (h:ac) (gv:K):Bool:=gv.all fun p=>!bf (h p.1)
def fE (l:List Nat):AV→Bool
 | .osl _ _=>true
 | .obx cs=>cs.all ji
 | c=>aV l c
def jH (l:List Nat):AV→Bool
 | .tup vs=>vs.all (fE l)
 | c=>fE l c
def cS (ids:List Nat) (i:Nat):Nat:=if i < 2000 then ids.getD (i - 1000) 0 else i
def dS (h:ac) (ids:List Nat):List Nat→List Ob→ac
 | a::l,o::r=>dS (upd h a (cZ (cS ids) o)) ids l r
 | _,_=>h
def Em (ids:List Nat) (gv:K):List Nat:=match gv with
 | []=>cp ids.length
 | gv=>(cp ids.length).filter fun i=>!gv.any fun p=>p.1 == cS ids i
def vQ (h:ac) (ids:List Nat) (gv:K) (r:AV × List Ob):Bool:=H9 h gv && (jH (Em ids gv) r.1 && r.2.all (aM (Em ids gv)))
def fF (kp:Bool) (h:ac) (d:Nat) (ids:List Nat) (ks gv:K) (r:AV × List Ob):Option R3 :=
 if r.2.length=ids.length∧ids.length≤1000∧cG r.1≤8∧dp h (2000+8*d) (cG r.1)=true∧dz h gv ids r.2=true∧vQ h ids gv r=true then
  some (H8 (cS ids) (mat (2000+8*d) (gA (dS h ids ids r.2) gv) r.1).1,(mat (2000+8*d) (gA (dS h ids ids r.2) gv) r.1).2,ks++((if kp then [] else ids.map (·,true))++gv))
 else none
def kR (call:dP) (md:Mode) (h:ac) (d:Nat) (f:FuncId) (ids:List Nat) (args:List AV) (ks:K):Option R3 :=
 if args.all (aV ids) && (ids.all fun a=>aM ids (h a) && !cM (h a)) then
  (call f (args.map (dM (bo ids))) (ids.map fun a=>cZ (bo ids) (h a))).bind (fF (md.keep f) h d ids ks (ru (md.m f) args))
 else none
def dU (call:dP) (md:Mode) (h:ac) (d:Nat) (args:List AV):AV→Option R3
 | .fn f a b=>(bZ h (md.m f) (a++args++b)).bind fun p=>kR call md p.2.1 d f (cf p.2.1 40 (bJ [] (p.1.flatMap bT)) 0) (br (md.sh f) p.1) p.2.2
 | _=>none
def Wp (h:ac):AV→Option AV
 | .rsl id sub k lo n=>(gj k lo n (uk h id sub)).map (.sl k)
 | .v x=>some (.v x)
 | .emp=>some .emp
 | .sl k r=>some (.sl k r)
 | .fn f [] []=>some (.fn f [] [])
 | _=>none
def LW (h:ac):List AV→Option (List AV)
 | []=>some []
 | a::l=>(Wp h a).bind fun b=>(LW h l).bind fun q=>some (b::q)
def rx:AV→Bool
 | .v _=>true
 | _=>false
def BT:AV→Bool
 | .tup vs=>vs.all rx
 | a=>rx a
def Wq (h:ac):AV × List Ob→Option R3
 | (r,[])=>if BT r=true then some (r,h,[]) else none
 | _=>none
def RB:AV→Bool
 | .rsl _ _ _ _ _=>false
 | .rsc _ _ _ _ _=>false
 | _=>true
def pL (md:Mode) (args:List AV):AV→Bool
 | .fn f a b=>(md.m f).contains 3 && (a++args++b).any fun x=>!RB x
 | _=>false
def Ls (call:dP) (md:Mode) (h:ac) (args:List AV):AV→Option R3
 | .fn f a b=>(LW h (a++args++b)).bind fun zas=>(call f (br (md.sh f) zas) []).bind (Wq h)
 | _=>none
def bE (call:dP) (md:Mode) (h:ac) (d:Nat) (args:List AV) (f:AV):Option R3:=if pL md args f=true then Ls call md h args f else dU call md h d args f
def ry (d:Nat) (r:R3):Option R3:=match r.1 with
 | .rsl id none k lo n=>if id=2000+8*d then (fS r.2.1 (.rsl id none k lo n)).map fun q=>(q.1,q.2.1,r.2.2++q.2.2) else none
 | _=>some r
def wD (h:ac) (x:Option AV):Option R3:=x.map fun a=>(a,h,[])
def step (call:dP) (md:Mode) (d:Nat) (op:AOp) (s:ae) (h:ac):Option R3 :=
 match op with
 | .p op=>wD h (eA s op)
 | .alloc z=>jj h d z []
 | .box k x=>wC h d k (ev s x)
 | .buildSl k z n ps=>(eF k h (List.replicate n z) (ps.map fun p=>(p.1,ev s p.2))).bind fun q=>cY q.2.1 d k q.1 n q.2.2
 | .mkSl k z b l c=>(oW (ev s l) (ev s c)).bind fun p =>
  if p.2*b≤140737488355328 then cY h d k (List.replicate p.1 z) p.1 [] else none
 | .load k g x=>fJ h k g (ev s x)
 | .store k x y=>iF h k (ev s x) (ev s y)
 | .app k b x y=>H5 h d k b (ev s x) (ev s y)
 | .cpy k x y=>H6 h k (ev s x) (ev s y)
 | .slcM k x lo hi=>Dt h k (ev s x) (evo s lo) (evo s hi)
 | .clr k z x=>H7 h k z (ev s x)
 | .appz k b z x n=>Du h d k b z (ev s x) (ev s n)
 | .take x=>Ge h d (ev s x)
 | .call f args=>bE call md h d (args.map (ev s)) (ev s f)
 | .callC f args=>(bE call md h d (args.map (ev s)) (ev s f)).bind (ry d)
 | .bad=>none
def dN (s:ae) (d:Option Nat) (x:AV):ae:=match d with
 | some d=>upd s d x
 | none=>s
def lS (nm:Bool) (ks:K):Bool:=!nm || ks.all fun p=>!aR p.1
def cA (nm:Bool) (s:ae) (d:Option Nat) (r:Option R3):Option St:=match r with
 | some (x,h,ks)=>if lS nm ks then some ⟨dN (ir ks s) d x,h⟩ else none
 | none=>none
def ik (d:Option Nat) (want:Bool) (st:Option St) (s:ae) (h:ac):AV→Option St
 | .v (.bool b)=>if b=want then st else some ⟨dN s d .und,h⟩
 | .und=>some ⟨dN s d .und,h⟩
 | _=>none
def iQ (call:dP) (md:Mode) (o:COp) (s:ae) (h:ac):Option St:=match o.g with
 | none=>cA md.nm s o.d (step call md (o.d.getD 0) o.op s h)
 | some g=>ik o.d g.2 (cA md.nm s o.d (step call md (o.d.getD 0) o.op s h)) s h (s g.1)
def aT {β:Type} (x:Option St) (f:ae→ac→Option β):Option β:=match x with
 | none=>none
 | some t=>f t.s t.h
def aC (call:dP) (md:Mode):List COp→ae→ac→Option St
 | [],s,h=>some ⟨s,h⟩
 | o::rest,s,h=>aT (iQ call md o s h) (aC call md rest)
def eZ:Opd→List Nat
 | .t n=>[n]
 | .c _=>[]
def kS (l:List Opd):List Nat:=l.flatMap eZ
def Gf:POp→List Nat
 | .mv x | .nilck x | .nilq _ x | .un _ x | .cv _ x | .cv0 x | .fadr _ x | .fld _ _ _ x | .ext _ x | .len _ x | .capp x=>eZ x
 | .pick c a b=>eZ c++(eZ a++eZ b)
 | .bin _ x y | .eqc _ _ x y | .iadrS _ x y | .iadrA _ _ x y | .idxS x y | .idxA _ _ _ x y=>eZ x++eZ y
 | .mnx _ x ys=>eZ x++kS ys
 | .slc _ x lo hi mx=>eZ x++(kS lo.toList++(kS hi.toList++kS mx.toList))
 | .slcS x lo hi=>eZ x++(kS lo.toList++kS hi.toList)
 | .build _ ps=>ps.flatMap fun p=>eZ p.2.2
 | .mkF _ a b=>kS a++kS b
def Gg:AOp→List Nat
 | .p op=>Gf op
 | .alloc _=>[]
 | .box _ x=>eZ x
 | .buildSl _ _ _ ps=>ps.flatMap fun p=>eZ p.2
 | .mkSl _ _ _ l c=>eZ l++eZ c
 | .load _ _ x=>eZ x
 | .store _ x y=>eZ x++eZ y
 | .app _ _ x y=>eZ x++eZ y
 | .cpy _ x y=>eZ x++eZ y
 | .slcM _ x lo hi=>eZ x++(kS lo.toList++kS hi.toList)
 | .clr _ _ x=>eZ x
 | .appz _ _ _ x n=>eZ x++eZ n
 | .take x=>eZ x
 | .call f args=>eZ f++kS args
 | .callC f args=>eZ f++kS args
 | .bad=>[]
def iG (o:COp):List Nat:=(match o.g with | some g=>[g.1] | none=>[])++Gg o.op
def vR (a b:COp):Bool :=
 (match a.d with | some d=>!(iG b).contains d | none=>true) && (match b.d with | some d=>!(iG a).contains d | none=>true) &&
 (match a.d,b.d with | some x,some y=>x != y | _,_=>true)
abbrev Fp:=Option (List Nat × List Nat)
def cH (i:Nat):Nat:=if i < 2000 then i else i - i % 8
def mA:AV→Bool
 | .rsl _ _ _ _ _=>false
 | .rsc _ _ _ _ _=>false
 | _=>true
def rz:AV→Bool
 | .agg cs=>cs.all mA
 | .fn _ a b=>a.all mA && b.all mA
 | a=>mA a
def n7:AV→Fp
 | .ipt _=>some ([],[])
 | .ref id _ _ _ _=>some ([cH id],[])
 | _=>none
def tV (y:AV):AV→Fp
 | .ref id _ _ _ _=>if dat y then some ([cH id],[cH id]) else none
 | _=>none
def LX:Value→Value→Bool
 | .int k a,.int k' b=>decide (k=k') && decide (a=b)
 | .bool a,.bool b=>a == b
 | .string a,.string b=>decide (a.data.toList=b.data.toList)
 | .pointer none,.pointer none=>true
 | .nilFunc,.nilFunc=>true
 | _,_=>false
mutual
def LY:AV→AV→Bool
 | .any,.any=>true
 | .und,.und=>true
 | .emp,.emp=>true
 | .v a,.v b=>LX a b
 | .sl k r,.sl k' r'=>decide (k=k') && Bq r r'
 | .osl k r,.osl k' r'=>decide (k=k') && Bq r r'
 | .obx c,.obx c'=>sJ c c'
 | .agg c,.agg c'=>sJ c c'
 | .ref a b c d e,.ref a' b' c' d' e'=>decide (a=a'∧b=b'∧c=c'∧d=d'∧e=e')
 | .rsl a b c d e,.rsl a' b' c' d' e'=>decide (a=a'∧b=b'∧c=c'∧d=d'∧e=e')
 | .ipt c,.ipt c'=>sJ c c'
 | .fn f a b,.fn f' a' b'=>decide (f=f') && (sJ a a' && sJ b b')
 | _,_=>false
def sJ:List AV→List AV→Bool
 | [],[]=>true
 | a::l,b::r=>LY a b && sJ l r
 | _,_=>false
def Bq:List (List AV)→List (List AV)→Bool
 | [],[]=>true
 | a::l,b::r=>sJ a b && Bq l r
 | _,_=>false
end
def Dw:Ob→Ob→Bool
 | .dead,.dead=>true
 | .bx c,.bx c'=>sJ c c'
 | .ar k r,.ar k' r'=>decide (k=k') && Bq r r'
 | .fz k r,.fz k' r'=>decide (k=k') && Bq r r'
 | _,_=>false
def BU (h h':ac) (ids:List Nat):List Nat:=ids.filter fun a=>!Dw (h a) (h' a)
def fV (h:ac) (d:Nat) (l:List AV) (h':ac):Fp :=
 if l.all dat then some ([],[2000+8*d])
 else if l.all rz then some ((cf h 40 (bJ [] (l.flatMap bT)) 0).map cH,(BU h h' (cf h 40 (bJ [] (l.flatMap bT)) 0)).map cH++[2000+8*d])
 else none
def jV (l:List AV):AV→List AV
 | .fn _ a b=>a++l++b
 | _=>l
def BV (d:Nat) (_h:ac) (l:List AV):Fp:=if l.all dat then some ([],[2000+8*d]) else none
def fw (d:Nat) (op:AOp) (s:ae) (h h':ac):Fp:=match op with
 | .p _=>some ([],[])
 | .alloc _=>some ([],[cH d])
 | .box _ x=>if dat (ev s x) then some ([],[cH d]) else none
 | .buildSl _ _ _ ps=>if ps.all fun p=>dat (ev s p.2) then some ([],[cH d]) else none
 | .mkSl _ _ _ _ _=>some ([],[cH d])
 | .load _ _ x=>n7 (ev s x)
 | .store _ x y=>tV (ev s y) (ev s x)
 | .app _ _ _ _=>none
 | .cpy _ _ _=>none
 | .slcM _ _ _ _=>none
 | .clr _ _ _=>none
 | .appz _ _ _ _ _=>none
 | .take _=>none
 | .call f args=>fV h d (jV (args.map (ev s)) (ev s f)) h'
 | .callC f args=>BV d h (jV (args.map (ev s)) (ev s f))
 | .bad=>none
def uQ (a b:List Nat):Bool:=a.all fun x=>!b.contains x
def jP:Fp→Fp→Bool
 | none,none=>false
 | none,some b=>b.1.isEmpty && b.2.isEmpty
 | some a,none=>a.1.isEmpty && a.2.isEmpty
 | some a,some b=>uQ a.2 (b.1++b.2) && uQ b.2 a.1
def jI (s:ae) (d:Option Nat) (f:ac→Fp) (r:Option R3):Option (St × Fp):=match r with
 | some (x,h,[])=>some (⟨dN s d x,h⟩,f h)
 | _=>none
def lT (d:Option Nat) (want:Bool) (st:Option (St × Fp)) (s:ae) (h:ac):AV→Option (St × Fp)
 | .v (.bool b)=>if b=want then st else some (⟨dN s d .und,h⟩,some ([],[]))
 | .und=>some (⟨dN s d .und,h⟩,some ([],[]))
 | _=>none
def cU (call:dP) (md:Mode) (o:COp) (s:ae) (h:ac):Option (St × Fp):=match o.g with
 | none=>jI s o.d (fw (o.d.getD 0) o.op s h) (step call md (o.d.getD 0) o.op s h)
 | some g=>lT o.d g.2 (jI s o.d (fw (o.d.getD 0) o.op s h) (step call md (o.d.getD 0) o.op s h)) s h (s g.1)
def fg (call:dP) (md:Mode):List COp→ae→ac→Option (St × List Fp)
 | [],s,h=>some (⟨s,h⟩,[])
 | o::rest,s,h=>(cU call md o s h).bind fun r=>(fg call md rest r.1.s r.1.h).bind fun q=>some (q.1,r.2::q.2)
def isP:AOp→Bool
 | .p _=>true
 | _=>false
def LZ:AOp→Bool
 | .load _ _ _=>true
 | _=>false
def qT (l:List Fp) (p:Nat × Nat):Bool:=match l[p.1]?,l[p.2]? with
 | some a,some b=>jP a b
 | _,_=>false
def uo (call:dP) (md:Mode) (l:List COp) (ps:List (Nat × Nat)) (s:ae) (h:ac):Option St :=
 (fg call md l s h).bind fun r=>if ps.all (qT r.2) then some r.1 else none
def Gh (i:Nat) (s:ae) (h:ac) (id p k lo n:Nat) (cs:List AV):Option AV→Option (ae × ac × K)
 | some (.osl k' rows)=>if k'=k∧lo=0∧n=rows.length∧cM (h i)=true then
   some (upd (ir [(id,true)] s) i (.rsl i none k 0 n),upd (upd h id (.bx (cs.set p .any))) i (.ar k rows),[(id,true)]) else none
 | _=>none
def P5 (i:Nat) (s:ae) (h:ac) (id p k lo n:Nat):Ob→Option (ae × ac × K)
 | .bx cs=>Gh i s h id p k lo n cs cs[p]?
 | _=>none
def JT (i:Nat) (s:ae) (h:ac):AV→Option (ae × ac × K)
 | .rsl id (some p) k lo n=>if aR i=false then P5 i s h id p k lo n (h id) else none
 | .emp=>some (s,h,[])
 | _=>none
def nE (nm:Bool) (g:Nat) (s:ae) (h:ac):Option St:=match g with
 | 0=>some ⟨s,h⟩
 | i+1=>(JT i s h (s i)).bind fun r=>if lS nm r.2.2 then some ⟨r.1,r.2.1⟩ else none
def Ao (call:dP) (md:Mode) (l:List COp) (m g:Nat) (ps:List (Nat × Nat)) (s:ae) (h:ac):Option St :=
 (fg call md (l.take m) s h).bind fun r=>if ps.all (qT r.2) then aT (nE md.nm g r.1.s r.1.h) (aC call md (l.drop m)) else none
def tW:List (Nat × Nat)→Option (Nat × Nat)
 | (p,g)::_=>if 1000000≤p then some (p - 1000000,g) else none
 | []=>none
def lU (call:dP) (md:Mode) (l:List COp) (ps:List (Nat × Nat)) (s:ae) (h:ac):Option St:=match tW ps with
 | some q=>Ao call md l q.1 q.2 ps.tail s h
 | none=>uo call md l ps s h
def mk {α:Type} (d:α) (f:Nat→α):List Nat→Nat→α
 | []=>fun _=>d
 | i::l=>upd (mk d f l) i (f i)
def knownL (l:List Nat):AV→Bool
 | .ref id _ _ _ _=>l.contains id
 | .rsl id _ _ _ _=>l.contains id
 | .rsc _ _ _ _ _=>false
 | .fn _ a b=>a.isEmpty && b.isEmpty
 | .agg _ | .tup _ | .osl _ _ | .obx _=>false
 | _=>true
def knownA (l:List Nat):AV→Bool
 | .agg cs=>cs.all (knownL l)
 | .fn _ a b=>a.all (knownL l) && b.all (knownL l)
 | a=>knownL l a
def aaL (hs:List Nat) (a:AV):AV:=if knownA hs a then a else .any
def ng (body:ae→ac→Option (Ex × St)) (ks hs:List Nat):Nat→ae→ac→Option (Ex × St)
 | 0,_,_=>none
 | n+1,s,h=>if hs.all fun a=>aM hs (h a) then (match body (mk .any (fun i=>aaL hs (s i)) ks) (mk .dead h hs) with
  | some (.normal,t)=>ng body ks hs n t.s t.h
  | r=>r) else none
def cj (x:Option (Ex × St)) (f:ae→ac→Option (Ex × St)):Option (Ex × St):=match x with
 | none=>none
 | some (.normal,t)=>f t.s t.h
 | some (.exit i,t)=>some (.exit i,t)
 | some (.ret,t)=>some (.ret,t)
def RE (i:Nat) (s:ae) (h:ac):AV→Option (ae × ac × K)
 | .rsl id sub k lo n=>(fS h (.rsl id sub k lo n)).map fun r=>(upd (ir r.2.2 s) i r.1,r.2.1,r.2.2)
 | .ref id none _ _ _=>match h id with
  | .bx cs=>some (ir [(id,true)] s,upd h id (.bx (cs.map kz)),[(id,true)])
  | _=>none
 | _=>none
def Dx (h:ac):AV→ac
 | .rsl id none _ lo n=>match h id with
  | .ar k rows=>upd h id (.ar k (rows.take (lo+n)))
  | _=>h
 | _=>h
def BW (i:Nat) (s:ae) (h:ac) (id k lo n:Nat):Ob→Option (ae × ac × K)
 | .ar k' rows=>if k'=k∧lo=0∧aR i=false∧cM (h i)=true then
   some (upd (ir [(id,false)] s) i (.rsl i none k 0 n),upd (upd h id .dead) i (.ar k rows),[(id,false)]) else none
 | _=>none
def Ia (i:Nat) (s:ae) (h:ac):AV→Option (ae × ac × K)
 | .rsl id none k lo n=>BW i s h id k lo n (h id)
 | .rsc id k lo n _=>BW i s h id k lo n (h id)
 | .emp=>some (s,h,[])
 | _=>none
def sQ (nm:Bool):List Nat→ae→ac→Option St
 | [],s,h=>some ⟨s,h⟩
 | i::l,s,h=>if 200000≤i then (Ia (i - 200000) s h (s (i - 200000))).bind fun r=>if lS nm r.2.2 then sQ nm l r.1 r.2.1 else none else if 100000≤i then sQ nm l s (Dx h (s (i - 100000))) else (RE i s h (s i)).bind fun r=>if lS nm r.2.2 then sQ nm l r.1 r.2.1 else none
def ap (id:Nat) (ks:List Nat):Option (Ex × St)→Option (Ex × St)
 | none=>none
 | some (.normal,t)=>some (.normal,⟨mk .any t.s ks,t.h⟩)
 | some (.exit i,t)=>if i=id then some (.normal,⟨mk .any t.s ks,t.h⟩) else some (.exit i,t)
 | some (.ret,t)=>some (.ret,t)
def lV (a b:Option (Ex × St)):AV→Option (Ex × St)
 | .v (.bool t)=>if t then a else b
 | _=>none
def bF (call:dP) (md:Mode) (lf:Nat):Cmd→ae→ac→Option (Ex × St)
 | .skip,s,h=>some (.normal,⟨s,h⟩)
 | .ops ks l,s,h=>aT (aC call md l s h) fun s h=>some (.normal,⟨mk .any s ks,h⟩)
 | .dops ks l ps,s,h=>aT (lU call md l ps s h) fun s h=>some (.normal,⟨mk .any s ks,h⟩)
 | .seq a b,s,h=>cj (bF call md lf a s h) (bF call md lf b)
 | .cond c a b,s,h=>lV (bF call md lf a s h) (bF call md lf b s h) (ev s c)
 | .block id ks a,s,h=>ap id ks (bF call md lf a s h)
 | .loop ks hs a,s,h=>ng (bF call md lf a) ks hs lf s h
 | .exit id,s,h=>some (.exit id,⟨s,h⟩)
 | .ret,s,h=>some (.ret,⟨s,h⟩)
 | .frz is a,s,h=>aT (sQ md.nm is s h) (bF call md lf a)
def wE (k lo n:Nat):Ob→Option AV
 | .ar k' rows=>if k'=k∧lo+n≤rows.length then (if lo=0∧n=rows.length then some (.osl k rows) else some (m8 k lo n rows)) else none
 | .fz k' rows=>if k'=k∧lo+n≤rows.length then some (m8 k lo n rows) else none
 | .bx cs=>if k=1∧lo+n≤cs.length∧cs.all ji=true then some (m8 1 lo n (oV cs)) else none
 | .dead=>none
def RF:Ob→Option AV
 | .bx cs=>if cs.all ji then some (.obx cs) else none
 | _=>none
def aaM (k lo n:Nat):Option (Nat × List (List AV))→Option AV
 | some (k',rows)=>if k'=k∧lo+n≤rows.length then some (m8 k lo n rows) else none
 | none=>none
def jk (h:ac) (a:AV):Option AV:=match a with
 | .rsl id none k lo n=>if aR id then none else wE k lo n (h id)
 | .rsl id (some p) k lo n=>if aR id then none else aaM k lo n (jc p (h id))
 | .ref id none k i j=>if aR id then some a else if k=0∧i=0∧j=0 then RF (h id) else none
 | a=>if aB a then some a else none
def uR:AV→Option AV
 | .osl k rows=>some (.sl k rows)
 | a=>if aB a then some a else none
def iR (h:ac):List AV→Option (List AV)
 | []=>some []
 | a::l=>(jk h a).bind fun b=>(uR b).bind fun c=>(iR h l).bind fun q=>some (c::q)
def ni (h:ac):AV→Option AV
 | .agg cs=>(iR h cs).map .agg
 | a=>jk h a
def rA (h:ac):List AV→Option (List AV)
 | []=>some []
 | a::l=>(ni h a).bind fun b=>(rA h l).bind fun q=>some (b::q)
def jl:List Nat→Bool
 | []=>true
 | a::l=>!l.contains a && jl l
def vS:List AV→AV
 | [a]=>a
 | l=>.tup l
def L4 (ks:K) (a:AV):AV:=match ks with
 | []=>a
 | ks=>nD ks a
def aaN (s:ae) (h:ac):Rv→Option R3
 | .t n=>some (s n,h,[])
 | .cell n k g=>fJ h k g (s n)
def tX (s:ae) (h:ac):List Rv→Option (List AV × ac × K)
 | []=>some ([],h,[])
 | r::l=>(aaN s h r).bind fun p=>(tX (ir p.2.2 s) p.2.1 l).bind fun q=>some (L4 q.2.2 p.1::q.1,q.2.1,p.2.2++q.2.2)
def uS (rs:List (List Sh)) (n:Nat) (h:ac) (vs:List AV):Option (AV × List Ob) :=
 if jl ((vs.flatMap bT).filter fun i=>!aR i) && ((cp n).all fun i=>aM (cp n) (h i)) then (rA h vs).map fun us=>(vS (br rs us),(cp n).map h) else none
def wF (nm:Bool) (rs:List (List Sh)) (res:List Rv) (n:Nat) (s:ae) (h:ac):Option (AV × List Ob):=(tX s h res).bind fun q=>if lS nm q.2.2 then uS rs n q.2.1 q.1 else none
def gx (nm:Bool) (rs:List (List Sh)) (res:List Rv) (n:Nat):Option (Ex × St)→Option (AV × List Ob)
 | some (.normal,t)=>wF nm rs res n t.s t.h
 | some (.ret,t)=>wF nm rs res n t.s t.h
 | _=>none
def n8 (args:List AV):ae:=fun i=>(args[i]?).getD .any
def BX (call:dP) (md:Mode) (lf:Nat) (fd:FD) (args:List AV) (hs:List Ob):Option (AV × List Ob) :=
 if args.length=fd.np∧hs.length≤1000 then gx md.nm fd.rs fd.res hs.length (bF call md lf fd.body (n8 args) (aj hs)) else none
structure Env where
 E:FuncId→Option (List AV→List Ob→Option (AV × List Ob))
 C:FuncId→Option FD
 md:Mode
def it (e:Env):Nat→dP
 | 0=>fun _ _ _=>none
 | n+1=>fun f args hs=>match e.E f with
  | some g=>g args hs
  | none=>(e.C f).bind fun fd=>BX (it e n) { e.md with nm:=e.md.keep f } n fd args hs
def L5:Value→Option AV
 | .slice none 0 0=>some .emp
 | .bool b=>some (.v (.bool b))
 | .int k n=>some (.v (.int k n))
 | .string s=>some (.v (.string s))
 | .pointer none=>some (.v (.pointer none))
 | .nilFunc=>some (.v .nilFunc)
 | .nilIface=>some (.v .nilIface)
 | .map none=>some (.v (.map none))
 | _=>none
def BY:List Value→Option (List AV)
 | []=>some []
 | v::l=>(L5 v).bind fun a=>(BY l).bind fun q=>some (a::q)
def bN:Operand→Option Opd
 | .tmp t=>some (.t t)
 | .const v=>(L5 v).map .c
 | .func f=>some (.c (.fn f [] []))
 | .global _=>some (.c .any)
def lW:List Operand→Option (List Opd)
 | []=>some []
 | v::l=>(bN v).bind fun a=>(lW l).bind fun q=>some (a::q)
def xV:Option Operand→Option (Option Opd)
 | none=>some none
 | some x=>(bN x).map some
def nj (P:Program) (t:TypeId):Option Bool:=match P.underlying t with
 | some (.struct _)=>some true
 | some (.array _ _)=>some true
 | some _=>some false
 | none=>none
def bj (P:Program) (t:TypeId):Option Nat:=(P.info? t).map (·.size)
def mB (P:Program) (t:TypeId):Option Nat:=(P.info? t).map (·.bytes)
def iS (P:Program) (t:TypeId):Option (List AV):=(P.info? t).bind fun i=>i.zero.bind fun z=>if z.cells.size=i.size then BY z.cells.toList else none
def qu (P:Program) (t:TypeId):Option TypeId:=match P.underlying t with
 | some (.slice e)=>some e
 | _=>none
def zi (P:Program) (t:TypeId) (f:Nat):Option Field:=match P.underlying t with
 | some (.struct fs)=>fs[f]?
 | _=>none
def BZ:BinOp→Option Bool
 | .eql=>some false
 | .neq=>some true
 | _=>none
def aaO (P:Program) (op:BinOp) (t:TypeId) (x y:Opd):Option POp:=match P.underlying t with
 | some .bool=>(BZ op).map fun n=>.eqc n 0 x y
 | some (.pointer _)=>(BZ op).map fun n=>.eqc n 1 x y
 | some (.func _ _ _)=>(BZ op).map fun n=>.eqc n 2 x y
 | some (.int _)=>some (.bin op x y)
 | some .string=>some (.bin op x y)
 | some (.slice _)=>(match y with | .c .emp=>(BZ op).map fun n=>.nilq n x | _=>none)
 | _=>none
def Yu (P:Program) (src dst:TypeId) (x:Opd):Option POp:=match P.underlying src,P.underlying dst with
 | some (.int _),some (.int k)=>some (.cv k x)
 | some .string,some .string=>some (.cv0 x)
 | _,_=>none
def TT (P:Program) (t:TypeId) (x:Opd) (lo hi mx:Option Opd):Option POp:=match P.underlying t with
 | some (.slice e)=>(bj P e).map fun k=>.slc k x lo hi mx
 | some .string=>match mx with
  | none=>some (.slcS x lo hi)
  | some _=>none
 | _=>none
def Yv (P:Program) (t:TypeId) (x i:Opd):Option POp:=match P.underlying t with
 | some (.slice e)=>(bj P e).map fun k=>.iadrS k x i
 | some (.array n e)=>(bj P e).map fun k=>.iadrA n k x i
 | _=>none
def aaP (P:Program) (t:TypeId) (x i:Opd):Option POp:=match P.underlying t with
 | some .string=>some (.idxS x i)
 | some (.array n e)=>(bj P e).bind fun k=>(nj P e).map fun g=>.idxA n k g x i
 | _=>none
def aaQ (P:Program) (t:TypeId) (x:Opd):Option POp:=match P.underlying t with
 | some (.slice _)=>some (.len false x)
 | some .string=>some (.len true x)
 | some (.array n _)=>some (.mv (.c (I n)))
 | _=>none
def aaR (P:Program) (t:TypeId) (x:Opd):Option POp:=match P.underlying t with
 | some (.slice _)=>some (.capp x)
 | _=>none
def zj (P:Program) (fs:Nat→Option (Nat × Nat)):List (Nat × Operand)→Option (List (Nat × Nat × Opd))
 | []=>some []
 | (i,x)::l=>(fs i).bind fun p=>(bN x).bind fun a=>(zj P fs l).bind fun q=>some ((p.1,p.2,a)::q)
def zk:List (Nat × Operand)→Option (List (Nat × Opd))
 | []=>some []
 | (i,x)::l=>(bN x).bind fun a=>(zk l).bind fun q=>some ((i,a)::q)
def Ib (P:Program) (fs:Array Field) (i:Nat):Option (Nat × Nat):=(fs[i]?).bind fun f=>(bj P f.type).map fun k=>(f.offset,k)
def L6 (P:Program) (t:TypeId) (ps:List (Nat × Operand)):Option POp:=(iS P t).bind fun z=>match P.underlying t with
 | some (.struct fs)=>if fs.all (fun f=>(bj P f.type).isSome) then (zj P (Ib P fs) ps).map fun q=>.build z q else none
 | some (.array _ e)=>(bj P e).bind fun k=>(zj P (fun i=>some (i*k,k)) ps).map fun q=>.build z q
 | _=>none
def Dy (P:Program) (t:TypeId) (n:Nat) (ps:List (Nat × Operand)):Option AOp:=(qu P t).bind fun e=>(bj P e).bind fun k =>
 if n*k≤16777216∧0 < k then (iS P e).bind fun z=>(zk ps).map fun q=>.buildSl k z n q else none
def Lt (P:Program) (t:TypeId) (l c:Opd):Option AOp:=(qu P t).bind fun e=>(bj P e).bind fun k=>(mB P e).bind fun b =>
 if 0 < k then (iS P e).map fun z=>.mkSl k z b l c else none
def RG (P:Program) (u:TypeId):Bool:=match P.underlying u with
 | some (.int .i64)=>true
 | _=>false
def Lu (P:Program) (t:TypeId) (x y:Operand):Option AOp:=(qu P t).bind fun e=>(bj P e).bind fun k=>(mB P e).bind fun b=>(bN x).bind fun x=>(bN y).bind fun y =>
  (iS P e).bind fun z=>if 0 < k∧0 < b then some (.appz k b z x y) else none
def RH (P:Program) (ts:List TypeId) (zas:List Operand):Option AOp:=match ts,zas with
 | [t,u],[x,y]=>if RG P u=true then Lu P t x y else (qu P t).bind fun e=>(qu P u).bind fun _=>(bj P e).bind fun k=>(mB P e).bind fun b=>(bN x).bind fun x=>(bN y).bind fun y =>
  if 0 < k∧0 < b∧(iS P e).isSome=true then some (.app k b x y) else none
 | _,_=>none
def Lv (P:Program) (ts:List TypeId) (zas:List Operand):Option AOp:=match ts,zas with
 | [t,_],[x,y]=>(qu P t).bind fun e=>(bj P e).bind fun k=>(bN x).bind fun x=>(bN y).bind fun y=>if 0 < k then some (.cpy k x y) else none
 | _,_=>none
def Gi (P:Program) (ts:List TypeId) (zas:List Operand):Option AOp:=match ts,zas with
 | [t],[x]=>(qu P t).bind fun e=>(bj P e).bind fun k=>(bN x).bind fun x=>(iS P e).bind fun z=>if 0 < k then some (.clr k z x) else none
 | _,_=>none
def Ap (P:Program) (b:Builtin) (ts:List TypeId) (zas:List Operand):Option AOp:=match b,ts,zas with
 | .len,t::_,[x]=>(bN x).bind fun x=>(aaQ P t x).map .p
 | .cap,t::_,[x]=>(bN x).bind fun x=>(aaR P t x).map .p
 | .min,_,x::l=>(bN x).bind fun x=>(lW l).map fun ys=>.p (.mnx true x ys)
 | .max,_,x::l=>(bN x).bind fun x=>(lW l).map fun ys=>.p (.mnx false x ys)
 | .append,ts,zas=>RH P ts zas
 | .copy,ts,zas=>Lv P ts zas
 | .clear,ts,zas=>Gi P ts zas
 | _,_,_=>none
def Lw (P:Program) (c:Call):Option AOp:=match c.callee with
 | .builtin b=>Ap P b c.argTypes.toList c.args.toList
 | .value f=>(bN f).bind fun f=>(lW c.args.toList).map fun l=>.call f l
 | .invoke _ _=>none
def B0 (P:Program) (op:Op):Option AOp:=match op with
 | .move x | .assign x=>(bN x).map fun x=>.p (.mv x)
 | .pick c a b=>(bN c).bind fun c=>(bN a).bind fun a=>(bN b).map fun b=>.p (.pick c a b)
 | .alloc t=>(iS P t).map .alloc
 | .box t x=>(bj P t).bind fun k=>(bN x).map fun x=>.box k x
 | .build t ps=>(L6 P t ps.toList).map .p
 | .buildSlice t n ps=>Dy P t n ps.toList
 | .load t x=>(nj P t).bind fun g=>(bj P t).bind fun k=>(bN x).bind fun x=>if g || k == 1 then some (.load k g x) else none
 | .store t x y=>(bj P t).bind fun k=>(bN x).bind fun x=>(bN y).map fun y=>.store k x y
 | .nilCheck x=>(bN x).map fun x=>.p (.nilck x)
 | .binOp op t x y _=>(bN x).bind fun x=>(bN y).bind fun y=>(aaO P op t x y).map .p
 | .unOp op _ x=>(bN x).map fun x=>.p (.un op x)
 | .convert s d x=>(bN x).bind fun x=>(Yu P s d x).map .p
 | .makeFunc (.func f) a b=>(lW a.toList).bind fun a=>(lW b.toList).map fun b=>.p (.mkF f a b)
 | .makeSlice t l c=>(bN l).bind fun l=>(bN c).bind fun c=>Lt P t l c
 | .slice t x lo hi mx=>(bN x).bind fun x=>(xV lo).bind fun lo=>(xV hi).bind fun hi=>(xV mx).bind fun mx=>(TT P t x lo hi mx).map .p
 | .fieldAddr t x f=>(bN x).bind fun x=>(zi P t f).bind fun f=>(bj P f.type).bind fun k=>if k=0 then none else some (.p (.fadr f.offset x))
 | .field t x f=>(bN x).bind fun x=>(zi P t f).bind fun f=>(bj P f.type).bind fun k=>(nj P f.type).map fun g=>.p (.fld f.offset k g x)
 | .indexAddr t x i=>(bN x).bind fun x=>(bN i).bind fun i=>(Yv P t x i).map .p
 | .index t x i=>(bN x).bind fun x=>(bN i).bind fun i=>(aaP P t x i).map .p
 | .extract x i=>(bN x).map fun x=>.p (.ext i x)
 | .call c=>Lw P c
 | _=>none
def cOp (P:Program) (op:Op):Option AOp:=some ((B0 P op).getD .bad)
def L7 (ops:Array Oper):Option (Nat × Bool)→Option (Option (Nat × Bool))
 | none=>some none
 | some (j,b)=>((ops[j]?).bind (·.dst)).map fun d=>some (d,b)
def AOp.gives:AOp→Bool
 | .store _ _ _=>false
 | .call _ _=>false
 | .callC _ _=>false
 | .bad=>false
 | .clr _ _ _=>false
 | _=>true
def L8 (P:Program) (hint:AOp) (op:Op):Option AOp:=match hint,op with
 | .slcM _ _ _ _,.slice t x lo hi none=>(qu P t).bind fun e=>(bj P e).bind fun k=>(bN x).bind fun x=>(xV lo).bind fun lo=>(xV hi).bind fun hi=>if 0 < k then some (.slcM k x lo hi) else none
 | .callC _ _,.call c=>match c.callee with
  | .value f=>(bN f).bind fun f=>(lW c.args.toList).map fun l=>.callC f l
  | _=>none
 | .take _,.load t x=>(nj P t).bind fun g=>(bN x).bind fun x=>if g=true then none else some (.take x)
 | _,_=>none
def Wr (P:Program) (hint:AOp) (op:Op):Option AOp:=match L8 P hint op with
 | some a=>some a
 | none=>cOp P op
def aaS:List COp→AOp
 | o::_=>o.op
 | []=>.bad
def Lx (P:Program) (N:Nat) (ops:Array Oper) (hint:AOp) (o:Oper):Option COp:=(L7 ops o.guard).bind fun g=>(Wr P hint o.op).bind fun op =>
 if (!op.gives || o.dst.isSome) && decide (o.dst.getD 0 < N) then some ⟨o.dst,g,op⟩ else none
def mC (P:Program) (N:Nat) (ops:Array Oper):List COp→List Oper→Option (List COp)
 | _,[]=>some []
 | hs,o::l=>(Lx P N ops (aaS hs) o).bind fun a=>(mC P N ops hs.tail l).bind fun q=>some (a::q)
def lX (o:Oper):List Nat:=(o.after.toList.filter (Region.binds .any)).map (·.on)
def P6:List Nat→List Nat→List Nat
 | acc,[]=>acc
 | acc,a::l=>match acc.contains a with
  | true=>P6 acc l
  | false=>P6 (a::acc) l
def Aq (o:Oper) (acc:List (List Nat)):List Nat:=P6 [] (lX o++(lX o).flatMap fun d=>acc.getD d [])
def lk:List Oper→List (List Nat)→List (List Nat)
 | [],acc=>acc
 | o::l,acc=>lk l (acc++[Aq o acc])
def RI (ps:List (Nat × Nat)) (i j:Nat) (a b:COp):Bool:=vR a b && (isP a.op || isP b.op || (LZ a.op && LZ b.op) || ps.contains (i,j))
def RJ (g:Nat) (a b:COp):Bool:=match a with
 | ⟨some e,none,.p (.mv (.t n))⟩=>vR a b && (g == 0 || (g != e+1 && g != n+1))
 | _=>false
def Dz (m g:Nat) (ps:List (Nat × Nat)) (i j:Nat) (a b:COp):Bool:=if j < m then RI ps i j a b else decide (i < m) && RJ g a b
def Yw (ps:List (Nat × Nat)):Nat→Nat→COp→COp→Bool:=match tW ps with
 | some q=>Dz q.1 q.2 ps.tail
 | none=>RI ps
def DA (C:Nat→Nat→COp→COp→Bool) (j:Nat) (b:COp) (bf:List Nat):Nat→List COp→Bool
 | _,[]=>true
 | i,a::l=>(bf.contains i || C i j a b) && DA C j b bf (i+1) l
def Ar (C:Nat→Nat→COp→COp→Bool):Nat→List COp→List COp→List (List Nat)→Bool
 | j,done,b::l,bf::bs=>(bf.all fun i=>decide (i < j)) && (DA C j b bf 0 done && Ar C (j+1) (done++[b]) l bs)
 | _,_,[],[]=>true
 | _,_,_,_=>false
def L9 (ops:List Oper) (cl:List COp) (ps:List (Nat × Nat)):Bool:=Ar (Yw ps) 0 [] cl (lk ops [])
def fK (P:Program) (N:Nat):Code→Cmd→Option Cmd
 | .skip,.skip=>some .skip
 | .region _ ops false,.ops ks hs=>(mC P N ops hs ops.toList).map fun l=>.ops ks l
 | .region _ ops true,.dops ks hs ps=>(mC P N ops hs ops.toList).bind fun l=>if L9 ops.toList l ps then some (.dops ks l ps) else none
 | .seq a b,.seq c d=>(fK P N a c).bind fun c=>(fK P N b d).map fun d=>.seq c d
 | .cond x a b,.cond _ c d=>(bN x).bind fun x=>(fK P N a c).bind fun c=>(fK P N b d).map fun d=>.cond x c d
 | .block i a,.block _ ks c=>(fK P N a c).map fun c=>.block i ks c
 | .loop a,.loop ks hs c=>(fK P N a c).map fun c=>.loop ks hs c
 | .exit i,.exit _=>some (.exit i)
 | .refuse _,.ops [] [⟨none,none,.bad⟩]=>some (.ops [] [⟨none,none,.bad⟩])
 | .ret,.ret=>some .ret
 | c,.frz is a=>(fK P N c a).map (.frz is)
 | _,_=>none
def As (P:Program):List ResultVar→Option (List Rv)
 | []=>some []
 | .tmp t::l=>(As P l).map fun q=>.t t::q
 | .cell a t::l=>(nj P t).bind fun g=>(bj P t).bind fun k=>if g || k == 1 then (As P l).map fun q=>.cell a k g::q else none
theorem jW (a:Addr) (n:Nat):(a.add n).block=a.block:=by grind [Addr.add]
theorem Fb {a:Addr} (n:Nat) (h:a.spot=none):(a.add n).spot=none:=by grind [Addr.add]
theorem wG (a:Addr) (i j:Nat):(a.add i).add j=a.add (i+j):=by
 grind [Addr.add,Nat.add_assoc]
theorem jX (b o n:Nat):(Addr.mk b o none).add n=⟨b,o+n,none⟩:=by
 grind [Addr.add]
theorem jY {w w':World} {a:Addr} (h:w'.heap[a.block]?=w.heap[a.block]?):w'.cell? a=w.cell? a:=by
 simp [World.cell?,h]
theorem ws {w:World} {b o:Nat} {us:Array Value} {e:TypeId} {fr:Nat × Nat} (h:w.heap[b]?=some (.cells us e fr)):w.cell? ⟨b,o,none⟩=us[o]?:=by
 simp [World.cell?,h]
def n9:Value→Bool
 | .bool _ | .int _ _ | .float _ _ | .string _ | .pointer none | .map none | .chan none | .nilFunc | .nilIface=>true
 | _=>false
theorem At {x:Value} (h:n9 x=true):x.oneCell'=true:=by
 cases x <;> simp [n9,Value.oneCell'] at h ⊢
inductive RD (w:World) (A:Nat→Prop):AV→Value→Prop
 | any (u:Value) (h:u.oneCell'=true):RD w A .any u
 | v (x:Value) (h:n9 x=true):RD w A (.v x) x
 | emp (a:Option Addr):RD w A .emp (.slice a 0 0)
 | sl (k:Nat) (rows:List (List AV)) (a:Option Addr) (cap:Nat) (ad:Addr) (vals:Nat→Nat→Value) (hc:rows.length≤cap)
   (ha:rows ≠ []→a=some ad∧A ad.block∧ad.spot=none) (hk:∀ row ∈ rows,row.length=k)
   (hv:∀ (i:Nat) (row:List AV) (j:Nat) (c:AV),rows[i]?=some row→row[j]?=some c→w.cell? (ad.add (i*k+j))=some (vals i j))
   (hl:∀ row ∈ rows,∀ c ∈ row,aB c=true) (hr:∀ (i:Nat) (row:List AV) (j:Nat) (c:AV),rows[i]?=some row→row[j]?=some c→RD w A c (vals i j)):RD w A (.sl k rows) (.slice a rows.length cap)
 | agg (cs:List AV) (us:Array Value) (hs:us.size=cs.length) (h1:∀ (i:Nat) (u:Value),us[i]?=some u→u.oneCell'=true)
   (hr:∀ (i:Nat) (c:AV) (u:Value),cs[i]?=some c→us[i]?=some u→RD w A c u):RD w A (.agg cs) (.agg us)
 | fn (f:FuncId):RD w A (.fn f [] []) (.func (.func f) #[] #[])
abbrev bq:=Nat→Option Nat→Nat × Nat
def live (h:ac) (id:Nat):Option Nat→Prop
 | none=>match h id with | .bx _ | .ar _ _=>True | _=>False
 | some p=>∃ cs k rows,h id=.bx cs∧cs[p]?=some (.osl k rows)
def bD (h:ac) (id:Nat):Option Nat→Prop
 | none=>h id ≠ .dead
 | some p=>live h id (some p)
def mD (h:ac) (ρ:bq) (b:Nat):Prop:=∃ id sub,live h id sub∧(ρ id sub).1=b
def aD (w:World) (X:Nat→Prop) (h:ac) (ρ:bq) (b:Nat):Prop:=b < w.heap.size∧¬ X b∧¬ mD h ρ b
theorem TU {h:ac} {id:Nat} {sub:Option Nat} (hl:live h id sub):bD h id sub:=by
 cases sub with
 | none=>intro e; grind [live]
 | some p=>exact hl
inductive RV (w:World) (A:Nat→Prop) (ρ:bq) (h:ac):AV→Value→Prop
 | anyv (u:Value):RV w A ρ h .any u
 | und:RV w A ρ h .und undef
 | dat {c:AV} {u:Value} (hd:RD w A c u):RV w A ρ h c u
 | ref (id:Nat) (sub:Option Nat) (k i j:Nat) (hp:bD h id sub):RV w A ρ h (.ref id sub k i j) (.pointer (some ⟨(ρ id sub).1,i*k+j,none⟩))
 | rsl (id:Nat) (sub:Option Nat) (k lo n cap:Nat) (a:Option Addr) (hp:bD h id sub) (hn:n≤cap) (hb:(lo+cap)*k=(ρ id sub).2)
   (ha:cap=0∨a=some ⟨(ρ id sub).1,lo*k,none⟩):RV w A ρ h (.rsl id sub k lo n) (.slice a n cap)
 | rsc (id k lo n cap:Nat) (a:Option Addr) (hp:bD h id none) (hn:n≤cap) (hb:(lo+cap)*k=(ρ id none).2)
   (ha:cap=0∨a=some ⟨(ρ id none).1,lo*k,none⟩):RV w A ρ h (.rsc id k lo n cap) (.slice a n cap)
 | ipt (cs:List AV) (ad:Addr) (vals:Nat→Value) (hA:A ad.block) (hs:ad.spot=none) (hv:∀ (j:Nat) (c:AV),cs[j]?=some c→w.cell? (ad.add j)=some (vals j))
   (hl:∀ c ∈ cs,aB c=true) (hr:∀ (j:Nat) (c:AV),cs[j]?=some c→RD w A c (vals j)):RV w A ρ h (.ipt cs) (.pointer (some ad))
 | agg (cs:List AV) (us:Array Value) (hs:us.size=cs.length) (h1:∀ (i:Nat) (u:Value),us[i]?=some u→u.oneCell'=true)
   (hr:∀ (i:Nat) (c:AV) (u:Value),cs[i]?=some c→us[i]?=some u→RV w A ρ h c u):RV w A ρ h (.agg cs) (.agg us)
 | tup (vs:List AV) (us:Array Value) (hs:us.size=vs.length) (hr:∀ (i:Nat) (c:AV) (u:Value),vs[i]?=some c→us[i]?=some u→RV w A ρ h c u):RV w A ρ h (.tup vs) (.tuple us)
 | fn (f:FuncId) (x y:List AV) (us ts:Array Value) (hs:us.size=x.length) (ht:ts.size=y.length) (hx:∀ (i:Nat) (c:AV) (u:Value),x[i]?=some c→us[i]?=some u→RV w A ρ h c u)
   (hy:∀ (i:Nat) (c:AV) (u:Value),y[i]?=some c→ts[i]?=some u→RV w A ρ h c u):RV w A ρ h (.fn f x y) (.func (.func f) us ts)
def bU (w:World) (A:Nat→Prop) (k:Nat) (rows:List (List AV)) (us:Array Value):Prop :=
 ∀ i row,rows[i]?=some row→row.length=k∧∀ j c,row[j]?=some c→∃ u,us[i*k+j]?=some u∧RD w A c u∧aB c=true
def jm (h:ac):AV→Prop
 | .any | .v _ | .emp | .sl _ _=>True
 | .ref id none _ _ _=>bf (h id)=true
 | .fn _ x y=>(x.all aB && y.all aB)=true
 | _=>False
def RC (w:World) (A:Nat→Prop) (ρ:bq) (h:ac) (id p:Nat) (c:AV) (u:Value):Prop :=
 match c with
 | .osl k rows=>∃ a cap us e,u=.slice a rows.length cap∧(cap=0∨a=some ⟨(ρ id (some p)).1,0,none⟩)∧rows.length≤cap ∧
   w.heap[(ρ id (some p)).1]?=some (.cells us e (0,0))∧us.size=(ρ id (some p)).2∧cap*k=us.size∧bU w A k rows us
 | c=>RV w A ρ h c u∧u.oneCell'=true∧jm h c
def RO (w:World) (A:Nat→Prop) (ρ:bq) (h:ac) (id:Nat):Ob→Prop
 | .dead=>True
 | .bx cs=>∃ us e,w.heap[(ρ id none).1]?=some (.cells us e (0,0))∧us.size=(ρ id none).2∧cs.length≤us.size∧∀ p c,cs[p]?=some c→∃ u,us[p]?=some u∧RC w A ρ h id p c u
 | .ar k rows=>∃ us e,w.heap[(ρ id none).1]?=some (.cells us e (0,0))∧us.size=(ρ id none).2∧rows.length*k≤us.size∧bU w A k rows us
 | .fz k rows=>A (ρ id none).1∧∃ us e fr,w.heap[(ρ id none).1]?=some (.cells us e fr)∧us.size=(ρ id none).2∧rows.length*k≤us.size∧bU w A k rows us
def XZ (X:Nat→Prop) (b:Nat):Prop:=X b∨b=0
structure Rel (w:World) (X:Nat→Prop) (ρ:bq) (h:ac):Prop where
 inj:∀ id sub id' sub',live h id sub→live h id' sub'→(ρ id sub).1=(ρ id' sub').1→id=id'∧sub=sub'
 nx:∀ id sub,live h id sub→¬ XZ X (ρ id sub).1
 ob:∀ id,RO w (aD w X h ρ) ρ h id (h id)
 xl:∀ b,XZ X b→b < w.heap.size
structure Evo (w:World) (ρ:bq) (h:ac) (w':World) (ρ':bq) (h':ac) (ks:K):Prop where
 os:w'.os=w.os
 tape:w'.tape=w.tape
 output:w'.output=w.output
 size:w.heap.size≤w'.heap.size
 old:∀ b,b < w.heap.size→¬ mD h ρ b→w'.heap[b]?=w.heap[b]?
 keep:∀ id sub,bD h id sub→fR ks id sub=false→bD h' id sub∧ρ' id sub=ρ id sub
 fresh:∀ b,mD h' ρ' b→mD h ρ b∨w.heap.size≤b
 boxes:∀ id,bf (h id)=true→bf (h' id)=true∧ρ' id none=ρ id none
 stay:∀ id,aR id=true→h' id ≠ .dead→h id ≠ .dead∧ρ' id none=ρ id none
theorem Evo.refl (w:World) (ρ:bq) (h:ac):Evo w ρ h w ρ h []:=⟨rfl,rfl,rfl,Nat.le_refl _,fun _ _ _=>rfl,fun _ _ hp _=>⟨hp,rfl⟩,fun _ ho=>.inl ho,fun _ hb=>⟨hb,rfl⟩,fun _ _ hd=>⟨hd,rfl⟩⟩
theorem Au (a b:K) (id:Nat) (sub:Option Nat):fR (a++b) id sub=(fR a id sub || fR b id sub):=by simp [fR]
theorem Evo.trans {w w' w'':World} {ρ ρ' ρ'':bq} {h h' h'':ac} {ks ks':K} (a:Evo w ρ h w' ρ' h' ks) (b:Evo w' ρ' h' w'' ρ'' h'' ks'):Evo w ρ h w'' ρ'' h'' (ks++ks') :=
 ⟨b.os.trans a.os,b.tape.trans a.tape,b.output.trans a.output,Nat.le_trans a.size b.size,
  fun x hx ho=>(b.old x (Nat.lt_of_lt_of_le hx a.size) (fun o=>by rcases a.fresh x o with o | o; all_goals grind)).trans (a.old x hx ho),
  fun id sub hp hk=>by
   rw [Au,Bool.or_eq_false_iff] at hk;obtain ⟨h1,h2⟩:=a.keep id sub hp hk.1;obtain ⟨h3,h4⟩:=b.keep id sub h1 hk.2;grind,
  fun x o=>by
   rcases b.fresh x o with o | o
   ·exact a.fresh x o
   ·exact .inr (Nat.le_trans a.size o),
  fun id hb=>by
   obtain ⟨h1,h2⟩:=a.boxes id hb;obtain ⟨h3,h4⟩:=b.boxes id h1;grind,
  fun id hp hd=>by
   obtain ⟨h1,h2⟩:=b.stay id hp hd;obtain ⟨h3,h4⟩:=a.stay id hp h1;grind⟩
theorem Evo.al {w w':World} {X:Nat→Prop} {ρ ρ':bq} {h h':ac} {ks:K} (e:Evo w ρ h w' ρ' h' ks) {b:Nat} (hb:aD w X h ρ b):aD w' X h' ρ' b∧w'.heap[b]?=w.heap[b]? :=
 ⟨⟨Nat.lt_of_lt_of_le hb.1 e.size,hb.2.1,fun o=>by rcases e.fresh b o with o | o; exact hb.2.2 o; have:=hb.1; omega⟩,e.old b hb.1 hb.2.2⟩
section
variable {w w':World} {A A':Nat→Prop}
theorem RD.mono {c:AV} {u:Value} (h:RD w A c u) (hA:∀ b,A b→A' b∧w'.heap[b]?=w.heap[b]?):RD w' A' c u:=by
 induction h with
 | any u h=>exact .any u h
 | v x h=>exact .v x h
 | emp a=>exact .emp a
 | sl k rows a cap ad vals hc ha hk hv hl hr ih =>
  refine .sl k rows a cap ad vals hc (fun hne=>⟨(ha hne).1,(hA _ (ha hne).2.1).1,(ha hne).2.2⟩) hk (fun i row j c h1 h2=>?_) hl ih;rw [jY (w:=w) (w':=w') (by rw [jW]; grind)];grind
 | agg cs us hs h1 hr ih=>exact .agg cs us hs h1 ih
 | fn f=>exact .fn f
theorem bU.mono {k:Nat} {rows:List (List AV)} {us:Array Value} (h:bU w A k rows us) (hA:∀ b,A b→A' b∧w'.heap[b]?=w.heap[b]?):bU w' A' k rows us :=
 fun i row hi=>⟨(h i row hi).1,fun j c hc=>by obtain ⟨u,h1,h2,h3⟩:=(h i row hi).2 j c hc; exact ⟨u,h1,h2.mono hA,h3⟩⟩
end
theorem RD.one {w:World} {A:Nat→Prop} {c:AV} {u:Value} (h:RD w A c u) (hd:aB c=true):u.oneCell'=true:=by
 cases h with
 | any u h=>omega
 | v x h=>exact At h
 | emp a=>rfl
 | sl=>rfl
 | agg=>simp [aB] at hd
 | fn=>rfl
section
variable {w w':World} {A A':Nat→Prop} {ρ ρ':bq} {h h':ac}
theorem RV.keep {c:AV} {u:Value} (hv:RV w A ρ h c u) (hA:∀ b,A b→A' b∧w'.heap[b]?=w.heap[b]?) (hk:∀ id sub,bD h id sub→bD h' id sub∧ρ' id sub=ρ id sub):RV w' A' ρ' h' c u:=by
 induction hv with
 | anyv u=>exact .anyv u
 | und=>exact .und
 | dat hd=>exact .dat (hd.mono hA)
 | ref id sub k i j hp=>rw [← (hk id sub hp).2]; exact .ref id sub k i j (hk id sub hp).1
 | rsl id sub k lo n cap a hp hn hb ha =>
  obtain ⟨h1,h2⟩:=hk id sub hp;exact .rsl id sub k lo n cap a h1 hn (by grind) (by grind)
 | rsc id k lo n cap a hp hn hb ha =>
  obtain ⟨h1,h2⟩:=hk id none hp;exact .rsc id k lo n cap a h1 hn (by grind) (by grind)
 | ipt cs ad vals hA' hs hv hl hr =>
  exact .ipt cs ad vals (hA _ hA').1 hs (fun j c hc=>by rw [jY (w:=w) (w':=w') (by rw [jW]; grind)]; grind) hl (fun j c hc=>(hr j c hc).mono hA)
 | agg cs us hs h1 hr ih=>exact .agg cs us hs h1 ih
 | tup vs us hs hr ih=>exact .tup vs us hs ih
 | fn f x y us ts hs ht hx hy ihx ihy=>exact .fn f x y us ts hs ht ihx ihy
theorem RV.keepL {ks:K} {c:AV} {u:Value} (hv:RV w A ρ h c u) (hA:∀ b,A b→A' b∧w'.heap[b]?=w.heap[b]?) (hk:∀ id sub,bD h id sub→fR ks id sub=false→bD h' id sub∧ρ' id sub=ρ id sub) (hm:lR ks c=false):RV w' A' ρ' h' c u:=by
 cases hv with
 | anyv u=>exact .anyv u
 | und=>exact .und
 | dat hd=>exact .dat (hd.mono hA)
 | ref id sub k i j hp =>
  obtain ⟨h1,h2⟩:=hk id sub hp (by simpa [lR] using hm);rw [← h2]; exact .ref id sub k i j h1
 | rsl id sub k lo n cap a hp hn hb ha =>
  obtain ⟨h1,h2⟩:=hk id sub hp (by simpa [lR] using hm);exact .rsl id sub k lo n cap a h1 hn (by grind) (by grind)
 | rsc id k lo n cap a hp hn hb ha =>
  obtain ⟨h1,h2⟩:=hk id none hp (by simpa [lR] using hm);exact .rsc id k lo n cap a h1 hn (by grind) (by grind)
 | ipt cs ad vals hA' hs hv hl hr =>
  exact .ipt cs ad vals (hA _ hA').1 hs (fun j c hc=>by rw [jY (w:=w) (w':=w') (by rw [jW]; grind)]; grind) hl (fun j c hc=>(hr j c hc).mono hA)
 | agg cs us hs h1 hr=>simp [lR] at hm
 | tup vs us hs hr=>simp [lR] at hm
 | fn f x y us ts hs ht hx hy =>
  simp [lR] at hm;obtain ⟨rfl,rfl⟩:=hm;exact .fn f [] [] us ts hs ht (fun i c u hc=>by grind) (fun i c u hc=>by grind)
theorem RV.keep1 {ks:K} {c:AV} {u:Value} (hv:RV w A ρ h c u) (hA:∀ b,A b→A' b∧w'.heap[b]?=w.heap[b]?) (hk:∀ id sub,bD h id sub→fR ks id sub=false→bD h' id sub∧ρ' id sub=ρ id sub) (hm:yF ks c=false):RV w' A' ρ' h' c u:=by
 cases c with
 | agg cs =>
  simp [yF] at hm;cases hv with
  | dat hd=>exact .dat (hd.mono hA)
  | agg _ us hs h1 hr=>exact .agg cs us hs h1 fun i c u hc hu=>(hr i c u hc hu).keepL hA hk (hm c (List.mem_of_getElem? hc))
 | fn f x y =>
  simp [yF] at hm;cases hv with
  | dat hd=>exact .dat (hd.mono hA)
  | fn _ _ _ us ts hs ht hx hy=>exact .fn f x y us ts hs ht (fun i c u hc hu=>(hx i c u hc hu).keepL hA hk (hm.1 c (List.mem_of_getElem? hc))) (fun i c u hc hu=>(hy i c u hc hu).keepL hA hk (hm.2 c (List.mem_of_getElem? hc)))
 | _=>exact hv.keepL hA hk (by simpa [yF] using hm)
theorem RV.keep2 {ks:K} {c:AV} {u:Value} (hv:RV w A ρ h c u) (hA:∀ b,A b→A' b∧w'.heap[b]?=w.heap[b]?) (hk:∀ id sub,bD h id sub→fR ks id sub=false→bD h' id sub∧ρ' id sub=ρ id sub) (hm:P4 ks c=false):RV w' A' ρ' h' c u:=by
 cases c with
 | tup vs =>
  simp [P4] at hm;cases hv with
  | dat hd=>cases hd
  | tup _ us hs hr=>exact .tup vs us hs fun i c u hc hu=>(hr i c u hc hu).keep1 hA hk (hm c (List.mem_of_getElem? hc))
 | _=>exact hv.keep1 hA hk (by simpa [P4] using hm)
end
def RS (w:World) (A:Nat→Prop) (ρ:bq) (h:ac) (s:ae) (tm:Array Value):Prop:=∀ i,RV w A ρ h (s i) (tm.getD i undef)
section
variable {w w':World} {X:Nat→Prop} {ρ ρ':bq} {h h':ac} {ks:K}
theorem Evo.rs (e:Evo w ρ h w' ρ' h' ks) {s:ae} {tm:Array Value} (hs:RS w (aD w X h ρ) ρ h s tm):RS w' (aD w' X h' ρ') ρ' h' (ir ks s) tm:=by
 intro i;cases ks with
 | nil=>exact (hs i).keep (fun b hb=>e.al hb) (fun id sub hp=>e.keep id sub hp rfl)
 | cons p l =>
  show RV _ _ _ _ (nD (p::l) (s i)) _;unfold nD;split
  ·exact .anyv _
  ·exact (hs i).keep2 (fun b hb=>e.al hb) (fun id sub hp hk=>e.keep id sub hp hk) (by grind)
theorem Evo.rv (e:Evo w ρ h w' ρ' h' []) {c:AV} {u:Value} (hv:RV w (aD w X h ρ) ρ h c u):RV w' (aD w' X h' ρ') ρ' h' c u :=
 hv.keep (fun _ hb=>e.al hb) (fun id sub hp=>e.keep id sub hp rfl)
theorem Evo.rd (e:Evo w ρ h w' ρ' h' ks) {c:AV} {u:Value} (hd:RD w (aD w X h ρ) c u):RD w' (aD w' X h' ρ') c u:=hd.mono fun _ hb=>e.al hb
end
theorem RS.upd {w:World} {A:Nat→Prop} {ρ:bq} {h:ac} {s:ae} {tm:Array Value} (hs:RS w A ρ h s tm) {d:Nat} {x:AV} {v:Value} (hd:d < tm.size) (hv:RV w A ρ h x v):RS w A ρ h (upd s d x) (tm.setIfInBounds d v):=by
 intro i;unfold Ab.upd;by_cases hi:i=d
 ·simp_all
 ·rw [if_neg hi];have:=hs i;simpa [Array.getD_eq_getD_getElem?,Array.getElem?_setIfInBounds_ne (show d ≠ i from fun e=>hi e.symm)] using this
theorem Ic {h:ac} {id:Nat} (hb:bf (h id)=true):bD h id none:=by intro e; grind [bf]
section
variable {w w':World} {A A':Nat→Prop} {ρ ρ':bq} {h h':ac} {c:AV} {u:Value}
theorem RV.toD (hd:aB c=true) (h1:u.oneCell'=true) (hv:RV w A ρ h c u):RD w A c u:=by
 cases hv with
 | anyv u=>exact .any u h1
 | und=>simp [aB] at hd
 | dat hd=>omega
 | fn f x y us ts hs ht hx hy =>
  simp [aB] at hd;obtain ⟨rfl,rfl⟩:=hd;have e1:us=#[]:=by grind
  have e2:ts=#[]:=by grind
  subst e1 e2;exact .fn f
 | _=>simp [aB] at hd
theorem RV.keepD (hd:aB c=true) (hv:RV w A ρ h c u) (hA:∀ b,A b→A' b∧w'.heap[b]?=w.heap[b]?):RV w' A' ρ' h' c u:=by
 cases hv with
 | anyv u=>exact .anyv u
 | und=>exact .und
 | dat hd=>exact .dat (hd.mono hA)
 | fn f x y us ts hs ht hx hy =>
  simp [aB] at hd;obtain ⟨rfl,rfl⟩:=hd;exact .fn f [] [] us ts hs ht (fun i c u hc=>by grind) (fun i c u hc=>by grind)
 | _=>simp [aB] at hd
theorem RV.keepC (hv:RV w A ρ h c u) (ho:jm h c) (hA:∀ b,A b→A' b∧w'.heap[b]?=w.heap[b]?) (hB:∀ id,bf (h id)=true→bf (h' id)=true∧ρ' id none=ρ id none):RV w' A' ρ' h' c u∧jm h' c:=by
 cases hv with
 | anyv u=>exact ⟨.anyv u,trivial⟩
 | und=>cases ho
 | dat hd =>
  refine ⟨.dat (hd.mono hA),?_⟩;cases hd <;> first | trivial | exact ho
 | ref id sub k i j hp =>
  cases sub with
  | none =>
   obtain ⟨h1,h2⟩:=hB id ho;exact ⟨by rw [← h2]; exact .ref id none k i j (Ic h1),h1⟩
  | some p=>cases ho
 | fn f x y us ts hs ht hx hy =>
  have ho':=ho;simp only [jm,Bool.and_eq_true,List.all_eq_true] at ho';exact ⟨.fn f x y us ts hs ht (fun i c u hc hu=>(hx i c u hc hu).keepD (ho'.1 c (List.mem_of_getElem? hc)) hA) (fun i c u hc hu=>(hy i c u hc hu).keepD (ho'.2 c (List.mem_of_getElem? hc)) hA),ho⟩
 | _=>cases ho
theorem rB (hd:aB c=true):jm h c:=by
 cases c <;> simp [aB] at hd <;> first | trivial | (obtain ⟨rfl,rfl⟩:=hd; simp [jm])
theorem oe (hn:aU c=false) {id p:Nat}:RC w A ρ h id p c u↔RV w A ρ h c u∧u.oneCell'=true∧jm h c:=by
 cases c <;> first | rfl | simp [aU] at hn
theorem RO.keep {id:Nat} (ho:RO w A ρ h id (h id)) (hA:∀ b,A b→A' b∧w'.heap[b]?=w.heap[b]?) (hB:∀ id,bf (h id)=true→bf (h' id)=true∧ρ' id none=ρ id none)
  (hρ:∀ sub,ρ' id sub=ρ id sub) (hb:∀ sub,live h id sub→w'.heap[(ρ id sub).1]?=w.heap[(ρ id sub).1]?):RO w' A' ρ' h' id (h id):=by
 cases e:h id with
 | dead=>trivial
 | bx cs =>
  rw [e] at ho;obtain ⟨us,t,h1,h2,h3,h4⟩:=ho;refine ⟨us,t,?_,by grind,h3,fun p c hc=>?_⟩
  ·rw [hρ,hb none (by simp [live,e]),h1]
  ·obtain ⟨u,h5,h6⟩:=h4 p c hc;refine ⟨u,h5,?_⟩;cases hO:aU c with
   | true =>
    cases c <;> simp [aU] at hO;rename_i k rows;obtain ⟨a,cap,us',t',g1,g2,g3,g4,g5,g6,g7⟩:=h6;refine ⟨a,cap,us',t',g1,by grind,g3,?_,by grind,g6,g7.mono hA⟩;rw [hρ,hb (some p) ⟨cs,k,rows,e,hc⟩,g4]
   | false =>
    rw [oe hO] at h6 ⊢;obtain ⟨g1,g2⟩:=h6.1.keepC h6.2.2 hA hB;grind
 | ar k rows =>
  rw [e] at ho;obtain ⟨us,t,h1,h2,h3,h4⟩:=ho;exact ⟨us,t,by rw [hρ,hb none (by simp [live,e]),h1],by grind,h3,h4.mono hA⟩
 | fz k rows =>
  rw [e] at ho;obtain ⟨h0,us,t,fr,h1,h2,h3,h4⟩:=ho;obtain ⟨g1,g2⟩:=hA _ h0;exact ⟨by grind,us,t,fr,by rw [hρ,g2,h1],by grind,h3,h4.mono hA⟩
end
theorem Rel.step {w w':World} {X:Nat→Prop} {ρ ρ':bq} {h h':ac} {ks:K} (r:Rel w X ρ h) (e:Evo w ρ h w' ρ' h' ks) (S:Nat→Prop)
  (hS:∀ id,¬ S id→h' id=h id∧(∀ sub,ρ' id sub=ρ id sub)∧(∀ sub,live h id sub→w'.heap[(ρ id sub).1]?=w.heap[(ρ id sub).1]?))
  (hi:∀ id sub id' sub',live h' id sub→live h' id' sub'→(ρ' id sub).1=(ρ' id' sub').1→id=id'∧sub=sub') (hx:∀ id sub,live h' id sub→¬ XZ X (ρ' id sub).1)
  (hc:∀ id,S id→RO w' (aD w' X h' ρ') ρ' h' id (h' id)):Rel w' X ρ' h' :=
 ⟨hi,hx,fun id=>by
  by_cases hs:S id
  ·grind
  ·obtain ⟨h1,h2,h3⟩:=hS id hs;rw [h1];exact (r.ob id).keep (fun b hb=>e.al hb) e.boxes h2 h3,
  fun b hb=>Nat.lt_of_lt_of_le (r.xl b hb) e.size⟩
section
variable {P:Program} {w:World} {A:Nat→Prop} {ρ:bq} {h:ac} {s:ae} {a:Act}
theorem RV.v_inv {x u:Value} (hv:RV w A ρ h (.v x) u):u=x∧n9 x=true:=by
 cases hv with | dat hd=>cases hd with | v _ hp=>grind
theorem RV.emp_inv {u:Value} (hv:RV w A ρ h .emp u):∃ a,u=.slice a 0 0:=by
 cases hv with | dat hd=>cases hd with | emp a=>grind
theorem RV.sl_inv {k:Nat} {rows:List (List AV)} {u:Value} (hv:RV w A ρ h (.sl k rows) u):RD w A (.sl k rows) u:=by
 cases hv with | dat hd=>omega
theorem RD.sl_form {k:Nat} {rows:List (List AV)} {u:Value} (hv:RD w A (.sl k rows) u):∃ a cap,u=.slice a rows.length cap∧rows.length≤cap:=by
 cases hv with | sl _ _ a cap _ _ hc=>grind
theorem RV.rsl_inv {id:Nat} {sub:Option Nat} {k lo n:Nat} {u:Value} (hv:RV w A ρ h (.rsl id sub k lo n) u) :
  ∃ a cap,u=.slice a n cap∧bD h id sub∧n≤cap∧(lo+cap)*k=(ρ id sub).2∧(cap=0∨a=some ⟨(ρ id sub).1,lo*k,none⟩):=by
 cases hv with
 | dat hd=>cases hd
 | rsl _ _ _ _ _ cap a hp hn hb ha=>grind
theorem RV.rsc_inv {id k lo n c:Nat} {u:Value} (hv:RV w A ρ h (.rsc id k lo n c) u) :
  ∃ a,u=.slice a n c∧bD h id none∧n≤c∧(lo+c)*k=(ρ id none).2∧(c=0∨a=some ⟨(ρ id none).1,lo*k,none⟩):=by
 cases hv with
 | dat hd=>cases hd
 | rsc _ _ _ _ _ a hp hn hb ha=>grind
theorem RV.ref_inv {id:Nat} {sub:Option Nat} {k i j:Nat} {u:Value} (hv:RV w A ρ h (.ref id sub k i j) u) :
  u=.pointer (some ⟨(ρ id sub).1,i*k+j,none⟩)∧bD h id sub:=by
 cases hv with
 | dat hd=>cases hd
 | ref _ _ _ _ _ hp=>grind
theorem RV.fn_inv {f:FuncId} {x y:List AV} {u:Value} (hv:RV w A ρ h (.fn f x y) u):∃ us ts:Array Value,u=.func (.func f) us ts∧us.size=x.length∧ts.size=y.length ∧
  (∀ (i:Nat) (c:AV) (u:Value),x[i]?=some c→us[i]?=some u→RV w A ρ h c u)∧(∀ (i:Nat) (c:AV) (u:Value),y[i]?=some c→ts[i]?=some u→RV w A ρ h c u):=by
 cases hv with
 | dat hd=>cases hd with | fn _=>grind
 | fn _ _ _ us ts hs ht hx hy=>grind
theorem RV.agg_inv {cs:List AV} {u:Value} (hv:RV w A ρ h (.agg cs) u):∃ us:Array Value,u=.agg us∧us.size=cs.length∧(∀ (i:Nat) (u:Value),us[i]?=some u→u.oneCell'=true) ∧
  (∀ (i:Nat) (c:AV) (u:Value),cs[i]?=some c→us[i]?=some u→RV w A ρ h c u):=by
 cases hv with
 | dat hd=>cases hd with | agg _ us hs h1 hr=>exact ⟨us,rfl,hs,h1,fun i c u hc hu=>.dat (hr i c u hc hu)⟩
 | agg _ us hs h1 hr=>grind
theorem JU {v:Value} {c:AV} (hc:L5 v=some c):RD w A c v:=by
 unfold L5 at hc;split at hc <;> cases hc
 ·exact .emp none
 all_goals exact .v _ rfl
theorem aN {x:Operand} {y:Opd} (hc:bN x=some y) (hs:RS w A ρ h s a.tmps):RV w A ρ h (ev s y) (a.eval x):=by
 cases x with
 | tmp t=>simp [bN] at hc; subst hc; exact hs t
 | const v =>
  simp [bN] at hc;obtain ⟨c,h1,rfl⟩:=hc;exact .dat (JU h1)
 | func f=>simp [bN] at hc; subst hc; exact .dat (.fn f)
 | global g=>simp [bN] at hc; subst hc; exact .anyv _
theorem qU (hs:RS w A ρ h s a.tmps):∀ {x:List Operand} {y:List Opd},lW x=some y→y.length=x.length∧∀ (i:Nat) (o:Operand) (p:Opd),x[i]?=some o→y[i]?=some p→RV w A ρ h (ev s p) (a.eval o)
 | [],y,hc=>by grind [lW]
 | o::l,y,hc=>by
  simp only [lW,Option.bind_eq_some_iff] at hc;obtain ⟨p,h1,q,h2,h3⟩:=hc;cases h3;obtain ⟨h4,h5⟩:=qU hs h2;refine ⟨by simp [h4],fun i o' p' ho hp=>?_⟩;cases i with
  | zero=>simp at ho hp; subst ho hp; exact aN h1 hs
  | succ i=>exact h5 i o' p' (by simpa using ho) (by simpa using hp)
theorem RK {op:BinOp} {t:TypeId} {u v r:Value} (hb:hF op u v=some r):(binOp op t u v).run P w=.ok r w∧n9 r=true:=by
 cases u with
 | int k x =>
  cases v with
  | int k' y =>
   have hk:∀ op,(if k=k' then nZ op k x y else none)=some r→op ≠ .shl→op ≠ .shr→(binOp op t (.int k x) (.int k' y)).run P w=.ok r w∧n9 r=true:=by
    intro op hq h1 h2;split at hq
    ·cases op <;> simp [nZ] at hq h1 h2 <;> (first | subst hq | (obtain ⟨h0,hq⟩:=hq; subst hq)) <;> simp_all [binOp,Op.intArith,Op.intDiv,Op.intBits,Op.intCmp,n9]
    grind
   cases op <;> first
    | exact hk _ hb (by simp) (by simp)
    | (simp [hF,Wl,Wm] at hb; obtain ⟨h0,hb⟩:=hb; subst hb; simp [binOp,Op.shift,show ¬ y < 0 from by omega,n9])
  | _=>simp [hF] at hb
 | string x =>
  cases v with
  | string y =>
   cases op <;> simp [hF,aaI] at hb
   case add=>obtain ⟨h0,hb⟩:=hb; subst hb; simp [binOp,Op.stringOp,n9,h0]
   all_goals subst hb; simp [binOp,Op.stringOp,n9]
  | _=>simp [hF] at hb
 | _=>simp [hF] at hb
theorem uT {op:BinOp} {t:TypeId} {x y:Operand} {u v:Value} (hu:u.oneCell'=true) (h2:u=.nilIface→v ≠ .nilIface):(eqGuard op t x y u v).run P w=.ok () w:=by
 unfold eqGuard
 all_goals (cases u <;> simp [Value.oneCell'] at hu ⊢ <;> cases v <;> simp at h2 ⊢)
abbrev nF (P:Program) (w:World) (A:Nat→Prop) (ρ:bq) (h:ac) (m:Sem Value) (z:AV):Prop:=∃ v,m.run P w=.ok v w∧RV w A ρ h z v
theorem yH {α β:Type} {m:Sem α} {f:α→Sem β} {x:α} {w w':World} (hm:m.run P w=.ok x w'):(m >>= f).run P w=(f x).run P w':=by
 simp_all
theorem RL {c x y:AV} {u v t:Value} {z:AV} (hc:RV w A ρ h c t) (hx:RV w A ρ h x u) (hy:RV w A ρ h y v) (hz:Dp c x y=some z) :
  nF P w A ρ h (do pure (if ← asBool t then u else v)) z:=by
 unfold Dp at hz;split at hz
 ·rename_i b;obtain ⟨rfl,_⟩:=hc.v_inv;refine ⟨if b then u else v,by simp [asBool],?_⟩;grind
 grind
theorem JV {op:BinOp} {t:TypeId} {xo yo:Operand} {x y z:AV} {u v:Value} (hx:RV w A ρ h x u) (hy:RV w A ρ h y v) (hz:cK op x y=some z) :
  nF P w A ρ h (do eqGuard op t xo yo u v; binOp op t u v) z:=by
 unfold cK at hz;split at hz
 ·simp only [Option.map_eq_some_iff] at hz;obtain ⟨r,hr,rfl⟩:=hz;obtain ⟨rfl,_⟩:=hx.v_inv;obtain ⟨rfl,_⟩:=hy.v_inv;obtain ⟨h1,h2⟩:=RK (P:=P) (w:=w) (t:=t) hr;refine ⟨r,?_,.dat (.v _ h2)⟩;rw [yH (uT ?_ ?_),h1]
  ·cases u <;> first | rfl | simp [hF] at hr
  grind [hF]
 grind
theorem TV {t:TypeId} (ht:P.underlying t=some .bool) (d:Nat) (p q:Bool):(Op.equalIn (d+1) t (.bool p) (.bool q)).run P w=.ok (p == q) w:=by
 simp [Op.equalIn,run_underlying ht]
theorem Ma {t e:TypeId} (ht:P.underlying t=some (.pointer e)) (d:Nat) (p:Option Addr):(Op.equalIn (d+1) t (.pointer p) (.pointer none)).run P w=.ok p.isNone w:=by
 cases p <;> simp [Op.equalIn,run_underlying ht]
theorem Y3 {t:TypeId} {x y:Array TypeId} {b:Bool} (ht:P.underlying t=some (.func x y b)) (d:Nat) (f:Fn) (p q:Array Value):(Op.equalIn (d+1) t (.func f p q) .nilFunc).run P w=.ok false w:=by
 simp [Op.equalIn,run_underlying ht]
theorem Ws {t:TypeId} {x y:Array TypeId} {b:Bool} (ht:P.underlying t=some (.func x y b)) (d:Nat):(Op.equalIn (d+1) t .nilFunc .nilFunc).run P w=.ok true w:=by
 simp [Op.equalIn,run_underlying ht]
theorem B1 {op:BinOp} {n:Bool} {tc:Nat} {t:TypeId} {xo yo:Operand} {x y z:AV} {u v:Value} (hx:RV w A ρ h x u) (hy:RV w A ρ h y v) (hop:BZ op=some n)
  (ht:(tc=0→P.underlying t=some .bool)∧(tc=1→∃ e,P.underlying t=some (.pointer e))∧(tc=2→∃ p q r,P.underlying t=some (.func p q r))) (hz:LJ n tc x y=some z) :
  nF P w A ρ h (do eqGuard op t xo yo u v; binOp op t u v) z:=by
 have hop':(op=.eql∧n=false)∨(op=.neq∧n=true):=by grind [BZ]
 have key:∀ (r:Bool),u.oneCell'=true→u ≠ .nilIface→(∀ k q,u ≠ .int k q)→(∀ q,u ≠ .string q)→(∀ k q,u ≠ .float k q)→(∀ k p q,u ≠ .complex k p q)→(Op.equal t u v).run P w=.ok r w→nF P w A ρ h (do eqGuard op t xo yo u v; binOp op t u v) (B (n != r)):=by
  intro r h1 h2 h3 h4 h5 h6 he;rcases hop' with ⟨rfl,rfl⟩ | ⟨rfl,rfl⟩
  ·refine ⟨.bool r,?_,?_⟩
   ·simp_all [yH,uT,absurd,binOp]
   ·have:(false != r)=r:=by simp_all
    rw [this]; exact .dat (.v _ rfl)
  ·refine ⟨.bool (!r),?_,?_⟩
   ·simp_all [yH,uT,absurd,binOp]
   ·have:(true != r)=!r:=by grind
    rw [this]; exact .dat (.v _ rfl)
 unfold LJ at hz;split at hz
 ·split at hz
  ·rename_i p q htc;cases hz;obtain ⟨rfl,_⟩:=hx.v_inv;obtain ⟨rfl,_⟩:=hy.v_inv;refine key (p == q) rfl (by simp) (by simp) (by simp) (by simp) (by simp) ?_;exact TV (ht.1 htc) 9999 p q
  grind
 ·split at hz
  ·rename_i htc;obtain ⟨rfl,_⟩:=hx.ref_inv;obtain ⟨rfl,_⟩:=hy.v_inv;obtain ⟨e,he⟩:=ht.2.1 htc;have:=key false rfl (by simp) (by simp) (by simp) (by simp) (by simp) (Ma he 9999 _);grind
  grind
 ·split at hz
  ·rename_i htc;obtain ⟨rfl,_⟩:=hx.v_inv;obtain ⟨rfl,_⟩:=hy.v_inv;obtain ⟨e,he⟩:=ht.2.1 htc;have:=key true rfl (by simp) (by simp) (by simp) (by simp) (by simp) (Ma he 9999 _);grind
  grind
 ·split at hz
  ·rename_i htc;obtain ⟨us,ts,rfl,_⟩:=hx.fn_inv;obtain ⟨rfl,_⟩:=hy.v_inv;obtain ⟨p,q,r,he⟩:=ht.2.2 htc;have:=key false rfl (by simp) (by simp) (by simp) (by simp) (by simp) (Y3 he 9999 _ _ _);grind
  grind
 ·split at hz
  ·rename_i htc;obtain ⟨rfl,_⟩:=hx.v_inv;obtain ⟨rfl,_⟩:=hy.v_inv;obtain ⟨p,q,r,he⟩:=ht.2.2 htc;have:=key true rfl (by simp) (by simp) (by simp) (by simp) (by simp) (Ws he 9999);grind
  grind
 grind
theorem Wt {op:UnOp} {x z:AV} {u:Value} (hx:RV w A ρ h x u) (hz:LK op x=some z):nF P w A ρ h (Op.unary op u) z:=by
 unfold LK at hz;split at hz
 ·obtain ⟨rfl,_⟩:=hx.v_inv;cases op <;> simp only [Option.some.injEq] at hz <;> try (cases hz; done)
  ·subst hz;exact ⟨_,by simp [Op.unary,Op.intArith],.dat (.v _ rfl)⟩
  ·subst hz;exact ⟨_,by simp [Op.unary,Op.intBits],.dat (.v _ rfl)⟩
 ·obtain ⟨rfl,_⟩:=hx.v_inv;cases op <;> simp at hz;subst hz;exact ⟨_,by simp [Op.unary],.dat (.v _ rfl)⟩
 grind
theorem Wu {src dst:TypeId} {k:IntKind} {x z:AV} {u:Value} (hx:RV w A ρ h x u) (hs:(P.underlying src).isSome=true) (hd:P.underlying dst=some (.int k)) (hz:TS k x=some z) :
  nF P w A ρ h (convert src dst u) z:=by
 unfold TS at hz;split at hz
 ·obtain ⟨rfl,_⟩:=hx.v_inv;cases hz;obtain ⟨d,hd'⟩:=Option.isSome_iff_exists.1 hs;exact ⟨_,by simp_all [convert,run_underlying,Conv.intToInt],.dat (.v _ rfl)⟩
 grind
theorem TW {src dst:TypeId} {x z:AV} {u:Value} (hx:RV w A ρ h x u) (hs:P.underlying src=some .string) (hd:P.underlying dst=some .string) (hz:Rz x=some z) :
  nF P w A ρ h (convert src dst u) z:=by
 unfold Rz at hz;split at hz
 ·obtain ⟨rfl,_⟩:=hx.v_inv;cases hz;exact ⟨_,by simp_all [convert,run_underlying],.dat (.v _ rfl)⟩
 grind
end
section
variable {P:Program} {w:World} {A:Nat→Prop} {ρ:bq} {h:ac} {s:ae} {a:Act}
inductive RVo (w:World) (A:Nat→Prop) (ρ:bq) (h:ac):Option AV→Option Value→Prop
 | none:RVo w A ρ h none none
 | some {x:AV} {u:Value} (hv:RV w A ρ h x u):RVo w A ρ h (some x) (some u)
theorem lN {x:Option Operand} {y:Option Opd} (hc:xV x=some y) (hs:RS w A ρ h s a.tmps):RVo w A ρ h (evo s y) (x.map a.eval):=by
 cases x with
 | none=>simp [xV] at hc; subst hc; exact .none
 | some x =>
  simp only [xV,Option.map_eq_some_iff] at hc;obtain ⟨p,h1,rfl⟩:=hc;exact .some (aN h1 hs)
theorem uq {d n:Nat} {x:AV} {u:Value} {r:Nat} (hx:RV w A ρ h x u) (hb:jK d n (some x)=some r) (y:Nat) (hy:n≤y) (code:BoundsCode) :
  (Instr.sliceBound u y code).run P w=.ok r w∧r≤n:=by
 cases x with
 | v x =>
  obtain ⟨rfl,_⟩:=hx.v_inv;cases u with
  | int k i =>
   grind [jK,run_sliceBound]
  | _=>simp [jK] at hb
 | _=>simp [jK] at hb
theorem o5 {n cap:Nat} (isS:Bool) {lo hi mx:Option AV} {lo' hi' mx':Option Value} (hl:RVo w A ρ h lo lo') (hh:RVo w A ρ h hi hi') (hm:RVo w A ρ h mx mx') {l r:Nat}
  (hb:kw n lo hi mx=some (l,r)) (hc:n≤cap):∃ m,(Instr.sliceBounds isS n cap lo' hi' mx').run P w=.ok (l,r,m) w∧l≤r∧r≤n∧r≤m∧m≤cap∧(mx=none→m=cap)∧(BR mx=true→m=0):=by
 have low:∀ (r:Nat),(jK 0 r lo).bind (fun x=>some (x,r))=some (l,r)→∀ (code:BoundsCode),((match lo' with | some v=>Instr.sliceBound v r code | none=>pure 0:Sem Nat)).run P w=.ok l w∧l≤r:=by
  intro r hb code;cases hl with
  | none=>simp [jK] at hb; subst hb; simp_all
  | some hv =>
   simp only [Option.bind_eq_some_iff] at hb;obtain ⟨x,h1,h2⟩:=hb;cases h2;exact uq hv h1 r (Nat.le_refl _) code
 cases hm with
 | none =>
  simp only [kw,Option.bind_eq_some_iff] at hb;obtain ⟨q,h1,x,h2,h3⟩:=hb;have hq:q=r:=by grind
  subst hq;have h4:=low q (by grind);cases hh with
  | none =>
   simp [jK] at h1;subst h1;refine ⟨cap,?_,(h4 .sliceB).2,Nat.le_refl _,hc,Nat.le_refl _,fun _=>rfl,fun e=>by grind [BR]⟩;cases lo' <;> simp_all [Instr.sliceBounds]
  | some hv =>
   have h6:∀ code,_:=fun code=>uq (P:=P) hv h1 cap hc code;refine ⟨cap,?_,(h4 .sliceB).2,(h6 .sliceB).2,Nat.le_trans (h6 .sliceB).2 hc,Nat.le_refl _,fun _=>rfl,fun e=>by grind [BR]⟩;cases lo' <;> simp_all [Instr.sliceBounds]
 | some hm =>
  rename_i xm um;simp only [kw,Option.bind_eq_some_iff] at hb;obtain ⟨m,h0,hb⟩:=hb;cases hh with
  | none=>grind
  | some hv =>
   simp only [Option.bind_eq_some_iff] at hb;obtain ⟨q,h1,x,h2,h3⟩:=hb;have hq:q=r:=by grind
   subst hq;have h4:=low q (by grind);have h6:∀ code,_:=fun code=>uq (P:=P) hv h1 m (Nat.le_refl _) code;have h8:∀ code,_:=fun code=>uq (P:=P) hm h0 cap hc code;refine ⟨m,?_,(h4 .slice3C).2,Nat.le_trans (h6 .slice3B).2 (h8 .slice3B).2,(h6 .slice3B).2,Nat.le_trans (h8 .slice3B).2 hc,fun e=>by grind,fun e=>?_⟩
   ·cases lo' <;> simp_all [Instr.sliceBounds]
   ·cases xm with
    | v x =>
     cases x with
     | int k i =>
      have:i=0:=by
       unfold BR at e;grind
      grind [jK]
     | _=>simp [BR] at e
    | _=>simp [BR] at e
theorem TY {t e:TypeId} {k:Nat} (ht:P.underlying t=some (.slice e)) (hk:bj P e=some k) {x z:AV} {u:Value} {lo hi mx:Option AV} {lo' hi' mx':Option Value}
  (hx:RV w A ρ h x u) (hl:RVo w A ρ h lo lo') (hh:RVo w A ρ h hi hi') (hm:RVo w A ρ h mx mx') (hz:eu k x lo hi mx=some z) :
  nF P w A ρ h (Instr.sliceAt t u lo' hi' mx') z:=by
 have hsz:∀ w,(sizeOf e).run P w=.ok k w:=by
  intro w;simp only [bj,Option.map_eq_some_iff] at hk;obtain ⟨i,h1,h2⟩:=hk
  simp_all [sizeOf,typeInfo]
 have run:∀ (a:Option Addr) (n cap l r m:Nat),(Instr.sliceBounds true n cap lo' hi' mx').run P w=.ok (l,r,m) w →
   (Instr.sliceAt t (.slice a n cap) lo' hi' mx').run P w=.ok (.slice (if m=l then a else a.map (·.add (l*k))) (r - l) (m - l)) w:=by
  simp_all [Instr.sliceAt,Instr.slice,run_underlying]
 cases x with
 | emp =>
  obtain ⟨a,rfl⟩:=hx.emp_inv;simp only [eu,Option.map_eq_some_iff] at hz;obtain ⟨⟨l,r⟩,h1,rfl⟩:=hz;obtain ⟨m,h2,h3,h4,h5,h6,_⟩:=o5 (P:=P) true hl hh hm h1 (Nat.le_refl 0);grind
 | sl k' rows =>
  obtain ⟨a,cap,rfl,hcap⟩:=hx.sl_inv.sl_form;simp only [eu] at hz;split at hz
  ·rename_i hkk;subst hkk;simp only [Option.map_eq_some_iff] at hz;obtain ⟨⟨l,r⟩,h1,rfl⟩:=hz;obtain ⟨m,h2,h3,h4,h5,h6,h7,h8⟩:=o5 (P:=P) true hl hh hm h1 hcap;refine ⟨_,run _ _ _ _ _ _ h2,?_⟩;split
   ·rename_i hZ;have:m=0:=h8 hZ;have:l=0:=by omega
    have:r=0:=by omega
    subst_vars
    exact .dat (.emp _)
   ·have hd:=hx.sl_inv;cases hd with
    | sl _ _ _ _ ad vals hc ha hk' hv hdl hr =>
     have hlen:((rows.drop l).take (r - l)).length=r - l:=by grind
     have key:RD w A (.sl k' ((rows.drop l).take (r - l))) (.slice (if m=l then a else a.map (·.add (l*k'))) ((rows.drop l).take (r - l)).length (m - l)):=by
      have at_:∀ (i:Nat) (row:List AV),((rows.drop l).take (r - l))[i]?=some row→rows[l+i]?=some row:=by
       grind
      refine .sl k' _ _ _ (ad.add (l*k')) (fun i j=>vals (l+i) j) (by omega) (fun hne=>?_) (fun row hrow=>hk' row (List.mem_of_mem_drop (List.mem_of_mem_take hrow))) (fun i row j c h1 h2=>?_) (fun row hrow=>hdl row (List.mem_of_mem_drop (List.mem_of_mem_take hrow))) (fun i row j c h1 h2=>hr _ _ _ _ (at_ i row h1) h2)
      ·have hlr:l < r:=by
        rcases Nat.lt_or_ge l r with hlt | hge
        all_goals simp_all
       have hr0:rows ≠ []:=by grind
       obtain ⟨ha1,ha2,ha3⟩:=ha hr0;refine ⟨?_,by grind [jW],Fb _ ha3⟩;grind
      grind [wG,Nat.add_assoc,Nat.add_mul]
     rw [hlen] at key;exact .dat key
  grind
 | rsl id sub k' l0 n =>
  obtain ⟨a,cap,rfl,hp,hn,hb,ha⟩:=hx.rsl_inv;simp only [eu] at hz;split at hz
  ·rename_i hkk;subst hkk;simp only [Option.map_eq_some_iff] at hz;obtain ⟨⟨l,r⟩,h1,rfl⟩:=hz;obtain ⟨m,h2,h3,h4,h5,h6,h7,h8⟩:=o5 (P:=P) true hl hh hm h1 hn;cases hmx:mx with
   | some mv =>
    exact ⟨_,run _ _ _ _ _ _ h2,.anyv _⟩
   | none =>
   have hmc:m=cap:=h7 hmx;refine ⟨_,run _ _ _ _ _ _ h2,.rsl _ _ _ _ _ _ _ hp (by omega) (by grind) ?_⟩;rcases ha with h0 | h0
   ·omega
   ·by_cases hml:m=l
    all_goals simp_all [if_neg,Option.map_some,jX,Nat.add_mul]
  grind
 | rsc id k' l0 n c =>
  obtain ⟨a,rfl,hp,hn,hb,ha⟩:=hx.rsc_inv;simp only [eu] at hz;split at hz
  ·rename_i hkk;subst hkk;unfold LL at hz;split at hz
   ·rename_i hi;cases hm;cases hl;simp only [Option.map_eq_some_iff] at hz;obtain ⟨r,h1,rfl⟩:=hz;cases hh with
    | @some _ uh hv =>
    have h6:=fun code=>uq (P:=P) hv h1 c (Nat.le_refl _) code;have hbd:(Instr.sliceBounds true n c none (some uh) none).run P w=.ok (0,r,c) w:=by
     simp_all [Instr.sliceBounds]
    refine ⟨_,run _ _ _ _ _ _ hbd,.rsc _ _ _ _ _ _ hp (by have:=(h6 .sliceAcap).2; omega) hb ?_⟩;rcases ha with h0 | h0
    all_goals simp_all [if_neg,jX]
   ·simp only [Option.map_eq_some_iff] at hz;obtain ⟨⟨l,r⟩,h1,rfl⟩:=hz;cases hm;obtain ⟨m,h2,h3,h4,h5,h6,h7,h8⟩:=o5 (P:=P) true hl hh .none h1 hn;have hmc:m=c:=h7 rfl;refine ⟨_,run _ _ _ _ _ _ h2,.rsl _ _ _ _ _ _ _ hp (by omega) (by grind) ?_⟩;rcases ha with h0 | h0
    ·omega
    ·by_cases hml:m=l
     all_goals simp_all [if_neg,Option.map_some,jX,Nat.add_mul]
   grind
  grind
 | _=>simp [eu] at hz
theorem RM {t:TypeId} (ht:P.underlying t=some .string) {x z:AV} {u:Value} {lo hi:Option AV} {lo' hi':Option Value}
  (hx:RV w A ρ h x u) (hl:RVo w A ρ h lo lo') (hh:RVo w A ρ h hi hi') (hz:Lq x lo hi=some z):nF P w A ρ h (Instr.sliceAt t u lo' hi' none) z:=by
 unfold Lq at hz;split at hz
 ·obtain ⟨rfl,_⟩:=hx.v_inv;simp only [Option.map_eq_some_iff] at hz;obtain ⟨⟨l,r⟩,h1,rfl⟩:=hz;obtain ⟨m,h2,_⟩:=o5 (P:=P) (mx:=none) (mx':=none) false hl hh .none h1 (Nat.le_refl _);exact ⟨_,by simp_all [Instr.sliceAt,Instr.slice,run_underlying],.dat (.v _ rfl)⟩
 grind
end
section
variable {P:Program} {w:World} {A:Nat→Prop} {ρ:bq} {h:ac} {s:ae} {a:Act}
theorem eG {e:TypeId} {k:Nat} (hk:bj P e=some k) (w:World):(sizeOf e).run P w=.ok k w:=by
 simp only [bj,Option.map_eq_some_iff] at hk;obtain ⟨i,h1,h2⟩:=hk
 simp_all [sizeOf,typeInfo]
theorem DB {e:TypeId} {g:Bool} (hg:nj P e=some g) (w:World):(isAgg e).run P w=.ok g w:=by
 unfold nj at hg;split at hg
 all_goals simp_all [isAgg,Sem.run_bind,run_underlying,Result.andThen]
theorem En {t:TypeId} {f:Nat} {fd:Field} (hf:zi P t f=some fd):∃ fs,P.underlying t=some (.struct fs)∧fs[f]?=some fd:=by
 grind [zi]
theorem RV.ipt_drop {cs:List AV} {u:Value} (n:Nat) (hx:RV w A ρ h (.ipt cs) u):∃ ad,u=.pointer (some ad)∧RV w A ρ h (.ipt (cs.drop n)) (.pointer (some (ad.add n))):=by
 cases hx with
 | dat hd=>cases hd
 | ipt _ ad vals hA hs hv hl hr =>
  refine ⟨ad,rfl,.ipt _ _ (fun j=>vals (n+j)) (by rw [jW]; omega) (Fb _ hs) (fun j c hc=>?_) (fun c hc=>hl c (List.mem_of_mem_drop hc)) (fun j c hc=>?_)⟩
  ·rw [wG]; grind
  grind
theorem RN {t:TypeId} {f:Nat} {fd:Field} {k:Nat} (hf:zi P t f=some fd) (hk:bj P fd.type=some k) (hk0:k ≠ 0) {x z:AV} {u:Value} (hx:RV w A ρ h x u) (hz:tQ fd.offset x=some z) :
  nF P w A ρ h (Instr.fieldAt t u f) z:=by
 obtain ⟨fs,h1,h2⟩:=En hf;have run:∀ ad,(Instr.fieldAt t (.pointer (some ad)) f).run P w=.ok (.pointer (some (ad.add fd.offset))) w:=by
  simp_all [Instr.fieldAt,run_underlying,Instr.sureAddr,fieldPlace,eG]
 cases x with
 | ref id sub k i j =>
  obtain ⟨rfl,hp⟩:=hx.ref_inv;simp [tQ] at hz;subst hz;refine ⟨_,run _,?_⟩;rw [jX,Nat.add_assoc];exact .ref _ _ _ _ _ hp
 | ipt cs =>
  simp [tQ] at hz;obtain ⟨ad,rfl,h3⟩:=hx.ipt_drop fd.offset;grind
 | _=>simp [tQ] at hz
theorem Gj {e:TypeId} {k off:Nat} {g:Bool} (hk:bj P e=some k) (hg:nj P e=some g) {cs:List AV} {us:Array Value} {z:AV} (hs:us.size=cs.length)
  (h1:∀ (i:Nat) (u:Value),us[i]?=some u→u.oneCell'=true) (hr:∀ (i:Nat) (c:AV) (u:Value),cs[i]?=some c→us[i]?=some u→RV w A ρ h c u) (hz:jG k g cs off=some z) :
  nF P w A ρ h (part e us off) z:=by
 unfold jG at hz;cases g with
 | true =>
  simp only [if_true] at hz;split at hz
  ·cases hz;refine ⟨.agg (us.extract off (off+k)),by simp_all [part,DB,eG],.agg _ _ ?_ (fun i u hu=>?_) (fun i c u hc hu=>?_)⟩
   ·grind
   ·rw [Array.getElem?_extract] at hu;grind
   grind
  grind
 | false =>
  have hlt:off < us.size:=by grind
  obtain ⟨u,hu⟩:∃ u,us[off]?=some u:=⟨us[off],Array.getElem?_eq_getElem hlt⟩;exact ⟨u,by simp_all [part,DB],hr _ _ _ hz hu⟩
theorem TZ {t:TypeId} {f:Nat} {fd:Field} {k:Nat} {g:Bool} (hf:zi P t f=some fd) (hk:bj P fd.type=some k) (hg:nj P fd.type=some g) {x z:AV} {u:Value} (hx:RV w A ρ h x u) (hz:LM fd.offset k g x=some z) :
  nF P w A ρ h (Instr.field t u f) z:=by
 obtain ⟨fs,h1,h2⟩:=En hf;unfold LM at hz;split at hz
 ·obtain ⟨us,rfl,hs,h3,hr⟩:=hx.agg_inv;obtain ⟨v,h4,h5⟩:=Gj hk hg hs h3 hr hz;exact ⟨v,by simp_all [Instr.field,run_underlying,asAgg],h5⟩
 grind
theorem Ph {t e:TypeId} {k:Nat} (ht:P.underlying t=some (.slice e)) (hk:bj P e=some k) {x i z:AV} {u v:Value} (hx:RV w A ρ h x u) (hi:RV w A ρ h i v) (hz:p8 k x i=some z) :
  nF P w A ρ h (Instr.indexAt t u v) z:=by
 have he:P.elem t=e:=by grind [Program.elem]
 unfold p8 at hz;split at hz
 ·split at hz
  ·rename_i k' rows kk q hkk;obtain ⟨rfl,_⟩:=hi.v_inv;unfold aZ at hz;split at hz
   ·simp only [Option.map_eq_some_iff] at hz;obtain ⟨row,h1,rfl⟩:=hz;have hlt:=(List.getElem?_eq_some_iff.1 h1).1;have hne:rows ≠ []:=by grind
    have hd:=hx.sl_inv;cases hd with
    | sl _ _ a cap ad vals hc ha hk' hv hdl hr =>
     obtain ⟨rfl,hA,hsp⟩:=ha hne;refine ⟨_,?_,.ipt row (ad.add (q.toNat*k')) (vals q.toNat) (by grind [jW]) (Fb _ hsp) (fun j c hc=>by grind [wG]) (hdl row (List.mem_of_getElem? h1)) (fun j c hc=>hr _ _ _ _ h1 hc)⟩
     simp_all [run_indexAt_slice,if_pos,eG]
   grind
  grind
 ·split at hz
  ·rename_i id sub k' lo n kk q hkk;subst hkk;split at hz
   ·cases hz;obtain ⟨rfl,_⟩:=hi.v_inv;obtain ⟨a,cap,rfl,hp,hn,hb,ha⟩:=hx.rsl_inv;have ha:a=some ⟨(ρ id sub).1,lo*k',none⟩:=by
     grind
    refine ⟨_,?_,.ref id sub k' (lo+q.toNat) 0 hp⟩
    simp_all [run_indexAt_slice,if_pos,eG,Result.andThen,jX,Nat.add_zero,Nat.add_mul]
   grind
  grind
 grind
theorem Pi {t e:TypeId} {n k:Nat} (ht:P.underlying t=some (.array n e)) (hk:bj P e=some k) {x i z:AV} {u v:Value} (hx:RV w A ρ h x u) (hi:RV w A ρ h i v) (hz:zg n k x i=some z) :
  nF P w A ρ h (Instr.indexAt t u v) z:=by
 have he:P.elem t=e:=by grind [Program.elem]
 have hn:P.arrayLen t=n:=by grind [Program.arrayLen]
 have run:∀ ad kk (q:Int),0≤q∧q < n→(Instr.indexAt t (.pointer (some ad)) (.int kk q)).run P w=.ok (.pointer (some (ad.add (q.toNat*k)))) w:=by
  simp_all [run_indexAt_array,if_pos,eG]
 unfold zg at hz;split at hz
 ·split at hz
  ·cases hz;obtain ⟨rfl,_⟩:=hi.v_inv;obtain ⟨rfl,hp⟩:=hx.ref_inv;refine ⟨_,run _ _ _ (by omega),?_⟩;rw [jX,Nat.add_assoc];exact .ref _ _ _ _ _ hp
  grind
 ·split at hz
  ·rename_i cs kk q hq;obtain ⟨rfl,_⟩:=hi.v_inv;obtain ⟨ad,rfl,h3⟩:=hx.ipt_drop (q.toNat*k);grind
  grind
 grind
theorem RP {t:TypeId} (ht:P.underlying t=some .string) {x i z:AV} {u v:Value} (hx:RV w A ρ h x u) (hi:RV w A ρ h i v) (hz:Dr x i=some z):nF P w A ρ h (Instr.index t u v) z:=by
 unfold Dr at hz;split at hz
 ·obtain ⟨rfl,_⟩:=hi.v_inv;obtain ⟨rfl,_⟩:=hx.v_inv;split at hz
  ·simp only [Option.map_eq_some_iff] at hz;obtain ⟨b,h1,rfl⟩:=hz;exact ⟨_,by simp_all [Instr.index,asIntOf,run_underlying],.dat (.v _ rfl)⟩
  grind
 grind
theorem RQ {t e:TypeId} {n k:Nat} {g:Bool} (ht:P.underlying t=some (.array n e)) (hk:bj P e=some k) (hg:nj P e=some g) {x i z:AV} {u v:Value} (hx:RV w A ρ h x u) (hi:RV w A ρ h i v) (hz:Ds n k g x i=some z) :
  nF P w A ρ h (Instr.index t u v) z:=by
 unfold Ds at hz;split at hz
 ·split at hz
  ·obtain ⟨rfl,_⟩:=hi.v_inv;obtain ⟨us,rfl,hs,h3,hr⟩:=hx.agg_inv;obtain ⟨v,h4,h5⟩:=Gj hk hg hs h3 hr hz;exact ⟨v,by simp_all [Instr.index,asIntOf,run_underlying,eG],h5⟩
  grind
 grind
theorem T0 {i:Nat} {x z:AV} {u:Value} (hx:RV w A ρ h x u) (hz:LN i x=some z):nF P w A ρ h (Instr.extract u i) z:=by
 unfold LN at hz;split at hz
 ·cases hx with
  | dat hd=>cases hd
  | tup vs us hs hr =>
   have hlt:i < us.size:=by grind
   obtain ⟨u,hu⟩:∃ u,us[i]?=some u:=⟨us[i],Array.getElem?_eq_getElem hlt⟩;exact ⟨u,by simp [Instr.extract,hu],hr _ _ _ hz hu⟩
 grind
theorem RR {t ty e:TypeId} {ts:Array TypeId} (h0:ts[0]?=some t) (ht:P.underlying t=some (.slice e)) {x z:AV} {u:Value} (hx:RV w A ρ h x u) (hz:lh false x=some z):nF P w A ρ h (Builtin.len_ ts ty #[u]) z:=by
 have run:∀ a n c,(Builtin.len_ ts ty #[.slice a n c]).run P w=.ok (goInt n) w:=by
  simp_all [Builtin.len_,run_underlying]
 cases x with
 | emp=>obtain ⟨a,rfl⟩:=hx.emp_inv; simp [lh] at hz; subst hz; exact ⟨_,run _ _ _,.dat (.v _ rfl)⟩
 | sl k rows=>obtain ⟨a,cap,rfl,_⟩:=hx.sl_inv.sl_form; simp [lh] at hz; subst hz; exact ⟨_,run _ _ _,.dat (.v _ rfl)⟩
 | rsl=>obtain ⟨a,cap,rfl,_⟩:=hx.rsl_inv; simp [lh] at hz; subst hz; exact ⟨_,run _ _ _,.dat (.v _ rfl)⟩
 | rsc=>obtain ⟨a,rfl,_⟩:=hx.rsc_inv; simp [lh] at hz; subst hz; exact ⟨_,run _ _ _,.dat (.v _ rfl)⟩
 | v x=>cases x <;> simp [lh] at hz
 | _=>simp [lh] at hz
theorem RU {t ty:TypeId} {ts:Array TypeId} (h0:ts[0]?=some t) (ht:P.underlying t=some .string) {x z:AV} {u:Value} (hx:RV w A ρ h x u) (hz:lh true x=some z):nF P w A ρ h (Builtin.len_ ts ty #[u]) z:=by
 cases x with
 | v x =>
  cases x with
  | string b =>
   obtain ⟨rfl,_⟩:=hx.v_inv;simp [lh] at hz;subst hz;exact ⟨_,by simp [Builtin.len_,h0,run_underlying ht]; rfl,.dat (.v _ rfl)⟩
  | _=>simp [lh] at hz
 | _=>simp [lh] at hz
theorem T1 {t ty e:TypeId} {ts:Array TypeId} (h0:ts[0]?=some t) (ht:P.underlying t=some (.slice e)) {x z:AV} {u:Value} (hx:RV w A ρ h x u) (hz:LO x=some z):nF P w A ρ h (Builtin.cap_ ts ty #[u]) z:=by
 unfold LO at hz;split at hz
 ·obtain ⟨a,rfl⟩:=hx.emp_inv;cases hz;exact ⟨_,by simp [Builtin.cap_,h0,run_underlying ht]; rfl,.dat (.v _ rfl)⟩
 ·obtain ⟨a,rfl,_⟩:=hx.rsc_inv;cases hz;exact ⟨_,by simp [Builtin.cap_,h0,run_underlying ht]; rfl,.dat (.v _ rfl)⟩
 grind
theorem RW {m:Bool} {x y z:AV} {u v:Value} (hx:RV w A ρ h x u) (hy:RV w A ρ h y v) (hz:H2 m x y=some z) :
  ∃ r,(if m then Builtin.min2 u v else Builtin.max2 u v)=pure r∧RV w A ρ h z r:=by
 unfold H2 at hz;split at hz
 ·obtain ⟨rfl,_⟩:=hx.v_inv;obtain ⟨rfl,_⟩:=hy.v_inv;cases hz;cases m
  ·exact ⟨_,by simp only [Bool.false_eq_true,if_false,Builtin.max2],.dat (.v _ rfl)⟩
  ·exact ⟨_,by simp only [if_true,Builtin.min2],.dat (.v _ rfl)⟩
 grind
theorem Gk {m:Bool}:∀ {ys:List AV} {vs:List Value} {x z:AV} {u:Value},RV w A ρ h x u→vs.length=ys.length→(∀ (i:Nat) (c:AV) (u:Value),ys[i]?=some c→vs[i]?=some u→RV w A ρ h c u)→yE m x ys=some z →
  ∃ r,(vs.foldlM (fun a b=>if m then Builtin.min2 a b else Builtin.max2 a b) u).run P w=.ok r w∧RV w A ρ h z r
 | [],[],x,z,u,hx,_,_,hz=>by
  simp_all [yE,Option.some.injEq]
 | [],v::vs,x,z,u,_,hl,_,_=>by grind
 | y::ys,[],x,z,u,_,hl,_,_=>by grind
 | y::ys,v::vs,x,z,u,hx,hl,hv,hz=>by
  simp only [yE,Option.bind_eq_some_iff] at hz;obtain ⟨c,e1,e2⟩:=hz;obtain ⟨r,h1,h2⟩:=RW hx (hv 0 y v rfl rfl) e1;obtain ⟨r',h3,h4⟩:=Gk h2 (by simpa using hl) (fun i c u h5 h6=>hv (i+1) c u (by grind) (by grind)) e2;grind
theorem JW {m:Bool} {ts:Array TypeId} {ty:TypeId} {x z:AV} {ys:List AV} {u:Value} {vs:List Value} {args:Array Value} (ha:args.toList=u::vs) (hx:RV w A ρ h x u) (hl:vs.length=ys.length) (hy:∀ (i:Nat) (c:AV) (u:Value),ys[i]?=some c→vs[i]?=some u→RV w A ρ h c u) (hz:yE m x ys=some z) :
  nF P w A ρ h (if m then Builtin.min_ ts ty args else Builtin.max_ ts ty args) z:=by
 obtain ⟨r,h1,h2⟩:=Gk (P:=P) hx hl hy hz;refine ⟨r,?_,h2⟩;cases m
 all_goals simp_all [Bool.false_eq_true,if_false,Builtin.max_,if_true,Builtin.min_]
theorem uU (j:Nat):∀ (cs row:List AV),(setRow row j cs).length=row.length:=by
 intro cs;induction cs generalizing j with
 | nil=>intro row; rfl
 | cons c cs ih=>grind [setRow,List.length_set]
theorem anL (i:Nat):∀ (cs row:List AV) (j:Nat),j+cs.length≤row.length→(setRow row j cs)[i]?=if j≤i∧i < j+cs.length then cs[i - j]? else row[i]?:=by
 intro cs;induction cs with
 | nil=>grind [setRow]
 | cons c cs ih =>
  simp only [setRow];grind
def Cells (w:World) (A:Nat→Prop) (ρ:bq) (h:ac) (cs:List AV) (us:Array Value):Prop :=
 us.size=cs.length∧(∀ (i:Nat) (u:Value),us[i]?=some u→u.oneCell'=true)∧(∀ (i:Nat) (c:AV) (u:Value),cs[i]?=some c→us[i]?=some u→RV w A ρ h c u)
theorem tY {x:AV} {u:Value} {cs:List AV} (hx:RV w A ρ h x u) (hc:eY x=some cs):Cells w A ρ h cs u.cells:=by
 have one:∀ {x:AV} {u:Value},RV w A ρ h x u→u.oneCell'=true→u.cells=#[u]→Cells w A ρ h [x] u.cells:=by
  intro x u hx h1 h2;rw [h2];refine ⟨rfl,fun i v hv=>?_,fun i c v hc hv=>?_⟩
  all_goals grind
 unfold eY at hc;split at hc
 ·cases hc;obtain ⟨us,rfl,h1,h2,h3⟩:=hx.agg_inv;exact ⟨h1,h2,h3⟩
 all_goals first | (cases hc; done) | skip
 have h1:u.oneCell'=true∧u.cells=#[u]:=by
  cases x with
  | v x=>obtain ⟨rfl,h⟩:=hx.v_inv; exact ⟨At h,by cases u <;> first | rfl | simp [n9] at h⟩
  | emp=>obtain ⟨a,rfl⟩:=hx.emp_inv; exact ⟨rfl,rfl⟩
  | sl k rows=>obtain ⟨a,cap,rfl,_⟩:=hx.sl_inv.sl_form; exact ⟨rfl,rfl⟩
  | ref=>obtain ⟨rfl,_⟩:=hx.ref_inv; exact ⟨rfl,rfl⟩
  | rsl=>obtain ⟨a,cap,rfl,_⟩:=hx.rsl_inv; exact ⟨rfl,rfl⟩
  | rsc=>obtain ⟨a,rfl,_⟩:=hx.rsc_inv; exact ⟨rfl,rfl⟩
  | ipt cs=>obtain ⟨ad,rfl,_⟩:=hx.ipt_drop 0; exact ⟨rfl,rfl⟩
  | fn=>obtain ⟨us,ts,rfl,_⟩:=hx.fn_inv; exact ⟨rfl,rfl⟩
  | _=>simp_all
 grind
theorem Cells.set {cs ds:List AV} {us vs:Array Value} {off:Nat} (hc:Cells w A ρ h cs us) (hd:Cells w A ρ h ds vs) (hle:off+ds.length≤cs.length) :
  Cells w A ρ h (setRow cs off ds) (vs.zipIdx.foldl (fun cs (c,j)=>cs.setIfInBounds (off+j) c) us):=by
 have fold:∀ (l:List Value) (k:Nat) (us:Array Value),((l.zipIdx k).foldl (fun cs (x:Value × Nat)=>cs.setIfInBounds (off+x.2) x.1) us).size=us.size ∧
   ∀ (i:Nat),off+k+l.length≤us.size→((l.zipIdx k).foldl (fun cs (x:Value × Nat)=>cs.setIfInBounds (off+x.2) x.1) us)[i]?=if off+k≤i∧i < off+k+l.length then l[i - (off+k)]? else us[i]?:=by
  intro l;induction l with
  | nil=>intro k us; exact ⟨by simp,fun i _=>by simp; omega⟩
  | cons v l ih =>
   simp only [List.zipIdx_cons,List.foldl_cons];grind
 have e:vs.zipIdx.foldl (fun cs (c,j)=>cs.setIfInBounds (off+j) c) us=(vs.toList.zipIdx 0).foldl (fun cs (x:Value × Nat)=>cs.setIfInBounds (off+x.2) x.1) us:=by
  rw [← Array.foldl_toList,Array.toList_zipIdx]
 obtain ⟨h1,h2⟩:=fold vs.toList 0 us;have hl:vs.toList.length=ds.length:=by simpa using hd.1
 have g:∀ i,(vs.zipIdx.foldl (fun cs (c,j)=>cs.setIfInBounds (off+j) c) us)[i]?=if off≤i∧i < off+ds.length then vs[i - off]? else us[i]?:=by
  intro i;rw [e,h2 i (by rw [hl,hc.1]; omega)];grind
 refine ⟨by rw [e,h1,uU]; exact hc.1,fun i u hu=>?_,fun i c u hcc hu=>?_⟩
 ·rw [g] at hu;split at hu
  ·exact hd.2.1 _ _ hu
  ·exact hc.2.1 _ _ hu
 ·rw [g] at hu;rw [anL i ds cs off hle] at hcc;split at hu
  ·rename_i hi; rw [if_pos hi] at hcc; exact hd.2.2 _ _ _ hcc hu
  ·rename_i hi; rw [if_neg hi] at hcc; exact hc.2.2 _ _ _ hcc hu
theorem Av {place:Nat→Option (Nat × Nat)} (hs:RS w A ρ h s a.tmps):∀ (ps:List (Nat × Operand)) (q:List (Nat × Nat × Opd)),zj P place ps=some q →
  ∀ (zero:List AV) (us:Array Value),Cells w A ρ h zero us→∀ cs,rq zero (q.map fun p=>(p.1,p.2.1,ev s p.2.2))=some cs →
   ∃ vs,Instr.fill place us (ps.map fun p=>(p.1,a.eval p.2))=some vs∧Cells w A ρ h cs vs
 | [],q,hq,zero,us,hz,cs,hb=>by
  simp [zj] at hq; subst hq;simp [rq] at hb; subst hb;exact ⟨us,rfl,hz⟩
 | (i,x)::ps,q,hq,zero,us,hz,cs,hb=>by
  simp only [zj,Option.bind_eq_some_iff] at hq;obtain ⟨⟨off,k⟩,h1,y,h2,q',h3,h4⟩:=hq;cases h4;simp only [List.map_cons,rq,Option.bind_eq_some_iff] at hb;obtain ⟨ds,h5,h6⟩:=hb;split at h6
  ·have h7:=tY (aN h2 hs) h5;have h8:=hz.set (off:=off) h7 (by omega);obtain ⟨vs,h9,h10⟩:=Av hs ps q' h3 _ _ h8 cs h6;refine ⟨vs,?_,h10⟩;simp only [List.map_cons,Instr.fill,h1];rw [if_neg (by have e1:=h7.1; have e2:=hz.1; grind)];omega
  grind
theorem Gl:∀ (l:List Value) (cs:List AV),BY l=some cs→Cells w A ρ h cs l.toArray
 | [],cs,hc=>by simp [BY] at hc; subst hc; exact ⟨rfl,fun i u hu=>by grind,fun i c u hc=>by grind⟩
 | v::l,cs,hc=>by
  simp only [BY,Option.bind_eq_some_iff] at hc;obtain ⟨c,h1,q,h2,h3⟩:=hc;cases h3;obtain ⟨e1,e2,e3⟩:=Gl l q h2;have hv:RD w A c v:=JU h1;have ho:v.oneCell'=true:=by unfold L5 at h1; split at h1 <;> first | rfl | cases h1
  refine ⟨by grind,fun i u hu=>?_,fun i c' u hc hu=>?_⟩
  ·cases i with
   | zero=>grind
   | succ i=>exact e2 i u (by grind)
  ·cases i with
   | zero=>simp at hu hc; subst hu hc; exact .dat hv
   | succ i=>grind
theorem jZ {t:TypeId} {zs:List AV} (hz:iS P t=some zs):∃ (i:TypeInfo) (z:Value),P.info? t=some i∧i.zero=some z∧z.cells.size=i.size∧zs.length=i.size∧Cells w A ρ h zs z.cells:=by
 simp only [iS,Option.bind_eq_some_iff] at hz;obtain ⟨i,h1,z,h2,h3⟩:=hz;split at h3
 ·rename_i h4;have h5:=Gl (w:=w) (A:=A) (ρ:=ρ) (h:=h) _ _ h3;refine ⟨i,z,h1,h2,h4,?_,by omega⟩;have:=h5.1;grind
 grind
theorem Pj {t:TypeId} {ps:Array (Nat × Operand)} {pop:POp} (hc:L6 P t ps.toList=some pop) (hs:RS w A ρ h s a.tmps) {z:AV} (hz:eA s pop=some z) :
  nF P w A ρ h (Instr.build t (ps.map fun (i,x)=>(i,a.eval x))) z:=by
 simp only [L6,Option.bind_eq_some_iff] at hc;obtain ⟨zs,h1,hc⟩:=hc;obtain ⟨i,zv,g1,g2,g3,g4,g5⟩:=jZ (w:=w) (A:=A) (ρ:=ρ) (h:=h) h1;have hzero:∀ w,(zeroValue t).run P w=.ok zv w:=fun w=>by simp_all [zeroValue,typeInfo]
 split at hc
 ·rename_i fs ht;split at hc
  ·rename_i hall;simp only [Option.map_eq_some_iff] at hc;obtain ⟨q,h2,rfl⟩:=hc;simp only [eA,Option.map_eq_some_iff] at hz;obtain ⟨cs,h3,rfl⟩:=hz;obtain ⟨vs,h4,h5⟩:=Av hs _ _ h2 _ _ g5 _ h3;refine ⟨.agg vs,?_,.agg _ _ h5.1 h5.2.1 h5.2.2⟩;have hplaces:∀ w,(fs.mapM fun f=>(do pure (f.offset,← sizeOf f.type):Sem (Nat × Nat))).run P w=.ok (fs.map fun f=>(f.offset,(bj P f.type).getD 0)) w:=by
    intro w;rw [Array.mapM_eq_mapM_toList];have:∀ l:List Field,(∀ f ∈ l,(bj P f.type).isSome)→(l.mapM fun f=>(Prod.mk f.offset <$> sizeOf f.type:Sem (Nat × Nat))).run P w=.ok (l.map fun f=>(f.offset,(bj P f.type).getD 0)) w:=by
     intro l;induction l with
     | nil=>simp_all
     | cons f l ih =>
      intro hl;obtain ⟨k,hk⟩:=Option.isSome_iff_exists.1 (hl f (by simp))
      simp_all [eG]
    have hall':∀ f ∈ fs.toList,(bj P f.type).isSome:=by
     intro f hf;have:=Array.all_eq_true_iff_forall_mem.1 hall f (by grind);omega
    simp [this _ hall'];grind
   have hpl:(fun i=>(fs.map fun f=>(f.offset,(bj P f.type).getD 0))[i]?)=Ib P fs:=by
    funext i;simp only [Ib,Array.getElem?_map];cases hf:fs[i]? with
    | none=>rfl
    | some f =>
     obtain ⟨k,hk⟩:=Option.isSome_iff_exists.1 (show (bj P f.type).isSome from by
      grind)
     grind
   simp_all [Instr.build,Sem.run_bind,run_underlying,Result.andThen]
  grind
 ·simp only [Option.bind_eq_some_iff,Option.map_eq_some_iff] at hc;obtain ⟨k,hk,q,h2,rfl⟩:=hc;simp only [eA,Option.map_eq_some_iff] at hz;obtain ⟨cs,h3,rfl⟩:=hz;obtain ⟨vs,h4,h5⟩:=Av hs _ _ h2 _ _ g5 _ h3;refine ⟨.agg vs,?_,.agg _ _ h5.1 h5.2.1 h5.2.2⟩
  simp_all [Instr.build,Sem.run_bind,run_underlying,Result.andThen,eG]
 grind
theorem T2 {f:FuncId} {xs ys:List Operand} {x y:List Opd} (hx:lW xs=some x) (hy:lW ys=some y) (hs:RS w A ρ h s a.tmps) :
  RV w A ρ h (.fn f (x.map (ev s)) (y.map (ev s))) (.func (.func f) (xs.map a.eval).toArray (ys.map a.eval).toArray):=by
 obtain ⟨h1,h2⟩:=qU hs hx;obtain ⟨h3,h4⟩:=qU hs hy;have key:∀ {xs:List Operand} {x:List Opd},x.length=xs.length→(∀ (i:Nat) (o:Operand) (p:Opd),xs[i]?=some o→x[i]?=some p→RV w A ρ h (ev s p) (a.eval o)) →
   ∀ (i:Nat) (c:AV) (u:Value),(x.map (ev s))[i]?=some c→(xs.map a.eval).toArray[i]?=some u→RV w A ρ h c u:=by
  grind
 exact .fn f _ _ _ _ (by grind) (by grind) (key h1 h2) (key h3 h4)
theorem Wv {y:Operand} (hc:bN y=some (.c .emp)):a.eval y=.slice none 0 0:=by
 cases y with
 | tmp t=>grind [bN]
 | func f=>grind [bN]
 | global g=>grind [bN]
 | const v =>
  simp only [bN,Option.map_eq_some_iff,Opd.c.injEq] at hc;obtain ⟨c,h1,rfl⟩:=hc;unfold L5 at h1;split at h1 <;> first | (cases h1; done) | rfl
theorem RX {op:BinOp} {n:Bool} {t e:TypeId} {xo yo:Operand} {x z:AV} {u:Value} (ht:P.underlying t=some (.slice e)) (hx:RV w A ρ h x u) (hop:BZ op=some n) (hz:Dq n x=some z) :
  nF P w A ρ h (do eqGuard op t xo yo u (.slice none 0 0); binOp op t u (.slice none 0 0)) z:=by
 have hop':(op=.eql∧n=false)∨(op=.neq∧n=true):=by grind [BZ]
 have hu:(∃ ad m c,u=.slice (some ad) m c)∧z=B n:=by
  unfold Dq at hz;split at hz
  ·cases hx with
   | dat hd =>
    cases hd with
    | sl k rows a cap ad vals hc ha hk hv hl hr =>
     simp_all
  ·split at hz
   ·obtain ⟨a,cap,rfl,hp,hn,hb,ha⟩:=hx.rsl_inv;grind
   grind
  grind
 obtain ⟨⟨ad,m,c,rfl⟩,rfl⟩:=hu;have heq:(Op.equal t (.slice (some ad) m c) (.slice none 0 0)).run P w=.ok false w:=by
  have h9:∀ d,(Op.equalIn (d+1) t (.slice (some ad) m c) (.slice none 0 0)).run P w=.ok false w:=fun d=>by simp [Op.equalIn,run_underlying ht]
  exact h9 9999
 rcases hop' with ⟨rfl,rfl⟩ | ⟨rfl,rfl⟩
 ·refine ⟨.bool false,?_,.dat (.v _ rfl)⟩;simp [eqGuard,binOp,heq,Result.andThen]
 ·refine ⟨.bool true,?_,.dat (.v _ rfl)⟩;simp [eqGuard,binOp,heq,Result.andThen]
theorem RY {op:Op} {pop:POp} (hc:B0 P op=some (.p pop)) (hs:RS w A ρ h s a.tmps) {z:AV} (hz:eA s pop=some z) (o:Oper) (ho:o.op=op) :
  ∃ v,(execOp a.eval o).run P w=.ok (.value v) w∧RV w A ρ h z v:=by
 have fin:∀ {m:Sem Value},nF P w A ρ h m z→∃ v,(do pure (.value (← m)):Sem Next).run P w=.ok (.value v) w∧RV w A ρ h z v:=by
  simp_all
 cases op <;> simp only [B0] at hc
 case move =>
  simp only [Option.map_eq_some_iff] at hc;obtain ⟨y,h1,h2⟩:=hc;cases h2; cases hz
  simp_all [execOp,aN]
 case assign =>
  simp only [Option.map_eq_some_iff] at hc;obtain ⟨y,h1,h2⟩:=hc;cases h2; cases hz
  simp_all [execOp,aN]
 case pick =>
  simp only [Option.bind_eq_some_iff,Option.map_eq_some_iff] at hc;obtain ⟨c,h1,x,h2,y,h3,h4⟩:=hc;cases h4;obtain ⟨v,g1,g2⟩:=RL (P:=P) (aN h1 hs) (aN h2 hs) (aN h3 hs) hz;exact ⟨v,by simp only [execOp,ho]; rw [Sem.run_bind] at g1 ⊢; cases hb:(asBool _).run P w <;> rw [hb] at g1 <;> simp [Result.andThen] at g1 ⊢; omega,g2⟩
 case alloc=>simp_all
 case box=>simp_all [Option.bind_eq_some_iff]
 case build =>
  simp only [Option.map_eq_some_iff] at hc;obtain ⟨p,h1,h2⟩:=hc;cases h2;simp only [execOp,ho];exact fin (Pj h1 hs hz)
 case buildSlice =>
  simp_all [Dy,Option.bind_eq_some_iff]
 case load =>
  grind [Option.bind_eq_some_iff]
 case store=>simp_all [Option.bind_eq_some_iff]
 case nilCheck =>
  simp only [Option.map_eq_some_iff] at hc;obtain ⟨y,h1,h2⟩:=hc;cases h2;have hv:=aN h1 hs;simp only [eA] at hz;cases hy:ev s y <;> rw [hy] at hz hv <;> simp [BQ] at hz
  all_goals subst hz
  ·obtain ⟨e,_⟩:=hv.ref_inv; simp_all [execOp]
  ·obtain ⟨ad,e,_⟩:=hv.ipt_drop 0; simp_all [execOp]
  ·obtain ⟨us,ts,e,_⟩:=hv.fn_inv; simp_all [execOp]
 case binOp =>
  simp only [Option.bind_eq_some_iff,Option.map_eq_some_iff] at hc;obtain ⟨x,h1,y,h2,p,h3,h4⟩:=hc;cases h4;have hx:=aN h1 hs;have hy:=aN h2 hs;simp only [execOp,ho];refine fin ?_;unfold aaO at h3;split at h3
  ·simp only [Option.map_eq_some_iff] at h3;obtain ⟨n,h5,rfl⟩:=h3;exact B1 (tc:=0) hx hy h5 ⟨fun _=>(by omega),fun e=>absurd e (by decide),fun e=>absurd e (by decide)⟩ hz
  ·simp only [Option.map_eq_some_iff] at h3;obtain ⟨n,h5,rfl⟩:=h3;exact B1 (tc:=1) hx hy h5 ⟨fun e=>absurd e (by decide),fun _=>⟨_,by omega⟩,fun e=>absurd e (by decide)⟩ hz
  ·simp only [Option.map_eq_some_iff] at h3;obtain ⟨n,h5,rfl⟩:=h3;exact B1 (tc:=2) hx hy h5 ⟨fun e=>absurd e (by decide),fun e=>absurd e (by decide),fun _=>⟨_,_,_,by omega⟩⟩ hz
  ·cases h3; exact JV hx hy hz
  ·cases h3; exact JV hx hy hz
  ·rename_i e ht;split at h3
   ·simp only [Option.map_eq_some_iff] at h3;obtain ⟨n,h5,rfl⟩:=h3;rw [Wv h2];exact RX ht hx h5 hz
   grind
  grind
 case unOp =>
  simp only [Option.map_eq_some_iff] at hc;obtain ⟨y,h1,h2⟩:=hc;cases h2;simp only [execOp,ho];exact fin (Wt (aN h1 hs) hz)
 case convert =>
  simp only [Option.bind_eq_some_iff,Option.map_eq_some_iff] at hc;obtain ⟨x,h1,p,h2,h3⟩:=hc;cases h3;simp only [execOp,ho];unfold Yu at h2;split at h2
  ·rename_i e1 e2;cases h2;exact fin (Wu (aN h1 hs) (by grind) e2 hz)
  ·rename_i e1 e2;cases h2;exact fin (TW (aN h1 hs) e1 e2 hz)
  grind
 case makeFunc fn _ _ =>
  cases fn <;> simp only [Option.bind_eq_some_iff,Option.map_eq_some_iff] at hc <;> try (cases hc; done)
  obtain ⟨x,h1,y,h2,h3⟩:=hc;cases h3;simp only [eA,Option.some.injEq] at hz;subst hz;simp only [execOp,ho];refine fin ⟨_,rfl,?_⟩;have e:∀ l:Array Operand,(l.toList.map a.eval).toArray=l.map a.eval:=fun l=>Array.toList_inj.1 (by simp);have:=T2 (f:=‹FuncId›) h1 h2 hs;grind
 case makeSlice =>
  simp_all [Lt,Option.bind_eq_some_iff]
 case slice =>
  simp only [Option.bind_eq_some_iff,Option.map_eq_some_iff] at hc;obtain ⟨x,h1,lo,h2,hi,h3,mx,h4,p,h5,h6⟩:=hc;cases h6;simp only [execOp,ho];refine fin ?_;unfold TT at h5;split at h5
  ·simp only [Option.map_eq_some_iff] at h5;obtain ⟨k,h7,rfl⟩:=h5;exact TY (by omega) h7 (aN h1 hs) (lN h2 hs) (lN h3 hs) (lN h4 hs) hz
  ·split at h5
   ·cases h5;have e4:=lN h4 hs;simp only [evo] at e4;generalize hm:Option.map a.eval _=m at e4 ⊢;cases e4;exact RM (by omega) (aN h1 hs) (lN h2 hs) (lN h3 hs) hz
   grind
  grind
 case fieldAddr =>
  simp only [Option.bind_eq_some_iff] at hc;obtain ⟨x,h1,f,h2,k,h3,hc⟩:=hc;split at hc
  ·grind
  ·cases hc;simp only [execOp,ho];exact fin (RN h2 h3 (by omega) (aN h1 hs) hz)
 case field =>
  simp only [Option.bind_eq_some_iff,Option.map_eq_some_iff] at hc;obtain ⟨x,h1,f,h2,k,h3,g,h4,h5⟩:=hc;cases h5;simp only [execOp,ho];exact fin (TZ h2 h3 h4 (aN h1 hs) hz)
 case indexAddr =>
  simp only [Option.bind_eq_some_iff,Option.map_eq_some_iff] at hc;obtain ⟨x,h1,i,h2,p,h3,h4⟩:=hc;cases h4;simp only [execOp,ho];refine fin ?_;unfold Yv at h3;split at h3
  ·simp only [Option.map_eq_some_iff] at h3;obtain ⟨k,h5,rfl⟩:=h3;exact Ph (by omega) h5 (aN h1 hs) (aN h2 hs) hz
  ·simp only [Option.map_eq_some_iff] at h3;obtain ⟨k,h5,rfl⟩:=h3;exact Pi (by omega) h5 (aN h1 hs) (aN h2 hs) hz
  grind
 case index =>
  simp only [Option.bind_eq_some_iff,Option.map_eq_some_iff] at hc;obtain ⟨x,h1,i,h2,p,h3,h4⟩:=hc;cases h4;simp only [execOp,ho];refine fin ?_;unfold aaP at h3;split at h3
  ·cases h3;exact RP (by omega) (aN h1 hs) (aN h2 hs) hz
  ·simp only [Option.bind_eq_some_iff,Option.map_eq_some_iff] at h3;obtain ⟨k,h5,g,h6,rfl⟩:=h3;exact RQ (by omega) h5 h6 (aN h1 hs) (aN h2 hs) hz
  grind
 case extract =>
  simp only [Option.map_eq_some_iff] at hc;obtain ⟨y,h1,h2⟩:=hc;cases h2;simp only [execOp,ho];exact fin (T0 (aN h1 hs) hz)
 case call c =>
  unfold Lw at hc;split at hc
  ·rename_i b hb;have run:∀ (args:Array Value),args=c.args.map a.eval→(execOp a.eval o).run P w=(builtin b c.argTypes o.type (c.args.map fun | .const _=>true | _=>false) args).run P w:=by
    grind [execOp,resolve,Sem.run_bind,Sem.run_pure,Result.andThen,invoke]
   unfold Ap at hc;split at hc
   ·rename_i t ts x e1 e2;simp only [Option.bind_eq_some_iff,Option.map_eq_some_iff] at hc;obtain ⟨y,h1,p,h2,h3⟩:=hc;cases h3;have hargs:c.args.map a.eval=#[a.eval x]:=Array.toList_inj.1 (by simp [e2]);have h0:c.argTypes[0]?=some t:=by rw [← Array.getElem?_toList,e1]; rfl
    rw [run _ rfl,hargs];unfold aaQ at h2;split at h2
    ·cases h2; exact fin (RR h0 (by omega) (aN h1 hs) hz)
    ·cases h2; exact fin (RU h0 (by omega) (aN h1 hs) hz)
    ·rename_i n e ht;cases h2;simp only [eA,ev,Option.some.injEq] at hz;subst hz;exact fin ⟨_,by simp [Builtin.len_,h0,run_underlying ht]; rfl,.dat (.v _ rfl)⟩
    grind
   ·rename_i t ts x e1 e2;simp only [Option.bind_eq_some_iff,Option.map_eq_some_iff] at hc;obtain ⟨y,h1,p,h2,h3⟩:=hc;cases h3;have hargs:c.args.map a.eval=#[a.eval x]:=Array.toList_inj.1 (by simp [e2]);have h0:c.argTypes[0]?=some t:=by rw [← Array.getElem?_toList,e1]; rfl
    rw [run _ rfl,hargs];unfold aaR at h2;split at h2
    ·cases h2; exact fin (T1 h0 (by omega) (aN h1 hs) hz)
    grind
   ·rename_i x l e2;simp only [Option.bind_eq_some_iff,Option.map_eq_some_iff] at hc;obtain ⟨x',h1,y',h2,h3⟩:=hc;cases h3;obtain ⟨l1,l2⟩:=qU hs h2;rw [run _ rfl];exact fin (JW (m:=true) (ts:=c.argTypes) (ty:=o.type) (vs:=l.map a.eval) (by simp [e2]) (aN h1 hs) (by grind) (fun i c u h3 h4=>by
     grind) hz)
   ·rename_i x l e2;simp only [Option.bind_eq_some_iff,Option.map_eq_some_iff] at hc;obtain ⟨x',h1,y',h2,h3⟩:=hc;cases h3;obtain ⟨l1,l2⟩:=qU hs h2;rw [run _ rfl];exact fin (JW (m:=false) (ts:=c.argTypes) (ty:=o.type) (vs:=l.map a.eval) (by simp [e2]) (aN h1 hs) (by grind) (fun i c u h3 h4=>by
     grind) hz)
   ·unfold RH at hc;split at hc
    all_goals grind [Lu,Option.bind_eq_some_iff]
   ·unfold Lv at hc;grind [Option.bind_eq_some_iff]
   ·unfold Gi at hc;grind [Option.bind_eq_some_iff]
   grind
  all_goals simp_all [Option.bind_eq_some_iff]
 all_goals cases hc
end
theorem au {α:Type} (s:Nat→α) (d:Nat) (x:α):upd s d x d=x:=if_pos rfl
theorem aH {α:Type} (s:Nat→α) {d i:Nat} (x:α) (hi:i ≠ d):upd s d x i=s i:=if_neg hi
theorem ur {h:ac} {id id':Nat} {o:Ob} (he:h id ≠ .dead) (hd:upd h id o id' ≠ .dead):h id' ≠ .dead:=by
 grind [aH]
theorem cx {h h':ac} {id:Nat} {sub:Option Nat} (e:h' id=h id):live h' id sub↔live h id sub:=by
 cases sub <;> simp [live,e]
theorem dJ {h h':ac} {id:Nat} {sub:Option Nat} (e:h' id=h id):bD h' id sub↔bD h id sub:=by
 simp_all [bD,cx]
theorem DC {w:World} {b:Nat} {o:Obj} (h:w.heap[b]?=some o):b < w.heap.size:=(Array.getElem?_eq_some_iff.1 h).1
section
variable {w:World} {X:Nat→Prop} {ρ:bq} {h:ac}
theorem Rel.live_heap (r:Rel w X ρ h) {id:Nat} {sub:Option Nat} (hl:live h id sub):∃ us e,w.heap[(ρ id sub).1]?=some (.cells us e (0,0))∧us.size=(ρ id sub).2:=by
 have ho:=r.ob id;cases sub with
 | none =>
  cases e:h id with
  | bx cs=>rw [e] at ho; obtain ⟨us,t,h1,h2,_⟩:=ho; grind
  | ar k rows=>rw [e] at ho; obtain ⟨us,t,h1,h2,_⟩:=ho; grind
  | _=>simp [live,e] at hl
 | some p =>
  obtain ⟨cs,k,rows,e,hc⟩:=hl;rw [e] at ho;obtain ⟨us,t,h1,h2,h3,h4⟩:=ho;obtain ⟨u,_,g⟩:=h4 p _ hc;obtain ⟨a,cap,us',t',_,_,_,g4,g5,_⟩:=g;grind
theorem j1 {A:Nat→Prop} {b k lo n cap:Nat} {us:Array Value} {e:TypeId} {fr:Nat × Nat} {rows:List (List AV)} {a:Option Addr} (hb:w.heap[b]?=some (.cells us e fr)) (hA:A b) (hr:bU w A k rows us)
  (hle:lo+n≤rows.length) (hn:n≤cap) (ha:cap=0∨a=some ⟨b,lo*k,none⟩):RD w A (m8 k lo n rows) (.slice a n cap):=by
 have hlen:((rows.drop lo).take n).length=n:=by grind
 have at_:∀ (i:Nat) (row:List AV),((rows.drop lo).take n)[i]?=some row→rows[lo+i]?=some row:=by
  grind
 have key:RD w A (.sl k ((rows.drop lo).take n)) (.slice a ((rows.drop lo).take n).length cap):=by
  refine .sl k _ a cap ⟨b,lo*k,none⟩ (fun i j=>(us[(lo+i)*k+j]?).getD undef) (by omega) (fun hne=>?_) (fun row hrow=>?_) (fun i row j c h1 h2=>?_) (fun row hrow c hc=>?_) (fun i row j c h1 h2=>?_)
  ·rcases ha with h0 | h0
   all_goals simp_all
  ·obtain ⟨i,hi⟩:=List.getElem?_of_mem hrow;exact (hr _ _ (at_ i row hi)).1
  ·obtain ⟨u,h3,_⟩:=(hr _ _ (at_ i row h1)).2 j c h2;grind [jX,ws,Nat.add_assoc,Nat.add_mul]
  ·obtain ⟨i,hi⟩:=List.getElem?_of_mem hrow;obtain ⟨j,hj⟩:=List.getElem?_of_mem hc;obtain ⟨_,_,_,h4⟩:=(hr _ _ (at_ i row hi)).2 j c hj;omega
  ·obtain ⟨u,h3,h4,_⟩:=(hr _ _ (at_ i row h1)).2 j c h2;grind
 rw [hlen] at key;exact key
theorem aaT (r:Rel w X ρ h) {id k:Nat} {rows:List (List AV)} (e:h id=.ar k rows):Rel w X ρ (upd h id (.fz k rows))∧Evo w ρ h w ρ (upd h id (.fz k rows)) []:=by
 have hl:∀ id' sub,live (upd h id (.fz k rows)) id' sub→id' ≠ id∧live h id' sub:=by
  intro id' sub hl;by_cases hi:id'=id
  ·cases sub with
   | none=>grind [live,au]
   | some p=>grind [live,au]
  grind [cx,aH]
 have ev:Evo w ρ h w ρ (upd h id (.fz k rows)) []:=by
  refine ⟨rfl,rfl,rfl,Nat.le_refl _,fun _ _ _=>rfl,fun id' sub hp _=>⟨?_,rfl⟩,fun b ho=>?_,fun id' hb=>⟨?_,rfl⟩,fun id' _ hd=>⟨ur (by grind) hd,rfl⟩⟩
  ·by_cases hi:id'=id
   ·subst hi;cases sub with
    | none=>simp [bD,au]
    | some p=>obtain ⟨cs,k',rows',e',_⟩:=hp; grind
   grind [dJ,aH]
  ·obtain ⟨id',sub,h1,h2⟩:=ho;exact .inl ⟨id',sub,(hl id' sub h1).2,h2⟩
  grind [au,bf,aH]
 refine ⟨r.step ev (·=id) (fun id' hi=>⟨aH h _ hi,fun _=>rfl,fun _ _=>rfl⟩) (fun a b c d h1 h2=>r.inj a b c d (hl a b h1).2 (hl c d h2).2) (fun a b h1=>r.nx a b (hl a b h1).2) (fun id' hi=>?_),ev⟩;subst hi;rw [au];have ho:=r.ob id';rw [e] at ho;obtain ⟨us,t,h1,h2,h3,h4⟩:=ho;have hlv:live h id' none:=by grind [live]
 refine ⟨⟨DC h1,fun hx=>r.nx id' none hlv (.inl hx),fun ho=>?_⟩,us,t,_,h1,h2,h3,h4.mono fun b hb=>ev.al hb⟩;obtain ⟨id2,sub,h5,h6⟩:=ho;exact (hl id2 sub h5).1 (r.inj id2 sub id' none (hl id2 sub h5).2 hlv h6).1
theorem Aw {c:AV} (hc:ji c=true):aB (kz c)=true:=by
 cases c <;> first | (simp [ji,aU,aB,kz] at hc ⊢; done) | (simp [ji,aU,aB,kz] at hc ⊢; exact hc)
theorem Fc {A':Nat→Prop} {id p:Nat} {c:AV} {u:Value} (hr:RC w (aD w X h ρ) ρ h id p c u) (hd:ji c=true)
  (hA:∀ b,aD w X h ρ b→A' b) (hb:∀ k rows,c=.osl k rows→A' (ρ id (some p)).1):RD w A' (kz c) u:=by
 cases hO:aU c with
 | true =>
  cases c <;> simp [aU] at hO;rename_i k rows;obtain ⟨a,cap,us',t',g1,g2,g3,g4,g5,g6,g7⟩:=hr;have:=j1 (lo:=0) (n:=rows.length) (cap:=cap) (a:=a) g4 (hb k rows rfl) (g7.mono (w':=w) fun b h=>⟨hA b h,rfl⟩) (by omega) g3 (by grind);grind [m8,kz]
 | false =>
  rw [oe hO] at hr;have hd':aB c=true:=by grind [ji]
  have:kz c=c:=by cases c <;> first | rfl | simp [aU] at hO
  rw [this];exact (hr.1.toD hd' hr.2.1).mono fun b h=>⟨hA b h,rfl⟩
theorem aaU (r:Rel w X ρ h) {id:Nat} {cs:List AV} (e:h id=.bx cs) (hd:cs.all ji=true):Rel w X ρ (upd h id (.fz 1 (oV cs)))∧Evo w ρ h w ρ (upd h id (.fz 1 (oV cs))) [(id,true)]:=by
 have hl:∀ id' sub,live (upd h id (.fz 1 (oV cs))) id' sub→id' ≠ id∧live h id' sub:=by
  intro id' sub hl;by_cases hi:id'=id
  ·cases sub with
   | none=>grind [live,au]
   | some p=>grind [live,au]
  grind [cx,aH]
 have ev:Evo w ρ h w ρ (upd h id (.fz 1 (oV cs))) [(id,true)]:=by
  refine ⟨rfl,rfl,rfl,Nat.le_refl _,fun _ _ _=>rfl,fun id' sub hp hk=>⟨?_,rfl⟩,fun b ho=>?_,fun id' hb=>⟨?_,rfl⟩,fun id' _ hd=>⟨ur (by grind) hd,rfl⟩⟩
  ·by_cases hi:id'=id
   ·simp_all [bD,au,fR]
   grind [dJ,aH]
  ·obtain ⟨id',sub,h1,h2⟩:=ho;exact .inl ⟨id',sub,(hl id' sub h1).2,h2⟩
  grind [au,bf,aH]
 have free:∀ sub,live h id sub→aD w X (upd h id (.fz 1 (oV cs))) ρ (ρ id sub).1:=by
  intro sub hlv;obtain ⟨us,t,h1,_⟩:=r.live_heap hlv;refine ⟨DC h1,fun hx=>r.nx id sub hlv (.inl hx),fun ho=>?_⟩;obtain ⟨id2,sub2,h5,h6⟩:=ho;exact (hl id2 sub2 h5).1 (r.inj id2 sub2 id sub (hl id2 sub2 h5).2 hlv h6).1
 refine ⟨r.step ev (·=id) (fun id' hi=>⟨aH h _ hi,fun _=>rfl,fun _ _=>rfl⟩) (fun a b c d h1 h2=>r.inj a b c d (hl a b h1).2 (hl c d h2).2) (fun a b h1=>r.nx a b (hl a b h1).2) (fun id' hi=>?_),ev⟩;subst hi;rw [au];have ho:=r.ob id';rw [e] at ho;obtain ⟨us,t,h1,h2,h3,h4⟩:=ho;refine ⟨free none (by grind [live]),us,t,_,h1,h2,by grind [oV],fun i row hi=>?_⟩;simp only [oV,List.getElem?_map,Option.map_eq_some_iff] at hi;obtain ⟨c,hc,rfl⟩:=hi;refine ⟨rfl,fun j d hj=>?_⟩;cases j with
 | succ j=>grind
 | zero =>
  simp at hj;subst hj;obtain ⟨u,h5,h6⟩:=h4 i c hc;refine ⟨u,by grind,Fc h6 ?_ (fun b hb=>(ev.al hb).1) (fun k rows ec=>?_),Aw (List.all_eq_true.1 hd c (List.mem_of_getElem? hc))⟩
  ·grind
  ·subst ec; exact free (some i) ⟨cs,k,rows,e,hc⟩
theorem B3 (r:Rel w X ρ h) {id:Nat} {cs ds:List AV} (e:h id=.bx cs) (hlen:ds.length=cs.length) (hds:∀ (p:Nat) (c:AV),cs[p]?=some c→ds[p]?=some c∨(aU c=true∧ds[p]?=some (kz c))) :
  Rel w X ρ (upd h id (.bx ds))∧Evo w ρ h w ρ (upd h id (.bx ds)) [(id,true)]:=by
 have back:∀ (p k:Nat) (rows:List (List AV)),ds[p]?=some (AV.osl k rows)→cs[p]?=some (AV.osl k rows):=by
  intro p k rows hp;have hlt:=(List.getElem?_eq_some_iff.1 hp).1;obtain ⟨c,hc⟩:∃ c,cs[p]?=some c:=⟨cs[p]'(by omega),List.getElem?_eq_getElem (by omega)⟩;rcases hds p c hc with h1 | ⟨h1,h2⟩
  ·grind
  ·rw [hp] at h2;cases c <;> simp [aU,kz] at h1 h2
 have hl:∀ id' sub,live (upd h id (.bx ds)) id' sub→live h id' sub:=by
  intro id' sub hl;by_cases hi:id'=id
  ·subst hi;cases sub with
   | none=>grind [live]
   | some p =>
    obtain ⟨cs',k,rows,h1,h2⟩:=hl;rw [au] at h1;cases h1;exact ⟨cs,k,rows,e,back p k rows h2⟩
  grind [cx,aH]
 have ev:Evo w ρ h w ρ (upd h id (.bx ds)) [(id,true)]:=by
  refine ⟨rfl,rfl,rfl,Nat.le_refl _,fun _ _ _=>rfl,fun id' sub hp hk=>⟨?_,rfl⟩,fun b ho=>?_,fun id' hb=>⟨?_,rfl⟩,fun id' _ hd=>⟨ur (by grind) hd,rfl⟩⟩
  ·by_cases hi:id'=id
   ·simp_all [bD,au,fR]
   grind [dJ,aH]
  ·obtain ⟨id',sub,h1,h2⟩:=ho;exact .inl ⟨id',sub,hl id' sub h1,h2⟩
  grind [au,bf,aH]
 refine ⟨r.step ev (·=id) (fun id' hi=>⟨aH h _ hi,fun _=>rfl,fun _ _=>rfl⟩) (fun a b c d h1 h2=>r.inj a b c d (hl a b h1) (hl c d h2)) (fun a b h1=>r.nx a b (hl a b h1)) (fun id' hi=>?_),ev⟩;subst hi;rw [au];have ho:=r.ob id';have ho':=ho.keep (w':=w) (A':=aD w X (upd h id' (.bx ds)) ρ) (ρ':=ρ) (h':=upd h id' (.bx ds)) (fun b hb=>ev.al hb) ev.boxes (fun _=>rfl) (fun _ _=>rfl);rw [e] at ho ho';obtain ⟨us,t,h1,h2,h3,h4⟩:=ho;obtain ⟨us',t',h1',_,_,h4'⟩:=ho';refine ⟨us,t,h1,h2,by omega,fun p d hd=>?_⟩;have hlt:=(List.getElem?_eq_some_iff.1 hd).1;obtain ⟨c,hc⟩:∃ c,cs[p]?=some c:=⟨cs[p]'(by omega),List.getElem?_eq_getElem (by omega)⟩;rcases hds p c hc with g1 | ⟨g1,g2⟩
 ·grind
 ·rw [hd] at g2; cases g2;obtain ⟨u,h5,h6⟩:=h4 p c hc;have hlv:live h id' (some p):=by
   cases c <;> simp [aU] at g1;exact ⟨cs,_,_,e,hc⟩
  have hfr:RD w (aD w X (upd h id' (.bx ds)) ρ) (kz c) u:=by
   refine Fc h6 (by grind [ji]) (fun b hb=>(ev.al hb).1) (fun k rows ec=>?_);obtain ⟨us2,t2,e1,_⟩:=r.live_heap hlv;refine ⟨DC e1,fun hx=>r.nx _ _ hlv (.inl hx),fun ho=>?_⟩;obtain ⟨id2,sub2,h7,h8⟩:=ho;obtain ⟨rfl,rfl⟩:=r.inj id2 sub2 id' (some p) (hl id2 sub2 h7) hlv h8;obtain ⟨cs2,k2,rows2,h9,h10⟩:=h7;grind [au,kz]
  have hnO:aU (kz c)=false:=by cases c <;> simp [aU] at g1 <;> rfl
  refine ⟨u,h5,(oe hnO).2 ⟨.dat hfr,hfr.one (Aw (by grind [ji])),rB (Aw (by grind [ji]))⟩⟩
end
section
variable {P:Program} {w:World} {X:Nat→Prop} {ρ:bq} {h h':ac}
theorem B4 {id k lo n cap:Nat} {a:Option Addr} {rows:List (List AV)} (r:Rel w X ρ h) (e:h id=.fz k rows) (hle:lo+n≤rows.length) (hn:n≤cap)
  (ha:cap=0∨a=some ⟨(ρ id none).1,lo*k,none⟩):RD w (aD w X h ρ) (m8 k lo n rows) (.slice a n cap):=by
 have ho:=r.ob id;rw [e] at ho;obtain ⟨h0,us,t,fr,h1,h2,h3,h4⟩:=ho;grind [j1]
theorem Gm (r:Rel w X ρ h) {id k lo n cap:Nat} {a:Option Addr} (hn:n≤cap) (ha:cap=0∨a=some ⟨(ρ id none).1,lo*k,none⟩) {c:AV} {ks:K} (hc:m9 h id k lo n (h id)=some (c,h',ks)) :
  Rel w X ρ h'∧Evo w ρ h w ρ h' ks∧RD w (aD w X h' ρ) c (.slice a n cap)∧aB c=true:=by
 cases e:h id with
 | dead=>grind [m9]
 | ar k' rows =>
  simp only [e,m9] at hc;split at hc
  ·rename_i hk;obtain ⟨rfl,hle⟩:=hk;cases hc;obtain ⟨h1,h2⟩:=aaT r e;exact ⟨h1,h2,B4 h1 (au _ _ _) hle hn ha,rfl⟩
  grind
 | fz k' rows =>
  simp only [e,m9] at hc;split at hc
  ·rename_i hk;obtain ⟨rfl,hle⟩:=hk;cases hc;exact ⟨r,.refl _ _ _,B4 r e hle hn ha,rfl⟩
  grind
 | bx cs =>
  simp only [e,m9] at hc;split at hc
  ·rename_i hk;obtain ⟨rfl,hle,hd⟩:=hk;cases hc;obtain ⟨h1,h2⟩:=aaU r e hd;exact ⟨h1,h2,B4 h1 (au _ _ _) (by grind [oV]) hn ha,rfl⟩
  grind
theorem T3 (r:Rel w X ρ h) {id:Nat} {sub:Option Nat} (hl:live h id sub) (hn:¬ live h' id sub) (hb:∀ id sub,live h' id sub→live h id sub):aD w X h' ρ (ρ id sub).1:=by
 obtain ⟨us,t,h1,_⟩:=r.live_heap hl;refine ⟨DC h1,fun hx=>r.nx id sub hl (.inl hx),fun ho=>?_⟩;obtain ⟨id2,sub2,h5,h6⟩:=ho;obtain ⟨rfl,rfl⟩:=r.inj id2 sub2 id sub (hb _ _ h5) hl h6;grind
theorem Gn (r:Rel w X ρ h) {id p k lo n cap:Nat} {a:Option Addr} (hn:n≤cap) (ha:cap=0∨a=some ⟨(ρ id (some p)).1,lo*k,none⟩) {c:AV} {ks:K} (hc:BS h id p k lo n (h id)=some (c,h',ks)) :
  Rel w X ρ h'∧Evo w ρ h w ρ h' ks∧RD w (aD w X h' ρ) c (.slice a n cap)∧aB c=true:=by
 cases e:h id with
 | bx cs =>
  simp only [e,BS] at hc;unfold Wn at hc;split at hc
  ·rename_i k' rows hp;split at hc
   ·rename_i hk;obtain ⟨rfl,hle⟩:=hk;cases hc;obtain ⟨h1,h2⟩:=B3 r e (ds:=cs.set p (.sl k' rows)) (by simp) (fun q c hq=>by
     by_cases hqp:q=p
     ·subst hqp; rw [hp] at hq; cases hq; exact .inr ⟨rfl,by grind [kz]⟩
     grind)
    refine ⟨h1,h2,?_,rfl⟩;have hlv:live h id (some p):=⟨cs,k',rows,e,hp⟩;have hal:aD w X (upd h id (.bx (cs.set p (.sl k' rows)))) ρ (ρ id (some p)).1:=by
     refine T3 r hlv (fun hl=>?_) (fun id' sub hl=>?_)
     ·obtain ⟨cs2,k2,r2,e1,e2⟩:=hl;grind [au]
     ·by_cases hi:id'=id
      ·subst hi;cases sub with
       | none=>grind [live]
       | some q =>
        obtain ⟨cs2,k2,r2,e1,e2⟩:=hl;rw [au] at e1;cases e1;by_cases hqp:q=p
        ·grind
        ·exact ⟨cs,k2,r2,e,by rwa [List.getElem?_set_ne (fun e=>hqp e.symm)] at e2⟩
      grind [cx,aH]
    have ho:=r.ob id;rw [e] at ho;obtain ⟨us,t,g1,g2,g3,g4⟩:=ho;obtain ⟨u,g5,g6⟩:=g4 p _ hp;obtain ⟨a',cap',us',t',e1,e2,e3,e4,e5,e6,e7⟩:=g6;exact j1 e4 hal (e7.mono fun b hb=>h2.al hb) hle hn ha
   grind
  grind
 | _=>simp [e,BS] at hc
theorem vT (r:Rel w X ρ h) {A0:Nat→Prop} {h0:ac} {c d:AV} {u:Value} {ks:K} (hv:RV w A0 ρ h0 c u) (hA:∀ b,A0 b→aD w X h ρ b) (h1:u.oneCell'=true) (hc:fS h c=some (d,h',ks)) :
  Rel w X ρ h'∧Evo w ρ h w ρ h' ks∧RD w (aD w X h' ρ) d u∧aB d=true:=by
 have dl:aB c=true→fS h c=some (c,h,[])→Rel w X ρ h'∧Evo w ρ h w ρ h' ks∧RD w (aD w X h' ρ) d u∧aB d=true:=by
  intro hd hq;rw [hq] at hc;cases hc;exact ⟨r,.refl _ _ _,(hv.toD hd h1).mono fun b hb=>⟨hA b hb,rfl⟩,hd⟩
 cases c with
 | rsl id sub k lo n =>
  obtain ⟨a,cap,rfl,hp,hn,hb,ha⟩:=hv.rsl_inv;cases sub with
  | none=>exact Gm r hn ha hc
  | some p=>exact Gn r hn ha hc
 | fn f x y =>
  grind [fS]
 | any=>exact dl rfl rfl
 | v x=>exact dl rfl rfl
 | emp=>exact dl rfl rfl
 | sl k rows=>exact dl rfl rfl
 | _=>simp [fS,aB] at hc
theorem yI {A0:Nat→Prop} {h0:ac}:∀ (cs:List AV) {us:Array Value} (off:Nat) {h h':ac} {ds:List AV} {ks:K},Rel w X ρ h→(∀ b,A0 b→aD w X h ρ b) →
  (∀ (i:Nat) (c:AV) (u:Value),cs[i]?=some c→us[off+i]?=some u→RV w A0 ρ h0 c u∧u.oneCell'=true)→off+cs.length≤us.size→fI h cs=some (ds,h',ks) →
   Rel w X ρ h'∧Evo w ρ h w ρ h' ks∧ds.length=cs.length∧(∀ d ∈ ds,aB d=true)∧(∀ (i:Nat) (d:AV) (u:Value),ds[i]?=some d→us[off+i]?=some u→RD w (aD w X h' ρ) d u)
 | [],us,off,h,h',ds,ks,r,hA,hv,hl,hc=>by
  obtain ⟨rfl,rfl,rfl⟩:=hc;exact ⟨r,.refl _ _ _,rfl,fun d hd=>(by grind),fun i d u hd=>(by grind)⟩
 | c::cs,us,off,h,h',ds,ks,r,hA,hv,hl,hc=>by
  simp only [fI,Option.bind_eq_some_iff] at hc;obtain ⟨⟨d,h1,k1⟩,e1,⟨ds',h2,k2⟩,e2,e3⟩:=hc;cases e3;simp only [List.length_cons] at hl;obtain ⟨u,hu⟩:∃ u,us[off]?=some u:=⟨us[off]'(by omega),Array.getElem?_eq_getElem (by omega)⟩;obtain ⟨hv0,hv1⟩:=hv 0 c u (by simp) (by omega);obtain ⟨g1,g2,g3,g4⟩:=vT r hv0 hA hv1 e1;obtain ⟨f1,f2,f3,f4,f5⟩:=yI cs (off+1) g1 (fun b hb=>(g2.al (hA b hb)).1) (fun i c u h1 h2=>hv (i+1) c u (by grind) (by rw [← h2]; congr 1; omega)) (by omega) e2;refine ⟨f1,g2.trans f2,by grind,fun x hx=>?_,fun i x v hx hv=>?_⟩
  ·grind
  ·cases i with
   | zero =>
    simp at hx hv;subst hx;rw [hu] at hv;cases hv;exact f2.rd g3
   | succ i=>grind
theorem T4 (r:Rel w X ρ h) {A0:Nat→Prop} {h0:ac} {c d:AV} {u:Value} {ks:K} (hv:RV w A0 ρ h0 c u) (hA:∀ b,A0 b→aD w X h ρ b) (hc:sI h c=some (d,h',ks)) (h1:(∀ cs,c ≠ .agg cs)→u.oneCell'=true) :
  Rel w X ρ h'∧Evo w ρ h w ρ h' ks∧RD w (aD w X h' ρ) d u∧dat d=true:=by
 cases c with
 | agg cs =>
  simp only [sI,Option.bind_eq_some_iff] at hc;obtain ⟨⟨ds,h2,k2⟩,e1,e2⟩:=hc;cases e2;obtain ⟨us,rfl,hs,g1,g2⟩:=hv.agg_inv;obtain ⟨f1,f2,f3,f4,f5⟩:=yI cs (us:=us) 0 r hA (fun i c u hc hu=>⟨g2 i c u hc (by grind),g1 _ u (by omega)⟩) (by omega) e1;exact ⟨f1,f2,.agg _ _ (by grind) g1 fun i d u hd hu=>f5 i d u hd (by grind),by grind [dat]⟩
 | _ =>
  obtain ⟨f1,f2,f3,f4⟩:=vT r hv hA (h1 fun cs e=>by cases e) hc;refine ⟨f1,f2,f3,?_⟩;cases d <;> first | exact f4 | simp [aB] at f4
theorem yJ {e:TypeId} {ad:Addr} {u:Value} (hg:nj P e=some false) (hc:w.cell? ad=some u):(loadVar e ad).run P w=.ok u w:=by
 simp_all [loadVar,DB]
theorem Pk {e:TypeId} {k:Nat} {ad:Addr} {vs:List Value} (hg:nj P e=some true) (hk:bj P e=some k) (hl:vs.length=k) (hc:∀ j v,vs[j]?=some v→w.cell? (ad.add j)=some v) :
  (loadVar e ad).run P w=.ok (.agg vs.toArray) w:=by
 have:=run_loadCells_list (P:=P) w ad vs hc
 simp_all [loadVar,DB,eG]
theorem sR {A:Nat→Prop} {h:ac} {e:TypeId} {k off:Nat} {g:Bool} (hg:nj P e=some g) (hk:bj P e=some k) {cs:List AV} {ad:Addr} {z:AV} {vals:Nat→Value}
  (hv:∀ (j:Nat) (c:AV),cs[j]?=some c→w.cell? (ad.add j)=some (vals j)) (hr:∀ (j:Nat) (c:AV),cs[j]?=some c→RV w A ρ h c (vals j)∧(vals j).oneCell'=true) (hz:jG k g cs off=some z) :
  ∃ v,(loadVar e (ad.add off)).run P w=.ok v w∧RV w A ρ h z v:=by
 unfold jG at hz;cases g with
 | true =>
  simp only [if_true] at hz;split at hz
  ·cases hz;refine ⟨_,Pk hg hk (vs:=(List.range k).map fun j=>vals (off+j)) (by simp) (fun j v hj=>?_),.agg _ _ (by grind) (fun i u hu=>?_) (fun i c u hc hu=>?_)⟩
   ·simp only [List.getElem?_map,Option.map_eq_some_iff] at hj;obtain ⟨i,hi,rfl⟩:=hj;obtain ⟨h1,h2⟩:=List.getElem?_eq_some_iff.1 hi;simp at h2 h1;subst h2;rw [wG];exact hv _ _ (List.getElem?_eq_getElem (show off+j < cs.length by omega))
   ·simp only [List.getElem?_toArray,List.getElem?_map,Option.map_eq_some_iff] at hu;obtain ⟨j,hj,rfl⟩:=hu;obtain ⟨h1,h2⟩:=List.getElem?_eq_some_iff.1 hj;simp at h2 h1;subst h2;exact (hr _ _ (List.getElem?_eq_getElem (show off+i < cs.length by omega))).2
   grind
  grind
 | false =>
  grind [yJ]
theorem yK {A:Nat→Prop} {h:ac} {e:TypeId} {k:Nat} {g:Bool} (hg:nj P e=some g) (hk:bj P e=some k) {b k0 i j k':Nat} {us:Array Value} {t:TypeId} {fr:Nat × Nat} {rows:List (List AV)}
  (hb:w.heap[b]?=some (.cells us t fr)) (hr:bU w A k' rows us) {z:AV} {h':ac} {ks:K} (hz:kQ h k g k0 i j (some (k',rows))=some (z,h',ks)) :
  h'=h∧ks=[]∧∃ v,(loadVar e ⟨b,i*k0+j,none⟩).run P w=.ok v w∧RV w A ρ h z v:=by
 simp only [kQ] at hz;split at hz
 ·simp only [Option.bind_eq_some_iff,Option.map_eq_some_iff] at hz;obtain ⟨row,h1,a,h2,h3⟩:=hz;cases h3;have cell:∀ (j:Nat) (c:AV),row[j]?=some c→us[i*k'+j]?=some ((us[i*k'+j]?).getD undef)∧RD w A c ((us[i*k'+j]?).getD undef)∧aB c=true:=by
   intro j c hc;obtain ⟨u,g1,g2,g3⟩:=(hr i row h1).2 j c hc;grind
  have:=sR (P:=P) (ρ:=ρ) (h:=h) (A:=A) (off:=j) hg hk (cs:=row) (ad:=⟨b,i*k',none⟩) (z:=z) (vals:=fun j=>(us[i*k'+j]?).getD undef)
   (fun j c hc=>by grind [jX,ws]) (fun j c hc=>⟨.dat (cell j c hc).2.1,(cell j c hc).2.1.one (cell j c hc).2.2⟩) h2
  grind [jX]
 grind
end
def iT (ρ:bq) (d:Nat) (sub:Option Nat) (b:Nat × Nat):bq:=fun id s=>if id=d∧s=sub then b else ρ id s
theorem bk (ρ:bq) (d:Nat) (sub:Option Nat) (b:Nat × Nat):iT ρ d sub b d sub=b:=if_pos ⟨rfl,rfl⟩
theorem zo {ρ:bq} {d id:Nat} {sub s:Option Nat} {b:Nat × Nat} (h:¬ (id=d∧s=sub)):iT ρ d sub b id s=ρ id s:=if_neg h
section
variable {P:Program} {w:World} {X:Nat→Prop} {ρ:bq} {h h':ac}
theorem zp (w:World) (o:Obj) {b:Nat} (hb:b < w.heap.size):(w.alloc o).heap[b]?=w.heap[b]?:=by
 show (w.heap.push o)[b]?=_;grind
theorem rC (w:World) (o:Obj):(w.alloc o).heap[w.heap.size]?=some o:=by
 show (w.heap.push o)[w.heap.size]?=_;grind
def RZ (w:World) (A:Nat→Prop) (ρ:bq) (h:ac) (us:Array Value):Ob→Prop
 | .bx cs=>cs.length≤us.size∧∀ (p:Nat) (c:AV),cs[p]?=some c→aU c=false∧∃ u,us[p]?=some u∧RV w A ρ h c u∧u.oneCell'=true∧jm h c
 | .ar k rows=>rows.length*k≤us.size∧bU w A k rows us
 | _=>False
theorem ut (r:Rel w X ρ h) {d:Nat} (hdp:aR d=false) (hd:h d=.dead) {us:Array Value} {e:TypeId} {o:Ob} (ho:RZ w (aD w X h ρ) ρ h us o) :
  Rel (w.alloc (.cells us e)) X (iT ρ d none (w.heap.size,us.size)) (upd h d o)∧Evo w ρ h (w.alloc (.cells us e)) (iT ρ d none (w.heap.size,us.size)) (upd h d o) []:=by
 have hl:∀ id sub,live (upd h d o) id sub→(id=d∧sub=none)∨(id ≠ d∧live h id sub):=by
  intro id sub hl;by_cases hi:id=d
  ·subst hi;cases sub with
   | none=>grind
   | some p =>
    obtain ⟨cs,k,rows,h1,h2⟩:=hl;rw [au] at h1;subst h1;exact absurd (ho.2 p _ h2).1 (by simp [aU])
  grind [cx,aH]
 have hρ:∀ id sub,id ≠ d→iT ρ d none (w.heap.size,us.size) id sub=ρ id sub:=fun id sub hi=>zo fun e=>hi e.1;have ev:Evo w ρ h (w.alloc (.cells us e)) (iT ρ d none (w.heap.size,us.size)) (upd h d o) []:=by
  refine ⟨rfl,rfl,rfl,by simp_all,fun b hb _=>zp w _ hb,fun id sub hp _=>?_,fun b hb=>?_,fun id hb=>?_,fun id hp hnd=>?_⟩
  ·have hi:id ≠ d:=by
    rintro rfl
    cases sub with
    | none=>exact hp hd
    | some p=>obtain ⟨_,_,_,h1,_⟩:=hp; grind
   grind [dJ,aH]
  ·obtain ⟨id,sub,h1,h2⟩:=hb;rcases hl id sub h1 with ⟨rfl,rfl⟩ | ⟨hi,h3⟩
   ·simp_all [bk,Nat.le_refl]
   ·rw [hρ id sub hi] at h2; exact .inl ⟨id,sub,h3,h2⟩
  ·have hi:id ≠ d:=by rintro rfl; rw [hd] at hb; cases hb
   grind [aH]
  grind [aH]
 have lt:∀ id sub,live h id sub→(ρ id sub).1 < w.heap.size:=fun id sub hl=>by obtain ⟨us,t,h1,_⟩:=r.live_heap hl; grind
 refine ⟨r.step ev (·=d) (fun id hi=>⟨aH h _ hi,fun sub=>hρ id sub hi,fun sub hl=>zp w _ (lt id sub hl)⟩) (fun a b c e' h1 h2 h3=>?_) (fun a b h1=>?_) (fun id hi=>?_),ev⟩
 ·rcases hl a b h1 with ⟨rfl,rfl⟩ | ⟨ha,h4⟩ <;> rcases hl c e' h2 with ⟨rfl,rfl⟩ | ⟨hc,h5⟩
  ·grind
  ·grind [bk]
  ·grind [bk]
  ·rw [hρ a b ha,hρ c e' hc] at h3; exact r.inj a b c e' h4 h5 h3
 ·rcases hl a b h1 with ⟨rfl,rfl⟩ | ⟨ha,h4⟩
  ·rw [bk]; intro hx; have:=r.xl _ hx; omega
  ·rw [hρ a b ha]; exact r.nx a b h4
 ·subst hi;rw [au];cases o with
  | bx cs =>
   refine ⟨us,e,by grind [bk,rC],by rw [bk],ho.1,fun p c hc=>?_⟩;obtain ⟨h1,u,h2,h3,h4,h5⟩:=ho.2 p c hc;obtain ⟨h6,h7⟩:=h3.keepC h5 (fun b hb=>ev.al hb) ev.boxes;grind [oe]
  | ar k rows=>exact ⟨us,e,by grind [bk,rC],by rw [bk],ho.1,ho.2.mono fun b hb=>ev.al hb⟩
  | dead=>exact ho.elim
  | fz k rows=>exact ho.elim
theorem Gp {t:TypeId} {i:TypeInfo} {z:Value} (h1:P.info? t=some i) (h2:i.zero=some z) (w:World):(zeroValue t).run P w=.ok z w:=by simp_all [zeroValue,typeInfo]
theorem JX {cs:List AV} {us:Array Value} {A:Nat→Prop} (hc:Cells w A ρ h cs us) (hd:cs.all aB=true):RZ w A ρ h us (.bx cs) :=
 ⟨Nat.le_of_eq hc.1.symm,fun p c hp=>by
  have h1:aB c=true:=List.all_eq_true.1 hd c (List.mem_of_getElem? hp);obtain ⟨u,hu⟩:∃ u,us[p]?=some u:=⟨us[p]'(by have:=(List.getElem?_eq_some_iff.1 hp).1; have:=hc.1; omega),Array.getElem?_eq_getElem _⟩;exact ⟨by cases c <;> simp [aB] at h1 <;> rfl,u,hu,hc.2.2 p c u hp hu,hc.2.1 p u hu,rB h1⟩⟩
theorem Mb:∀ (l:List Value) (cs:List AV),BY l=some cs→cs.all aB=true
 | [],cs,hc=>by grind [BY]
 | v::l,cs,hc=>by
  simp only [BY,Option.bind_eq_some_iff] at hc;obtain ⟨c,h1,q,h2,h3⟩:=hc;cases h3;have h4:aB c=true:=by unfold L5 at h1; split at h1 <;> cases h1 <;> rfl
  simp [h4];simpa using Mb l q h2
theorem Mc {t:TypeId} {zs:List AV} (hz:iS P t=some zs):zs.all aB=true:=by
 grind [iS,Option.bind_eq_some_iff,Mb]
theorem jn {d:Nat} {a:AV} {o:Ob} {ks:K} {x:AV} {ks':K} (hn:wB h d a o ks (h d)=some (x,h',ks')):h d=.dead∧x=a∧h'=upd h d o∧ks'=ks:=by
 grind [wB]
structure Got (w:World) (X:Nat→Prop) (ρ:bq) (h:ac) (w':World) (h':ac) (ks:K) (x:AV) (v:Value):Prop where
 ex:∃ ρ',Rel w' X ρ' h'∧Evo w ρ h w' ρ' h' ks∧RV w' (aD w' X h' ρ') ρ' h' x v
theorem Pm {t:TypeId} {zs:List AV} (r:Rel w X ρ h) (hz:iS P t=some zs) {d:Nat} (hdp:aR d=false) {x:AV} {ks:K} (hn:jj h d zs []=some (x,h',ks)) :
  ∃ v w',(Instr.alloc t true (.tuple #[])).run P w=.ok v w'∧Got w X ρ h w' h' ks x v:=by
 obtain ⟨h1,rfl,rfl,rfl⟩:=jn hn;obtain ⟨i,z,g1,g2,g3,g4,g5⟩:=jZ (w:=w) (A:=aD w X h ρ) (ρ:=ρ) (h:=h) hz;obtain ⟨g6,g7⟩:=ut (e:=t) r hdp h1 (JX g5 (Mc hz));refine ⟨.pointer (some ⟨w.heap.size,0,none⟩),_,?_,⟨_,g6,g7,?_⟩⟩
 ·simp_all [Instr.alloc,Sem.run_bind,Gp,Result.andThen,newVar,newRow]
 ·have:=RV.ref (w:=w.alloc (.cells z.cells t)) (A:=aD (w.alloc (.cells z.cells t)) X (upd h d (.bx zs)) (iT ρ d none (w.heap.size,z.cells.size))) (ρ:=iT ρ d none (w.heap.size,z.cells.size)) (h:=upd h d (.bx zs)) d none 0 0 0 (by simp [bD,au]);grind [bk]
end
section
variable {P:Program} {w:World} {X:Nat→Prop} {ρ:bq} {h h':ac}
theorem xW (a:Addr):a.add 0=a:=by simp_all [Addr.add,if_pos]
theorem P7 {c:AV} (hc:aU c=false):kz c=c:=by cases c <;> first | rfl | simp [aU] at hc
theorem Rel.cell (r:Rel w X ρ h) {id:Nat} {cs:List AV} (e:h id=.bx cs):∃ us t,w.heap[(ρ id none).1]?=some (.cells us t (0,0))∧us.size=(ρ id none).2∧cs.length≤us.size ∧
  ∀ (p:Nat) (c:AV),cs[p]?=some c→∃ u,us[p]?=some u∧RC w (aD w X h ρ) ρ h id p c u:=by
 have ho:=r.ob id;rw [e] at ho;exact ho
theorem Pn (r:Rel w X ρ h) {ty:TypeId} {k:Nat} {g:Bool} (hg:nj P ty=some g) (hk:bj P ty=some k) {id p:Nat} {cs:List AV} (e:h id=.bx cs) {z:AV} {ks:K} (hz:Am h id p k g cs=some (z,h',ks)) :
  ∃ v,(loadVar ty ⟨(ρ id none).1,p,none⟩).run P w=.ok v w∧Rel w X ρ h'∧Evo w ρ h w ρ h' ks∧RV w (aD w X h' ρ) ρ h' z v:=by
 have key:∀ (h1:ac) (ds:List AV),Rel w X ρ h1→h1 id=.bx ds→g=true→p+k≤ds.length→(∀ c ∈ (ds.drop p).take k,aU c=false) →
   ∃ v,(loadVar ty ⟨(ρ id none).1,p,none⟩).run P w=.ok v w∧RV w (aD w X h1 ρ) ρ h1 (.agg ((ds.drop p).take k)) v:=by
  intro h1 ds r1 e1 hgt hle hn;obtain ⟨us,t,g1,g2,g3,g4⟩:=r1.cell e1;have cell:∀ (j:Nat) (c:AV),((ds.drop p).take k)[j]?=some c→us[p+j]?=some ((us[p+j]?).getD undef)∧RV w (aD w X h1 ρ) ρ h1 c ((us[p+j]?).getD undef)∧((us[p+j]?).getD undef).oneCell'=true:=by
   grind [oe,List.mem_of_getElem]
  have:=sR (P:=P) (ρ:=ρ) (h:=h1) (A:=aD w X h1 ρ) (off:=0) hg hk (cs:=(ds.drop p).take k) (ad:=⟨(ρ id none).1,p,none⟩) (z:=.agg ((ds.drop p).take k)) (vals:=fun j=>(us[p+j]?).getD undef)
   (fun j c hc=>by grind [jX,ws]) (fun j c hc=>(cell j c hc).2) (by
    have hl:((ds.drop p).take k).length=k:=by grind
    simp_all [jG,if_true,if_pos,List.drop_zero,List.take_of_length_le])
  grind [xW]
 unfold Am at hz;cases g with
 | true =>
  simp only [if_true] at hz;split at hz
  ·rename_i hle;split at hz
   ·obtain ⟨r1,e1⟩:=B3 r e (ds:=cs.map kz) (by simp) (fun q c hq=>by
     grind [aU,P7])
    obtain ⟨v,h1,h2⟩:=key _ _ r1 (au _ _ _) rfl (by grind) (fun c hc=>by
     have:=List.mem_of_mem_drop (List.mem_of_mem_take hc);simp only [List.mem_map] at this;obtain ⟨c',_,rfl⟩:=this;cases c' <;> rfl)
    grind
   ·cases hz;obtain ⟨v,h1,h2⟩:=key _ _ r e rfl hle (fun c hc=>by
     grind)
    exact ⟨v,h1,r,.refl _ _ _,h2⟩
  grind
 | false =>
  simp only [Bool.false_eq_true,if_false,Option.map_eq_some_iff] at hz;obtain ⟨c,hc,e3⟩:=hz;cases e3;obtain ⟨us,t,g1,g2,g3,g4⟩:=r.cell e;obtain ⟨u,f1,f2⟩:=g4 p c hc;refine ⟨u,yJ hg (by grind [ws]),r,.refl _ _ _,?_⟩;cases hO:aU c with
  | true =>
   cases c <;> simp [aU] at hO;rename_i k' rows;obtain ⟨a,cap,us',t',e1,e2,e3,e4,e5,e6,e7⟩:=f2;subst e1;exact .rsl id (some p) k' 0 rows.length cap a ⟨cs,k',rows,e,hc⟩ e3 (by grind) (by grind)
  | false =>
   rw [oe hO] at f2;have:tT id p c=c:=by cases c <;> first | rfl | simp [aU] at hO
   grind
theorem Eo (r:Rel w X ρ h) {ty:TypeId} {k:Nat} {g:Bool} (hg:nj P ty=some g) (hk:bj P ty=some k) {x z:AV} {u:Value} {ks:K} (hx:RV w (aD w X h ρ) ρ h x u) (hz:fJ h k g x=some (z,h',ks)) :
  ∃ ad v,u=.pointer (some ad)∧(loadVar ty ad).run P w=.ok v w∧Rel w X ρ h'∧Evo w ρ h w ρ h' ks∧RV w (aD w X h' ρ) ρ h' z v:=by
 cases x with
 | ipt cs =>
  simp only [fJ,Option.map_eq_some_iff] at hz;obtain ⟨a,h1,h2⟩:=hz;cases h2;cases hx with
  | dat hd=>cases hd
  | ipt _ ad vals hA hs hv hl hr =>
   obtain ⟨v,f1,f2⟩:=sR (P:=P) (ρ:=ρ) (h:=h) (A:=aD w X h ρ) (off:=0) hg hk hv (fun j c hc=>⟨.dat (hr j c hc),(hr j c hc).one (hl c (List.mem_of_getElem? hc))⟩) h1;exact ⟨ad,v,rfl,by rwa [xW] at f1,r,.refl _ _ _,f2⟩
 | ref id sub k0 i j =>
  obtain ⟨rfl,hp⟩:=hx.ref_inv;cases sub with
  | none =>
   simp only [fJ] at hz;cases e:h id with
   | dead=>rw [e] at hz; cases hz
   | bx cs =>
    rw [e] at hz;obtain ⟨v,f1,f2,f3,f4⟩:=Pn (P:=P) r hg hk e hz;grind
   | ar k' rows =>
    rw [e] at hz;have ho:=r.ob id;rw [e] at ho;obtain ⟨us,t,g1,g2,g3,g4⟩:=ho;obtain ⟨rfl,rfl,v,f1,f2⟩:=yK (P:=P) (ρ:=ρ) hg hk g1 g4 hz;exact ⟨_,v,rfl,f1,r,.refl _ _ _,f2⟩
   | fz k' rows =>
    rw [e] at hz;have ho:=r.ob id;rw [e] at ho;obtain ⟨_,us,t,fr,g1,g2,g3,g4⟩:=ho;obtain ⟨rfl,rfl,v,f1,f2⟩:=yK (P:=P) (ρ:=ρ) hg hk g1 g4 hz;exact ⟨_,v,rfl,f1,r,.refl _ _ _,f2⟩
  | some p =>
   simp only [fJ] at hz;cases e:h id with
   | bx cs =>
    rw [e] at hz;simp only [jc] at hz;cases e2:cs[p]? with
    | none=>rw [e2] at hz; cases hz
    | some c =>
     rw [e2] at hz;cases c <;> simp only [sP] at hz <;> try (cases hz; done)
     obtain ⟨us,t,g1,g2,g3,g4⟩:=r.cell e;obtain ⟨u,f1,a,cap,us',t',e1,e2',e3,e4,e5,e6,e7⟩:=g4 p _ e2;obtain ⟨rfl,rfl,v,f1,f2⟩:=yK (P:=P) (ρ:=ρ) hg hk e4 e7 hz;exact ⟨_,v,rfl,f1,r,.refl _ _ _,f2⟩
   | _=>rw [e] at hz; cases hz
 | _=>cases hz
def cr (us:Array Value) (o:Nat) (vs:List Value):Array Value:=(us.toList.take o++vs++us.toList.drop (o+vs.length)).toArray
theorem dV {us:Array Value} {o:Nat} {vs:List Value} (hle:o+vs.length≤us.size) (q:Nat):(cr us o vs)[q]?=if o≤q∧q < o+vs.length then vs[q - o]? else us[q]?:=by
 unfold cr;grind
theorem cD {us:Array Value} {o:Nat} {vs:List Value} (hle:o+vs.length≤us.size):(cr us o vs).size=us.size:=by
 grind [cr]
theorem j3 {us:Array Value} {o:Nat} {vs:List Value} (hle:o+vs.length≤us.size) (hs:∀ (j:Nat) (v:Value),vs[j]?=some v→us[o+j]?=some v):cr us o vs=us:=by
 apply Array.ext_getElem?;intro q;rw [dV hle];grind
theorem T5 {us:Array Value} {o:Nat} {v:Value} {vs:List Value} (hle:o+(v::vs).length≤us.size):cr (cr us o [v]) (o+1) vs=cr us o (v::vs):=by
 have h1:o+[v].length≤us.size:=by grind
 apply Array.ext_getElem?;intro q;rw [dV (by grind [cD]),dV h1,dV (by omega)];grind
theorem pM {ty:TypeId} {k:Nat} (hk:bj P ty=some k) {v:Value} (hv:v.cells.size=k) (h1:∀ u ∈ v.cells.toList,u.oneCell'=true) {b o:Nat} {us:Array Value} {t:TypeId}
  (hb:w.heap[b]?=some (.cells us t (0,0))) (hle:o+k≤us.size):(storeVar ty ⟨b,o,none⟩ v).run P w=.ok () (w.setRow b (cr us o v.cells.toList)):=by
 have:=run_storeCells_at P b o t v.cells.toList 0 us w hb (by grind) h1
 simp_all [storeVar,Sem.run_bind,eG,Result.andThen,ne_eq,not_true_eq_false,if_false,cr]
end
section
variable {P:Program} {w w':World} {X:Nat→Prop} {ρ ρ':bq} {h h':ac} {A A':Nat→Prop}
theorem RC.keep {id p:Nat} {c:AV} {u:Value} (hc:RC w A ρ h id p c u) (hA:∀ b,A b→A' b∧w'.heap[b]?=w.heap[b]?) (hB:∀ id,bf (h id)=true→bf (h' id)=true∧ρ' id none=ρ id none)
  (hρ:ρ' id (some p)=ρ id (some p)) (hb:aU c=true→w'.heap[(ρ id (some p)).1]?=w.heap[(ρ id (some p)).1]?):RC w' A' ρ' h' id p c u:=by
 cases hO:aU c with
 | true =>
  cases c <;> simp [aU] at hO;obtain ⟨a,cap,us',t',g1,g2,g3,g4,g5,g6,g7⟩:=hc;exact ⟨a,cap,us',t',g1,by grind,g3,by rw [hρ,hb rfl,g4],by grind,g6,g7.mono hA⟩
 | false =>
  rw [oe hO] at hc ⊢;obtain ⟨g1,g2⟩:=hc.1.keepC hc.2.2 hA hB;grind
theorem sT (_r:Rel w X ρ h) {id:Nat} {sub:Option Nat} (hl:live h id sub) {o':Ob} {ks:K} (us':Array Value) (hlive:∀ s,live (upd h id o') id s→live h id s)
  (hkeep:∀ s,bD h id s→fR ks id s=false→bD (upd h id o') id s) (hbf:bf (h id)=true→bf o'=true):Evo w ρ h (w.setRow (ρ id sub).1 us') ρ (upd h id o') ks:=by
 have hl':∀ id' s,live (upd h id o') id' s→live h id' s:=by
  grind [cx,aH]
 refine ⟨rfl,rfl,rfl,by simp,fun b _ ho=>setRow_other w _ b us' (fun e=>ho ⟨id,sub,hl,e.symm⟩),fun id' s hp hk=>⟨?_,rfl⟩,fun b ho=>?_,fun id' hb=>⟨?_,rfl⟩,fun id' _ hd=>⟨ur (fun e=>by cases sub <;> simp [live,e] at hl) hd,rfl⟩⟩
 ·grind [dJ,aH]
 ·obtain ⟨id',s,h1,h2⟩:=ho;exact .inl ⟨id',s,hl' id' s h1,h2⟩
 grind [au,aH]
theorem og (r:Rel w X ρ h) {id:Nat} {sub:Option Nat} (hl:live h id sub) {o':Ob} {ks:K} (us':Array Value) (hlive:∀ s,live (upd h id o') id s→live h id s)
  (ev:Evo w ρ h (w.setRow (ρ id sub).1 us') ρ (upd h id o') ks) (ho:RO (w.setRow (ρ id sub).1 us') (aD (w.setRow (ρ id sub).1 us') X (upd h id o') ρ) ρ (upd h id o') id o'):Rel (w.setRow (ρ id sub).1 us') X ρ (upd h id o'):=by
 have hl':∀ id' s,live (upd h id o') id' s→live h id' s:=by
  grind [cx,aH]
 refine r.step ev (·=id) (fun id' hi=>⟨aH h _ hi,fun _=>rfl,fun s h1=>setRow_other w _ _ us' fun e=>hi (r.inj id' s id sub h1 hl e).1⟩) (fun a b c d h1 h2=>r.inj a b c d (hl' a b h1) (hl' c d h2)) (fun a b h1=>r.nx a b (hl' a b h1)) (fun id' hi=>?_);grind [au]
theorem wrB (r:Rel w X ρ h) {id p:Nat} {cs xs:List AV} (e:h id=.bx cs) {us:Array Value} {t:TypeId} (hb:w.heap[(ρ id none).1]?=some (.cells us t (0,0))) {vals:List Value} (hlen:vals.length=xs.length)
  (hx:∀ (m:Nat) (c:AV) (u:Value),xs[m]?=some c→vals[m]?=some u→aU c=false∧RV w (aD w X h ρ) ρ h c u∧u.oneCell'=true∧jm h c) (hle:p+xs.length≤cs.length) :
  Rel (w.setRow (ρ id none).1 (cr us p vals)) X ρ (upd h id (.bx (setRow cs p xs)))∧Evo w ρ h (w.setRow (ρ id none).1 (cr us p vals)) ρ (upd h id (.bx (setRow cs p xs))) (if ((cs.drop p).take xs.length).any aU then [(id,true)] else []):=by
 have hln:live h id none:=by grind [live]
 obtain ⟨us0,t0,g1,g2,g3,g4⟩:=r.cell e;rw [hb] at g1;cases g1;have hov:p+vals.length≤us.size:=by omega
 have hlive:∀ s,live (upd h id (.bx (setRow cs p xs))) id s→live h id s:=by
  intro s h1;cases s with
  | none=>omega
  | some q =>
   obtain ⟨cs',k,rows,h2,h3⟩:=h1;rw [au] at h2;cases h2;rw [anL q xs cs p hle] at h3;split at h3
   ·obtain ⟨u,hu⟩:∃ u,vals[q - p]?=some u:=⟨vals[q - p]'(by omega),List.getElem?_eq_getElem _⟩;grind [aU]
   ·exact ⟨cs,k,rows,e,h3⟩
 have hkeep:∀ s,bD h id s→fR (if ((cs.drop p).take xs.length).any aU then [(id,true)] else []) id s=false→bD (upd h id (.bx (setRow cs p xs))) id s:=by
  intro s hp hk;cases s with
  | none=>simp [bD,au]
  | some q =>
   obtain ⟨cs',k,rows,h2,h3⟩:=hp;rw [e] at h2;cases h2;refine ⟨setRow cs p xs,k,rows,au _ _ _,?_⟩;rw [anL q xs cs p hle];split
   ·have:((cs.drop p).take xs.length).any aU=true:=List.any_eq_true.2 ⟨.osl k rows,by
     refine List.mem_of_getElem? (i:=q - p) ?_;grind,rfl⟩
    grind [fR]
   omega
 have ev:=sT (X:=X) r hln (cr us p vals) hlive hkeep (fun _=>rfl);refine ⟨og r hln (cr us p vals) hlive ev ?_,ev⟩;refine ⟨cr us p vals,t,setRow_heap w _ us _ t _ hb,by grind [cD],by grind [cD,uU],fun q c hq=>?_⟩;rw [anL q xs cs p hle] at hq;rw [dV hov];split at hq
 ·obtain ⟨u,hu⟩:∃ u,vals[q - p]?=some u:=⟨vals[q - p]'(by omega),List.getElem?_eq_getElem _⟩;obtain ⟨f1,f2,f3,f4⟩:=hx _ _ _ hq hu;obtain ⟨f5,f6⟩:=f2.keepC f4 (fun b hb=>ev.al hb) ev.boxes;grind [oe]
 ·rw [if_neg (by omega)];obtain ⟨u,f1,f2⟩:=g4 q c hq;refine ⟨u,f1,f2.keep (fun b hb=>ev.al hb) ev.boxes rfl (fun hO=>?_)⟩;cases c <;> simp [aU] at hO;exact setRow_other w _ _ _ fun e2=>absurd (r.inj id (some q) id none ⟨cs,_,_,e,hq⟩ hln e2).2 (by simp)
theorem mvB (r:Rel w X ρ h) {id p id0 k cap:Nat} {cs:List AV} {rows:List (List AV)} {a:Option Addr} (e:h id=.bx cs) {us:Array Value} {t:TypeId} (hb:w.heap[(ρ id none).1]?=some (.cells us t (0,0))) (e0:h id0=.ar k rows)
  (hn:rows.length≤cap) (hc:cap*k=(ρ id0 none).2) (ha:cap=0∨a=some ⟨(ρ id0 none).1,0,none⟩) (hp:p < cs.length) :
  Rel (w.setRow (ρ id none).1 (cr us p [.slice a rows.length cap])) X (iT ρ id (some p) (ρ id0 none)) (upd (upd h id0 .dead) id (.bx (cs.set p (.osl k rows)))) ∧
   Evo w ρ h (w.setRow (ρ id none).1 (cr us p [.slice a rows.length cap])) (iT ρ id (some p) (ρ id0 none)) (upd (upd h id0 .dead) id (.bx (cs.set p (.osl k rows)))) ([(id0,false)]++(if (cs[p]?).any aU then [(id,true)] else [])):=by
 have hln:live h id none:=by grind [live]
 have hl0:live h id0 none:=by grind [live]
 have hne:id0 ≠ id:=by grind
 obtain ⟨us0,t0,g1,g2,g3,g4⟩:=r.cell e;rw [hb] at g1;cases g1;have hov:p+[Value.slice a rows.length cap].length≤us.size:=by grind
 have hρ:∀ id' s,¬ (id'=id∧s=some p)→iT ρ id (some p) (ρ id0 none) id' s=ρ id' s:=fun id' s hh=>zo hh;have hl:∀ id' s,live (upd (upd h id0 .dead) id (.bx (cs.set p (.osl k rows)))) id' s→(id'=id∧s=some p)∨(¬ (id'=id∧s=some p)∧id' ≠ id0∧live h id' s):=by
  intro id' s h1;by_cases hi:id'=id
  ·subst hi;cases s with
   | none=>grind
   | some q =>
    by_cases hq:q=p
    ·grind
    ·obtain ⟨cs',k',rows',h2,h3⟩:=h1;rw [au] at h2;cases h2;rw [List.getElem?_set_ne (fun e=>hq e.symm)] at h3;exact .inr ⟨by grind,fun e=>hne e.symm,⟨cs,k',rows',e,h3⟩⟩
  ·by_cases hi0:id'=id0
   ·subst hi0;exfalso;have:=(cx (aH (upd h id' .dead) (.bx (cs.set p (.osl k rows))) hi)).1 h1;cases s <;> simp [live,au] at this
   grind [cx,aH,upd]
 have blk:∀ id' s,live (upd (upd h id0 .dead) id (.bx (cs.set p (.osl k rows)))) id' s→∃ id2 s2,live h id2 s2∧(iT ρ id (some p) (ρ id0 none) id' s).1=(ρ id2 s2).1∧((id'=id∧s=some p∧id2=id0∧s2=none)∨(id2=id'∧s2=s∧id2 ≠ id0)):=by
  grind [bk]
 have ev:Evo w ρ h (w.setRow (ρ id none).1 (cr us p [.slice a rows.length cap])) (iT ρ id (some p) (ρ id0 none)) (upd (upd h id0 .dead) id (.bx (cs.set p (.osl k rows)))) ([(id0,false)]++(if (cs[p]?).any aU then [(id,true)] else [])):=by
  refine ⟨rfl,rfl,rfl,by simp,fun b _ ho=>setRow_other w _ b _ (fun e=>ho ⟨id,none,hln,e.symm⟩),fun id' s hps hk=>?_,fun b ho=>?_,fun id' hbf=>?_,fun id' _ hnd=>⟨fun e1=>?_,hρ _ _ (by simp)⟩⟩
  ·have hi0:id' ≠ id0:=by grind [fR]
   by_cases hi:id'=id
   ·subst hi;cases s with
    | none=>grind [bD,au]
    | some q =>
     obtain ⟨cs',k',rows',h2,h3⟩:=hps;rw [e] at h2;cases h2;have hq:q ≠ p:=by
      grind [aU,fR]
     exact ⟨⟨_,k',rows',au _ _ _,by grind⟩,hρ _ _ (by grind)⟩
   grind [dJ,aH]
  ·obtain ⟨id',s,h1,h2⟩:=ho;obtain ⟨id2,s2,h3,h4,_⟩:=blk id' s h1;exact .inl ⟨id2,s2,h3,h4.symm.trans h2⟩
  all_goals grind [bf,au,aH]
 refine ⟨r.step ev (fun i=>i=id∨i=id0) (fun id' hi=>?_) (fun i s i' s' h1 h2 h3=>?_) (fun i s h1=>?_) (fun id' hi=>?_),ev⟩
 ·simp only [not_or] at hi;exact ⟨by rw [aH _ _ hi.1,aH _ _ hi.2],fun s=>hρ _ _ (by omega),fun s h1=>setRow_other w _ _ _ fun e=>hi.1 (r.inj id' s id none h1 hln e).1⟩
 ·obtain ⟨i2,s2,f1,f2,f3⟩:=blk i s h1;obtain ⟨i3,s3,f4,f5,f6⟩:=blk i' s' h2;obtain ⟨rfl,rfl⟩:=r.inj i2 s2 i3 s3 f1 f4 (by omega);grind
 ·obtain ⟨i2,s2,f1,f2,_⟩:=blk i s h1;rw [f2];exact r.nx _ _ f1
 ·rcases hi with rfl | rfl
  ·rw [au];refine ⟨cr us p [.slice a rows.length cap],t,by grind [setRow_heap],by grind [cD],by grind [cD,List.length_set],fun q c hq=>?_⟩;rw [dV hov];by_cases hqp:q=p
   ·subst hqp;rw [List.getElem?_set_self hp] at hq;cases hq;rw [if_pos (by simp)];refine ⟨.slice a rows.length cap,by simp,?_⟩;have ho:=r.ob id0;rw [e0] at ho;obtain ⟨us1,t1,f1,f2,f3,f4⟩:=ho;refine ⟨a,cap,us1,t1,rfl,by grind [bk],hn,?_,by grind [bk],by omega,f4.mono fun b hb=>ev.al hb⟩;rw [bk,setRow_other w _ _ _ (fun e2=>hne (r.inj id0 none id' none hl0 hln e2).1)];omega
   ·rw [List.getElem?_set_ne (fun e=>hqp e.symm)] at hq;rw [if_neg (by grind)];obtain ⟨u,f1,f2⟩:=g4 q c hq;refine ⟨u,f1,f2.keep (fun b hb=>ev.al hb) ev.boxes (hρ _ _ (by grind)) (fun hO=>?_)⟩;cases c <;> simp [aU] at hO;exact setRow_other w _ _ _ fun e2=>absurd (r.inj id' (some q) id' none ⟨cs,_,_,e,hq⟩ hln e2).2 (by simp)
  ·rw [aH _ _ hne,au];trivial
end
section
variable {P:Program} {w w':World} {X:Nat→Prop} {ρ ρ':bq} {h h':ac} {A A':Nat→Prop}
def R1 (w:World) (X:Nat→Prop) (ρ:bq) (h h':ac) (y:AV) (u:Value) (ks:K):Prop :=
 (Rel w X ρ h'∧Evo w ρ h w ρ h' ks∧aU y=false∧RV w (aD w X h' ρ) ρ h' y u∧jm h' y) ∨
  (∃ id0 k rows0 rows cap a,h id0=.ar k rows0∧(∃ m,rows=rows0.take m)∧y=.osl k rows∧h'=upd h id0 .dead∧ks=[(id0,false)]∧u=.slice a rows.length cap∧rows.length≤cap∧cap*k=(ρ id0 none).2∧(cap=0∨a=some ⟨(ρ id0 none).1,0,none⟩))
theorem Ie {c:AV} (hd:aB c=true):aU c=false:=by cases c <;> simp [aB] at hd <;> rfl
theorem T6 (r:Rel w X ρ h) {x y:AV} {u:Value} {ks:K} (hx:RV w (aD w X h ρ) ρ h x u) (h1:u.oneCell'=true) (hi:Bp h x=some (y,h',ks)):R1 w X ρ h h' y u ks:=by
 have dl:aB x=true→Bp h x=some (x,h,[])→R1 w X ρ h h' y u ks:=fun hd hq=>by
  rw [hq] at hi;obtain ⟨rfl,rfl,rfl⟩:=hi;exact .inl ⟨r,.refl _ _ _,Ie hd,hx,rB hd⟩
 have fr:Rel w X ρ h'∧Evo w ρ h w ρ h' ks∧RD w (aD w X h' ρ) y u∧aB y=true→R1 w X ρ h h' y u ks :=
  fun ⟨f1,f2,f3,f4⟩=>.inl ⟨f1,f2,Ie f4,.dat f3,rB f4⟩
 cases x with
 | rsl id sub k lo n =>
  obtain ⟨a,cap,rfl,hp,hn,hb,ha⟩:=hx.rsl_inv;cases sub with
  | some p=>exact fr (Gn r hn ha hi)
  | none =>
   simp only [Bp] at hi;have other:JS h id k lo n (h id)=m9 h id k lo n (h id)→R1 w X ρ h h' y (.slice a n cap) ks:=fun hq=>by
    grind [Gm]
   cases e:h id with
   | ar k' rows =>
    by_cases hk:k'=k
    ·subst hk;by_cases hw:lo=0∧n=rows.length
     ·obtain ⟨rfl,rfl⟩:=hw;rw [e] at hi;simp only [JS,and_self,if_true] at hi;cases hi;exact .inr ⟨id,k',rows,rows,cap,a,e,⟨rows.length,List.take_length.symm⟩,rfl,rfl,rfl,rfl,hn,by grind,by grind⟩
     ·by_cases hw2:lo=0∧n≤rows.length
      ·obtain ⟨rfl,hle⟩:=hw2;rw [e] at hi;simp only [JS,if_true] at hi;rw [if_neg (fun h=>hw ⟨rfl,h.2⟩),if_pos ⟨trivial,hle⟩] at hi;cases hi;have hlen:(rows.take n).length=n:=by grind
       exact .inr ⟨id,k',rows,rows.take n,cap,a,e,⟨n,rfl⟩,rfl,rfl,rfl,by rw [hlen],by omega,by grind,by grind⟩
      grind [JS]
    grind [JS]
   | _=>exact other (by rw [e]; rfl)
 | ref id sub k i j =>
  cases sub with
  | some p=>grind [Bp,aB]
  | none =>
   simp only [Bp] at hi;cases e:h id <;> rw [e] at hi <;> simp only [inP] at hi <;> cases hi;exact .inl ⟨r,.refl _ _ _,rfl,hx,by grind [jm,bf]⟩
 | fn f a b =>
  simp only [Bp] at hi;split at hi
  ·rename_i hd;cases hi;exact .inl ⟨r,.refl _ _ _,rfl,hx,hd⟩
  grind
 | any=>exact dl rfl rfl
 | v x=>exact dl rfl rfl
 | emp=>exact dl rfl rfl
 | sl k rows=>exact dl rfl rfl
 | _=>simp [Bp,aB] at hi
theorem T7 {α:Type} (s:Nat→α) (d:Nat) (x y:α):upd (upd s d x) d y=upd s d y:=by
 grind [upd]
theorem T8 (r:Rel w X ρ h) {id k m:Nat} {rows:List (List AV)} (e:h id=.ar k rows):Rel w X ρ (upd h id (.ar k (rows.take m)))∧Evo w ρ h w ρ (upd h id (.ar k (rows.take m))) []:=by
 have hl:∀ id' s,live (upd h id (.ar k (rows.take m))) id' s→live h id' s:=by
  intro id' s h1;by_cases hi:id'=id
  all_goals simp_all [live,au,cx,aH]
 have ev:Evo w ρ h w ρ (upd h id (.ar k (rows.take m))) []:=by
  refine ⟨rfl,rfl,rfl,Nat.le_refl _,fun _ _ _=>rfl,fun id' s hp hk=>⟨?_,rfl⟩,fun b ho=>?_,fun id' hb=>⟨?_,rfl⟩,fun id' _ hd=>⟨ur (by grind) hd,rfl⟩⟩
  ·by_cases hi:id'=id
   ·subst hi;cases s with
    | none=>simp [bD,au]
    | some q=>obtain ⟨_,_,_,h2,_⟩:=hp; grind
   grind [dJ,aH]
  ·obtain ⟨id',s,h1,h2⟩:=ho;exact .inl ⟨id',s,hl id' s h1,h2⟩
  grind [bf,aH]
 refine ⟨r.step ev (·=id) (fun id' hi=>⟨aH h _ hi,fun _=>rfl,fun _ _=>rfl⟩) (fun a b c d h1 h2=>r.inj a b c d (hl a b h1) (hl c d h2)) (fun a b h1=>r.nx a b (hl a b h1)) (fun id' hi=>?_),ev⟩;subst hi;have ho:=r.ob id';rw [e] at ho;obtain ⟨us,t0,g1,g2,g3,g4⟩:=ho;rw [au];refine ⟨us,t0,g1,g2,Nat.le_trans (Nat.mul_le_mul_right k (by grind)) g3,fun i row hr=>?_⟩;rw [List.getElem?_take] at hr;split at hr
 ·exact (g4.mono fun b hb=>ev.al hb) i row hr
 grind
theorem R2 (r:Rel w X ρ h) {id p:Nat} {cs:List AV} (e:h id=.bx cs) {us:Array Value} {t:TypeId} (hb:w.heap[(ρ id none).1]?=some (.cells us t (0,0))) {x y:AV} {u:Value} {h1:ac} {k1 ks:K}
  (hx:RV w (aD w X h ρ) ρ h x u) (hu:u.oneCell'=true) (hi:Bp h x=some (y,h1,k1)) (hs:E9 h1 id p y k1 (h1 id)=some (h',ks)) :
  ∃ ρ',Rel (w.setRow (ρ id none).1 (cr us p [u])) X ρ' h'∧Evo w ρ h (w.setRow (ρ id none).1 (cr us p [u])) ρ' h' ks∧ρ' id none=ρ id none∧p < us.size∧∃ cs',h' id=.bx cs':=by
 obtain ⟨us0,t0,g1,g2,g3,g4⟩:=r.cell e;rw [hb] at g1;cases g1;rcases T6 r hx hu hi with ⟨f1,f2,f3,f4,f5⟩ | ⟨id0,k,rows0,rows,cap,a,e0,⟨mm,hmm⟩,rfl,rfl,rfl,rfl,f2,f3,f4⟩
 ·cases e1:h1 id with
  | bx cs1 =>
   rw [e1] at hs;simp only [E9] at hs;split at hs
   ·cases hs;obtain ⟨w1,w2⟩:=wrB (vals:=[u]) (xs:=[y]) (p:=p) f1 e1 hb rfl (fun m c v hc hv=>by
     grind) (by grind)
    refine ⟨ρ,w1,?_,rfl,?_,_,au _ _ _⟩
    ·have w3:=f2.trans w2;have h9:List.take 1 (List.drop p cs1)=[cs1[p]]:=by grind [List.drop_eq_getElem_cons]
     have:(List.take [y].length (List.drop p cs1)).any aU=Option.any aU cs1[p]?:=by
      grind
     rw [this] at w3;exact w3
    ·obtain ⟨us2,t2,q1,q2,q3,q4⟩:=f1.cell e1;omega
   grind
  | _=>rw [e1] at hs; cases hs
 ·have hne:id ≠ id0:=by grind
  rw [aH _ _ hne,e] at hs;simp only [E9] at hs;split at hs
  ·rename_i hp;cases hs;subst hmm;obtain ⟨s1,s2⟩:=T8 r e0 (m:=mm);have e':(upd h id0 (.ar k (rows0.take mm))) id=.bx cs:=by grind [aH]
   obtain ⟨w1,w2⟩:=mvB (p:=p) s1 e' hb (au _ _ _) f2 f3 f4 hp;rw [T7] at w1 w2;exact ⟨_,w1,by simpa using s2.trans w2,zo (by simp),by omega,_,au _ _ _⟩
  grind
theorem T9 {ks:K} {xs:List AV} {m:Nat} {c:AV} (hc:(vP ks xs)[m]?=some c):∃ c',xs[m]?=some c'∧(c=c'∧(ks=[]∨P4 ks c'=false)∨c=.any):=by
 cases ks with
 | nil=>exact ⟨c,hc,.inl ⟨rfl,.inl rfl⟩⟩
 | cons k ks =>
  grind [vP,Option.map_eq_some_iff,nD]
theorem Evo.rvk {ks:K} (e:Evo w ρ h w' ρ' h' ks) {c:AV} {u:Value} (hv:RV w (aD w X h ρ) ρ h c u) (hm:ks=[]∨P4 ks c=false):RV w' (aD w' X h' ρ') ρ' h' c u:=by
 rcases hm with rfl | hm
 ·exact e.rv hv
 ·exact hv.keep2 (fun b hb=>e.al hb) (fun id sub hp hk=>e.keep id sub hp hk) hm
theorem Md (ks:K) (xs:List AV):(vP ks xs).length=xs.length:=by cases ks <;> simp [vP]
theorem wH:∀ (n:Nat) (xs:List AV) (vals:List Value) (p:Nat) {w:World} {ρ:bq} {h h':ac} {ks:K} {id:Nat} {cs:List AV} {us:Array Value} {t:TypeId},Rel w X ρ h→h id=.bx cs→w.heap[(ρ id none).1]?=some (.cells us t (0,0)) →
  vals.length=xs.length→(∀ (m:Nat) (c:AV) (u:Value),xs[m]?=some c→vals[m]?=some u→RV w (aD w X h ρ) ρ h c u∧u.oneCell'=true)→p+vals.length≤us.size→mz h id p n xs=some (h',ks) →
  ∃ ρ',Rel (w.setRow (ρ id none).1 (cr us p vals)) X ρ' h'∧Evo w ρ h (w.setRow (ρ id none).1 (cr us p vals)) ρ' h' ks∧ρ' id none=ρ id none∧∃ cs',h' id=.bx cs'
 | _,[],vals,p,w,ρ,h,h',ks,id,cs,us,t,r,e,hb,hlen,_,hle,hs=>by
  simp only [mz,Option.some.injEq,Prod.mk.injEq] at hs;obtain ⟨rfl,rfl⟩:=hs;rw [j3 hle (fun j v hv=>by grind),setRow_self w _ us t (0,0) hb];exact ⟨ρ,r,.refl _ _ _,rfl,cs,e⟩
 | 0,x::xs,_,_,_,_,_,_,_,_,_,_,_,_,_,_,_,_,_,hs=>by grind [mz]
 | n+1,x::xs,[],p,w,ρ,h,h',ks,id,cs,us,t,r,e,hb,hlen,hx,hle,hs=>by grind
 | n+1,x::xs,u::vals,p,w,ρ,h,h',ks,id,cs,us,t,r,e,hb,hlen,hx,hle,hs=>by
  simp only [mz,Option.bind_eq_some_iff] at hs;obtain ⟨⟨y,h1,k1⟩,e1,⟨h2,k2⟩,e2,⟨h3,k3⟩,e3,e4⟩:=hs;cases e4;obtain ⟨f1,f2⟩:=hx 0 x u rfl rfl;obtain ⟨ρ1,g1,g2,g3,g4,cs1,g5⟩:=R2 r e hb f1 f2 e1 e2;have hsz:(cr us p [u]).size=us.size:=cD (by grind);have hb1:(w.setRow (ρ id none).1 (cr us p [u])).heap[(ρ1 id none).1]?=some (.cells (cr us p [u]) t (0,0)):=by grind [setRow_heap]
  obtain ⟨ρ2,q1,q2,q3,q4⟩:=wH n (vP k2 xs) vals (p+1) g1 g5 hb1 (by grind [Md]) (fun m c v hc hv=>by
   obtain ⟨c',p1,p2⟩:=T9 hc;obtain ⟨p3,p4⟩:=hx (m+1) c' v (by grind) (by grind);refine ⟨?_,p4⟩;rcases p2 with ⟨rfl,p2⟩ | rfl
   ·exact g2.rvk p3 p2
   ·exact .anyv v) (by grind) e3
  rw [g3,setRow_setRow,T5 hle] at q1 q2;exact ⟨ρ2,q1,g2.trans q2,q3.trans g3,q4⟩
theorem B5 {k:Nat} {rows:List (List AV)} {us:Array Value} (hr:bU w A k rows us) (hs:rows.length*k≤us.size) {i j:Nat} {row xs:List AV} {vals:List Value} (hi:rows[i]?=some row) (hj:j+xs.length≤row.length)
  (hlen:vals.length=xs.length) (hx:∀ (m:Nat) (c:AV) (u:Value),xs[m]?=some c→vals[m]?=some u→RD w A c u∧aB c=true) :
  bU w A k (rows.set i (setRow row j xs)) (cr us (i*k+j) vals)∧i*k+j+vals.length≤us.size:=by
 have hrow:=(hr i row hi).1;have hil:i < rows.length:=(List.getElem?_eq_some_iff.1 hi).1;have h1:(i+1)*k≤rows.length*k:=Nat.mul_le_mul_right k hil;rw [Nat.add_mul,Nat.one_mul] at h1;have hov:i*k+j+vals.length≤us.size:=by omega
 refine ⟨fun i' row' hi'=>?_,hov⟩;by_cases e:i'=i
 ·subst e;rw [List.getElem?_set_self hil] at hi';cases hi';refine ⟨by grind [uU],fun q c hq=>?_⟩;rw [anL q xs row j hj] at hq;rw [dV hov];split at hq
  ·obtain ⟨u,hu⟩:∃ u,vals[q - j]?=some u:=⟨vals[q - j]'(by omega),List.getElem?_eq_getElem _⟩;grind
  ·rw [if_neg (by omega)];exact (hr i' row hi).2 q c hq
 ·rw [List.getElem?_set_ne (fun x=>e x.symm)] at hi';obtain ⟨h2,h3⟩:=hr i' row' hi';refine ⟨h2,fun q c hq=>?_⟩;rw [dV hov,if_neg]
  ·grind
  ·rcases Nat.lt_or_gt_of_ne e with h5 | h5
   ·have h6:(i'+1)*k≤i*k:=Nat.mul_le_mul_right k h5;grind
   ·have h6:(i+1)*k≤i'*k:=Nat.mul_le_mul_right k h5;grind
theorem wrA (r:Rel w X ρ h) {id k i j:Nat} {rows:List (List AV)} {row xs:List AV} (e:h id=.ar k rows) {us:Array Value} {t:TypeId} (hb:w.heap[(ρ id none).1]?=some (.cells us t (0,0))) {vals:List Value} (hlen:vals.length=xs.length)
  (hx:∀ (m:Nat) (c:AV) (u:Value),xs[m]?=some c→vals[m]?=some u→RD w (aD w X h ρ) c u∧aB c=true) (hi:rows[i]?=some row) (hj:j+xs.length≤row.length) :
  Rel (w.setRow (ρ id none).1 (cr us (i*k+j) vals)) X ρ (upd h id (.ar k (rows.set i (setRow row j xs))))∧Evo w ρ h (w.setRow (ρ id none).1 (cr us (i*k+j) vals)) ρ (upd h id (.ar k (rows.set i (setRow row j xs)))) []∧i*k+j+vals.length≤us.size:=by
 have hln:live h id none:=by grind [live]
 have ho:=r.ob id;rw [e] at ho;obtain ⟨us0,t0,g1,g2,g3,g4⟩:=ho;rw [hb] at g1;cases g1;have hlive:∀ s,live (upd h id (.ar k (rows.set i (setRow row j xs)))) id s→live h id s:=by
  intro s h1;cases s with
  | none=>omega
  | some q=>obtain ⟨_,_,_,h2,_⟩:=h1; grind [au]
 have ev:Evo w ρ h (w.setRow (ρ id none).1 (cr us (i*k+j) vals)) ρ (upd h id (.ar k (rows.set i (setRow row j xs)))) [] :=
  sT (X:=X) r hln _ hlive (fun s hp _=>by
   cases s with
   | none=>simp [bD,au]
   | some q=>obtain ⟨_,_,_,h2,_⟩:=hp; grind) (fun hbf=>by rw [e] at hbf; cases hbf)
 obtain ⟨f1,f2⟩:=B5 (g4.mono fun b hb=>ev.al hb) g3 hi hj hlen (fun m c u hc hu=>⟨ev.rd (hx m c u hc hu).1,(hx m c u hc hu).2⟩);exact ⟨og r hln _ hlive ev ⟨_,t,setRow_heap w _ us _ t _ hb,by grind [cD],by grind [cD,List.length_set],f1⟩,ev,f2⟩
theorem wrS (r:Rel w X ρ h) {id p k i j:Nat} {cs:List AV} {rows:List (List AV)} {row xs:List AV} (e:h id=.bx cs) (ep:cs[p]?=some (.osl k rows)) {us:Array Value} {t:TypeId} (hb:w.heap[(ρ id (some p)).1]?=some (.cells us t (0,0)))
  {vals:List Value} (hlen:vals.length=xs.length) (hx:∀ (m:Nat) (c:AV) (u:Value),xs[m]?=some c→vals[m]?=some u→RD w (aD w X h ρ) c u∧aB c=true) (hi:rows[i]?=some row) (hj:j+xs.length≤row.length) :
  Rel (w.setRow (ρ id (some p)).1 (cr us (i*k+j) vals)) X ρ (upd h id (.bx (cs.set p (.osl k (rows.set i (setRow row j xs))))))∧Evo w ρ h (w.setRow (ρ id (some p)).1 (cr us (i*k+j) vals)) ρ (upd h id (.bx (cs.set p (.osl k (rows.set i (setRow row j xs)))))) [] ∧
   i*k+j+vals.length≤us.size:=by
 have hlp:live h id (some p):=⟨cs,k,rows,e,ep⟩;have hln:live h id none:=by grind [live]
 have hpl:p < cs.length:=(List.getElem?_eq_some_iff.1 ep).1;obtain ⟨us0,t0,g1,g2,g3,g4⟩:=r.cell e;obtain ⟨u0,q1,a,cap,us1,t1,rfl,q2,q3,q4,q5,q6,q7⟩:=g4 p _ ep;rw [hb] at q4;cases q4;have hlive:∀ s,live (upd h id (.bx (cs.set p (.osl k (rows.set i (setRow row j xs)))))) id s→live h id s:=by
  intro s h1;cases s with
  | none=>omega
  | some q =>
   by_cases hq:q=p
   ·grind
   ·obtain ⟨cs',k',rows',h2,h3⟩:=h1;rw [au] at h2;cases h2;rw [List.getElem?_set_ne (fun e=>hq e.symm)] at h3;exact ⟨cs,k',rows',e,h3⟩
 have ev:Evo w ρ h (w.setRow (ρ id (some p)).1 (cr us (i*k+j) vals)) ρ (upd h id (.bx (cs.set p (.osl k (rows.set i (setRow row j xs)))))) [] :=
  sT (X:=X) r hlp _ hlive (fun s hp _=>by
   cases s with
   | none=>simp [bD,au]
   | some q =>
    by_cases hq:q=p
    ·subst hq; exact ⟨_,k,_,au _ _ _,List.getElem?_set_self hpl⟩
    ·obtain ⟨cs',k',rows',h2,h3⟩:=hp;exact ⟨_,k',rows',au _ _ _,by grind⟩) (fun _=>rfl)
 obtain ⟨f1,f2⟩:=B5 (q7.mono fun b hb=>ev.al hb) (Nat.le_trans (Nat.mul_le_mul_right k q3) (Nat.le_of_eq q6)) hi hj hlen (fun m c u hc hu=>⟨ev.rd (hx m c u hc hu).1,(hx m c u hc hu).2⟩);refine ⟨og r hlp _ hlive ev ?_,ev,f2⟩;have oth:∀ s,live h id s→s ≠ some p→(w.setRow (ρ id (some p)).1 (cr us (i*k+j) vals)).heap[(ρ id s).1]?=w.heap[(ρ id s).1]?:=fun s h1 h2=>setRow_other w _ _ _ fun e2=>h2 (r.inj id s id (some p) h1 hlp e2).2;refine ⟨us0,t0,by grind,g2,by grind,fun q c hq=>?_⟩;by_cases hqp:q=p
 ·subst hqp;rw [List.getElem?_set_self hpl] at hq;cases hq;exact ⟨_,q1,a,cap,_,t,by rw [List.length_set],q2,by grind,setRow_heap w _ us _ t _ hb,by grind [cD],by grind [cD],f1⟩
 ·rw [List.getElem?_set_ne (fun e=>hqp e.symm)] at hq;obtain ⟨u,f3,f4⟩:=g4 q c hq;refine ⟨u,f3,f4.keep (fun b hb=>ev.al hb) ev.boxes rfl (fun hO=>?_)⟩;cases c <;> simp [aU] at hO;exact oth (some q) ⟨cs,_,_,e,hq⟩ (by grind)
end
section
variable {P:Program} {w w':World} {X:Nat→Prop} {ρ ρ':bq} {h h':ac} {A A':Nat→Prop}
theorem Cells.toList {cs:List AV} {us:Array Value} (hc:Cells w A ρ h cs us):us.toList.length=cs.length∧(∀ u ∈ us.toList,u.oneCell'=true) ∧
  ∀ (m:Nat) (c:AV) (u:Value),cs[m]?=some c→us.toList[m]?=some u→RV w A ρ h c u∧u.oneCell'=true:=by
 refine ⟨by simpa using hc.1,fun u hu=>?_,fun m c u h1 h2=>?_⟩
 ·obtain ⟨i,hi⟩:=List.getElem?_of_mem hu;exact hc.2.1 i u (by grind)
 ·exact ⟨hc.2.2 m c u h1 (by grind),hc.2.1 m u (by grind)⟩
theorem Ax {A0:Nat→Prop} {h0:ac} {cs ds:List AV} {us:Array Value} {ks:K} (r:Rel w X ρ h) (hA:∀ b,A0 b→aD w X h ρ b) (hc:Cells w A0 ρ h0 cs us) (he:fI h cs=some (ds,h',ks)) :
  Rel w X ρ h'∧Evo w ρ h w ρ h' ks∧ds.length=cs.length∧∀ (m:Nat) (c:AV) (u:Value),ds[m]?=some c→us.toList[m]?=some u→RD w (aD w X h' ρ) c u∧aB c=true:=by
 obtain ⟨f1,f2,f3,f4,f5⟩:=yI cs (us:=us) 0 r hA (fun i c u h1 h2=>⟨hc.2.2 i c u h1 (by grind),hc.2.1 i u (by grind)⟩) (by rw [hc.1]; omega) he;grind
theorem JY {k k0 i j k':Nat} {xs:List AV} {rows q:List (List AV)} (hs:nc k k0 i j xs k' rows=some q):k'=k0∧∃ row,rows[i]?=some row∧j+k≤row.length∧q=rows.set i (setRow row j xs):=by
 grind [nc,Option.bind_eq_some_iff]
theorem Me (r:Rel w X ρ h) {ty:TypeId} {k:Nat} (hk:bj P ty=some k) {a x z:AV} {ua ux:Value} {ks:K} (ha:RV w (aD w X h ρ) ρ h a ua) (hx:RV w (aD w X h ρ) ρ h x ux) (hz:iF h k a x=some (z,h',ks)) :
  ∃ ad w' ρ',z=.und∧ua=.pointer (some ad)∧(storeVar ty ad ux).run P w=.ok () w'∧Rel w' X ρ' h'∧Evo w ρ h w' ρ' h' ks:=by
 simp only [iF,Option.bind_eq_some_iff] at hz;obtain ⟨xs,e0,hz⟩:=hz;have hc:=tY hx e0;obtain ⟨c1,c2,c3⟩:=hc.toList;split at hz
 ·rename_i hlen;subst hlen;have hsz:ux.cells.size=xs.length:=hc.1;cases a with
  | ref id sub k0 i j =>
   obtain ⟨rfl,hp⟩:=ha.ref_inv;cases sub with
   | none =>
    simp only at hz;cases e:h id with
    | bx cs =>
     rw [e] at hz;simp only [yG,H3] at hz;split at hz
     ·rename_i hle;obtain ⟨us,t,g1,g2,g3,g4⟩:=r.cell e;have run:=pM hk hsz c2 g1 (o:=i*k0+j) (by omega);split at hz
      ·obtain ⟨f1,f2⟩:=wrB r e g1 c1 (fun m c u h1 h2=>by
        grind [Ie,rB]) hle
       grind
      ·simp only [Option.map_eq_some_iff,Prod.mk.injEq] at hz;obtain ⟨⟨h2,k2⟩,e2,hzu,rfl,rfl⟩:=hz;obtain ⟨ρ',f1,f2,_⟩:=wH xs.length xs ux.cells.toList (i*k0+j) r e g1 c1 c3 (by omega) e2;grind
     grind
    | ar k' rows =>
     rw [e] at hz;simp only [yG,Option.bind_eq_some_iff] at hz;obtain ⟨⟨ds,h1,k1⟩,e1,hz⟩:=hz;obtain ⟨f1,f2,f3,f4⟩:=Ax r (fun _ hb=>hb) hc e1;simp only at hz;cases e2:h1 id <;> rw [e2] at hz <;> simp only [H4] at hz <;> try (cases hz; done)
     rename_i k2 rows2;simp only [Option.map_eq_some_iff,Prod.mk.injEq] at hz;obtain ⟨q,e3,hzu,rfl,rfl⟩:=hz;obtain ⟨rfl,row,g1,g2,rfl⟩:=JY e3;have ho:=f1.ob id;rw [e2] at ho;obtain ⟨us,t,q1,q2,q3,q4⟩:=ho;obtain ⟨w1,w2,w3⟩:=wrA f1 e2 q1 (by omega) f4 g1 (by rw [f3]; omega);have run:=pM hk hsz c2 q1 (o:=i*k2+j) (by omega);exact ⟨_,_,ρ,hzu.symm,rfl,run,w1,by simpa using f2.trans w2⟩
    | _=>rw [e] at hz; cases hz
   | some p =>
    simp only [Option.bind_eq_some_iff] at hz;obtain ⟨⟨ds,h1,k1⟩,e1,hz⟩:=hz;obtain ⟨f1,f2,f3,f4⟩:=Ax r (fun _ hb=>hb) hc e1;simp only at hz;cases e2:h1 id <;> rw [e2] at hz <;> simp only [An] at hz <;> try (cases hz; done)
    rename_i cs;cases e3:cs[p]? with
    | none=>rw [e3] at hz; cases hz
    | some c =>
     rw [e3] at hz;cases c <;> simp only [RA] at hz <;> try (cases hz; done)
     rename_i k2 rows2;simp only [Option.map_eq_some_iff,Prod.mk.injEq] at hz;obtain ⟨q,e4,hzu,rfl,rfl⟩:=hz;obtain ⟨rfl,row,g1,g2,rfl⟩:=JY e4;obtain ⟨us,t,q1,q2⟩:=f1.live_heap (id:=id) (sub:=some p) ⟨cs,k2,rows2,e2,e3⟩;obtain ⟨w1,w2,w3⟩:=wrS f1 e2 e3 q1 (by omega) f4 g1 (by rw [f3]; omega);have run:=pM hk hsz c2 q1 (o:=i*k2+j) (by omega);exact ⟨_,_,ρ,hzu.symm,rfl,run,w1,by simpa using f2.trans w2⟩
  | _=>cases hz
 grind
theorem Ua {h2:ac} {d:Nat} {b:Nat × Nat} {w2:World} (hd:h2 d ≠ .dead) (hρ:ρ d none=b):RV w2 (aD w2 X h2 ρ) ρ h2 (.ref d none 0 0 0) (.pointer (some ⟨b.1,0,none⟩)):=by
 have:=RV.ref (w:=w2) (A:=aD w2 X h2 ρ) (ρ:=ρ) (h:=h2) d none 0 0 0 hd;grind
theorem Ub {h2:ac} {d k n cap:Nat} {b:Nat × Nat} {w2:World} (hd:h2 d ≠ .dead) (hρ:ρ d none=b) (hn:n≤cap) (hb:cap*k=b.2):RV w2 (aD w2 X h2 ρ) ρ h2 (.rsl d none k 0 n) (.slice (some ⟨b.1,0,none⟩) n cap) :=
 .rsl d none k 0 n cap _ hd hn (by grind) (.inr (by grind))
theorem R4 {t:TypeId} {k:Nat} (r:Rel w X ρ h) {d:Nat} (hdp:aR d=false) {x z:AV} {u:Value} {ks:K} (hx:RV w (aD w X h ρ) ρ h x u) (hn:wC h d k x=some (z,h',ks)) :
  ∃ v w',(Instr.box t u).run P w=.ok v w'∧Got w X ρ h w' h' ks z v:=by
 simp only [wC,Option.bind_eq_some_iff] at hn;obtain ⟨xs,e0,hn⟩:=hn;have hc:=tY hx e0;obtain ⟨c1,c2,c3⟩:=hc.toList;split at hn
 ·refine ⟨.pointer (some ⟨w.heap.size,0,none⟩),w.alloc (.cells u.cells t),by simp [Instr.box,newVar,newRow],?_⟩;split at hn
  ·rename_i hd;obtain ⟨h1,rfl,rfl,rfl⟩:=jn hn;obtain ⟨g6,g7⟩:=ut (e:=t) r hdp h1 (JX hc hd);exact ⟨_,g6,g7,Ua (by grind [au]) (bk _ _ _ _)⟩
  ·simp only [Option.bind_eq_some_iff] at hn;obtain ⟨⟨z1,h1,k1⟩,e1,hn⟩:=hn;obtain ⟨hd,rfl,rfl,rfl⟩:=jn e1;simp only [Fa,Option.map_eq_some_iff,Prod.mk.injEq] at hn;obtain ⟨⟨h2,k2⟩,e2,rfl,rfl,rfl⟩:=hn;have hok:RZ w (aD w X h ρ) ρ h u.cells (.bx (List.replicate k .any)):=by
    refine ⟨by grind,fun p c hp=>?_⟩;obtain ⟨hp1,hp2⟩:=List.getElem?_eq_some_iff.1 hp;simp only [List.length_replicate] at hp1;rw [List.getElem_replicate] at hp2;subst hp2;have hsz:u.cells.size=xs.length:=hc.1;obtain ⟨v,hv⟩:∃ v,u.cells[p]?=some v:=⟨u.cells[p]'(by omega),Array.getElem?_eq_getElem _⟩;exact ⟨rfl,v,hv,.anyv v,hc.2.1 p v hv,trivial⟩
   obtain ⟨g6,g7⟩:=ut (e:=t) r hdp hd hok;have hb1:(w.alloc (.cells u.cells t)).heap[(iT ρ d none (w.heap.size,u.cells.size) d none).1]?=some (.cells u.cells t (0,0)):=by grind [bk,rC]
   obtain ⟨ρ',q1,q2,q3,cs',q4⟩:=wH xs.length xs u.cells.toList 0 g6 (au _ _ _) hb1 c1 (fun m c v h1 h2=>⟨g7.rv (c3 m c v h1 h2).1,(c3 m c v h1 h2).2⟩) (by simp) e2;rw [j3 (by simp) (fun j v hv=>by simpa using hv),setRow_self _ _ _ t (0,0) hb1] at q1 q2;exact ⟨ρ',q1,g7.trans q2,Ua (b:=(w.heap.size,u.cells.size)) (by grind) (by rw [q3,bk])⟩
 grind
theorem Uc (off:Nat) (vs us:Array Value) (hle:off+vs.size≤us.size):vs.zipIdx.foldl (fun cs (c,j)=>cs.setIfInBounds (off+j) c) us=cr us off vs.toList:=by
 have fold:∀ (l:List Value) (k:Nat) (us:Array Value),((l.zipIdx k).foldl (fun cs (x:Value × Nat)=>cs.setIfInBounds (off+x.2) x.1) us).size=us.size ∧
   ∀ (i:Nat),off+k+l.length≤us.size→((l.zipIdx k).foldl (fun cs (x:Value × Nat)=>cs.setIfInBounds (off+x.2) x.1) us)[i]?=if off+k≤i∧i < off+k+l.length then l[i - (off+k)]? else us[i]?:=by
  intro l;induction l with
  | nil=>intro k us; exact ⟨by simp,fun i _=>by simp; omega⟩
  | cons v l ih =>
   simp only [List.zipIdx_cons,List.foldl_cons];grind
 have e:vs.zipIdx.foldl (fun cs (c,j)=>cs.setIfInBounds (off+j) c) us=(vs.toList.zipIdx 0).foldl (fun cs (x:Value × Nat)=>cs.setIfInBounds (off+x.2) x.1) us:=by
  rw [← Array.foldl_toList,Array.toList_zipIdx]
 apply Array.ext_getElem?;grind [dV]
theorem R5 {row xs:List AV} (hl:xs.length=row.length):setRow row 0 xs=xs:=by
 apply List.ext_getElem?;grind [anL]
theorem ank {k:Nat} {A0:Nat→Prop} {h0:ac}:∀ (ps:List (Nat × AV)) (vs:List (Nat × Value)) {h h':ac} {rows rows':List (List AV)} {us:Array Value} {ks:K},Rel w X ρ h→(∀ b,A0 b→aD w X h ρ b)→vs.length=ps.length →
  (∀ (m:Nat) (p:Nat × AV) (v:Nat × Value),ps[m]?=some p→vs[m]?=some v→v.1=p.1∧RV w A0 ρ h0 p.2 v.2)→bU w (aD w X h ρ) k rows us→rows.length*k≤us.size→eF k h rows ps=some (rows',h',ks) →
  ∃ us',Instr.fill (fun i=>some (i*k,k)) us vs=some us'∧us'.size=us.size∧rows'.length=rows.length∧bU w (aD w X h' ρ) k rows' us'∧Rel w X ρ h'∧Evo w ρ h w ρ h' ks
 | [],vs,h,h',rows,rows',us,ks,r,hA,hl,hv,hr,hs,hp=>by
  have:vs=[]:=List.eq_nil_of_length_eq_zero (by omega);subst this;obtain ⟨rfl,rfl,rfl⟩:=hp;exact ⟨us,rfl,rfl,rfl,hr,r,.refl _ _ _⟩
 | p::ps,[],h,h',rows,rows',us,ks,r,hA,hl,hv,hr,hs,hp=>by grind
 | (i,a)::ps,(i',v)::vs,h,h',rows,rows',us,ks,r,hA,hl,hv,hr,hs,hp=>by
  simp only [eF,Option.bind_eq_some_iff] at hp;obtain ⟨cs,e0,hp⟩:=hp;obtain ⟨hv1,hv2⟩:=hv 0 (i,a) (i',v) rfl rfl;subst hv1;have hc:=tY hv2 e0;split at hp
  ·rename_i hcond;obtain ⟨hck,hi⟩:=hcond;simp only [Option.bind_eq_some_iff] at hp;obtain ⟨⟨ds,h1,k1⟩,e1,⟨rows2,h2,k2⟩,e2,e3⟩:=hp;cases e3;obtain ⟨f1,f2,f3,f4⟩:=Ax r hA hc e1;obtain ⟨row,hrow⟩:∃ row,rows[i']?=some row:=⟨rows[i'],List.getElem?_eq_getElem hi⟩;have hrl:=(hr i' row hrow).1;have hcs:v.cells.toList.length=ds.length:=by rw [f3]; simpa using hc.1
   obtain ⟨g1,g2⟩:=B5 (hr.mono (w':=w) fun b hb=>f2.al hb) hs hrow (j:=0) (xs:=ds) (vals:=v.cells.toList) (by omega) hcs f4;rw [R5 (by omega),Nat.add_zero] at g1;rw [Nat.add_zero] at g2;obtain ⟨us',q1,q2,q3,q4,q5,q6⟩:=ank ps vs (us:=cr us (i'*k) v.cells.toList) f1 (fun b hb=>(f2.al (hA b hb)).1) (by grind) (fun m p q h1 h2=>hv (m+1) p q (by grind) (by grind)) g1
    (by grind [cD,List.length_set]) e2
   refine ⟨us',?_,by rw [q2,cD g2],by rw [q3,List.length_set],q4,q5,f2.trans q6⟩;simp only [Instr.fill];have hle:i'*k+v.cells.size≤us.size:=by omega
   rw [if_neg (by grind),Uc (i'*k) v.cells us hle];omega
  grind
end
section
variable {P:Program} {w w':World} {X:Nat→Prop} {ρ ρ':bq} {h h':ac} {A A':Nat→Prop}
theorem j5 {t e:TypeId} (he:qu P t=some e):P.underlying t=some (.slice e):=by
 grind [qu]
theorem uu {e:TypeId} {k:Nat} {zs:List AV} (hk:bj P e=some k) (hz:iS P e=some zs) (n c:Nat) (hn:n≤c):∃ zv:Value,(∀ w,(zeroValue e).run P w=.ok zv w) ∧
  ((Array.range (c*k)).map (zv.cells[· % zv.cells.size]!)).size=c*k∧(List.replicate n zs).length*k≤((Array.range (c*k)).map (zv.cells[· % zv.cells.size]!)).size∧bU w A k (List.replicate n zs) ((Array.range (c*k)).map (zv.cells[· % zv.cells.size]!)):=by
 obtain ⟨i,z,g1,g2,g3,g4,g5⟩:=jZ (w:=w) (A:=A) (ρ:=fun _ _=>(0,0)) (h:=fun _=>.dead) hz;have hik:i.size=k:=by grind [bj]
 refine ⟨z,Gp g1 g2,by simp,?_,fun q row hq=>?_⟩
 ·simp_all [List.length_replicate,Array.size_map,Array.size_range,Nat.mul_le_mul_right]
 ·obtain ⟨h1,h2⟩:=List.getElem?_eq_some_iff.1 hq;simp only [List.length_replicate] at h1;rw [List.getElem_replicate] at h2;subst h2;refine ⟨by omega,fun j c2 hj=>?_⟩;have hjl:=(List.getElem?_eq_some_iff.1 hj).1;have hzl:j < z.cells.size:=by omega
  have hlt:q*k+j < c*k:=by
   have:(q+1)*k≤c*k:=Nat.mul_le_mul_right k (by omega);grind
  have hd:aB c2=true:=List.all_eq_true.1 (Mc hz) c2 (List.mem_of_getElem? hj);refine ⟨z.cells[j],?_,(g5.2.2 j c2 _ hj (Array.getElem?_eq_getElem hzl)).toD hd (g5.2.1 j _ (Array.getElem?_eq_getElem hzl)),hd⟩;grind [Nat.mul_comm,Nat.mul_add_mod,Nat.mod_eq_of_lt]
theorem mE (r:Rel w X ρ h) {d k n cap:Nat} (hdp:aR d=false) {rows:List (List AV)} {us:Array Value} {t:TypeId} {x:AV} {ks ks':K} (hr:bU w (aD w X h ρ) k rows us) (hs:rows.length*k≤us.size) (hn:n≤cap) (hc:cap*k=us.size)
  (hz:cY h d k rows n ks=some (x,h',ks')):ks'=ks∧∃ ρ',Rel (w.alloc (.cells us t)) X ρ' h'∧Evo w ρ h (w.alloc (.cells us t)) ρ' h' []∧RV (w.alloc (.cells us t)) (aD (w.alloc (.cells us t)) X h' ρ') ρ' h' x (.slice (some ⟨w.heap.size,0,none⟩) n cap):=by
 obtain ⟨hd,rfl,rfl,rfl⟩:=jn hz;obtain ⟨g1,g2⟩:=ut (e:=t) r hdp hd (us:=us) (o:=.ar k rows) ⟨hs,hr⟩;exact ⟨rfl,_,g1,g2,Ub (b:=(w.heap.size,us.size)) (by grind [au]) (bk _ _ _ _) hn hc⟩
theorem KL (r:Rel w X ρ h) {t e:TypeId} {k n d:Nat} (hdp:aR d=false) {zs:List AV} {ps:List (Nat × AV)} {vs:Array (Nat × Value)} {z:AV} {ks:K} (he:qu P t=some e) (hk:bj P e=some k) (hz:iS P e=some zs) (hn:n*k≤16777216)
  (hl:vs.size=ps.length) (hv:∀ (m:Nat) (p:Nat × AV) (v:Nat × Value),ps[m]?=some p→vs[m]?=some v→v.1=p.1∧RV w (aD w X h ρ) ρ h p.2 v.2)
  (hr:((eF k h (List.replicate n zs) ps).bind fun q=>cY q.2.1 d k q.1 n q.2.2)=some (z,h',ks)):∃ v w',(Instr.buildSlice t n vs).run P w=.ok v w'∧Got w X ρ h w' h' ks z v:=by
 simp only [Option.bind_eq_some_iff] at hr;obtain ⟨⟨rows,h1,k1⟩,e1,e2⟩:=hr;obtain ⟨zv,z1,z2,z3,z4⟩:=uu (w:=w) (A:=aD w X h ρ) hk hz n n (Nat.le_refl n);obtain ⟨us',f1,f2,f3,f4,f5,f6⟩:=ank ps vs.toList r (fun _ hb=>hb) (by omega) (fun m p v h1 h2=>hv m p v h1 (by grind)) z4 z3 e1;obtain ⟨rfl,ρ',g1,g2,g3⟩:=mE (t:=e) (cap:=n) f5 hdp f4 (by grind) (Nat.le_refl n) (by rw [f2,z2]) e2;refine ⟨.slice (some ⟨w.heap.size,0,none⟩) n n,w.alloc (.cells us' e),?_,ρ',g1,by simpa using f6.trans g2,g3⟩;have hnk:¬ (n*k > 2 ^ 24):=by omega
 have harr:(Array.range (n*k)).map ((if n*k=0 then #[] else zv.cells)[· % (if n*k=0 then #[] else zv.cells).size]!)=(Array.range (n*k)).map (zv.cells[· % zv.cells.size]!):=by
  grind
 simp only [Instr.buildSlice,Sem.run_bind,run_underlying (j5 he),Result.andThen,eG hk,if_neg hnk];by_cases h9:n*k=0
 ·rw [if_pos h9] at harr ⊢;simp only [Sem.run_bind,Sem.run_pure,Result.andThen];rw [harr,f1];simp [newRow]
 simp_all [if_neg,Sem.run_bind,Sem.run_pure,Result.andThen,newRow]
theorem R6 (r:Rel w X ρ h) {t e:TypeId} {k b d:Nat} (hdp:aR d=false) {zs:List AV} {l c z:AV} {ul uc:Value} {ks:K} (he:qu P t=some e) (hk:bj P e=some k) (hb:mB P e=some b) (hz:iS P e=some zs)
  (hl:RV w (aD w X h ρ) ρ h l ul) (hc:RV w (aD w X h ρ) ρ h c uc)
  (hr:((oW l c).bind fun p=>if p.2*b≤140737488355328 then cY h d k (List.replicate p.1 zs) p.1 [] else none)=some (z,h',ks)):∃ v w',(Instr.makeSlice t ul uc).run P w=.ok v w'∧Got w X ρ h w' h' ks z v:=by
 simp only [Option.bind_eq_some_iff] at hr;obtain ⟨⟨ln,cn⟩,e1,e2⟩:=hr;split at e2
 ·unfold oW at e1;split at e1
  ·rename_i li ci;obtain ⟨rfl,_⟩:=hl.v_inv;obtain ⟨rfl,_⟩:=hc.v_inv;split at e1
   ·obtain ⟨rfl,rfl⟩:=e1;obtain ⟨zv,z1,z2,z3,z4⟩:=uu (w:=w) (A:=aD w X h ρ) hk hz li.toNat ci.toNat (by omega);obtain ⟨rfl,ρ',g1,g2,g3⟩:=mE (t:=e) (cap:=ci.toNat) r hdp z4 z3 (by omega) (by rw [z2]) e2;refine ⟨_,w.alloc (.cells ((Array.range (ci.toNat*k)).map (zv.cells[· % zv.cells.size]!)) e),?_,ρ',g1,g2,g3⟩;obtain ⟨i,hi,hib⟩:∃ i,P.info? e=some i∧i.bytes=b:=by simp_all [mB]
    have harr:(Array.range (ci.toNat*k)).map ((if ci.toNat*k=0 then #[] else zv.cells)[· % (if ci.toNat*k=0 then #[] else zv.cells).size]!)=(Array.range (ci.toNat*k)).map (zv.cells[· % zv.cells.size]!):=by
     grind
    have hwl:IntKind.i64.wrap li=li:=by grind [IntKind.wrap,IntKind.signed,IntKind.bits]
    have hwc:IntKind.i64.wrap ci=ci:=by grind [IntKind.wrap,IntKind.signed,IntKind.bits]
    have hti:(typeInfo e).run P w=.ok i w:=by simp [typeInfo,hi]
    have hli:∀ n,(asInt (.int .i64 n)).run P w=.ok n w:=fun _=>rfl;simp only [Instr.makeSlice,Sem.run_bind,run_underlying (j5 he),Result.andThen,hli,hti,hib,hwl,hwc];rw [if_neg (by grind)];simp only [Sem.run_bind,run_askRoom,Result.andThen,eG hk];by_cases h9:ci.toNat*k=0
    ·rw [if_pos h9] at harr ⊢;simp only [Sem.run_bind,Sem.run_pure,Result.andThen];rw [harr];simp [newRow]
    simp_all [if_neg,Sem.run_bind,Sem.run_pure,Result.andThen,newRow]
   grind
  grind
 grind
end
section
variable {P:Program} {w w':World} {X:Nat→Prop} {ρ ρ':bq} {h h':ac} {A A':Nat→Prop}
theorem vU (r:Rel w X ρ h):Rel w.drew X ρ h∧Evo w ρ h w.drew ρ h []:=by
 have ev:Evo w ρ h w.drew ρ h []:=⟨rfl,rfl,rfl,Nat.le_refl _,fun _ _ _=>rfl,fun _ _ hp _=>⟨hp,rfl⟩,fun _ ho=>.inl ho,fun _ hb=>⟨hb,rfl⟩,fun _ _ hd=>⟨hd,rfl⟩⟩;exact ⟨r.step ev (fun _=>False) (fun _ _=>⟨rfl,fun _=>rfl,fun _ _=>rfl⟩) r.inj r.nx (fun _ hf=>hf.elim),ev⟩
theorem Gq {k:Nat} {rows:List (List AV)} {ad:Addr} (hk:∀ row ∈ rows,row.length=k) (h0:0 < k)
  (hc:∀ (i:Nat) (row:List AV) (j:Nat) (c:AV),rows[i]?=some row→row[j]?=some c→∃ u,w.cell? (ad.add (i*k+j))=some u∧RD w A c u∧aB c=true) :
  ∃ news:List Value,news.length=rows.length*k∧(∀ (q:Nat) (v:Value),news[q]?=some v→w.cell? (ad.add q)=some v)∧bU w A k rows news.toArray:=by
 have all:∀ q,q < rows.length*k→∃ row c,rows[q / k]?=some row∧row[q % k]?=some c:=by
  simp_all [Nat.div_lt_of_lt_mul,Nat.mul_comm,Nat.mod_lt,List.getElem_mem]
 refine ⟨(List.range (rows.length*k)).map fun q=>(w.cell? (ad.add q)).getD undef,by simp,fun q v hq=>?_,fun i row hi=>⟨hk row (List.mem_of_getElem? hi),fun j c hj=>?_⟩⟩
 ·grind [Nat.mul_comm,Nat.div_add_mod]
 ·have hil:=(List.getElem?_eq_some_iff.1 hi).1;have hlt:i*k+j < rows.length*k:=by
   have:(i+1)*k≤rows.length*k:=Nat.mul_le_mul_right k hil;grind
  grind
theorem fW (size:Nat) (a:Option Addr) (l c:Nat) (w:World):(Builtin.firstCells size 0 (.slice a l c)).run P w=.ok #[] w:=by
 cases a with
 | none=>simp [Builtin.firstCells]
 | some b=>grind [run_firstCells_some]
theorem qG {b o k n l cap:Nat} {us:Array Value} {t:TypeId} {fr:Nat × Nat} {rows:List (List AV)} (hb:w.heap[b]?=some (.cells us t fr)) (hr:bU w A k rows us) (hle:o+n≤rows.length) (h0:0 < k) :
  ∃ news:List Value,news.length=n*k∧(∀ w2:World,w2.heap=w.heap→(Builtin.firstCells k n (.slice (some ⟨b,o*k,none⟩) l cap)).run P w2=.ok news.toArray w2)∧bU w A k ((rows.drop o).take n) news.toArray:=by
 have at_:∀ (i:Nat) (row:List AV),((rows.drop o).take n)[i]?=some row→rows[o+i]?=some row:=by
  grind
 obtain ⟨news,h1,h2,h3⟩:=Gq (w:=w) (A:=A) (k:=k) (rows:=(rows.drop o).take n) (ad:=⟨b,o*k,none⟩) (fun row hrow=>by
  obtain ⟨i,hi⟩:=List.getElem?_of_mem hrow;exact (hr _ _ (at_ i row hi)).1) h0 (fun i row j c hi hj=>by
  obtain ⟨u,f1,f2,f3⟩:=(hr _ _ (at_ i row hi)).2 j c hj;grind [jX,ws,Nat.add_assoc,Nat.add_mul])
 grind [run_firstCells_some,jY]
theorem Ep (r:Rel w X ρ h) {k:Nat} {y:AV} {uy:Value} {ys:List (List AV)} (h0:0 < k) (hy:RV w (aD w X h ρ) ρ h y uy) (hr:oZ h k y=some ys) :
  ∃ a c,uy=.slice a ys.length c∧∃ news:List Value,news.length=ys.length*k∧(∀ w2:World,w2.heap=w.heap→(Builtin.firstCells k ys.length uy).run P w2=.ok news.toArray w2)∧bU w (aD w X h ρ) k ys news.toArray:=by
 cases y with
 | emp =>
  cases hr;obtain ⟨a,rfl⟩:=hy.emp_inv;exact ⟨a,0,rfl,[],by simp,fun _ _=>fW _ _ _ _ _,fun i row hi=>by grind⟩
 | sl k' rows =>
  simp only [oZ] at hr;split at hr
  ·rename_i hk;subst hk;cases hr;have hd:=hy.sl_inv;cases hd with
   | sl _ _ a cap ad vals hc ha hk hv hl hrr =>
    obtain ⟨news,h1,h2,h3⟩:=Gq (w:=w) (A:=aD w X h ρ) (k:=k') (rows:=ys) (ad:=ad) hk h0 (fun i row j c hi hj=>⟨vals i j,hv i row j c hi hj,hrr i row j c hi hj,hl row (List.mem_of_getElem? hi) c (List.mem_of_getElem? hj)⟩);by_cases hne:ys=[]
    ·simp_all [List.eq_nil_of_length_eq_zero,fW]
    grind [run_firstCells_some,jY]
  grind
 | rsl id sub k' lo n =>
  simp only [oZ] at hr;split at hr
  ·rename_i hk;subst hk;obtain ⟨a,cap,rfl,hp,hn,hb,ha⟩:=hy.rsl_inv;have key:∀ (rows:List (List AV)) (us:Array Value) (t:TypeId) (fr:Nat × Nat),w.heap[(ρ id sub).1]?=some (.cells us t fr)→bU w (aD w X h ρ) k' rows us→lo+n≤rows.length→ys=(rows.drop lo).take n →
     ∃ a' c,Value.slice a n cap=.slice a' ys.length c∧∃ news:List Value,news.length=ys.length*k'∧(∀ w2:World,w2.heap=w.heap→(Builtin.firstCells k' ys.length (.slice a n cap)).run P w2=.ok news.toArray w2)∧bU w (aD w X h ρ) k' ys news.toArray:=by
    intro rows us t fr g1 g2 g3 g4;have hlen:ys.length=n:=by grind
    refine ⟨a,cap,by rw [hlen],?_⟩;rw [hlen];by_cases hn0:n=0
    ·subst hn0;have:ys=[]:=List.eq_nil_of_length_eq_zero hlen;exact ⟨[],by simp,fun _ _=>fW _ _ _ _ _,fun i row hi=>by grind⟩
    ·rcases ha with h9 | rfl
     ·omega
     ·obtain ⟨news,f1,f2,f3⟩:=qG (P:=P) (l:=n) (cap:=cap) g1 g2 g3 h0;grind
   have cut:∀ {q:Option (Nat × List (List AV))},gj k' lo n q=some ys→∃ rows,q=some (k',rows)∧lo+n≤rows.length∧ys=(rows.drop lo).take n:=by
    intro q hq;cases q with
    | none=>cases hq
    | some p =>
     grind [gj]
   obtain ⟨rows,e1,e2,e3⟩:=cut hr;have ho:=r.ob id;cases sub with
   | none =>
    simp only [uk] at e1;cases e:h id with
    | ar k2 rows2 =>
     rw [e] at e1 ho;obtain ⟨rfl,rfl⟩:=e1;obtain ⟨us,t,g1,g2,g3,g4⟩:=ho;grind
    | fz k2 rows2 =>
     rw [e] at e1 ho;obtain ⟨rfl,rfl⟩:=e1;obtain ⟨_,us,t,fr,g1,g2,g3,g4⟩:=ho;grind
    | _=>rw [e] at e1; cases e1
   | some p =>
    simp only [uk] at e1;cases e:h id with
    | bx cs =>
     rw [e] at e1;simp only [jc] at e1;cases ec:cs[p]? with
     | none=>rw [ec] at e1; cases e1
     | some c =>
      rw [ec] at e1;cases c <;> simp only [sP] at e1 <;> try (cases e1; done)
      obtain ⟨us,t,g1,g2,g3,g4⟩:=r.cell e;obtain ⟨u,_,a',cap',us',t',_,_,_,q4,q5,q6,q7⟩:=g4 p _ ec;grind
    | _=>rw [e] at e1; cases e1
  grind
 | _=>cases hr
theorem wI {t u ty e e':TypeId} {k:Nat} (ht:P.underlying t=some (.slice e)) (hu:P.underlying u=some (.slice e')) (hk:bj P e=some k) {base ay:Option Addr} {n cap m cy:Nat} {news:List Value}
  (hnew:(Builtin.firstCells k m (.slice ay m cy)).run P w=.ok news.toArray w) (hroom:n+m≤cap) (hst:∀ a,base=some a→(storeCells (a.add (n*k)) news).run P w=.ok () w') (hno:base=none→w'=w) :
  (Builtin.append_ #[t,u] ty #[.slice base n cap,.slice ay m cy]).run P w=.ok (.slice base (n+m) cap) w':=by
 cases base with
 | none =>
  obtain rfl:=hno rfl;simp [Builtin.append_,run_underlying ht,run_underlying hu,eG hk,Builtin.lenOf,hroom,hnew]
 | some a =>
  have:=hst a rfl;simp [Builtin.append_,run_underlying ht,run_underlying hu,eG hk,Builtin.lenOf,hroom,hnew,this]
theorem B6 {t u ty e e':TypeId} {i:TypeInfo} {z:Value} (ht:P.underlying t=some (.slice e)) (hu:P.underlying u=some (.slice e')) (hi:P.info? e=some i) (hz:i.zero=some z) (hb:0 < i.bytes) {base ay:Option Addr} {n cap m cy:Nat} {old news:List Value}
  (hold:(Builtin.firstCells i.size n (.slice base n cap)).run P w.drew=.ok old.toArray w.drew) (hnew:(Builtin.firstCells i.size m (.slice ay m cy)).run P w.drew=.ok news.toArray w.drew) (hg:cap < n+m) (hfit:Builtin.nextslicecap (n+m) cap*i.bytes≤281474976710656) :
  (Builtin.append_ #[t,u] ty #[.slice base n cap,.slice ay m cy]).run P w =
   .ok (.slice (some ⟨w.heap.size,0,none⟩) (n+m) (grownCap w (n+m) cap e)) (w.drew.alloc (.cells (old.toArray++news.toArray++Builtin.zeroCells z.cells (grownCap w (n+m) cap e - (n+m))) e)):=by
 have hn:¬ (n+m≤cap):=by omega
 have h48':¬ (281474976710656 < Builtin.nextslicecap (n+m) cap*i.bytes):=by omega
 have hb':i.bytes ≠ 0:=by omega
 simp [Builtin.append_,run_underlying ht,run_underlying hu,sizeOf,typeInfo,zeroValue,hi,hz,Builtin.lenOf,hn,h48',hb',Question.forced,hold,hnew,newRow,grownCap];grind
end
section
variable {P:Program} {w w':World} {X:Nat→Prop} {ρ ρ':bq} {h h':ac} {A A':Nat→Prop}
theorem Er {k:Nat} {rows ys:List (List AV)} {us vs ts:Array Value} (h1:bU w A k rows us) (h2:bU w A k ys vs) (g1:∀ q,q < rows.length*k→ts[q]?=us[q]?) (g2:∀ q,q < ys.length*k→ts[rows.length*k+q]?=vs[q]?):bU w A k (rows++ys) ts:=by
 have lt:∀ {l:List (List AV)} {i:Nat} {j:Nat},i < l.length→j < k→i*k+j < l.length*k:=by
  intro l i j hi hj;have:(i+1)*k≤l.length*k:=Nat.mul_le_mul_right k hi;grind
 intro i row hi;rw [List.getElem?_append] at hi;split at hi
 ·obtain ⟨f1,f2⟩:=h1 i row hi;grind
 ·obtain ⟨f1,f2⟩:=h2 _ row hi;refine ⟨f1,fun j c hj=>?_⟩;have e:i*k+j=rows.length*k+((i - rows.length)*k+j):=by
   rw [← Nat.add_assoc,← Nat.add_mul,show rows.length+(i - rows.length)=i from by omega]
  grind
theorem B7 {k:Nat} {rows ys:List (List AV)} {old news:List Value} (zs:Array Value) (h1:bU w A k rows old.toArray) (hl:old.length=rows.length*k) (h2:bU w A k ys news.toArray) (hm:news.length=ys.length*k) :
  bU w A k (rows++ys) (old.toArray++news.toArray++zs):=by
 grind [Er,Array.append_assoc]
theorem R7 {k:Nat} {rows ys:List (List AV)} {us:Array Value} {news:List Value} (h1:bU w A k rows us) (h2:bU w A k ys news.toArray) (hm:news.length=ys.length*k) (hle:rows.length*k+news.length≤us.size) :
  bU w A k (rows++ys) (cr us (rows.length*k) news):=by
 refine Er h1 h2 (fun q hq=>?_) (fun q hq=>?_)
 ·rw [dV hle,if_neg (by omega)]
 simp_all [dV,if_pos]
theorem Gr (r:Rel w X ρ h) {id k:Nat} {rows:List (List AV)} (e:h id=.ar k rows):Rel w X ρ (upd h id .dead)∧Evo w ρ h w ρ (upd h id .dead) [(id,false)]:=by
 have hl:∀ id' s,live (upd h id .dead) id' s→id' ≠ id∧live h id' s:=by
  intro id' s h1;by_cases hi:id'=id
  ·subst hi;cases s <;> simp [live,au] at h1
  grind [cx,aH]
 have ev:Evo w ρ h w ρ (upd h id .dead) [(id,false)]:=by
  refine ⟨rfl,rfl,rfl,Nat.le_refl _,fun _ _ _=>rfl,fun id' s hp hk=>⟨?_,rfl⟩,fun b ho=>?_,fun id' hb=>⟨?_,rfl⟩,fun id' _ hd=>⟨ur (by grind) hd,rfl⟩⟩
  ·grind [fR,dJ,aH]
  ·obtain ⟨id',s,h1,h2⟩:=ho;exact .inl ⟨id',s,(hl id' s h1).2,h2⟩
  grind [bf,aH]
 exact ⟨r.step ev (·=id) (fun id' hi=>⟨aH h _ hi,fun _=>rfl,fun _ _=>rfl⟩) (fun a b c d h1 h2=>r.inj a b c d (hl a b h1).2 (hl c d h2).2) (fun a b h1=>r.nx a b (hl a b h1).2) (fun id' hi=>by subst hi; rw [au]; trivial),ev⟩
theorem If {α:Type} (s:Nat→α) (d:Nat) (x y:α):upd (upd s d x) d y=upd s d y:=by
 grind [upd]
theorem R8 (r:Rel w X ρ h) {id p d k:Nat} {cs:List AV} {rows:List (List AV)} (e:h id=.bx cs) (ep:cs[p]?=some (.osl k rows)) (hdp:aR d=false) (hd:h d=.dead) :
  Rel w X (iT ρ d none (ρ id (some p))) (upd (upd h id (.bx (cs.set p .any))) d (.ar k rows))∧Evo w ρ h w (iT ρ d none (ρ id (some p))) (upd (upd h id (.bx (cs.set p .any))) d (.ar k rows)) [(id,true)]:=by
 have hlp:live h id (some p):=⟨cs,k,rows,e,ep⟩;have hln:live h id none:=by grind [live]
 have hpl:p < cs.length:=(List.getElem?_eq_some_iff.1 ep).1;have hne:id ≠ d:=by grind
 have hρ:∀ id' s,¬ (id'=d∧s=none)→iT ρ d none (ρ id (some p)) id' s=ρ id' s:=fun id' s hh=>zo hh;have hl:∀ id' s,live (upd (upd h id (.bx (cs.set p .any))) d (.ar k rows)) id' s→(id'=d∧s=none)∨(¬ (id'=d∧s=none)∧¬ (id'=id∧s=some p)∧live h id' s):=by
  intro id' s h1;by_cases hi:id'=d
  ·subst hi;cases s with
   | none=>grind
   | some q=>obtain ⟨_,_,_,h2,_⟩:=h1; grind [au]
  ·have h2:=(cx (aH (upd h id (.bx (cs.set p .any))) (.ar k rows) hi)).1 h1;by_cases hi2:id'=id
   ·subst hi2;cases s with
    | none=>grind
    | some q =>
     obtain ⟨cs',k',rows',h3,h4⟩:=h2;rw [au] at h3;cases h3;by_cases hq:q=p
     ·grind
     ·rw [List.getElem?_set_ne (fun e=>hq e.symm)] at h4;exact .inr ⟨by omega,by grind,⟨cs,k',rows',e,h4⟩⟩
   grind [cx,aH]
 have blk:∀ id' s,live (upd (upd h id (.bx (cs.set p .any))) d (.ar k rows)) id' s→∃ id2 s2,live h id2 s2∧(iT ρ d none (ρ id (some p)) id' s).1=(ρ id2 s2).1∧((id'=d∧s=none∧id2=id∧s2=some p)∨(id2=id'∧s2=s∧¬ (id2=id∧s2=some p))):=by
  grind [bk]
 have nd:∀ id' s,bD h id' s→id' ≠ d:=by
  rintro id' s hp rfl
  cases s with
  | none=>exact hp hd
  | some q=>obtain ⟨_,_,_,h2,_⟩:=hp; grind
 have ev:Evo w ρ h w (iT ρ d none (ρ id (some p))) (upd (upd h id (.bx (cs.set p .any))) d (.ar k rows)) [(id,true)]:=by
  refine ⟨rfl,rfl,rfl,Nat.le_refl _,fun _ _ _=>rfl,fun id' s hp hk=>?_,fun b ho=>?_,fun id' hb=>?_,fun id' hps hnd=>?_⟩
  ·have hi:=nd id' s hp;by_cases hi2:id'=id
   ·simp_all [bD,aH,au,fR]
   grind [dJ,aH]
  ·obtain ⟨id',s,h1,h2⟩:=ho;obtain ⟨id2,s2,h3,h4,_⟩:=blk id' s h1;exact .inl ⟨id2,s2,h3,h4.symm.trans h2⟩
  ·have hi:=nd id' none (Ic hb);refine ⟨?_,hρ _ _ (by omega)⟩;rw [aH _ _ hi];by_cases hi2:id'=id
   ·subst hi2; rw [au]; rfl
   grind [aH]
  grind [aH,ur]
 refine ⟨r.step ev (fun i=>i=id∨i=d) (fun id' hi=>?_) (fun i s i' s' h1 h2 h3=>?_) (fun i s h1=>?_) (fun id' hi=>?_),ev⟩
 ·grind [aH]
 ·obtain ⟨i2,s2,f1,f2,f3⟩:=blk i s h1;obtain ⟨i3,s3,f4,f5,f6⟩:=blk i' s' h2;obtain ⟨rfl,rfl⟩:=r.inj i2 s2 i3 s3 f1 f4 (by omega);grind
 ·obtain ⟨i2,s2,f1,f2,_⟩:=blk i s h1;rw [f2];exact r.nx _ _ f1
 ·obtain ⟨us0,t0,g1,g2,g3,g4⟩:=r.cell e;rcases hi with rfl | rfl
  ·rw [aH _ _ hne,au];refine ⟨us0,t0,by grind,by grind,by grind,fun q c hq=>?_⟩;by_cases hqp:q=p
   ·subst hqp;rw [List.getElem?_set_self hpl] at hq;cases hq;obtain ⟨u,f1,a,cap,us1,t1,rfl,_⟩:=g4 q _ ep;exact ⟨_,f1,.anyv _,rfl,trivial⟩
   ·rw [List.getElem?_set_ne (fun e=>hqp e.symm)] at hq;obtain ⟨u,f1,f2⟩:=g4 q c hq;exact ⟨u,f1,f2.keep (fun b hb=>ev.al hb) ev.boxes (hρ _ _ (by simp)) (fun _=>rfl)⟩
  ·rw [au];obtain ⟨u,f1,a,cap,us1,t1,q1,q2,q3,q4,q5,q6,q7⟩:=g4 p _ ep;exact ⟨us1,t1,by grind [bk],by grind [bk],Nat.le_trans (Nat.mul_le_mul_right k q3) (Nat.le_of_eq q6),q7.mono fun b hb=>ev.al hb⟩
theorem aaV (r:Rel w X ρ h) {id d k:Nat} {rows:List (List AV)} (e:h id=.ar k rows) (hdp:aR d=false) (hd:h d=.dead) :
  Rel w X (iT ρ d none (ρ id none)) (upd (upd h id .dead) d (.ar k rows))∧Evo w ρ h w (iT ρ d none (ρ id none)) (upd (upd h id .dead) d (.ar k rows)) [(id,false)]:=by
 have hln:live h id none:=by grind [live]
 have hne:id ≠ d:=by grind
 have hρ:∀ id' s,¬ (id'=d∧s=none)→iT ρ d none (ρ id none) id' s=ρ id' s:=fun id' s hh=>zo hh;have hl:∀ id' s,live (upd (upd h id .dead) d (.ar k rows)) id' s→(id'=d∧s=none)∨(¬ (id'=d∧s=none)∧id' ≠ id∧live h id' s):=by
  intro id' s h1;by_cases hi:id'=d
  ·cases s with
   | none=>grind
   | some q=>obtain ⟨_,_,_,h2,_⟩:=h1; grind [au]
  ·have h2:=(cx (aH (upd h id .dead) (.ar k rows) hi)).1 h1;by_cases hi2:id'=id
   ·subst hi2;cases s <;> simp [live,au] at h2
   grind [cx,aH]
 have blk:∀ id' s,live (upd (upd h id .dead) d (.ar k rows)) id' s→∃ id2 s2,live h id2 s2∧(iT ρ d none (ρ id none) id' s).1=(ρ id2 s2).1∧((id'=d∧s=none∧id2=id∧s2=none)∨(id2=id'∧s2=s∧id2 ≠ id)):=by
  grind [bk]
 have nd:∀ id' s,bD h id' s→id' ≠ d:=by
  rintro id' s hp rfl
  cases s with
  | none=>exact hp hd
  | some q=>obtain ⟨_,_,_,h2,_⟩:=hp; grind
 have ev:Evo w ρ h w (iT ρ d none (ρ id none)) (upd (upd h id .dead) d (.ar k rows)) [(id,false)]:=by
  refine ⟨rfl,rfl,rfl,Nat.le_refl _,fun _ _ _=>rfl,fun id' s hp hk=>?_,fun b ho=>?_,fun id' hb=>?_,fun id' hps hnd=>?_⟩
  ·grind [fR,dJ,aH]
  ·obtain ⟨id',s,h1,h2⟩:=ho;obtain ⟨id2,s2,h3,h4,_⟩:=blk id' s h1;exact .inl ⟨id2,s2,h3,h4.symm.trans h2⟩
  all_goals grind [Ic,bf,aH,ur]
 refine ⟨r.step ev (fun i=>i=id∨i=d) (fun id' hi=>?_) (fun i s i' s' h1 h2 h3=>?_) (fun i s h1=>?_) (fun id' hi=>?_),ev⟩
 ·grind [aH]
 ·obtain ⟨i2,s2,f1,f2,f3⟩:=blk i s h1;obtain ⟨i3,s3,f4,f5,f6⟩:=blk i' s' h2;obtain ⟨rfl,rfl⟩:=r.inj i2 s2 i3 s3 f1 f4 (by omega);grind
 ·obtain ⟨i2,s2,f1,f2,_⟩:=blk i s h1;rw [f2];exact r.nx _ _ f1
 ·have ho:=r.ob id;rw [e] at ho;obtain ⟨us,t0,g1,g2,g3,g4⟩:=ho;rcases hi with rfl | rfl
  ·rw [aH _ _ hne,au];trivial
  ·rw [au];exact ⟨us,t0,by grind [bk],by grind [bk],g3,g4.mono fun b hb=>ev.al hb⟩
theorem JZ {k lo:Nat} {rows ys:List (List AV)} {us:Array Value} {news:List Value} (_h0:0 < k) (h1:bU w A k rows us) (h2:bU w A k ys news.toArray) (hm:news.length=ys.length*k) (hlo:lo+ys.length≤rows.length) (hle:rows.length*k≤us.size) :
  bU w A k (rows.take lo++ys++rows.drop (lo+ys.length)) (cr us (lo*k) news):=by
 have hle2:lo*k+news.length≤us.size:=by
  have:(lo+ys.length)*k≤rows.length*k:=Nat.mul_le_mul_right k hlo;grind
 have hlt:(rows.take lo).length=lo:=by grind
 intro i row hi;have cell:∀ j,j < k→∀ a b:Nat,a < b→a*k+j < b*k:=fun j hj a b hab=>by
  have:(a+1)*k≤b*k:=Nat.mul_le_mul_right k hab;grind
 by_cases c1:i < lo
 ·have hrow:rows[i]?=some row:=by
   grind
  obtain ⟨g1,g2⟩:=h1 i row hrow;refine ⟨g1,fun j c hj=>?_⟩;obtain ⟨u,f1,f2⟩:=g2 j c hj;have hjk:j < k:=by grind
  refine ⟨u,?_,f2⟩;rw [dV hle2,if_neg (by grind)];omega
 ·by_cases c2:i < lo+ys.length
  ·have hrow:ys[i - lo]?=some row:=by
    grind
   obtain ⟨g1,g2⟩:=h2 (i - lo) row hrow;refine ⟨g1,fun j c hj=>?_⟩;obtain ⟨u,f1,f2⟩:=g2 j c hj;have hjk:j < k:=by grind
   refine ⟨u,?_,f2⟩;have e1:=cell j hjk (i - lo) ys.length (by omega);have e2:i*k+j=lo*k+((i - lo)*k+j):=by
    have:i*k=lo*k+(i - lo)*k:=by rw [← Nat.add_mul]; grind
    omega
   simp_all [dV,if_pos]
  ·have hrow:rows[i]?=some row:=by
    rw [List.getElem?_append_right (by grind),List.getElem?_drop,List.length_append,hlt] at hi;grind
   obtain ⟨g1,g2⟩:=h1 i row hrow;refine ⟨g1,fun j c hj=>?_⟩;obtain ⟨u,f1,f2⟩:=g2 j c hj;refine ⟨u,?_,f2⟩;have e1:(lo+ys.length)*k≤i*k:=Nat.mul_le_mul_right k (by omega);rw [Nat.add_mul] at e1;rw [dV hle2,if_neg (by omega)];omega
theorem Po (r:Rel w X ρ h) {t u ty e e':TypeId} {k:Nat} (ht:P.underlying t=some (.slice e)) (hu:P.underlying u=some (.slice e')) (hk:bj P e=some k) (h0:0 < k)
  {id lo n:Nat} {rows ys:List (List AV)} (eo:h id=.ar k rows) {a ay:Option Addr} {cap cy:Nat} (hn:n≤cap) (hc:(lo+cap)*k=(ρ id none).2) (ha:cap=0∨a=some ⟨(ρ id none).1,lo*k,none⟩) (hfit:lo+n+ys.length≤rows.length)
  {news:List Value} (n1:news.length=ys.length*k) (hnew:∀ w2:World,w2.heap=w.heap→(Builtin.firstCells k ys.length (.slice ay ys.length cy)).run P w2=.ok news.toArray w2) (n3:bU w (aD w X h ρ) k ys news.toArray) :
  ∃ v w',(Builtin.append_ #[t,u] ty #[.slice a n cap,.slice ay ys.length cy]).run P w=.ok v w'∧Got w X ρ h w' (upd h id (.ar k (rows.take (lo+n)++ys++rows.drop (lo+n+ys.length)))) [] (.rsl id none k lo (n+ys.length)) v:=by
 have hln:live h id none:=by grind [live]
 have ho:=r.ob id;rw [eo] at ho;obtain ⟨us,t0,g1,g2,g3,g4⟩:=ho;have hroom:n+ys.length≤cap:=by
  have h5:rows.length*k≤(lo+cap)*k:=by omega
  have:=Nat.le_of_mul_le_mul_right h5 h0;omega
 have hle:(lo+n)*k+news.length≤us.size:=by
  have:(lo+n+ys.length)*k≤rows.length*k:=Nat.mul_le_mul_right k hfit;grind
 have h1:∀ v ∈ news,v.oneCell'=true:=by
  intro v hv;obtain ⟨q,hq⟩:=List.getElem?_of_mem hv;have h3:q / k < ys.length:=Nat.div_lt_of_lt_mul (by grind);obtain ⟨f1,f2⟩:=n3 (q / k) _ (List.getElem?_eq_getElem h3);have h4:q % k < (ys[q / k]).length:=by simp_all [Nat.mod_lt]
  obtain ⟨v',f3,f4,f5⟩:=f2 (q % k) _ (List.getElem?_eq_getElem h4);have h5:q / k*k+q % k=q:=by grind [Nat.div_add_mod]
  rw [h5,List.getElem?_toArray,hq] at f3;cases f3;exact f4.one f5
 generalize hm:lo+n=m at hle hfit;have hlive:∀ s,live (upd h id (.ar k (rows.take m++ys++rows.drop (m+ys.length)))) id s→live h id s:=by
  intro s h1;cases s with
  | none=>omega
  | some q=>obtain ⟨_,_,_,h2,_⟩:=h1; grind [au]
 have hkeep:∀ s,bD h id s→s=none:=by
  intro s hp;cases s with
  | none=>rfl
  | some q=>obtain ⟨_,_,_,h2,_⟩:=hp; grind
 have ev:Evo w ρ h (w.setRow (ρ id none).1 (cr us (m*k) news)) ρ (upd h id (.ar k (rows.take m++ys++rows.drop (m+ys.length)))) [] :=
  sT (X:=X) r hln _ hlive (fun s hp _=>by grind [bD,au]) (fun hbf=>by rw [eo] at hbf; cases hbf)
 have hlen2:(rows.take m++ys++rows.drop (m+ys.length)).length=rows.length:=by
  grind
 have hrel:=og r hln _ hlive ev ⟨_,t0,setRow_heap w _ us _ t0 _ g1,by grind [cD],by grind [cD],JZ h0 (g4.mono fun b hb=>ev.al hb) (n3.mono fun b hb=>ev.al hb) n1 (by omega) g3⟩;refine ⟨.slice a (n+ys.length) cap,_,wI ht hu hk (hnew w rfl) hroom (w':=w.setRow (ρ id none).1 (cr us (m*k) news)) (fun a' ha'=>?_) (fun ha'=>?_),ρ,hrel,ev,?_⟩
 ·rcases ha with h9 | h9
  ·have e3:news=[]:=List.eq_nil_of_length_eq_zero (by grind);subst e3;rw [j3 (by omega) (fun j v hv=>by grind),setRow_self w _ us t0 (0,0) g1];rfl
  ·rw [h9] at ha';cases ha';rw [jX,← Nat.add_mul,hm];grind [run_storeCells_at,cr]
 ·grind [List.eq_nil_of_length_eq_zero,j3,setRow_self]
 ·exact .rsl id none k lo _ cap a (by simp [bD,au]) hroom hc ha
theorem Ay (r:Rel w X ρ h) {t u ty e e':TypeId} {k b:Nat} {zs:List AV} (ht:P.underlying t=some (.slice e)) (hu:P.underlying u=some (.slice e')) (hk:bj P e=some k) (hb:mB P e=some b) (hz:iS P e=some zs) (h0:0 < k) (hb0:0 < b)
  {id:Nat} {rows ys:List (List AV)} (eo:h id=.ar k rows) (hps:aR id=false) {a ay:Option Addr} {cap cy:Nat} (hn:rows.length≤cap) (hc:cap*k=(ρ id none).2) (ha:cap=0∨a=some ⟨(ρ id none).1,0,none⟩)
  {news:List Value} (hl:news.length=ys.length*k) (hnew:∀ w2:World,w2.heap=w.heap→(Builtin.firstCells k ys.length (.slice ay ys.length cy)).run P w2=.ok news.toArray w2) (hr:bU w (aD w X h ρ) k ys news.toArray) (hfit:(rows.length+ys.length)*b≤140737488355328) :
  ∃ v w',(Builtin.append_ #[t,u] ty #[.slice a rows.length cap,.slice ay ys.length cy]).run P w=.ok v w'∧Got w X ρ h w' (upd h id (.ar k (rows++ys))) [(id,false)] (.rsl id none k 0 (rows.length+ys.length)) v:=by
 have hln:live h id none:=by grind [live]
 have ho:=r.ob id;rw [eo] at ho;obtain ⟨us,t0,g1,g2,g3,g4⟩:=ho;by_cases hroom:rows.length+ys.length≤cap
 ·have hle:rows.length*k+news.length≤us.size:=by
   have:(rows.length+ys.length)*k≤cap*k:=Nat.mul_le_mul_right k hroom;grind
  have h1:∀ v ∈ news,v.oneCell'=true:=by
   intro v hv;obtain ⟨q,hq⟩:=List.getElem?_of_mem hv;have h3:q / k < ys.length:=Nat.div_lt_of_lt_mul (by grind);obtain ⟨f1,f2⟩:=hr (q / k) _ (List.getElem?_eq_getElem h3);have h4:q % k < (ys[q / k]).length:=by simp_all [Nat.mod_lt]
   obtain ⟨v',f3,f4,f5⟩:=f2 (q % k) _ (List.getElem?_eq_getElem h4);have h5:q / k*k+q % k=q:=by grind [Nat.div_add_mod]
   rw [h5,List.getElem?_toArray,hq] at f3;cases f3;exact f4.one f5
  have hlive:∀ s,live (upd h id (.ar k (rows++ys))) id s→live h id s:=by
   intro s h1;cases s with
   | none=>omega
   | some q=>obtain ⟨_,_,_,h2,_⟩:=h1; grind [au]
  have ev:Evo w ρ h (w.setRow (ρ id none).1 (cr us (rows.length*k) news)) ρ (upd h id (.ar k (rows++ys))) [(id,false)] :=
   sT (X:=X) r hln _ hlive (fun s hp hk=>by grind [fR]) (fun hbf=>by rw [eo] at hbf; cases hbf)
  have hrel:=og r hln _ hlive ev ⟨_,t0,setRow_heap w _ us _ t0 _ g1,by grind [cD],by simp_all [cD,List.length_append,Nat.add_mul],R7 (g4.mono fun b hb=>ev.al hb) (hr.mono fun b hb=>ev.al hb) hl hle⟩;refine ⟨.slice a (rows.length+ys.length) cap,_,wI ht hu hk (hnew w rfl) hroom (w':=w.setRow (ρ id none).1 (cr us (rows.length*k) news)) (fun a' ha'=>?_) (fun ha'=>?_),ρ,hrel,ev,?_⟩
  ·rcases ha with h9 | h9
   ·have e2:ys.length=0:=by omega
    have e3:news=[]:=List.eq_nil_of_length_eq_zero (by grind);subst e3;rw [j3 (by omega) (fun j v hv=>by grind),setRow_self w _ us t0 (0,0) g1];rfl
   ·rw [h9] at ha';cases ha';rw [jX,Nat.zero_add];grind [run_storeCells_at,cr]
  ·grind [List.eq_nil_of_length_eq_zero,j3,setRow_self]
  ·exact .rsl id none k 0 _ cap a (by simp [bD,au]) hroom (by grind) (by grind)
 ·obtain ⟨i,z,z1,z2,z3,z4,_⟩:=jZ (w:=w) (A:=aD w X h ρ) (ρ:=ρ) (h:=h) hz;have hik:i.size=k:=by grind [bj]
  have hib:i.bytes=b:=by grind [mB]
  obtain ⟨old,o1,o2,o3⟩:∃ old:List Value,old.length=rows.length*k∧(Builtin.firstCells k rows.length (.slice a rows.length cap)).run P w.drew=.ok old.toArray w.drew∧bU w (aD w X h ρ) k rows old.toArray:=by
   by_cases hr0:rows.length=0
   ·refine ⟨[],by grind,by grind [fW],fun i row hi=>?_⟩;grind
   ·rcases ha with h9 | rfl
    ·omega
    ·obtain ⟨old,f1,f2,f3⟩:=qG (P:=P) (w:=w) (A:=aD w X h ρ) (o:=0) (n:=rows.length) (l:=rows.length) (cap:=cap) g1 g4 (by omega) h0;simp only [Nat.zero_mul] at f2;exact ⟨old,f1,f2 _ rfl,by grind⟩
  have run:=B6 (P:=P) (w:=w) (ty:=ty) ht hu z1 z2 (by omega) (old:=old) (news:=news) (n:=rows.length) (m:=ys.length) (by rw [hik]; omega) (by rw [hik]; exact hnew w.drew rfl) (by omega) (growslice_fits (by omega) (by grind));obtain ⟨d1,d2⟩:=Gr r eo;obtain ⟨d3,d4⟩:=vU d1;have hrows:=B7 (w:=w) (A:=aD w X h ρ) (Builtin.zeroCells z.cells (grownCap w (rows.length+ys.length) cap e - (rows.length+ys.length))) o3 o1 hr hl;have hge:=grownCap_ge w (rows.length+ys.length) cap e;have hsz:(old.toArray++news.toArray++Builtin.zeroCells z.cells (grownCap w (rows.length+ys.length) cap e - (rows.length+ys.length))).size=grownCap w (rows.length+ys.length) cap e*k:=by
   simp only [Array.size_append,List.size_toArray,size_zeroCells,z3,hik,o1,hl,← Nat.add_mul];grind
  obtain ⟨n1,n2⟩:=ut (e:=e) d3 hps (au _ _ _) (o:=.ar k (rows++ys)) (us:=old.toArray++news.toArray++Builtin.zeroCells z.cells (grownCap w (rows.length+ys.length) cap e - (rows.length+ys.length)))
   ⟨by simp_all [Nat.mul_le_mul_right],hrows.mono fun b hb=>by obtain ⟨q1,q2⟩:=d2.al hb; obtain ⟨q3,q4⟩:=d4.al q1; grind⟩
  rw [If] at n1 n2;refine ⟨_,_,run,_,n1,by simpa using d2.trans (d4.trans n2),?_⟩;exact Ub (b:=(w.heap.size,_)) (by grind [au]) (bk _ _ _ _) hge (by rw [hsz])
theorem Evo.cut {ks:K} {d:Nat} (e:Evo w ρ h w' ρ' h' (ks++[(d,false)])) (hd:h d=.dead):Evo w ρ h w' ρ' h' ks :=
 ⟨e.os,e.tape,e.output,e.size,e.old,fun id sub hp hk=>e.keep id sub hp (by
  have hi:id ≠ d:=by
   rintro rfl
   cases sub with
   | none=>exact hp hd
   | some q=>obtain ⟨_,_,_,h2,_⟩:=hp; grind
  rw [Au,hk];simpa [fR] using fun e:d=id=>hi e.symm),e.fresh,e.boxes,e.stay⟩
theorem R9 (r:Rel w X ρ h) {t u ty e e':TypeId} {k b:Nat} {zs:List AV} (ht:P.underlying t=some (.slice e)) (hu:P.underlying u=some (.slice e')) (hk:bj P e=some k) (hb:mB P e=some b) (hz:iS P e=some zs) (h0:0 < k) (hb0:0 < b)
  {d:Nat} (hdp:aR d=false) {x y z:AV} {ux uy:Value} {ks:K} (hx:RV w (aD w X h ρ) ρ h x ux) (hy:RV w (aD w X h ρ) ρ h y uy) (hr:H5 h d k b x y=some (z,h',ks)) :
  ∃ v w',(Builtin.append_ #[t,u] ty #[ux,uy]).run P w=.ok v w'∧Got w X ρ h w' h' ks z v:=by
 simp only [H5,Option.bind_eq_some_iff] at hr;obtain ⟨ys,e1,hr⟩:=hr;obtain ⟨ay,cy,rfl,news,n1,n2,n3⟩:=Ep (P:=P) r h0 hy e1;cases x with
 | emp =>
  obtain ⟨a,rfl⟩:=hx.emp_inv;simp only at hr;split at hr
  ·rename_i hfit;cases ys with
   | nil =>
    obtain ⟨rfl,rfl,rfl⟩:=hr;have e3:news=[]:=List.eq_nil_of_length_eq_zero (by grind);subst e3;exact ⟨_,w,wI ht hu hk (n2 w rfl) (Nat.le_refl _) (fun _ _=>rfl) (fun _=>rfl),ρ,r,.refl _ _ _,.dat (.emp a)⟩
   | cons row rest =>
    simp only [LR] at hr;obtain ⟨i,zv,z1,z2,z3,z4,_⟩:=jZ (w:=w) (A:=aD w X h ρ) (ρ:=ρ) (h:=h) hz;have hik:i.size=k:=by grind [bj]
    have hib:i.bytes=b:=by grind [mB]
    have run:=B6 (P:=P) (w:=w) (ty:=ty) (base:=a) (n:=0) (cap:=0) (old:=[]) (news:=news) (m:=(row::rest).length) ht hu z1 z2 (by omega) (fW _ _ _ _ _) (by rw [hik]; exact n2 w.drew rfl) (by simp)
     (growslice_fits (by simp) (by grind))
    obtain ⟨d3,d4⟩:=vU r;have hge:=grownCap_ge w (0+(row::rest).length) 0 e;have hrows:=B7 (w:=w) (A:=aD w X h ρ) (rows:=[]) (old:=[]) (Builtin.zeroCells zv.cells (grownCap w (0+(row::rest).length) 0 e - (0+(row::rest).length))) (fun i row hi=>by grind) (by simp) n3 n1;have hsz:(([]:List Value).toArray++news.toArray++Builtin.zeroCells zv.cells (grownCap w (0+(row::rest).length) 0 e - (0+(row::rest).length))).size=grownCap w (0+(row::rest).length) 0 e*k:=by
     simp only [Array.size_append,List.size_toArray,size_zeroCells,z3,hik,n1,List.length_nil,Nat.zero_add,← Nat.add_mul];grind
    obtain ⟨rfl,ρ',q1,q2,q3⟩:=mE (t:=e) (cap:=grownCap w (0+(row::rest).length) 0 e) d3 hdp (hrows.mono fun b hb=>d4.al hb) (by grind) (by grind) (by rw [hsz]) hr;refine ⟨_,_,run,ρ',q1,d4.trans q2,?_⟩
    simp_all
  grind
 | rsl id sub k' lo n =>
  obtain ⟨a,cap,rfl,hp,hn,hbd,ha⟩:=hx.rsl_inv;cases sub with
  | none =>
   simp only at hr;cases eo:h id <;> rw [eo] at hr <;> simp only [LQ] at hr <;> try (cases hr; done)
   rename_i k2 rows;split at hr
   ·rename_i hcond;obtain ⟨rfl,rfl,rfl,rfl,hid,hfit⟩:=hcond;obtain ⟨rfl,rfl,rfl⟩:=hr;exact Ay r ht hu hk hb hz h0 hb0 eo (by grind [aR,decide_eq_false_iff_not]) hn (by grind) (by grind) n1 n2 n3 hfit
   ·rename_i hno;unfold LP at hr;split at hr
    ·rename_i hcond;obtain ⟨rfl,rfl,hfit⟩:=hcond;obtain ⟨rfl,rfl,rfl⟩:=hr;exact Po r ht hu hk h0 eo hn hbd ha hfit n1 n2 n3
    ·split at hr
     ·rename_i hcond;obtain ⟨rfl,rfl,rfl,rfl,hfit⟩:=hcond;obtain ⟨hd',rfl,rfl,rfl⟩:=jn hr;have hne:d ≠ id:=by
       grind [aR,decide_eq_false_iff_not]
      have hd:h d=.dead:=by grind [aH]
      obtain ⟨m1,m2⟩:=aaV r eo hdp hd;obtain ⟨v,w',q1,ρ',q2,q3,q4⟩:=Ay (ty:=ty) (a:=a) (ay:=ay) (cy:=cy) (cap:=cap) m1 ht hu hk hb hz h0 hb0 (au _ _ _) hdp hn (by grind [bk]) (by grind [bk]) n1 n2 (n3.mono fun b hb=>m2.al hb) hfit;rw [If] at q2 q3 q4;exact ⟨v,w',q1,ρ',q2,(m2.trans q3).cut hd,q4⟩
     grind
  | some p =>
   simp only at hr;cases eo:h id <;> rw [eo] at hr <;> simp only [Wo] at hr <;> try (cases hr; done)
   rename_i cs;cases ec:cs[p]? with
   | none=>rw [ec] at hr; cases hr
   | some c =>
    rw [ec] at hr;cases c <;> simp only [aaK] at hr <;> try (cases hr; done)
    rename_i k2 rows;split at hr
    ·rename_i hcond;obtain ⟨rfl,rfl,rfl,rfl,hfit⟩:=hcond;obtain ⟨hd',rfl,rfl,rfl⟩:=jn hr;have hne:d ≠ id:=by grind [au]
     have hd:h d=.dead:=by grind [aH]
     obtain ⟨m1,m2⟩:=R8 r eo ec hdp hd;obtain ⟨v,w',q1,ρ',q2,q3,q4⟩:=Ay (ty:=ty) (a:=a) (ay:=ay) (cy:=cy) (cap:=cap) m1 ht hu hk hb hz h0 hb0 (au _ _ _) hdp hn (by grind [bk]) (by grind [bk]) n1 n2 (n3.mono fun b hb=>m2.al hb) hfit;rw [If] at q2 q3 q4;exact ⟨v,w',q1,ρ',q2,(m2.trans q3).cut hd,q4⟩
    grind
 | _=>cases hr
end
section
variable {P:Program} {w w':World} {X:Nat→Prop} {ρ ρ':bq} {h h':ac} {A A':Nat→Prop}
theorem Ww {t u ty e:TypeId} {k:Nat} (ht:P.underlying t=some (.slice e)) (hk:bj P e=some k) {base ay:Option Addr} {n cap l m cy:Nat} {news:List Value} (hm:Nat.min l n=m)
  (hnew:(Builtin.firstCells k m (.slice ay l cy)).run P w=.ok news.toArray w) (hst:∀ a,base=some a→(storeCells a news).run P w=.ok () w') (hno:base=none→w'=w) :
  (Builtin.copy_ #[t,u] ty #[.slice base n cap,.slice ay l cy]).run P w=.ok (goInt m) w':=by
 cases base with
 | none =>
  simp_all [Builtin.copy_,run_underlying,eG,Builtin.lenOf]
 | some a =>
  simp_all [Builtin.copy_,run_underlying,eG,Builtin.lenOf]
theorem Sa {y:AV} {uy:Value} {l m:Nat} (hl:LT y=some l) (hy:RV w A ρ h y uy):∃ a c,uy=.slice a l c∧RV w A ρ h (LS m y) (.slice a (min m l) c):=by
 cases y with
 | emp =>
  cases hl;obtain ⟨a,rfl⟩:=hy.emp_inv;refine ⟨a,0,rfl,?_⟩;rw [Nat.min_zero];exact hy
 | sl k rows =>
  cases hl;have hd:=hy.sl_inv;cases hd with
  | sl _ _ a cap ad vals hc ha hk hv hll hr =>
   refine ⟨a,cap,rfl,?_⟩;have hlen:(rows.take m).length=min m rows.length:=List.length_take;have hget:∀ {i:Nat} {row:List AV},(rows.take m)[i]?=some row→rows[i]?=some row:=fun {i row} hi=>by
    grind
   have h1:RD w A (.sl k (rows.take m)) (.slice a (rows.take m).length cap) :=
    .sl k (rows.take m) a cap ad vals (by omega) (fun hne=>ha (fun e=>hne (by grind))) (fun row hm=>hk row (List.mem_of_mem_take hm))
     (fun i row j c hi hj=>hv i row j c (hget hi) hj) (fun row hm=>hll row (List.mem_of_mem_take hm)) (fun i row j c hi hj=>hr i row j c (hget hi) hj)
   rw [hlen] at h1;exact .dat h1
 | rsl id sub k lo n =>
  cases hl;obtain ⟨a,cap,rfl,hp,hn,hb,ha⟩:=hy.rsl_inv;exact ⟨a,cap,rfl,.rsl id sub k lo (min m l) cap a hp (by omega) hb ha⟩
 | _=>cases hl
theorem Sb {k lo:Nat} {rows ys:List (List AV)} {us:Array Value} {news:List Value} (_h0:0 < k) (h1:bU w A k rows us) (h2:bU w A k ys news.toArray) (hm:news.length=ys.length*k) (hlo:lo≤rows.length) (hle2:lo*k+news.length≤us.size) :
  bU w A k (rows.take lo++ys++rows.drop (lo+ys.length)) (cr us (lo*k) news):=by
 have hlt:(rows.take lo).length=lo:=by grind
 intro i row hi;have cell:∀ j,j < k→∀ a b:Nat,a < b→a*k+j < b*k:=fun j hj a b hab=>by
  have:(a+1)*k≤b*k:=Nat.mul_le_mul_right k hab;grind
 by_cases c1:i < lo
 ·have hrow:rows[i]?=some row:=by
   grind
  obtain ⟨g1,g2⟩:=h1 i row hrow;refine ⟨g1,fun j c hj=>?_⟩;obtain ⟨u,f1,f2⟩:=g2 j c hj;have hjk:j < k:=by grind
  refine ⟨u,?_,f2⟩;rw [dV hle2,if_neg (by grind)];omega
 ·by_cases c2:i < lo+ys.length
  ·have hrow:ys[i - lo]?=some row:=by
    grind
   obtain ⟨g1,g2⟩:=h2 (i - lo) row hrow;refine ⟨g1,fun j c hj=>?_⟩;obtain ⟨u,f1,f2⟩:=g2 j c hj;have hjk:j < k:=by grind
   refine ⟨u,?_,f2⟩;have e1:=cell j hjk (i - lo) ys.length (by omega);have e2:i*k+j=lo*k+((i - lo)*k+j):=by
    have:i*k=lo*k+(i - lo)*k:=by rw [← Nat.add_mul]; grind
    omega
   simp_all [dV,if_pos]
  ·have hrow:rows[i]?=some row:=by
    rw [List.getElem?_append_right (by grind),List.getElem?_drop,List.length_append,hlt] at hi;grind
   obtain ⟨g1,g2⟩:=h1 i row hrow;refine ⟨g1,fun j c hj=>?_⟩;obtain ⟨u,f1,f2⟩:=g2 j c hj;refine ⟨u,?_,f2⟩;have e1:(lo+ys.length)*k≤i*k:=Nat.mul_le_mul_right k (by omega);rw [Nat.add_mul] at e1;rw [dV hle2,if_neg (by omega)];omega
theorem Sc (r:Rel w X ρ h) {t u ty e:TypeId} {k:Nat} (ht:P.underlying t=some (.slice e)) (hk:bj P e=some k) (h0:0 < k)
  {x y z:AV} {ux uy:Value} {ks:K} (hx:RV w (aD w X h ρ) ρ h x ux) (hy:RV w (aD w X h ρ) ρ h y uy) (hr:H6 h k x y=some (z,h',ks)) :
  ∃ v w',(Builtin.copy_ #[t,u] ty #[ux,uy]).run P w=.ok v w'∧Got w X ρ h w' h' ks z v:=by
 unfold H6 at hr;split at hr
 ·rename_i id k' lo n;simp only [Option.bind_eq_some_iff] at hr;obtain ⟨l,e1,ys,e2,hr⟩:=hr;obtain ⟨ay,cy,rfl,hcut⟩:=Sa (m:=n) e1 hy;obtain ⟨a',c',e3,news,n1,n2,n3⟩:=Ep (P:=P) r h0 hcut e2;injection e3 with e4 e5 e6
  subst e4 e6;obtain ⟨a,cap,rfl,hp,hn,hbd,ha⟩:=hx.rsl_inv;cases eo:h id <;> rw [eo] at hr <;> simp only [LU] at hr <;> try (cases hr; done)
  rename_i k2 rows;split at hr
  ·rename_i hcond;obtain ⟨rfl,rfl,hfit,hlen⟩:=hcond;obtain ⟨rfl,rfl,rfl⟩:=hr;have hln:live h id none:=by grind [live]
   have ho:=r.ob id;rw [eo] at ho;obtain ⟨us,t0,g1,g2,g3,g4⟩:=ho;have hyn:ys.length≤n:=by omega
   have hle:lo*k'+news.length≤us.size:=by
    have:(lo+ys.length)*k'≤(lo+cap)*k':=Nat.mul_le_mul_right k' (by omega);grind
   have h1:∀ v ∈ news,v.oneCell'=true:=by
    intro v hv;obtain ⟨q,hq⟩:=List.getElem?_of_mem hv;have h3:q / k' < ys.length:=Nat.div_lt_of_lt_mul (by grind);obtain ⟨f1,f2⟩:=n3 (q / k') _ (List.getElem?_eq_getElem h3);have h4:q % k' < (ys[q / k']).length:=by simp_all [Nat.mod_lt]
    obtain ⟨v',f3,f4,f5⟩:=f2 (q % k') _ (List.getElem?_eq_getElem h4);have h5:q / k'*k'+q % k'=q:=by grind [Nat.div_add_mod]
    rw [h5,List.getElem?_toArray,hq] at f3;cases f3;exact f4.one f5
   have hlive:∀ s,live (upd h id (.ar k' (rows.take lo++ys++rows.drop (lo+ys.length)))) id s→live h id s:=by
    intro s h1;cases s with
    | none=>omega
    | some q=>obtain ⟨_,_,_,h2,_⟩:=h1; grind [au]
   have hkeep:∀ s,bD h id s→s=none:=by
    intro s hp;cases s with
    | none=>rfl
    | some q=>obtain ⟨_,_,_,h2,_⟩:=hp; grind
   have ev:Evo w ρ h (w.setRow (ρ id none).1 (cr us (lo*k') news)) ρ (upd h id (.ar k' (rows.take lo++ys++rows.drop (lo+ys.length)))) [] :=
    sT (X:=X) r hln _ hlive (fun s hp _=>by grind [bD,au]) (fun hbf=>by rw [eo] at hbf; cases hbf)
   have hlen2:(rows.take lo++ys++rows.drop (lo+ys.length)).length*k'≤us.size:=by
    rw [List.length_append,List.length_append,List.length_take,List.length_drop];grind [Nat.add_mul]
   have hrel:=og r hln _ hlive ev ⟨_,t0,setRow_heap w _ us _ t0 _ g1,by grind [cD],by grind [cD],Sb h0 (g4.mono fun b hb=>ev.al hb) (n3.mono fun b hb=>ev.al hb) n1 hfit hle⟩;have hmin:Nat.min l n=ys.length:=hlen.symm;have hnew:(Builtin.firstCells k' ys.length (.slice ay l cy)).run P w=.ok news.toArray w:=by
    have:=n2 w rfl;cases ay <;> exact this
   refine ⟨goInt ys.length,_,Ww ht hk hmin hnew (w':=w.setRow (ρ id none).1 (cr us (lo*k') news)) (fun a2 ha'=>?_) (fun ha'=>?_),⟨ρ,hrel,ev,.dat (.v _ rfl)⟩⟩
   ·rcases ha with h9 | h9
    ·have e2:ys.length=0:=by omega
     have e3:news=[]:=List.eq_nil_of_length_eq_zero (by grind);subst e3;rw [j3 (by omega) (fun j v hv=>by grind),setRow_self w _ us t0 (0,0) g1];rfl
    grind [run_storeCells_at,cr]
   grind [List.eq_nil_of_length_eq_zero,j3,setRow_self]
  grind
 grind
end
section
variable {P:Program} {w w':World} {X:Nat→Prop} {ρ ρ':bq} {h h':ac} {A A':Nat→Prop}
theorem Pp (r:Rel w X ρ h) {t e:TypeId} {k:Nat} (ht:P.underlying t=some (.slice e)) (hk:bj P e=some k) (h0:0 < k) {x z:AV} {u:Value} {lo hi:Option AV} {lo' hi':Option Value} {ks:K}
  (hx:RV w (aD w X h ρ) ρ h x u) (hl:RVo w (aD w X h ρ) ρ h lo lo') (hh:RVo w (aD w X h ρ) ρ h hi hi') (hz:Dt h k x lo hi=some (z,h',ks)) :
  ∃ v,(Instr.sliceAt t u lo' hi' none).run P w=.ok v w∧Got w X ρ h w h' ks z v:=by
 have hsz:∀ w,(sizeOf e).run P w=.ok k w:=by
  simp only [bj,Option.map_eq_some_iff] at hk;obtain ⟨i,h1,h2⟩:=hk
  simp_all [sizeOf,typeInfo]
 have run:∀ (a:Option Addr) (n cap l r m:Nat),(Instr.sliceBounds true n cap lo' hi' none).run P w=.ok (l,r,m) w →
   (Instr.sliceAt t (.slice a n cap) lo' hi' none).run P w=.ok (.slice (if m=l then a else a.map (·.add (l*k))) (r - l) (m - l)) w:=by
  simp_all [Instr.sliceAt,Instr.slice,run_underlying]
 cases x <;> simp only [Dt] at hz <;> try (cases hz; done)
 rename_i id sub k' l0 n;cases sub with
 | some p=>grind
 | none =>
 simp only at hz;split at hz
 ·rename_i hkk;subst hkk;obtain ⟨a,cap,rfl,hp,hn,hb,ha⟩:=hx.rsl_inv;cases eo:h id <;> rw [eo] at hz <;> simp only [Gc] at hz <;> try (cases hz; done)
  rename_i k2 rows;split at hz
  ·rename_i hcond;obtain ⟨rfl,hs,hle⟩:=hcond;simp only [Option.map_eq_some_iff] at hz;obtain ⟨⟨l,r'⟩,h1,h2⟩:=hz;obtain ⟨rfl,rfl,rfl⟩:=h2;have ho:=r.ob id;rw [eo] at ho;obtain ⟨us,t0,g1,g2,g3,g4⟩:=ho;have hcap:rows.length≤l0+cap:=by
    have h5:rows.length*k2≤(l0+cap)*k2:=by omega
    exact Nat.le_of_mul_le_mul_right h5 h0
   obtain ⟨m,q2,q3,q4,q5,q6,q7,q8⟩:=o5 (P:=P) (cap:=cap) true hl hh .none h1 (by omega);cases hh with
   | none=>grind
   | some hv =>
   have q2':=q2;refine ⟨_,run _ _ _ _ _ _ q2',ρ,r,.refl _ _ _,.rsl _ _ _ _ _ _ _ hp (by omega) (by grind) ?_⟩;rcases ha with h0 | h0
   ·omega
   ·by_cases hml:m=l
    all_goals simp_all [if_neg,Option.map_some,jX,Nat.add_mul]
  grind
 grind
theorem Sd (r:Rel w X ρ h) {t:TypeId} (hg:nj P t=some false) {d:Nat} (hdp:aR d=false) {x z:AV} {u:Value} {ks:K}
  (hx:RV w (aD w X h ρ) ρ h x u) (hz:Ge h d x=some (z,h',ks)) :
  ∃ ad v,u=.pointer (some ad)∧(loadVar t ad).run P w=.ok v w∧Got w X ρ h w h' ks z v:=by
 cases x <;> simp only [Ge] at hz <;> try (cases hz; done)
 rename_i id sub k0 i j;cases sub with
 | some p=>grind
 | none =>
 simp only at hz;obtain ⟨rfl,hp⟩:=hx.ref_inv;cases eo:h id <;> rw [eo] at hz <;> simp only [Lr] at hz <;> try (cases hz; done)
 rename_i cs;obtain ⟨us,t0,g1,g2,g3,g4⟩:=r.cell eo;generalize hpp:i*k0+j=p at hz ⊢;cases ec:cs[p]? with
 | none=>grind [Dv]
 | some c =>
  rw [ec] at hz;obtain ⟨v,f1,f2⟩:=g4 p c ec;have hload:(loadVar t ⟨(ρ id none).1,p,none⟩).run P w=.ok v w:=yJ hg (by grind [ws]);refine ⟨_,v,rfl,hload,?_⟩;cases c <;> simp only [Dv] at hz <;> try (cases hz; done)
  ·obtain ⟨rfl,rfl,rfl⟩:=hz;exact ⟨ρ,r,.refl _ _ _,f2.1⟩
  ·rename_i k rows;obtain ⟨hd',rfl,rfl,rfl⟩:=jn hz;have hne:d ≠ id:=by grind [au]
   have hd:h d=.dead:=by grind [aH]
   obtain ⟨m1,m2⟩:=R8 r eo ec hdp hd;obtain ⟨a,cap,us1,t1,rfl,q2,q3,q4,q5,q6,q7⟩:=f2;refine ⟨_,m1,m2,.rsl d none k 0 rows.length cap a (by simp [bD,au]) q3 (by rw [bk,Nat.zero_add,q6,q5]) ?_⟩
   simp_all [bk,Nat.zero_mul]
theorem Pq (r:Rel w X ρ h) {k:Nat} (h0:0 < k) {id m:Nat} {rows ys:List (List AV)} (eo:h id=.ar k rows) (hfit:m+ys.length≤rows.length)
  {news:List Value} (n1:news.length=ys.length*k) (n3:bU w (aD w X h ρ) k ys news.toArray) :
  ∃ w',Rel w' X ρ (upd h id (.ar k (rows.take m++ys++rows.drop (m+ys.length))))∧Evo w ρ h w' ρ (upd h id (.ar k (rows.take m++ys++rows.drop (m+ys.length)))) [] ∧
   (storeCells ⟨(ρ id none).1,m*k,none⟩ news).run P w=.ok () w'∧(news=[]→w'=w):=by
 have hln:live h id none:=by grind [live]
 have ho:=r.ob id;rw [eo] at ho;obtain ⟨us,t0,g1,g2,g3,g4⟩:=ho;have hle:m*k+news.length≤us.size:=by
  have:(m+ys.length)*k≤rows.length*k:=Nat.mul_le_mul_right k hfit;grind
 have h1:∀ v ∈ news,v.oneCell'=true:=by
  intro v hv;obtain ⟨q,hq⟩:=List.getElem?_of_mem hv;have h3:q / k < ys.length:=Nat.div_lt_of_lt_mul (by grind);obtain ⟨f1,f2⟩:=n3 (q / k) _ (List.getElem?_eq_getElem h3);have h4:q % k < (ys[q / k]).length:=by simp_all [Nat.mod_lt]
  obtain ⟨v',f3,f4,f5⟩:=f2 (q % k) _ (List.getElem?_eq_getElem h4);have h5:q / k*k+q % k=q:=by grind [Nat.div_add_mod]
  rw [h5,List.getElem?_toArray,hq] at f3;cases f3;exact f4.one f5
 have hlive:∀ s,live (upd h id (.ar k (rows.take m++ys++rows.drop (m+ys.length)))) id s→live h id s:=by
  intro s h1;cases s with
  | none=>omega
  | some q=>obtain ⟨_,_,_,h2,_⟩:=h1; grind [au]
 have hkeep:∀ s,bD h id s→s=none:=by
  intro s hp;cases s with
  | none=>rfl
  | some q=>obtain ⟨_,_,_,h2,_⟩:=hp; grind
 have ev:Evo w ρ h (w.setRow (ρ id none).1 (cr us (m*k) news)) ρ (upd h id (.ar k (rows.take m++ys++rows.drop (m+ys.length)))) [] :=
  sT (X:=X) r hln _ hlive (fun s hp _=>by grind [bD,au]) (fun hbf=>by rw [eo] at hbf; cases hbf)
 have hrel:=og r hln _ hlive ev ⟨_,t0,setRow_heap w _ us _ t0 _ g1,by grind [cD],by grind [cD],JZ h0 (g4.mono fun b hb=>ev.al hb) (n3.mono fun b hb=>ev.al hb) n1 (by omega) g3⟩;grind [run_storeCells_at,cr,j3,setRow_self]
theorem Se (r:Rel w X ρ h) {t e ty:TypeId} {k:Nat} {zs:List AV} (ht:P.underlying t=some (.slice e)) (hk:bj P e=some k) (hzz:iS P e=some zs) (h0:0 < k) {x z:AV} {u:Value} {ks:K}
  (hx:RV w (aD w X h ρ) ρ h x u) (hz:H7 h k zs x=some (z,h',ks)) :
  ∃ v w',(Builtin.clear_ #[t] ty #[u]).run P w=.ok v w'∧Got w X ρ h w' h' ks z v:=by
 cases x <;> simp only [H7] at hz <;> try (cases hz; done)
 rename_i id sub k' lo n;cases sub with
 | some p=>grind
 | none =>
 simp only at hz;split at hz
 ·obtain ⟨a,cap,rfl,hp,hn,hb,ha⟩:=hx.rsl_inv;cases eo:h id <;> rw [eo] at hz <;> simp only [LV] at hz <;> try (cases hz; done)
  rename_i k2 rows;split at hz
  ·rename_i hcond;obtain ⟨rfl,hfit⟩:=hcond;obtain ⟨rfl,rfl,rfl⟩:=hz;obtain ⟨zv,z1,z2,z3,z4⟩:=uu (w:=w) (A:=aD w X h ρ) hk hzz n n (Nat.le_refl n);obtain ⟨ii,zw,y1,y2,y3,y4,_⟩:=jZ (w:=w) (A:=aD w X h ρ) (ρ:=ρ) (h:=h) hzz;have hzv:zv=zw:=by
    have h5:=z1 w;rw [Gp y1 y2 w] at h5;grind
   have hcs:zv.cells.size=k2:=by grind [bj]
   have hnews:(Builtin.zeroCells zv.cells n)=(Array.range (n*k2)).map (zv.cells[· % zv.cells.size]!):=by
    grind [Builtin.zeroCells]
   obtain ⟨w',m1,m2,m3,m4⟩:=Pq (P:=P) r h0 (m:=lo) (ys:=List.replicate n zs) (news:=(Builtin.zeroCells zv.cells n).toList) eo (by grind) (by grind) (by rw [Array.toArray_toList,hnews]; omega);rw [List.length_replicate] at m1 m2;refine ⟨.tuple #[],w',?_,ρ,m1,m2,.tup [] #[] rfl (fun i c u hc=>by grind)⟩;by_cases hn0:n=0
   ·subst hn0;have:(Builtin.zeroCells zv.cells 0).toList=[]:=by grind
    rw [m4 this];cases a <;> simp [Builtin.clear_,run_underlying ht]
   ·rcases ha with h9 | h9
    all_goals simp_all [Nat.exists_eq_succ_of_ne_zero,Builtin.clear_,run_underlying]
  grind
 grind
theorem Sf {z:Array Value} {n c:Nat} (hn:n≤c):Builtin.zeroCells z n++Builtin.zeroCells z (c - n)=(Array.range (c*z.size)).map (z[· % z.size]!):=by
 unfold Builtin.zeroCells;apply Array.ext
 ·simp only [Array.size_append,Array.size_map,Array.size_range];rw [← Nat.add_mul];grind
 ·intro i h1 h2;rw [Array.getElem_append];split
  ·simp
  ·rename_i h3;simp only [Array.size_map,Array.size_range] at h3;have:i % z.size=(i - n*z.size) % z.size:=by
    have h4:i=(i - n*z.size)+n*z.size:=by omega
    rw [h4,Nat.add_mul_mod_self_right,Nat.add_sub_cancel]
   grind
theorem Pr (r:Rel w X ρ h) {t u e ty:TypeId} {k b d:Nat} (hdp:aR d=false) {zs:List AV} (ht:P.underlying t=some (.slice e)) (hu:P.underlying u=some (.int .i64)) (hk:bj P e=some k) (hbb:mB P e=some b) (hzz:iS P e=some zs) (h0:0 < k) (hb0:0 < b)
  {x y z:AV} {ux uy:Value} {ks:K} (hx:RV w (aD w X h ρ) ρ h x ux) (hy:RV w (aD w X h ρ) ρ h y uy) (hr:Du h d k b zs x y=some (z,h',ks)) :
  ∃ v w',(Builtin.append_ #[t,u] ty #[ux,uy]).run P w=.ok v w'∧Got w X ρ h w' h' ks z v:=by
 unfold Du at hr;split at hr
 ·rename_i c;obtain ⟨a,rfl⟩:=hx.emp_inv;obtain ⟨rfl,_⟩:=hy.v_inv;split at hr
  ·rename_i hcond;obtain ⟨hc0,hfit⟩:=hcond;obtain ⟨n,rfl⟩:=Int.eq_ofNat_of_zero_le (show 0≤c by omega);rw [Int.toNat_natCast] at hr hfit;obtain ⟨i,zv,z1,z2,z3,z4,_⟩:=jZ (w:=w) (A:=aD w X h ρ) (ρ:=ρ) (h:=h) hzz;have hik:i.size=k:=by grind [bj]
   have hib:i.bytes=b:=by grind [mB]
   have hcs:zv.cells.size=k:=by omega
   obtain ⟨d3,d4⟩:=vU r;have hge:=grownCap_ge w (0+n) 0 e;obtain ⟨zw,y1,y2,y3,y4⟩:=uu (w:=w.drew) (A:=aD w.drew X h ρ) hk hzz n (grownCap w (0+n) 0 e) (by omega);have hzv:zw=zv:=by
    have h5:=y1 w;rw [Gp z1 z2 w] at h5;grind
   subst hzv;obtain ⟨rfl,ρ',q1,q2,q3⟩:=mE (t:=e) (cap:=grownCap w (0+n) 0 e) d3 hdp y4 y3 (by omega) (by rw [y2]) hr;refine ⟨_,_,?_,ρ',q1,d4.trans q2,q3⟩;have hnb:n≤140737488355328:=by
    have:n*1≤n*b:=Nat.mul_le_mul_left n hb0;omega
   have hw:IntKind.i64.wrap (n:Int)=n:=by grind [IntKind.wrap,IntKind.signed,IntKind.bits]
   have hn1:n ≠ 0:=by omega
   have h48:¬ (281474976710656 < (n:Int)*i.bytes):=by
    grind
   have hmax:¬ ((9223372036854775807:Int) < (n:Int)):=by omega
   have hns:¬ (281474976710656 < Builtin.nextslicecap n 0*i.bytes):=by
    simp_all [growslice_fits,bytes]
   have hb':i.bytes ≠ 0:=by omega
   have hk':i.size ≠ 0:=by omega
   have hneg:¬ ((n:Int) < 0):=by omega
   have hli:∀ w:World,(asInt (.int .i64 (n:Int))).run P w=.ok (n:Int) w:=fun _=>rfl;simp only [Nat.zero_add] at hge ⊢;simp [Builtin.append_,run_underlying ht,run_underlying hu,sizeOf,typeInfo,zeroValue,z1,z2,hli,hw,hn1,h48,hmax,hns,hb',hneg,Question.forced,newRow,grownCap,fW]
   simp_all [if_neg,Nat.mul_eq_zero,Sf,grownCap]
  grind
 ·rename_i id k' lo i c m;obtain ⟨a,rfl,hp,hn,hbd,ha⟩:=hx.rsc_inv;obtain ⟨rfl,_⟩:=hy.v_inv;split at hr
  ·rename_i hcond;obtain ⟨rfl,rfl,hm0,hroom⟩:=hcond;obtain ⟨n,rfl⟩:=Int.eq_ofNat_of_zero_le (show 0≤m by omega);rw [Int.toNat_natCast] at hr hroom;cases eo:h id <;> rw [eo] at hr <;> simp only [Gd] at hr <;> try (cases hr; done)
   rename_i k2 rows;split at hr
   ·rename_i hcond2;obtain ⟨rfl,hle,hfit⟩:=hcond2;have ho:=r.ob id;rw [eo] at ho;obtain ⟨us,t0,g1,g2,g3,g4⟩:=ho;obtain ⟨ii,zv,z1,z2,z3,z4,_⟩:=jZ (w:=w) (A:=aD w X h ρ) (ρ:=ρ) (h:=h) hzz;have hik:ii.size=k2:=by grind [bj]
    have hib:ii.bytes=b:=by grind [mB]
    have hcs:zv.cells.size=k2:=by omega
    have hlt:(rows.take i).length=i:=by grind
    obtain ⟨old,o1,o2,o3⟩:∃ old:List Value,old.length=(rows.take i).length*k2∧(∀ w2:World,w2.heap=w.heap→(Builtin.firstCells k2 i (.slice a i c)).run P w2=.ok old.toArray w2)∧bU w (aD w X h ρ) k2 (rows.take i) old.toArray:=by
     rw [hlt];by_cases hr0:i=0
     ·subst hr0;exact ⟨[],by simp,fun w2 _=>fW _ _ _ _ _,fun q row hq=>by grind⟩
     ·rcases ha with h9 | rfl
      ·omega
      ·obtain ⟨old,f1,f2,f3⟩:=qG (P:=P) (w:=w) (A:=aD w X h ρ) (o:=0) (n:=i) (l:=i) (cap:=c) g1 g4 (by omega) h0;grind
    obtain ⟨zw,y1,y2,y3,y4⟩:=uu (w:=w) (A:=aD w X h ρ) hk hzz n n (Nat.le_refl _);have hzv:zw=zv:=by
     have h5:=y1 w;rw [Gp z1 z2 w] at h5;grind
    subst hzv;have hnews:Builtin.zeroCells zw.cells n=(Array.range (n*k2)).map (zw.cells[· % zw.cells.size]!):=by
     grind [Builtin.zeroCells]
    have hz4:bU w (aD w X h ρ) k2 (List.replicate n zs) (Builtin.zeroCells zw.cells n).toList.toArray:=by
     rw [Array.toArray_toList,hnews];omega
    obtain ⟨d3,d4⟩:=vU r;have hge:=grownCap_ge w (i+n) c e;have hl2:(Builtin.zeroCells zw.cells n).toList.length=(List.replicate n zs).length*k2:=by grind
    have hrows:=B7 (w:=w) (A:=aD w X h ρ) (Builtin.zeroCells zw.cells (grownCap w (i+n) c e - (i+n))) o3 o1 hz4 hl2;have hsz:(old.toArray++(Builtin.zeroCells zw.cells n).toList.toArray++Builtin.zeroCells zw.cells (grownCap w (i+n) c e - (i+n))).size=grownCap w (i+n) c e*k2:=by
     simp only [Array.size_append,List.size_toArray,size_zeroCells,hcs,o1,hlt,hl2,List.length_replicate,← Nat.add_mul];grind
    have hlen:(rows.take i++List.replicate n zs).length=i+n:=by grind
    obtain ⟨rfl,ρ',q1,q2,q3⟩:=mE (t:=e) (cap:=grownCap w (i+n) c e) d3 hdp (hrows.mono fun b hb=>d4.al hb) (by simp_all [Nat.mul_le_mul_right]) hge hsz.symm hr;refine ⟨_,_,?_,ρ',q1,d4.trans q2,q3⟩;have hnb:(i+n)*1≤(i+n)*b:=Nat.mul_le_mul_left _ hb0;have hw:IntKind.i64.wrap (n:Int)=n:=by grind [IntKind.wrap,IntKind.signed,IntKind.bits]
    have hn1:n ≠ 0:=by omega
    have hnb2:n*b≤(i+n)*b:=Nat.mul_le_mul_right b (by omega);have h48:¬ (281474976710656 < (n:Int)*ii.bytes):=by
     grind
    have hmax:¬ ((9223372036854775807:Int) < (i:Int)+(n:Int)):=by omega
    have hcap:¬ (i+n≤c):=by omega
    have hns:¬ (281474976710656 < Builtin.nextslicecap (i+n) c*ii.bytes):=by
     simp_all [growslice_fits,bytes]
    have hb':ii.bytes ≠ 0:=by omega
    have hk':ii.size ≠ 0:=by omega
    have hneg:¬ ((n:Int) < 0):=by omega
    have hli:∀ w:World,(asInt (.int .i64 (n:Int))).run P w=.ok (n:Int) w:=fun _=>rfl;have ho2:=o2 w.drew rfl;simp [Builtin.append_,run_underlying ht,run_underlying hu,sizeOf,typeInfo,zeroValue,z1,z2,hli,hw,h48,hmax,hns,hb',hneg,hcap,Question.forced,newRow,grownCap,hik,ho2];grind
   grind
  grind
 grind
end
section
variable {P:Program} {w w':World} {X:Nat→Prop} {ρ ρ':bq} {h h':ac} {s:ae} {a:Act}
theorem Es (hs:RS w (aD w X h ρ) ρ h s a.tmps):∀ (ps:List (Nat × Operand)) (q:List (Nat × Opd)),zk ps=some q→q.length=ps.length ∧
  ∀ (m:Nat) (p:Nat × Opd) (v:Nat × Operand),q[m]?=some p→ps[m]?=some v→v.1=p.1∧RV w (aD w X h ρ) ρ h (ev s p.2) (a.eval v.2)
 | [],q,hq=>by grind [zk]
 | (i,x)::ps,q,hq=>by
  simp only [zk,Option.bind_eq_some_iff] at hq;obtain ⟨y,h1,q',h2,h3⟩:=hq;cases h3;obtain ⟨g1,g2⟩:=Es hs ps q' h2;refine ⟨by simp [g1],fun m p v e1 e2=>?_⟩;cases m with
  | zero=>simp at e1 e2; subst e1 e2; exact ⟨rfl,aN h1 hs⟩
  | succ m=>exact g2 m p v (by simpa using e1) (by simpa using e2)
theorem ll {α:Type} {x:Option α} {f:α→POp} {y:AOp} (hc:(x.map fun a=>AOp.p (f a))=some y):∃ p,y=.p p:=by
 grind [Option.map_eq_some_iff]
theorem cF {α:Type} {x:Option α} {f:α→Option AOp} {y:AOp} (hf:∀ a,f a=some y→∃ p,y=.p p) (hc:x.bind f=some y):∃ p,y=.p p:=by
 grind [Option.bind_eq_some_iff]
theorem aaW {c:Prop} [Decidable c] {p:POp} {y:AOp} (hc:(if c then none else some (AOp.p p))=some y):∃ p,y=.p p:=by
 grind
theorem Sg {u:TypeId} (h:RG P u=true):P.underlying u=some (.int .i64):=by
 grind [RG]
theorem Wx {op:Op} {aop:AOp} {call:dP} {md:Mode} (hc:B0 P op=some aop) (hnc:∀ f zas,aop ≠ .call f zas) (r:Rel w X ρ h) (hs:RS w (aD w X h ρ) ρ h s a.tmps) {d:Nat} (hdp:aR d=false) {z:AV} {ks:K}
  (hz:step call md d aop s h=some (z,h',ks)) (o:Oper) (ho:o.op=op) :
  ∃ nx v w',(execOp a.eval o).run P w=.ok nx w'∧(nx=.value v∨(nx=.skip∧v=undef))∧Got w X ρ h w' h' ks z v:=by
 have fin:∀ {m:Sem Value},(∃ v w',m.run P w=.ok v w'∧Got w X ρ h w' h' ks z v)→∃ nx v w',(do pure (.value (← m)):Sem Next).run P w=.ok nx w'∧(nx=.value v∨(nx=.skip∧v=undef))∧Got w X ρ h w' h' ks z v:=by
  intro m hm;obtain ⟨v,w',h1,h2⟩:=hm;exact ⟨_,v,w',by simp_all,.inl rfl,h2⟩
 by_cases hp:∃ pop,aop=.p pop
 ·obtain ⟨pop,rfl⟩:=hp;simp only [step,wD,Option.map_eq_some_iff,Prod.mk.injEq] at hz;obtain ⟨z',h1,rfl,rfl,rfl⟩:=hz;obtain ⟨v,g1,g2⟩:=RY hc hs h1 o ho;exact ⟨_,v,w,g1,.inl rfl,ρ,r,.refl _ _ _,g2⟩
 ·cases op <;> simp only [B0] at hc
  case alloc =>
   simp only [Option.map_eq_some_iff] at hc;obtain ⟨zs,h1,h2⟩:=hc;cases h2;simp only [execOp,ho];exact fin (Pm r h1 hdp hz)
  case box =>
   simp only [Option.bind_eq_some_iff,Option.map_eq_some_iff] at hc;obtain ⟨k,h1,y,h2,h3⟩:=hc;cases h3;simp only [execOp,ho];exact fin (R4 r hdp (aN h2 hs) hz)
  case buildSlice t n ps =>
   simp only [Dy,Option.bind_eq_some_iff] at hc;obtain ⟨e,h1,k,h2,hc⟩:=hc;split at hc
   ·rename_i hn;simp only [Option.bind_eq_some_iff,Option.map_eq_some_iff] at hc;obtain ⟨zs,h3,q,h4,h5⟩:=hc;cases h5;obtain ⟨g1,g2⟩:=Es hs _ _ h4;simp only [execOp,ho];simp only [step] at hz;refine fin (KL r hdp h1 h2 h3 hn.1 (by grind) (fun m p v e1 e2=>?_) hz);grind
   grind
  case makeSlice t l c =>
   simp only [Lt,Option.bind_eq_some_iff] at hc;obtain ⟨l',h1,c',h2,e,h3,k,h4,b,h5,hc⟩:=hc;split at hc
   ·simp only [Option.map_eq_some_iff] at hc;obtain ⟨zs,h6,h7⟩:=hc;cases h7;simp only [execOp,ho];exact fin (R6 r hdp h3 h4 h5 h6 (aN h1 hs) (aN h2 hs) hz)
   grind
  case load t x =>
   simp only [Option.bind_eq_some_iff] at hc;obtain ⟨g,h1,k,h2,y,h3,hc⟩:=hc;split at hc
   ·cases hc;obtain ⟨ad,v,g1,g2,g3,g4,g5⟩:=Eo (P:=P) r h1 h2 (aN h3 hs) hz;simp only [execOp,ho];exact fin ⟨v,w,by rw [g1]; exact g2,ρ,g3,g4,g5⟩
   grind
  case store t x y =>
   simp only [Option.bind_eq_some_iff,Option.map_eq_some_iff] at hc;obtain ⟨k,h1,x',h2,y',h3,h4⟩:=hc;cases h4;obtain ⟨ad,w',ρ',rfl,g1,g2,g3,g4⟩:=Me (P:=P) r h1 (aN h2 hs) (aN h3 hs) hz;simp only [execOp,ho];refine ⟨.skip,undef,w',?_,.inr ⟨rfl,rfl⟩,ρ',g3,g4,.und⟩;have:(Instr.storeAt t (a.eval x) (a.eval y)).run P w=.ok () w':=by rw [g1]; exact g2
   simp_all
  case call c =>
   unfold Lw at hc;split at hc
   ·rename_i b hb;have run:∀ (args:Array Value),args=c.args.map a.eval→(execOp a.eval o).run P w=(builtin b c.argTypes o.type (c.args.map fun | .const _=>true | _=>false) args).run P w:=by
     grind [execOp,resolve,Sem.run_bind,Sem.run_pure,Result.andThen,invoke]
    unfold Ap at hc;split at hc
    ·exact absurd (cF (fun _ h=>ll h) hc) hp
    ·exact absurd (cF (fun _ h=>ll h) hc) hp
    ·exact absurd (cF (fun _ h=>ll h) hc) hp
    ·exact absurd (cF (fun _ h=>ll h) hc) hp
    ·unfold RH at hc;split at hc
     ·rename_i t u x y e1 e2;have hargs:c.args.map a.eval=#[a.eval x,a.eval y]:=Array.toList_inj.1 (by simp [e2]);have hts:c.argTypes=#[t,u]:=Array.toList_inj.1 (by omega);split at hc
      ·rename_i hi64;simp only [Lu,Option.bind_eq_some_iff] at hc;obtain ⟨e,q1,k,q3,b,q4,x',q5,y',q6,zs,hzs,hc⟩:=hc;split at hc
       ·rename_i hcond;cases hc;rw [run _ rfl,hargs,hts];exact fin (Pr r hdp (j5 q1) (Sg hi64) q3 q4 hzs hcond.1 hcond.2 (aN q5 hs) (aN q6 hs) hz)
       grind
      ·simp only [Option.bind_eq_some_iff] at hc;obtain ⟨e,q1,e',q2,k,q3,b,q4,x',q5,y',q6,hc⟩:=hc;split at hc
       ·rename_i hcond;cases hc;obtain ⟨zs,hzs⟩:=Option.isSome_iff_exists.1 hcond.2.2;rw [run _ rfl,hargs,hts];exact fin (R9 r (j5 q1) (j5 q2) q3 q4 hzs hcond.1 hcond.2.1 hdp (aN q5 hs) (aN q6 hs) hz)
       grind
     grind
    ·unfold Lv at hc;split at hc
     ·rename_i t u x y e1 e2;simp only [Option.bind_eq_some_iff] at hc;obtain ⟨e,q1,k,q3,x',q5,y',q6,hc⟩:=hc;split at hc
      ·rename_i hcond;cases hc;have hargs:c.args.map a.eval=#[a.eval x,a.eval y]:=Array.toList_inj.1 (by simp [e2]);have hts:c.argTypes=#[t,u]:=Array.toList_inj.1 (by omega);rw [run _ rfl,hargs,hts];obtain ⟨v,w',g1,g2⟩:=Sc (P:=P) (u:=u) (ty:=o.type) r (j5 q1) q3 hcond (aN q5 hs) (aN q6 hs) hz;refine ⟨.value v,v,w',?_,.inl rfl,g2⟩;show (do pure (.value (← Builtin.copy_ #[t,u] o.type #[a.eval x,a.eval y])):Sem Next).run P w=_
       simp_all
      grind
     grind
    ·unfold Gi at hc;split at hc
     ·rename_i t x e1 e2;simp only [Option.bind_eq_some_iff] at hc;obtain ⟨e,q1,k,q3,x',q5,zs,hzs,hc⟩:=hc;split at hc
      ·rename_i hcond;cases hc;have hargs:c.args.map a.eval=#[a.eval x]:=Array.toList_inj.1 (by simp [e2]);have hts:c.argTypes=#[t]:=Array.toList_inj.1 (by omega);rw [run _ rfl,hargs,hts];exact fin (Se (P:=P) (ty:=o.type) r (j5 q1) q3 hzs hcond (aN q5 hs) hz)
      grind
     grind
    grind
   all_goals grind [Option.bind_eq_some_iff,Option.map_eq_some_iff,absurd]
  case makeFunc fn _ _ =>
   cases fn
   ·exact absurd (cF (fun _ h=>ll h) hc) hp
   all_goals grind
  all_goals first
   | (cases hc; done)
   | exact absurd (ll hc) hp
   | exact absurd (cF (fun _ h=>ll h) hc) hp
   | exact absurd (cF (fun _ h=>cF (fun _ h=>ll h) h) hc) hp
   | exact absurd (cF (fun _ h=>cF (fun _ h=>cF (fun _ h=>ll h) h) h) hc) hp
   | exact absurd (cF (fun _ h=>cF (fun _ h=>cF (fun _ h=>cF (fun _ h=>ll h) h) h) h) hc) hp
   | exact absurd (cF (fun _ h=>cF (fun _ h=>cF (fun _ h=>aaW h) h) h) hc) hp
theorem Ud {op:Op} {hint aop:AOp} {call:dP} {md:Mode} (hc:L8 P hint op=some aop) (hnc:∀ f zas,aop ≠ .callC f zas) (r:Rel w X ρ h) (hs:RS w (aD w X h ρ) ρ h s a.tmps) {d:Nat} (hdp:aR d=false) {z:AV} {ks:K}
  (hz:step call md d aop s h=some (z,h',ks)) (o:Oper) (ho:o.op=op) :
  (∃ nx v w',(execOp a.eval o).run P w=.ok nx w'∧(nx=.value v∨(nx=.skip∧v=undef))∧Got w X ρ h w' h' ks z v)∧∀ f zas,aop ≠ .call f zas:=by
 have fin:∀ {m:Sem Value},(∃ v w',m.run P w=.ok v w'∧Got w X ρ h w' h' ks z v)→∃ nx v w',(do pure (.value (← m)):Sem Next).run P w=.ok nx w'∧(nx=.value v∨(nx=.skip∧v=undef))∧Got w X ρ h w' h' ks z v:=by
  intro m hm;obtain ⟨v,w',h1,h2⟩:=hm;exact ⟨_,v,w',by simp_all,.inl rfl,h2⟩
 unfold L8 at hc;split at hc
 ·simp only [Option.bind_eq_some_iff] at hc;obtain ⟨e,q1,k,q2,x',q3,lo',q4,hi',q5,hc⟩:=hc;split at hc
  ·rename_i h0;cases hc;refine ⟨?_,fun f zas h=>by grind⟩;simp only [execOp,ho];obtain ⟨v,g1,g2⟩:=Pp (P:=P) r (j5 q1) q2 h0 (aN q3 hs) (lN q4 hs) (lN q5 hs) hz;exact fin ⟨v,w,g1,g2⟩
  grind
 ·grind [Option.bind_eq_some_iff,Option.map_eq_some_iff,absurd]
 ·rename_i t x;simp only [Option.bind_eq_some_iff] at hc;obtain ⟨g,q1,x',q2,hc⟩:=hc;split at hc
  ·grind
  ·cases hc;refine ⟨?_,fun f zas h=>by grind⟩;obtain ⟨ad,v,g1,g2,g3⟩:=Sd (P:=P) r (by simpa [Bool.not_eq_true] using (by grind:nj P t=some false)) hdp (aN q2 hs) hz;simp only [execOp,ho];exact fin ⟨v,w,by rw [g1]; exact g2,g3⟩
 grind
end
structure Inv where
 p:World→(Nat→Prop)→Prop
 stab:∀ {w w':World} {X:Nat→Prop},p w X→(∀ b,XZ X b→w'.heap[b]?=w.heap[b]?)→p w' X
 more:∀ {w:World} {X X':Nat→Prop},p w X→(∀ b,X b→X' b)→p w X'
structure Far (nm:Bool) (w:World) (ρ:bq) (h:ac) (w':World) (ρ':bq) (h':ac):Prop where
 os:w'.os=w.os
 tape:w'.tape=w.tape
 output:w'.output=w.output
 size:w.heap.size≤w'.heap.size
 old:∀ b,b < w.heap.size→¬ mD h ρ b→w'.heap[b]?=w.heap[b]?
 fresh:∀ b,mD h' ρ' b→mD h ρ b∨w.heap.size≤b
 stay:∀ id,aR id=true→h' id ≠ .dead→h id ≠ .dead∧ρ' id none=ρ id none
 keep:nm=true→∀ id p,aR id=true→h' id ≠ .dead→bD h id (some p)→bD h' id (some p)∧ρ' id (some p)=ρ id (some p)
theorem Wy {nm:Bool} {ks:K} (h:lS nm ks=true) (hn:nm=true) {id:Nat} (hp:aR id=true) (s:Option Nat):fR ks id s=false:=by
 simp only [lS,Bool.not_true,Bool.false_or,List.all_eq_true,Bool.not_eq_true'] at h;simp only [fR,List.any_eq_false,Bool.and_eq_true,beq_iff_eq,not_and];grind
theorem Evo.far {nm:Bool} {w w':World} {ρ ρ':bq} {h h':ac} {ks:K} (e:Evo w ρ h w' ρ' h' ks) (hn:lS nm ks=true):Far nm w ρ h w' ρ' h' :=
 ⟨e.os,e.tape,e.output,e.size,e.old,e.fresh,e.stay,fun h1 id p hp _ h2=>e.keep id (some p) h2 (Wy hn h1 hp _)⟩
theorem kC (nm:Bool):lS nm []=true:=by cases nm <;> rfl
theorem Far.refl (nm:Bool) (w:World) (ρ:bq) (h:ac):Far nm w ρ h w ρ h:=(Evo.refl w ρ h).far (kC nm)
theorem Far.trans {nm:Bool} {w w' w'':World} {ρ ρ' ρ'':bq} {h h' h'':ac} (a:Far nm w ρ h w' ρ' h') (b:Far nm w' ρ' h' w'' ρ'' h''):Far nm w ρ h w'' ρ'' h'' :=
 ⟨b.os.trans a.os,b.tape.trans a.tape,b.output.trans a.output,Nat.le_trans a.size b.size,
  fun x hx ho=>(b.old x (Nat.lt_of_lt_of_le hx a.size) (fun o=>by rcases a.fresh x o with o | o; all_goals grind)).trans (a.old x hx ho),
  fun x o=>by
   rcases b.fresh x o with o | o
   ·exact a.fresh x o
   ·exact .inr (Nat.le_trans a.size o),
  fun id hp hd=>by
   obtain ⟨h1,h2⟩:=b.stay id hp hd;obtain ⟨h3,h4⟩:=a.stay id hp h1;grind,
  fun hn id p hp hd h1=>by
   obtain ⟨h2,h3⟩:=a.keep hn id p hp (b.stay id hp hd).1 h1;obtain ⟨h4,h5⟩:=b.keep hn id p hp hd h2;grind⟩
theorem Far.inv {I:Inv} {nm:Bool} {w w':World} {X:Nat→Prop} {ρ ρ':bq} {h h':ac} (f:Far nm w ρ h w' ρ' h') (r:Rel w X ρ h) (hi:I.p w X):I.p w' X :=
 I.stab hi fun b hb=>f.old b (r.xl b hb) fun ⟨id,sub,hl,e⟩=>r.nx id sub hl (e ▸ hb)
theorem Evo.inv {I:Inv} {w w':World} {X:Nat→Prop} {ρ ρ':bq} {h h':ac} {ks:K} (f:Evo w ρ h w' ρ' h' ks) (r:Rel w X ρ h) (hi:I.p w X):I.p w' X:=(f.far (nm:=false) rfl).inv r hi
def Enters (P:Program) (f:FuncId) (vals:Array Value) (w:World) (R:Value→World→Prop):Prop :=
 match (callFunc f vals).run P w with
 | .ok (.value v) w'=>R v w'
 | .ok (.enter g args) w'=>Calls P g args w' fun e w''=>match e with | .returned v=>R v w'' | _=>False
 | .ok (.row row args) w'=>Rows P row args w' R
 | _=>False
theorem Enters.mono {P:Program} {f:FuncId} {vals:Array Value} {w:World} {R R':Value→World→Prop} (h:Enters P f vals w R) (hr:∀ v w',R v w'→R' v w'):Enters P f vals w R':=by
 unfold Enters at *
 grind [Calls.mono,Rows.mono]
def iZ (P:Program) (I:Inv) (call:dP) (md:Mode):Prop :=
 ∀ {w:World} {X:Nat→Prop} {ρ:bq} {h h':ac} {d:Nat} {f z:AV} {zas:List AV} {ks:K} {uf:Value} {us:Array Value},d < 1000→I.p w X→Rel w X ρ h→RV w (aD w X h ρ) ρ h f uf→us.size=zas.length →
  (∀ (i:Nat) (c:AV) (u:Value),zas[i]?=some c→us[i]?=some u→RV w (aD w X h ρ) ρ h c u)→bE call md h d zas f=some (z,h',ks) →
  ∃ g first cap,uf=.func (.func g) first cap∧Enters P g (first++us++cap) w fun v w'=>Got w X ρ h w' h' ks z v
section
variable {P:Program} {w:World} {X:Nat→Prop} {ρ:bq} {h:ac} {s:ae} {a:Act} {call:dP} {md:Mode} {N:Nat} {ops:Array Oper} {Q:Exit→Act→World→Prop} {I:Inv}
structure Ok (I:Inv) (N:Nat) (w:World) (X:Nat→Prop) (ρ:bq) (h:ac) (s:ae) (a:Act):Prop where
 rel:Rel w X ρ h
 rs:RS w (aD w X h ρ) ρ h s a.tmps
 size:N≤a.tmps.size
 defers:a.defers=[]
 inv:I.p w X
theorem Ok.put {w':World} {ρ':bq} {h':ac} {ks:K} {z:AV} {v:Value} (ok:Ok I N w X ρ h s a) (r:Rel w' X ρ' h') (e:Evo w ρ h w' ρ' h' ks) (hv:RV w' (aD w' X h' ρ') ρ' h' z v) {d:Option Nat} (hd:d.getD 0 < N) :
  Ok I N w' X ρ' h' (dN (ir ks s) d z) (a.put d v):=by
 have h1:=e.rs (X:=X) ok.rs;cases d with
 | none=>exact ⟨r,h1,ok.size,ok.defers,e.inv ok.rel ok.inv⟩
 | some d=>exact ⟨r,h1.upd (Nat.lt_of_lt_of_le hd ok.size) hv,by simpa [Act.put] using ok.size,ok.defers,e.inv ok.rel ok.inv⟩
theorem Ue {d:Nat} (hd:d < 1000):aR d=false:=by grind [aR,decide_eq_false_iff_not]
theorem P8 (hcall:iZ P I call md) (hN:N≤1000) {o:Oper} {c:Call} {fo:Operand} {f:Opd} {zas:List Opd} (ho:o.op=.call c) (hfo:c.callee=.value fo) (h1:bN fo=some f) (h2:lW c.args.toList=some zas)
  (hd:o.dst.getD 0 < N) (ok:Ok I N w X ρ h s a) {z:AV} {h':ac} {ks:K} (hz:bE call md h (o.dst.getD 0) (zas.map (ev s)) (ev s f)=some (z,h',ks))
  {K':Act→World→Prop} (fin:∀ v w',Got w X ρ h w' h' ks z v→K' (a.put o.dst v) w'):o.wp P a w K' Q:=by
 obtain ⟨l1,l2⟩:=qU ok.rs h2;obtain ⟨g,first,cap,e1,e2⟩:=hcall (us:=c.args.map a.eval) (Nat.lt_of_lt_of_le hd hN) ok.inv ok.rel (aN h1 ok.rs) (by grind) (fun i c' u hc' hu=>by
  grind) hz
 have hrun:(execOp a.eval o).run P w=(callFunc g (first++c.args.map a.eval++cap)).run P w:=by
  grind [execOp,resolve,Deferred.ofValue,invoke,Sem.run_bind,Sem.run_pure,Result.andThen]
 unfold Oper.wp;rw [hrun];unfold Enters at e2;generalize (callFunc g (first++c.args.map a.eval++cap)).run P w=res at e2;cases res with
 | ok n w' =>
  cases n <;> simp only at e2
  case value v=>exact fin _ _ e2
  case enter g' args' =>
   show Calls P g' args' w' _;grind [Calls.mono]
  case row row args'=>exact Rows.mono e2 fin
 | halt x w'=>grind
theorem Si {d:Nat} {r z:R3} {w':World} {v:Value} (hg:Got w X ρ h w' r.2.1 r.2.2 r.1 v) (hz:ry d r=some z):Got w X ρ h w' z.2.1 z.2.2 z.1 v:=by
 obtain ⟨x,h1,k1⟩:=r;unfold ry at hz;split at hz
 ·rename_i id k lo n he;split at hz
  ·simp only [Option.map_eq_some_iff] at hz;obtain ⟨q,e1,rfl⟩:=hz;obtain ⟨ρ',g1,g2,g3⟩:=hg;subst he;obtain ⟨a,cap,rfl,_⟩:=g3.rsl_inv;obtain ⟨f1,f2,f3⟩:=vT g1 g3 (fun _ hb=>hb) rfl e1;exact ⟨ρ',f1,g2.trans f2,.dat f3.1⟩
  grind
 grind
theorem ac7 (hcall:iZ P I call md) (hN:N≤1000) {o:Oper} {hint aop:AOp} (hc:Wr P hint o.op=some aop) (hd:o.dst.getD 0 < N) (ok:Ok I N w X ρ h s a) {z:AV} {h':ac} {ks:K} (hz:step call md (o.dst.getD 0) aop s h=some (z,h',ks)) (hnm:lS md.nm ks=true)
  {K':Act→World→Prop} (hK:∀ a' w' ρ',Ok I N w' X ρ' h' (dN (ir ks s) o.dst z) a'→Far md.nm w ρ h w' ρ' h'→K' a' w'):o.wp P a w K' Q:=by
 have hdp:aR (o.dst.getD 0)=false:=Ue (Nat.lt_of_lt_of_le hd hN);unfold Wr at hc;cases halt:L8 P hint o.op with
 | some a0 =>
  rw [halt] at hc;obtain rfl:=Option.some.inj hc;by_cases hcc:∃ f zas,a0=.callC f zas
  ·obtain ⟨f,zas,rfl⟩:=hcc;have hop:∃ c fo,o.op=.call c∧c.callee=.value fo∧bN fo=some f∧lW c.args.toList=some zas:=by
    unfold L8 at halt;split at halt
    ·simp only [Option.bind_eq_some_iff] at halt;obtain ⟨_,_,_,_,_,_,_,_,_,_,halt⟩:=halt;split at halt <;> cases halt
    ·rename_i c hop;split at halt
     ·rename_i fo hfo;simp only [Option.bind_eq_some_iff,Option.map_eq_some_iff] at halt;obtain ⟨f',h1,l,h2,h3⟩:=halt;cases h3;exact ⟨c,fo,hop,hfo,h1,h2⟩
     ·cases halt
    ·simp only [Option.bind_eq_some_iff] at halt;obtain ⟨_,_,_,_,halt⟩:=halt;split at halt <;> cases halt
    ·cases halt
   obtain ⟨c,fo,ho,hfo,h1,h2⟩:=hop;simp only [step,Option.bind_eq_some_iff] at hz;obtain ⟨r,e1,e2⟩:=hz;exact P8 hcall hN ho hfo h1 h2 hd ok (z:=r.1) (h':=r.2.1) (ks:=r.2.2) e1 fun v w' hg=>by
    obtain ⟨ρ',g1,g2,g3⟩:=Si hg e2;exact hK _ _ ρ' (ok.put g1 g2 g3 hd) (g2.far hnm)
  obtain ⟨⟨nx,v,w',g1,g2,ρ',g3,g4,g5⟩,_⟩:=Ud halt (fun f zas e=>hcc ⟨f,zas,e⟩) ok.rel ok.rs hdp hz o rfl;unfold Oper.wp;rw [g1];rcases g2 with rfl | ⟨rfl,rfl⟩
  ·exact hK _ _ ρ' (ok.put g3 g4 g5 hd) (g4.far hnm)
  ·exact hK _ _ ρ' (ok.put g3 g4 g5 hd) (g4.far hnm)
 | none =>
 rw [halt] at hc;simp only at hc
 replace hc:B0 P o.op=some aop:=by
  simp only [cOp,Option.some.injEq] at hc;cases h0:B0 P o.op with
  | none=>rw [h0] at hc; simp only [Option.getD_none] at hc; subst hc; cases hz
  | some q=>rw [h0] at hc; simp only [Option.getD_some] at hc; rw [hc]
 by_cases hcl:∃ f zas,aop=.call f zas
 ·obtain ⟨f,zas,rfl⟩:=hcl;have hop:∃ c fo,o.op=.call c∧c.callee=.value fo∧bN fo=some f∧lW c.args.toList=some zas:=by
   cases ho:o.op <;> rw [ho] at hc <;> simp only [B0] at hc
   case call c =>
    unfold Lw at hc;split at hc
    ·exfalso;unfold Ap at hc;split at hc
     ·obtain ⟨p,hp⟩:=cF (fun _ h=>ll h) hc; cases hp
     ·obtain ⟨p,hp⟩:=cF (fun _ h=>ll h) hc; cases hp
     ·obtain ⟨p,hp⟩:=cF (fun _ h=>ll h) hc; cases hp
     ·obtain ⟨p,hp⟩:=cF (fun _ h=>ll h) hc; cases hp
     ·unfold RH at hc;split at hc
      ·split at hc
       ·simp only [Lu,Option.bind_eq_some_iff] at hc;obtain ⟨_,_,_,_,_,_,_,_,_,_,_,_,hc⟩:=hc;split at hc <;> cases hc
       ·simp only [Option.bind_eq_some_iff] at hc;obtain ⟨_,_,_,_,_,_,_,_,_,_,_,_,hc⟩:=hc;split at hc <;> cases hc
      ·cases hc
     ·unfold Lv at hc;split at hc
      ·simp only [Option.bind_eq_some_iff] at hc;obtain ⟨_,_,_,_,_,_,_,_,hc⟩:=hc;split at hc <;> cases hc
      ·cases hc
     ·unfold Gi at hc;split at hc
      ·simp only [Option.bind_eq_some_iff] at hc;obtain ⟨_,_,_,_,_,_,_,_,hc⟩:=hc;split at hc <;> cases hc
      ·cases hc
     ·cases hc
    ·rename_i fo hfo;simp only [Option.bind_eq_some_iff,Option.map_eq_some_iff] at hc;obtain ⟨f',h1,l,h2,h3⟩:=hc;cases h3;exact ⟨c,fo,rfl,hfo,h1,h2⟩
    ·cases hc
   case makeFunc fn _ _ =>
    cases fn
    ·obtain ⟨p,hp⟩:=cF (fun _ h=>ll h) hc; cases hp
    all_goals cases hc
   case alloc=>simp [Option.map_eq_some_iff] at hc
   case box=>simp [Option.bind_eq_some_iff] at hc
   case buildSlice =>
    simp only [Dy,Option.bind_eq_some_iff] at hc;obtain ⟨_,_,_,_,hc⟩:=hc;split at hc
    ·simp [Option.bind_eq_some_iff] at hc
    ·cases hc
   case makeSlice =>
    simp only [Lt,Option.bind_eq_some_iff] at hc;obtain ⟨_,_,_,_,_,_,_,_,_,_,hc⟩:=hc;split at hc
    ·simp at hc
    ·cases hc
   case load =>
    simp only [Option.bind_eq_some_iff] at hc;obtain ⟨_,_,_,_,_,_,hc⟩:=hc;split at hc <;> cases hc
   case store=>simp [Option.bind_eq_some_iff] at hc
   all_goals first
    | (cases hc; done)
    | (obtain ⟨p,hp⟩:=ll hc; cases hp; done)
    | (obtain ⟨p,hp⟩:=cF (fun _ h=>ll h) hc; cases hp; done)
    | (obtain ⟨p,hp⟩:=cF (fun _ h=>cF (fun _ h=>ll h) h) hc; cases hp; done)
    | (obtain ⟨p,hp⟩:=cF (fun _ h=>cF (fun _ h=>cF (fun _ h=>ll h) h) h) hc; cases hp; done)
    | (obtain ⟨p,hp⟩:=cF (fun _ h=>cF (fun _ h=>cF (fun _ h=>cF (fun _ h=>ll h) h) h) h) hc; cases hp; done)
    | (obtain ⟨p,hp⟩:=cF (fun _ h=>cF (fun _ h=>cF (fun _ h=>aaW h) h) h) hc; cases hp; done)
  obtain ⟨c,fo,ho,hfo,h1,h2⟩:=hop;exact P8 hcall hN ho hfo h1 h2 hd ok hz fun v w' ⟨ρ',g1,g2,g3⟩=>hK _ _ ρ' (ok.put g1 g2 g3 hd) (g2.far hnm)
 ·obtain ⟨nx,v,w',g1,g2,ρ',g3,g4,g5⟩:=Wx hc (fun f zas e=>hcl ⟨f,zas,e⟩) ok.rel ok.rs hdp hz o rfl;unfold Oper.wp;rw [g1];rcases g2 with rfl | ⟨rfl,rfl⟩
  ·exact hK _ _ ρ' (ok.put g3 g4 g5 hd) (g4.far hnm)
  ·exact hK _ _ ρ' (ok.put g3 g4 g5 hd) (g4.far hnm)
end
end Go.Ab
