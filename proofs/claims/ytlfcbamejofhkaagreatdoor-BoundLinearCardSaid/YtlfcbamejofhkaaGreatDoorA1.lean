/-
  The statement BoundLinear holds of the given program: its card, with the tied table of bits.TrailingZeros32; no further conditions. Part A1.
-/
import GoSem.Core.Code
import GoSem.Core.View
import Derived.Calls
import Derived.Laws.World
import Derived.Laws.Sem
import Derived.Below
import GoSem.Core.Program
import GoSem.Core.Region
import Derived.Laws.Slices
import Derived.Laws.Entries
import Derived.Laws.Cells
import Derived.Laws.CopyRow
import Derived.Laws.AppendOwn
namespace Go.Ab
open Go
inductive AV where
 | any
 | und
 | v (x:Value)
 | emp
 | sl (k:Nat) (rows:List (List AV))
 | osl (k:Nat) (rows:List (List AV))
 | obx (cs:List AV)
 | agg (cs:List AV)
 | tup (vs:List AV)
 | ref (id:Nat) (sub:Option Nat) (k i j:Nat)
 | rsl (id:Nat) (sub:Option Nat) (k lo n:Nat)
 | ipt (cs:List AV)
 | fn (f:FuncId) (first cap:List AV)
 deriving Inhabited
abbrev I (n:Int):AV := .v (.int .i64 n)
abbrev U (n:Int):AV := .v (.int .u32 n)
abbrev W (n:Int):AV := .v (.int .u64 n)
abbrev B (b:Bool):AV := .v (.bool b)
abbrev S (x:ByteArray):AV := .v (.string x)
inductive Ob where
 | dead
 | bx (cs:List AV)
 | ar (k:Nat) (rows:List (List AV))
 | fz (k:Nat) (rows:List (List AV))
 deriving Inhabited
abbrev aj:=Nat→AV
abbrev ac:=Nat→Ob
def upd {α:Type} (s:Nat→α) (d:Nat) (x:α):Nat→α:=fun i=>if i=d then x else s i
theorem cY {α:Type} (s:Nat→α) (d:Nat) (x:α) (i:Nat):upd s d x i=if i=d then x else s i:=_root_.id rfl
structure St where
 s:aj
 h:ac
inductive Opd where
 | t (n:Nat)
 | c (a:AV)
inductive POp where
 | mv (x:Opd)
 | pick (c a b:Opd)
 | nilck (x:Opd)
 | nilq (neq:Bool) (x:Opd)
 | bin (op:BinOp) (x y:Opd)
 | un (op:UnOp) (x:Opd)
 | cv (k:IntKind) (x:Opd)
 | cv0 (x:Opd)
 | slc (k:Nat) (x:Opd) (lo hi mx:Option Opd)
 | slcS (x:Opd) (lo hi:Option Opd)
 | fadr (off:Nat) (x:Opd)
 | fld (off k:Nat) (agg:Bool) (x:Opd)
 | iadrS (k:Nat) (x i:Opd)
 | iadrA (n k:Nat) (x i:Opd)
 | idxS (x i:Opd)
 | idxA (n k:Nat) (agg:Bool) (x i:Opd)
 | ext (i:Nat) (x:Opd)
 | len (str:Bool) (x:Opd)
 | eqc (neq:Bool) (tc:Nat) (x y:Opd)
 | capp (x:Opd)
 | mnx (isMin:Bool) (x:Opd) (ys:List Opd)
 | build (zero:List AV) (parts:List (Nat × Nat × Opd))
 | mkF (f:FuncId) (first cap:List Opd)
inductive AOp where
 | p (op:POp)
 | alloc (zero:List AV)
 | box (k:Nat) (x:Opd)
 | buildSl (k:Nat) (zero:List AV) (n:Nat) (parts:List (Nat × Opd))
 | mkSl (k:Nat) (zero:List AV) (bytes:Nat) (l c:Opd)
 | load (k:Nat) (agg:Bool) (x:Opd)
 | store (k:Nat) (x y:Opd)
 | app (k bytes:Nat) (x y:Opd)
 | cpy (k:Nat) (x y:Opd)
 | call (f:Opd) (args:List Opd)
 | bad
structure COp where
 d:Option Nat
 g:Option (Nat × Bool)
 op:AOp
inductive Cmd where
 | skip
 | ops (ks:List Nat) (l:List COp)
 | dops (ks:List Nat) (l:List COp) (ps:List (Nat × Nat))
 | seq (a b:Cmd)
 | cond (c:Opd) (a b:Cmd)
 | block (id:Nat) (ks:List Nat) (a:Cmd)
 | loop (ks hs:List Nat) (a:Cmd)
 | exit (id:Nat)
 | ret
 | frz (is:List Nat) (a:Cmd)
inductive Ex where
 | normal | exit (id:Nat) | ret
inductive Rv where
 | t (n:Nat)
 | cell (n k:Nat) (agg:Bool)
abbrev er:=FuncId→List AV→List Ob→Option (AV × List Ob)
def ev (s:aj):Opd→AV
 | .t n=>s n
 | .c a=>a
def evo (s:aj):Option Opd→Option AV
 | none=>none
 | some x=>some (ev s x)
def dv:AV→Option (List AV)
 | .agg cs=>some cs
 | .any | .und | .tup _ | .osl _ _ | .obx _=>none
 | a=>some [a]
def setRow (row:List AV) (j:Nat):List AV→List AV
 | []=>row
 | c::cs=>setRow (row.set j c) (j+1) cs
def xL (c a b:AV):Option AV:=match c with
 | .v (.bool t)=>some (if t then a else b)
 | _=>none
def vY:AV→Option AV
 | .ref id sub k i j=>some (.ref id sub k i j)
 | .ipt cs=>some (.ipt cs)
 | .fn f a b=>some (.fn f a b)
 | _=>none
def kl (op:BinOp) (k:IntKind) (a b:Int):Option Value:=match op with
 | .add=>some (.int k (k.wrap (a+b)))
 | .sub=>some (.int k (k.wrap (a - b)))
 | .mul=>some (.int k (k.wrap (a*b)))
 | .quo=>if b=0 then none else some (.int k (k.wrap (a.tdiv b)))
 | .rem=>if b=0 then none else some (.int k (a.tmod b))
 | .and=>some (.int k (k.wrap ((BitVec.ofInt k.bits a &&& BitVec.ofInt k.bits b).toNat)))
 | .or=>some (.int k (k.wrap ((BitVec.ofInt k.bits a ||| BitVec.ofInt k.bits b).toNat)))
 | .xor=>some (.int k (k.wrap ((BitVec.ofInt k.bits a ^^^ BitVec.ofInt k.bits b).toNat)))
 | .andNot=>some (.int k (k.wrap ((BitVec.ofInt k.bits a &&& ~~~BitVec.ofInt k.bits b).toNat)))
 | .lss=>some (.bool (decide (a < b)))
 | .leq=>some (.bool (decide (a≤b)))
 | .gtr=>some (.bool (decide (a > b)))
 | .geq=>some (.bool (decide (a ≥ b)))
 | .eql=>some (.bool (a == b))
 | .neq=>some (.bool (a != b))
 | _=>none
def RM (k:IntKind) (a b:Int):Option Value:=if b < 0 then none else some (.int k (k.wrap (a*2 ^ (min b.toNat k.bits))))
def RN (k:IntKind) (a b:Int):Option Value:=if b < 0 then none else some (.int k (a.fdiv (2 ^ (min b.toNat k.bits))))
def WV (op:BinOp) (a b:ByteArray):Option Value:=match op with
 | .add=>if ((a.size+b.size:Nat):Int) > IntKind.i64.max then none else some (.string (a++b))
 | .eql=>some (.bool (a.toList == b.toList))
 | .neq=>some (.bool (!(a.toList == b.toList)))
 | _=>none
def eO (op:BinOp):Value→Value→Option Value
 | .int k a,.int k' b=>match op with
  | .shl=>RM k a b
  | .shr=>RN k a b
  | op=>if k=k' then kl op k a b else none
 | .string a,.string b=>WV op a b
 | _,_=>none
def cd (op:BinOp):AV→AV→Option AV
 | .v a,.v b=>(eO op a b).map .v
 | _,_=>none
def Hb (n:Bool) (tc:Nat):AV→AV→Option AV
 | .v (.bool a),.v (.bool b)=>if tc=0 then some (B (n != (a == b))) else none
 | .ref _ _ _ _ _,.v (.pointer none)=>if tc=1 then some (B n) else none
 | .v (.pointer none),.v (.pointer none)=>if tc=1 then some (B (!n)) else none
 | .fn _ _ _,.v .nilFunc=>if tc=2 then some (B n) else none
 | .v .nilFunc,.v .nilFunc=>if tc=2 then some (B (!n)) else none
 | _,_=>none
def A6 (n:Bool):AV→Option AV
 | .sl _ (_::_)=>some (B n)
 | .rsl _ _ _ _ m=>if 0 < m then some (B n) else none
 | _=>none
def Hc (op:UnOp):AV→Option AV
 | .v (.int k n)=>match op with
  | .neg=>some (.v (.int k (k.wrap (0 - n))))
  | .xor=>some (.v (.int k (k.wrap ((BitVec.ofInt k.bits (if k.signed then -1 else k.max) ^^^ BitVec.ofInt k.bits n).toNat))))
  | _=>none
 | .v (.bool b)=>match op with
  | .not=>some (B (!b))
  | _=>none
 | _=>none
def O2 (k:IntKind):AV→Option AV
 | .v (.int _ n)=>some (.v (.int k (k.wrap n)))
 | _=>none
def MI:AV→Option AV
 | .v (.string x)=>some (.v (.string x))
 | _=>none
def nn (d:Nat) (n:Nat):Option AV→Option Nat
 | none=>some d
 | some (.v (.int _ i))=>if 0≤i∧i≤n then some i.toNat else none
 | _=>none
def tQ (n:Nat) (lo hi mx:Option AV):Option (Nat × Nat) :=
 match mx with
 | none=>(nn n n hi).bind fun h=>(nn 0 h lo).bind fun l=>some (l,h)
 | some m=>(nn n n (some m)).bind fun m=>match hi with
  | none=>none
  | some hi=>(nn n m (some hi)).bind fun h=>(nn 0 h lo).bind fun l=>some (l,h)
def vZ:Option AV→Bool
 | some (.v (.int _ 0))=>true
 | _=>false
def kn (k:Nat) (x:AV) (lo hi mx:Option AV):Option AV:=match x with
 | .emp=>(tQ 0 lo hi mx).map fun _ => .emp
 | .sl k' rows=>if k'=k then (tQ rows.length lo hi mx).map fun p=>(if vZ mx then .emp else .sl k ((rows.drop p.1).take (p.2 - p.1))) else none
 | .rsl id sub k' l0 n=>if k'=k then (tQ n lo hi mx).map fun p => .rsl id sub k (l0+p.1) (p.2 - p.1) else none
 | _=>none
def GW (x:AV) (lo hi:Option AV):Option AV:=match x with
 | .v (.string b)=>(tQ b.size lo hi none).map fun p => .v (.string (b.extract p.1 p.2))
 | _=>none
def o9 (off:Nat):AV→Option AV
 | .ref id sub k i j=>some (.ref id sub k i (j+off))
 | .ipt cs=>some (.ipt (cs.drop off))
 | _=>none
def ig (k:Nat) (agg:Bool) (cs:List AV) (off:Nat):Option AV :=
 if agg then (if off+k≤cs.length then some (.agg ((cs.drop off).take k)) else none) else cs[off]?
def Hd (off k:Nat) (agg:Bool):AV→Option AV
 | .agg cs=>ig k agg cs off
 | _=>none
def aN (rows:List (List AV)) (i:Int):Option AV:=if 0≤i then (rows[i.toNat]?).map .ipt else none
def lY (k:Nat):AV→AV→Option AV
 | .sl k' rows,.v (.int _ i)=>if k'=k then aN rows i else none
 | .rsl id sub k' lo n,.v (.int _ i)=>if k'=k then (if 0≤i∧i < n then some (.ref id sub k (lo+i.toNat) 0) else none) else none
 | _,_=>none
def sZ (n k:Nat):AV→AV→Option AV
 | .ref id sub k' a j,.v (.int _ i)=>if 0≤i∧i < n then some (.ref id sub k' a (j+i.toNat*k)) else none
 | .ipt cs,.v (.int _ i)=>if 0≤i∧i < n then some (.ipt (cs.drop (i.toNat*k))) else none
 | _,_=>none
def xM:AV→AV→Option AV
 | .v (.string b),.v (.int _ i)=>if 0≤i then (b[i.toNat]?).map fun x => .v (.int .u8 x.toNat) else none
 | _,_=>none
def GX (n k:Nat) (agg:Bool):AV→AV→Option AV
 | .agg cs,.v (.int _ i)=>if 0≤i∧i < n then ig k agg cs (i.toNat*k) else none
 | _,_=>none
def He (i:Nat):AV→Option AV
 | .tup vs=>vs[i]?
 | _=>none
def jR (str:Bool):AV→Option AV
 | .sl _ rows=>if str then none else some (I rows.length)
 | .emp=>if str then none else some (I 0)
 | .rsl _ _ _ _ n=>if str then none else some (I n)
 | .v (.string b)=>if str then some (I b.size) else none
 | _=>none
def MJ:AV→Option AV
 | .emp=>some (I 0)
 | _=>none
def CQ (isMin:Bool):AV→AV→Option AV
 | .v (.int k x),.v (.int _ y)=>some (.v (.int k (if isMin then (if y < x then y else x) else (if x < y then y else x))))
 | _,_=>none
def sv (isMin:Bool):AV→List AV→Option AV
 | a,[]=>some a
 | a,b::l=>(CQ isMin a b).bind fun c=>sv isMin c l
def no (zero:List AV):List (Nat × Nat × AV)→Option (List AV)
 | []=>some zero
 | (off,k,a)::ps=>(dv a).bind fun cs=>if cs.length=k∧off+k≤zero.length then no (setRow zero off cs) ps else none
def dw (s:aj):POp→Option AV
 | .mv x=>some (ev s x)
 | .pick c a b=>xL (ev s c) (ev s a) (ev s b)
 | .nilck x=>vY (ev s x)
 | .nilq n x=>A6 n (ev s x)
 | .bin op x y=>cd op (ev s x) (ev s y)
 | .un op x=>Hc op (ev s x)
 | .cv k x=>O2 k (ev s x)
 | .cv0 x=>MI (ev s x)
 | .slc k x lo hi mx=>kn k (ev s x) (evo s lo) (evo s hi) (evo s mx)
 | .slcS x lo hi=>GW (ev s x) (evo s lo) (evo s hi)
 | .fadr off x=>o9 off (ev s x)
 | .fld off k g x=>Hd off k g (ev s x)
 | .iadrS k x i=>lY k (ev s x) (ev s i)
 | .iadrA n k x i=>sZ n k (ev s x) (ev s i)
 | .idxS x i=>xM (ev s x) (ev s i)
 | .idxA n k g x i=>GX n k g (ev s x) (ev s i)
 | .ext i x=>He i (ev s x)
 | .len m x=>jR m (ev s x)
 | .eqc m t x y=>Hb m t (ev s x) (ev s y)
 | .capp x=>MJ (ev s x)
 | .mnx m x ys=>sv m (ev s x) (ys.map (ev s))
 | .build z ps=>(no z (ps.map fun p=>(p.1,p.2.1,ev s p.2.2))).map .agg
 | .mkF f a b=>some (.fn f (a.map (ev s)) (b.map (ev s)))
def aA:AV→Bool
 | .any | .v _ | .emp | .sl _ _=>true
 | .fn _ a b=>a.isEmpty && b.isEmpty
 | _=>false
def dat:AV→Bool
 | .agg cs=>cs.all aA
 | a=>aA a
def fh (K:List (Nat × Bool)) (id:Nat) (sub:Option Nat):Bool:=K.any fun p=>p.1 == id && (!p.2 || sub.isSome)
def jS (K:List (Nat × Bool)):AV→Bool
 | .ref id sub _ _ _=>fh K id sub
 | .rsl id sub _ _ _=>fh K id sub
 | .fn _ a b => !(a.isEmpty && b.isEmpty)
 | .agg _ | .tup _ | .osl _ _ | .obx _=>true
 | _=>false
def sw (K:List (Nat × Bool)):AV→Bool
 | .agg cs=>cs.any (jS K)
 | .fn _ a b=>a.any (jS K) || b.any (jS K)
 | a=>jS K a
def LC (K:List (Nat × Bool)):AV→Bool
 | .tup vs=>vs.any (sw K)
 | a=>sw K a
def lZ (K:List (Nat × Bool)) (a:AV):AV:=if LC K a then .any else a
def nq (K:List (Nat × Bool)) (s:aj):aj:=match K with
 | []=>s
 | K=>fun i=>lZ K (s i)
inductive Sh where
 | o (k:Nat) (cs:List Sh)
 deriving Inhabited
mutual
def nrmL:Sh→AV→AV
 | .o 0 _,a=>a
 | .o (k+1) _,.emp => .sl k []
 | .o (_+1) cs,.sl k' rows => .sl k' (rows.map (b9 cs))
 | .o (_+1) cs,.osl k' rows => .sl k' (rows.map (b9 cs))
 | .o (_+1) _,a=>a
def b9:List Sh→List AV→List AV
 | s::ss,a::l=>nrmL s a::b9 ss l
 | _,l=>l
end
def nrmV (ss:List Sh):AV→AV
 | .agg cs => .agg (b9 ss cs)
 | a=>nrmL (ss.headD (.o 0 [])) a
def bi:List (List Sh)→List AV→List AV
 | s::ss,a::l=>nrmV s a::bi ss l
 | _,l=>l
structure FD where
 np:Nat
 rs:List (List Sh)
 res:List Rv
 body:Cmd
abbrev K:=List (Nat × Bool)
def aQ (id:Nat):Bool:=decide (1000≤id∧id < 2000)
abbrev R3:=AV × ac × K
def hF:AV→AV
 | .osl k r => .sl k r
 | a=>a
def aO:AV→Bool
 | .osl _ _=>true
 | _=>false
def gA (c:AV):Bool:=aO c || aA c
def jT (k lo n:Nat) (rows:List (List AV)):AV := .sl k ((rows.drop lo).take n)
def kT (cs:List AV):List (List AV):=cs.map fun c=>[hF c]
def lP (h:ac) (id k lo n:Nat):Ob→Option R3
 | .ar k' rows=>if k'=k∧lo+n≤rows.length then some (jT k lo n rows,upd h id (.fz k rows),[]) else none
 | .fz k' rows=>if k'=k∧lo+n≤rows.length then some (jT k lo n rows,h,[]) else none
 | .bx cs=>if k=1∧lo+n≤cs.length∧cs.all gA=true then some (jT 1 lo n (kT cs),upd h id (.fz 1 (kT cs)),[(id,true)]) else none
 | .dead=>none
def RP (h:ac) (id p k lo n:Nat) (cs:List AV):Option AV→Option R3
 | some (.osl k' rows)=>if k'=k∧lo+n≤rows.length then some (jT k lo n rows,upd h id (.bx (cs.set p (.sl k' rows))),[(id,true)]) else none
 | _=>none
def v6 (h:ac) (id p k lo n:Nat):Ob→Option R3
 | .bx cs=>RP h id p k lo n cs cs[p]?
 | _=>none
def eP (h:ac):AV→Option R3
 | .rsl id none k lo n=>lP h id k lo n (h id)
 | .rsl id (some p) k lo n=>v6 h id p k lo n (h id)
 | a=>if aA a then some (a,h,[]) else none
def dC (h:ac):List AV→Option (List AV × ac × K)
 | []=>some ([],h,[])
 | a::l=>(eP h a).bind fun p=>(dC p.2.1 l).bind fun q=>some (p.1::q.1,q.2.1,p.2.2++q.2.2)
def qY (h:ac):AV→Option R3
 | .agg cs=>(dC h cs).bind fun p=>some (.agg p.1,p.2)
 | a=>eP h a
def s6:Ob→Option (Nat × List (List AV))
 | .ar k rows=>some (k,rows)
 | .fz k rows=>some (k,rows)
 | _=>none
def tR:Option AV→Option (Nat × List (List AV))
 | some (.osl k rows)=>some (k,rows)
 | _=>none
def oI (p:Nat):Ob→Option (Nat × List (List AV))
 | .bx cs=>tR cs[p]?
 | _=>none
def v7 (h:ac) (id:Nat):Option Nat→Option (Nat × List (List AV))
 | none=>s6 (h id)
 | some p=>oI p (h id)
def pb (id p:Nat):AV→AV
 | .osl k rows => .rsl id (some p) k 0 rows.length
 | a=>a
def tS (h:ac) (id p k:Nat) (agg:Bool) (cs:List AV):Option R3 :=
 if agg then
  (if p+k≤cs.length then
   (if ((cs.drop p).take k).any aO then some (.agg (((cs.map hF).drop p).take k),upd h id (.bx (cs.map hF)),[(id,true)])
    else some (.agg ((cs.drop p).take k),h,[]))
   else none)
 else (cs[p]?).map fun c=>(pb id p c,h,[])
def j4 (h:ac) (k:Nat) (agg:Bool) (k0 i j:Nat):Option (Nat × List (List AV))→Option R3
 | some (k',rows)=>if k'=k0 then (rows[i]?).bind fun row=>(ig k agg row j).map fun a=>(a,h,[]) else none
 | none=>none
def pc (h:ac) (k:Nat) (agg:Bool) (id k0 i j:Nat):Ob→Option R3
 | .bx cs=>tS h id (i*k0+j) k agg cs
 | .ar k' rows=>j4 h k agg k0 i j (some (k',rows))
 | .fz k' rows=>j4 h k agg k0 i j (some (k',rows))
 | .dead=>none
def dU (h:ac) (k:Nat) (agg:Bool):AV→Option R3
 | .ipt cs=>(ig k agg cs 0).map fun a=>(a,h,[])
 | .ref id none k0 i j=>pc h k agg id k0 i j (h id)
 | .ref id (some p) k0 i j=>j4 h k agg k0 i j (oI p (h id))
 | _=>none
def O3 (h:ac) (id k lo n:Nat):Ob→Option R3
 | .ar k' rows=>if k'=k then (if lo=0∧n=rows.length then some (.osl k rows,upd h id .dead,[(id,false)]) else lP h id k lo n (.ar k' rows)) else none
 | o=>lP h id k lo n o
def inP (h:ac) (a:AV):Ob→Option R3
 | .bx _=>some (a,h,[])
 | _=>none
def A7 (h:ac) (a:AV):Option R3:=match a with
 | .rsl id none k lo n=>O3 h id k lo n (h id)
 | .rsl id (some p) k lo n=>v6 h id p k lo n (h id)
 | .ref id none _ _ _=>inP h a (h id)
 | .fn _ x y=>if x.all aA && y.all aA then some (a,h,[]) else none
 | a=>if aA a then some (a,h,[]) else none
def MK (h:ac) (id p:Nat) (x:AV) (ks:K):Ob→Option (ac × K)
 | .bx cs=>if p < cs.length then some (upd h id (.bx (cs.set p x)),ks++(if (cs[p]?).any aO then [(id,true)] else [])) else none
 | _=>none
def xN (ks:K) (xs:List AV):List AV:=match ks with
 | []=>xs
 | ks=>xs.map (lZ ks)
def pq (h:ac) (id p:Nat):Nat→List AV→Option (ac × K)
 | _,[]=>some (h,[])
 | 0,_=>none
 | n+1,x::xs=>(A7 h x).bind fun r=>(MK r.2.1 id p r.1 r.2.2 (r.2.1 id)).bind fun q=>(pq q.1 id (p+1) n (xN q.2 xs)).bind fun t=>some (t.1,q.2++t.2)
def zo (k k0 i j:Nat) (cs:List AV) (k':Nat) (rows:List (List AV)):Option (List (List AV)) :=
 if k'=k0 then (rows[i]?).bind fun row=>if j+k≤row.length then some (rows.set i (setRow row j cs)) else none else none
def ML (h:ac) (id p k k0 i j:Nat) (xs cs:List AV) (ks:K):Option AV→Option R3
 | some (.osl k' rows)=>(zo k k0 i j xs k' rows).map fun q=>(.und,upd h id (.bx (cs.set p (.osl k' q))),ks)
 | _=>none
def CR (h:ac) (id p k:Nat) (xs cs:List AV):Option R3 :=
 if p+k≤cs.length then
  (if xs.all aA then some (.und,upd h id (.bx (setRow cs p xs)),if ((cs.drop p).take k).any aO then [(id,true)] else [])
   else (pq h id p xs.length xs).map fun q=>(.und,q.1,q.2))
 else none
def CS (h:ac) (id k k0 i j:Nat) (xs:List AV) (ks:K):Ob→Option R3
 | .ar k' rows=>(zo k k0 i j xs k' rows).map fun q=>(.und,upd h id (.ar k' q),ks)
 | _=>none
def sx (h:ac) (k id k0 i j:Nat) (xs:List AV):Ob→Option R3
 | .bx cs=>CR h id (i*k0+j) k xs cs
 | .ar _ _=>(dC h xs).bind fun q=>CS q.2.1 id k k0 i j q.1 q.2.2 (q.2.1 id)
 | _=>none
def A8 (h:ac) (k id p k0 i j:Nat) (xs:List AV) (ks:K):Ob→Option R3
 | .bx cs=>ML h id p k k0 i j xs cs ks cs[p]?
 | _=>none
def fD (h:ac) (k:Nat) (a x:AV):Option R3:=(dv x).bind fun xs =>
 if xs.length=k then match a with
  | .ref id none k0 i j=>sx h k id k0 i j xs (h id)
  | .ref id (some p) k0 i j=>(dC h xs).bind fun q=>A8 q.2.1 k id p k0 i j q.1 q.2.2 (q.2.1 id)
  | _=>none
 else none
def qZ (h:ac) (d:Nat) (a:AV) (o:Ob) (ks:K):Ob→Option R3
 | .dead=>some (a,upd h d o,ks)
 | _=>none
def fE (h:ac) (d:Nat) (cs:List AV) (ks:K):Option R3:=qZ h d (.ref d none 0 0 0) (.bx cs) ks (h d)
def RQ (id p:Nat) (xs:List AV) (r:R3):Option R3:=(pq r.2.1 id p xs.length xs).map fun q=>(r.1,q.1,r.2.2++q.2)
def q8 (h:ac) (d:Nat) (k:Nat) (x:AV):Option R3:=(dv x).bind fun xs=>if xs.length=k then
 (if xs.all aA then fE h d xs [] else (fE h d (List.replicate k .any) []).bind (RQ d 0 xs)) else none
def dt (h:ac) (d k:Nat) (rows:List (List AV)) (n:Nat) (ks:K):Option R3:=qZ h d (.rsl d none k 0 n) (.ar k rows) ks (h d)
def cM (k:Nat) (h:ac) (rows:List (List AV)):List (Nat × AV)→Option (List (List AV) × ac × K)
 | []=>some (rows,h,[])
 | (i,a)::ps=>(dv a).bind fun cs=>if cs.length=k∧i < rows.length then (dC h cs).bind fun q=>(cM k q.2.1 (rows.set i q.1) ps).bind fun r=>some (r.1,r.2.1,q.2.2++r.2.2) else none
def tT (l c:AV):Option (Nat × Nat):=match l,c with
 | .v (.int .i64 l),.v (.int .i64 c)=>if 0≤l∧l≤c∧c < 9223372036854775808 then some (l.toNat,c.toNat) else none
 | _,_=>none
def qR (k lo n:Nat):Option (Nat × List (List AV))→Option (List (List AV))
 | some (k',rows)=>if k'=k∧lo+n≤rows.length then some ((rows.drop lo).take n) else none
 | none=>none
def mp (h:ac) (k:Nat):AV→Option (List (List AV))
 | .emp=>some []
 | .sl k' rows=>if k'=k then some rows else none
 | .rsl id sub k' lo n=>if k'=k then qR k lo n (v7 h id sub) else none
 | _=>none
def Hf (h:ac) (k bytes id k' lo n:Nat) (ys:List (List AV)):Ob→Option R3
 | .ar k0 rows=>if k0=k∧k'=k∧lo=0∧n=rows.length∧(id < 1000∨2000≤id)∧(n+ys.length)*bytes≤140737488355328 then
   some (.rsl id none k 0 (n+ys.length),upd h id (.ar k (rows++ys)),[(id,false)]) else none
 | _=>none
def WW (h:ac) (d k bytes id p k' lo n:Nat) (ys:List (List AV)) (cs:List AV):Option AV→Option R3
 | some (.osl k0 rows)=>if k0=k∧k'=k∧lo=0∧n=rows.length∧(n+ys.length)*bytes≤140737488355328 then
   dt (upd h id (.bx (cs.set p .any))) d k (rows++ys) (n+ys.length) [(id,true)] else none
 | _=>none
def RR (h:ac) (d k bytes id p k' lo n:Nat) (ys:List (List AV)):Ob→Option R3
 | .bx cs=>WW h d k bytes id p k' lo n ys cs cs[p]?
 | _=>none
def CT (h:ac) (d k:Nat):List (List AV)→Option R3
 | []=>some (.emp,h,[])
 | y::ys=>dt h d k (y::ys) (ys.length+1) []
def Hg (h:ac) (d k bytes:Nat) (x y:AV):Option R3:=(mp h k y).bind fun ys=>match x with
 | .emp=>if ys.length*bytes≤140737488355328 then CT h d k ys else none
 | .rsl id none k' lo n=>Hf h k bytes id k' lo n ys (h id)
 | .rsl id (some p) k' lo n=>RR h d k bytes id p k' lo n ys (h id)
 | _=>none
def WX (m:Nat):AV→AV
 | .sl k rows => .sl k (rows.take m)
 | .rsl id sub k lo n => .rsl id sub k lo (min m n)
 | a=>a
def WY:AV→Option Nat
 | .emp=>some 0
 | .sl _ rows=>some rows.length
 | .rsl _ _ _ _ n=>some n
 | _=>none
def WZ (h:ac) (id k k' lo n l:Nat) (ys:List (List AV)):Ob→Option R3
 | .ar k0 rows=>if k0=k∧k'=k∧lo+n≤rows.length∧ys.length=min l n then some (.v (.int .i64 ys.length),upd h id (.ar k (rows.take lo++ys++rows.drop (lo+ys.length))),[]) else none
 | _=>none
def RT (h:ac) (k:Nat) (x y:AV):Option R3:=match x with
 | .rsl id none k' lo n=>(WY y).bind fun l=>(mp h k (WX n y)).bind fun ys=>WZ h id k k' lo n l ys (h id)
 | _=>none
structure Mode where
 m:FuncId→List Nat
 sh:FuncId→List (List Sh)
 keep:FuncId→Bool
 nm:Bool
def ac1:Ob→Bool
 | .ar _ _=>true
 | _=>false
def cJ (h:ac) (m:Nat) (a:AV):Option R3:=match a with
 | .rsl id none _ _ _=>if m=0 then eP h a else if m=1 || ac1 (h id) then some (a,h,[]) else none
 | .ref _ none _ _ _=>some (a,h,[])
 | .ipt _=>some (a,h,[])
 | .fn _ _ _=>some (a,h,[])
 | a=>qY h a
def dV (h:ac):List Nat→List AV→Option (List AV × ac × K)
 | _,[]=>some ([],h,[])
 | ms,a::l=>(cJ h (ms.headD 0) a).bind fun p=>(dV p.2.1 ms.tail l).bind fun q=>some (p.1::q.1,q.2.1,p.2.2++q.2.2)
def fJ:AV→List Nat
 | .ref id _ _ _ _=>[id]
 | .rsl id _ _ _ _=>[id]
 | _=>[]
def bY:AV→List Nat
 | .agg cs=>cs.flatMap fJ
 | .fn _ a b=>a.flatMap fJ++b.flatMap fJ
 | a=>fJ a
def dW (l:List Nat):List Nat→List Nat
 | []=>l
 | a::r=>dW (if l.contains a then l else l++[a]) r
def ac2:Ob→List Nat
 | .bx cs=>cs.flatMap bY
 | _=>[]
def el (h:ac):Nat→List Nat→Nat→List Nat
 | 0,l,_=>l
 | n+1,l,i=>match l[i]? with
  | none=>l
  | some a=>el h n (dW l (ac2 (h a))) (i+1)
def bo (l:List Nat) (a:Nat):Nat:=1000+l.idxOf a
def mH (g:Nat→Nat):AV→AV
 | .ref id sub k i j => .ref (g id) sub k i j
 | .rsl id sub k i j => .rsl (g id) sub k i j
 | a=>a
def eQ (g:Nat→Nat):AV→AV
 | .agg cs => .agg (cs.map (mH g))
 | .fn f a b => .fn f (a.map (mH g)) (b.map (mH g))
 | a=>mH g a
def RU (g:Nat→Nat):AV→AV
 | .tup vs => .tup (vs.map (eQ g))
 | a=>eQ g a
def dx (g:Nat→Nat):Ob→Ob
 | .bx cs => .bx (cs.map (eQ g))
 | o=>o
def bc (l:List Nat):AV→Bool
 | .ref id sub _ _ _=>l.contains id && sub.isNone
 | .rsl id sub _ _ _=>l.contains id && sub.isNone
 | .fn _ a b=>a.isEmpty && b.isEmpty
 | .agg _ | .tup _ | .osl _ _ | .obx _=>false
 | _=>true
def aU (l:List Nat):AV→Bool
 | .agg cs=>cs.all (bc l)
 | .fn _ a b=>a.all (bc l) && b.all (bc l)
 | a=>bc l a
def cZ (l:List Nat) (c:AV):Bool:=aO c || aU l c
def bq (l:List Nat):Ob→Bool
 | .bx cs=>cs.all (cZ l)
 | _=>true
def ax (hs:List Ob):ac:=fun i=>if 1000≤i then (hs[i - 1000]?).getD .dead else .dead
def cD (n:Nat) (h:ac):AV→AV × ac
 | .osl k rows=>(.rsl n none k 0 rows.length,upd h n (.ar k rows))
 | .obx cs=>(.ref n none 0 0 0,upd h n (.bx cs))
 | a=>(a,h)
def br (n:Nat) (h:ac):List AV→List AV × ac
 | []=>([],h)
 | a::l=>((cD n h a).1::(br (n+1) (cD n h a).2 l).1,(br (n+1) (cD n h a).2 l).2)
def mat (n:Nat) (h:ac):AV→AV × ac
 | .tup vs=>(.tup (br n h vs).1,(br n h vs).2)
 | a=>cD n h a
def tU:List Nat→List AV→K
 | _,[]=>[]
 | ms,a::l=>(if ms.headD 0=2 then (fJ a).map (·,false) else [])++tU ms.tail l
def gz (h:ac):K→ac
 | []=>h
 | p::l=>gz (upd h p.1 .dead) l
def nr:Ob→Bool
 | .dead=>true
 | _=>false
def fK (h:ac) (n:Nat):Nat→Bool
 | 0=>true
 | m+1=>nr (h n) && fK h (n+1) m
def dH:AV→Nat
 | .tup vs=>vs.length
 | _=>1
def bf:Ob→Bool
 | .bx _=>true
 | .fz _ _=>true
 | _=>false
def kU (h:ac) (gv:K):List Nat→List Ob→Bool
 | a::l,o::r=>(!bf (h a) || bf o) && (gv.any (·.1 == a) || !nr o) && kU h gv l r
 | _,_=>true
def b7 (n:Nat):List Nat:=List.range' 1000 n
def W0 (h:ac) (gv:K):Bool:=gv.all fun p => !bf (h p.1)
def eR (l:List Nat):AV→Bool
 | .osl _ _=>true
 | .obx cs=>cs.all gA
 | c=>aU l c
def iV (l:List Nat):AV→Bool
 | .tup vs=>vs.all (eR l)
 | c=>eR l c
def bW (ids:List Nat) (i:Nat):Nat:=if i < 2000 then ids.getD (i - 1000) 0 else i
def dO (h:ac) (ids:List Nat):List Nat→List Ob→ac
 | a::l,o::r=>dO (upd h a (dx (bW ids) o)) ids l r
 | _,_=>h
def yD (ids:List Nat) (gv:K):List Nat:=match gv with
 | []=>b7 ids.length
 | gv=>(b7 ids.length).filter fun i => !gv.any fun p=>p.1 == bW ids i
def MM (h:ac) (ids:List Nat) (gv:K) (r:AV × List Ob):Bool:=W0 h gv && (iV (yD ids gv) r.1 && r.2.all (bq (yD ids gv)))
def kV (kp:Bool) (h:ac) (d:Nat) (ids:List Nat) (ks gv:K) (r:AV × List Ob):Option R3 :=
 if r.2.length=ids.length∧ids.length≤1000∧dH r.1≤8∧fK h (2000+8*d) (dH r.1)=true∧kU h gv ids r.2=true∧MM h ids gv r=true then
  some (RU (bW ids) (mat (2000+8*d) (gz (dO h ids ids r.2) gv) r.1).1,(mat (2000+8*d) (gz (dO h ids ids r.2) gv) r.1).2,ks++((if kp then [] else ids.map (·,true))++gv))
 else none
def rY (call:er) (md:Mode) (h:ac) (d:Nat) (f:FuncId) (ids:List Nat) (args:List AV) (ks:K):Option R3 :=
 if args.all (aU ids) && (ids.all fun a=>bq ids (h a) && !nr (h a)) then
  (call f (args.map (eQ (bo ids))) (ids.map fun a=>dx (bo ids) (h a))).bind (kV (md.keep f) h d ids ks (tU (md.m f) args))
 else none
def dP (call:er) (md:Mode) (h:ac) (d:Nat) (args:List AV):AV→Option R3
 | .fn f a b=>(dV h (md.m f) (a++args++b)).bind fun p=>rY call md p.2.1 d f (el p.2.1 40 (dW [] (p.1.flatMap bY)) 0) (bi (md.sh f) p.1) p.2.2
 | _=>none
def tV (h:ac) (x:Option AV):Option R3:=x.map fun a=>(a,h,[])
def step (call:er) (md:Mode) (d:Nat) (op:AOp) (s:aj) (h:ac):Option R3 :=
 match op with
 | .p op=>tV h (dw s op)
 | .alloc z=>fE h d z []
 | .box k x=>q8 h d k (ev s x)
 | .buildSl k z n ps=>(cM k h (List.replicate n z) (ps.map fun p=>(p.1,ev s p.2))).bind fun q=>dt q.2.1 d k q.1 n q.2.2
 | .mkSl k z b l c=>(tT (ev s l) (ev s c)).bind fun p =>
  if p.2*b≤140737488355328 then dt h d k (List.replicate p.1 z) p.1 [] else none
 | .load k g x=>dU h k g (ev s x)
 | .store k x y=>fD h k (ev s x) (ev s y)
 | .app k b x y=>Hg h d k b (ev s x) (ev s y)
 | .cpy k x y=>RT h k (ev s x) (ev s y)
 | .call f args=>dP call md h d (args.map (ev s)) (ev s f)
 | .bad=>none
def dy (s:aj) (d:Option Nat) (x:AV):aj:=match d with
 | some d=>upd s d x
 | none=>s
def pX (nm:Bool) (ks:K):Bool := !nm || ks.all fun p => !aQ p.1
def cE (nm:Bool) (s:aj) (d:Option Nat) (r:Option R3):Option St:=match r with
 | some (x,h,ks)=>if pX nm ks then some ⟨dy (nq ks s) d x,h⟩ else none
 | none=>none
def fW (d:Option Nat) (want:Bool) (st:Option St) (s:aj) (h:ac):AV→Option St
 | .v (.bool b)=>if b=want then st else some ⟨dy s d .und,h⟩
 | .und=>some ⟨dy s d .und,h⟩
 | _=>none
def kW (call:er) (md:Mode) (o:COp) (s:aj) (h:ac):Option St:=match o.g with
 | none=>cE md.nm s o.d (step call md (o.d.getD 0) o.op s h)
 | some g=>fW o.d g.2 (cE md.nm s o.d (step call md (o.d.getD 0) o.op s h)) s h (s g.1)
def aW {β:Type} (x:Option St) (f:aj→ac→Option β):Option β:=match x with
 | none=>none
 | some t=>f t.s t.h
def aG (call:er) (md:Mode):List COp→aj→ac→Option St
 | [],s,h=>some ⟨s,h⟩
 | o::rest,s,h=>aW (kW call md o s h) (aG call md rest)
def ft:Opd→List Nat
 | .t n=>[n]
 | .c _=>[]
def kX (l:List Opd):List Nat:=l.flatMap ft
def Hh:POp→List Nat
 | .mv x | .nilck x | .nilq _ x | .un _ x | .cv _ x | .cv0 x | .fadr _ x | .fld _ _ _ x | .ext _ x | .len _ x | .capp x=>ft x
 | .pick c a b=>ft c++(ft a++ft b)
 | .bin _ x y | .eqc _ _ x y | .iadrS _ x y | .iadrA _ _ x y | .idxS x y | .idxA _ _ _ x y=>ft x++ft y
 | .mnx _ x ys=>ft x++kX ys
 | .slc _ x lo hi mx=>ft x++(kX lo.toList++(kX hi.toList++kX mx.toList))
 | .slcS x lo hi=>ft x++(kX lo.toList++kX hi.toList)
 | .build _ ps=>ps.flatMap fun p=>ft p.2.2
 | .mkF _ a b=>kX a++kX b
def Hi:AOp→List Nat
 | .p op=>Hh op
 | .alloc _=>[]
 | .box _ x=>ft x
 | .buildSl _ _ _ ps=>ps.flatMap fun p=>ft p.2
 | .mkSl _ _ _ l c=>ft l++ft c
 | .load _ _ x=>ft x
 | .store _ x y=>ft x++ft y
 | .app _ _ x y=>ft x++ft y
 | .cpy _ x y=>ft x++ft y
 | .call f args=>ft f++kX args
 | .bad=>[]
def js (o:COp):List Nat:=(match o.g with | some g=>[g.1] | none=>[])++Hi o.op
def xO (a b:COp):Bool :=
 (match a.d with | some d => !(js b).contains d | none=>true) && (match b.d with | some d => !(js a).contains d | none=>true) &&
 (match a.d,b.d with | some x,some y=>x != y | _,_=>true)
abbrev Fp:=Option (List Nat × List Nat)
def bZ (i:Nat):Nat:=if i < 2000 then i else i - i % 8
def l4:AV→Bool
 | .rsl _ _ _ _ _=>false
 | _=>true
def pd:AV→Bool
 | .agg cs=>cs.all l4
 | .fn _ a b=>a.all l4 && b.all l4
 | a=>l4 a
def ko:AV→Fp
 | .ipt _=>some ([],[])
 | .ref id _ _ _ _=>some ([bZ id],[])
 | _=>none
def pe (y:AV):AV→Fp
 | .ref id _ _ _ _=>if dat y then some ([bZ id],[bZ id]) else none
 | _=>none
def W1:Value→Value→Bool
 | .int k a,.int k' b=>decide (k=k') && decide (a=b)
 | .bool a,.bool b=>a == b
 | .string a,.string b=>decide (a.data.toList=b.data.toList)
 | .pointer none,.pointer none=>true
 | .nilFunc,.nilFunc=>true
 | _,_=>false
mutual
def W2:AV→AV→Bool
 | .any,.any=>true
 | .und,.und=>true
 | .emp,.emp=>true
 | .v a,.v b=>W1 a b
 | .sl k r,.sl k' r'=>decide (k=k') && Hj r r'
 | .osl k r,.osl k' r'=>decide (k=k') && Hj r r'
 | .obx c,.obx c'=>v8 c c'
 | .agg c,.agg c'=>v8 c c'
 | .ref a b c d e,.ref a' b' c' d' e'=>decide (a=a'∧b=b'∧c=c'∧d=d'∧e=e')
 | .rsl a b c d e,.rsl a' b' c' d' e'=>decide (a=a'∧b=b'∧c=c'∧d=d'∧e=e')
 | .ipt c,.ipt c'=>v8 c c'
 | .fn f a b,.fn f' a' b'=>decide (f=f') && (v8 a a' && v8 b b')
 | _,_=>false
def v8:List AV→List AV→Bool
 | [],[]=>true
 | a::l,b::r=>W2 a b && v8 l r
 | _,_=>false
def Hj:List (List AV)→List (List AV)→Bool
 | [],[]=>true
 | a::l,b::r=>v8 a b && Hj l r
 | _,_=>false
end
def GY:Ob→Ob→Bool
 | .dead,.dead=>true
 | .bx c,.bx c'=>v8 c c'
 | .ar k r,.ar k' r'=>decide (k=k') && Hj r r'
 | .fz k r,.fz k' r'=>decide (k=k') && Hj r r'
 | _,_=>false
def ED (h h':ac) (ids:List Nat):List Nat:=ids.filter fun a => !GY (h a) (h' a)
def jt (h:ac) (d:Nat) (l:List AV) (h':ac):Fp :=
 if l.all dat then some ([],[2000+8*d])
 else if l.all pd then some ((el h 40 (dW [] (l.flatMap bY)) 0).map bZ,(ED h h' (el h 40 (dW [] (l.flatMap bY)) 0)).map bZ++[2000+8*d])
 else none
def pt (l:List AV):AV→List AV
 | .fn _ a b=>a++l++b
 | _=>l
def dQ (d:Nat) (op:AOp) (s:aj) (h h':ac):Fp:=match op with
 | .p _=>some ([],[])
 | .alloc _=>some ([],[bZ d])
 | .box _ x=>if dat (ev s x) then some ([],[bZ d]) else none
 | .buildSl _ _ _ ps=>if ps.all fun p=>dat (ev s p.2) then some ([],[bZ d]) else none
 | .mkSl _ _ _ _ _=>some ([],[bZ d])
 | .load _ _ x=>ko (ev s x)
 | .store _ x y=>pe (ev s y) (ev s x)
 | .app _ _ _ _=>none
 | .cpy _ _ _=>none
 | .call f args=>jt h d (pt (args.map (ev s)) (ev s f)) h'
 | .bad=>none
def pY (a b:List Nat):Bool:=a.all fun x => !b.contains x
def gD:Fp→Fp→Bool
 | none,none=>false
 | none,some b=>b.1.isEmpty && b.2.isEmpty
 | some a,none=>a.1.isEmpty && a.2.isEmpty
 | some a,some b=>pY a.2 (b.1++b.2) && pY b.2 a.1
def fL (s:aj) (d:Option Nat) (f:ac→Fp) (r:Option R3):Option (St × Fp):=match r with
 | some (x,h,[])=>some (⟨dy s d x,h⟩,f h)
 | _=>none
def iW (d:Option Nat) (want:Bool) (st:Option (St × Fp)) (s:aj) (h:ac):AV→Option (St × Fp)
 | .v (.bool b)=>if b=want then st else some (⟨dy s d .und,h⟩,some ([],[]))
 | .und=>some (⟨dy s d .und,h⟩,some ([],[]))
 | _=>none
def cr (call:er) (md:Mode) (o:COp) (s:aj) (h:ac):Option (St × Fp):=match o.g with
 | none=>fL s o.d (dQ (o.d.getD 0) o.op s h) (step call md (o.d.getD 0) o.op s h)
 | some g=>iW o.d g.2 (fL s o.d (dQ (o.d.getD 0) o.op s h) (step call md (o.d.getD 0) o.op s h)) s h (s g.1)
def fM (call:er) (md:Mode):List COp→aj→ac→Option (St × List Fp)
 | [],s,h=>some (⟨s,h⟩,[])
 | o::rest,s,h=>(cr call md o s h).bind fun r=>(fM call md rest r.1.s r.1.h).bind fun q=>some (q.1,r.2::q.2)
def W3:AOp→Bool
 | .p _=>true
 | _=>false
def Hk:AOp→Bool
 | .load _ _ _=>true
 | _=>false
def qS (l:List Fp) (p:Nat × Nat):Bool:=match l[p.1]?,l[p.2]? with
 | some a,some b=>gD a b
 | _,_=>false
def pf (call:er) (md:Mode) (l:List COp) (ps:List (Nat × Nat)) (s:aj) (h:ac):Option St :=
 (fM call md l s h).bind fun r=>if ps.all (qS r.2) then some r.1 else none
def mk {α:Type} (d:α) (f:Nat→α):List Nat→Nat→α
 | []=>fun _=>d
 | i::l=>upd (mk d f l) i (f i)
def knownL (l:List Nat):AV→Bool
 | .ref id _ _ _ _=>l.contains id
 | .rsl id _ _ _ _=>l.contains id
 | .fn _ a b=>a.isEmpty && b.isEmpty
 | .agg _ | .tup _ | .osl _ _ | .obx _=>false
 | _=>true
def knownA (l:List Nat):AV→Bool
 | .agg cs=>cs.all (knownL l)
 | .fn _ a b=>a.all (knownL l) && b.all (knownL l)
 | a=>knownL l a
def eK (hs:List Nat) (a:AV):AV:=if knownA hs a then a else .any
def jU (body:aj→ac→Option (Ex × St)) (ks hs:List Nat):Nat→aj→ac→Option (Ex × St)
 | 0,_,_=>none
 | n+1,s,h=>if hs.all fun a=>bq hs (h a) then (match body (mk .any (fun i=>eK hs (s i)) ks) (mk .dead h hs) with
  | some (.normal,t)=>jU body ks hs n t.s t.h
  | r=>r) else none
def bm (x:Option (Ex × St)) (f:aj→ac→Option (Ex × St)):Option (Ex × St):=match x with
 | none=>none
 | some (.normal,t)=>f t.s t.h
 | some (.exit i,t)=>some (.exit i,t)
 | some (.ret,t)=>some (.ret,t)
def RW (i:Nat) (s:aj) (h:ac):AV→Option (aj × ac × K)
 | .rsl id sub k lo n=>(eP h (.rsl id sub k lo n)).map fun r=>(upd (nq r.2.2 s) i r.1,r.2.1,r.2.2)
 | .ref id none _ _ _=>match h id with
  | .bx cs=>some (nq [(id,true)] s,upd h id (.bx (cs.map hF)),[(id,true)])
  | _=>none
 | _=>none
def CU (nm:Bool):List Nat→aj→ac→Option St
 | [],s,h=>some ⟨s,h⟩
 | i::l,s,h=>(RW i s h (s i)).bind fun r=>if pX nm r.2.2 then CU nm l r.1 r.2.1 else none
def au (id:Nat) (ks:List Nat):Option (Ex × St)→Option (Ex × St)
 | none=>none
 | some (.normal,t)=>some (.normal,⟨mk .any t.s ks,t.h⟩)
 | some (.exit i,t)=>if i=id then some (.normal,⟨mk .any t.s ks,t.h⟩) else some (.exit i,t)
 | some (.ret,t)=>some (.ret,t)
def iX (a b:Option (Ex × St)):AV→Option (Ex × St)
 | .v (.bool t)=>if t then a else b
 | _=>none
def bg (call:er) (md:Mode) (lf:Nat):Cmd→aj→ac→Option (Ex × St)
 | .skip,s,h=>some (.normal,⟨s,h⟩)
 | .ops ks l,s,h=>aW (aG call md l s h) fun s h=>some (.normal,⟨mk .any s ks,h⟩)
 | .dops ks l ps,s,h=>aW (pf call md l ps s h) fun s h=>some (.normal,⟨mk .any s ks,h⟩)
 | .seq a b,s,h=>bm (bg call md lf a s h) (bg call md lf b)
 | .cond c a b,s,h=>iX (bg call md lf a s h) (bg call md lf b s h) (ev s c)
 | .block id ks a,s,h=>au id ks (bg call md lf a s h)
 | .loop ks hs a,s,h=>jU (bg call md lf a) ks hs lf s h
 | .exit id,s,h=>some (.exit id,⟨s,h⟩)
 | .ret,s,h=>some (.ret,⟨s,h⟩)
 | .frz is a,s,h=>aW (CU md.nm is s h) (bg call md lf a)
def sy (k lo n:Nat):Ob→Option AV
 | .ar k' rows=>if k'=k∧lo+n≤rows.length then (if lo=0∧n=rows.length then some (.osl k rows) else some (jT k lo n rows)) else none
 | .fz k' rows=>if k'=k∧lo+n≤rows.length then some (jT k lo n rows) else none
 | .bx cs=>if k=1∧lo+n≤cs.length∧cs.all gA=true then some (jT 1 lo n (kT cs)) else none
 | .dead=>none
def RX:Ob→Option AV
 | .bx cs=>if cs.all gA then some (.obx cs) else none
 | _=>none
def W4 (k lo n:Nat):Option (Nat × List (List AV))→Option AV
 | some (k',rows)=>if k'=k∧lo+n≤rows.length then some (jT k lo n rows) else none
 | none=>none
def gB (h:ac) (a:AV):Option AV:=match a with
 | .rsl id none k lo n=>if aQ id then none else sy k lo n (h id)
 | .rsl id (some p) k lo n=>if aQ id then none else W4 k lo n (oI p (h id))
 | .ref id none k i j=>if aQ id then some a else if k=0∧i=0∧j=0 then RX (h id) else none
 | a=>if aA a then some a else none
def pZ:AV→Option AV
 | .osl k rows=>some (.sl k rows)
 | a=>if aA a then some a else none
def fN (h:ac):List AV→Option (List AV)
 | []=>some []
 | a::l=>(gB h a).bind fun b=>(pZ b).bind fun c=>(fN h l).bind fun q=>some (c::q)
def mI (h:ac):AV→Option AV
 | .agg cs=>(fN h cs).map .agg
 | a=>gB h a
def qt (h:ac):List AV→Option (List AV)
 | []=>some []
 | a::l=>(mI h a).bind fun b=>(qt h l).bind fun q=>some (b::q)
def iq:List Nat→Bool
 | []=>true
 | a::l => !l.contains a && iq l
def tW:List AV→AV
 | [a]=>a
 | l => .tup l
def Hl (ks:K) (a:AV):AV:=match ks with
 | []=>a
 | ks=>lZ ks a
def RY (s:aj) (h:ac):Rv→Option R3
 | .t n=>some (s n,h,[])
 | .cell n k g=>dU h k g (s n)
def ns (s:aj) (h:ac):List Rv→Option (List AV × ac × K)
 | []=>some ([],h,[])
 | r::l=>(RY s h r).bind fun p=>(ns (nq p.2.2 s) p.2.1 l).bind fun q=>some (Hl q.2.2 p.1::q.1,q.2.1,p.2.2++q.2.2)
def CV (rs:List (List Sh)) (n:Nat) (h:ac) (vs:List AV):Option (AV × List Ob) :=
 if iq ((vs.flatMap bY).filter fun i => !aQ i) && ((b7 n).all fun i=>bq (b7 n) (h i)) then (qt h vs).map fun us=>(tW (bi rs us),(b7 n).map h) else none
def q9 (nm:Bool) (rs:List (List Sh)) (res:List Rv) (n:Nat) (s:aj) (h:ac):Option (AV × List Ob):=(ns s h res).bind fun q=>if pX nm q.2.2 then CV rs n q.2.1 q.1 else none
def iY (nm:Bool) (rs:List (List Sh)) (res:List Rv) (n:Nat):Option (Ex × St)→Option (AV × List Ob)
 | some (.normal,t)=>q9 nm rs res n t.s t.h
 | some (.ret,t)=>q9 nm rs res n t.s t.h
 | _=>none
def re (args:List AV):aj:=fun i=>(args[i]?).getD .any
def v9 (call:er) (md:Mode) (lf:Nat) (fd:FD) (args:List AV) (hs:List Ob):Option (AV × List Ob) :=
 if args.length=fd.np∧hs.length≤1000 then iY md.nm fd.rs fd.res hs.length (bg call md lf fd.body (re args) (ax hs)) else none
structure Env where
 E:FuncId→Option (List AV→List Ob→Option (AV × List Ob))
 C:FuncId→Option FD
 md:Mode
def fO (e:Env):Nat→er
 | 0=>fun _ _ _=>none
 | n+1=>fun f args hs=>match e.E f with
  | some g=>g args hs
  | none=>(e.C f).bind fun fd=>v9 (fO e n) { e.md with nm:=e.md.keep f } n fd args hs
theorem iP (a:Addr) (n:Nat):(a.add n).block=a.block:=by unfold Addr.add; split <;> rfl
theorem zp {a:Addr} (n:Nat) (h:a.spot=none):(a.add n).spot=none:=by unfold Addr.add; split <;> simp [h]
theorem rf (a:Addr) (i j:Nat):(a.add i).add j=a.add (i+j):=by
 unfold Addr.add
 by_cases hi:i=0 <;> by_cases hj:j=0 <;> simp [hi,hj,Nat.add_assoc]
theorem l5 (b o n:Nat):(Addr.mk b o none).add n=⟨b,o+n,none⟩:=by
 unfold Addr.add; by_cases h:n=0 <;> simp [h]
theorem gL {w w':World} {a:Addr} (h:w'.heap[a.block]?=w.heap[a.block]?):w'.cell? a=w.cell? a:=by
 simp [World.cell?,h]
theorem s7 {w:World} {b o:Nat} {us:Array Value} {e:TypeId} {fr:Nat × Nat} (h:w.heap[b]?=some (.cells us e fr)):w.cell? ⟨b,o,none⟩=us[o]?:=by
 simp [World.cell?,h]
def kq:Value→Bool
 | .bool _ | .int _ _ | .float _ _ | .string _ | .pointer none | .map none | .chan none | .nilFunc | .nilIface=>true
 | _=>false
theorem tX {x:Value} (h:kq x=true):x.oneCell'=true:=by
 cases x <;> simp [kq,Value.oneCell'] at h ⊢
inductive RD (w:World) (A:Nat→Prop):AV→Value→Prop
 | any (u:Value) (h:u.oneCell'=true):RD w A .any u
 | v (x:Value) (h:kq x=true):RD w A (.v x) x
 | emp (a:Option Addr):RD w A .emp (.slice a 0 0)
 | sl (k:Nat) (rows:List (List AV)) (a:Option Addr) (cap:Nat) (ad:Addr) (vals:Nat→Nat→Value) (hc:rows.length≤cap)
   (ha:rows ≠ []→a=some ad∧A ad.block∧ad.spot=none) (hk:∀ row ∈ rows,row.length=k)
   (hv:∀ (i:Nat) (row:List AV) (j:Nat) (c:AV),rows[i]?=some row→row[j]?=some c→w.cell? (ad.add (i*k+j))=some (vals i j))
   (hl:∀ row ∈ rows,∀ c ∈ row,aA c=true) (hr:∀ (i:Nat) (row:List AV) (j:Nat) (c:AV),rows[i]?=some row→row[j]?=some c→RD w A c (vals i j)):RD w A (.sl k rows) (.slice a rows.length cap)
 | agg (cs:List AV) (us:Array Value) (hs:us.size=cs.length) (h1:∀ (i:Nat) (u:Value),us[i]?=some u→u.oneCell'=true)
   (hr:∀ (i:Nat) (c:AV) (u:Value),cs[i]?=some c→us[i]?=some u→RD w A c u):RD w A (.agg cs) (.agg us)
 | fn (f:FuncId):RD w A (.fn f [] []) (.func (.func f) #[] #[])
abbrev bd:=Nat→Option Nat→Nat × Nat
def live (h:ac) (id:Nat):Option Nat→Prop
 | none=>match h id with | .bx _ | .ar _ _=>True | _=>False
 | some p=>∃ cs k rows,h id = .bx cs∧cs[p]?=some (.osl k rows)
def bA (h:ac) (id:Nat):Option Nat→Prop
 | none=>h id ≠ .dead
 | some p=>live h id (some p)
def j5 (h:ac) (ρ:bd) (b:Nat):Prop:=∃ id sub,live h id sub∧(ρ id sub).1=b
def aE (w:World) (X:Nat→Prop) (h:ac) (ρ:bd) (b:Nat):Prop:=b < w.heap.size ∧ ¬ X b ∧ ¬ j5 h ρ b
theorem O4 {h:ac} {id:Nat} {sub:Option Nat} (hl:live h id sub):bA h id sub:=by
 cases sub with
 | none=>intro e; simp [live,e] at hl
 | some p=>exact hl
inductive RV (w:World) (A:Nat→Prop) (ρ:bd) (h:ac):AV→Value→Prop
 | anyv (u:Value):RV w A ρ h .any u
 | und:RV w A ρ h .und undef
 | dat {c:AV} {u:Value} (hd:RD w A c u):RV w A ρ h c u
 | ref (id:Nat) (sub:Option Nat) (k i j:Nat) (hp:bA h id sub):RV w A ρ h (.ref id sub k i j) (.pointer (some ⟨(ρ id sub).1,i*k+j,none⟩))
 | rsl (id:Nat) (sub:Option Nat) (k lo n cap:Nat) (a:Option Addr) (hp:bA h id sub) (hn:n≤cap) (hb:(lo+cap)*k≤(ρ id sub).2)
   (ha:cap=0∨a=some ⟨(ρ id sub).1,lo*k,none⟩):RV w A ρ h (.rsl id sub k lo n) (.slice a n cap)
 | ipt (cs:List AV) (ad:Addr) (vals:Nat→Value) (hA:A ad.block) (hs:ad.spot=none) (hv:∀ (j:Nat) (c:AV),cs[j]?=some c→w.cell? (ad.add j)=some (vals j))
   (hl:∀ c ∈ cs,aA c=true) (hr:∀ (j:Nat) (c:AV),cs[j]?=some c→RD w A c (vals j)):RV w A ρ h (.ipt cs) (.pointer (some ad))
 | agg (cs:List AV) (us:Array Value) (hs:us.size=cs.length) (h1:∀ (i:Nat) (u:Value),us[i]?=some u→u.oneCell'=true)
   (hr:∀ (i:Nat) (c:AV) (u:Value),cs[i]?=some c→us[i]?=some u→RV w A ρ h c u):RV w A ρ h (.agg cs) (.agg us)
 | tup (vs:List AV) (us:Array Value) (hs:us.size=vs.length) (hr:∀ (i:Nat) (c:AV) (u:Value),vs[i]?=some c→us[i]?=some u→RV w A ρ h c u):RV w A ρ h (.tup vs) (.tuple us)
 | fn (f:FuncId) (x y:List AV) (us ts:Array Value) (hs:us.size=x.length) (ht:ts.size=y.length) (hx:∀ (i:Nat) (c:AV) (u:Value),x[i]?=some c→us[i]?=some u→RV w A ρ h c u)
   (hy:∀ (i:Nat) (c:AV) (u:Value),y[i]?=some c→ts[i]?=some u→RV w A ρ h c u):RV w A ρ h (.fn f x y) (.func (.func f) us ts)
def bI (w:World) (A:Nat→Prop) (k:Nat) (rows:List (List AV)) (us:Array Value):Prop :=
 ∀ i row,rows[i]?=some row→row.length=k∧∀ j c,row[j]?=some c→∃ u,us[i*k+j]?=some u∧RD w A c u∧aA c=true
def gi (h:ac):AV→Prop
 | .any | .v _ | .emp | .sl _ _=>True
 | .ref id none _ _ _=>bf (h id)=true
 | .fn _ x y=>(x.all aA && y.all aA)=true
 | _=>False
def RC (w:World) (A:Nat→Prop) (ρ:bd) (h:ac) (id p:Nat) (c:AV) (u:Value):Prop :=
 match c with
 | .osl k rows=>∃ a cap us e,u = .slice a rows.length cap∧(cap=0∨a=some ⟨(ρ id (some p)).1,0,none⟩)∧rows.length≤cap ∧
   w.heap[(ρ id (some p)).1]?=some (.cells us e (0,0))∧us.size=(ρ id (some p)).2∧cap*k≤us.size∧bI w A k rows us
 | c=>RV w A ρ h c u∧u.oneCell'=true∧gi h c
def RO (w:World) (A:Nat→Prop) (ρ:bd) (h:ac) (id:Nat):Ob→Prop
 | .dead=>True
 | .bx cs=>∃ us e,w.heap[(ρ id none).1]?=some (.cells us e (0,0))∧us.size=(ρ id none).2∧cs.length≤us.size∧∀ p c,cs[p]?=some c→∃ u,us[p]?=some u∧RC w A ρ h id p c u
 | .ar k rows=>∃ us e,w.heap[(ρ id none).1]?=some (.cells us e (0,0))∧us.size=(ρ id none).2∧rows.length*k≤us.size∧bI w A k rows us
 | .fz k rows=>A (ρ id none).1∧∃ us e fr,w.heap[(ρ id none).1]?=some (.cells us e fr)∧us.size=(ρ id none).2∧rows.length*k≤us.size∧bI w A k rows us
structure Rel (w:World) (X:Nat→Prop) (ρ:bd) (h:ac):Prop where
 inj:∀ id sub id' sub',live h id sub→live h id' sub'→(ρ id sub).1=(ρ id' sub').1→id=id'∧sub=sub'
 nx:∀ id sub,live h id sub → ¬ X (ρ id sub).1
 ob:∀ id,RO w (aE w X h ρ) ρ h id (h id)
 xl:∀ b,X b→b < w.heap.size
structure Evo (w:World) (ρ:bd) (h:ac) (w':World) (ρ':bd) (h':ac) (ks:K):Prop where
 os:w'.os=w.os
 tape:w'.tape=w.tape
 output:w'.output=w.output
 size:w.heap.size≤w'.heap.size
 old:∀ b,b < w.heap.size → ¬ j5 h ρ b→w'.heap[b]?=w.heap[b]?
 keep:∀ id sub,bA h id sub→fh ks id sub=false→bA h' id sub∧ρ' id sub=ρ id sub
 fresh:∀ b,j5 h' ρ' b→j5 h ρ b∨w.heap.size≤b
 boxes:∀ id,bf (h id)=true→bf (h' id)=true∧ρ' id none=ρ id none
 stay:∀ id,aQ id=true→h' id ≠ .dead→h id ≠ .dead∧ρ' id none=ρ id none
theorem Evo.refl (w:World) (ρ:bd) (h:ac):Evo w ρ h w ρ h []:=⟨rfl,rfl,rfl,Nat.le_refl _,fun _ _ _=>rfl,fun _ _ hp _=>⟨hp,rfl⟩,fun _ ho => .inl ho,fun _ hb=>⟨hb,rfl⟩,fun _ _ hd=>⟨hd,rfl⟩⟩
theorem qu (a b:K) (id:Nat) (sub:Option Nat):fh (a++b) id sub=(fh a id sub || fh b id sub):=by simp [fh]
theorem Evo.trans {w w' w'':World} {ρ ρ' ρ'':bd} {h h' h'':ac} {ks ks':K} (a:Evo w ρ h w' ρ' h' ks) (b:Evo w' ρ' h' w'' ρ'' h'' ks'):Evo w ρ h w'' ρ'' h'' (ks++ks') :=
 ⟨b.os.trans a.os,b.tape.trans a.tape,b.output.trans a.output,Nat.le_trans a.size b.size,
  fun x hx ho=>(b.old x (Nat.lt_of_lt_of_le hx a.size) (fun o=>by rcases a.fresh x o with o | o; exact ho o; omega)).trans (a.old x hx ho),
  fun id sub hp hk=>by
   rw [qu,Bool.or_eq_false_iff] at hk
   obtain ⟨h1,h2⟩:=a.keep id sub hp hk.1
   obtain ⟨h3,h4⟩:=b.keep id sub h1 hk.2
   exact ⟨h3,h4.trans h2⟩,
  fun x o=>by
   rcases b.fresh x o with o | o
   ·exact a.fresh x o
   ·exact .inr (Nat.le_trans a.size o),
  fun id hb=>by
   obtain ⟨h1,h2⟩:=a.boxes id hb
   obtain ⟨h3,h4⟩:=b.boxes id h1
   exact ⟨h3,h4.trans h2⟩,
  fun id hp hd=>by
   obtain ⟨h1,h2⟩:=b.stay id hp hd
   obtain ⟨h3,h4⟩:=a.stay id hp h1
   exact ⟨h3,h2.trans h4⟩⟩
theorem Evo.al {w w':World} {X:Nat→Prop} {ρ ρ':bd} {h h':ac} {ks:K} (e:Evo w ρ h w' ρ' h' ks) {b:Nat} (hb:aE w X h ρ b):aE w' X h' ρ' b∧w'.heap[b]?=w.heap[b]? :=
 ⟨⟨Nat.lt_of_lt_of_le hb.1 e.size,hb.2.1,fun o=>by rcases e.fresh b o with o | o; exact hb.2.2 o; have:=hb.1; omega⟩,e.old b hb.1 hb.2.2⟩
section
variable {w w':World} {A A':Nat→Prop}
theorem RD.mono {c:AV} {u:Value} (h:RD w A c u) (hA:∀ b,A b→A' b∧w'.heap[b]?=w.heap[b]?):RD w' A' c u:=by
 induction h with
 | any u h=>exact .any u h
 | v x h=>exact .v x h
 | emp a=>exact .emp a
 | sl k rows a cap ad vals hc ha hk hv hl hr ih =>
  refine .sl k rows a cap ad vals hc (fun hne=>⟨(ha hne).1,(hA _ (ha hne).2.1).1,(ha hne).2.2⟩) hk (fun i row j c h1 h2 => ?_) hl ih
  have hne:rows ≠ []:=by intro e; simp [e] at h1
  rw [gL (w:=w) (w':=w') (by rw [iP]; exact (hA _ (ha hne).2.1).2)]
  exact hv i row j c h1 h2
 | agg cs us hs h1 hr ih=>exact .agg cs us hs h1 ih
 | fn f=>exact .fn f
theorem bI.mono {k:Nat} {rows:List (List AV)} {us:Array Value} (h:bI w A k rows us) (hA:∀ b,A b→A' b∧w'.heap[b]?=w.heap[b]?):bI w' A' k rows us :=
 fun i row hi=>⟨(h i row hi).1,fun j c hc=>by obtain ⟨u,h1,h2,h3⟩:=(h i row hi).2 j c hc; exact ⟨u,h1,h2.mono hA,h3⟩⟩
end
theorem RD.one {w:World} {A:Nat→Prop} {c:AV} {u:Value} (h:RD w A c u) (hd:aA c=true):u.oneCell'=true:=by
 cases h with
 | any u h=>exact h
 | v x h=>exact tX h
 | emp a=>rfl
 | sl=>rfl
 | agg=>simp [aA] at hd
 | fn=>rfl
section
variable {w w':World} {A A':Nat→Prop} {ρ ρ':bd} {h h':ac}
theorem RV.keep {c:AV} {u:Value} (hv:RV w A ρ h c u) (hA:∀ b,A b→A' b∧w'.heap[b]?=w.heap[b]?) (hk:∀ id sub,bA h id sub→bA h' id sub∧ρ' id sub=ρ id sub):RV w' A' ρ' h' c u:=by
 induction hv with
 | anyv u=>exact .anyv u
 | und=>exact .und
 | dat hd=>exact .dat (hd.mono hA)
 | ref id sub k i j hp=>rw [← (hk id sub hp).2]; exact .ref id sub k i j (hk id sub hp).1
 | rsl id sub k lo n cap a hp hn hb ha =>
  obtain ⟨h1,h2⟩:=hk id sub hp
  exact .rsl id sub k lo n cap a h1 hn (by rw [h2]; exact hb) (by rw [h2]; exact ha)
 | ipt cs ad vals hA' hs hv hl hr =>
  exact .ipt cs ad vals (hA _ hA').1 hs (fun j c hc=>by rw [gL (w:=w) (w':=w') (by rw [iP]; exact (hA _ hA').2)]; exact hv j c hc) hl (fun j c hc=>(hr j c hc).mono hA)
 | agg cs us hs h1 hr ih=>exact .agg cs us hs h1 ih
 | tup vs us hs hr ih=>exact .tup vs us hs ih
 | fn f x y us ts hs ht hx hy ihx ihy=>exact .fn f x y us ts hs ht ihx ihy
theorem RV.keepL {ks:K} {c:AV} {u:Value} (hv:RV w A ρ h c u) (hA:∀ b,A b→A' b∧w'.heap[b]?=w.heap[b]?) (hk:∀ id sub,bA h id sub→fh ks id sub=false→bA h' id sub∧ρ' id sub=ρ id sub) (hm:jS ks c=false):RV w' A' ρ' h' c u:=by
 cases hv with
 | anyv u=>exact .anyv u
 | und=>exact .und
 | dat hd=>exact .dat (hd.mono hA)
 | ref id sub k i j hp =>
  obtain ⟨h1,h2⟩:=hk id sub hp (by simpa [jS] using hm)
  rw [← h2]; exact .ref id sub k i j h1
 | rsl id sub k lo n cap a hp hn hb ha =>
  obtain ⟨h1,h2⟩:=hk id sub hp (by simpa [jS] using hm)
  exact .rsl id sub k lo n cap a h1 hn (by rw [h2]; exact hb) (by rw [h2]; exact ha)
 | ipt cs ad vals hA' hs hv hl hr =>
  exact .ipt cs ad vals (hA _ hA').1 hs (fun j c hc=>by rw [gL (w:=w) (w':=w') (by rw [iP]; exact (hA _ hA').2)]; exact hv j c hc) hl (fun j c hc=>(hr j c hc).mono hA)
 | agg cs us hs h1 hr=>simp [jS] at hm
 | tup vs us hs hr=>simp [jS] at hm
 | fn f x y us ts hs ht hx hy =>
  simp [jS] at hm
  obtain ⟨rfl,rfl⟩:=hm
  exact .fn f [] [] us ts hs ht (fun i c u hc=>by simp at hc) (fun i c u hc=>by simp at hc)
theorem RV.keep1 {ks:K} {c:AV} {u:Value} (hv:RV w A ρ h c u) (hA:∀ b,A b→A' b∧w'.heap[b]?=w.heap[b]?) (hk:∀ id sub,bA h id sub→fh ks id sub=false→bA h' id sub∧ρ' id sub=ρ id sub) (hm:sw ks c=false):RV w' A' ρ' h' c u:=by
 cases c with
 | agg cs =>
  simp [sw] at hm
  cases hv with
  | dat hd=>exact .dat (hd.mono hA)
  | agg _ us hs h1 hr=>exact .agg cs us hs h1 fun i c u hc hu=>(hr i c u hc hu).keepL hA hk (hm c (List.mem_of_getElem? hc))
 | fn f x y =>
  simp [sw] at hm
  cases hv with
  | dat hd=>exact .dat (hd.mono hA)
  | fn _ _ _ us ts hs ht hx hy=>exact .fn f x y us ts hs ht (fun i c u hc hu=>(hx i c u hc hu).keepL hA hk (hm.1 c (List.mem_of_getElem? hc))) (fun i c u hc hu=>(hy i c u hc hu).keepL hA hk (hm.2 c (List.mem_of_getElem? hc)))
 | _=>exact hv.keepL hA hk (by simpa [sw] using hm)
theorem RV.keep2 {ks:K} {c:AV} {u:Value} (hv:RV w A ρ h c u) (hA:∀ b,A b→A' b∧w'.heap[b]?=w.heap[b]?) (hk:∀ id sub,bA h id sub→fh ks id sub=false→bA h' id sub∧ρ' id sub=ρ id sub) (hm:LC ks c=false):RV w' A' ρ' h' c u:=by
 cases c with
 | tup vs =>
  simp [LC] at hm
  cases hv with
  | dat hd=>cases hd
  | tup _ us hs hr=>exact .tup vs us hs fun i c u hc hu=>(hr i c u hc hu).keep1 hA hk (hm c (List.mem_of_getElem? hc))
 | _=>exact hv.keep1 hA hk (by simpa [LC] using hm)
end
def RS (w:World) (A:Nat→Prop) (ρ:bd) (h:ac) (s:aj) (tm:Array Value):Prop:=∀ i,RV w A ρ h (s i) (tm.getD i undef)
section
variable {w w':World} {X:Nat→Prop} {ρ ρ':bd} {h h':ac} {ks:K}
theorem Evo.rs (e:Evo w ρ h w' ρ' h' ks) {s:aj} {tm:Array Value} (hs:RS w (aE w X h ρ) ρ h s tm):RS w' (aE w' X h' ρ') ρ' h' (nq ks s) tm:=by
 intro i
 cases ks with
 | nil=>exact (hs i).keep (fun b hb=>e.al hb) (fun id sub hp=>e.keep id sub hp rfl)
 | cons p l =>
  show RV _ _ _ _ (lZ (p::l) (s i)) _
  unfold lZ
  split
  ·exact .anyv _
  ·rename_i hm
   exact (hs i).keep2 (fun b hb=>e.al hb) (fun id sub hp hk=>e.keep id sub hp hk) (by simpa using hm)
theorem Evo.rv (e:Evo w ρ h w' ρ' h' []) {c:AV} {u:Value} (hv:RV w (aE w X h ρ) ρ h c u):RV w' (aE w' X h' ρ') ρ' h' c u :=
 hv.keep (fun b hb=>e.al hb) (fun id sub hp=>e.keep id sub hp rfl)
theorem Evo.rd (e:Evo w ρ h w' ρ' h' ks) {c:AV} {u:Value} (hd:RD w (aE w X h ρ) c u):RD w' (aE w' X h' ρ') c u:=hd.mono fun _ hb=>e.al hb
end
theorem RS.upd {w:World} {A:Nat→Prop} {ρ:bd} {h:ac} {s:aj} {tm:Array Value} (hs:RS w A ρ h s tm) {d:Nat} {x:AV} {v:Value} (hd:d < tm.size) (hv:RV w A ρ h x v):RS w A ρ h (upd s d x) (tm.setIfInBounds d v):=by
 intro i
 unfold Ab.upd
 by_cases hi:i=d
 ·subst hi; simpa [Array.getD_eq_getD_getElem?,hd] using hv
 ·rw [if_neg hi]
  have:=hs i
  simpa [Array.getD_eq_getD_getElem?,Array.getElem?_setIfInBounds_ne (show d ≠ i from fun e=>hi e.symm)] using this
theorem LD {h:ac} {id:Nat} (hb:bf (h id)=true):bA h id none:=by intro e; simp [e,bf] at hb
section
variable {w w':World} {A A':Nat→Prop} {ρ ρ':bd} {h h':ac} {c:AV} {u:Value}
theorem RV.toD (hd:aA c=true) (h1:u.oneCell'=true) (hv:RV w A ρ h c u):RD w A c u:=by
 cases hv with
 | anyv u=>exact .any u h1
 | und=>simp [aA] at hd
 | dat hd=>exact hd
 | fn f x y us ts hs ht hx hy =>
  simp [aA] at hd
  obtain ⟨rfl,rfl⟩:=hd
  have e1:us = #[]:=by simpa using hs
  have e2:ts = #[]:=by simpa using ht
  subst e1 e2
  exact .fn f
 | _=>simp [aA] at hd
theorem RV.keepD (hd:aA c=true) (hv:RV w A ρ h c u) (hA:∀ b,A b→A' b∧w'.heap[b]?=w.heap[b]?):RV w' A' ρ' h' c u:=by
 cases hv with
 | anyv u=>exact .anyv u
 | und=>exact .und
 | dat hd=>exact .dat (hd.mono hA)
 | fn f x y us ts hs ht hx hy =>
  simp [aA] at hd
  obtain ⟨rfl,rfl⟩:=hd
  exact .fn f [] [] us ts hs ht (fun i c u hc=>by simp at hc) (fun i c u hc=>by simp at hc)
 | _=>simp [aA] at hd
theorem RV.keepC (hv:RV w A ρ h c u) (ho:gi h c) (hA:∀ b,A b→A' b∧w'.heap[b]?=w.heap[b]?) (hB:∀ id,bf (h id)=true→bf (h' id)=true∧ρ' id none=ρ id none):RV w' A' ρ' h' c u∧gi h' c:=by
 cases hv with
 | anyv u=>exact ⟨.anyv u,trivial⟩
 | und=>cases ho
 | dat hd =>
  refine ⟨.dat (hd.mono hA),?_⟩
  cases hd <;> first | trivial | exact ho
 | ref id sub k i j hp =>
  cases sub with
  | none =>
   obtain ⟨h1,h2⟩:=hB id ho
   exact ⟨by rw [← h2]; exact .ref id none k i j (LD h1),h1⟩
  | some p=>cases ho
 | fn f x y us ts hs ht hx hy =>
  have ho':=ho
  simp only [gi,Bool.and_eq_true,List.all_eq_true] at ho'
  exact ⟨.fn f x y us ts hs ht (fun i c u hc hu=>(hx i c u hc hu).keepD (ho'.1 c (List.mem_of_getElem? hc)) hA) (fun i c u hc hu=>(hy i c u hc hu).keepD (ho'.2 c (List.mem_of_getElem? hc)) hA),ho⟩
 | _=>cases ho
theorem nt (hd:aA c=true):gi h c:=by
 cases c <;> simp [aA] at hd <;> first | trivial | (obtain ⟨rfl,rfl⟩:=hd; simp [gi])
theorem kr (hn:aO c=false) {id p:Nat}:RC w A ρ h id p c u↔RV w A ρ h c u∧u.oneCell'=true∧gi h c:=by
 cases c <;> first | rfl | simp [aO] at hn
theorem RO.keep {id:Nat} (ho:RO w A ρ h id (h id)) (hA:∀ b,A b→A' b∧w'.heap[b]?=w.heap[b]?) (hB:∀ id,bf (h id)=true→bf (h' id)=true∧ρ' id none=ρ id none)
  (hρ:∀ sub,ρ' id sub=ρ id sub) (hb:∀ sub,live h id sub→w'.heap[(ρ id sub).1]?=w.heap[(ρ id sub).1]?):RO w' A' ρ' h' id (h id):=by
 cases e:h id with
 | dead=>trivial
 | bx cs =>
  rw [e] at ho
  obtain ⟨us,t,h1,h2,h3,h4⟩:=ho
  refine ⟨us,t,?_,by rw [hρ]; exact h2,h3,fun p c hc => ?_⟩
  ·rw [hρ,hb none (by simp [live,e]),h1]
  ·obtain ⟨u,h5,h6⟩:=h4 p c hc
   refine ⟨u,h5,?_⟩
   cases hO:aO c with
   | true =>
    cases c <;> simp [aO] at hO
    rename_i k rows
    obtain ⟨a,cap,us',t',g1,g2,g3,g4,g5,g6,g7⟩:=h6
    refine ⟨a,cap,us',t',g1,by rw [hρ]; exact g2,g3,?_,by rw [hρ]; exact g5,g6,g7.mono hA⟩
    rw [hρ,hb (some p) ⟨cs,k,rows,e,hc⟩,g4]
   | false =>
    rw [kr hO] at h6 ⊢
    obtain ⟨g1,g2⟩:=h6.1.keepC h6.2.2 hA hB
    exact ⟨g1,h6.2.1,g2⟩
 | ar k rows =>
  rw [e] at ho
  obtain ⟨us,t,h1,h2,h3,h4⟩:=ho
  exact ⟨us,t,by rw [hρ,hb none (by simp [live,e]),h1],by rw [hρ]; exact h2,h3,h4.mono hA⟩
 | fz k rows =>
  rw [e] at ho
  obtain ⟨h0,us,t,fr,h1,h2,h3,h4⟩:=ho
  obtain ⟨g1,g2⟩:=hA _ h0
  exact ⟨by rw [hρ]; exact g1,us,t,fr,by rw [hρ,g2,h1],by rw [hρ]; exact h2,h3,h4.mono hA⟩
end
theorem Rel.step {w w':World} {X:Nat→Prop} {ρ ρ':bd} {h h':ac} {ks:K} (r:Rel w X ρ h) (e:Evo w ρ h w' ρ' h' ks) (S:Nat→Prop)
  (hS:∀ id,¬ S id→h' id=h id∧(∀ sub,ρ' id sub=ρ id sub)∧(∀ sub,live h id sub→w'.heap[(ρ id sub).1]?=w.heap[(ρ id sub).1]?))
  (hi:∀ id sub id' sub',live h' id sub→live h' id' sub'→(ρ' id sub).1=(ρ' id' sub').1→id=id'∧sub=sub') (hx:∀ id sub,live h' id sub → ¬ X (ρ' id sub).1)
  (hc:∀ id,S id→RO w' (aE w' X h' ρ') ρ' h' id (h' id)):Rel w' X ρ' h' :=
 ⟨hi,hx,fun id=>by
  by_cases hs:S id
  ·exact hc id hs
  ·obtain ⟨h1,h2,h3⟩:=hS id hs
   rw [h1]
   exact (r.ob id).keep (fun b hb=>e.al hb) e.boxes h2 h3,
  fun b hb=>Nat.lt_of_lt_of_le (r.xl b hb) e.size⟩
def Hm:Value→Option AV
 | .slice none 0 0=>some .emp
 | .bool b=>some (.v (.bool b))
 | .int k n=>some (.v (.int k n))
 | .string s=>some (.v (.string s))
 | .pointer none=>some (.v (.pointer none))
 | .nilFunc=>some (.v .nilFunc)
 | .nilIface=>some (.v .nilIface)
 | .map none=>some (.v (.map none))
 | _=>none
def wc:List Value→Option (List AV)
 | []=>some []
 | v::l=>(Hm v).bind fun a=>(wc l).bind fun q=>some (a::q)
def bE:Operand→Option Opd
 | .tmp t=>some (.t t)
 | .const v=>(Hm v).map .c
 | .func f=>some (.c (.fn f [] []))
 | .global _=>some (.c .any)
def mq:List Operand→Option (List Opd)
 | []=>some []
 | v::l=>(bE v).bind fun a=>(mq l).bind fun q=>some (a::q)
def xP:Option Operand→Option (Option Opd)
 | none=>some none
 | some x=>(bE x).map some
def mJ (P:Program) (t:TypeId):Option Bool:=match P.underlying t with
 | some (.struct _)=>some true
 | some (.array _ _)=>some true
 | some _=>some false
 | none=>none
def a9 (P:Program) (t:TypeId):Option Nat:=(P.info? t).map (·.size)
def pu (P:Program) (t:TypeId):Option Nat:=(P.info? t).map (·.bytes)
def iZ (P:Program) (t:TypeId):Option (List AV):=(P.info? t).bind fun i=>i.zero.bind fun z=>if z.cells.size=i.size then wc z.cells.toList else none
def qv (P:Program) (t:TypeId):Option TypeId:=match P.underlying t with
 | some (.slice e)=>some e
 | _=>none
def s9 (P:Program) (t:TypeId) (f:Nat):Option Field:=match P.underlying t with
 | some (.struct fs)=>fs[f]?
 | _=>none
def wd:BinOp→Option Bool
 | .eql=>some false
 | .neq=>some true
 | _=>none
def W5 (P:Program) (op:BinOp) (t:TypeId) (x y:Opd):Option POp:=match P.underlying t with
 | some .bool=>(wd op).map fun n => .eqc n 0 x y
 | some (.pointer _)=>(wd op).map fun n => .eqc n 1 x y
 | some (.func _ _ _)=>(wd op).map fun n => .eqc n 2 x y
 | some (.int _)=>some (.bin op x y)
 | some .string=>some (.bin op x y)
 | some (.slice _)=>(match y with | .c .emp=>(wd op).map fun n => .nilq n x | _=>none)
 | _=>none
def TU (P:Program) (src dst:TypeId) (x:Opd):Option POp:=match P.underlying src,P.underlying dst with
 | some (.int _),some (.int k)=>some (.cv k x)
 | some .string,some .string=>some (.cv0 x)
 | _,_=>none
def O5 (P:Program) (t:TypeId) (x:Opd) (lo hi mx:Option Opd):Option POp:=match P.underlying t with
 | some (.slice e)=>(a9 P e).map fun k => .slc k x lo hi mx
 | some .string=>match mx with
  | none=>some (.slcS x lo hi)
  | some _=>none
 | _=>none
def TV (P:Program) (t:TypeId) (x i:Opd):Option POp:=match P.underlying t with
 | some (.slice e)=>(a9 P e).map fun k => .iadrS k x i
 | some (.array n e)=>(a9 P e).map fun k => .iadrA n k x i
 | _=>none
def W6 (P:Program) (t:TypeId) (x i:Opd):Option POp:=match P.underlying t with
 | some .string=>some (.idxS x i)
 | some (.array n e)=>(a9 P e).bind fun k=>(mJ P e).map fun g => .idxA n k g x i
 | _=>none
def W7 (P:Program) (t:TypeId) (x:Opd):Option POp:=match P.underlying t with
 | some (.slice _)=>some (.len false x)
 | some .string=>some (.len true x)
 | some (.array n _)=>some (.mv (.c (I n)))
 | _=>none
def W8 (P:Program) (t:TypeId) (x:Opd):Option POp:=match P.underlying t with
 | some (.slice _)=>some (.capp x)
 | _=>none
def td (P:Program) (fs:Nat→Option (Nat × Nat)):List (Nat × Operand)→Option (List (Nat × Nat × Opd))
 | []=>some []
 | (i,x)::l=>(fs i).bind fun p=>(bE x).bind fun a=>(td P fs l).bind fun q=>some ((p.1,p.2,a)::q)
def te:List (Nat × Operand)→Option (List (Nat × Opd))
 | []=>some []
 | (i,x)::l=>(bE x).bind fun a=>(te l).bind fun q=>some ((i,a)::q)
def CW (P:Program) (fs:Array Field) (i:Nat):Option (Nat × Nat):=(fs[i]?).bind fun f=>(a9 P f.type).map fun k=>(f.offset,k)
def Hn (P:Program) (t:TypeId) (ps:List (Nat × Operand)):Option POp:=(iZ P t).bind fun z=>match P.underlying t with
 | some (.struct fs)=>if fs.all (fun f=>(a9 P f.type).isSome) then (td P (CW P fs) ps).map fun q => .build z q else none
 | some (.array _ e)=>(a9 P e).bind fun k=>(td P (fun i=>some (i*k,k)) ps).map fun q => .build z q
 | _=>none
def xQ (P:Program) (t:TypeId) (n:Nat) (ps:List (Nat × Operand)):Option AOp:=(qv P t).bind fun e=>(a9 P e).bind fun k =>
 if n*k≤16777216∧0 < k then (iZ P e).bind fun z=>(te ps).map fun q => .buildSl k z n q else none
def GZ (P:Program) (t:TypeId) (l c:Opd):Option AOp:=(qv P t).bind fun e=>(a9 P e).bind fun k=>(pu P e).bind fun b =>
 if 0 < k then (iZ P e).map fun z => .mkSl k z b l c else none
def MN (P:Program) (ts:List TypeId) (as:List Operand):Option AOp:=match ts,as with
 | [t,u],[x,y]=>(qv P t).bind fun e=>(qv P u).bind fun _=>(a9 P e).bind fun k=>(pu P e).bind fun b=>(bE x).bind fun x=>(bE y).bind fun y =>
  if 0 < k∧0 < b∧(iZ P e).isSome=true then some (.app k b x y) else none
 | _,_=>none
def G0 (P:Program) (ts:List TypeId) (as:List Operand):Option AOp:=match ts,as with
 | [t,_],[x,y]=>(qv P t).bind fun e=>(a9 P e).bind fun k=>(bE x).bind fun x=>(bE y).bind fun y=>if 0 < k then some (.cpy k x y) else none
 | _,_=>none
def tY (P:Program) (b:Builtin) (ts:List TypeId) (as:List Operand):Option AOp:=match b,ts,as with
 | .len,t::_,[x]=>(bE x).bind fun x=>(W7 P t x).map .p
 | .cap,t::_,[x]=>(bE x).bind fun x=>(W8 P t x).map .p
 | .min,_,x::l=>(bE x).bind fun x=>(mq l).map fun ys => .p (.mnx true x ys)
 | .max,_,x::l=>(bE x).bind fun x=>(mq l).map fun ys => .p (.mnx false x ys)
 | .append,ts,as=>MN P ts as
 | .copy,ts,as=>G0 P ts as
 | _,_,_=>none
def G1 (P:Program) (c:Call):Option AOp:=match c.callee with
 | .builtin b=>tY P b c.argTypes.toList c.args.toList
 | .value f=>(bE f).bind fun f=>(mq c.args.toList).map fun l => .call f l
 | .invoke _ _=>none
def we (P:Program) (op:Op):Option AOp:=match op with
 | .move x | .assign x=>(bE x).map fun x => .p (.mv x)
 | .pick c a b=>(bE c).bind fun c=>(bE a).bind fun a=>(bE b).map fun b => .p (.pick c a b)
 | .alloc t=>(iZ P t).map .alloc
 | .box t x=>(a9 P t).bind fun k=>(bE x).map fun x => .box k x
 | .build t ps=>(Hn P t ps.toList).map .p
 | .buildSlice t n ps=>xQ P t n ps.toList
 | .load t x=>(mJ P t).bind fun g=>(a9 P t).bind fun k=>(bE x).bind fun x=>if g || k == 1 then some (.load k g x) else none
 | .store t x y=>(a9 P t).bind fun k=>(bE x).bind fun x=>(bE y).map fun y => .store k x y
 | .nilCheck x=>(bE x).map fun x => .p (.nilck x)
 | .binOp op t x y _=>(bE x).bind fun x=>(bE y).bind fun y=>(W5 P op t x y).map .p
 | .unOp op _ x=>(bE x).map fun x => .p (.un op x)
 | .convert s d x=>(bE x).bind fun x=>(TU P s d x).map .p
 | .makeFunc (.func f) a b=>(mq a.toList).bind fun a=>(mq b.toList).map fun b => .p (.mkF f a b)
 | .makeSlice t l c=>(bE l).bind fun l=>(bE c).bind fun c=>GZ P t l c
 | .slice t x lo hi mx=>(bE x).bind fun x=>(xP lo).bind fun lo=>(xP hi).bind fun hi=>(xP mx).bind fun mx=>(O5 P t x lo hi mx).map .p
 | .fieldAddr t x f=>(bE x).bind fun x=>(s9 P t f).bind fun f=>(a9 P f.type).bind fun k=>if k=0 then none else some (.p (.fadr f.offset x))
 | .field t x f=>(bE x).bind fun x=>(s9 P t f).bind fun f=>(a9 P f.type).bind fun k=>(mJ P f.type).map fun g => .p (.fld f.offset k g x)
 | .indexAddr t x i=>(bE x).bind fun x=>(bE i).bind fun i=>(TV P t x i).map .p
 | .index t x i=>(bE x).bind fun x=>(bE i).bind fun i=>(W6 P t x i).map .p
 | .extract x i=>(bE x).map fun x => .p (.ext i x)
 | .call c=>G1 P c
 | _=>none
def W9 (P:Program) (op:Op):Option AOp:=some ((we P op).getD .bad)
def Ho (ops:Array Oper):Option (Nat × Bool)→Option (Option (Nat × Bool))
 | none=>some none
 | some (j,b)=>((ops[j]?).bind (·.dst)).map fun d=>some (d,b)
def AOp.gives:AOp→Bool
 | .store _ _ _=>false
 | .call _ _=>false
 | .bad=>false
 | _=>true
def A9 (P:Program) (N:Nat) (ops:Array Oper) (o:Oper):Option COp:=(Ho ops o.guard).bind fun g=>(W9 P o.op).bind fun op =>
 if (!op.gives || o.dst.isSome) && decide (o.dst.getD 0 < N) then some ⟨o.dst,g,op⟩ else none
def kt (P:Program) (N:Nat) (ops:Array Oper):List Oper→Option (List COp)
 | []=>some []
 | o::l=>(A9 P N ops o).bind fun a=>(kt P N ops l).bind fun q=>some (a::q)
def en (o:Oper):List Nat:=(o.after.toList.filter (Region.binds .any)).map (·.on)
def jV:List Oper→List (List Nat)→List (List Nat)
 | [],acc=>acc
 | o::l,acc=>jV l (acc++[en o++(en o).flatMap fun d=>acc.getD d []])
def G2 (ps:List (Nat × Nat)) (i j:Nat) (a b:COp):Bool:=xO a b && (W3 a.op || W3 b.op || (Hk a.op && Hk b.op) || ps.contains (i,j))
def xR (ps:List (Nat × Nat)) (j:Nat) (b:COp) (bf:List Nat):Nat→List COp→Bool
 | _,[]=>true
 | i,a::l=>(bf.contains i || G2 ps i j a b) && xR ps j b bf (i+1) l
def tZ (ps:List (Nat × Nat)):Nat→List COp→List COp→List (List Nat)→Bool
 | j,done,b::l,bf::bs=>(bf.all fun i=>decide (i < j)) && (xR ps j b bf 0 done && tZ ps (j+1) (done++[b]) l bs)
 | _,_,[],[]=>true
 | _,_,_,_=>false
def O6 (ops:List Oper) (cl:List COp) (ps:List (Nat × Nat)):Bool:=tZ ps 0 [] cl (jV ops [])
def dX (P:Program) (N:Nat):Code→Cmd→Option Cmd
 | .skip,.skip=>some .skip
 | .region _ ops false,.ops ks _=>(kt P N ops ops.toList).map fun l => .ops ks l
 | .region _ ops true,.dops ks _ ps=>(kt P N ops ops.toList).bind fun l=>if O6 ops.toList l ps then some (.dops ks l ps) else none
 | .seq a b,.seq c d=>(dX P N a c).bind fun c=>(dX P N b d).map fun d => .seq c d
 | .cond x a b,.cond _ c d=>(bE x).bind fun x=>(dX P N a c).bind fun c=>(dX P N b d).map fun d => .cond x c d
 | .block i a,.block _ ks c=>(dX P N a c).map fun c => .block i ks c
 | .loop a,.loop ks hs c=>(dX P N a c).map fun c => .loop ks hs c
 | .exit i,.exit _=>some (.exit i)
 | .ret,.ret=>some .ret
 | c,.frz is a=>(dX P N c a).map (.frz is)
 | _,_=>none
def ub (P:Program):List ResultVar→Option (List Rv)
 | []=>some []
 | .tmp t::l=>(ub P l).map fun q => .t t::q
 | .cell a t::l=>(mJ P t).bind fun g=>(a9 P t).bind fun k=>if g || k == 1 then (ub P l).map fun q => .cell a k g::q else none
section
variable {P:Program} {w:World} {A:Nat→Prop} {ρ:bd} {h:ac} {s:aj} {a:Act}
theorem RV.v_inv {x u:Value} (hv:RV w A ρ h (.v x) u):u=x∧kq x=true:=by
 cases hv with | dat hd=>cases hd with | v _ hp=>exact ⟨rfl,hp⟩
theorem RV.emp_inv {u:Value} (hv:RV w A ρ h .emp u):∃ a,u = .slice a 0 0:=by
 cases hv with | dat hd=>cases hd with | emp a=>exact ⟨a,rfl⟩
theorem RV.sl_inv {k:Nat} {rows:List (List AV)} {u:Value} (hv:RV w A ρ h (.sl k rows) u):RD w A (.sl k rows) u:=by
 cases hv with | dat hd=>exact hd
theorem RD.sl_form {k:Nat} {rows:List (List AV)} {u:Value} (hv:RD w A (.sl k rows) u):∃ a cap,u = .slice a rows.length cap∧rows.length≤cap:=by
 cases hv with | sl _ _ a cap _ _ hc=>exact ⟨a,cap,rfl,hc⟩
theorem RV.rsl_inv {id:Nat} {sub:Option Nat} {k lo n:Nat} {u:Value} (hv:RV w A ρ h (.rsl id sub k lo n) u) :
  ∃ a cap,u = .slice a n cap∧bA h id sub∧n≤cap∧(lo+cap)*k≤(ρ id sub).2∧(cap=0∨a=some ⟨(ρ id sub).1,lo*k,none⟩):=by
 cases hv with
 | dat hd=>cases hd
 | rsl _ _ _ _ _ cap a hp hn hb ha=>exact ⟨a,cap,rfl,hp,hn,hb,ha⟩
theorem RV.ref_inv {id:Nat} {sub:Option Nat} {k i j:Nat} {u:Value} (hv:RV w A ρ h (.ref id sub k i j) u) :
  u = .pointer (some ⟨(ρ id sub).1,i*k+j,none⟩)∧bA h id sub:=by
 cases hv with
 | dat hd=>cases hd
 | ref _ _ _ _ _ hp=>exact ⟨rfl,hp⟩
theorem RV.fn_inv {f:FuncId} {x y:List AV} {u:Value} (hv:RV w A ρ h (.fn f x y) u):∃ us ts:Array Value,u = .func (.func f) us ts∧us.size=x.length∧ts.size=y.length ∧
  (∀ (i:Nat) (c:AV) (u:Value),x[i]?=some c→us[i]?=some u→RV w A ρ h c u)∧(∀ (i:Nat) (c:AV) (u:Value),y[i]?=some c→ts[i]?=some u→RV w A ρ h c u):=by
 cases hv with
 | dat hd=>cases hd with | fn _=>exact ⟨#[],#[],rfl,rfl,rfl,fun i c u hc=>by simp at hc,fun i c u hc=>by simp at hc⟩
 | fn _ _ _ us ts hs ht hx hy=>exact ⟨us,ts,rfl,hs,ht,hx,hy⟩
theorem RV.agg_inv {cs:List AV} {u:Value} (hv:RV w A ρ h (.agg cs) u):∃ us:Array Value,u = .agg us∧us.size=cs.length∧(∀ (i:Nat) (u:Value),us[i]?=some u→u.oneCell'=true) ∧
  (∀ (i:Nat) (c:AV) (u:Value),cs[i]?=some c→us[i]?=some u→RV w A ρ h c u):=by
 cases hv with
 | dat hd=>cases hd with | agg _ us hs h1 hr=>exact ⟨us,rfl,hs,h1,fun i c u hc hu => .dat (hr i c u hc hu)⟩
 | agg _ us hs h1 hr=>exact ⟨us,rfl,hs,h1,hr⟩
theorem EE {v:Value} {c:AV} (hc:Hm v=some c):RD w A c v:=by
 unfold Hm at hc
 split at hc <;> cases hc
 ·exact .emp none
 all_goals exact .v _ rfl
theorem aM {x:Operand} {y:Opd} (hc:bE x=some y) (hs:RS w A ρ h s a.tmps):RV w A ρ h (ev s y) (a.eval x):=by
 cases x with
 | tmp t=>simp [bE] at hc; subst hc; exact hs t
 | const v =>
  simp [bE] at hc
  obtain ⟨c,h1,rfl⟩:=hc
  exact .dat (EE h1)
 | func f=>simp [bE] at hc; subst hc; exact .dat (.fn f)
 | global g=>simp [bE] at hc; subst hc; exact .anyv _
theorem mY (hs:RS w A ρ h s a.tmps):∀ {x:List Operand} {y:List Opd},mq x=some y→y.length=x.length∧∀ (i:Nat) (o:Operand) (p:Opd),x[i]?=some o→y[i]?=some p→RV w A ρ h (ev s p) (a.eval o)
 | [],y,hc=>by simp [mq] at hc; subst hc; exact ⟨rfl,fun i o p h=>by simp at h⟩
 | o::l,y,hc=>by
  simp only [mq,Option.bind_eq_some_iff] at hc
  obtain ⟨p,h1,q,h2,h3⟩:=hc
  cases h3
  obtain ⟨h4,h5⟩:=mY hs h2
  refine ⟨by simp [h4],fun i o' p' ho hp => ?_⟩
  cases i with
  | zero=>simp at ho hp; subst ho hp; exact aM h1 hs
  | succ i=>exact h5 i o' p' (by simpa using ho) (by simpa using hp)
theorem MO {op:BinOp} {t:TypeId} {u v r:Value} (hb:eO op u v=some r):(binOp op t u v).run P w = .ok r w∧kq r=true:=by
 cases u with
 | int k x =>
  cases v with
  | int k' y =>
   have hk:∀ op,(if k=k' then kl op k x y else none)=some r→op ≠ .shl→op ≠ .shr→(binOp op t (.int k x) (.int k' y)).run P w = .ok r w∧kq r=true:=by
    clear hb
    intro op hq h1 h2
    split at hq
    ·rename_i hk
     subst hk
     cases op <;> simp [kl] at hq h1 h2 <;> (first | subst hq | (obtain ⟨h0,hq⟩:=hq; subst hq)) <;> simp_all [binOp,Op.intArith,Op.intDiv,Op.intBits,Op.intCmp,kq]
    ·cases hq
   cases op <;> first
    | exact hk _ hb (by simp) (by simp)
    | (simp [eO,RM,RN] at hb; obtain ⟨h0,hb⟩:=hb; subst hb; simp [binOp,Op.shift,show ¬ y < 0 from by omega,kq])
  | _=>simp [eO] at hb
 | string x =>
  cases v with
  | string y =>
   cases op <;> simp [eO,WV] at hb
   case add=>obtain ⟨h0,hb⟩:=hb; subst hb; simp [binOp,Op.stringOp,kq,h0]
   all_goals subst hb; simp [binOp,Op.stringOp,kq]
  | _=>simp [eO] at hb
 | _=>simp [eO] at hb
theorem p5 {op:BinOp} {t:TypeId} {x y:Operand} {u v:Value} (hu:u.oneCell'=true) (h2:u = .nilIface→v ≠ .nilIface):(eqGuard op t x y u v).run P w = .ok () w:=by
 unfold eqGuard
 cases op <;> simp
 all_goals (cases u <;> simp [Value.oneCell'] at hu ⊢ <;> cases v <;> simp at h2 ⊢)
abbrev j6 (P:Program) (w:World) (A:Nat→Prop) (ρ:bd) (h:ac) (m:Sem Value) (z:AV):Prop:=∃ v,m.run P w = .ok v w∧RV w A ρ h z v
theorem sz {α β:Type} {m:Sem α} {f:α→Sem β} {x:α} {w w':World} (hm:m.run P w = .ok x w'):(m >>= f).run P w=(f x).run P w':=by
 rw [Sem.run_bind,hm]; rfl
theorem MP {c x y:AV} {u v t:Value} {z:AV} (hc:RV w A ρ h c t) (hx:RV w A ρ h x u) (hy:RV w A ρ h y v) (hz:xL c x y=some z) :
  j6 P w A ρ h (do pure (if ← asBool t then u else v)) z:=by
 unfold xL at hz
 split at hz
 ·rename_i b
  cases hz
  obtain ⟨rfl,_⟩:=hc.v_inv
  refine ⟨if b then u else v,by simp [asBool],?_⟩
  cases b <;> simpa
 ·cases hz
theorem EF {op:BinOp} {t:TypeId} {xo yo:Operand} {x y z:AV} {u v:Value} (hx:RV w A ρ h x u) (hy:RV w A ρ h y v) (hz:cd op x y=some z) :
  j6 P w A ρ h (do eqGuard op t xo yo u v; binOp op t u v) z:=by
 unfold cd at hz
 split at hz
 ·rename_i p q
  simp only [Option.map_eq_some_iff] at hz
  obtain ⟨r,hr,rfl⟩:=hz
  obtain ⟨rfl,_⟩:=hx.v_inv
  obtain ⟨rfl,_⟩:=hy.v_inv
  obtain ⟨h1,h2⟩:=MO (P:=P) (w:=w) (t:=t) hr
  refine ⟨r,?_,.dat (.v _ h2)⟩
  rw [sz (p5 ?_ ?_),h1]
  ·cases u <;> first | rfl | simp [eO] at hr
  ·intro e; subst e; simp [eO] at hr
 ·cases hz
theorem O7 {t:TypeId} (ht:P.underlying t=some .bool) (d:Nat) (p q:Bool):(Op.equalIn (d+1) t (.bool p) (.bool q)).run P w = .ok (p == q) w:=by
 simp [Op.equalIn,run_underlying ht]
theorem Hp {t e:TypeId} (ht:P.underlying t=some (.pointer e)) (d:Nat) (p:Option Addr):(Op.equalIn (d+1) t (.pointer p) (.pointer none)).run P w = .ok p.isNone w:=by
 cases p <;> simp [Op.equalIn,run_underlying ht]
theorem UK {t:TypeId} {x y:Array TypeId} {b:Bool} (ht:P.underlying t=some (.func x y b)) (d:Nat) (f:Fn) (p q:Array Value):(Op.equalIn (d+1) t (.func f p q) .nilFunc).run P w = .ok false w:=by
 simp [Op.equalIn,run_underlying ht]
theorem RZ {t:TypeId} {x y:Array TypeId} {b:Bool} (ht:P.underlying t=some (.func x y b)) (d:Nat):(Op.equalIn (d+1) t .nilFunc .nilFunc).run P w = .ok true w:=by
 simp [Op.equalIn,run_underlying ht]
theorem wg {op:BinOp} {n:Bool} {tc:Nat} {t:TypeId} {xo yo:Operand} {x y z:AV} {u v:Value} (hx:RV w A ρ h x u) (hy:RV w A ρ h y v) (hop:wd op=some n)
  (ht:(tc=0→P.underlying t=some .bool)∧(tc=1→∃ e,P.underlying t=some (.pointer e))∧(tc=2→∃ p q r,P.underlying t=some (.func p q r))) (hz:Hb n tc x y=some z) :
  j6 P w A ρ h (do eqGuard op t xo yo u v; binOp op t u v) z:=by
 have hop':(op = .eql∧n=false)∨(op = .neq∧n=true):=by cases op <;> simp [wd] at hop <;> subst hop <;> simp
 have key:∀ (r:Bool),u.oneCell'=true→u ≠ .nilIface→(∀ k q,u ≠ .int k q)→(∀ q,u ≠ .string q)→(∀ k q,u ≠ .float k q)→(∀ k p q,u ≠ .complex k p q)→(Op.equal t u v).run P w = .ok r w→j6 P w A ρ h (do eqGuard op t xo yo u v; binOp op t u v) (B (n != r)):=by
  intro r h1 h2 h3 h4 h5 h6 he
  rcases hop' with ⟨rfl,rfl⟩ | ⟨rfl,rfl⟩
  ·refine ⟨.bool r,?_,?_⟩
   ·rw [sz (p5 h1 fun e=>absurd e h2)]
    cases u <;> simp at h3 h4 h5 h6 <;> simp [binOp,he]
   ·have:(false != r)=r:=by cases r <;> rfl
    rw [this]; exact .dat (.v _ rfl)
  ·refine ⟨.bool (!r),?_,?_⟩
   ·rw [sz (p5 h1 fun e=>absurd e h2)]
    cases u <;> simp at h3 h4 h5 h6 <;> simp [binOp,he]
   ·have:(true != r) = !r:=by cases r <;> rfl
    rw [this]; exact .dat (.v _ rfl)
 unfold Hb at hz
 split at hz
 ·split at hz
  ·rename_i p q htc
   cases hz
   obtain ⟨rfl,_⟩:=hx.v_inv
   obtain ⟨rfl,_⟩:=hy.v_inv
   refine key (p == q) rfl (by simp) (by simp) (by simp) (by simp) (by simp) ?_
   exact O7 (ht.1 htc) 9999 p q
  ·cases hz
 ·split at hz
  ·rename_i htc
   cases hz
   obtain ⟨rfl,_⟩:=hx.ref_inv
   obtain ⟨rfl,_⟩:=hy.v_inv
   obtain ⟨e,he⟩:=ht.2.1 htc
   have:=key false rfl (by simp) (by simp) (by simp) (by simp) (by simp) (Hp he 9999 _)
   simpa using this
  ·cases hz
 ·split at hz
  ·rename_i htc
   cases hz
   obtain ⟨rfl,_⟩:=hx.v_inv
   obtain ⟨rfl,_⟩:=hy.v_inv
   obtain ⟨e,he⟩:=ht.2.1 htc
   have:=key true rfl (by simp) (by simp) (by simp) (by simp) (by simp) (Hp he 9999 _)
   have e2:(n != true) = !n:=by cases n <;> rfl
   rwa [e2] at this
  ·cases hz
 ·split at hz
  ·rename_i htc
   cases hz
   obtain ⟨us,ts,rfl,_⟩:=hx.fn_inv
   obtain ⟨rfl,_⟩:=hy.v_inv
   obtain ⟨p,q,r,he⟩:=ht.2.2 htc
   have:=key false rfl (by simp) (by simp) (by simp) (by simp) (by simp) (UK he 9999 _ _ _)
   simpa using this
  ·cases hz
 ·split at hz
  ·rename_i htc
   cases hz
   obtain ⟨rfl,_⟩:=hx.v_inv
   obtain ⟨rfl,_⟩:=hy.v_inv
   obtain ⟨p,q,r,he⟩:=ht.2.2 htc
   have:=key true rfl (by simp) (by simp) (by simp) (by simp) (by simp) (RZ he 9999)
   have e2:(n != true) = !n:=by cases n <;> rfl
   rwa [e2] at this
  ·cases hz
 ·cases hz
theorem R0 {op:UnOp} {x z:AV} {u:Value} (hx:RV w A ρ h x u) (hz:Hc op x=some z):j6 P w A ρ h (Op.unary op u) z:=by
 unfold Hc at hz
 split at hz
 ·obtain ⟨rfl,_⟩:=hx.v_inv
  cases op <;> simp only [Option.some.injEq] at hz <;> try (cases hz; done)
  ·subst hz
   exact ⟨_,by simp [Op.unary,Op.intArith],.dat (.v _ rfl)⟩
  ·subst hz
   exact ⟨_,by simp [Op.unary,Op.intBits],.dat (.v _ rfl)⟩
 ·obtain ⟨rfl,_⟩:=hx.v_inv
  cases op <;> simp at hz
  subst hz
  exact ⟨_,by simp [Op.unary],.dat (.v _ rfl)⟩
 ·cases hz
theorem R1 {src dst:TypeId} {k:IntKind} {x z:AV} {u:Value} (hx:RV w A ρ h x u) (hs:(P.underlying src).isSome=true) (hd:P.underlying dst=some (.int k)) (hz:O2 k x=some z) :
  j6 P w A ρ h (convert src dst u) z:=by
 unfold O2 at hz
 split at hz
 ·obtain ⟨rfl,_⟩:=hx.v_inv
  cases hz
  obtain ⟨d,hd'⟩:=Option.isSome_iff_exists.1 hs
  exact ⟨_,by simp [convert,run_underlying hd',run_underlying hd,Conv.intToInt],.dat (.v _ rfl)⟩
 ·cases hz
theorem O8 {src dst:TypeId} {x z:AV} {u:Value} (hx:RV w A ρ h x u) (hs:P.underlying src=some .string) (hd:P.underlying dst=some .string) (hz:MI x=some z) :
  j6 P w A ρ h (convert src dst u) z:=by
 unfold MI at hz
 split at hz
 ·obtain ⟨rfl,_⟩:=hx.v_inv
  cases hz
  exact ⟨_,by simp [convert,run_underlying hs,run_underlying hd],.dat (.v _ rfl)⟩
 ·cases hz
end
section
variable {P:Program} {w:World} {A:Nat→Prop} {ρ:bd} {h:ac} {s:aj} {a:Act}
inductive RVo (w:World) (A:Nat→Prop) (ρ:bd) (h:ac):Option AV→Option Value→Prop
 | none:RVo w A ρ h none none
 | some {x:AV} {u:Value} (hv:RV w A ρ h x u):RVo w A ρ h (some x) (some u)
theorem mZ {x:Option Operand} {y:Option Opd} (hc:xP x=some y) (hs:RS w A ρ h s a.tmps):RVo w A ρ h (evo s y) (x.map a.eval):=by
 cases x with
 | none=>simp [xP] at hc; subst hc; exact .none
 | some x =>
  simp only [xP,Option.map_eq_some_iff] at hc
  obtain ⟨p,h1,rfl⟩:=hc
  exact .some (aM h1 hs)
theorem rZ {d n:Nat} {x:AV} {u:Value} {r:Nat} (hx:RV w A ρ h x u) (hb:nn d n (some x)=some r) (y:Nat) (hy:n≤y) (code:BoundsCode) :
  (Instr.sliceBound u y code).run P w = .ok r w∧r≤n:=by
 cases x with
 | v x =>
  obtain ⟨rfl,_⟩:=hx.v_inv
  cases u with
  | int k i =>
   simp only [nn] at hb
   split at hb
   ·rename_i hi
    cases hb
    exact ⟨run_sliceBound w k i y code hi.1 (by omega),by omega⟩
   ·cases hb
  | _=>simp [nn] at hb
 | _=>simp [nn] at hb
theorem qw {n cap:Nat} (isS:Bool) {lo hi mx:Option AV} {lo' hi' mx':Option Value} (hl:RVo w A ρ h lo lo') (hh:RVo w A ρ h hi hi') (hm:RVo w A ρ h mx mx') {l r:Nat}
  (hb:tQ n lo hi mx=some (l,r)) (hc:n≤cap):∃ m,(Instr.sliceBounds isS n cap lo' hi' mx').run P w = .ok (l,r,m) w∧l≤r∧r≤n∧r≤m∧m≤cap∧(mx=none→m=cap)∧(vZ mx=true→m=0):=by
 have low:∀ (r:Nat),(nn 0 r lo).bind (fun x=>some (x,r))=some (l,r)→∀ (code:BoundsCode),((match lo' with | some v=>Instr.sliceBound v r code | none=>pure 0:Sem Nat)).run P w = .ok l w∧l≤r:=by
  intro r hb code
  cases hl with
  | none=>simp [nn] at hb; subst hb; exact ⟨rfl,Nat.zero_le _⟩
  | some hv =>
   simp only [Option.bind_eq_some_iff] at hb
   obtain ⟨x,h1,h2⟩:=hb
   cases h2
   exact rZ hv h1 r (Nat.le_refl _) code
 cases hm with
 | none =>
  simp only [tQ,Option.bind_eq_some_iff] at hb
  obtain ⟨q,h1,x,h2,h3⟩:=hb
  have hq:q=r:=by cases h3; rfl
  subst hq
  have h4:=low q (by simp only [Option.bind_eq_some_iff]; exact ⟨x,h2,h3⟩)
  cases hh with
  | none =>
   simp [nn] at h1
   subst h1
   refine ⟨cap,?_,(h4 .sliceB).2,Nat.le_refl _,hc,Nat.le_refl _,fun _=>rfl,fun e=>by simp [vZ] at e⟩
   have h5:=(h4 .sliceB).1
   cases lo' <;> simp_all [Instr.sliceBounds]
  | some hv =>
   have h6:∀ code,_:=fun code=>rZ (P:=P) hv h1 cap hc code
   refine ⟨cap,?_,(h4 .sliceB).2,(h6 .sliceB).2,Nat.le_trans (h6 .sliceB).2 hc,Nat.le_refl _,fun _=>rfl,fun e=>by simp [vZ] at e⟩
   have h5:=(h4 .sliceB).1
   have h7:=(h6 (if isS then .sliceAcap else .sliceAlen)).1
   cases lo' <;> simp_all [Instr.sliceBounds]
 | some hm =>
  rename_i xm um
  simp only [tQ,Option.bind_eq_some_iff] at hb
  obtain ⟨m,h0,hb⟩:=hb
  cases hh with
  | none=>simp at hb
  | some hv =>
   simp only [Option.bind_eq_some_iff] at hb
   obtain ⟨q,h1,x,h2,h3⟩:=hb
   have hq:q=r:=by cases h3; rfl
   subst hq
   have h4:=low q (by simp only [Option.bind_eq_some_iff]; exact ⟨x,h2,h3⟩)
   have h6:∀ code,_:=fun code=>rZ (P:=P) hv h1 m (Nat.le_refl _) code
   have h8:∀ code,_:=fun code=>rZ (P:=P) hm h0 cap hc code
   refine ⟨m,?_,(h4 .slice3C).2,Nat.le_trans (h6 .slice3B).2 (h8 .slice3B).2,(h6 .slice3B).2,Nat.le_trans (h8 .slice3B).2 hc,fun e=>by simp at e,fun e => ?_⟩
   ·have h5:=(h4 .slice3C).1
    have h7:=(h6 .slice3B).1
    have h9:=(h8 (if isS then .slice3Acap else .slice3Alen)).1
    cases lo' <;> simp_all [Instr.sliceBounds]
   ·cases xm with
    | v x =>
     cases x with
     | int k i =>
      have:i=0:=by
       unfold vZ at e
       split at e
       ·rename_i e2; cases e2; rfl
       ·cases e
      subst this
      simp [nn] at h0
      exact h0.symm
     | _=>simp [vZ] at e
    | _=>simp [vZ] at e
theorem O9 {t e:TypeId} {k:Nat} (ht:P.underlying t=some (.slice e)) (hk:a9 P e=some k) {x z:AV} {u:Value} {lo hi mx:Option AV} {lo' hi' mx':Option Value}
  (hx:RV w A ρ h x u) (hl:RVo w A ρ h lo lo') (hh:RVo w A ρ h hi hi') (hm:RVo w A ρ h mx mx') (hz:kn k x lo hi mx=some z) :
  j6 P w A ρ h (Instr.sliceAt t u lo' hi' mx') z:=by
 have hsz:∀ w,(sizeOf e).run P w = .ok k w:=by
  intro w
  simp only [a9,Option.map_eq_some_iff] at hk
  obtain ⟨i,h1,h2⟩:=hk
  simp [sizeOf,typeInfo,h1,h2]
 have run:∀ (a:Option Addr) (n cap l r m:Nat),(Instr.sliceBounds true n cap lo' hi' mx').run P w = .ok (l,r,m) w →
   (Instr.sliceAt t (.slice a n cap) lo' hi' mx').run P w = .ok (.slice (if m=l then a else a.map (·.add (l*k))) (r - l) (m - l)) w:=by
  intro a n cap l r m hb
  simp [Instr.sliceAt,Instr.slice,run_underlying ht,hb,hsz]
 cases x with
 | emp =>
  obtain ⟨a,rfl⟩:=hx.emp_inv
  simp only [kn,Option.map_eq_some_iff] at hz
  obtain ⟨⟨l,r⟩,h1,rfl⟩:=hz
  obtain ⟨m,h2,h3,h4,h5,h6,_⟩:=qw (P:=P) true hl hh hm h1 (Nat.le_refl 0)
  refine ⟨_,run _ _ _ _ _ _ h2,?_⟩
  have:l=0:=by omega
  have:r=0:=by omega
  have:m=0:=by omega
  subst_vars
  exact .dat (.emp _)
 | sl k' rows =>
  obtain ⟨a,cap,rfl,hcap⟩:=hx.sl_inv.sl_form
  simp only [kn] at hz
  split at hz
  ·rename_i hkk
   subst hkk
   simp only [Option.map_eq_some_iff] at hz
   obtain ⟨⟨l,r⟩,h1,rfl⟩:=hz
   obtain ⟨m,h2,h3,h4,h5,h6,h7,h8⟩:=qw (P:=P) true hl hh hm h1 hcap
   refine ⟨_,run _ _ _ _ _ _ h2,?_⟩
   split
   ·rename_i hZ
    have:m=0:=h8 hZ
    have:l=0:=by omega
    have:r=0:=by omega
    subst_vars
    exact .dat (.emp _)
   ·have hd:=hx.sl_inv
    cases hd with
    | sl _ _ _ _ ad vals hc ha hk' hv hdl hr =>
     have hlen:((rows.drop l).take (r - l)).length=r - l:=by simp; omega
     have key:RD w A (.sl k' ((rows.drop l).take (r - l))) (.slice (if m=l then a else a.map (·.add (l*k'))) ((rows.drop l).take (r - l)).length (m - l)):=by
      have at_:∀ (i:Nat) (row:List AV),((rows.drop l).take (r - l))[i]?=some row→rows[l+i]?=some row:=by
       intro i row hi
       rw [List.getElem?_take] at hi
       split at hi
       ·rwa [List.getElem?_drop] at hi
       ·cases hi
      refine .sl k' _ _ _ (ad.add (l*k')) (fun i j=>vals (l+i) j) (by rw [hlen]; omega) (fun hne => ?_) (fun row hrow=>hk' row (List.mem_of_mem_drop (List.mem_of_mem_take hrow))) (fun i row j c h1 h2 => ?_) (fun row hrow=>hdl row (List.mem_of_mem_drop (List.mem_of_mem_take hrow))) (fun i row j c h1 h2=>hr _ _ _ _ (at_ i row h1) h2)
      ·have hlr:l < r:=by
        rcases Nat.lt_or_ge l r with hlt | hge
        ·exact hlt
        ·exact absurd (List.eq_nil_of_length_eq_zero (by rw [hlen]; omega)) hne
       have hr0:rows ≠ []:=by intro e; subst e; simp at h4; omega
       obtain ⟨ha1,ha2,ha3⟩:=ha hr0
       refine ⟨?_,by rw [iP]; exact ha2,zp _ ha3⟩
       rw [if_neg (by omega),ha1]; rfl
      ·rw [rf,← Nat.add_assoc,← Nat.add_mul]
       exact hv _ _ _ _ (at_ i row h1) h2
     rw [hlen] at key
     exact .dat key
  ·cases hz
 | rsl id sub k' l0 n =>
  obtain ⟨a,cap,rfl,hp,hn,hb,ha⟩:=hx.rsl_inv
  simp only [kn] at hz
  split at hz
  ·rename_i hkk
   subst hkk
   simp only [Option.map_eq_some_iff] at hz
   obtain ⟨⟨l,r⟩,h1,rfl⟩:=hz
   obtain ⟨m,h2,h3,h4,h5,h6,h7,h8⟩:=qw (P:=P) true hl hh hm h1 hn
   refine ⟨_,run _ _ _ _ _ _ h2,.rsl _ _ _ _ _ _ _ hp (by omega) (Nat.le_trans (Nat.mul_le_mul_right _ (by omega)) hb) ?_⟩
   rcases ha with h0 | h0
   ·exact .inl (by omega)
   ·by_cases hml:m=l
    ·exact .inl (by omega)
    ·refine .inr ?_
     rw [if_neg hml,h0]
     simp only [Option.map_some,l5]
     rw [← Nat.add_mul]
  ·cases hz
 | _=>simp [kn] at hz
theorem MQ {t:TypeId} (ht:P.underlying t=some .string) {x z:AV} {u:Value} {lo hi:Option AV} {lo' hi':Option Value}
  (hx:RV w A ρ h x u) (hl:RVo w A ρ h lo lo') (hh:RVo w A ρ h hi hi') (hz:GW x lo hi=some z):j6 P w A ρ h (Instr.sliceAt t u lo' hi' none) z:=by
 unfold GW at hz
 split at hz
 ·obtain ⟨rfl,_⟩:=hx.v_inv
  simp only [Option.map_eq_some_iff] at hz
  obtain ⟨⟨l,r⟩,h1,rfl⟩:=hz
  obtain ⟨m,h2,_⟩:=qw (P:=P) (mx:=none) (mx':=none) false hl hh .none h1 (Nat.le_refl _)
  exact ⟨_,by simp [Instr.sliceAt,Instr.slice,run_underlying ht,h2],.dat (.v _ rfl)⟩
 ·cases hz
end
section
variable {P:Program} {w:World} {A:Nat→Prop} {ρ:bd} {h:ac} {s:aj} {a:Act}
theorem dg {e:TypeId} {k:Nat} (hk:a9 P e=some k) (w:World):(sizeOf e).run P w = .ok k w:=by
 simp only [a9,Option.map_eq_some_iff] at hk
 obtain ⟨i,h1,h2⟩:=hk
 simp [sizeOf,typeInfo,h1,h2]
theorem xS {e:TypeId} {g:Bool} (hg:mJ P e=some g) (w:World):(isAgg e).run P w = .ok g w:=by
 unfold mJ at hg
 split at hg
 ·rename_i fs h1; cases hg; simp [isAgg,run_underlying h1]
 ·rename_i n e' h1; cases hg; simp [isAgg,run_underlying h1]
 ·rename_i d h1 h2 h3
  cases hg
  simp only [isAgg,Sem.run_bind,run_underlying h3,Result.andThen]
  rfl
 ·cases hg
theorem yE {t:TypeId} {f:Nat} {fd:Field} (hf:s9 P t f=some fd):∃ fs,P.underlying t=some (.struct fs)∧fs[f]?=some fd:=by
 unfold s9 at hf
 split at hf
 ·exact ⟨_,by assumption,hf⟩
 ·cases hf
theorem RV.ipt_drop {cs:List AV} {u:Value} (n:Nat) (hx:RV w A ρ h (.ipt cs) u):∃ ad,u = .pointer (some ad)∧RV w A ρ h (.ipt (cs.drop n)) (.pointer (some (ad.add n))):=by
 cases hx with
 | dat hd=>cases hd
 | ipt _ ad vals hA hs hv hl hr =>
  refine ⟨ad,rfl,.ipt _ _ (fun j=>vals (n+j)) (by rw [iP]; exact hA) (zp _ hs) (fun j c hc => ?_) (fun c hc=>hl c (List.mem_of_mem_drop hc)) (fun j c hc => ?_)⟩
  ·rw [rf]; exact hv _ _ (by rwa [List.getElem?_drop] at hc)
  ·exact hr _ _ (by rwa [List.getElem?_drop] at hc)
theorem MR {t:TypeId} {f:Nat} {fd:Field} {k:Nat} (hf:s9 P t f=some fd) (hk:a9 P fd.type=some k) (hk0:k ≠ 0) {x z:AV} {u:Value} (hx:RV w A ρ h x u) (hz:o9 fd.offset x=some z) :
  j6 P w A ρ h (Instr.fieldAt t u f) z:=by
 obtain ⟨fs,h1,h2⟩:=yE hf
 have run:∀ ad,(Instr.fieldAt t (.pointer (some ad)) f).run P w = .ok (.pointer (some (ad.add fd.offset))) w:=by
  intro ad
  simp [Instr.fieldAt,run_underlying h1,h2,Instr.sureAddr,fieldPlace,dg hk,hk0]
 cases x with
 | ref id sub k i j =>
  obtain ⟨rfl,hp⟩:=hx.ref_inv
  simp [o9] at hz
  subst hz
  refine ⟨_,run _,?_⟩
  rw [l5,Nat.add_assoc]
  exact .ref _ _ _ _ _ hp
 | ipt cs =>
  simp [o9] at hz
  subst hz
  obtain ⟨ad,rfl,h3⟩:=hx.ipt_drop fd.offset
  exact ⟨_,run _,h3⟩
 | _=>simp [o9] at hz
theorem Ba {e:TypeId} {k off:Nat} {g:Bool} (hk:a9 P e=some k) (hg:mJ P e=some g) {cs:List AV} {us:Array Value} {z:AV} (hs:us.size=cs.length)
  (h1:∀ (i:Nat) (u:Value),us[i]?=some u→u.oneCell'=true) (hr:∀ (i:Nat) (c:AV) (u:Value),cs[i]?=some c→us[i]?=some u→RV w A ρ h c u) (hz:ig k g cs off=some z) :
  j6 P w A ρ h (part e us off) z:=by
 unfold ig at hz
 cases g with
 | true =>
  simp only [if_true] at hz
  split at hz
  ·rename_i hle
   cases hz
   refine ⟨.agg (us.extract off (off+k)),by simp [part,xS hg,dg hk],.agg _ _ ?_ (fun i u hu => ?_) (fun i c u hc hu => ?_)⟩
   ·simp; omega
   ·rw [Array.getElem?_extract] at hu
    split at hu
    ·exact h1 _ _ hu
    ·cases hu
   ·rw [Array.getElem?_extract] at hu
    split at hu
    ·rw [List.getElem?_take] at hc
     split at hc
     ·rw [List.getElem?_drop] at hc
      exact hr _ _ _ hc hu
     ·cases hc
    ·cases hu
  ·cases hz
 | false =>
  simp at hz
  have hlt:off < us.size:=by rw [hs]; exact (List.getElem?_eq_some_iff.1 hz).1
  obtain ⟨u,hu⟩:∃ u,us[off]?=some u:=⟨us[off],Array.getElem?_eq_getElem hlt⟩
  exact ⟨u,by simp [part,xS hg,hu],hr _ _ _ hz hu⟩
theorem Pa {t:TypeId} {f:Nat} {fd:Field} {k:Nat} {g:Bool} (hf:s9 P t f=some fd) (hk:a9 P fd.type=some k) (hg:mJ P fd.type=some g) {x z:AV} {u:Value} (hx:RV w A ρ h x u) (hz:Hd fd.offset k g x=some z) :
  j6 P w A ρ h (Instr.field t u f) z:=by
 obtain ⟨fs,h1,h2⟩:=yE hf
 unfold Hd at hz
 split at hz
 ·obtain ⟨us,rfl,hs,h3,hr⟩:=hx.agg_inv
  obtain ⟨v,h4,h5⟩:=Ba hk hg hs h3 hr hz
  exact ⟨v,by simp [Instr.field,run_underlying h1,h2,asAgg,h4],h5⟩
 ·cases hz
theorem Kx {t e:TypeId} {k:Nat} (ht:P.underlying t=some (.slice e)) (hk:a9 P e=some k) {x i z:AV} {u v:Value} (hx:RV w A ρ h x u) (hi:RV w A ρ h i v) (hz:lY k x i=some z) :
  j6 P w A ρ h (Instr.indexAt t u v) z:=by
 have he:P.elem t=e:=by simp [Program.elem,ht]
 unfold lY at hz
 split at hz
 ·split at hz
  ·rename_i k' rows kk q hkk
   subst hkk
   obtain ⟨rfl,_⟩:=hi.v_inv
   unfold aN at hz
   split at hz
   ·rename_i hq
    simp only [Option.map_eq_some_iff] at hz
    obtain ⟨row,h1,rfl⟩:=hz
    have hlt:=(List.getElem?_eq_some_iff.1 h1).1
    have hne:rows ≠ []:=by intro e; subst e; simp at hlt
    have hd:=hx.sl_inv
    cases hd with
    | sl _ _ a cap ad vals hc ha hk' hv hdl hr =>
     obtain ⟨rfl,hA,hsp⟩:=ha hne
     refine ⟨_,?_,.ipt row (ad.add (q.toNat*k')) (vals q.toNat) (by rw [iP]; exact hA) (zp _ hsp) (fun j c hc=>by rw [rf]; exact hv _ _ _ _ h1 hc) (hdl row (List.mem_of_getElem? h1)) (fun j c hc=>hr _ _ _ _ h1 hc)⟩
     rw [run_indexAt_slice w t ad rows.length cap kk q (by rw [he]; exact ht),if_pos ⟨hq,by omega⟩,he,dg hk]
     rfl
   ·cases hz
  ·cases hz
 ·split at hz
  ·rename_i id sub k' lo n kk q hkk
   subst hkk
   split at hz
   ·rename_i hq
    cases hz
    obtain ⟨rfl,_⟩:=hi.v_inv
    obtain ⟨a,cap,rfl,hp,hn,hb,ha⟩:=hx.rsl_inv
    have ha:a=some ⟨(ρ id sub).1,lo*k',none⟩:=by
     rcases ha with h0 | h0
     ·omega
     ·exact h0
    subst ha
    refine ⟨_,?_,.ref id sub k' (lo+q.toNat) 0 hp⟩
    rw [run_indexAt_slice w t _ n cap kk q (by rw [he]; exact ht),if_pos hq,he,dg hk]
    simp only [Result.andThen,l5]
    rw [Nat.add_zero,Nat.add_mul]
   ·cases hz
  ·cases hz
 ·cases hz
theorem Ky {t e:TypeId} {n k:Nat} (ht:P.underlying t=some (.array n e)) (hk:a9 P e=some k) {x i z:AV} {u v:Value} (hx:RV w A ρ h x u) (hi:RV w A ρ h i v) (hz:sZ n k x i=some z) :
  j6 P w A ρ h (Instr.indexAt t u v) z:=by
 have he:P.elem t=e:=by simp [Program.elem,ht]
 have hn:P.arrayLen t=n:=by simp [Program.arrayLen,ht]
 have run:∀ ad kk (q:Int),0≤q∧q < n→(Instr.indexAt t (.pointer (some ad)) (.int kk q)).run P w = .ok (.pointer (some (ad.add (q.toNat*k)))) w:=by
  intro ad kk q hq
  rw [run_indexAt_array w t ad kk q (by rw [he,hn]; exact ht),hn,if_pos hq,he,dg hk]
  rfl
 unfold sZ at hz
 split at hz
 ·split at hz
  ·cases hz
   obtain ⟨rfl,_⟩:=hi.v_inv
   obtain ⟨rfl,hp⟩:=hx.ref_inv
   refine ⟨_,run _ _ _ (by assumption),?_⟩
   rw [l5,Nat.add_assoc]
   exact .ref _ _ _ _ _ hp
  ·cases hz
 ·split at hz
  ·rename_i cs kk q hq
   cases hz
   obtain ⟨rfl,_⟩:=hi.v_inv
   obtain ⟨ad,rfl,h3⟩:=hx.ipt_drop (q.toNat*k)
   exact ⟨_,run _ _ _ hq,h3⟩
  ·cases hz
 ·cases hz
theorem MS {t:TypeId} (ht:P.underlying t=some .string) {x i z:AV} {u v:Value} (hx:RV w A ρ h x u) (hi:RV w A ρ h i v) (hz:xM x i=some z):j6 P w A ρ h (Instr.index t u v) z:=by
 unfold xM at hz
 split at hz
 ·obtain ⟨rfl,_⟩:=hi.v_inv
  obtain ⟨rfl,_⟩:=hx.v_inv
  split at hz
  ·simp only [Option.map_eq_some_iff] at hz
   obtain ⟨b,h1,rfl⟩:=hz
   rename_i hq
   exact ⟨_,by simp [Instr.index,asIntOf,run_underlying ht,hq,h1],.dat (.v _ rfl)⟩
  ·cases hz
 ·cases hz
theorem MT {t e:TypeId} {n k:Nat} {g:Bool} (ht:P.underlying t=some (.array n e)) (hk:a9 P e=some k) (hg:mJ P e=some g) {x i z:AV} {u v:Value} (hx:RV w A ρ h x u) (hi:RV w A ρ h i v) (hz:GX n k g x i=some z) :
  j6 P w A ρ h (Instr.index t u v) z:=by
 unfold GX at hz
 split at hz
 ·split at hz
  ·rename_i hq
   obtain ⟨rfl,_⟩:=hi.v_inv
   obtain ⟨us,rfl,hs,h3,hr⟩:=hx.agg_inv
   obtain ⟨v,h4,h5⟩:=Ba hk hg hs h3 hr hz
   exact ⟨v,by simp [Instr.index,asIntOf,run_underlying ht,hq,dg hk,h4],h5⟩
  ·cases hz
 ·cases hz
theorem Pb {i:Nat} {x z:AV} {u:Value} (hx:RV w A ρ h x u) (hz:He i x=some z):j6 P w A ρ h (Instr.extract u i) z:=by
 unfold He at hz
 split at hz
 ·cases hx with
  | dat hd=>cases hd
  | tup vs us hs hr =>
   have hlt:i < us.size:=by rw [hs]; exact (List.getElem?_eq_some_iff.1 hz).1
   obtain ⟨u,hu⟩:∃ u,us[i]?=some u:=⟨us[i],Array.getElem?_eq_getElem hlt⟩
   exact ⟨u,by simp [Instr.extract,hu],hr _ _ _ hz hu⟩
 ·cases hz
theorem MU {t ty e:TypeId} {ts:Array TypeId} (h0:ts[0]?=some t) (ht:P.underlying t=some (.slice e)) {x z:AV} {u:Value} (hx:RV w A ρ h x u) (hz:jR false x=some z):j6 P w A ρ h (Builtin.len_ ts ty #[u]) z:=by
 have run:∀ a n c,(Builtin.len_ ts ty #[.slice a n c]).run P w = .ok (goInt n) w:=by
  intro a n c
  simp [Builtin.len_,h0,run_underlying ht]
 cases x with
 | emp=>obtain ⟨a,rfl⟩:=hx.emp_inv; simp [jR] at hz; subst hz; exact ⟨_,run _ _ _,.dat (.v _ rfl)⟩
 | sl k rows=>obtain ⟨a,cap,rfl,_⟩:=hx.sl_inv.sl_form; simp [jR] at hz; subst hz; exact ⟨_,run _ _ _,.dat (.v _ rfl)⟩
 | rsl=>obtain ⟨a,cap,rfl,_⟩:=hx.rsl_inv; simp [jR] at hz; subst hz; exact ⟨_,run _ _ _,.dat (.v _ rfl)⟩
 | v x=>cases x <;> simp [jR] at hz
 | _=>simp [jR] at hz
theorem MV {t ty:TypeId} {ts:Array TypeId} (h0:ts[0]?=some t) (ht:P.underlying t=some .string) {x z:AV} {u:Value} (hx:RV w A ρ h x u) (hz:jR true x=some z):j6 P w A ρ h (Builtin.len_ ts ty #[u]) z:=by
 cases x with
 | v x =>
  cases x with
  | string b =>
   obtain ⟨rfl,_⟩:=hx.v_inv
   simp [jR] at hz
   subst hz
   exact ⟨_,by simp [Builtin.len_,h0,run_underlying ht]; rfl,.dat (.v _ rfl)⟩
  | _=>simp [jR] at hz
 | _=>simp [jR] at hz
theorem Pc {t ty e:TypeId} {ts:Array TypeId} (h0:ts[0]?=some t) (ht:P.underlying t=some (.slice e)) {x z:AV} {u:Value} (hx:RV w A ρ h x u) (hz:MJ x=some z):j6 P w A ρ h (Builtin.cap_ ts ty #[u]) z:=by
 unfold MJ at hz
 split at hz
 ·obtain ⟨a,rfl⟩:=hx.emp_inv
  cases hz
  exact ⟨_,by simp [Builtin.cap_,h0,run_underlying ht]; rfl,.dat (.v _ rfl)⟩
 ·cases hz
theorem MW {m:Bool} {x y z:AV} {u v:Value} (hx:RV w A ρ h x u) (hy:RV w A ρ h y v) (hz:CQ m x y=some z) :
  ∃ r,(if m then Builtin.min2 u v else Builtin.max2 u v)=pure r∧RV w A ρ h z r:=by
 unfold CQ at hz
 split at hz
 ·obtain ⟨rfl,_⟩:=hx.v_inv
  obtain ⟨rfl,_⟩:=hy.v_inv
  cases hz
  cases m
  ·exact ⟨_,by simp only [Bool.false_eq_true,if_false,Builtin.max2],.dat (.v _ rfl)⟩
  ·exact ⟨_,by simp only [if_true,Builtin.min2],.dat (.v _ rfl)⟩
 ·cases hz
theorem Bb {m:Bool}:∀ {ys:List AV} {vs:List Value} {x z:AV} {u:Value},RV w A ρ h x u→vs.length=ys.length→(∀ (i:Nat) (c:AV) (u:Value),ys[i]?=some c→vs[i]?=some u→RV w A ρ h c u)→sv m x ys=some z →
  ∃ r,(vs.foldlM (fun a b=>if m then Builtin.min2 a b else Builtin.max2 a b) u).run P w = .ok r w∧RV w A ρ h z r
 | [],[],x,z,u,hx,_,_,hz=>by
  simp only [sv,Option.some.injEq] at hz
  subst hz
  exact ⟨u,rfl,hx⟩
 | [],v::vs,x,z,u,_,hl,_,_=>by simp at hl
 | y::ys,[],x,z,u,_,hl,_,_=>by simp at hl
 | y::ys,v::vs,x,z,u,hx,hl,hv,hz=>by
  simp only [sv,Option.bind_eq_some_iff] at hz
  obtain ⟨c,e1,e2⟩:=hz
  obtain ⟨r,h1,h2⟩:=MW hx (hv 0 y v rfl rfl) e1
  obtain ⟨r',h3,h4⟩:=Bb h2 (by simpa using hl) (fun i c u h5 h6=>hv (i+1) c u (by simpa using h5) (by simpa using h6)) e2
  refine ⟨r',?_,h4⟩
  rw [List.foldlM_cons,h1]
  exact h3
theorem EG {m:Bool} {ts:Array TypeId} {ty:TypeId} {x z:AV} {ys:List AV} {u:Value} {vs:List Value} {args:Array Value} (ha:args.toList=u::vs) (hx:RV w A ρ h x u) (hl:vs.length=ys.length) (hy:∀ (i:Nat) (c:AV) (u:Value),ys[i]?=some c→vs[i]?=some u→RV w A ρ h c u) (hz:sv m x ys=some z) :
  j6 P w A ρ h (if m then Builtin.min_ ts ty args else Builtin.max_ ts ty args) z:=by
 obtain ⟨r,h1,h2⟩:=Bb (P:=P) hx hl hy hz
 refine ⟨r,?_,h2⟩
 cases m
 ·simp only [Bool.false_eq_true,if_false] at h1 ⊢
  simp only [Builtin.max_,ha]
  exact h1
 ·simp only [if_true] at h1 ⊢
  simp only [Builtin.min_,ha]
  exact h1
theorem p6 (j:Nat):∀ (cs row:List AV),(setRow row j cs).length=row.length:=by
 intro cs
 induction cs generalizing j with
 | nil=>intro row; rfl
 | cons c cs ih=>intro row; simp only [setRow]; rw [ih,List.length_set]
theorem kY (i:Nat):∀ (cs row:List AV) (j:Nat),j+cs.length≤row.length→(setRow row j cs)[i]?=if j≤i∧i < j+cs.length then cs[i - j]? else row[i]?:=by
 intro cs
 induction cs with
 | nil=>intro row j _; simp [setRow]; omega
 | cons c cs ih =>
  intro row j hle
  simp only [setRow]
  rw [ih _ _ (by simp at hle ⊢; omega)]
  simp only [List.length_cons] at hle ⊢
  by_cases h1:i=j
  ·subst h1
   rw [if_neg (by omega),if_pos (by omega)]
   simp [show i < row.length from by omega]
  ·by_cases h2:j+1≤i∧i < j+1+cs.length
   ·rw [if_pos h2,if_pos (by omega)]
    rw [show i - j=(i - (j+1))+1 from by omega]; rfl
   ·rw [if_neg h2,if_neg (by omega),List.getElem?_set_ne (by omega)]
def Cells (w:World) (A:Nat→Prop) (ρ:bd) (h:ac) (cs:List AV) (us:Array Value):Prop :=
 us.size=cs.length∧(∀ (i:Nat) (u:Value),us[i]?=some u→u.oneCell'=true)∧(∀ (i:Nat) (c:AV) (u:Value),cs[i]?=some c→us[i]?=some u→RV w A ρ h c u)
theorem pg {x:AV} {u:Value} {cs:List AV} (hx:RV w A ρ h x u) (hc:dv x=some cs):Cells w A ρ h cs u.cells:=by
 have one:∀ {x:AV} {u:Value},RV w A ρ h x u→u.oneCell'=true→u.cells = #[u]→Cells w A ρ h [x] u.cells:=by
  intro x u hx h1 h2
  rw [h2]
  refine ⟨rfl,fun i v hv => ?_,fun i c v hc hv => ?_⟩
  ·cases i <;> simp at hv; subst hv; exact h1
  ·cases i <;> simp at hc hv; subst hc hv; exact hx
 unfold dv at hc
 split at hc
 ·cases hc
  obtain ⟨us,rfl,h1,h2,h3⟩:=hx.agg_inv
  exact ⟨h1,h2,h3⟩
 all_goals first | (cases hc; done) | skip
 cases hc
 have h1:u.oneCell'=true∧u.cells = #[u]:=by
  cases x with
  | v x=>obtain ⟨rfl,h⟩:=hx.v_inv; exact ⟨tX h,by cases u <;> first | rfl | simp [kq] at h⟩
  | emp=>obtain ⟨a,rfl⟩:=hx.emp_inv; exact ⟨rfl,rfl⟩
  | sl k rows=>obtain ⟨a,cap,rfl,_⟩:=hx.sl_inv.sl_form; exact ⟨rfl,rfl⟩
  | ref=>obtain ⟨rfl,_⟩:=hx.ref_inv; exact ⟨rfl,rfl⟩
  | rsl=>obtain ⟨a,cap,rfl,_⟩:=hx.rsl_inv; exact ⟨rfl,rfl⟩
  | ipt cs=>obtain ⟨ad,rfl,_⟩:=hx.ipt_drop 0; exact ⟨rfl,rfl⟩
  | fn=>obtain ⟨us,ts,rfl,_⟩:=hx.fn_inv; exact ⟨rfl,rfl⟩
  | _=>simp_all
 exact one hx h1.1 h1.2
theorem Cells.set {cs ds:List AV} {us vs:Array Value} {off:Nat} (hc:Cells w A ρ h cs us) (hd:Cells w A ρ h ds vs) (hle:off+ds.length≤cs.length) :
  Cells w A ρ h (setRow cs off ds) (vs.zipIdx.foldl (fun cs (c,j)=>cs.setIfInBounds (off+j) c) us):=by
 have fold:∀ (l:List Value) (k:Nat) (us:Array Value),((l.zipIdx k).foldl (fun cs (x:Value × Nat)=>cs.setIfInBounds (off+x.2) x.1) us).size=us.size ∧
   ∀ (i:Nat),off+k+l.length≤us.size→((l.zipIdx k).foldl (fun cs (x:Value × Nat)=>cs.setIfInBounds (off+x.2) x.1) us)[i]?=if off+k≤i∧i < off+k+l.length then l[i - (off+k)]? else us[i]?:=by
  intro l
  induction l with
  | nil=>intro k us; exact ⟨by simp,fun i _=>by simp; omega⟩
  | cons v l ih =>
   intro k us
   simp only [List.zipIdx_cons,List.foldl_cons]
   obtain ⟨h1,h2⟩:=ih (k+1) (us.setIfInBounds (off+k) v)
   refine ⟨by rw [h1]; simp,fun i hle => ?_⟩
   simp only [List.length_cons] at hle ⊢
   rw [h2 i (by simp; omega)]
   by_cases e1:i=off+k
   ·subst e1
    rw [if_neg (by omega),if_pos (by omega)]
    simp [show off+k < us.size from by omega]
   ·by_cases e2:off+(k+1)≤i∧i < off+(k+1)+l.length
    ·rw [if_pos e2,if_pos (by omega),show i - (off+k)=(i - (off+(k+1)))+1 from by omega]; rfl
    ·rw [if_neg e2,if_neg (by omega),Array.getElem?_setIfInBounds_ne (by omega)]
 have e:vs.zipIdx.foldl (fun cs (c,j)=>cs.setIfInBounds (off+j) c) us=(vs.toList.zipIdx 0).foldl (fun cs (x:Value × Nat)=>cs.setIfInBounds (off+x.2) x.1) us:=by
  rw [← Array.foldl_toList,Array.toList_zipIdx]
 obtain ⟨h1,h2⟩:=fold vs.toList 0 us
 have hl:vs.toList.length=ds.length:=by simpa using hd.1
 have g:∀ i,(vs.zipIdx.foldl (fun cs (c,j)=>cs.setIfInBounds (off+j) c) us)[i]?=if off≤i∧i < off+ds.length then vs[i - off]? else us[i]?:=by
  intro i
  rw [e,h2 i (by rw [hl,hc.1]; omega)]
  simp only [Nat.add_zero,hl]
  split <;> simp
 refine ⟨by rw [e,h1,p6]; exact hc.1,fun i u hu => ?_,fun i c u hcc hu => ?_⟩
 ·rw [g] at hu
  split at hu
  ·exact hd.2.1 _ _ hu
  ·exact hc.2.1 _ _ hu
 ·rw [g] at hu
  rw [kY i ds cs off hle] at hcc
  split at hu
  ·rename_i hi; rw [if_pos hi] at hcc; exact hd.2.2 _ _ _ hcc hu
  ·rename_i hi; rw [if_neg hi] at hcc; exact hc.2.2 _ _ _ hcc hu
theorem ud {place:Nat→Option (Nat × Nat)} (hs:RS w A ρ h s a.tmps):∀ (ps:List (Nat × Operand)) (q:List (Nat × Nat × Opd)),td P place ps=some q →
  ∀ (zero:List AV) (us:Array Value),Cells w A ρ h zero us→∀ cs,no zero (q.map fun p=>(p.1,p.2.1,ev s p.2.2))=some cs →
   ∃ vs,Instr.fill place us (ps.map fun p=>(p.1,a.eval p.2))=some vs∧Cells w A ρ h cs vs
 | [],q,hq,zero,us,hz,cs,hb=>by
  simp [td] at hq; subst hq
  simp [no] at hb; subst hb
  exact ⟨us,rfl,hz⟩
 | (i,x)::ps,q,hq,zero,us,hz,cs,hb=>by
  simp only [td,Option.bind_eq_some_iff] at hq
  obtain ⟨⟨off,k⟩,h1,y,h2,q',h3,h4⟩:=hq
  cases h4
  simp only [List.map_cons,no,Option.bind_eq_some_iff] at hb
  obtain ⟨ds,h5,h6⟩:=hb
  split at h6
  ·rename_i hle
   have h7:=pg (aM h2 hs) h5
   have h8:=hz.set (off:=off) h7 (by omega)
   obtain ⟨vs,h9,h10⟩:=ud hs ps q' h3 _ _ h8 cs h6
   refine ⟨vs,?_,h10⟩
   simp only [List.map_cons,Instr.fill,h1]
   rw [if_neg (by have e1:=h7.1; have e2:=hz.1; simp; omega)]
   exact h9
  ·cases h6
theorem Bc:∀ (l:List Value) (cs:List AV),wc l=some cs→Cells w A ρ h cs l.toArray
 | [],cs,hc=>by simp [wc] at hc; subst hc; exact ⟨rfl,fun i u hu=>by simp at hu,fun i c u hc=>by simp at hc⟩
 | v::l,cs,hc=>by
  simp only [wc,Option.bind_eq_some_iff] at hc
  obtain ⟨c,h1,q,h2,h3⟩:=hc
  cases h3
  obtain ⟨e1,e2,e3⟩:=Bc l q h2
  have hv:RD w A c v:=EE h1
  have ho:v.oneCell'=true:=by unfold Hm at h1; split at h1 <;> first | rfl | cases h1
  refine ⟨by simp at e1 ⊢; exact e1,fun i u hu => ?_,fun i c' u hc hu => ?_⟩
  ·cases i with
   | zero=>simp at hu; subst hu; exact ho
   | succ i=>exact e2 i u (by simpa using hu)
  ·cases i with
   | zero=>simp at hu hc; subst hu hc; exact .dat hv
   | succ i=>exact e3 i c' u (by simpa using hc) (by simpa using hu)
theorem nu {t:TypeId} {zs:List AV} (hz:iZ P t=some zs):∃ (i:TypeInfo) (z:Value),P.info? t=some i∧i.zero=some z∧z.cells.size=i.size∧zs.length=i.size∧Cells w A ρ h zs z.cells:=by
 simp only [iZ,Option.bind_eq_some_iff] at hz
 obtain ⟨i,h1,z,h2,h3⟩:=hz
 split at h3
 ·rename_i h4
  have h5:=Bc (w:=w) (A:=A) (ρ:=ρ) (h:=h) _ _ h3
  refine ⟨i,z,h1,h2,h4,?_,by simpa using h5⟩
  have:=h5.1
  simp at this
  omega
 ·cases h3
theorem Kz {t:TypeId} {ps:Array (Nat × Operand)} {pop:POp} (hc:Hn P t ps.toList=some pop) (hs:RS w A ρ h s a.tmps) {z:AV} (hz:dw s pop=some z) :
  j6 P w A ρ h (Instr.build t (ps.map fun (i,x)=>(i,a.eval x))) z:=by
 simp only [Hn,Option.bind_eq_some_iff] at hc
 obtain ⟨zs,h1,hc⟩:=hc
 obtain ⟨i,zv,g1,g2,g3,g4,g5⟩:=nu (w:=w) (A:=A) (ρ:=ρ) (h:=h) h1
 have hzero:∀ w,(zeroValue t).run P w = .ok zv w:=fun w=>by simp [zeroValue,typeInfo,g1,g2]
 have hmap:(ps.map fun (i,x)=>(i,a.eval x)).toList=ps.toList.map fun p=>(p.1,a.eval p.2):=by simp
 split at hc
 ·rename_i fs ht
  split at hc
  ·rename_i hall
   simp only [Option.map_eq_some_iff] at hc
   obtain ⟨q,h2,rfl⟩:=hc
   simp only [dw,Option.map_eq_some_iff] at hz
   obtain ⟨cs,h3,rfl⟩:=hz
   obtain ⟨vs,h4,h5⟩:=ud hs _ _ h2 _ _ g5 _ h3
   refine ⟨.agg vs,?_,.agg _ _ h5.1 h5.2.1 h5.2.2⟩
   have hplaces:∀ w,(fs.mapM fun f=>(do pure (f.offset,← sizeOf f.type):Sem (Nat × Nat))).run P w = .ok (fs.map fun f=>(f.offset,(a9 P f.type).getD 0)) w:=by
    intro w
    rw [Array.mapM_eq_mapM_toList]
    simp only [bind_pure_comp]
    have:∀ l:List Field,(∀ f ∈ l,(a9 P f.type).isSome)→(l.mapM fun f=>(Prod.mk f.offset <$> sizeOf f.type:Sem (Nat × Nat))).run P w = .ok (l.map fun f=>(f.offset,(a9 P f.type).getD 0)) w:=by
     intro l
     induction l with
     | nil=>intro _; rfl
     | cons f l ih =>
      intro hl
      obtain ⟨k,hk⟩:=Option.isSome_iff_exists.1 (hl f (by simp))
      rw [List.mapM_cons]
      simp [dg hk,ih (fun g hg=>hl g (by simp [hg])),hk]
    have hall':∀ f ∈ fs.toList,(a9 P f.type).isSome:=by
     intro f hf
     have:=Array.all_eq_true_iff_forall_mem.1 hall f (by simpa using hf)
     simpa using this
    simp [this _ hall']
    exact Array.toList_inj.1 (by simp)
   have hpl:(fun i=>(fs.map fun f=>(f.offset,(a9 P f.type).getD 0))[i]?)=CW P fs:=by
    funext i
    simp only [CW,Array.getElem?_map]
    cases hf:fs[i]? with
    | none=>rfl
    | some f =>
     obtain ⟨k,hk⟩:=Option.isSome_iff_exists.1 (show (a9 P f.type).isSome from by
      have:=Array.all_eq_true_iff_forall_mem.1 hall f (Array.mem_of_getElem? hf)
      simpa using this)
     simp [hk]
   simp only [Instr.build,Sem.run_bind,hzero,run_underlying ht,Result.andThen,hplaces,hmap]
   rw [hpl,h4]
   rfl
  ·cases hc
 ·rename_i n e ht
  simp only [Option.bind_eq_some_iff,Option.map_eq_some_iff] at hc
  obtain ⟨k,hk,q,h2,rfl⟩:=hc
  simp only [dw,Option.map_eq_some_iff] at hz
  obtain ⟨cs,h3,rfl⟩:=hz
  obtain ⟨vs,h4,h5⟩:=ud hs _ _ h2 _ _ g5 _ h3
  refine ⟨.agg vs,?_,.agg _ _ h5.1 h5.2.1 h5.2.2⟩
  simp only [Instr.build,Sem.run_bind,hzero,run_underlying ht,Result.andThen,dg hk,hmap]
  rw [h4]
  rfl
 ·cases hc
theorem Pd {f:FuncId} {xs ys:List Operand} {x y:List Opd} (hx:mq xs=some x) (hy:mq ys=some y) (hs:RS w A ρ h s a.tmps) :
  RV w A ρ h (.fn f (x.map (ev s)) (y.map (ev s))) (.func (.func f) (xs.map a.eval).toArray (ys.map a.eval).toArray):=by
 obtain ⟨h1,h2⟩:=mY hs hx
 obtain ⟨h3,h4⟩:=mY hs hy
 have key:∀ {xs:List Operand} {x:List Opd},x.length=xs.length→(∀ (i:Nat) (o:Operand) (p:Opd),xs[i]?=some o→x[i]?=some p→RV w A ρ h (ev s p) (a.eval o)) →
   ∀ (i:Nat) (c:AV) (u:Value),(x.map (ev s))[i]?=some c→(xs.map a.eval).toArray[i]?=some u→RV w A ρ h c u:=by
  intro xs x hl hr i c u hc hu
  simp only [List.getElem?_map,Option.map_eq_some_iff] at hc
  obtain ⟨p,hp,rfl⟩:=hc
  simp only [List.getElem?_toArray,List.getElem?_map,Option.map_eq_some_iff] at hu
  obtain ⟨o,ho,rfl⟩:=hu
  exact hr i o p ho hp
 exact .fn f _ _ _ _ (by simp [h1]) (by simp [h3]) (key h1 h2) (key h3 h4)
theorem R2 {y:Operand} (hc:bE y=some (.c .emp)):a.eval y = .slice none 0 0:=by
 cases y with
 | tmp t=>simp [bE] at hc
 | func f=>simp [bE] at hc
 | global g=>simp [bE] at hc
 | const v =>
  simp only [bE,Option.map_eq_some_iff,Opd.c.injEq] at hc
  obtain ⟨c,h1,rfl⟩:=hc
  unfold Hm at h1
  split at h1 <;> first | (cases h1; done) | rfl
theorem MX {op:BinOp} {n:Bool} {t e:TypeId} {xo yo:Operand} {x z:AV} {u:Value} (ht:P.underlying t=some (.slice e)) (hx:RV w A ρ h x u) (hop:wd op=some n) (hz:A6 n x=some z) :
  j6 P w A ρ h (do eqGuard op t xo yo u (.slice none 0 0); binOp op t u (.slice none 0 0)) z:=by
 have hop':(op = .eql∧n=false)∨(op = .neq∧n=true):=by cases op <;> simp [wd] at hop <;> subst hop <;> simp
 have hu:(∃ ad m c,u = .slice (some ad) m c)∧z=B n:=by
  unfold A6 at hz
  split at hz
  ·cases hz
   cases hx with
   | dat hd =>
    cases hd with
    | sl k rows a cap ad vals hc ha hk hv hl hr =>
     obtain ⟨rfl,_⟩:=ha (by simp)
     exact ⟨⟨_,_,_,rfl⟩,rfl⟩
  ·split at hz
   ·rename_i hm
    cases hz
    obtain ⟨a,cap,rfl,hp,hn,hb,ha⟩:=hx.rsl_inv
    rcases ha with ha | rfl
    ·omega
    ·exact ⟨⟨_,_,_,rfl⟩,rfl⟩
   ·cases hz
  ·cases hz
 obtain ⟨⟨ad,m,c,rfl⟩,rfl⟩:=hu
 have heq:(Op.equal t (.slice (some ad) m c) (.slice none 0 0)).run P w = .ok false w:=by
  have h9:∀ d,(Op.equalIn (d+1) t (.slice (some ad) m c) (.slice none 0 0)).run P w = .ok false w:=fun d=>by simp [Op.equalIn,run_underlying ht]
  exact h9 9999
 rcases hop' with ⟨rfl,rfl⟩ | ⟨rfl,rfl⟩
 ·refine ⟨.bool false,?_,.dat (.v _ rfl)⟩
  simp [eqGuard,binOp,heq,Result.andThen]
 ·refine ⟨.bool true,?_,.dat (.v _ rfl)⟩
  simp [eqGuard,binOp,heq,Result.andThen]
theorem MY {op:Op} {pop:POp} (hc:we P op=some (.p pop)) (hs:RS w A ρ h s a.tmps) {z:AV} (hz:dw s pop=some z) (o:Oper) (ho:o.op=op) :
  ∃ v,(execOp a.eval o).run P w = .ok (.value v) w∧RV w A ρ h z v:=by
 have fin:∀ {m:Sem Value},j6 P w A ρ h m z→∃ v,(do pure (.value (← m)):Sem Next).run P w = .ok (.value v) w∧RV w A ρ h z v:=by
  intro m hm
  obtain ⟨v,h1,h2⟩:=hm
  exact ⟨v,by simp [h1],h2⟩
 cases op <;> simp only [we] at hc
 case move =>
  simp only [Option.map_eq_some_iff] at hc
  obtain ⟨y,h1,h2⟩:=hc
  cases h2; cases hz
  exact ⟨_,by simp [execOp,ho],aM h1 hs⟩
 case assign =>
  simp only [Option.map_eq_some_iff] at hc
  obtain ⟨y,h1,h2⟩:=hc
  cases h2; cases hz
  exact ⟨_,by simp [execOp,ho],aM h1 hs⟩
 case pick =>
  simp only [Option.bind_eq_some_iff,Option.map_eq_some_iff] at hc
  obtain ⟨c,h1,x,h2,y,h3,h4⟩:=hc
  cases h4
  obtain ⟨v,g1,g2⟩:=MP (P:=P) (aM h1 hs) (aM h2 hs) (aM h3 hs) hz
  exact ⟨v,by simp only [execOp,ho]; rw [Sem.run_bind] at g1 ⊢; cases hb:(asBool _).run P w <;> rw [hb] at g1 <;> simp [Result.andThen] at g1 ⊢; exact g1,g2⟩
 case alloc=>simp at hc
 case box=>simp [Option.bind_eq_some_iff] at hc
 case build =>
  simp only [Option.map_eq_some_iff] at hc
  obtain ⟨p,h1,h2⟩:=hc
  cases h2
  simp only [execOp,ho]
  exact fin (Kz h1 hs hz)
 case buildSlice =>
  simp only [xQ,Option.bind_eq_some_iff] at hc
  obtain ⟨e,_,k,_,hc⟩:=hc
  split at hc
  ·simp [Option.bind_eq_some_iff] at hc
  ·cases hc
 case load =>
  simp only [Option.bind_eq_some_iff] at hc
  obtain ⟨g,_,k,_,x,_,hc⟩:=hc
  split at hc <;> cases hc
 case store=>simp [Option.bind_eq_some_iff] at hc
 case nilCheck =>
  simp only [Option.map_eq_some_iff] at hc
  obtain ⟨y,h1,h2⟩:=hc
  cases h2
  have hv:=aM h1 hs
  simp only [dw] at hz
  cases hy:ev s y <;> rw [hy] at hz hv <;> simp [vY] at hz
  all_goals subst hz
  ·obtain ⟨e,_⟩:=hv.ref_inv; exact ⟨_,by simp [execOp,ho,e],hv⟩
  ·obtain ⟨ad,e,_⟩:=hv.ipt_drop 0; exact ⟨_,by simp [execOp,ho,e],hv⟩
  ·obtain ⟨us,ts,e,_⟩:=hv.fn_inv; exact ⟨_,by simp [execOp,ho,e],hv⟩
 case binOp =>
  simp only [Option.bind_eq_some_iff,Option.map_eq_some_iff] at hc
  obtain ⟨x,h1,y,h2,p,h3,h4⟩:=hc
  cases h4
  have hx:=aM h1 hs
  have hy:=aM h2 hs
  simp only [execOp,ho]
  refine fin ?_
  unfold W5 at h3
  split at h3
  ·simp only [Option.map_eq_some_iff] at h3
   obtain ⟨n,h5,rfl⟩:=h3
   exact wg (tc:=0) hx hy h5 ⟨fun _=>(by assumption),fun e=>absurd e (by decide),fun e=>absurd e (by decide)⟩ hz
  ·simp only [Option.map_eq_some_iff] at h3
   obtain ⟨n,h5,rfl⟩:=h3
   exact wg (tc:=1) hx hy h5 ⟨fun e=>absurd e (by decide),fun _=>⟨_,by assumption⟩,fun e=>absurd e (by decide)⟩ hz
  ·simp only [Option.map_eq_some_iff] at h3
   obtain ⟨n,h5,rfl⟩:=h3
   exact wg (tc:=2) hx hy h5 ⟨fun e=>absurd e (by decide),fun e=>absurd e (by decide),fun _=>⟨_,_,_,by assumption⟩⟩ hz
  ·cases h3; exact EF hx hy hz
  ·cases h3; exact EF hx hy hz
  ·rename_i e ht
   split at h3
   ·simp only [Option.map_eq_some_iff] at h3
    obtain ⟨n,h5,rfl⟩:=h3
    rw [R2 h2]
    exact MX ht hx h5 hz
   ·cases h3
  ·cases h3
 case unOp =>
  simp only [Option.map_eq_some_iff] at hc
  obtain ⟨y,h1,h2⟩:=hc
  cases h2
  simp only [execOp,ho]
  exact fin (R0 (aM h1 hs) hz)
 case convert =>
  simp only [Option.bind_eq_some_iff,Option.map_eq_some_iff] at hc
  obtain ⟨x,h1,p,h2,h3⟩:=hc
  cases h3
  simp only [execOp,ho]
  unfold TU at h2
  split at h2
  ·rename_i e1 e2
   cases h2
   exact fin (R1 (aM h1 hs) (by rw [e1]; rfl) e2 hz)
  ·rename_i e1 e2
   cases h2
   exact fin (O8 (aM h1 hs) e1 e2 hz)
  ·cases h2
 case makeFunc fn _ _ =>
  cases fn <;> simp only [Option.bind_eq_some_iff,Option.map_eq_some_iff] at hc <;> try (cases hc; done)
  obtain ⟨x,h1,y,h2,h3⟩:=hc
  cases h3
  simp only [dw,Option.some.injEq] at hz
  subst hz
  simp only [execOp,ho]
  refine fin ⟨_,rfl,?_⟩
  have e:∀ l:Array Operand,(l.toList.map a.eval).toArray=l.map a.eval:=fun l=>Array.toList_inj.1 (by simp)
  have:=Pd (f := ‹FuncId›) h1 h2 hs
  rw [e,e] at this
  exact this
 case makeSlice =>
  simp only [GZ,Option.bind_eq_some_iff] at hc
  obtain ⟨l,_,c,_,e,_,k,_,b,_,hc⟩:=hc
  split at hc
  ·simp at hc
  ·cases hc
 case slice =>
  simp only [Option.bind_eq_some_iff,Option.map_eq_some_iff] at hc
  obtain ⟨x,h1,lo,h2,hi,h3,mx,h4,p,h5,h6⟩:=hc
  cases h6
  simp only [execOp,ho]
  refine fin ?_
  unfold O5 at h5
  split at h5
  ·simp only [Option.map_eq_some_iff] at h5
   obtain ⟨k,h7,rfl⟩:=h5
   exact O9 (by assumption) h7 (aM h1 hs) (mZ h2 hs) (mZ h3 hs) (mZ h4 hs) hz
  ·split at h5
   ·cases h5
    have e4:=mZ h4 hs
    simp only [evo] at e4
    generalize hm:Option.map a.eval _=m at e4 ⊢
    cases e4
    exact MQ (by assumption) (aM h1 hs) (mZ h2 hs) (mZ h3 hs) hz
   ·cases h5
  ·cases h5
 case fieldAddr =>
  simp only [Option.bind_eq_some_iff] at hc
  obtain ⟨x,h1,f,h2,k,h3,hc⟩:=hc
  split at hc
  ·cases hc
  ·cases hc
   simp only [execOp,ho]
   exact fin (MR h2 h3 (by assumption) (aM h1 hs) hz)
 case field =>
  simp only [Option.bind_eq_some_iff,Option.map_eq_some_iff] at hc
  obtain ⟨x,h1,f,h2,k,h3,g,h4,h5⟩:=hc
  cases h5
  simp only [execOp,ho]
  exact fin (Pa h2 h3 h4 (aM h1 hs) hz)
 case indexAddr =>
  simp only [Option.bind_eq_some_iff,Option.map_eq_some_iff] at hc
  obtain ⟨x,h1,i,h2,p,h3,h4⟩:=hc
  cases h4
  simp only [execOp,ho]
  refine fin ?_
  unfold TV at h3
  split at h3
  ·simp only [Option.map_eq_some_iff] at h3
   obtain ⟨k,h5,rfl⟩:=h3
   exact Kx (by assumption) h5 (aM h1 hs) (aM h2 hs) hz
  ·simp only [Option.map_eq_some_iff] at h3
   obtain ⟨k,h5,rfl⟩:=h3
   exact Ky (by assumption) h5 (aM h1 hs) (aM h2 hs) hz
  ·cases h3
 case index =>
  simp only [Option.bind_eq_some_iff,Option.map_eq_some_iff] at hc
  obtain ⟨x,h1,i,h2,p,h3,h4⟩:=hc
  cases h4
  simp only [execOp,ho]
  refine fin ?_
  unfold W6 at h3
  split at h3
  ·cases h3
   exact MS (by assumption) (aM h1 hs) (aM h2 hs) hz
  ·simp only [Option.bind_eq_some_iff,Option.map_eq_some_iff] at h3
   obtain ⟨k,h5,g,h6,rfl⟩:=h3
   exact MT (by assumption) h5 h6 (aM h1 hs) (aM h2 hs) hz
  ·cases h3
 case extract =>
  simp only [Option.map_eq_some_iff] at hc
  obtain ⟨y,h1,h2⟩:=hc
  cases h2
  simp only [execOp,ho]
  exact fin (Pb (aM h1 hs) hz)
 case call c =>
  unfold G1 at hc
  split at hc
  ·rename_i b hb
   have run:∀ (args:Array Value),args=c.args.map a.eval→(execOp a.eval o).run P w=(builtin b c.argTypes o.type (c.args.map fun | .const _=>true | _=>false) args).run P w:=by
    intro args he
    subst he
    simp only [execOp,ho,resolve,hb,Sem.run_bind,Sem.run_pure,Result.andThen,invoke]
    rfl
   unfold tY at hc
   split at hc
   ·rename_i t ts x e1 e2
    simp only [Option.bind_eq_some_iff,Option.map_eq_some_iff] at hc
    obtain ⟨y,h1,p,h2,h3⟩:=hc
    cases h3
    have hargs:c.args.map a.eval = #[a.eval x]:=Array.toList_inj.1 (by simp [e2])
    have h0:c.argTypes[0]?=some t:=by rw [← Array.getElem?_toList,e1]; rfl
    rw [run _ rfl,hargs]
    unfold W7 at h2
    split at h2
    ·cases h2; exact fin (MU h0 (by assumption) (aM h1 hs) hz)
    ·cases h2; exact fin (MV h0 (by assumption) (aM h1 hs) hz)
    ·rename_i n e ht
     cases h2
     simp only [dw,ev,Option.some.injEq] at hz
     subst hz
     exact fin ⟨_,by simp [Builtin.len_,h0,run_underlying ht]; rfl,.dat (.v _ rfl)⟩
    ·cases h2
   ·rename_i t ts x e1 e2
    simp only [Option.bind_eq_some_iff,Option.map_eq_some_iff] at hc
    obtain ⟨y,h1,p,h2,h3⟩:=hc
    cases h3
    have hargs:c.args.map a.eval = #[a.eval x]:=Array.toList_inj.1 (by simp [e2])
    have h0:c.argTypes[0]?=some t:=by rw [← Array.getElem?_toList,e1]; rfl
    rw [run _ rfl,hargs]
    unfold W8 at h2
    split at h2
    ·cases h2; exact fin (Pc h0 (by assumption) (aM h1 hs) hz)
    ·cases h2
   ·rename_i x l e2
    simp only [Option.bind_eq_some_iff,Option.map_eq_some_iff] at hc
    obtain ⟨x',h1,y',h2,h3⟩:=hc
    cases h3
    obtain ⟨l1,l2⟩:=mY hs h2
    rw [run _ rfl]
    exact fin (EG (m:=true) (ts:=c.argTypes) (ty:=o.type) (vs:=l.map a.eval) (by simp [e2]) (aM h1 hs) (by simp [l1]) (fun i c u h3 h4=>by
     simp only [List.getElem?_map,Option.map_eq_some_iff] at h3 h4
     obtain ⟨p,hp,rfl⟩:=h3
     obtain ⟨q,hq,rfl⟩:=h4
     exact l2 i q p hq hp) hz)
   ·rename_i x l e2
    simp only [Option.bind_eq_some_iff,Option.map_eq_some_iff] at hc
    obtain ⟨x',h1,y',h2,h3⟩:=hc
    cases h3
    obtain ⟨l1,l2⟩:=mY hs h2
    rw [run _ rfl]
    exact fin (EG (m:=false) (ts:=c.argTypes) (ty:=o.type) (vs:=l.map a.eval) (by simp [e2]) (aM h1 hs) (by simp [l1]) (fun i c u h3 h4=>by
     simp only [List.getElem?_map,Option.map_eq_some_iff] at h3 h4
     obtain ⟨p,hp,rfl⟩:=h3
     obtain ⟨q,hq,rfl⟩:=h4
     exact l2 i q p hq hp) hz)
   ·unfold MN at hc
    split at hc
    ·simp only [Option.bind_eq_some_iff] at hc
     obtain ⟨e,_,_,_,k,_,b,_,x,_,y,_,hc⟩:=hc
     split at hc <;> cases hc
    ·cases hc
   ·unfold G0 at hc
    split at hc
    ·simp only [Option.bind_eq_some_iff] at hc
     obtain ⟨e,_,k,_,x,_,y,_,hc⟩:=hc
     split at hc <;> cases hc
    ·cases hc
   ·cases hc
  ·simp [Option.bind_eq_some_iff] at hc
  ·cases hc
 all_goals cases hc
end
theorem av {α:Type} (s:Nat→α) (d:Nat) (x:α):upd s d x d=x:=if_pos rfl
theorem aF {α:Type} (s:Nat→α) {d i:Nat} (x:α) (hi:i ≠ d):upd s d x i=s i:=if_neg hi
theorem tg {h:ac} {id id':Nat} {o:Ob} (he:h id ≠ .dead) (hd:upd h id o id' ≠ .dead):h id' ≠ .dead:=by
 by_cases hi:id'=id
 ·subst hi; exact he
 ·rwa [aF _ _ hi] at hd
theorem bN {h h':ac} {id:Nat} {sub:Option Nat} (e:h' id=h id):live h' id sub↔live h id sub:=by
 cases sub <;> simp [live,e]
theorem c9 {h h':ac} {id:Nat} {sub:Option Nat} (e:h' id=h id):bA h' id sub↔bA h id sub:=by
 cases sub with
 | none=>simp [bA,e]
 | some p=>exact bN (sub:=some p) e
theorem th {w:World} {b:Nat} {o:Obj} (h:w.heap[b]?=some o):b < w.heap.size:=(Array.getElem?_eq_some_iff.1 h).1
section
variable {w:World} {X:Nat→Prop} {ρ:bd} {h:ac}
theorem Rel.live_heap (r:Rel w X ρ h) {id:Nat} {sub:Option Nat} (hl:live h id sub):∃ us e,w.heap[(ρ id sub).1]?=some (.cells us e (0,0))∧us.size=(ρ id sub).2:=by
 have ho:=r.ob id
 cases sub with
 | none =>
  cases e:h id with
  | bx cs=>rw [e] at ho; obtain ⟨us,t,h1,h2,_⟩:=ho; exact ⟨us,t,h1,h2⟩
  | ar k rows=>rw [e] at ho; obtain ⟨us,t,h1,h2,_⟩:=ho; exact ⟨us,t,h1,h2⟩
  | _=>simp [live,e] at hl
 | some p =>
  obtain ⟨cs,k,rows,e,hc⟩:=hl
  rw [e] at ho
  obtain ⟨us,t,h1,h2,h3,h4⟩:=ho
  obtain ⟨u,_,g⟩:=h4 p _ hc
  obtain ⟨a,cap,us',t',_,_,_,g4,g5,_⟩:=g
  exact ⟨us',t',g4,g5⟩
theorem nv {A:Nat→Prop} {b k lo n cap:Nat} {us:Array Value} {e:TypeId} {fr:Nat × Nat} {rows:List (List AV)} {a:Option Addr} (hb:w.heap[b]?=some (.cells us e fr)) (hA:A b) (hr:bI w A k rows us)
  (hle:lo+n≤rows.length) (hn:n≤cap) (ha:cap=0∨a=some ⟨b,lo*k,none⟩):RD w A (jT k lo n rows) (.slice a n cap):=by
 have hlen:((rows.drop lo).take n).length=n:=by simp; omega
 have at_:∀ (i:Nat) (row:List AV),((rows.drop lo).take n)[i]?=some row→rows[lo+i]?=some row:=by
  intro i row hi
  rw [List.getElem?_take] at hi
  split at hi
  ·rwa [List.getElem?_drop] at hi
  ·cases hi
 have key:RD w A (.sl k ((rows.drop lo).take n)) (.slice a ((rows.drop lo).take n).length cap):=by
  refine .sl k _ a cap ⟨b,lo*k,none⟩ (fun i j=>(us[(lo+i)*k+j]?).getD undef) (by rw [hlen]; exact hn) (fun hne => ?_) (fun row hrow => ?_) (fun i row j c h1 h2 => ?_) (fun row hrow c hc => ?_) (fun i row j c h1 h2 => ?_)
  ·refine ⟨?_,hA,rfl⟩
   rcases ha with h0 | h0
   ·exfalso; apply hne; apply List.eq_nil_of_length_eq_zero; rw [hlen]; omega
   ·exact h0
  ·obtain ⟨i,hi⟩:=List.getElem?_of_mem hrow
   exact (hr _ _ (at_ i row hi)).1
  ·obtain ⟨u,h3,_⟩:=(hr _ _ (at_ i row h1)).2 j c h2
   rw [l5,s7 hb,← Nat.add_assoc,← Nat.add_mul,h3]; rfl
  ·obtain ⟨i,hi⟩:=List.getElem?_of_mem hrow
   obtain ⟨j,hj⟩:=List.getElem?_of_mem hc
   obtain ⟨_,_,_,h4⟩:=(hr _ _ (at_ i row hi)).2 j c hj
   exact h4
  ·obtain ⟨u,h3,h4,_⟩:=(hr _ _ (at_ i row h1)).2 j c h2
   rw [h3]; exact h4
 rw [hlen] at key
 exact key
theorem Xa (r:Rel w X ρ h) {id k:Nat} {rows:List (List AV)} (e:h id = .ar k rows):Rel w X ρ (upd h id (.fz k rows))∧Evo w ρ h w ρ (upd h id (.fz k rows)) []:=by
 have hl:∀ id' sub,live (upd h id (.fz k rows)) id' sub→id' ≠ id∧live h id' sub:=by
  intro id' sub hl
  by_cases hi:id'=id
  ·subst hi
   exfalso
   cases sub with
   | none=>simp [live,av] at hl
   | some p=>simp [live,av] at hl
  ·exact ⟨hi,(bN (aF h _ hi)).1 hl⟩
 have ev:Evo w ρ h w ρ (upd h id (.fz k rows)) []:=by
  refine ⟨rfl,rfl,rfl,Nat.le_refl _,fun _ _ _=>rfl,fun id' sub hp _=>⟨?_,rfl⟩,fun b ho => ?_,fun id' hb=>⟨?_,rfl⟩,fun id' _ hd=>⟨tg (by rw [e]; exact fun e=>by cases e) hd,rfl⟩⟩
  ·by_cases hi:id'=id
   ·subst hi
    cases sub with
    | none=>simp [bA,av]
    | some p=>obtain ⟨cs,k',rows',e',_⟩:=hp; rw [e] at e'; cases e'
   ·exact (c9 (aF h _ hi)).2 hp
  ·obtain ⟨id',sub,h1,h2⟩:=ho
   exact .inl ⟨id',sub,(hl id' sub h1).2,h2⟩
  ·by_cases hi:id'=id
   ·subst hi; simp [av,bf]
   ·rw [aF h _ hi]; exact hb
 refine ⟨r.step ev (· = id) (fun id' hi=>⟨aF h _ hi,fun _=>rfl,fun _ _=>rfl⟩) (fun a b c d h1 h2=>r.inj a b c d (hl a b h1).2 (hl c d h2).2) (fun a b h1=>r.nx a b (hl a b h1).2) (fun id' hi => ?_),ev⟩
 subst hi
 rw [av]
 have ho:=r.ob id'
 rw [e] at ho
 obtain ⟨us,t,h1,h2,h3,h4⟩:=ho
 have hlv:live h id' none:=by simp [live,e]
 refine ⟨⟨th h1,r.nx id' none hlv,fun ho => ?_⟩,us,t,_,h1,h2,h3,h4.mono fun b hb=>ev.al hb⟩
 obtain ⟨id2,sub,h5,h6⟩:=ho
 exact (hl id2 sub h5).1 (r.inj id2 sub id' none (hl id2 sub h5).2 hlv h6).1
theorem ue {c:AV} (hc:gA c=true):aA (hF c)=true:=by
 cases c <;> first | (simp [gA,aO,aA,hF] at hc ⊢; done) | (simp [gA,aO,aA,hF] at hc ⊢; exact hc)
theorem zq {A':Nat→Prop} {id p:Nat} {c:AV} {u:Value} (hr:RC w (aE w X h ρ) ρ h id p c u) (hd:gA c=true)
  (hA:∀ b,aE w X h ρ b→A' b) (hb:∀ k rows,c = .osl k rows→A' (ρ id (some p)).1):RD w A' (hF c) u:=by
 cases hO:aO c with
 | true =>
  cases c <;> simp [aO] at hO
  rename_i k rows
  obtain ⟨a,cap,us',t',g1,g2,g3,g4,g5,g6,g7⟩:=hr
  subst g1
  have:=nv (lo:=0) (n:=rows.length) (cap:=cap) (a:=a) g4 (hb k rows rfl) (g7.mono (w':=w) fun b h=>⟨hA b h,rfl⟩) (by omega) g3 (by simpa using g2)
  simpa [jT,hF] using this
 | false =>
  rw [kr hO] at hr
  have hd':aA c=true:=by simpa [gA,hO] using hd
  have:hF c=c:=by cases c <;> first | rfl | simp [aO] at hO
  rw [this]
  exact (hr.1.toD hd' hr.2.1).mono fun b h=>⟨hA b h,rfl⟩
theorem Xb (r:Rel w X ρ h) {id:Nat} {cs:List AV} (e:h id = .bx cs) (hd:cs.all gA=true):Rel w X ρ (upd h id (.fz 1 (kT cs)))∧Evo w ρ h w ρ (upd h id (.fz 1 (kT cs))) [(id,true)]:=by
 have hl:∀ id' sub,live (upd h id (.fz 1 (kT cs))) id' sub→id' ≠ id∧live h id' sub:=by
  intro id' sub hl
  by_cases hi:id'=id
  ·subst hi
   exfalso
   cases sub with
   | none=>simp [live,av] at hl
   | some p=>simp [live,av] at hl
  ·exact ⟨hi,(bN (aF h _ hi)).1 hl⟩
 have ev:Evo w ρ h w ρ (upd h id (.fz 1 (kT cs))) [(id,true)]:=by
  refine ⟨rfl,rfl,rfl,Nat.le_refl _,fun _ _ _=>rfl,fun id' sub hp hk=>⟨?_,rfl⟩,fun b ho => ?_,fun id' hb=>⟨?_,rfl⟩,fun id' _ hd=>⟨tg (by rw [e]; exact fun e=>by cases e) hd,rfl⟩⟩
  ·by_cases hi:id'=id
   ·subst hi
    cases sub with
    | none=>simp [bA,av]
    | some p=>simp [fh] at hk
   ·exact (c9 (aF h _ hi)).2 hp
  ·obtain ⟨id',sub,h1,h2⟩:=ho
   exact .inl ⟨id',sub,(hl id' sub h1).2,h2⟩
  ·by_cases hi:id'=id
   ·subst hi; simp [av,bf]
   ·rw [aF h _ hi]; exact hb
 have free:∀ sub,live h id sub→aE w X (upd h id (.fz 1 (kT cs))) ρ (ρ id sub).1:=by
  intro sub hlv
  obtain ⟨us,t,h1,_⟩:=r.live_heap hlv
  refine ⟨th h1,r.nx id sub hlv,fun ho => ?_⟩
  obtain ⟨id2,sub2,h5,h6⟩:=ho
  exact (hl id2 sub2 h5).1 (r.inj id2 sub2 id sub (hl id2 sub2 h5).2 hlv h6).1
 refine ⟨r.step ev (· = id) (fun id' hi=>⟨aF h _ hi,fun _=>rfl,fun _ _=>rfl⟩) (fun a b c d h1 h2=>r.inj a b c d (hl a b h1).2 (hl c d h2).2) (fun a b h1=>r.nx a b (hl a b h1).2) (fun id' hi => ?_),ev⟩
 subst hi
 rw [av]
 have ho:=r.ob id'
 rw [e] at ho
 obtain ⟨us,t,h1,h2,h3,h4⟩:=ho
 refine ⟨free none (by simp [live,e]),us,t,_,h1,h2,by simp [kT]; omega,fun i row hi => ?_⟩
 simp only [kT,List.getElem?_map,Option.map_eq_some_iff] at hi
 obtain ⟨c,hc,rfl⟩:=hi
 refine ⟨rfl,fun j d hj => ?_⟩
 cases j with
 | succ j=>simp at hj
 | zero =>
  simp at hj
  subst hj
  obtain ⟨u,h5,h6⟩:=h4 i c hc
  refine ⟨u,by simpa using h5,zq h6 ?_ (fun b hb=>(ev.al hb).1) (fun k rows ec => ?_),ue (List.all_eq_true.1 hd c (List.mem_of_getElem? hc))⟩
  ·exact List.all_eq_true.1 hd c (List.mem_of_getElem? hc)
  ·subst ec; exact free (some i) ⟨cs,k,rows,e,hc⟩
theorem wh (r:Rel w X ρ h) {id:Nat} {cs ds:List AV} (e:h id = .bx cs) (hlen:ds.length=cs.length) (hds:∀ (p:Nat) (c:AV),cs[p]?=some c→ds[p]?=some c∨(aO c=true∧ds[p]?=some (hF c))) :
  Rel w X ρ (upd h id (.bx ds))∧Evo w ρ h w ρ (upd h id (.bx ds)) [(id,true)]:=by
 have back:∀ (p k:Nat) (rows:List (List AV)),ds[p]?=some (AV.osl k rows)→cs[p]?=some (AV.osl k rows):=by
  intro p k rows hp
  have hlt:=(List.getElem?_eq_some_iff.1 hp).1
  obtain ⟨c,hc⟩:∃ c,cs[p]?=some c:=⟨cs[p]'(by omega),List.getElem?_eq_getElem (by omega)⟩
  rcases hds p c hc with h1 | ⟨h1,h2⟩
  ·rw [hp] at h1; cases h1; exact hc
  ·rw [hp] at h2
   cases c <;> simp [aO,hF] at h1 h2
 have hl:∀ id' sub,live (upd h id (.bx ds)) id' sub→live h id' sub:=by
  intro id' sub hl
  by_cases hi:id'=id
  ·subst hi
   cases sub with
   | none=>simp [live,e]
   | some p =>
    obtain ⟨cs',k,rows,h1,h2⟩:=hl
    rw [av] at h1
    cases h1
    exact ⟨cs,k,rows,e,back p k rows h2⟩
  ·exact (bN (aF h _ hi)).1 hl
 have ev:Evo w ρ h w ρ (upd h id (.bx ds)) [(id,true)]:=by
  refine ⟨rfl,rfl,rfl,Nat.le_refl _,fun _ _ _=>rfl,fun id' sub hp hk=>⟨?_,rfl⟩,fun b ho => ?_,fun id' hb=>⟨?_,rfl⟩,fun id' _ hd=>⟨tg (by rw [e]; exact fun e=>by cases e) hd,rfl⟩⟩
  ·by_cases hi:id'=id
   ·subst hi
    cases sub with
    | none=>simp [bA,av]
    | some p=>simp [fh] at hk
   ·exact (c9 (aF h _ hi)).2 hp
  ·obtain ⟨id',sub,h1,h2⟩:=ho
   exact .inl ⟨id',sub,hl id' sub h1,h2⟩
  ·by_cases hi:id'=id
   ·subst hi; simp [av,bf]
   ·rw [aF h _ hi]; exact hb
 refine ⟨r.step ev (· = id) (fun id' hi=>⟨aF h _ hi,fun _=>rfl,fun _ _=>rfl⟩) (fun a b c d h1 h2=>r.inj a b c d (hl a b h1) (hl c d h2)) (fun a b h1=>r.nx a b (hl a b h1)) (fun id' hi => ?_),ev⟩
 subst hi
 rw [av]
 have ho:=r.ob id'
 have ho':=ho.keep (w':=w) (A':=aE w X (upd h id' (.bx ds)) ρ) (ρ':=ρ) (h':=upd h id' (.bx ds)) (fun b hb=>ev.al hb) ev.boxes (fun _=>rfl) (fun _ _=>rfl)
 rw [e] at ho ho'
 obtain ⟨us,t,h1,h2,h3,h4⟩:=ho
 obtain ⟨us',t',h1',_,_,h4'⟩:=ho'
 rw [h1] at h1'
 cases h1'
 refine ⟨us,t,h1,h2,by omega,fun p d hd => ?_⟩
 have hlt:=(List.getElem?_eq_some_iff.1 hd).1
 obtain ⟨c,hc⟩:∃ c,cs[p]?=some c:=⟨cs[p]'(by omega),List.getElem?_eq_getElem (by omega)⟩
 rcases hds p c hc with g1 | ⟨g1,g2⟩
 ·rw [hd] at g1; cases g1
  exact h4' p d hc
 ·rw [hd] at g2; cases g2
  obtain ⟨u,h5,h6⟩:=h4 p c hc
  have hlv:live h id' (some p):=by
   cases c <;> simp [aO] at g1
   exact ⟨cs,_,_,e,hc⟩
  have hfr:RD w (aE w X (upd h id' (.bx ds)) ρ) (hF c) u:=by
   refine zq h6 (by simp [gA,g1]) (fun b hb=>(ev.al hb).1) (fun k rows ec => ?_)
   obtain ⟨us2,t2,e1,_⟩:=r.live_heap hlv
   refine ⟨th e1,r.nx _ _ hlv,fun ho => ?_⟩
   obtain ⟨id2,sub2,h7,h8⟩:=ho
   obtain ⟨rfl,rfl⟩:=r.inj id2 sub2 id' (some p) (hl id2 sub2 h7) hlv h8
   obtain ⟨cs2,k2,rows2,h9,h10⟩:=h7
   rw [av] at h9
   cases h9
   rw [hd] at h10
   subst ec
   simp [hF] at h10
  have hnO:aO (hF c)=false:=by cases c <;> simp [aO] at g1 <;> rfl
  refine ⟨u,h5,(kr hnO).2 ⟨.dat hfr,hfr.one (ue (by simp [gA,g1])),nt (ue (by simp [gA,g1]))⟩⟩
end
section
variable {P:Program} {w:World} {X:Nat→Prop} {ρ:bd} {h h':ac}
theorem wj {id k lo n cap:Nat} {a:Option Addr} {rows:List (List AV)} (r:Rel w X ρ h) (e:h id = .fz k rows) (hle:lo+n≤rows.length) (hn:n≤cap)
  (ha:cap=0∨a=some ⟨(ρ id none).1,lo*k,none⟩):RD w (aE w X h ρ) (jT k lo n rows) (.slice a n cap):=by
 have ho:=r.ob id
 rw [e] at ho
 obtain ⟨h0,us,t,fr,h1,h2,h3,h4⟩:=ho
 exact nv h1 h0 h4 hle hn ha
theorem Bd (r:Rel w X ρ h) {id k lo n cap:Nat} {a:Option Addr} (hn:n≤cap) (ha:cap=0∨a=some ⟨(ρ id none).1,lo*k,none⟩) {c:AV} {ks:K} (hc:lP h id k lo n (h id)=some (c,h',ks)) :
  Rel w X ρ h'∧Evo w ρ h w ρ h' ks∧RD w (aE w X h' ρ) c (.slice a n cap)∧aA c=true:=by
 cases e:h id with
 | dead=>simp [e,lP] at hc
 | ar k' rows =>
  simp only [e,lP] at hc
  split at hc
  ·rename_i hk
   obtain ⟨rfl,hle⟩:=hk
   cases hc
   obtain ⟨h1,h2⟩:=Xa r e
   exact ⟨h1,h2,wj h1 (av _ _ _) hle hn ha,rfl⟩
  ·cases hc
 | fz k' rows =>
  simp only [e,lP] at hc
  split at hc
  ·rename_i hk
   obtain ⟨rfl,hle⟩:=hk
   cases hc
   exact ⟨r,.refl _ _ _,wj r e hle hn ha,rfl⟩
  ·cases hc
 | bx cs =>
  simp only [e,lP] at hc
  split at hc
  ·rename_i hk
   obtain ⟨rfl,hle,hd⟩:=hk
   cases hc
   obtain ⟨h1,h2⟩:=Xb r e hd
   exact ⟨h1,h2,wj h1 (av _ _ _) (by simpa [kT] using hle) hn ha,rfl⟩
  ·cases hc
theorem Pe (r:Rel w X ρ h) {id:Nat} {sub:Option Nat} (hl:live h id sub) (hn : ¬ live h' id sub) (hb:∀ id sub,live h' id sub→live h id sub):aE w X h' ρ (ρ id sub).1:=by
 obtain ⟨us,t,h1,_⟩:=r.live_heap hl
 refine ⟨th h1,r.nx id sub hl,fun ho => ?_⟩
 obtain ⟨id2,sub2,h5,h6⟩:=ho
 obtain ⟨rfl,rfl⟩:=r.inj id2 sub2 id sub (hb _ _ h5) hl h6
 exact hn h5
theorem Be (r:Rel w X ρ h) {id p k lo n cap:Nat} {a:Option Addr} (hn:n≤cap) (ha:cap=0∨a=some ⟨(ρ id (some p)).1,lo*k,none⟩) {c:AV} {ks:K} (hc:v6 h id p k lo n (h id)=some (c,h',ks)) :
  Rel w X ρ h'∧Evo w ρ h w ρ h' ks∧RD w (aE w X h' ρ) c (.slice a n cap)∧aA c=true:=by
 cases e:h id with
 | bx cs =>
  simp only [e,v6] at hc
  unfold RP at hc
  split at hc
  ·rename_i k' rows hp
   split at hc
   ·rename_i hk
    obtain ⟨rfl,hle⟩:=hk
    cases hc
    have hlt:=(List.getElem?_eq_some_iff.1 hp).1
    obtain ⟨h1,h2⟩:=wh r e (ds:=cs.set p (.sl k' rows)) (by simp) (fun q c hq=>by
     by_cases hqp:q=p
     ·subst hqp; rw [hp] at hq; cases hq; exact .inr ⟨rfl,by simp [hlt,hF]⟩
     ·exact .inl (by rw [List.getElem?_set_ne (fun e=>hqp e.symm)]; exact hq))
    refine ⟨h1,h2,?_,rfl⟩
    have hlv:live h id (some p):=⟨cs,k',rows,e,hp⟩
    have hal:aE w X (upd h id (.bx (cs.set p (.sl k' rows)))) ρ (ρ id (some p)).1:=by
     refine Pe r hlv (fun hl => ?_) (fun id' sub hl => ?_)
     ·obtain ⟨cs2,k2,r2,e1,e2⟩:=hl
      rw [av] at e1
      cases e1
      simp [hlt] at e2
     ·by_cases hi:id'=id
      ·subst hi
       cases sub with
       | none=>simp [live,e]
       | some q =>
        obtain ⟨cs2,k2,r2,e1,e2⟩:=hl
        rw [av] at e1
        cases e1
        by_cases hqp:q=p
        ·subst hqp; simp [hlt] at e2
        ·exact ⟨cs,k2,r2,e,by rwa [List.getElem?_set_ne (fun e=>hqp e.symm)] at e2⟩
      ·exact (bN (aF h _ hi)).1 hl
    have ho:=r.ob id
    rw [e] at ho
    obtain ⟨us,t,g1,g2,g3,g4⟩:=ho
    obtain ⟨u,g5,g6⟩:=g4 p _ hp
    obtain ⟨a',cap',us',t',e1,e2,e3,e4,e5,e6,e7⟩:=g6
    exact nv e4 hal (e7.mono fun b hb=>h2.al hb) hle hn ha
   ·cases hc
  ·cases hc
 | _=>simp [e,v6] at hc
theorem ug (r:Rel w X ρ h) {A0:Nat→Prop} {h0:ac} {c d:AV} {u:Value} {ks:K} (hv:RV w A0 ρ h0 c u) (hA:∀ b,A0 b→aE w X h ρ b) (h1:u.oneCell'=true) (hc:eP h c=some (d,h',ks)) :
  Rel w X ρ h'∧Evo w ρ h w ρ h' ks∧RD w (aE w X h' ρ) d u∧aA d=true:=by
 have dl:aA c=true→eP h c=some (c,h,[])→Rel w X ρ h'∧Evo w ρ h w ρ h' ks∧RD w (aE w X h' ρ) d u∧aA d=true:=by
  intro hd hq
  rw [hq] at hc
  cases hc
  exact ⟨r,.refl _ _ _,(hv.toD hd h1).mono fun b hb=>⟨hA b hb,rfl⟩,hd⟩
 cases c with
 | rsl id sub k lo n =>
  obtain ⟨a,cap,rfl,hp,hn,hb,ha⟩:=hv.rsl_inv
  cases sub with
  | none=>exact Bd r hn ha hc
  | some p=>exact Be r hn ha hc
 | fn f x y =>
  simp only [eP] at hc
  split at hc
  ·rename_i hd; exact dl hd (by simp [eP,hd])
  ·cases hc
 | any=>exact dl rfl rfl
 | v x=>exact dl rfl rfl
 | emp=>exact dl rfl rfl
 | sl k rows=>exact dl rfl rfl
 | _=>simp [eP,aA] at hc
theorem sA {A0:Nat→Prop} {h0:ac}:∀ (cs:List AV) {us:Array Value} (off:Nat) {h h':ac} {ds:List AV} {ks:K},Rel w X ρ h→(∀ b,A0 b→aE w X h ρ b) →
  (∀ (i:Nat) (c:AV) (u:Value),cs[i]?=some c→us[off+i]?=some u→RV w A0 ρ h0 c u∧u.oneCell'=true)→off+cs.length≤us.size→dC h cs=some (ds,h',ks) →
   Rel w X ρ h'∧Evo w ρ h w ρ h' ks∧ds.length=cs.length∧(∀ d ∈ ds,aA d=true)∧(∀ (i:Nat) (d:AV) (u:Value),ds[i]?=some d→us[off+i]?=some u→RD w (aE w X h' ρ) d u)
 | [],us,off,h,h',ds,ks,r,hA,hv,hl,hc=>by
  simp [dC] at hc
  obtain ⟨rfl,rfl,rfl⟩:=hc
  exact ⟨r,.refl _ _ _,rfl,fun d hd=>(by simp at hd),fun i d u hd=>(by simp at hd)⟩
 | c::cs,us,off,h,h',ds,ks,r,hA,hv,hl,hc=>by
  simp only [dC,Option.bind_eq_some_iff] at hc
  obtain ⟨⟨d,h1,k1⟩,e1,⟨ds',h2,k2⟩,e2,e3⟩:=hc
  cases e3
  simp only [List.length_cons] at hl
  obtain ⟨u,hu⟩:∃ u,us[off]?=some u:=⟨us[off]'(by omega),Array.getElem?_eq_getElem (by omega)⟩
  obtain ⟨hv0,hv1⟩:=hv 0 c u (by simp) (by simpa using hu)
  obtain ⟨g1,g2,g3,g4⟩:=ug r hv0 hA hv1 e1
  obtain ⟨f1,f2,f3,f4,f5⟩:=sA cs (off+1) g1 (fun b hb=>(g2.al (hA b hb)).1) (fun i c u h1 h2=>hv (i+1) c u (by simpa using h1) (by rw [← h2]; congr 1; omega)) (by omega) e2
  refine ⟨f1,g2.trans f2,by simp [f3],fun x hx => ?_,fun i x v hx hv => ?_⟩
  ·rcases List.mem_cons.1 hx with rfl | hx
   ·exact g4
   ·exact f4 x hx
  ·cases i with
   | zero =>
    simp at hx hv
    subst hx
    rw [hu] at hv
    cases hv
    exact f2.rd g3
   | succ i=>exact f5 i x v (by simpa using hx) (by rw [← hv]; congr 1; omega)
theorem Pf (r:Rel w X ρ h) {A0:Nat→Prop} {h0:ac} {c d:AV} {u:Value} {ks:K} (hv:RV w A0 ρ h0 c u) (hA:∀ b,A0 b→aE w X h ρ b) (hc:qY h c=some (d,h',ks)) (h1:(∀ cs,c ≠ .agg cs)→u.oneCell'=true) :
  Rel w X ρ h'∧Evo w ρ h w ρ h' ks∧RD w (aE w X h' ρ) d u∧dat d=true:=by
 cases c with
 | agg cs =>
  simp only [qY,Option.bind_eq_some_iff] at hc
  obtain ⟨⟨ds,h2,k2⟩,e1,e2⟩:=hc
  cases e2
  obtain ⟨us,rfl,hs,g1,g2⟩:=hv.agg_inv
  obtain ⟨f1,f2,f3,f4,f5⟩:=sA cs (us:=us) 0 r hA (fun i c u hc hu=>⟨g2 i c u hc (by simpa using hu),g1 _ u (by simpa using hu)⟩) (by omega) e1
  exact ⟨f1,f2,.agg _ _ (by rw [hs]; exact f3.symm) g1 fun i d u hd hu=>f5 i d u hd (by simpa using hu),by simpa [dat] using f4⟩
 | _ =>
  obtain ⟨f1,f2,f3,f4⟩:=ug r hv hA (h1 fun cs e=>by cases e) hc
  refine ⟨f1,f2,f3,?_⟩
  cases d <;> first | exact f4 | simp [aA] at f4
theorem yF {e:TypeId} {ad:Addr} {u:Value} (hg:mJ P e=some false) (hc:w.cell? ad=some u):(loadVar e ad).run P w = .ok u w:=by
 simp [loadVar,xS hg,hc]
theorem KA {e:TypeId} {k:Nat} {ad:Addr} {vs:List Value} (hg:mJ P e=some true) (hk:a9 P e=some k) (hl:vs.length=k) (hc:∀ j v,vs[j]?=some v→w.cell? (ad.add j)=some v) :
  (loadVar e ad).run P w = .ok (.agg vs.toArray) w:=by
 have:=run_loadCells_list (P:=P) w ad vs hc
 rw [hl] at this
 simp [loadVar,xS hg,dg hk,this]
theorem oJ {A:Nat→Prop} {h:ac} {e:TypeId} {k off:Nat} {g:Bool} (hg:mJ P e=some g) (hk:a9 P e=some k) {cs:List AV} {ad:Addr} {z:AV} {vals:Nat→Value}
  (hv:∀ (j:Nat) (c:AV),cs[j]?=some c→w.cell? (ad.add j)=some (vals j)) (hr:∀ (j:Nat) (c:AV),cs[j]?=some c→RV w A ρ h c (vals j)∧(vals j).oneCell'=true) (hz:ig k g cs off=some z) :
  ∃ v,(loadVar e (ad.add off)).run P w = .ok v w∧RV w A ρ h z v:=by
 unfold ig at hz
 cases g with
 | true =>
  simp only [if_true] at hz
  split at hz
  ·rename_i hle
   cases hz
   refine ⟨_,KA hg hk (vs:=(List.range k).map fun j=>vals (off+j)) (by simp) (fun j v hj => ?_),.agg _ _ (by simp; omega) (fun i u hu => ?_) (fun i c u hc hu => ?_)⟩
   ·simp only [List.getElem?_map,Option.map_eq_some_iff] at hj
    obtain ⟨i,hi,rfl⟩:=hj
    obtain ⟨h1,h2⟩:=List.getElem?_eq_some_iff.1 hi
    simp at h2 h1
    subst h2
    rw [rf]
    exact hv _ _ (List.getElem?_eq_getElem (show off+j < cs.length by omega))
   ·simp only [List.getElem?_toArray,List.getElem?_map,Option.map_eq_some_iff] at hu
    obtain ⟨j,hj,rfl⟩:=hu
    obtain ⟨h1,h2⟩:=List.getElem?_eq_some_iff.1 hj
    simp at h2 h1
    subst h2
    exact (hr _ _ (List.getElem?_eq_getElem (show off+i < cs.length by omega))).2
   ·rw [List.getElem?_take] at hc
    split at hc
    ·rw [List.getElem?_drop] at hc
     simp only [List.getElem?_toArray,List.getElem?_map,Option.map_eq_some_iff] at hu
     obtain ⟨j,hj,rfl⟩:=hu
     obtain ⟨h1,h2⟩:=List.getElem?_eq_some_iff.1 hj
     simp at h2
     subst h2
     exact (hr _ _ hc).1
    ·cases hc
  ·cases hz
 | false =>
  simp at hz
  exact ⟨_,yF hg (hv _ _ hz),(hr _ _ hz).1⟩
theorem sB {A:Nat→Prop} {h:ac} {e:TypeId} {k:Nat} {g:Bool} (hg:mJ P e=some g) (hk:a9 P e=some k) {b k0 i j k':Nat} {us:Array Value} {t:TypeId} {fr:Nat × Nat} {rows:List (List AV)}
  (hb:w.heap[b]?=some (.cells us t fr)) (hr:bI w A k' rows us) {z:AV} {h':ac} {ks:K} (hz:j4 h k g k0 i j (some (k',rows))=some (z,h',ks)) :
  h'=h∧ks=[]∧∃ v,(loadVar e ⟨b,i*k0+j,none⟩).run P w = .ok v w∧RV w A ρ h z v:=by
 simp only [j4] at hz
 split at hz
 ·rename_i hkk
  subst hkk
  simp only [Option.bind_eq_some_iff,Option.map_eq_some_iff] at hz
  obtain ⟨row,h1,a,h2,h3⟩:=hz
  cases h3
  refine ⟨rfl,rfl,?_⟩
  have cell:∀ (j:Nat) (c:AV),row[j]?=some c→us[i*k'+j]?=some ((us[i*k'+j]?).getD undef)∧RD w A c ((us[i*k'+j]?).getD undef)∧aA c=true:=by
   intro j c hc
   obtain ⟨u,g1,g2,g3⟩:=(hr i row h1).2 j c hc
   rw [g1]; exact ⟨rfl,g2,g3⟩
  have:=oJ (P:=P) (ρ:=ρ) (h:=h) (A:=A) (off:=j) hg hk (cs:=row) (ad:=⟨b,i*k',none⟩) (z:=z) (vals:=fun j=>(us[i*k'+j]?).getD undef)
   (fun j c hc=>by rw [l5,s7 hb]; exact (cell j c hc).1) (fun j c hc=>⟨.dat (cell j c hc).2.1,(cell j c hc).2.1.one (cell j c hc).2.2⟩) h2
  rwa [l5] at this
 ·cases hz
end
def i6 (ρ:bd) (d:Nat) (sub:Option Nat) (b:Nat × Nat):bd:=fun id s=>if id=d∧s=sub then b else ρ id s
theorem bt (ρ:bd) (d:Nat) (sub:Option Nat) (b:Nat × Nat):i6 ρ d sub b d sub=b:=if_pos ⟨rfl,rfl⟩
theorem xT {ρ:bd} {d id:Nat} {sub s:Option Nat} {b:Nat × Nat} (h : ¬ (id=d∧s=sub)):i6 ρ d sub b id s=ρ id s:=if_neg h
section
variable {P:Program} {w:World} {X:Nat→Prop} {ρ:bd} {h h':ac}
theorem ti (w:World) (o:Obj) {b:Nat} (hb:b < w.heap.size):(w.alloc o).heap[b]?=w.heap[b]?:=by
 show (w.heap.push o)[b]?=_
 rw [Array.getElem?_push,if_neg (by omega)]
theorem nw (w:World) (o:Obj):(w.alloc o).heap[w.heap.size]?=some o:=by
 show (w.heap.push o)[w.heap.size]?=_
 rw [Array.getElem?_push,if_pos rfl]
theorem Bf (w:World) (o:Obj):(w.alloc o).heap.size=w.heap.size+1:=by
 show (w.heap.push o).size=_
 rw [Array.size_push]
def MZ (w:World) (A:Nat→Prop) (ρ:bd) (h:ac) (us:Array Value):Ob→Prop
 | .bx cs=>cs.length≤us.size∧∀ (p:Nat) (c:AV),cs[p]?=some c→aO c=false∧∃ u,us[p]?=some u∧RV w A ρ h c u∧u.oneCell'=true∧gi h c
 | .ar k rows=>rows.length*k≤us.size∧bI w A k rows us
 | _=>False
theorem pv (r:Rel w X ρ h) {d:Nat} (hdp:aQ d=false) (hd:h d = .dead) {us:Array Value} {e:TypeId} {o:Ob} (ho:MZ w (aE w X h ρ) ρ h us o) :
  Rel (w.alloc (.cells us e)) X (i6 ρ d none (w.heap.size,us.size)) (upd h d o)∧Evo w ρ h (w.alloc (.cells us e)) (i6 ρ d none (w.heap.size,us.size)) (upd h d o) []:=by
 have hl:∀ id sub,live (upd h d o) id sub→(id=d∧sub=none)∨(id ≠ d∧live h id sub):=by
  intro id sub hl
  by_cases hi:id=d
  ·subst hi
   cases sub with
   | none=>exact .inl ⟨rfl,rfl⟩
   | some p =>
    obtain ⟨cs,k,rows,h1,h2⟩:=hl
    rw [av] at h1
    subst h1
    exact absurd (ho.2 p _ h2).1 (by simp [aO])
  ·exact .inr ⟨hi,(bN (aF h _ hi)).1 hl⟩
 have hρ:∀ id sub,id ≠ d→i6 ρ d none (w.heap.size,us.size) id sub=ρ id sub:=fun id sub hi=>xT fun e=>hi e.1
 have ev:Evo w ρ h (w.alloc (.cells us e)) (i6 ρ d none (w.heap.size,us.size)) (upd h d o) []:=by
  refine ⟨rfl,rfl,rfl,by rw [Bf]; omega,fun b hb _=>ti w _ hb,fun id sub hp _ => ?_,fun b hb => ?_,fun id hb => ?_,fun id hp hnd => ?_⟩
  ·have hi:id ≠ d:=by
    rintro rfl
    cases sub with
    | none=>exact hp hd
    | some p=>obtain ⟨_,_,_,h1,_⟩:=hp; rw [hd] at h1; cases h1
   exact ⟨(c9 (aF h _ hi)).2 hp,hρ id sub hi⟩
  ·obtain ⟨id,sub,h1,h2⟩:=hb
   rcases hl id sub h1 with ⟨rfl,rfl⟩ | ⟨hi,h3⟩
   ·rw [bt] at h2; exact .inr (by rw [← h2]; exact Nat.le_refl _)
   ·rw [hρ id sub hi] at h2; exact .inl ⟨id,sub,h3,h2⟩
  ·have hi:id ≠ d:=by rintro rfl; rw [hd] at hb; cases hb
   rw [aF h _ hi]
   exact ⟨hb,hρ id none hi⟩
  ·have hi:id ≠ d:=by rintro rfl; rw [hdp] at hp; cases hp
   rw [aF h _ hi] at hnd
   exact ⟨hnd,hρ id none hi⟩
 have lt:∀ id sub,live h id sub→(ρ id sub).1 < w.heap.size:=fun id sub hl=>by obtain ⟨us,t,h1,_⟩:=r.live_heap hl; exact th h1
 refine ⟨r.step ev (· = d) (fun id hi=>⟨aF h _ hi,fun sub=>hρ id sub hi,fun sub hl=>ti w _ (lt id sub hl)⟩) (fun a b c e' h1 h2 h3 => ?_) (fun a b h1 => ?_) (fun id hi => ?_),ev⟩
 ·rcases hl a b h1 with ⟨rfl,rfl⟩ | ⟨ha,h4⟩ <;> rcases hl c e' h2 with ⟨rfl,rfl⟩ | ⟨hc,h5⟩
  ·exact ⟨rfl,rfl⟩
  ·rw [bt,hρ c e' hc] at h3; have:=lt c e' h5; simp at h3; omega
  ·rw [bt,hρ a b ha] at h3; have:=lt a b h4; simp at h3; omega
  ·rw [hρ a b ha,hρ c e' hc] at h3; exact r.inj a b c e' h4 h5 h3
 ·rcases hl a b h1 with ⟨rfl,rfl⟩ | ⟨ha,h4⟩
  ·rw [bt]; intro hx; have:=r.xl _ hx; simp at this
  ·rw [hρ a b ha]; exact r.nx a b h4
 ·subst hi
  rw [av]
  cases o with
  | bx cs =>
   refine ⟨us,e,by rw [bt]; exact nw w _,by rw [bt],ho.1,fun p c hc => ?_⟩
   obtain ⟨h1,u,h2,h3,h4,h5⟩:=ho.2 p c hc
   obtain ⟨h6,h7⟩:=h3.keepC h5 (fun b hb=>ev.al hb) ev.boxes
   exact ⟨u,h2,(kr h1).2 ⟨h6,h4,h7⟩⟩
  | ar k rows=>exact ⟨us,e,by rw [bt]; exact nw w _,by rw [bt],ho.1,ho.2.mono fun b hb=>ev.al hb⟩
  | dead=>exact ho.elim
  | fz k rows=>exact ho.elim
theorem TW {t:TypeId} {i:TypeInfo} {z:Value} (h1:P.info? t=some i) (h2:i.zero=some z) (w:World):(zeroValue t).run P w = .ok z w:=by simp [zeroValue,typeInfo,h1,h2]
theorem EH {cs:List AV} {us:Array Value} {A:Nat→Prop} (hc:Cells w A ρ h cs us) (hd:cs.all aA=true):MZ w A ρ h us (.bx cs) :=
 ⟨Nat.le_of_eq hc.1.symm,fun p c hp=>by
  have h1:aA c=true:=List.all_eq_true.1 hd c (List.mem_of_getElem? hp)
  obtain ⟨u,hu⟩:∃ u,us[p]?=some u:=⟨us[p]'(by have:=(List.getElem?_eq_some_iff.1 hp).1; have:=hc.1; omega),Array.getElem?_eq_getElem _⟩
  exact ⟨by cases c <;> simp [aA] at h1 <;> rfl,u,hu,hc.2.2 p c u hp hu,hc.2.1 p u hu,nt h1⟩⟩
theorem Hq:∀ (l:List Value) (cs:List AV),wc l=some cs→cs.all aA=true
 | [],cs,hc=>by simp [wc] at hc; subst hc; rfl
 | v::l,cs,hc=>by
  simp only [wc,Option.bind_eq_some_iff] at hc
  obtain ⟨c,h1,q,h2,h3⟩:=hc
  cases h3
  have h4:aA c=true:=by unfold Hm at h1; split at h1 <;> cases h1 <;> rfl
  simp [h4]
  simpa using Hq l q h2
theorem Hr {t:TypeId} {zs:List AV} (hz:iZ P t=some zs):zs.all aA=true:=by
 simp only [iZ,Option.bind_eq_some_iff] at hz
 obtain ⟨i,h1,z,h2,h3⟩:=hz
 split at h3
 ·exact Hq _ _ h3
 ·cases h3
theorem i7 {d:Nat} {a:AV} {o:Ob} {ks:K} {x:AV} {ks':K} (hn:qZ h d a o ks (h d)=some (x,h',ks')):h d = .dead∧x=a∧h'=upd h d o∧ks'=ks:=by
 cases e:h d <;> simp [e,qZ] at hn
 exact ⟨rfl,hn.1.symm,hn.2.1.symm,hn.2.2.symm⟩
structure Got (w:World) (X:Nat→Prop) (ρ:bd) (h:ac) (w':World) (h':ac) (ks:K) (x:AV) (v:Value):Prop where
 ex:∃ ρ',Rel w' X ρ' h'∧Evo w ρ h w' ρ' h' ks∧RV w' (aE w' X h' ρ') ρ' h' x v
theorem KB {t:TypeId} {zs:List AV} (r:Rel w X ρ h) (hz:iZ P t=some zs) {d:Nat} (hdp:aQ d=false) {x:AV} {ks:K} (hn:fE h d zs []=some (x,h',ks)) :
  ∃ v w',(Instr.alloc t true (.tuple #[])).run P w = .ok v w'∧Got w X ρ h w' h' ks x v:=by
 obtain ⟨h1,rfl,rfl,rfl⟩:=i7 hn
 obtain ⟨i,z,g1,g2,g3,g4,g5⟩:=nu (w:=w) (A:=aE w X h ρ) (ρ:=ρ) (h:=h) hz
 obtain ⟨g6,g7⟩:=pv (e:=t) r hdp h1 (EH g5 (Hr hz))
 refine ⟨.pointer (some ⟨w.heap.size,0,none⟩),_,?_,⟨_,g6,g7,?_⟩⟩
 ·simp only [Instr.alloc,Sem.run_bind,TW g1 g2,Result.andThen]
  simp [newVar,newRow]
 ·have:=RV.ref (w:=w.alloc (.cells z.cells t)) (A:=aE (w.alloc (.cells z.cells t)) X (upd h d (.bx zs)) (i6 ρ d none (w.heap.size,z.cells.size))) (ρ:=i6 ρ d none (w.heap.size,z.cells.size)) (h:=upd h d (.bx zs)) d none 0 0 0 (by simp [bA,av])
  rw [bt] at this
  simpa using this
end
section
variable {P:Program} {w:World} {X:Nat→Prop} {ρ:bd} {h h':ac}
theorem r5 (a:Addr):a.add 0=a:=by unfold Addr.add; rw [if_pos rfl]
theorem LE {c:AV} (hc:aO c=false):hF c=c:=by cases c <;> first | rfl | simp [aO] at hc
theorem Rel.cell (r:Rel w X ρ h) {id:Nat} {cs:List AV} (e:h id = .bx cs):∃ us t,w.heap[(ρ id none).1]?=some (.cells us t (0,0))∧us.size=(ρ id none).2∧cs.length≤us.size ∧
  ∀ (p:Nat) (c:AV),cs[p]?=some c→∃ u,us[p]?=some u∧RC w (aE w X h ρ) ρ h id p c u:=by
 have ho:=r.ob id
 rw [e] at ho
 exact ho
theorem KC (r:Rel w X ρ h) {ty:TypeId} {k:Nat} {g:Bool} (hg:mJ P ty=some g) (hk:a9 P ty=some k) {id p:Nat} {cs:List AV} (e:h id = .bx cs) {z:AV} {ks:K} (hz:tS h id p k g cs=some (z,h',ks)) :
  ∃ v,(loadVar ty ⟨(ρ id none).1,p,none⟩).run P w = .ok v w∧Rel w X ρ h'∧Evo w ρ h w ρ h' ks∧RV w (aE w X h' ρ) ρ h' z v:=by
 have key:∀ (h1:ac) (ds:List AV),Rel w X ρ h1→h1 id = .bx ds→g=true→p+k≤ds.length→(∀ c ∈ (ds.drop p).take k,aO c=false) →
   ∃ v,(loadVar ty ⟨(ρ id none).1,p,none⟩).run P w = .ok v w∧RV w (aE w X h1 ρ) ρ h1 (.agg ((ds.drop p).take k)) v:=by
  intro h1 ds r1 e1 hgt hle hn
  subst hgt
  obtain ⟨us,t,g1,g2,g3,g4⟩:=r1.cell e1
  have at_:∀ (j:Nat) (c:AV),((ds.drop p).take k)[j]?=some c→ds[p+j]?=some c:=by
   intro j c hj
   rw [List.getElem?_take] at hj
   split at hj
   ·rwa [List.getElem?_drop] at hj
   ·cases hj
  have cell:∀ (j:Nat) (c:AV),((ds.drop p).take k)[j]?=some c→us[p+j]?=some ((us[p+j]?).getD undef)∧RV w (aE w X h1 ρ) ρ h1 c ((us[p+j]?).getD undef)∧((us[p+j]?).getD undef).oneCell'=true:=by
   intro j c hc
   obtain ⟨u,f1,f2⟩:=g4 _ c (at_ j c hc)
   rw [kr (hn c (List.mem_of_getElem? hc))] at f2
   rw [f1]; exact ⟨rfl,f2.1,f2.2.1⟩
  have:=oJ (P:=P) (ρ:=ρ) (h:=h1) (A:=aE w X h1 ρ) (off:=0) hg hk (cs:=(ds.drop p).take k) (ad:=⟨(ρ id none).1,p,none⟩) (z := .agg ((ds.drop p).take k)) (vals:=fun j=>(us[p+j]?).getD undef)
   (fun j c hc=>by rw [l5,s7 g1]; exact (cell j c hc).1) (fun j c hc=>(cell j c hc).2) (by
    have hl:((ds.drop p).take k).length=k:=by simp; omega
    simp only [ig,if_true]
    rw [if_pos (by omega),List.drop_zero,List.take_of_length_le (by omega)])
  rwa [r5] at this
 unfold tS at hz
 cases g with
 | true =>
  simp only [if_true] at hz
  split at hz
  ·rename_i hle
   split at hz
   ·cases hz
    obtain ⟨r1,e1⟩:=wh r e (ds:=cs.map hF) (by simp) (fun q c hq=>by
     cases hO:aO c with
     | true=>exact .inr ⟨rfl,by simp [hq]⟩
     | false=>exact .inl (by simp [hq,LE hO]))
    obtain ⟨v,h1,h2⟩:=key _ _ r1 (av _ _ _) rfl (by simpa using hle) (fun c hc=>by
     have:=List.mem_of_mem_drop (List.mem_of_mem_take hc)
     simp only [List.mem_map] at this
     obtain ⟨c',_,rfl⟩:=this
     cases c' <;> rfl)
    exact ⟨v,h1,r1,e1,h2⟩
   ·rename_i hno
    cases hz
    obtain ⟨v,h1,h2⟩:=key _ _ r e rfl hle (fun c hc=>by
     simp only [List.any_eq_true,not_exists,not_and] at hno
     simpa using hno c hc)
    exact ⟨v,h1,r,.refl _ _ _,h2⟩
  ·cases hz
 | false =>
  simp only [Bool.false_eq_true,if_false,Option.map_eq_some_iff] at hz
  obtain ⟨c,hc,e3⟩:=hz
  cases e3
  obtain ⟨us,t,g1,g2,g3,g4⟩:=r.cell e
  obtain ⟨u,f1,f2⟩:=g4 p c hc
  refine ⟨u,yF hg (by rw [s7 g1]; exact f1),r,.refl _ _ _,?_⟩
  cases hO:aO c with
  | true =>
   cases c <;> simp [aO] at hO
   rename_i k' rows
   obtain ⟨a,cap,us',t',e1,e2,e3,e4,e5,e6,e7⟩:=f2
   subst e1
   exact .rsl id (some p) k' 0 rows.length cap a ⟨cs,k',rows,e,hc⟩ e3 (by rw [← e5]; simpa using e6) (by simpa using e2)
  | false =>
   rw [kr hO] at f2
   have:pb id p c=c:=by cases c <;> first | rfl | simp [aO] at hO
   rw [this]
   exact f2.1
theorem yG (r:Rel w X ρ h) {ty:TypeId} {k:Nat} {g:Bool} (hg:mJ P ty=some g) (hk:a9 P ty=some k) {x z:AV} {u:Value} {ks:K} (hx:RV w (aE w X h ρ) ρ h x u) (hz:dU h k g x=some (z,h',ks)) :
  ∃ ad v,u = .pointer (some ad)∧(loadVar ty ad).run P w = .ok v w∧Rel w X ρ h'∧Evo w ρ h w ρ h' ks∧RV w (aE w X h' ρ) ρ h' z v:=by
 cases x with
 | ipt cs =>
  simp only [dU,Option.map_eq_some_iff] at hz
  obtain ⟨a,h1,h2⟩:=hz
  cases h2
  cases hx with
  | dat hd=>cases hd
  | ipt _ ad vals hA hs hv hl hr =>
   obtain ⟨v,f1,f2⟩:=oJ (P:=P) (ρ:=ρ) (h:=h) (A:=aE w X h ρ) (off:=0) hg hk hv (fun j c hc=>⟨.dat (hr j c hc),(hr j c hc).one (hl c (List.mem_of_getElem? hc))⟩) h1
   exact ⟨ad,v,rfl,by rwa [r5] at f1,r,.refl _ _ _,f2⟩
 | ref id sub k0 i j =>
  obtain ⟨rfl,hp⟩:=hx.ref_inv
  cases sub with
  | none =>
   simp only [dU] at hz
   cases e:h id with
   | dead=>rw [e] at hz; cases hz
   | bx cs =>
    rw [e] at hz
    obtain ⟨v,f1,f2,f3,f4⟩:=KC (P:=P) r hg hk e hz
    exact ⟨_,v,rfl,f1,f2,f3,f4⟩
   | ar k' rows =>
    rw [e] at hz
    have ho:=r.ob id
    rw [e] at ho
    obtain ⟨us,t,g1,g2,g3,g4⟩:=ho
    obtain ⟨rfl,rfl,v,f1,f2⟩:=sB (P:=P) (ρ:=ρ) hg hk g1 g4 hz
    exact ⟨_,v,rfl,f1,r,.refl _ _ _,f2⟩
   | fz k' rows =>
    rw [e] at hz
    have ho:=r.ob id
    rw [e] at ho
    obtain ⟨_,us,t,fr,g1,g2,g3,g4⟩:=ho
    obtain ⟨rfl,rfl,v,f1,f2⟩:=sB (P:=P) (ρ:=ρ) hg hk g1 g4 hz
    exact ⟨_,v,rfl,f1,r,.refl _ _ _,f2⟩
  | some p =>
   simp only [dU] at hz
   cases e:h id with
   | bx cs =>
    rw [e] at hz
    simp only [oI] at hz
    cases e2:cs[p]? with
    | none=>rw [e2] at hz; cases hz
    | some c =>
     rw [e2] at hz
     cases c <;> simp only [tR] at hz <;> try (cases hz; done)
     rename_i k' rows
     obtain ⟨us,t,g1,g2,g3,g4⟩:=r.cell e
     obtain ⟨u,f1,a,cap,us',t',e1,e2',e3,e4,e5,e6,e7⟩:=g4 p _ e2
     obtain ⟨rfl,rfl,v,f1,f2⟩:=sB (P:=P) (ρ:=ρ) hg hk e4 e7 hz
     exact ⟨_,v,rfl,f1,r,.refl _ _ _,f2⟩
   | _=>rw [e] at hz; cases hz
 | _=>cases hz
def bO (us:Array Value) (o:Nat) (vs:List Value):Array Value:=(us.toList.take o++vs++us.toList.drop (o+vs.length)).toArray
theorem dY {us:Array Value} {o:Nat} {vs:List Value} (hle:o+vs.length≤us.size) (q:Nat):(bO us o vs)[q]?=if o≤q∧q < o+vs.length then vs[q - o]? else us[q]?:=by
 have hlen:us.toList.length=us.size:=Array.length_toList
 unfold bO
 rw [List.getElem?_toArray,List.append_assoc,List.getElem?_append]
 have ht:(us.toList.take o).length=o:=by rw [List.length_take,hlen]; omega
 rw [ht]
 by_cases h1:q < o
 ·rw [if_pos h1,if_neg (by omega),List.getElem?_take,if_pos h1,Array.getElem?_toList]
 ·rw [if_neg h1,List.getElem?_append]
  by_cases h2:q - o < vs.length
  ·rw [if_pos h2,if_pos (by omega)]
  ·rw [if_neg h2,if_neg (by omega),List.getElem?_drop,Array.getElem?_toList]
   congr 1
   omega
theorem cx {us:Array Value} {o:Nat} {vs:List Value} (hle:o+vs.length≤us.size):(bO us o vs).size=us.size:=by
 have hlen:us.toList.length=us.size:=Array.length_toList
 simp [bO]
 omega
theorem m5 {us:Array Value} {o:Nat} {vs:List Value} (hle:o+vs.length≤us.size) (hs:∀ (j:Nat) (v:Value),vs[j]?=some v→us[o+j]?=some v):bO us o vs=us:=by
 apply Array.ext_getElem?
 intro q
 rw [dY hle]
 split
 ·rename_i h1
  obtain ⟨v,hv⟩:∃ v,vs[q - o]?=some v:=⟨vs[q - o]'(by omega),List.getElem?_eq_getElem _⟩
  rw [hv,← hs _ v hv]
  congr 1
  omega
 ·rfl
theorem Pg {us:Array Value} {o:Nat} {v:Value} {vs:List Value} (hle:o+(v::vs).length≤us.size):bO (bO us o [v]) (o+1) vs=bO us o (v::vs):=by
 have h1:o+[v].length≤us.size:=by simp at hle ⊢; omega
 simp only [List.length_cons] at hle
 apply Array.ext_getElem?
 intro q
 rw [dY (by rw [cx h1]; omega),dY h1,dY (by simpa using hle)]
 simp only [List.length_cons,List.length_nil]
 by_cases e:q=o
 ·subst e
  rw [if_neg (by omega),if_pos (by omega),if_pos (by omega)]
  simp
 ·by_cases h2:o+1≤q∧q < o+1+vs.length
  ·rw [if_pos h2,if_pos (by omega),show q - o=(q - (o+1))+1 from by omega,List.getElem?_cons_succ]
  ·rw [if_neg h2,if_neg (by omega),if_neg (by omega)]
theorem lQ {ty:TypeId} {k:Nat} (hk:a9 P ty=some k) {v:Value} (hv:v.cells.size=k) (h1:∀ u ∈ v.cells.toList,u.oneCell'=true) {b o:Nat} {us:Array Value} {t:TypeId}
  (hb:w.heap[b]?=some (.cells us t (0,0))) (hle:o+k≤us.size):(storeVar ty ⟨b,o,none⟩ v).run P w = .ok () (w.setRow b (bO us o v.cells.toList)):=by
 have:=run_storeCells_at P b o t v.cells.toList 0 us w hb (by simpa [hv] using hle) h1
 simp only [storeVar,Sem.run_bind,dg hk,Result.andThen,hv,ne_eq,not_true_eq_false,if_false]
 simpa [bO] using this
end
section
variable {P:Program} {w w':World} {X:Nat→Prop} {ρ ρ':bd} {h h':ac} {A A':Nat→Prop}
theorem RC.keep {id p:Nat} {c:AV} {u:Value} (hc:RC w A ρ h id p c u) (hA:∀ b,A b→A' b∧w'.heap[b]?=w.heap[b]?) (hB:∀ id,bf (h id)=true→bf (h' id)=true∧ρ' id none=ρ id none)
  (hρ:ρ' id (some p)=ρ id (some p)) (hb:aO c=true→w'.heap[(ρ id (some p)).1]?=w.heap[(ρ id (some p)).1]?):RC w' A' ρ' h' id p c u:=by
 cases hO:aO c with
 | true =>
  cases c <;> simp [aO] at hO
  rename_i k rows
  obtain ⟨a,cap,us',t',g1,g2,g3,g4,g5,g6,g7⟩:=hc
  exact ⟨a,cap,us',t',g1,by rw [hρ]; exact g2,g3,by rw [hρ,hb rfl,g4],by rw [hρ]; exact g5,g6,g7.mono hA⟩
 | false =>
  rw [kr hO] at hc ⊢
  obtain ⟨g1,g2⟩:=hc.1.keepC hc.2.2 hA hB
  exact ⟨g1,hc.2.1,g2⟩
theorem tj (r:Rel w X ρ h) {id:Nat} {sub:Option Nat} (hl:live h id sub) {o':Ob} {ks:K} (us':Array Value) (hlive:∀ s,live (upd h id o') id s→live h id s)
  (hkeep:∀ s,bA h id s→fh ks id s=false→bA (upd h id o') id s) (hbf:bf (h id)=true→bf o'=true):Evo w ρ h (w.setRow (ρ id sub).1 us') ρ (upd h id o') ks:=by
 have hl':∀ id' s,live (upd h id o') id' s→live h id' s:=by
  intro id' s h1
  by_cases hi:id'=id
  ·subst hi; exact hlive s h1
  ·exact (bN (aF h _ hi)).1 h1
 refine ⟨rfl,rfl,rfl,by simp,fun b _ ho=>setRow_other w _ b us' (fun e=>ho ⟨id,sub,hl,e.symm⟩),fun id' s hp hk=>⟨?_,rfl⟩,fun b ho => ?_,fun id' hb=>⟨?_,rfl⟩,fun id' _ hd=>⟨tg (fun e=>by cases sub <;> simp [live,e] at hl) hd,rfl⟩⟩
 ·by_cases hi:id'=id
  ·subst hi; exact hkeep s hp hk
  ·exact (c9 (aF h _ hi)).2 hp
 ·obtain ⟨id',s,h1,h2⟩:=ho
  exact .inl ⟨id',s,hl' id' s h1,h2⟩
 ·by_cases hi:id'=id
  ·subst hi; rw [av]; exact hbf hb
  ·rw [aF h _ hi]; exact hb
theorem px (r:Rel w X ρ h) {id:Nat} {sub:Option Nat} (hl:live h id sub) {o':Ob} {ks:K} (us':Array Value) (hlive:∀ s,live (upd h id o') id s→live h id s)
  (ev:Evo w ρ h (w.setRow (ρ id sub).1 us') ρ (upd h id o') ks) (ho:RO (w.setRow (ρ id sub).1 us') (aE (w.setRow (ρ id sub).1 us') X (upd h id o') ρ) ρ (upd h id o') id o'):Rel (w.setRow (ρ id sub).1 us') X ρ (upd h id o'):=by
 have hl':∀ id' s,live (upd h id o') id' s→live h id' s:=by
  intro id' s h1
  by_cases hi:id'=id
  ·subst hi; exact hlive s h1
  ·exact (bN (aF h _ hi)).1 h1
 refine r.step ev (· = id) (fun id' hi=>⟨aF h _ hi,fun _=>rfl,fun s h1=>setRow_other w _ _ us' fun e=>hi (r.inj id' s id sub h1 hl e).1⟩) (fun a b c d h1 h2=>r.inj a b c d (hl' a b h1) (hl' c d h2)) (fun a b h1=>r.nx a b (hl' a b h1)) (fun id' hi => ?_)
 subst hi
 rw [av]
 exact ho
theorem wrB (r:Rel w X ρ h) {id p:Nat} {cs xs:List AV} (e:h id = .bx cs) {us:Array Value} {t:TypeId} (hb:w.heap[(ρ id none).1]?=some (.cells us t (0,0))) {vals:List Value} (hlen:vals.length=xs.length)
  (hx:∀ (m:Nat) (c:AV) (u:Value),xs[m]?=some c→vals[m]?=some u→aO c=false∧RV w (aE w X h ρ) ρ h c u∧u.oneCell'=true∧gi h c) (hle:p+xs.length≤cs.length) :
  Rel (w.setRow (ρ id none).1 (bO us p vals)) X ρ (upd h id (.bx (setRow cs p xs)))∧Evo w ρ h (w.setRow (ρ id none).1 (bO us p vals)) ρ (upd h id (.bx (setRow cs p xs))) (if ((cs.drop p).take xs.length).any aO then [(id,true)] else []):=by
 have hln:live h id none:=by simp [live,e]
 obtain ⟨us0,t0,g1,g2,g3,g4⟩:=r.cell e
 rw [hb] at g1
 cases g1
 have hov:p+vals.length≤us.size:=by omega
 have hlive:∀ s,live (upd h id (.bx (setRow cs p xs))) id s→live h id s:=by
  intro s h1
  cases s with
  | none=>exact hln
  | some q =>
   obtain ⟨cs',k,rows,h2,h3⟩:=h1
   rw [av] at h2
   cases h2
   rw [kY q xs cs p hle] at h3
   split at h3
   ·obtain ⟨u,hu⟩:∃ u,vals[q - p]?=some u:=⟨vals[q - p]'(by omega),List.getElem?_eq_getElem _⟩
    have:=(hx _ _ u h3 hu).1
    simp [aO] at this
   ·exact ⟨cs,k,rows,e,h3⟩
 have hkeep:∀ s,bA h id s→fh (if ((cs.drop p).take xs.length).any aO then [(id,true)] else []) id s=false→bA (upd h id (.bx (setRow cs p xs))) id s:=by
  intro s hp hk
  cases s with
  | none=>simp [bA,av]
  | some q =>
   obtain ⟨cs',k,rows,h2,h3⟩:=hp
   rw [e] at h2
   cases h2
   refine ⟨setRow cs p xs,k,rows,av _ _ _,?_⟩
   rw [kY q xs cs p hle]
   split
   ·rename_i h4
    exfalso
    have:((cs.drop p).take xs.length).any aO=true:=List.any_eq_true.2 ⟨.osl k rows,by
     refine List.mem_of_getElem? (i:=q - p) ?_
     rw [List.getElem?_take,if_pos (by omega),List.getElem?_drop,show p+(q - p)=q from by omega,h3],rfl⟩
    rw [if_pos this] at hk
    simp [fh] at hk
   ·exact h3
 have ev:=tj (X:=X) r hln (bO us p vals) hlive hkeep (fun _=>rfl)
 refine ⟨px r hln (bO us p vals) hlive ev ?_,ev⟩
 refine ⟨bO us p vals,t,setRow_heap w _ us _ t _ hb,by rw [cx hov]; exact g2,by rw [cx hov,p6]; exact g3,fun q c hq => ?_⟩
 rw [kY q xs cs p hle] at hq
 rw [dY hov]
 split at hq
 ·rename_i h1
  rw [if_pos (by omega)]
  obtain ⟨u,hu⟩:∃ u,vals[q - p]?=some u:=⟨vals[q - p]'(by omega),List.getElem?_eq_getElem _⟩
  obtain ⟨f1,f2,f3,f4⟩:=hx _ _ _ hq hu
  obtain ⟨f5,f6⟩:=f2.keepC f4 (fun b hb=>ev.al hb) ev.boxes
  exact ⟨u,hu,(kr f1).2 ⟨f5,f3,f6⟩⟩
 ·rename_i h1
  rw [if_neg (by omega)]
  obtain ⟨u,f1,f2⟩:=g4 q c hq
  refine ⟨u,f1,f2.keep (fun b hb=>ev.al hb) ev.boxes rfl (fun hO => ?_)⟩
  cases c <;> simp [aO] at hO
  exact setRow_other w _ _ _ fun e2=>absurd (r.inj id (some q) id none ⟨cs,_,_,e,hq⟩ hln e2).2 (by simp)
theorem mvB (r:Rel w X ρ h) {id p id0 k cap:Nat} {cs:List AV} {rows:List (List AV)} {a:Option Addr} (e:h id = .bx cs) {us:Array Value} {t:TypeId} (hb:w.heap[(ρ id none).1]?=some (.cells us t (0,0))) (e0:h id0 = .ar k rows)
  (hn:rows.length≤cap) (hc:cap*k≤(ρ id0 none).2) (ha:cap=0∨a=some ⟨(ρ id0 none).1,0,none⟩) (hp:p < cs.length) :
  Rel (w.setRow (ρ id none).1 (bO us p [.slice a rows.length cap])) X (i6 ρ id (some p) (ρ id0 none)) (upd (upd h id0 .dead) id (.bx (cs.set p (.osl k rows)))) ∧
   Evo w ρ h (w.setRow (ρ id none).1 (bO us p [.slice a rows.length cap])) (i6 ρ id (some p) (ρ id0 none)) (upd (upd h id0 .dead) id (.bx (cs.set p (.osl k rows)))) ([(id0,false)]++(if (cs[p]?).any aO then [(id,true)] else [])):=by
 have hln:live h id none:=by simp [live,e]
 have hl0:live h id0 none:=by simp [live,e0]
 have hne:id0 ≠ id:=by rintro rfl; rw [e] at e0; cases e0
 obtain ⟨us0,t0,g1,g2,g3,g4⟩:=r.cell e
 rw [hb] at g1
 cases g1
 have hov:p+[Value.slice a rows.length cap].length≤us.size:=by simp; omega
 have hρ:∀ id' s,¬ (id'=id∧s=some p)→i6 ρ id (some p) (ρ id0 none) id' s=ρ id' s:=fun id' s hh=>xT hh
 have hl:∀ id' s,live (upd (upd h id0 .dead) id (.bx (cs.set p (.osl k rows)))) id' s→(id'=id∧s=some p)∨(¬ (id'=id∧s=some p)∧id' ≠ id0∧live h id' s):=by
  intro id' s h1
  by_cases hi:id'=id
  ·subst hi
   cases s with
   | none=>exact .inr ⟨by simp,fun e=>hne e.symm,hln⟩
   | some q =>
    by_cases hq:q=p
    ·subst hq; exact .inl ⟨rfl,rfl⟩
    ·obtain ⟨cs',k',rows',h2,h3⟩:=h1
     rw [av] at h2
     cases h2
     rw [List.getElem?_set_ne (fun e=>hq e.symm)] at h3
     exact .inr ⟨by simp [hq],fun e=>hne e.symm,⟨cs,k',rows',e,h3⟩⟩
  ·by_cases hi0:id'=id0
   ·subst hi0
    exfalso
    have:=(bN (aF (upd h id' .dead) (.bx (cs.set p (.osl k rows))) hi)).1 h1
    cases s <;> simp [live,av] at this
   ·refine .inr ⟨by simp [hi],hi0,?_⟩
    have:=(bN (aF (upd h id0 .dead) (.bx (cs.set p (.osl k rows))) hi)).1 h1
    exact (bN (aF h _ hi0)).1 this
 have blk:∀ id' s,live (upd (upd h id0 .dead) id (.bx (cs.set p (.osl k rows)))) id' s→∃ id2 s2,live h id2 s2∧(i6 ρ id (some p) (ρ id0 none) id' s).1=(ρ id2 s2).1∧((id'=id∧s=some p∧id2=id0∧s2=none)∨(id2=id'∧s2=s∧id2 ≠ id0)):=by
  intro id' s h1
  rcases hl id' s h1 with ⟨rfl,rfl⟩ | ⟨h2,h3,h4⟩
  ·exact ⟨id0,none,hl0,by rw [bt],.inl ⟨rfl,rfl,rfl,rfl⟩⟩
  ·exact ⟨id',s,h4,by rw [hρ id' s h2],.inr ⟨rfl,rfl,h3⟩⟩
 have ev:Evo w ρ h (w.setRow (ρ id none).1 (bO us p [.slice a rows.length cap])) (i6 ρ id (some p) (ρ id0 none)) (upd (upd h id0 .dead) id (.bx (cs.set p (.osl k rows)))) ([(id0,false)]++(if (cs[p]?).any aO then [(id,true)] else [])):=by
  refine ⟨rfl,rfl,rfl,by simp,fun b _ ho=>setRow_other w _ b _ (fun e=>ho ⟨id,none,hln,e.symm⟩),fun id' s hps hk => ?_,fun b ho => ?_,fun id' hbf => ?_,fun id' _ hnd=>⟨fun e1 => ?_,hρ _ _ (by simp)⟩⟩
  ·rw [qu,Bool.or_eq_false_iff] at hk
   have hi0:id' ≠ id0:=by rintro rfl; simp [fh] at hk
   by_cases hi:id'=id
   ·subst hi
    cases s with
    | none=>exact ⟨by simp [bA,av],hρ _ _ (by simp)⟩
    | some q =>
     obtain ⟨cs',k',rows',h2,h3⟩:=hps
     rw [e] at h2
     cases h2
     have hq:q ≠ p:=by
      rintro rfl
      have:=hk.2
      simp [h3,aO,fh] at this
     exact ⟨⟨_,k',rows',av _ _ _,by rw [List.getElem?_set_ne (fun e=>hq e.symm)]; exact h3⟩,hρ _ _ (by simp [hq])⟩
   ·exact ⟨(c9 (by rw [aF _ _ hi,aF _ _ hi0])).2 hps,hρ _ _ (by simp [hi])⟩
  ·obtain ⟨id',s,h1,h2⟩:=ho
   obtain ⟨id2,s2,h3,h4,_⟩:=blk id' s h1
   exact .inl ⟨id2,s2,h3,h4.symm.trans h2⟩
  ·have hi0:id' ≠ id0:=by rintro rfl; simp [e0,bf] at hbf
   refine ⟨?_,hρ _ _ (by simp)⟩
   by_cases hi:id'=id
   ·subst hi; rw [av]; rfl
   ·rw [aF _ _ hi,aF _ _ hi0]; exact hbf
  ·have hi:id' ≠ id:=by rintro rfl; rw [e] at e1; cases e1
   have hi0:id' ≠ id0:=by rintro rfl; rw [e0] at e1; cases e1
   rw [aF _ _ hi,aF _ _ hi0] at hnd
   exact hnd e1
 refine ⟨r.step ev (fun i=>i=id∨i=id0) (fun id' hi => ?_) (fun i s i' s' h1 h2 h3 => ?_) (fun i s h1 => ?_) (fun id' hi => ?_),ev⟩
 ·simp only [not_or] at hi
  exact ⟨by rw [aF _ _ hi.1,aF _ _ hi.2],fun s=>hρ _ _ (by simp [hi.1]),fun s h1=>setRow_other w _ _ _ fun e=>hi.1 (r.inj id' s id none h1 hln e).1⟩
 ·obtain ⟨i2,s2,f1,f2,f3⟩:=blk i s h1
  obtain ⟨i3,s3,f4,f5,f6⟩:=blk i' s' h2
  obtain ⟨rfl,rfl⟩:=r.inj i2 s2 i3 s3 f1 f4 (by rw [← f2,← f5]; exact h3)
  rcases f3 with ⟨rfl,rfl,f7,f8⟩ | ⟨rfl,rfl,f7⟩ <;> rcases f6 with ⟨rfl,rfl,f9,f10⟩ | ⟨rfl,rfl,f9⟩
  ·exact ⟨rfl,rfl⟩
  ·exact absurd f7 f9
  ·exact absurd f9 f7
  ·exact ⟨rfl,rfl⟩
 ·obtain ⟨i2,s2,f1,f2,_⟩:=blk i s h1
  rw [f2]
  exact r.nx _ _ f1
 ·rcases hi with rfl | rfl
  ·rw [av]
   refine ⟨bO us p [.slice a rows.length cap],t,by rw [hρ _ _ (by simp)]; exact setRow_heap w _ us _ t _ hb,by rw [cx hov,hρ _ _ (by simp)]; exact g2,by rw [cx hov,List.length_set]; exact g3,fun q c hq => ?_⟩
   rw [dY hov]
   by_cases hqp:q=p
   ·subst hqp
    rw [List.getElem?_set_self hp] at hq
    cases hq
    rw [if_pos (by simp)]
    refine ⟨.slice a rows.length cap,by simp,?_⟩
    have ho:=r.ob id0
    rw [e0] at ho
    obtain ⟨us1,t1,f1,f2,f3,f4⟩:=ho
    refine ⟨a,cap,us1,t1,rfl,by rw [bt]; exact ha,hn,?_,by rw [bt]; exact f2,by rw [f2]; exact hc,f4.mono fun b hb=>ev.al hb⟩
    rw [bt,setRow_other w _ _ _ (fun e2=>hne (r.inj id0 none id' none hl0 hln e2).1)]
    exact f1
   ·rw [List.getElem?_set_ne (fun e=>hqp e.symm)] at hq
    rw [if_neg (by simp; omega)]
    obtain ⟨u,f1,f2⟩:=g4 q c hq
    refine ⟨u,f1,f2.keep (fun b hb=>ev.al hb) ev.boxes (hρ _ _ (by simp [hqp])) (fun hO => ?_)⟩
    cases c <;> simp [aO] at hO
    exact setRow_other w _ _ _ fun e2=>absurd (r.inj id' (some q) id' none ⟨cs,_,_,e,hq⟩ hln e2).2 (by simp)
  ·rw [aF _ _ hne,av]
   trivial
end
section
variable {P:Program} {w w':World} {X:Nat→Prop} {ρ ρ':bd} {h h':ac} {A A':Nat→Prop}
def M0 (w:World) (X:Nat→Prop) (ρ:bd) (h h':ac) (y:AV) (u:Value) (ks:K):Prop :=
 (Rel w X ρ h'∧Evo w ρ h w ρ h' ks∧aO y=false∧RV w (aE w X h' ρ) ρ h' y u∧gi h' y) ∨
  (∃ id0 k rows cap a,h id0 = .ar k rows∧y = .osl k rows∧h'=upd h id0 .dead∧ks=[(id0,false)]∧u = .slice a rows.length cap∧rows.length≤cap∧cap*k≤(ρ id0 none).2∧(cap=0∨a=some ⟨(ρ id0 none).1,0,none⟩))
theorem CX {c:AV} (hd:aA c=true):aO c=false:=by cases c <;> simp [aA] at hd <;> rfl
theorem Ph (r:Rel w X ρ h) {x y:AV} {u:Value} {ks:K} (hx:RV w (aE w X h ρ) ρ h x u) (h1:u.oneCell'=true) (hi:A7 h x=some (y,h',ks)):M0 w X ρ h h' y u ks:=by
 have dl:aA x=true→A7 h x=some (x,h,[])→M0 w X ρ h h' y u ks:=fun hd hq=>by
  rw [hq] at hi
  simp only [Option.some.injEq,Prod.mk.injEq] at hi
  obtain ⟨rfl,rfl,rfl⟩:=hi
  exact .inl ⟨r,.refl _ _ _,CX hd,hx,nt hd⟩
 have fr:Rel w X ρ h'∧Evo w ρ h w ρ h' ks∧RD w (aE w X h' ρ) y u∧aA y=true→M0 w X ρ h h' y u ks :=
  fun ⟨f1,f2,f3,f4⟩ => .inl ⟨f1,f2,CX f4,.dat f3,nt f4⟩
 cases x with
 | rsl id sub k lo n =>
  obtain ⟨a,cap,rfl,hp,hn,hb,ha⟩:=hx.rsl_inv
  cases sub with
  | some p=>exact fr (Be r hn ha hi)
  | none =>
   simp only [A7] at hi
   have other:O3 h id k lo n (h id)=lP h id k lo n (h id)→M0 w X ρ h h' y (.slice a n cap) ks:=fun hq=>by
    rw [hq] at hi
    exact fr (Bd r hn ha hi)
   cases e:h id with
   | ar k' rows =>
    by_cases hk:k'=k
    ·subst hk
     by_cases hw:lo=0∧n=rows.length
     ·obtain ⟨rfl,rfl⟩:=hw
      rw [e] at hi
      simp only [O3,and_self,if_true] at hi
      cases hi
      exact .inr ⟨id,k',rows,cap,a,e,rfl,rfl,rfl,rfl,hn,by simpa using hb,by simpa using ha⟩
     ·exact other (by rw [e]; simp [O3,hw])
    ·rw [e] at hi
     simp [O3,hk] at hi
   | _=>exact other (by rw [e]; rfl)
 | ref id sub k i j =>
  cases sub with
  | some p=>simp [A7,aA] at hi
  | none =>
   simp only [A7] at hi
   cases e:h id <;> rw [e] at hi <;> simp only [inP] at hi <;> cases hi
   exact .inl ⟨r,.refl _ _ _,rfl,hx,by simp [gi,e,bf]⟩
 | fn f a b =>
  simp only [A7] at hi
  split at hi
  ·rename_i hd
   cases hi
   exact .inl ⟨r,.refl _ _ _,rfl,hx,hd⟩
  ·cases hi
 | any=>exact dl rfl rfl
 | v x=>exact dl rfl rfl
 | emp=>exact dl rfl rfl
 | sl k rows=>exact dl rfl rfl
 | _=>simp [A7,aA] at hi
theorem M1 (r:Rel w X ρ h) {id p:Nat} {cs:List AV} (e:h id = .bx cs) {us:Array Value} {t:TypeId} (hb:w.heap[(ρ id none).1]?=some (.cells us t (0,0))) {x y:AV} {u:Value} {h1:ac} {k1 ks:K}
  (hx:RV w (aE w X h ρ) ρ h x u) (hu:u.oneCell'=true) (hi:A7 h x=some (y,h1,k1)) (hs:MK h1 id p y k1 (h1 id)=some (h',ks)) :
  ∃ ρ',Rel (w.setRow (ρ id none).1 (bO us p [u])) X ρ' h'∧Evo w ρ h (w.setRow (ρ id none).1 (bO us p [u])) ρ' h' ks∧ρ' id none=ρ id none∧p < us.size∧∃ cs',h' id = .bx cs':=by
 obtain ⟨us0,t0,g1,g2,g3,g4⟩:=r.cell e
 rw [hb] at g1
 cases g1
 rcases Ph r hx hu hi with ⟨f1,f2,f3,f4,f5⟩ | ⟨id0,k,rows,cap,a,e0,rfl,rfl,rfl,rfl,f2,f3,f4⟩
 ·cases e1:h1 id with
  | bx cs1 =>
   rw [e1] at hs
   simp only [MK] at hs
   split at hs
   ·rename_i hp
    cases hs
    obtain ⟨w1,w2⟩:=wrB (vals:=[u]) (xs:=[y]) (p:=p) f1 e1 hb rfl (fun m c v hc hv=>by
     cases m with
     | zero=>simp at hc hv; subst hc hv; exact ⟨f3,f4,hu,f5⟩
     | succ m=>simp at hc) (by simp only [List.length_singleton]; omega)
    refine ⟨ρ,w1,?_,rfl,?_,_,av _ _ _⟩
    ·have w3:=f2.trans w2
     have h9:List.take 1 (List.drop p cs1)=[cs1[p]]:=by rw [List.drop_eq_getElem_cons hp]; rfl
     have:(List.take [y].length (List.drop p cs1)).any aO=Option.any aO cs1[p]?:=by
      rw [List.getElem?_eq_getElem hp]
      show (List.take 1 (List.drop p cs1)).any aO=_
      rw [h9]
      simp
     rw [this] at w3
     exact w3
    ·obtain ⟨us2,t2,q1,q2,q3,q4⟩:=f1.cell e1
     rw [hb] at q1; cases q1
     omega
   ·cases hs
  | _=>rw [e1] at hs; cases hs
 ·have hne:id ≠ id0:=by rintro rfl; rw [e] at e0; cases e0
  rw [aF _ _ hne,e] at hs
  simp only [MK] at hs
  split at hs
  ·rename_i hp
   cases hs
   obtain ⟨w1,w2⟩:=mvB (p:=p) r e hb e0 f2 f3 f4 hp
   exact ⟨_,w1,w2,xT (by simp),by omega,_,av _ _ _⟩
  ·cases hs
theorem Pi {ks:K} {xs:List AV} {m:Nat} {c:AV} (hc:(xN ks xs)[m]?=some c):∃ c',xs[m]?=some c'∧(c=c'∧(ks=[]∨LC ks c'=false)∨c = .any):=by
 cases ks with
 | nil=>exact ⟨c,hc,.inl ⟨rfl,.inl rfl⟩⟩
 | cons k ks =>
  simp only [xN,List.getElem?_map,Option.map_eq_some_iff] at hc
  obtain ⟨c',h1,h2⟩:=hc
  refine ⟨c',h1,?_⟩
  unfold lZ at h2
  split at h2
  ·exact .inr h2.symm
  ·rename_i h3; exact .inl ⟨h2.symm,.inr (by simpa using h3)⟩
theorem Evo.rvk {ks:K} (e:Evo w ρ h w' ρ' h' ks) {c:AV} {u:Value} (hv:RV w (aE w X h ρ) ρ h c u) (hm:ks=[]∨LC ks c=false):RV w' (aE w' X h' ρ') ρ' h' c u:=by
 rcases hm with rfl | hm
 ·exact e.rv hv
 ·exact hv.keep2 (fun b hb=>e.al hb) (fun id sub hp hk=>e.keep id sub hp hk) hm
theorem Hs (ks:K) (xs:List AV):(xN ks xs).length=xs.length:=by cases ks <;> simp [xN]
theorem rg:∀ (n:Nat) (xs:List AV) (vals:List Value) (p:Nat) {w:World} {ρ:bd} {h h':ac} {ks:K} {id:Nat} {cs:List AV} {us:Array Value} {t:TypeId},Rel w X ρ h→h id = .bx cs→w.heap[(ρ id none).1]?=some (.cells us t (0,0)) →
  vals.length=xs.length→(∀ (m:Nat) (c:AV) (u:Value),xs[m]?=some c→vals[m]?=some u→RV w (aE w X h ρ) ρ h c u∧u.oneCell'=true)→p+vals.length≤us.size→pq h id p n xs=some (h',ks) →
  ∃ ρ',Rel (w.setRow (ρ id none).1 (bO us p vals)) X ρ' h'∧Evo w ρ h (w.setRow (ρ id none).1 (bO us p vals)) ρ' h' ks∧ρ' id none=ρ id none∧∃ cs',h' id = .bx cs'
 | _,[],vals,p,w,ρ,h,h',ks,id,cs,us,t,r,e,hb,hlen,_,hle,hs=>by
  have hn:vals=[]:=List.eq_nil_of_length_eq_zero (by simpa using hlen)
  subst hn
  simp only [pq,Option.some.injEq,Prod.mk.injEq] at hs
  obtain ⟨rfl,rfl⟩:=hs
  rw [m5 hle (fun j v hv=>by simp at hv),setRow_self w _ us t (0,0) hb]
  exact ⟨ρ,r,.refl _ _ _,rfl,cs,e⟩
 | 0,x::xs,_,_,_,_,_,_,_,_,_,_,_,_,_,_,_,_,_,hs=>by simp [pq] at hs
 | n+1,x::xs,[],p,w,ρ,h,h',ks,id,cs,us,t,r,e,hb,hlen,hx,hle,hs=>by simp at hlen
 | n+1,x::xs,u::vals,p,w,ρ,h,h',ks,id,cs,us,t,r,e,hb,hlen,hx,hle,hs=>by
  simp only [pq,Option.bind_eq_some_iff] at hs
  obtain ⟨⟨y,h1,k1⟩,e1,⟨h2,k2⟩,e2,⟨h3,k3⟩,e3,e4⟩:=hs
  cases e4
  obtain ⟨f1,f2⟩:=hx 0 x u rfl rfl
  obtain ⟨ρ1,g1,g2,g3,g4,cs1,g5⟩:=M1 r e hb f1 f2 e1 e2
  have hsz:(bO us p [u]).size=us.size:=cx (by simp only [List.length_singleton]; omega)
  have hb1:(w.setRow (ρ id none).1 (bO us p [u])).heap[(ρ1 id none).1]?=some (.cells (bO us p [u]) t (0,0)):=by rw [g3]; exact setRow_heap w _ us _ t _ hb
  obtain ⟨ρ2,q1,q2,q3,q4⟩:=rg n (xN k2 xs) vals (p+1) g1 g5 hb1 (by rw [Hs]; simpa using hlen) (fun m c v hc hv=>by
   obtain ⟨c',p1,p2⟩:=Pi hc
   obtain ⟨p3,p4⟩:=hx (m+1) c' v (by simpa using p1) (by simpa using hv)
   refine ⟨?_,p4⟩
   rcases p2 with ⟨rfl,p2⟩ | rfl
   ·exact g2.rvk p3 p2
   ·exact .anyv v) (by rw [hsz]; simp at hle; omega) e3
  rw [g3,setRow_setRow,Pg hle] at q1 q2
  exact ⟨ρ2,q1,g2.trans q2,q3.trans g3,q4⟩
theorem wk {k:Nat} {rows:List (List AV)} {us:Array Value} (hr:bI w A k rows us) (hs:rows.length*k≤us.size) {i j:Nat} {row xs:List AV} {vals:List Value} (hi:rows[i]?=some row) (hj:j+xs.length≤row.length)
  (hlen:vals.length=xs.length) (hx:∀ (m:Nat) (c:AV) (u:Value),xs[m]?=some c→vals[m]?=some u→RD w A c u∧aA c=true) :
  bI w A k (rows.set i (setRow row j xs)) (bO us (i*k+j) vals)∧i*k+j+vals.length≤us.size:=by
 have hrow:=(hr i row hi).1
 have hil:i < rows.length:=(List.getElem?_eq_some_iff.1 hi).1
 have h1:(i+1)*k≤rows.length*k:=Nat.mul_le_mul_right k hil
 rw [Nat.add_mul,Nat.one_mul] at h1
 have hov:i*k+j+vals.length≤us.size:=by omega
 refine ⟨fun i' row' hi' => ?_,hov⟩
 by_cases e:i'=i
 ·subst e
  rw [List.getElem?_set_self hil] at hi'
  cases hi'
  refine ⟨by rw [p6]; exact hrow,fun q c hq => ?_⟩
  rw [kY q xs row j hj] at hq
  rw [dY hov]
  split at hq
  ·rename_i h2
   rw [if_pos (by omega),show i'*k+q - (i'*k+j)=q - j from by omega]
   obtain ⟨u,hu⟩:∃ u,vals[q - j]?=some u:=⟨vals[q - j]'(by omega),List.getElem?_eq_getElem _⟩
   obtain ⟨h3,h4⟩:=hx _ _ _ hq hu
   exact ⟨u,hu,h3,h4⟩
  ·rw [if_neg (by omega)]
   exact (hr i' row hi).2 q c hq
 ·rw [List.getElem?_set_ne (fun x=>e x.symm)] at hi'
  obtain ⟨h2,h3⟩:=hr i' row' hi'
  refine ⟨h2,fun q c hq => ?_⟩
  have hql:=(List.getElem?_eq_some_iff.1 hq).1
  rw [dY hov,if_neg]
  ·exact h3 q c hq
  ·intro h4
   rcases Nat.lt_or_gt_of_ne e with h5 | h5
   ·have h6:(i'+1)*k≤i*k:=Nat.mul_le_mul_right k h5
    rw [Nat.add_mul,Nat.one_mul] at h6
    omega
   ·have h6:(i+1)*k≤i'*k:=Nat.mul_le_mul_right k h5
    rw [Nat.add_mul,Nat.one_mul] at h6
    omega
theorem wrA (r:Rel w X ρ h) {id k i j:Nat} {rows:List (List AV)} {row xs:List AV} (e:h id = .ar k rows) {us:Array Value} {t:TypeId} (hb:w.heap[(ρ id none).1]?=some (.cells us t (0,0))) {vals:List Value} (hlen:vals.length=xs.length)
  (hx:∀ (m:Nat) (c:AV) (u:Value),xs[m]?=some c→vals[m]?=some u→RD w (aE w X h ρ) c u∧aA c=true) (hi:rows[i]?=some row) (hj:j+xs.length≤row.length) :
  Rel (w.setRow (ρ id none).1 (bO us (i*k+j) vals)) X ρ (upd h id (.ar k (rows.set i (setRow row j xs))))∧Evo w ρ h (w.setRow (ρ id none).1 (bO us (i*k+j) vals)) ρ (upd h id (.ar k (rows.set i (setRow row j xs)))) []∧i*k+j+vals.length≤us.size:=by
 have hln:live h id none:=by simp [live,e]
 have ho:=r.ob id
 rw [e] at ho
 obtain ⟨us0,t0,g1,g2,g3,g4⟩:=ho
 rw [hb] at g1
 cases g1
 have hlive:∀ s,live (upd h id (.ar k (rows.set i (setRow row j xs)))) id s→live h id s:=by
  intro s h1
  cases s with
  | none=>exact hln
  | some q=>obtain ⟨_,_,_,h2,_⟩:=h1; rw [av] at h2; cases h2
 have ev:Evo w ρ h (w.setRow (ρ id none).1 (bO us (i*k+j) vals)) ρ (upd h id (.ar k (rows.set i (setRow row j xs)))) [] :=
  tj (X:=X) r hln _ hlive (fun s hp _=>by
   cases s with
   | none=>simp [bA,av]
   | some q=>obtain ⟨_,_,_,h2,_⟩:=hp; rw [e] at h2; cases h2) (fun hbf=>by rw [e] at hbf; cases hbf)
 obtain ⟨f1,f2⟩:=wk (g4.mono fun b hb=>ev.al hb) g3 hi hj hlen (fun m c u hc hu=>⟨ev.rd (hx m c u hc hu).1,(hx m c u hc hu).2⟩)
 exact ⟨px r hln _ hlive ev ⟨_,t,setRow_heap w _ us _ t _ hb,by rw [cx f2]; exact g2,by rw [cx f2,List.length_set]; exact g3,f1⟩,ev,f2⟩
theorem wrS (r:Rel w X ρ h) {id p k i j:Nat} {cs:List AV} {rows:List (List AV)} {row xs:List AV} (e:h id = .bx cs) (ep:cs[p]?=some (.osl k rows)) {us:Array Value} {t:TypeId} (hb:w.heap[(ρ id (some p)).1]?=some (.cells us t (0,0)))
  {vals:List Value} (hlen:vals.length=xs.length) (hx:∀ (m:Nat) (c:AV) (u:Value),xs[m]?=some c→vals[m]?=some u→RD w (aE w X h ρ) c u∧aA c=true) (hi:rows[i]?=some row) (hj:j+xs.length≤row.length) :
  Rel (w.setRow (ρ id (some p)).1 (bO us (i*k+j) vals)) X ρ (upd h id (.bx (cs.set p (.osl k (rows.set i (setRow row j xs))))))∧Evo w ρ h (w.setRow (ρ id (some p)).1 (bO us (i*k+j) vals)) ρ (upd h id (.bx (cs.set p (.osl k (rows.set i (setRow row j xs)))))) [] ∧
   i*k+j+vals.length≤us.size:=by
 have hlp:live h id (some p):=⟨cs,k,rows,e,ep⟩
 have hln:live h id none:=by simp [live,e]
 have hpl:p < cs.length:=(List.getElem?_eq_some_iff.1 ep).1
 obtain ⟨us0,t0,g1,g2,g3,g4⟩:=r.cell e
 obtain ⟨u0,q1,a,cap,us1,t1,rfl,q2,q3,q4,q5,q6,q7⟩:=g4 p _ ep
 rw [hb] at q4
 cases q4
 have hlive:∀ s,live (upd h id (.bx (cs.set p (.osl k (rows.set i (setRow row j xs)))))) id s→live h id s:=by
  intro s h1
  cases s with
  | none=>exact hln
  | some q =>
   by_cases hq:q=p
   ·subst hq; exact hlp
   ·obtain ⟨cs',k',rows',h2,h3⟩:=h1
    rw [av] at h2
    cases h2
    rw [List.getElem?_set_ne (fun e=>hq e.symm)] at h3
    exact ⟨cs,k',rows',e,h3⟩
 have ev:Evo w ρ h (w.setRow (ρ id (some p)).1 (bO us (i*k+j) vals)) ρ (upd h id (.bx (cs.set p (.osl k (rows.set i (setRow row j xs)))))) [] :=
  tj (X:=X) r hlp _ hlive (fun s hp _=>by
   cases s with
   | none=>simp [bA,av]
   | some q =>
    by_cases hq:q=p
    ·subst hq; exact ⟨_,k,_,av _ _ _,List.getElem?_set_self hpl⟩
    ·obtain ⟨cs',k',rows',h2,h3⟩:=hp
     rw [e] at h2
     cases h2
     exact ⟨_,k',rows',av _ _ _,by rw [List.getElem?_set_ne (fun e=>hq e.symm)]; exact h3⟩) (fun _=>rfl)
 obtain ⟨f1,f2⟩:=wk (q7.mono fun b hb=>ev.al hb) (Nat.le_trans (Nat.mul_le_mul_right k q3) q6) hi hj hlen (fun m c u hc hu=>⟨ev.rd (hx m c u hc hu).1,(hx m c u hc hu).2⟩)
 refine ⟨px r hlp _ hlive ev ?_,ev,f2⟩
 have oth:∀ s,live h id s→s ≠ some p→(w.setRow (ρ id (some p)).1 (bO us (i*k+j) vals)).heap[(ρ id s).1]?=w.heap[(ρ id s).1]?:=fun s h1 h2=>setRow_other w _ _ _ fun e2=>h2 (r.inj id s id (some p) h1 hlp e2).2
 refine ⟨us0,t0,by rw [oth none hln (by simp)]; exact g1,g2,by rw [List.length_set]; exact g3,fun q c hq => ?_⟩
 by_cases hqp:q=p
 ·subst hqp
  rw [List.getElem?_set_self hpl] at hq
  cases hq
  exact ⟨_,q1,a,cap,_,t,by rw [List.length_set],q2,by rw [List.length_set]; exact q3,setRow_heap w _ us _ t _ hb,by rw [cx f2]; exact q5,by rw [cx f2]; exact q6,f1⟩
 ·rw [List.getElem?_set_ne (fun e=>hqp e.symm)] at hq
  obtain ⟨u,f3,f4⟩:=g4 q c hq
  refine ⟨u,f3,f4.keep (fun b hb=>ev.al hb) ev.boxes rfl (fun hO => ?_)⟩
  cases c <;> simp [aO] at hO
  exact oth (some q) ⟨cs,_,_,e,hq⟩ (by simp [hqp])
end
section
variable {P:Program} {w w':World} {X:Nat→Prop} {ρ ρ':bd} {h h':ac} {A A':Nat→Prop}
theorem Cells.toList {cs:List AV} {us:Array Value} (hc:Cells w A ρ h cs us):us.toList.length=cs.length∧(∀ u ∈ us.toList,u.oneCell'=true) ∧
  ∀ (m:Nat) (c:AV) (u:Value),cs[m]?=some c→us.toList[m]?=some u→RV w A ρ h c u∧u.oneCell'=true:=by
 refine ⟨by simpa using hc.1,fun u hu => ?_,fun m c u h1 h2 => ?_⟩
 ·obtain ⟨i,hi⟩:=List.getElem?_of_mem hu
  exact hc.2.1 i u (by simpa using hi)
 ·exact ⟨hc.2.2 m c u h1 (by simpa using h2),hc.2.1 m u (by simpa using h2)⟩
theorem uh {A0:Nat→Prop} {h0:ac} {cs ds:List AV} {us:Array Value} {ks:K} (r:Rel w X ρ h) (hA:∀ b,A0 b→aE w X h ρ b) (hc:Cells w A0 ρ h0 cs us) (he:dC h cs=some (ds,h',ks)) :
  Rel w X ρ h'∧Evo w ρ h w ρ h' ks∧ds.length=cs.length∧∀ (m:Nat) (c:AV) (u:Value),ds[m]?=some c→us.toList[m]?=some u→RD w (aE w X h' ρ) c u∧aA c=true:=by
 obtain ⟨f1,f2,f3,f4,f5⟩:=sA cs (us:=us) 0 r hA (fun i c u h1 h2=>⟨hc.2.2 i c u h1 (by simpa using h2),hc.2.1 i u (by simpa using h2)⟩) (by rw [hc.1]; omega) he
 exact ⟨f1,f2,f3,fun m c u h1 h2=>⟨f5 m c u h1 (by simpa using h2),f4 c (List.mem_of_getElem? h1)⟩⟩
theorem EI {k k0 i j k':Nat} {xs:List AV} {rows q:List (List AV)} (hs:zo k k0 i j xs k' rows=some q):k'=k0∧∃ row,rows[i]?=some row∧j+k≤row.length∧q=rows.set i (setRow row j xs):=by
 unfold zo at hs
 split at hs
 ·rename_i e
  simp only [Option.bind_eq_some_iff] at hs
  obtain ⟨row,h1,h2⟩:=hs
  split at h2
  ·cases h2; exact ⟨e,row,h1,by assumption,rfl⟩
  ·cases h2
 ·cases hs
theorem Ht (r:Rel w X ρ h) {ty:TypeId} {k:Nat} (hk:a9 P ty=some k) {a x z:AV} {ua ux:Value} {ks:K} (ha:RV w (aE w X h ρ) ρ h a ua) (hx:RV w (aE w X h ρ) ρ h x ux) (hz:fD h k a x=some (z,h',ks)) :
  ∃ ad w' ρ',z = .und∧ua = .pointer (some ad)∧(storeVar ty ad ux).run P w = .ok () w'∧Rel w' X ρ' h'∧Evo w ρ h w' ρ' h' ks:=by
 simp only [fD,Option.bind_eq_some_iff] at hz
 obtain ⟨xs,e0,hz⟩:=hz
 have hc:=pg hx e0
 obtain ⟨c1,c2,c3⟩:=hc.toList
 split at hz
 ·rename_i hlen
  subst hlen
  have hsz:ux.cells.size=xs.length:=hc.1
  cases a with
  | ref id sub k0 i j =>
   obtain ⟨rfl,hp⟩:=ha.ref_inv
   cases sub with
   | none =>
    simp only at hz
    cases e:h id with
    | bx cs =>
     rw [e] at hz
     simp only [sx,CR] at hz
     split at hz
     ·rename_i hle
      obtain ⟨us,t,g1,g2,g3,g4⟩:=r.cell e
      have run:=lQ hk hsz c2 g1 (o:=i*k0+j) (by omega)
      split at hz
      ·rename_i hd
       simp only [Option.some.injEq,Prod.mk.injEq] at hz
       obtain ⟨hzu,rfl,rfl⟩:=hz
       obtain ⟨f1,f2⟩:=wrB r e g1 c1 (fun m c u h1 h2=>by
        have hdc:aA c=true:=List.all_eq_true.1 hd c (List.mem_of_getElem? h1)
        obtain ⟨q1,q2⟩:=c3 m c u h1 h2
        exact ⟨CX hdc,q1,q2,nt hdc⟩) hle
       exact ⟨_,_,ρ,hzu.symm,rfl,run,f1,f2⟩
      ·simp only [Option.map_eq_some_iff,Prod.mk.injEq] at hz
       obtain ⟨⟨h2,k2⟩,e2,hzu,rfl,rfl⟩:=hz
       obtain ⟨ρ',f1,f2,_⟩:=rg xs.length xs ux.cells.toList (i*k0+j) r e g1 c1 c3 (by omega) e2
       exact ⟨_,_,ρ',hzu.symm,rfl,run,f1,f2⟩
     ·cases hz
    | ar k' rows =>
     rw [e] at hz
     simp only [sx,Option.bind_eq_some_iff] at hz
     obtain ⟨⟨ds,h1,k1⟩,e1,hz⟩:=hz
     obtain ⟨f1,f2,f3,f4⟩:=uh r (fun _ hb=>hb) hc e1
     simp only at hz
     cases e2:h1 id <;> rw [e2] at hz <;> simp only [CS] at hz <;> try (cases hz; done)
     rename_i k2 rows2
     simp only [Option.map_eq_some_iff,Prod.mk.injEq] at hz
     obtain ⟨q,e3,hzu,rfl,rfl⟩:=hz
     obtain ⟨rfl,row,g1,g2,rfl⟩:=EI e3
     have ho:=f1.ob id
     rw [e2] at ho
     obtain ⟨us,t,q1,q2,q3,q4⟩:=ho
     obtain ⟨w1,w2,w3⟩:=wrA f1 e2 q1 (by rw [f3]; exact c1) f4 g1 (by rw [f3]; exact g2)
     have run:=lQ hk hsz c2 q1 (o:=i*k2+j) (by rw [c1] at w3; exact w3)
     exact ⟨_,_,ρ,hzu.symm,rfl,run,w1,by simpa using f2.trans w2⟩
    | _=>rw [e] at hz; cases hz
   | some p =>
    simp only [Option.bind_eq_some_iff] at hz
    obtain ⟨⟨ds,h1,k1⟩,e1,hz⟩:=hz
    obtain ⟨f1,f2,f3,f4⟩:=uh r (fun _ hb=>hb) hc e1
    simp only at hz
    cases e2:h1 id <;> rw [e2] at hz <;> simp only [A8] at hz <;> try (cases hz; done)
    rename_i cs
    cases e3:cs[p]? with
    | none=>rw [e3] at hz; cases hz
    | some c =>
     rw [e3] at hz
     cases c <;> simp only [ML] at hz <;> try (cases hz; done)
     rename_i k2 rows2
     simp only [Option.map_eq_some_iff,Prod.mk.injEq] at hz
     obtain ⟨q,e4,hzu,rfl,rfl⟩:=hz
     obtain ⟨rfl,row,g1,g2,rfl⟩:=EI e4
     obtain ⟨us,t,q1,q2⟩:=f1.live_heap (id:=id) (sub:=some p) ⟨cs,k2,rows2,e2,e3⟩
     obtain ⟨w1,w2,w3⟩:=wrS f1 e2 e3 q1 (by rw [f3]; exact c1) f4 g1 (by rw [f3]; exact g2)
     have run:=lQ hk hsz c2 q1 (o:=i*k2+j) (by rw [c1] at w3; exact w3)
     exact ⟨_,_,ρ,hzu.symm,rfl,run,w1,by simpa using f2.trans w2⟩
  | _=>cases hz
 ·cases hz
theorem Pj {h2:ac} {d:Nat} {b:Nat × Nat} {w2:World} (hd:h2 d ≠ .dead) (hρ:ρ d none=b):RV w2 (aE w2 X h2 ρ) ρ h2 (.ref d none 0 0 0) (.pointer (some ⟨b.1,0,none⟩)):=by
 have:=RV.ref (w:=w2) (A:=aE w2 X h2 ρ) (ρ:=ρ) (h:=h2) d none 0 0 0 hd
 rw [hρ] at this
 simpa using this
theorem Pk {h2:ac} {d k n cap:Nat} {b:Nat × Nat} {w2:World} (hd:h2 d ≠ .dead) (hρ:ρ d none=b) (hn:n≤cap) (hb:cap*k≤b.2):RV w2 (aE w2 X h2 ρ) ρ h2 (.rsl d none k 0 n) (.slice (some ⟨b.1,0,none⟩) n cap) :=
 .rsl d none k 0 n cap _ hd hn (by rw [hρ]; simpa using hb) (.inr (by rw [hρ]; simp))
theorem M2 {t:TypeId} {k:Nat} (r:Rel w X ρ h) {d:Nat} (hdp:aQ d=false) {x z:AV} {u:Value} {ks:K} (hx:RV w (aE w X h ρ) ρ h x u) (hn:q8 h d k x=some (z,h',ks)) :
  ∃ v w',(Instr.box t u).run P w = .ok v w'∧Got w X ρ h w' h' ks z v:=by
 simp only [q8,Option.bind_eq_some_iff] at hn
 obtain ⟨xs,e0,hn⟩:=hn
 have hc:=pg hx e0
 obtain ⟨c1,c2,c3⟩:=hc.toList
 split at hn
 ·rename_i hlen
  refine ⟨.pointer (some ⟨w.heap.size,0,none⟩),w.alloc (.cells u.cells t),by simp [Instr.box,newVar,newRow],?_⟩
  split at hn
  ·rename_i hd
   obtain ⟨h1,rfl,rfl,rfl⟩:=i7 hn
   obtain ⟨g6,g7⟩:=pv (e:=t) r hdp h1 (EH hc hd)
   exact ⟨_,g6,g7,Pj (by rw [av]; exact fun e=>by cases e) (bt _ _ _ _)⟩
  ·simp only [Option.bind_eq_some_iff] at hn
   obtain ⟨⟨z1,h1,k1⟩,e1,hn⟩:=hn
   obtain ⟨hd,rfl,rfl,rfl⟩:=i7 e1
   simp only [RQ,Option.map_eq_some_iff,Prod.mk.injEq] at hn
   obtain ⟨⟨h2,k2⟩,e2,rfl,rfl,rfl⟩:=hn
   have hok:MZ w (aE w X h ρ) ρ h u.cells (.bx (List.replicate k .any)):=by
    refine ⟨by rw [List.length_replicate,← hlen,← c1]; simp,fun p c hp => ?_⟩
    obtain ⟨hp1,hp2⟩:=List.getElem?_eq_some_iff.1 hp
    simp only [List.length_replicate] at hp1
    rw [List.getElem_replicate] at hp2
    subst hp2
    have hsz:u.cells.size=xs.length:=hc.1
    obtain ⟨v,hv⟩:∃ v,u.cells[p]?=some v:=⟨u.cells[p]'(by omega),Array.getElem?_eq_getElem _⟩
    exact ⟨rfl,v,hv,.anyv v,hc.2.1 p v hv,trivial⟩
   obtain ⟨g6,g7⟩:=pv (e:=t) r hdp hd hok
   have hb1:(w.alloc (.cells u.cells t)).heap[(i6 ρ d none (w.heap.size,u.cells.size) d none).1]?=some (.cells u.cells t (0,0)):=by rw [bt]; exact nw w _
   obtain ⟨ρ',q1,q2,q3,cs',q4⟩:=rg xs.length xs u.cells.toList 0 g6 (av _ _ _) hb1 c1 (fun m c v h1 h2=>⟨g7.rv (c3 m c v h1 h2).1,(c3 m c v h1 h2).2⟩) (by simp) e2
   rw [m5 (by simp) (fun j v hv=>by simpa using hv),setRow_self _ _ _ t (0,0) hb1] at q1 q2
   exact ⟨ρ',q1,g7.trans q2,Pj (b:=(w.heap.size,u.cells.size)) (by show h2 d ≠ _; rw [q4]; exact fun e=>by cases e) (by rw [q3,bt])⟩
 ·cases hn
theorem Pm (off:Nat) (vs us:Array Value) (hle:off+vs.size≤us.size):vs.zipIdx.foldl (fun cs (c,j)=>cs.setIfInBounds (off+j) c) us=bO us off vs.toList:=by
 have fold:∀ (l:List Value) (k:Nat) (us:Array Value),((l.zipIdx k).foldl (fun cs (x:Value × Nat)=>cs.setIfInBounds (off+x.2) x.1) us).size=us.size ∧
   ∀ (i:Nat),off+k+l.length≤us.size→((l.zipIdx k).foldl (fun cs (x:Value × Nat)=>cs.setIfInBounds (off+x.2) x.1) us)[i]?=if off+k≤i∧i < off+k+l.length then l[i - (off+k)]? else us[i]?:=by
  intro l
  induction l with
  | nil=>intro k us; exact ⟨by simp,fun i _=>by simp; omega⟩
  | cons v l ih =>
   intro k us
   simp only [List.zipIdx_cons,List.foldl_cons]
   obtain ⟨h1,h2⟩:=ih (k+1) (us.setIfInBounds (off+k) v)
   refine ⟨by rw [h1]; simp,fun i hle => ?_⟩
   simp only [List.length_cons] at hle ⊢
   rw [h2 i (by simp; omega)]
   by_cases e1:i=off+k
   ·subst e1
    rw [if_neg (by omega),if_pos (by omega)]
    simp [show off+k < us.size from by omega]
   ·by_cases e2:off+(k+1)≤i∧i < off+(k+1)+l.length
    ·rw [if_pos e2,if_pos (by omega),show i - (off+k)=(i - (off+(k+1)))+1 from by omega]; rfl
    ·rw [if_neg e2,if_neg (by omega),Array.getElem?_setIfInBounds_ne (by omega)]
 have e:vs.zipIdx.foldl (fun cs (c,j)=>cs.setIfInBounds (off+j) c) us=(vs.toList.zipIdx 0).foldl (fun cs (x:Value × Nat)=>cs.setIfInBounds (off+x.2) x.1) us:=by
  rw [← Array.foldl_toList,Array.toList_zipIdx]
 rw [e]
 obtain ⟨h1,h2⟩:=fold vs.toList 0 us
 apply Array.ext_getElem?
 intro i
 have hl:vs.toList.length=vs.size:=Array.length_toList
 rw [h2 i (by rw [hl]; omega),dY (by rw [hl]; omega)]
 rfl
theorem M3 {row xs:List AV} (hl:xs.length=row.length):setRow row 0 xs=xs:=by
 apply List.ext_getElem?
 intro i
 rw [kY i xs row 0 (by omega)]
 split
 ·rfl
 ·rw [List.getElem?_eq_none (by omega),List.getElem?_eq_none (by omega)]
theorem tk {k:Nat} {A0:Nat→Prop} {h0:ac}:∀ (ps:List (Nat × AV)) (vs:List (Nat × Value)) {h h':ac} {rows rows':List (List AV)} {us:Array Value} {ks:K},Rel w X ρ h→(∀ b,A0 b→aE w X h ρ b)→vs.length=ps.length →
  (∀ (m:Nat) (p:Nat × AV) (v:Nat × Value),ps[m]?=some p→vs[m]?=some v→v.1=p.1∧RV w A0 ρ h0 p.2 v.2)→bI w (aE w X h ρ) k rows us→rows.length*k≤us.size→cM k h rows ps=some (rows',h',ks) →
  ∃ us',Instr.fill (fun i=>some (i*k,k)) us vs=some us'∧us'.size=us.size∧rows'.length=rows.length∧bI w (aE w X h' ρ) k rows' us'∧Rel w X ρ h'∧Evo w ρ h w ρ h' ks
 | [],vs,h,h',rows,rows',us,ks,r,hA,hl,hv,hr,hs,hp=>by
  have:vs=[]:=List.eq_nil_of_length_eq_zero (by simpa using hl)
  subst this
  simp only [cM,Option.some.injEq,Prod.mk.injEq] at hp
  obtain ⟨rfl,rfl,rfl⟩:=hp
  exact ⟨us,rfl,rfl,rfl,hr,r,.refl _ _ _⟩
 | p::ps,[],h,h',rows,rows',us,ks,r,hA,hl,hv,hr,hs,hp=>by simp at hl
 | (i,a)::ps,(i',v)::vs,h,h',rows,rows',us,ks,r,hA,hl,hv,hr,hs,hp=>by
  simp only [cM,Option.bind_eq_some_iff] at hp
  obtain ⟨cs,e0,hp⟩:=hp
  obtain ⟨hv1,hv2⟩:=hv 0 (i,a) (i',v) rfl rfl
  simp only at hv1 hv2
  subst hv1
  have hc:=pg hv2 e0
  split at hp
  ·rename_i hcond
   obtain ⟨hck,hi⟩:=hcond
   simp only [Option.bind_eq_some_iff] at hp
   obtain ⟨⟨ds,h1,k1⟩,e1,⟨rows2,h2,k2⟩,e2,e3⟩:=hp
   cases e3
   obtain ⟨f1,f2,f3,f4⟩:=uh r hA hc e1
   obtain ⟨row,hrow⟩:∃ row,rows[i']?=some row:=⟨rows[i'],List.getElem?_eq_getElem hi⟩
   have hrl:=(hr i' row hrow).1
   have hcs:v.cells.toList.length=ds.length:=by rw [f3]; simpa using hc.1
   obtain ⟨g1,g2⟩:=wk (hr.mono (w':=w) fun b hb=>f2.al hb) hs hrow (j:=0) (xs:=ds) (vals:=v.cells.toList) (by omega) hcs f4
   rw [M3 (by omega),Nat.add_zero] at g1
   rw [Nat.add_zero] at g2
   have hsz:v.cells.size=k:=by rw [hc.1,hck]
   obtain ⟨us',q1,q2,q3,q4,q5,q6⟩:=tk ps vs (us:=bO us (i'*k) v.cells.toList) f1 (fun b hb=>(f2.al (hA b hb)).1) (by simpa using hl) (fun m p q h1 h2=>hv (m+1) p q (by simpa using h1) (by simpa using h2)) g1
    (by rw [cx g2,List.length_set]; exact hs) e2
   refine ⟨us',?_,by rw [q2,cx g2],by rw [q3,List.length_set],q4,q5,f2.trans q6⟩
   simp only [Instr.fill]
   have hle:i'*k+v.cells.size≤us.size:=by simpa using g2
   rw [if_neg (by simp; omega),Pm (i'*k) v.cells us hle]
   exact q1
  ·cases hp
end
section
variable {P:Program} {w w':World} {X:Nat→Prop} {ρ ρ':bd} {h h':ac} {A A':Nat→Prop}
theorem ny {t e:TypeId} (he:qv P t=some e):P.underlying t=some (.slice e):=by
 unfold qv at he
 split at he
 ·cases he; assumption
 ·cases he
theorem EJ {e:TypeId} {k:Nat} {zs:List AV} (hk:a9 P e=some k) (hz:iZ P e=some zs) (n c:Nat) (hn:n≤c):∃ zv:Value,(∀ w,(zeroValue e).run P w = .ok zv w) ∧
  ((Array.range (c*k)).map (zv.cells[· % zv.cells.size]!)).size=c*k∧(List.replicate n zs).length*k≤((Array.range (c*k)).map (zv.cells[· % zv.cells.size]!)).size∧bI w A k (List.replicate n zs) ((Array.range (c*k)).map (zv.cells[· % zv.cells.size]!)):=by
 obtain ⟨i,z,g1,g2,g3,g4,g5⟩:=nu (w:=w) (A:=A) (ρ:=fun _ _=>(0,0)) (h:=fun _ => .dead) hz
 have hik:i.size=k:=by simpa [a9,g1] using hk
 refine ⟨z,TW g1 g2,by simp,?_,fun q row hq => ?_⟩
 ·simp only [List.length_replicate,Array.size_map,Array.size_range]
  exact Nat.mul_le_mul_right k hn
 ·obtain ⟨h1,h2⟩:=List.getElem?_eq_some_iff.1 hq
  simp only [List.length_replicate] at h1
  rw [List.getElem_replicate] at h2
  subst h2
  refine ⟨by omega,fun j c2 hj => ?_⟩
  have hjl:=(List.getElem?_eq_some_iff.1 hj).1
  have hjk:j < k:=by omega
  have hzl:j < z.cells.size:=by omega
  have hlt:q*k+j < c*k:=by
   have:(q+1)*k≤c*k:=Nat.mul_le_mul_right k (by omega)
   rw [Nat.add_mul,Nat.one_mul] at this
   omega
  have hd:aA c2=true:=List.all_eq_true.1 (Hr hz) c2 (List.mem_of_getElem? hj)
  refine ⟨z.cells[j],?_,(g5.2.2 j c2 _ hj (Array.getElem?_eq_getElem hzl)).toD hd (g5.2.1 j _ (Array.getElem?_eq_getElem hzl)),hd⟩
  rw [Array.getElem?_map,Array.getElem?_range,if_pos hlt]
  simp only [Option.map_some]
  have hm:(q*k+j) % z.cells.size=j:=by rw [g3,hik,Nat.mul_comm,Nat.mul_add_mod,Nat.mod_eq_of_lt hjk]
  rw [hm,getElem!_pos z.cells j hzl]
theorem p7 (r:Rel w X ρ h) {d k n cap:Nat} (hdp:aQ d=false) {rows:List (List AV)} {us:Array Value} {t:TypeId} {x:AV} {ks ks':K} (hr:bI w (aE w X h ρ) k rows us) (hs:rows.length*k≤us.size) (hn:n≤cap) (hc:cap*k≤us.size)
  (hz:dt h d k rows n ks=some (x,h',ks')):ks'=ks∧∃ ρ',Rel (w.alloc (.cells us t)) X ρ' h'∧Evo w ρ h (w.alloc (.cells us t)) ρ' h' []∧RV (w.alloc (.cells us t)) (aE (w.alloc (.cells us t)) X h' ρ') ρ' h' x (.slice (some ⟨w.heap.size,0,none⟩) n cap):=by
 obtain ⟨hd,rfl,rfl,rfl⟩:=i7 hz
 obtain ⟨g1,g2⟩:=pv (e:=t) r hdp hd (us:=us) (o := .ar k rows) ⟨hs,hr⟩
 exact ⟨rfl,_,g1,g2,Pk (b:=(w.heap.size,us.size)) (by rw [av]; exact fun e=>by cases e) (bt _ _ _ _) hn hc⟩
theorem FG (r:Rel w X ρ h) {t e:TypeId} {k n d:Nat} (hdp:aQ d=false) {zs:List AV} {ps:List (Nat × AV)} {vs:Array (Nat × Value)} {z:AV} {ks:K} (he:qv P t=some e) (hk:a9 P e=some k) (hz:iZ P e=some zs) (hn:n*k≤16777216)
  (hl:vs.size=ps.length) (hv:∀ (m:Nat) (p:Nat × AV) (v:Nat × Value),ps[m]?=some p→vs[m]?=some v→v.1=p.1∧RV w (aE w X h ρ) ρ h p.2 v.2)
  (hr:((cM k h (List.replicate n zs) ps).bind fun q=>dt q.2.1 d k q.1 n q.2.2)=some (z,h',ks)):∃ v w',(Instr.buildSlice t n vs).run P w = .ok v w'∧Got w X ρ h w' h' ks z v:=by
 simp only [Option.bind_eq_some_iff] at hr
 obtain ⟨⟨rows,h1,k1⟩,e1,e2⟩:=hr
 obtain ⟨zv,z1,z2,z3,z4⟩:=EJ (w:=w) (A:=aE w X h ρ) hk hz n n (Nat.le_refl n)
 obtain ⟨us',f1,f2,f3,f4,f5,f6⟩:=tk ps vs.toList r (fun _ hb=>hb) (by simpa using hl) (fun m p v h1 h2=>hv m p v h1 (by simpa using h2)) z4 z3 e1
 have hlen:(List.replicate n zs).length=n:=List.length_replicate
 obtain ⟨rfl,ρ',g1,g2,g3⟩:=p7 (t:=e) (cap:=n) f5 hdp f4 (by rw [f3,f2]; exact z3) (Nat.le_refl n) (by rw [f2,z2]; exact Nat.le_refl _) e2
 refine ⟨.slice (some ⟨w.heap.size,0,none⟩) n n,w.alloc (.cells us' e),?_,ρ',g1,by simpa using f6.trans g2,g3⟩
 have hnk : ¬ (n*k > 2 ^ 24):=by omega
 have harr:(Array.range (n*k)).map ((if n*k=0 then #[] else zv.cells)[· % (if n*k=0 then #[] else zv.cells).size]!)=(Array.range (n*k)).map (zv.cells[· % zv.cells.size]!):=by
  by_cases h9:n*k=0
  ·rw [h9]; simp
  ·rw [if_neg h9]
 simp only [Instr.buildSlice,Sem.run_bind,run_underlying (ny he),Result.andThen,dg hk,if_neg hnk]
 by_cases h9:n*k=0
 ·rw [if_pos h9] at harr ⊢
  simp only [Sem.run_bind,Sem.run_pure,Result.andThen]
  rw [harr,f1]
  simp [newRow]
 ·rw [if_neg h9]
  simp only [Sem.run_bind,Sem.run_pure,Result.andThen,z1]
  rw [f1]
  simp [newRow]
theorem M4 (r:Rel w X ρ h) {t e:TypeId} {k b d:Nat} (hdp:aQ d=false) {zs:List AV} {l c z:AV} {ul uc:Value} {ks:K} (he:qv P t=some e) (hk:a9 P e=some k) (hb:pu P e=some b) (hz:iZ P e=some zs)
  (hl:RV w (aE w X h ρ) ρ h l ul) (hc:RV w (aE w X h ρ) ρ h c uc)
  (hr:((tT l c).bind fun p=>if p.2*b≤140737488355328 then dt h d k (List.replicate p.1 zs) p.1 [] else none)=some (z,h',ks)):∃ v w',(Instr.makeSlice t ul uc).run P w = .ok v w'∧Got w X ρ h w' h' ks z v:=by
 simp only [Option.bind_eq_some_iff] at hr
 obtain ⟨⟨ln,cn⟩,e1,e2⟩:=hr
 simp only at e2
 split at e2
 ·rename_i hbytes
  unfold tT at e1
  split at e1
  ·rename_i li ci
   obtain ⟨rfl,_⟩:=hl.v_inv
   obtain ⟨rfl,_⟩:=hc.v_inv
   split at e1
   ·rename_i hcond
    simp only [Option.some.injEq,Prod.mk.injEq] at e1
    obtain ⟨rfl,rfl⟩:=e1
    obtain ⟨hl0,hlc,hc9⟩:=hcond
    obtain ⟨zv,z1,z2,z3,z4⟩:=EJ (w:=w) (A:=aE w X h ρ) hk hz li.toNat ci.toNat (by omega)
    obtain ⟨rfl,ρ',g1,g2,g3⟩:=p7 (t:=e) (cap:=ci.toNat) r hdp z4 z3 (by omega) (by rw [z2]; exact Nat.le_refl _) e2
    refine ⟨_,w.alloc (.cells ((Array.range (ci.toNat*k)).map (zv.cells[· % zv.cells.size]!)) e),?_,ρ',g1,g2,g3⟩
    obtain ⟨i,hi,hib⟩:∃ i,P.info? e=some i∧i.bytes=b:=by simpa [pu] using hb
    have harr:(Array.range (ci.toNat*k)).map ((if ci.toNat*k=0 then #[] else zv.cells)[· % (if ci.toNat*k=0 then #[] else zv.cells).size]!)=(Array.range (ci.toNat*k)).map (zv.cells[· % zv.cells.size]!):=by
     by_cases h9:ci.toNat*k=0
     ·rw [h9]; simp
     ·rw [if_neg h9]
    have hwl:IntKind.i64.wrap li=li:=by simp [IntKind.wrap,IntKind.signed,IntKind.bits]; omega
    have hwc:IntKind.i64.wrap ci=ci:=by simp [IntKind.wrap,IntKind.signed,IntKind.bits]; omega
    have hti:(typeInfo e).run P w = .ok i w:=by simp [typeInfo,hi]
    have hbig : ¬ ((b:Int)*ci > 2 ^ 48):=by
     have h8:=Int.ofNat_le.2 hbytes
     rw [Int.natCast_mul,Int.toNat_of_nonneg (by omega),Int.mul_comm] at h8
     omega
    have hli:∀ n,(asInt (.int .i64 n)).run P w = .ok n w:=fun _=>rfl
    simp only [Instr.makeSlice,Sem.run_bind,run_underlying (ny he),Result.andThen,hli,hti,hib,hwl,hwc]
    rw [if_neg (by simp only [Bool.or_eq_true,decide_eq_true_eq,not_or]; exact ⟨⟨⟨by omega,hbig⟩,by omega⟩,by omega⟩)]
    simp only [Sem.run_bind,run_askRoom,Result.andThen,dg hk]
    by_cases h9:ci.toNat*k=0
    ·rw [if_pos h9] at harr ⊢
     simp only [Sem.run_bind,Sem.run_pure,Result.andThen]
     rw [harr]
     simp [newRow]
    ·rw [if_neg h9]
     simp only [Sem.run_bind,Sem.run_pure,Result.andThen,z1]
     simp [newRow]
   ·cases e1
  ·cases e1
 ·cases e2
end
section
variable {P:Program} {w w':World} {X:Nat→Prop} {ρ ρ':bd} {h h':ac} {A A':Nat→Prop}
theorem Bg (r:Rel w X ρ h):Rel w.drew X ρ h∧Evo w ρ h w.drew ρ h []:=by
 have ev:Evo w ρ h w.drew ρ h []:=⟨rfl,rfl,rfl,Nat.le_refl _,fun _ _ _=>rfl,fun _ _ hp _=>⟨hp,rfl⟩,fun _ ho => .inl ho,fun _ hb=>⟨hb,rfl⟩,fun _ _ hd=>⟨hd,rfl⟩⟩
 exact ⟨r.step ev (fun _=>False) (fun _ _=>⟨rfl,fun _=>rfl,fun _ _=>rfl⟩) r.inj r.nx (fun _ hf=>hf.elim),ev⟩
theorem Bh {k:Nat} {rows:List (List AV)} {ad:Addr} (hk:∀ row ∈ rows,row.length=k) (h0:0 < k)
  (hc:∀ (i:Nat) (row:List AV) (j:Nat) (c:AV),rows[i]?=some row→row[j]?=some c→∃ u,w.cell? (ad.add (i*k+j))=some u∧RD w A c u∧aA c=true) :
  ∃ news:List Value,news.length=rows.length*k∧(∀ (q:Nat) (v:Value),news[q]?=some v→w.cell? (ad.add q)=some v)∧bI w A k rows news.toArray:=by
 have all:∀ q,q < rows.length*k→∃ row c,rows[q / k]?=some row∧row[q % k]?=some c:=by
  intro q hq
  have h1:q / k < rows.length:=Nat.div_lt_of_lt_mul (by rw [Nat.mul_comm]; exact hq)
  have h2:q % k < k:=Nat.mod_lt _ h0
  refine ⟨rows[q / k],(rows[q / k])[q % k]'(by rw [hk _ (List.getElem_mem h1)]; exact h2),List.getElem?_eq_getElem h1,List.getElem?_eq_getElem _⟩
 refine ⟨(List.range (rows.length*k)).map fun q=>(w.cell? (ad.add q)).getD undef,by simp,fun q v hq => ?_,fun i row hi=>⟨hk row (List.mem_of_getElem? hi),fun j c hj => ?_⟩⟩
 ·simp only [List.getElem?_map,Option.map_eq_some_iff] at hq
  obtain ⟨q',hq',rfl⟩:=hq
  obtain ⟨h1,h2⟩:=List.getElem?_eq_some_iff.1 hq'
  simp at h2 h1
  subst h2
  obtain ⟨row,c,h3,h4⟩:=all q h1
  obtain ⟨u,h5,_⟩:=hc _ _ _ _ h3 h4
  have:q / k*k+q % k=q:=by rw [Nat.mul_comm]; exact Nat.div_add_mod q k
  rw [this] at h5
  rw [h5]; rfl
 ·have hil:=(List.getElem?_eq_some_iff.1 hi).1
  have hjl:=(List.getElem?_eq_some_iff.1 hj).1
  rw [hk row (List.mem_of_getElem? hi)] at hjl
  have hlt:i*k+j < rows.length*k:=by
   have:(i+1)*k≤rows.length*k:=Nat.mul_le_mul_right k hil
   rw [Nat.add_mul,Nat.one_mul] at this
   omega
  obtain ⟨u,h5,h6,h7⟩:=hc i row j c hi hj
  refine ⟨u,?_,h6,h7⟩
  rw [List.getElem?_toArray,List.getElem?_map,List.getElem?_range hlt,Option.map_some,h5]
  rfl
theorem gM (size:Nat) (a:Option Addr) (l c:Nat) (w:World):(Builtin.firstCells size 0 (.slice a l c)).run P w = .ok #[] w:=by
 cases a with
 | none=>simp [Builtin.firstCells]
 | some b=>exact run_firstCells_some (P:=P) w size 0 b l c [] (by simp) (fun j v hv=>by simp at hv)
theorem rh {b o k n l cap:Nat} {us:Array Value} {t:TypeId} {fr:Nat × Nat} {rows:List (List AV)} (hb:w.heap[b]?=some (.cells us t fr)) (hr:bI w A k rows us) (hle:o+n≤rows.length) (h0:0 < k) :
  ∃ news:List Value,news.length=n*k∧(∀ w2:World,w2.heap=w.heap→(Builtin.firstCells k n (.slice (some ⟨b,o*k,none⟩) l cap)).run P w2 = .ok news.toArray w2)∧bI w A k ((rows.drop o).take n) news.toArray:=by
 have hlen:((rows.drop o).take n).length=n:=by simp; omega
 have at_:∀ (i:Nat) (row:List AV),((rows.drop o).take n)[i]?=some row→rows[o+i]?=some row:=by
  intro i row hi
  rw [List.getElem?_take] at hi
  split at hi
  ·rwa [List.getElem?_drop] at hi
  ·cases hi
 obtain ⟨news,h1,h2,h3⟩:=Bh (w:=w) (A:=A) (k:=k) (rows:=(rows.drop o).take n) (ad:=⟨b,o*k,none⟩) (fun row hrow=>by
  obtain ⟨i,hi⟩:=List.getElem?_of_mem hrow
  exact (hr _ _ (at_ i row hi)).1) h0 (fun i row j c hi hj=>by
  obtain ⟨u,f1,f2,f3⟩:=(hr _ _ (at_ i row hi)).2 j c hj
  exact ⟨u,by rw [l5,s7 hb,← Nat.add_assoc,← Nat.add_mul,f1],f2,f3⟩)
 rw [hlen] at h1
 exact ⟨news,h1,fun w2 hw=>run_firstCells_some (P:=P) w2 k n _ l cap news h1 fun j v hv=>by rw [gL (w:=w) (w':=w2) (by rw [hw])]; exact h2 j v hv,h3⟩
theorem yH (r:Rel w X ρ h) {k:Nat} {y:AV} {uy:Value} {ys:List (List AV)} (h0:0 < k) (hy:RV w (aE w X h ρ) ρ h y uy) (hr:mp h k y=some ys) :
  ∃ a c,uy = .slice a ys.length c∧∃ news:List Value,news.length=ys.length*k∧(∀ w2:World,w2.heap=w.heap→(Builtin.firstCells k ys.length uy).run P w2 = .ok news.toArray w2)∧bI w (aE w X h ρ) k ys news.toArray:=by
 cases y with
 | emp =>
  cases hr
  obtain ⟨a,rfl⟩:=hy.emp_inv
  exact ⟨a,0,rfl,[],by simp,fun _ _=>gM _ _ _ _ _,fun i row hi=>by simp at hi⟩
 | sl k' rows =>
  simp only [mp] at hr
  split at hr
  ·rename_i hk
   subst hk
   cases hr
   have hd:=hy.sl_inv
   cases hd with
   | sl _ _ a cap ad vals hc ha hk hv hl hrr =>
    refine ⟨a,cap,rfl,?_⟩
    obtain ⟨news,h1,h2,h3⟩:=Bh (w:=w) (A:=aE w X h ρ) (k:=k') (rows:=ys) (ad:=ad) hk h0 (fun i row j c hi hj=>⟨vals i j,hv i row j c hi hj,hrr i row j c hi hj,hl row (List.mem_of_getElem? hi) c (List.mem_of_getElem? hj)⟩)
    refine ⟨news,h1,?_,h3⟩
    by_cases hne:ys=[]
    ·subst hne
     have:news=[]:=List.eq_nil_of_length_eq_zero (by simpa using h1)
     subst this
     exact fun _ _=>gM _ _ _ _ _
    ·obtain ⟨rfl,_⟩:=ha hne
     exact fun w2 hw=>run_firstCells_some (P:=P) w2 k' _ ad _ cap news h1 fun j v hv=>by rw [gL (w:=w) (w':=w2) (by rw [hw])]; exact h2 j v hv
  ·cases hr
 | rsl id sub k' lo n =>
  simp only [mp] at hr
  split at hr
  ·rename_i hk
   subst hk
   obtain ⟨a,cap,rfl,hp,hn,hb,ha⟩:=hy.rsl_inv
   have key:∀ (rows:List (List AV)) (us:Array Value) (t:TypeId) (fr:Nat × Nat),w.heap[(ρ id sub).1]?=some (.cells us t fr)→bI w (aE w X h ρ) k' rows us→lo+n≤rows.length→ys=(rows.drop lo).take n →
     ∃ a' c,Value.slice a n cap = .slice a' ys.length c∧∃ news:List Value,news.length=ys.length*k'∧(∀ w2:World,w2.heap=w.heap→(Builtin.firstCells k' ys.length (.slice a n cap)).run P w2 = .ok news.toArray w2)∧bI w (aE w X h ρ) k' ys news.toArray:=by
    intro rows us t fr g1 g2 g3 g4
    have hlen:ys.length=n:=by rw [g4]; simp; omega
    refine ⟨a,cap,by rw [hlen],?_⟩
    rw [hlen]
    by_cases hn0:n=0
    ·subst hn0
     have:ys=[]:=List.eq_nil_of_length_eq_zero hlen
     subst this
     exact ⟨[],by simp,fun _ _=>gM _ _ _ _ _,fun i row hi=>by simp at hi⟩
    ·rcases ha with h9 | rfl
     ·omega
     ·obtain ⟨news,f1,f2,f3⟩:=rh (P:=P) (l:=n) (cap:=cap) g1 g2 g3 h0
      exact ⟨news,f1,f2,by rw [g4]; exact f3⟩
   have cut:∀ {q:Option (Nat × List (List AV))},qR k' lo n q=some ys→∃ rows,q=some (k',rows)∧lo+n≤rows.length∧ys=(rows.drop lo).take n:=by
    intro q hq
    cases q with
    | none=>cases hq
    | some p =>
     simp only [qR] at hq
     split at hq
     ·rename_i hc
      cases hq
      exact ⟨p.2,by rw [← hc.1],hc.2,rfl⟩
     ·cases hq
   obtain ⟨rows,e1,e2,e3⟩:=cut hr
   have ho:=r.ob id
   cases sub with
   | none =>
    simp only [v7] at e1
    cases e:h id with
    | ar k2 rows2 =>
     rw [e] at e1 ho
     simp only [s6,Option.some.injEq,Prod.mk.injEq] at e1
     obtain ⟨rfl,rfl⟩:=e1
     obtain ⟨us,t,g1,g2,g3,g4⟩:=ho
     exact key _ us t _ g1 g4 e2 e3
    | fz k2 rows2 =>
     rw [e] at e1 ho
     simp only [s6,Option.some.injEq,Prod.mk.injEq] at e1
     obtain ⟨rfl,rfl⟩:=e1
     obtain ⟨_,us,t,fr,g1,g2,g3,g4⟩:=ho
     exact key _ us t _ g1 g4 e2 e3
    | _=>rw [e] at e1; cases e1
   | some p =>
    simp only [v7] at e1
    cases e:h id with
    | bx cs =>
     rw [e] at e1
     simp only [oI] at e1
     cases ec:cs[p]? with
     | none=>rw [ec] at e1; cases e1
     | some c =>
      rw [ec] at e1
      cases c <;> simp only [tR] at e1 <;> try (cases e1; done)
      simp only [Option.some.injEq,Prod.mk.injEq] at e1
      obtain ⟨rfl,rfl⟩:=e1
      obtain ⟨us,t,g1,g2,g3,g4⟩:=r.cell e
      obtain ⟨u,_,a',cap',us',t',_,_,_,q4,q5,q6,q7⟩:=g4 p _ ec
      exact key _ us' t' _ q4 q7 e2 e3
    | _=>rw [e] at e1; cases e1
  ·cases hr
 | _=>cases hr
theorem wl {t u ty e e':TypeId} {k:Nat} (ht:P.underlying t=some (.slice e)) (hu:P.underlying u=some (.slice e')) (hk:a9 P e=some k) {base ay:Option Addr} {n cap m cy:Nat} {news:List Value}
  (hnew:(Builtin.firstCells k m (.slice ay m cy)).run P w = .ok news.toArray w) (hroom:n+m≤cap) (hst:∀ a,base=some a→(storeCells (a.add (n*k)) news).run P w = .ok () w') (hno:base=none→w'=w) :
  (Builtin.append_ #[t,u] ty #[.slice base n cap,.slice ay m cy]).run P w = .ok (.slice base (n+m) cap) w':=by
 cases base with
 | none =>
  obtain rfl:=hno rfl
  simp [Builtin.append_,run_underlying ht,run_underlying hu,dg hk,Builtin.lenOf,hroom,hnew]
 | some a =>
  have:=hst a rfl
  simp [Builtin.append_,run_underlying ht,run_underlying hu,dg hk,Builtin.lenOf,hroom,hnew,this]
theorem wm {t u ty e e':TypeId} {i:TypeInfo} {z:Value} (ht:P.underlying t=some (.slice e)) (hu:P.underlying u=some (.slice e')) (hi:P.info? e=some i) (hz:i.zero=some z) (hb:0 < i.bytes) {base ay:Option Addr} {n cap m cy:Nat} {old news:List Value}
  (hold:(Builtin.firstCells i.size n (.slice base n cap)).run P w.drew = .ok old.toArray w.drew) (hnew:(Builtin.firstCells i.size m (.slice ay m cy)).run P w.drew = .ok news.toArray w.drew) (hg:cap < n+m) (hfit:Builtin.nextslicecap (n+m) cap*i.bytes≤281474976710656) :
  (Builtin.append_ #[t,u] ty #[.slice base n cap,.slice ay m cy]).run P w =
   .ok (.slice (some ⟨w.heap.size,0,none⟩) (n+m) (grownCap w (n+m) cap e)) (w.drew.alloc (.cells (old.toArray++news.toArray++Builtin.zeroCells z.cells (grownCap w (n+m) cap e - (n+m))) e)):=by
 have hn : ¬ (n+m≤cap):=by omega
 have h48' : ¬ (281474976710656 < Builtin.nextslicecap (n+m) cap*i.bytes):=by omega
 have hb':i.bytes ≠ 0:=by omega
 simp [Builtin.append_,run_underlying ht,run_underlying hu,sizeOf,typeInfo,zeroValue,hi,hz,Builtin.lenOf,hn,h48',hb',Question.forced,hold,hnew,newRow,grownCap]
 congr 2
 apply Array.ext'
 simp [List.append_assoc]
end
section
variable {P:Program} {w w':World} {X:Nat→Prop} {ρ ρ':bd} {h h':ac} {A A':Nat→Prop}
theorem yI {k:Nat} {rows ys:List (List AV)} {us vs ts:Array Value} (h1:bI w A k rows us) (h2:bI w A k ys vs) (g1:∀ q,q < rows.length*k→ts[q]?=us[q]?) (g2:∀ q,q < ys.length*k→ts[rows.length*k+q]?=vs[q]?):bI w A k (rows++ys) ts:=by
 have lt:∀ {l:List (List AV)} {i:Nat} {j:Nat},i < l.length→j < k→i*k+j < l.length*k:=by
  intro l i j hi hj
  have:(i+1)*k≤l.length*k:=Nat.mul_le_mul_right k hi
  rw [Nat.add_mul,Nat.one_mul] at this
  omega
 intro i row hi
 rw [List.getElem?_append] at hi
 split at hi
 ·rename_i hil
  obtain ⟨f1,f2⟩:=h1 i row hi
  refine ⟨f1,fun j c hj => ?_⟩
  have hjl:=(List.getElem?_eq_some_iff.1 hj).1
  rw [g1 _ (lt hil (by omega))]
  exact f2 j c hj
 ·rename_i hil
  obtain ⟨f1,f2⟩:=h2 _ row hi
  have hi2:=(List.getElem?_eq_some_iff.1 hi).1
  refine ⟨f1,fun j c hj => ?_⟩
  have hjl:=(List.getElem?_eq_some_iff.1 hj).1
  have e:i*k+j=rows.length*k+((i - rows.length)*k+j):=by
   rw [← Nat.add_assoc,← Nat.add_mul,show rows.length+(i - rows.length)=i from by omega]
  rw [e,g2 _ (lt hi2 (by omega))]
  exact f2 j c hj
theorem EK {k:Nat} {rows ys:List (List AV)} {old news:List Value} (zs:Array Value) (h1:bI w A k rows old.toArray) (hl:old.length=rows.length*k) (h2:bI w A k ys news.toArray) (hm:news.length=ys.length*k) :
  bI w A k (rows++ys) (old.toArray++news.toArray++zs):=by
 refine yI h1 h2 (fun q hq => ?_) (fun q hq => ?_)
 ·rw [Array.append_assoc,Array.getElem?_append_left (by simpa [hl] using hq)]
 ·rw [Array.getElem?_append_left (by simp [hl,hm]; omega),Array.getElem?_append_right (by simp [hl])]
  simp [hl]
theorem M5 {k:Nat} {rows ys:List (List AV)} {us:Array Value} {news:List Value} (h1:bI w A k rows us) (h2:bI w A k ys news.toArray) (hm:news.length=ys.length*k) (hle:rows.length*k+news.length≤us.size) :
  bI w A k (rows++ys) (bO us (rows.length*k) news):=by
 refine yI h1 h2 (fun q hq => ?_) (fun q hq => ?_)
 ·rw [dY hle,if_neg (by omega)]
 ·rw [dY hle,if_pos (by omega),show rows.length*k+q - rows.length*k=q from by omega]
  simp
theorem M6 (r:Rel w X ρ h) {id k:Nat} {rows:List (List AV)} (e:h id = .ar k rows):Rel w X ρ (upd h id .dead)∧Evo w ρ h w ρ (upd h id .dead) [(id,false)]:=by
 have hl:∀ id' s,live (upd h id .dead) id' s→id' ≠ id∧live h id' s:=by
  intro id' s h1
  by_cases hi:id'=id
  ·subst hi
   exfalso
   cases s <;> simp [live,av] at h1
  ·exact ⟨hi,(bN (aF h _ hi)).1 h1⟩
 have ev:Evo w ρ h w ρ (upd h id .dead) [(id,false)]:=by
  refine ⟨rfl,rfl,rfl,Nat.le_refl _,fun _ _ _=>rfl,fun id' s hp hk=>⟨?_,rfl⟩,fun b ho => ?_,fun id' hb=>⟨?_,rfl⟩,fun id' _ hd=>⟨tg (by rw [e]; exact fun e=>by cases e) hd,rfl⟩⟩
  ·have hi:id' ≠ id:=by rintro rfl; simp [fh] at hk
   exact (c9 (aF h _ hi)).2 hp
  ·obtain ⟨id',s,h1,h2⟩:=ho
   exact .inl ⟨id',s,(hl id' s h1).2,h2⟩
  ·have hi:id' ≠ id:=by rintro rfl; simp [e,bf] at hb
   rw [aF h _ hi]; exact hb
 exact ⟨r.step ev (· = id) (fun id' hi=>⟨aF h _ hi,fun _=>rfl,fun _ _=>rfl⟩) (fun a b c d h1 h2=>r.inj a b c d (hl a b h1).2 (hl c d h2).2) (fun a b h1=>r.nx a b (hl a b h1).2) (fun id' hi=>by subst hi; rw [av]; trivial),ev⟩
theorem LF {α:Type} (s:Nat→α) (d:Nat) (x y:α):upd (upd s d x) d y=upd s d y:=by
 funext i
 unfold upd
 split <;> rfl
theorem ZC (r:Rel w X ρ h) {id p d k:Nat} {cs:List AV} {rows:List (List AV)} (e:h id = .bx cs) (ep:cs[p]?=some (.osl k rows)) (hdp:aQ d=false) (hd:h d = .dead) :
  Rel w X (i6 ρ d none (ρ id (some p))) (upd (upd h id (.bx (cs.set p .any))) d (.ar k rows))∧Evo w ρ h w (i6 ρ d none (ρ id (some p))) (upd (upd h id (.bx (cs.set p .any))) d (.ar k rows)) [(id,true)]:=by
 have hlp:live h id (some p):=⟨cs,k,rows,e,ep⟩
 have hln:live h id none:=by simp [live,e]
 have hpl:p < cs.length:=(List.getElem?_eq_some_iff.1 ep).1
 have hne:id ≠ d:=by rintro rfl; rw [e] at hd; cases hd
 have hρ:∀ id' s,¬ (id'=d∧s=none)→i6 ρ d none (ρ id (some p)) id' s=ρ id' s:=fun id' s hh=>xT hh
 have hl:∀ id' s,live (upd (upd h id (.bx (cs.set p .any))) d (.ar k rows)) id' s→(id'=d∧s=none)∨(¬ (id'=d∧s=none) ∧ ¬ (id'=id∧s=some p)∧live h id' s):=by
  intro id' s h1
  by_cases hi:id'=d
  ·subst hi
   cases s with
   | none=>exact .inl ⟨rfl,rfl⟩
   | some q=>obtain ⟨_,_,_,h2,_⟩:=h1; rw [av] at h2; cases h2
  ·have h2:=(bN (aF (upd h id (.bx (cs.set p .any))) (.ar k rows) hi)).1 h1
   by_cases hi2:id'=id
   ·subst hi2
    cases s with
    | none=>exact .inr ⟨by simp [hi],by simp,hln⟩
    | some q =>
     obtain ⟨cs',k',rows',h3,h4⟩:=h2
     rw [av] at h3
     cases h3
     by_cases hq:q=p
     ·subst hq; rw [List.getElem?_set_self hpl] at h4; cases h4
     ·rw [List.getElem?_set_ne (fun e=>hq e.symm)] at h4
      exact .inr ⟨by simp [hi],by simp [hq],⟨cs,k',rows',e,h4⟩⟩
   ·exact .inr ⟨by simp [hi],by simp [hi2],(bN (aF h _ hi2)).1 h2⟩
 have blk:∀ id' s,live (upd (upd h id (.bx (cs.set p .any))) d (.ar k rows)) id' s→∃ id2 s2,live h id2 s2∧(i6 ρ d none (ρ id (some p)) id' s).1=(ρ id2 s2).1∧((id'=d∧s=none∧id2=id∧s2=some p)∨(id2=id'∧s2=s ∧ ¬ (id2=id∧s2=some p))):=by
  intro id' s h1
  rcases hl id' s h1 with ⟨rfl,rfl⟩ | ⟨h2,h3,h4⟩
  ·exact ⟨id,some p,hlp,by rw [bt],.inl ⟨rfl,rfl,rfl,rfl⟩⟩
  ·exact ⟨id',s,h4,by rw [hρ id' s h2],.inr ⟨rfl,rfl,h3⟩⟩
 have nd:∀ id' s,bA h id' s→id' ≠ d:=by
  rintro id' s hp rfl
  cases s with
  | none=>exact hp hd
  | some q=>obtain ⟨_,_,_,h2,_⟩:=hp; rw [hd] at h2; cases h2
 have ev:Evo w ρ h w (i6 ρ d none (ρ id (some p))) (upd (upd h id (.bx (cs.set p .any))) d (.ar k rows)) [(id,true)]:=by
  refine ⟨rfl,rfl,rfl,Nat.le_refl _,fun _ _ _=>rfl,fun id' s hp hk => ?_,fun b ho => ?_,fun id' hb => ?_,fun id' hps hnd => ?_⟩
  ·have hi:=nd id' s hp
   refine ⟨?_,hρ _ _ (by simp [hi])⟩
   by_cases hi2:id'=id
   ·subst hi2
    cases s with
    | none=>simp [bA,aF _ _ hi,av]
    | some q=>simp [fh] at hk
   ·exact (c9 (by rw [aF _ _ hi,aF _ _ hi2])).2 hp
  ·obtain ⟨id',s,h1,h2⟩:=ho
   obtain ⟨id2,s2,h3,h4,_⟩:=blk id' s h1
   exact .inl ⟨id2,s2,h3,h4.symm.trans h2⟩
  ·have hi:=nd id' none (LD hb)
   refine ⟨?_,hρ _ _ (by simp [hi])⟩
   rw [aF _ _ hi]
   by_cases hi2:id'=id
   ·subst hi2; rw [av]; rfl
   ·rw [aF _ _ hi2]; exact hb
  ·have hi:id' ≠ d:=by rintro rfl; rw [hdp] at hps; cases hps
   rw [aF _ _ hi] at hnd
   exact ⟨tg (by rw [e]; exact fun e=>by cases e) hnd,hρ _ _ (by simp [hi])⟩
 refine ⟨r.step ev (fun i=>i=id∨i=d) (fun id' hi => ?_) (fun i s i' s' h1 h2 h3 => ?_) (fun i s h1 => ?_) (fun id' hi => ?_),ev⟩
 ·simp only [not_or] at hi
  exact ⟨by rw [aF _ _ hi.2,aF _ _ hi.1],fun s=>hρ _ _ (by simp [hi.2]),fun _ _=>rfl⟩
 ·obtain ⟨i2,s2,f1,f2,f3⟩:=blk i s h1
  obtain ⟨i3,s3,f4,f5,f6⟩:=blk i' s' h2
  obtain ⟨rfl,rfl⟩:=r.inj i2 s2 i3 s3 f1 f4 (by rw [← f2,← f5]; exact h3)
  rcases f3 with ⟨rfl,rfl,f7,f8⟩ | ⟨rfl,rfl,f7⟩ <;> rcases f6 with ⟨rfl,rfl,f9,f10⟩ | ⟨rfl,rfl,f9⟩
  ·exact ⟨rfl,rfl⟩
  ·exact absurd ⟨f7,f8⟩ f9
  ·exact absurd ⟨f9,f10⟩ f7
  ·exact ⟨rfl,rfl⟩
 ·obtain ⟨i2,s2,f1,f2,_⟩:=blk i s h1
  rw [f2]
  exact r.nx _ _ f1
 ·obtain ⟨us0,t0,g1,g2,g3,g4⟩:=r.cell e
  rcases hi with rfl | rfl
  ·rw [aF _ _ hne,av]
   refine ⟨us0,t0,by rw [hρ _ _ (by simp [hne])]; exact g1,by rw [hρ _ _ (by simp [hne])]; exact g2,by rw [List.length_set]; exact g3,fun q c hq => ?_⟩
   by_cases hqp:q=p
   ·subst hqp
    rw [List.getElem?_set_self hpl] at hq
    cases hq
    obtain ⟨u,f1,a,cap,us1,t1,rfl,_⟩:=g4 q _ ep
    exact ⟨_,f1,.anyv _,rfl,trivial⟩
   ·rw [List.getElem?_set_ne (fun e=>hqp e.symm)] at hq
    obtain ⟨u,f1,f2⟩:=g4 q c hq
    exact ⟨u,f1,f2.keep (fun b hb=>ev.al hb) ev.boxes (hρ _ _ (by simp)) (fun _=>rfl)⟩
  ·rw [av]
   obtain ⟨u,f1,a,cap,us1,t1,q1,q2,q3,q4,q5,q6,q7⟩:=g4 p _ ep
   exact ⟨us1,t1,by rw [bt]; exact q4,by rw [bt]; exact q5,Nat.le_trans (Nat.mul_le_mul_right k q3) q6,q7.mono fun b hb=>ev.al hb⟩
theorem Bi (r:Rel w X ρ h) {t u ty e e':TypeId} {k b:Nat} {zs:List AV} (ht:P.underlying t=some (.slice e)) (hu:P.underlying u=some (.slice e')) (hk:a9 P e=some k) (hb:pu P e=some b) (hz:iZ P e=some zs) (h0:0 < k) (hb0:0 < b)
  {id:Nat} {rows ys:List (List AV)} (eo:h id = .ar k rows) (hps:aQ id=false) {a ay:Option Addr} {cap cy:Nat} (hn:rows.length≤cap) (hc:cap*k≤(ρ id none).2) (ha:cap=0∨a=some ⟨(ρ id none).1,0,none⟩)
  {news:List Value} (hl:news.length=ys.length*k) (hnew:∀ w2:World,w2.heap=w.heap→(Builtin.firstCells k ys.length (.slice ay ys.length cy)).run P w2 = .ok news.toArray w2) (hr:bI w (aE w X h ρ) k ys news.toArray) (hfit:(rows.length+ys.length)*b≤140737488355328) :
  ∃ v w',(Builtin.append_ #[t,u] ty #[.slice a rows.length cap,.slice ay ys.length cy]).run P w = .ok v w'∧Got w X ρ h w' (upd h id (.ar k (rows++ys))) [(id,false)] (.rsl id none k 0 (rows.length+ys.length)) v:=by
 have hln:live h id none:=by simp [live,eo]
 have ho:=r.ob id
 rw [eo] at ho
 obtain ⟨us,t0,g1,g2,g3,g4⟩:=ho
 by_cases hroom:rows.length+ys.length≤cap
 ·have hle:rows.length*k+news.length≤us.size:=by
   have:(rows.length+ys.length)*k≤cap*k:=Nat.mul_le_mul_right k hroom
   rw [Nat.add_mul] at this
   omega
  have h1:∀ v ∈ news,v.oneCell'=true:=by
   intro v hv
   obtain ⟨q,hq⟩:=List.getElem?_of_mem hv
   have hql:q < ys.length*k:=by rw [← hl]; exact (List.getElem?_eq_some_iff.1 hq).1
   have h3:q / k < ys.length:=Nat.div_lt_of_lt_mul (by rw [Nat.mul_comm]; exact hql)
   obtain ⟨f1,f2⟩:=hr (q / k) _ (List.getElem?_eq_getElem h3)
   have h4:q % k < (ys[q / k]).length:=by rw [f1]; exact Nat.mod_lt _ h0
   obtain ⟨v',f3,f4,f5⟩:=f2 (q % k) _ (List.getElem?_eq_getElem h4)
   have h5:q / k*k+q % k=q:=by rw [Nat.mul_comm]; exact Nat.div_add_mod q k
   rw [h5,List.getElem?_toArray,hq] at f3
   cases f3
   exact f4.one f5
  have hlive:∀ s,live (upd h id (.ar k (rows++ys))) id s→live h id s:=by
   intro s h1
   cases s with
   | none=>exact hln
   | some q=>obtain ⟨_,_,_,h2,_⟩:=h1; rw [av] at h2; cases h2
  have ev:Evo w ρ h (w.setRow (ρ id none).1 (bO us (rows.length*k) news)) ρ (upd h id (.ar k (rows++ys))) [(id,false)] :=
   tj (X:=X) r hln _ hlive (fun s hp hk=>by simp [fh] at hk) (fun hbf=>by rw [eo] at hbf; cases hbf)
  have hrel:=px r hln _ hlive ev ⟨_,t0,setRow_heap w _ us _ t0 _ g1,by rw [cx hle]; exact g2,by rw [cx hle,List.length_append,Nat.add_mul,← hl]; exact hle,M5 (g4.mono fun b hb=>ev.al hb) (hr.mono fun b hb=>ev.al hb) hl hle⟩
  refine ⟨.slice a (rows.length+ys.length) cap,_,wl ht hu hk (hnew w rfl) hroom (w':=w.setRow (ρ id none).1 (bO us (rows.length*k) news)) (fun a' ha' => ?_) (fun ha' => ?_),ρ,hrel,ev,?_⟩
  ·rcases ha with h9 | h9
   ·have e1:rows.length=0:=by omega
    have e2:ys.length=0:=by omega
    have e3:news=[]:=List.eq_nil_of_length_eq_zero (by rw [hl,e2]; simp)
    subst e3
    rw [m5 (by simpa using hle) (fun j v hv=>by simp at hv),setRow_self w _ us t0 (0,0) g1]
    rfl
   ·rw [h9] at ha'
    cases ha'
    rw [l5,Nat.zero_add]
    have:=run_storeCells_at P (ρ id none).1 (rows.length*k) t0 news 0 us w g1 (by simpa using hle) h1
    simpa [bO] using this
  ·rcases ha with h9 | h9
   ·have e1:rows.length=0:=by omega
    have e2:ys.length=0:=by omega
    have e3:news=[]:=List.eq_nil_of_length_eq_zero (by rw [hl,e2]; simp)
    subst e3
    rw [m5 (by simpa using hle) (fun j v hv=>by simp at hv),setRow_self w _ us t0 (0,0) g1]
   ·rw [h9] at ha'; cases ha'
  ·exact .rsl id none k 0 _ cap a (by simp [bA,av]) hroom (by simpa using hc) (by simpa using ha)
 ·obtain ⟨i,z,z1,z2,z3,z4,_⟩:=nu (w:=w) (A:=aE w X h ρ) (ρ:=ρ) (h:=h) hz
  have hik:i.size=k:=by simpa [a9,z1] using hk
  have hib:i.bytes=b:=by simpa [pu,z1] using hb
  obtain ⟨old,o1,o2,o3⟩:∃ old:List Value,old.length=rows.length*k∧(Builtin.firstCells k rows.length (.slice a rows.length cap)).run P w.drew = .ok old.toArray w.drew∧bI w (aE w X h ρ) k rows old.toArray:=by
   by_cases hr0:rows.length=0
   ·refine ⟨[],by rw [hr0]; simp,by rw [hr0]; exact gM _ _ _ _ _,fun i row hi => ?_⟩
    rw [List.eq_nil_of_length_eq_zero hr0] at hi
    simp at hi
   ·rcases ha with h9 | rfl
    ·omega
    ·obtain ⟨old,f1,f2,f3⟩:=rh (P:=P) (w:=w) (A:=aE w X h ρ) (o:=0) (n:=rows.length) (l:=rows.length) (cap:=cap) g1 g4 (by omega) h0
     simp only [Nat.zero_mul] at f2
     exact ⟨old,f1,f2 _ rfl,by simpa using f3⟩
  have run:=wm (P:=P) (w:=w) (ty:=ty) ht hu z1 z2 (by omega) (old:=old) (news:=news) (n:=rows.length) (m:=ys.length) (by rw [hik]; exact o2) (by rw [hik]; exact hnew w.drew rfl) (by omega) (growslice_fits (by omega) (by rw [hib]; exact hfit))
  obtain ⟨d1,d2⟩:=M6 r eo
  obtain ⟨d3,d4⟩:=Bg d1
  have hrows:=EK (w:=w) (A:=aE w X h ρ) (Builtin.zeroCells z.cells (grownCap w (rows.length+ys.length) cap e - (rows.length+ys.length))) o3 o1 hr hl
  have hge:=grownCap_ge w (rows.length+ys.length) cap e
  have hsz:(old.toArray++news.toArray++Builtin.zeroCells z.cells (grownCap w (rows.length+ys.length) cap e - (rows.length+ys.length))).size=grownCap w (rows.length+ys.length) cap e*k:=by
   simp only [Array.size_append,List.size_toArray,size_zeroCells,z3,hik,o1,hl,← Nat.add_mul]
   congr 1
   omega
  have hlen:(rows++ys).length=rows.length+ys.length:=List.length_append
  obtain ⟨n1,n2⟩:=pv (e:=e) d3 hps (av _ _ _) (o := .ar k (rows++ys)) (us:=old.toArray++news.toArray++Builtin.zeroCells z.cells (grownCap w (rows.length+ys.length) cap e - (rows.length+ys.length)))
   ⟨by rw [hsz,hlen]; exact Nat.mul_le_mul_right k hge,hrows.mono fun b hb=>by obtain ⟨q1,q2⟩:=d2.al hb; obtain ⟨q3,q4⟩:=d4.al q1; exact ⟨q3,q4.trans q2⟩⟩
  rw [LF] at n1 n2
  refine ⟨_,_,run,_,n1,by simpa using d2.trans (d4.trans n2),?_⟩
  exact Pk (b:=(w.heap.size,_)) (by rw [av]; exact fun e=>by cases e) (bt _ _ _ _) hge (by rw [hsz]; exact Nat.le_refl _)
theorem Evo.cut {ks:K} {d:Nat} (e:Evo w ρ h w' ρ' h' (ks++[(d,false)])) (hd:h d = .dead):Evo w ρ h w' ρ' h' ks :=
 ⟨e.os,e.tape,e.output,e.size,e.old,fun id sub hp hk=>e.keep id sub hp (by
  have hi:id ≠ d:=by
   rintro rfl
   cases sub with
   | none=>exact hp hd
   | some q=>obtain ⟨_,_,_,h2,_⟩:=hp; rw [hd] at h2; cases h2
  rw [qu,hk]
  simpa [fh] using fun e:d=id=>hi e.symm),e.fresh,e.boxes,e.stay⟩
theorem M7 (r:Rel w X ρ h) {t u ty e e':TypeId} {k b:Nat} {zs:List AV} (ht:P.underlying t=some (.slice e)) (hu:P.underlying u=some (.slice e')) (hk:a9 P e=some k) (hb:pu P e=some b) (hz:iZ P e=some zs) (h0:0 < k) (hb0:0 < b)
  {d:Nat} (hdp:aQ d=false) {x y z:AV} {ux uy:Value} {ks:K} (hx:RV w (aE w X h ρ) ρ h x ux) (hy:RV w (aE w X h ρ) ρ h y uy) (hr:Hg h d k b x y=some (z,h',ks)) :
  ∃ v w',(Builtin.append_ #[t,u] ty #[ux,uy]).run P w = .ok v w'∧Got w X ρ h w' h' ks z v:=by
 simp only [Hg,Option.bind_eq_some_iff] at hr
 obtain ⟨ys,e1,hr⟩:=hr
 obtain ⟨ay,cy,rfl,news,n1,n2,n3⟩:=yH (P:=P) r h0 hy e1
 cases x with
 | emp =>
  obtain ⟨a,rfl⟩:=hx.emp_inv
  simp only at hr
  split at hr
  ·rename_i hfit
   cases ys with
   | nil =>
    simp only [CT,Option.some.injEq,Prod.mk.injEq] at hr
    obtain ⟨rfl,rfl,rfl⟩:=hr
    have e3:news=[]:=List.eq_nil_of_length_eq_zero (by simpa using n1)
    subst e3
    exact ⟨_,w,wl ht hu hk (n2 w rfl) (Nat.le_refl _) (fun _ _=>rfl) (fun _=>rfl),ρ,r,.refl _ _ _,.dat (.emp a)⟩
   | cons row rest =>
    simp only [CT] at hr
    obtain ⟨i,zv,z1,z2,z3,z4,_⟩:=nu (w:=w) (A:=aE w X h ρ) (ρ:=ρ) (h:=h) hz
    have hik:i.size=k:=by simpa [a9,z1] using hk
    have hib:i.bytes=b:=by simpa [pu,z1] using hb
    have run:=wm (P:=P) (w:=w) (ty:=ty) (base:=a) (n:=0) (cap:=0) (old:=[]) (news:=news) (m:=(row::rest).length) ht hu z1 z2 (by omega) (gM _ _ _ _ _) (by rw [hik]; exact n2 w.drew rfl) (by simp)
     (growslice_fits (by simp) (by rw [hib]; simpa using hfit))
    obtain ⟨d3,d4⟩:=Bg r
    have hge:=grownCap_ge w (0+(row::rest).length) 0 e
    have hrows:=EK (w:=w) (A:=aE w X h ρ) (rows:=[]) (old:=[]) (Builtin.zeroCells zv.cells (grownCap w (0+(row::rest).length) 0 e - (0+(row::rest).length))) (fun i row hi=>by simp at hi) (by simp) n3 n1
    have hsz:(([]:List Value).toArray++news.toArray++Builtin.zeroCells zv.cells (grownCap w (0+(row::rest).length) 0 e - (0+(row::rest).length))).size=grownCap w (0+(row::rest).length) 0 e*k:=by
     simp only [Array.size_append,List.size_toArray,size_zeroCells,z3,hik,n1,List.length_nil,Nat.zero_add,← Nat.add_mul]
     simp only [Nat.zero_add] at hge
     congr 1
     omega
    obtain ⟨rfl,ρ',q1,q2,q3⟩:=p7 (t:=e) (cap:=grownCap w (0+(row::rest).length) 0 e) d3 hdp (hrows.mono fun b hb=>d4.al hb) (by rw [hsz]; exact Nat.mul_le_mul_right k (by simpa using hge)) (by simpa using hge) (by rw [hsz]; exact Nat.le_refl _) hr
    refine ⟨_,_,run,ρ',q1,d4.trans q2,?_⟩
    simpa using q3
  ·cases hr
 | rsl id sub k' lo n =>
  obtain ⟨a,cap,rfl,hp,hn,hbd,ha⟩:=hx.rsl_inv
  cases sub with
  | none =>
   simp only at hr
   cases eo:h id <;> rw [eo] at hr <;> simp only [Hf] at hr <;> try (cases hr; done)
   rename_i k2 rows
   split at hr
   ·rename_i hcond
    obtain ⟨rfl,rfl,rfl,rfl,hid,hfit⟩:=hcond
    simp only [Option.some.injEq,Prod.mk.injEq] at hr
    obtain ⟨rfl,rfl,rfl⟩:=hr
    exact Bi r ht hu hk hb hz h0 hb0 eo (by simp only [aQ,decide_eq_false_iff_not]; omega) hn (by simpa using hbd) (by simpa using ha) n1 n2 n3 hfit
   ·cases hr
  | some p =>
   simp only at hr
   cases eo:h id <;> rw [eo] at hr <;> simp only [RR] at hr <;> try (cases hr; done)
   rename_i cs
   cases ec:cs[p]? with
   | none=>rw [ec] at hr; cases hr
   | some c =>
    rw [ec] at hr
    cases c <;> simp only [WW] at hr <;> try (cases hr; done)
    rename_i k2 rows
    split at hr
    ·rename_i hcond
     obtain ⟨rfl,rfl,rfl,rfl,hfit⟩:=hcond
     obtain ⟨hd',rfl,rfl,rfl⟩:=i7 hr
     have hne:d ≠ id:=by rintro rfl; rw [av] at hd'; cases hd'
     have hd:h d = .dead:=by rwa [aF _ _ hne] at hd'
     obtain ⟨m1,m2⟩:=ZC r eo ec hdp hd
     obtain ⟨v,w',q1,ρ',q2,q3,q4⟩:=Bi (ty:=ty) (a:=a) (ay:=ay) (cy:=cy) (cap:=cap) m1 ht hu hk hb hz h0 hb0 (av _ _ _) hdp hn (by rw [bt]; simpa using hbd) (by rw [bt]; simpa using ha) n1 n2 (n3.mono fun b hb=>m2.al hb) hfit
     rw [LF] at q2 q3 q4
     exact ⟨v,w',q1,ρ',q2,(m2.trans q3).cut hd,q4⟩
    ·cases hr
 | _=>cases hr
end
section
variable {P:Program} {w w':World} {X:Nat→Prop} {ρ ρ':bd} {h h':ac} {A A':Nat→Prop}
theorem R4 {t u ty e:TypeId} {k:Nat} (ht:P.underlying t=some (.slice e)) (hk:a9 P e=some k) {base ay:Option Addr} {n cap l m cy:Nat} {news:List Value} (hm:Nat.min l n=m)
  (hnew:(Builtin.firstCells k m (.slice ay l cy)).run P w = .ok news.toArray w) (hst:∀ a,base=some a→(storeCells a news).run P w = .ok () w') (hno:base=none→w'=w) :
  (Builtin.copy_ #[t,u] ty #[.slice base n cap,.slice ay l cy]).run P w = .ok (goInt m) w':=by
 cases base with
 | none =>
  obtain rfl:=hno rfl
  simp [Builtin.copy_,run_underlying ht,dg hk,Builtin.lenOf,hm,hnew]
 | some a =>
  have:=hst a rfl
  simp [Builtin.copy_,run_underlying ht,dg hk,Builtin.lenOf,hm,hnew,this]
theorem M8 {y:AV} {uy:Value} {l m:Nat} (hl:WY y=some l) (hy:RV w A ρ h y uy):∃ a c,uy = .slice a l c∧RV w A ρ h (WX m y) (.slice a (min m l) c):=by
 cases y with
 | emp =>
  cases hl
  obtain ⟨a,rfl⟩:=hy.emp_inv
  refine ⟨a,0,rfl,?_⟩
  rw [Nat.min_zero]
  exact hy
 | sl k rows =>
  cases hl
  have hd:=hy.sl_inv
  cases hd with
  | sl _ _ a cap ad vals hc ha hk hv hll hr =>
   refine ⟨a,cap,rfl,?_⟩
   have hlen:(rows.take m).length=min m rows.length:=List.length_take
   have hget:∀ {i:Nat} {row:List AV},(rows.take m)[i]?=some row→rows[i]?=some row:=fun {i row} hi=>by
    rw [List.getElem?_take] at hi
    split at hi
    ·exact hi
    ·cases hi
   have h1:RD w A (.sl k (rows.take m)) (.slice a (rows.take m).length cap) :=
    .sl k (rows.take m) a cap ad vals (by rw [hlen]; omega) (fun hne=>ha (fun e=>hne (by rw [e]; simp))) (fun row hm=>hk row (List.mem_of_mem_take hm))
     (fun i row j c hi hj=>hv i row j c (hget hi) hj) (fun row hm=>hll row (List.mem_of_mem_take hm)) (fun i row j c hi hj=>hr i row j c (hget hi) hj)
   rw [hlen] at h1
   exact .dat h1
 | rsl id sub k lo n =>
  cases hl
  obtain ⟨a,cap,rfl,hp,hn,hb,ha⟩:=hy.rsl_inv
  exact ⟨a,cap,rfl,.rsl id sub k lo (min m l) cap a hp (by omega) hb ha⟩
 | _=>cases hl
theorem Pn {k lo:Nat} {rows ys:List (List AV)} {us:Array Value} {news:List Value} (h0:0 < k) (h1:bI w A k rows us) (h2:bI w A k ys news.toArray) (hm:news.length=ys.length*k) (hlo:lo+ys.length≤rows.length) (hle:rows.length*k≤us.size) :
  bI w A k (rows.take lo++ys++rows.drop (lo+ys.length)) (bO us (lo*k) news):=by
 have hle2:lo*k+news.length≤us.size:=by
  have:(lo+ys.length)*k≤rows.length*k:=Nat.mul_le_mul_right k hlo
  rw [Nat.add_mul] at this
  omega
 have hlt:(rows.take lo).length=lo:=by rw [List.length_take]; omega
 intro i row hi
 have cell:∀ j,j < k→∀ a b:Nat,a < b→a*k+j < b*k:=fun j hj a b hab=>by
  have:(a+1)*k≤b*k:=Nat.mul_le_mul_right k hab
  rw [Nat.add_mul,Nat.one_mul] at this
  omega
 by_cases c1:i < lo
 ·have hrow:rows[i]?=some row:=by
   rw [List.append_assoc,List.getElem?_append_left (by omega),List.getElem?_take,if_pos c1] at hi
   exact hi
  obtain ⟨g1,g2⟩:=h1 i row hrow
  refine ⟨g1,fun j c hj => ?_⟩
  obtain ⟨u,f1,f2⟩:=g2 j c hj
  have hjk:j < k:=by rw [← g1]; exact (List.getElem?_eq_some_iff.1 hj).1
  refine ⟨u,?_,f2⟩
  rw [dY hle2,if_neg (by have:=cell j hjk i lo c1; omega)]
  exact f1
 ·by_cases c2:i < lo+ys.length
  ·have hrow:ys[i - lo]?=some row:=by
    rw [List.append_assoc,List.getElem?_append_right (by omega),List.getElem?_append_left (by omega),hlt] at hi
    exact hi
   obtain ⟨g1,g2⟩:=h2 (i - lo) row hrow
   refine ⟨g1,fun j c hj => ?_⟩
   obtain ⟨u,f1,f2⟩:=g2 j c hj
   have hjk:j < k:=by rw [← g1]; exact (List.getElem?_eq_some_iff.1 hj).1
   refine ⟨u,?_,f2⟩
   have e1:=cell j hjk (i - lo) ys.length (by omega)
   have e2:i*k+j=lo*k+((i - lo)*k+j):=by
    have:i*k=lo*k+(i - lo)*k:=by rw [← Nat.add_mul]; congr 1; omega
    omega
   rw [dY hle2,if_pos (by omega),show i*k+j - lo*k=(i - lo)*k+j by omega]
   rw [List.getElem?_toArray] at f1
   exact f1
  ·have hrow:rows[i]?=some row:=by
    rw [List.getElem?_append_right (by rw [List.length_append]; omega),List.getElem?_drop,List.length_append,hlt] at hi
    rw [show lo+ys.length+(i - (lo+ys.length))=i by omega] at hi
    exact hi
   obtain ⟨g1,g2⟩:=h1 i row hrow
   refine ⟨g1,fun j c hj => ?_⟩
   obtain ⟨u,f1,f2⟩:=g2 j c hj
   refine ⟨u,?_,f2⟩
   have e1:(lo+ys.length)*k≤i*k:=Nat.mul_le_mul_right k (by omega)
   rw [Nat.add_mul] at e1
   rw [dY hle2,if_neg (by omega)]
   exact f1
theorem M9 (r:Rel w X ρ h) {t u ty e:TypeId} {k:Nat} (ht:P.underlying t=some (.slice e)) (hk:a9 P e=some k) (h0:0 < k)
  {x y z:AV} {ux uy:Value} {ks:K} (hx:RV w (aE w X h ρ) ρ h x ux) (hy:RV w (aE w X h ρ) ρ h y uy) (hr:RT h k x y=some (z,h',ks)) :
  ∃ v w',(Builtin.copy_ #[t,u] ty #[ux,uy]).run P w = .ok v w'∧Got w X ρ h w' h' ks z v:=by
 unfold RT at hr
 split at hr
 ·rename_i id k' lo n
  simp only [Option.bind_eq_some_iff] at hr
  obtain ⟨l,e1,ys,e2,hr⟩:=hr
  obtain ⟨ay,cy,rfl,hcut⟩:=M8 (m:=n) e1 hy
  obtain ⟨a',c',e3,news,n1,n2,n3⟩:=yH (P:=P) r h0 hcut e2
  injection e3 with e4 e5 e6
  subst e4 e6
  obtain ⟨a,cap,rfl,hp,hn,hbd,ha⟩:=hx.rsl_inv
  cases eo:h id <;> rw [eo] at hr <;> simp only [WZ] at hr <;> try (cases hr; done)
  rename_i k2 rows
  split at hr
  ·rename_i hcond
   obtain ⟨rfl,rfl,hfit,hlen⟩:=hcond
   simp only [Option.some.injEq,Prod.mk.injEq] at hr
   obtain ⟨rfl,rfl,rfl⟩:=hr
   have hln:live h id none:=by simp [live,eo]
   have ho:=r.ob id
   rw [eo] at ho
   obtain ⟨us,t0,g1,g2,g3,g4⟩:=ho
   have hyn:ys.length≤n:=by omega
   have hle:lo*k'+news.length≤us.size:=by
    have:(lo+ys.length)*k'≤rows.length*k':=Nat.mul_le_mul_right k' (by omega)
    rw [Nat.add_mul] at this
    omega
   have h1:∀ v ∈ news,v.oneCell'=true:=by
    intro v hv
    obtain ⟨q,hq⟩:=List.getElem?_of_mem hv
    have hql:q < ys.length*k':=by rw [← n1]; exact (List.getElem?_eq_some_iff.1 hq).1
    have h3:q / k' < ys.length:=Nat.div_lt_of_lt_mul (by rw [Nat.mul_comm]; exact hql)
    obtain ⟨f1,f2⟩:=n3 (q / k') _ (List.getElem?_eq_getElem h3)
    have h4:q % k' < (ys[q / k']).length:=by rw [f1]; exact Nat.mod_lt _ h0
    obtain ⟨v',f3,f4,f5⟩:=f2 (q % k') _ (List.getElem?_eq_getElem h4)
    have h5:q / k'*k'+q % k'=q:=by rw [Nat.mul_comm]; exact Nat.div_add_mod q k'
    rw [h5,List.getElem?_toArray,hq] at f3
    cases f3
    exact f4.one f5
   have hlive:∀ s,live (upd h id (.ar k' (rows.take lo++ys++rows.drop (lo+ys.length)))) id s→live h id s:=by
    intro s h1
    cases s with
    | none=>exact hln
    | some q=>obtain ⟨_,_,_,h2,_⟩:=h1; rw [av] at h2; cases h2
   have hkeep:∀ s,bA h id s→s=none:=by
    intro s hp
    cases s with
    | none=>rfl
    | some q=>obtain ⟨_,_,_,h2,_⟩:=hp; rw [eo] at h2; cases h2
   have ev:Evo w ρ h (w.setRow (ρ id none).1 (bO us (lo*k') news)) ρ (upd h id (.ar k' (rows.take lo++ys++rows.drop (lo+ys.length)))) [] :=
    tj (X:=X) r hln _ hlive (fun s hp _=>by rw [hkeep s hp]; simp [bA,av]) (fun hbf=>by rw [eo] at hbf; cases hbf)
   have hlen2:(rows.take lo++ys++rows.drop (lo+ys.length)).length=rows.length:=by
    rw [List.length_append,List.length_append,List.length_take,List.length_drop]
    omega
   have hrel:=px r hln _ hlive ev ⟨_,t0,setRow_heap w _ us _ t0 _ g1,by rw [cx hle]; exact g2,by rw [cx hle,hlen2]; exact g3,Pn h0 (g4.mono fun b hb=>ev.al hb) (n3.mono fun b hb=>ev.al hb) n1 (by omega) g3⟩
   have hmin:Nat.min l n=ys.length:=hlen.symm
   have hnew:(Builtin.firstCells k' ys.length (.slice ay l cy)).run P w = .ok news.toArray w:=by
    have:=n2 w rfl
    cases ay <;> exact this
   refine ⟨goInt ys.length,_,R4 ht hk hmin hnew (w':=w.setRow (ρ id none).1 (bO us (lo*k') news)) (fun a2 ha' => ?_) (fun ha' => ?_),⟨ρ,hrel,ev,.dat (.v _ rfl)⟩⟩
   ·rcases ha with h9 | h9
    ·have e2:ys.length=0:=by omega
     have e3:news=[]:=List.eq_nil_of_length_eq_zero (by rw [n1,e2]; simp)
     subst e3
     rw [m5 (by simpa using hle) (fun j v hv=>by simp at hv),setRow_self w _ us t0 (0,0) g1]
     rfl
    ·rw [h9] at ha'
     cases ha'
     have:=run_storeCells_at P (ρ id none).1 (lo*k') t0 news 0 us w g1 (by simpa using hle) h1
     simpa [bO] using this
   ·rcases ha with h9 | h9
    ·have e2:ys.length=0:=by omega
     have e3:news=[]:=List.eq_nil_of_length_eq_zero (by rw [n1,e2]; simp)
     subst e3
     rw [m5 (by simpa using hle) (fun j v hv=>by simp at hv),setRow_self w _ us t0 (0,0) g1]
    ·rw [h9] at ha'; cases ha'
  ·cases hr
 ·cases hr
end
section
variable {P:Program} {w w':World} {X:Nat→Prop} {ρ ρ':bd} {h h':ac} {s:aj} {a:Act}
theorem yJ (hs:RS w (aE w X h ρ) ρ h s a.tmps):∀ (ps:List (Nat × Operand)) (q:List (Nat × Opd)),te ps=some q→q.length=ps.length ∧
  ∀ (m:Nat) (p:Nat × Opd) (v:Nat × Operand),q[m]?=some p→ps[m]?=some v→v.1=p.1∧RV w (aE w X h ρ) ρ h (ev s p.2) (a.eval v.2)
 | [],q,hq=>by simp [te] at hq; subst hq; exact ⟨rfl,fun m p v h1=>by simp at h1⟩
 | (i,x)::ps,q,hq=>by
  simp only [te,Option.bind_eq_some_iff] at hq
  obtain ⟨y,h1,q',h2,h3⟩:=hq
  cases h3
  obtain ⟨g1,g2⟩:=yJ hs ps q' h2
  refine ⟨by simp [g1],fun m p v e1 e2 => ?_⟩
  cases m with
  | zero=>simp at e1 e2; subst e1 e2; exact ⟨rfl,aM h1 hs⟩
  | succ m=>exact g2 m p v (by simpa using e1) (by simpa using e2)
theorem ir {α:Type} {x:Option α} {f:α→POp} {y:AOp} (hc:(x.map fun a=>AOp.p (f a))=some y):∃ p,y = .p p:=by
 simp only [Option.map_eq_some_iff] at hc
 obtain ⟨a,_,h⟩:=hc
 exact ⟨_,h.symm⟩
theorem bJ {α:Type} {x:Option α} {f:α→Option AOp} {y:AOp} (hf:∀ a,f a=some y→∃ p,y = .p p) (hc:x.bind f=some y):∃ p,y = .p p:=by
 simp only [Option.bind_eq_some_iff] at hc
 obtain ⟨a,_,h⟩:=hc
 exact hf a h
theorem Xc {c:Prop} [Decidable c] {p:POp} {y:AOp} (hc:(if c then none else some (AOp.p p))=some y):∃ p,y = .p p:=by
 split at hc
 ·cases hc
 ·cases hc; exact ⟨_,rfl⟩
theorem R5 {op:Op} {aop:AOp} {call:er} {md:Mode} (hc:we P op=some aop) (hnc:∀ f as,aop ≠ .call f as) (r:Rel w X ρ h) (hs:RS w (aE w X h ρ) ρ h s a.tmps) {d:Nat} (hdp:aQ d=false) {z:AV} {ks:K}
  (hz:step call md d aop s h=some (z,h',ks)) (o:Oper) (ho:o.op=op) :
  ∃ nx v w',(execOp a.eval o).run P w = .ok nx w'∧(nx = .value v∨(nx = .skip∧v=undef))∧Got w X ρ h w' h' ks z v:=by
 have fin:∀ {m:Sem Value},(∃ v w',m.run P w = .ok v w'∧Got w X ρ h w' h' ks z v)→∃ nx v w',(do pure (.value (← m)):Sem Next).run P w = .ok nx w'∧(nx = .value v∨(nx = .skip∧v=undef))∧Got w X ρ h w' h' ks z v:=by
  intro m hm
  obtain ⟨v,w',h1,h2⟩:=hm
  exact ⟨_,v,w',by rw [Sem.run_bind,h1]; rfl,.inl rfl,h2⟩
 by_cases hp:∃ pop,aop = .p pop
 ·obtain ⟨pop,rfl⟩:=hp
  simp only [step,tV,Option.map_eq_some_iff,Prod.mk.injEq] at hz
  obtain ⟨z',h1,rfl,rfl,rfl⟩:=hz
  obtain ⟨v,g1,g2⟩:=MY hc hs h1 o ho
  exact ⟨_,v,w,g1,.inl rfl,ρ,r,.refl _ _ _,g2⟩
 ·cases op <;> simp only [we] at hc
  case alloc =>
   simp only [Option.map_eq_some_iff] at hc
   obtain ⟨zs,h1,h2⟩:=hc
   cases h2
   simp only [execOp,ho]
   exact fin (KB r h1 hdp hz)
  case box =>
   simp only [Option.bind_eq_some_iff,Option.map_eq_some_iff] at hc
   obtain ⟨k,h1,y,h2,h3⟩:=hc
   cases h3
   simp only [execOp,ho]
   exact fin (M2 r hdp (aM h2 hs) hz)
  case buildSlice t n ps =>
   simp only [xQ,Option.bind_eq_some_iff] at hc
   obtain ⟨e,h1,k,h2,hc⟩:=hc
   split at hc
   ·rename_i hn
    simp only [Option.bind_eq_some_iff,Option.map_eq_some_iff] at hc
    obtain ⟨zs,h3,q,h4,h5⟩:=hc
    cases h5
    obtain ⟨g1,g2⟩:=yJ hs _ _ h4
    simp only [execOp,ho]
    simp only [step] at hz
    refine fin (FG r hdp h1 h2 h3 hn.1 (by simp [g1]) (fun m p v e1 e2 => ?_) hz)
    simp only [List.getElem?_map,Option.map_eq_some_iff] at e1
    obtain ⟨p',e3,rfl⟩:=e1
    simp only [Array.getElem?_map,Option.map_eq_some_iff] at e2
    obtain ⟨v',e4,rfl⟩:=e2
    exact g2 m p' v' e3 (by simpa using e4)
   ·cases hc
  case makeSlice t l c =>
   simp only [GZ,Option.bind_eq_some_iff] at hc
   obtain ⟨l',h1,c',h2,e,h3,k,h4,b,h5,hc⟩:=hc
   split at hc
   ·simp only [Option.map_eq_some_iff] at hc
    obtain ⟨zs,h6,h7⟩:=hc
    cases h7
    simp only [execOp,ho]
    exact fin (M4 r hdp h3 h4 h5 h6 (aM h1 hs) (aM h2 hs) hz)
   ·cases hc
  case load t x =>
   simp only [Option.bind_eq_some_iff] at hc
   obtain ⟨g,h1,k,h2,y,h3,hc⟩:=hc
   split at hc
   ·cases hc
    obtain ⟨ad,v,g1,g2,g3,g4,g5⟩:=yG (P:=P) r h1 h2 (aM h3 hs) hz
    simp only [execOp,ho]
    exact fin ⟨v,w,by rw [g1]; exact g2,ρ,g3,g4,g5⟩
   ·cases hc
  case store t x y =>
   simp only [Option.bind_eq_some_iff,Option.map_eq_some_iff] at hc
   obtain ⟨k,h1,x',h2,y',h3,h4⟩:=hc
   cases h4
   obtain ⟨ad,w',ρ',rfl,g1,g2,g3,g4⟩:=Ht (P:=P) r h1 (aM h2 hs) (aM h3 hs) hz
   simp only [execOp,ho]
   refine ⟨.skip,undef,w',?_,.inr ⟨rfl,rfl⟩,ρ',g3,g4,.und⟩
   have:(Instr.storeAt t (a.eval x) (a.eval y)).run P w = .ok () w':=by rw [g1]; exact g2
   rw [Sem.run_bind,this]
   rfl
  case call c =>
   unfold G1 at hc
   split at hc
   ·rename_i b hb
    have run:∀ (args:Array Value),args=c.args.map a.eval→(execOp a.eval o).run P w=(builtin b c.argTypes o.type (c.args.map fun | .const _=>true | _=>false) args).run P w:=by
     intro args he
     subst he
     simp only [execOp,ho,resolve,hb,Sem.run_bind,Sem.run_pure,Result.andThen,invoke]
     rfl
    unfold tY at hc
    split at hc
    ·exact absurd (bJ (fun _ h=>ir h) hc) hp
    ·exact absurd (bJ (fun _ h=>ir h) hc) hp
    ·exact absurd (bJ (fun _ h=>ir h) hc) hp
    ·exact absurd (bJ (fun _ h=>ir h) hc) hp
    ·unfold MN at hc
     split at hc
     ·rename_i t u x y e1 e2
      simp only [Option.bind_eq_some_iff] at hc
      obtain ⟨e,q1,e',q2,k,q3,b,q4,x',q5,y',q6,hc⟩:=hc
      split at hc
      ·rename_i hcond
       cases hc
       obtain ⟨zs,hzs⟩:=Option.isSome_iff_exists.1 hcond.2.2
       have hargs:c.args.map a.eval = #[a.eval x,a.eval y]:=Array.toList_inj.1 (by simp [e2])
       have hts:c.argTypes = #[t,u]:=Array.toList_inj.1 (by simp [e1])
       rw [run _ rfl,hargs,hts]
       exact fin (M7 r (ny q1) (ny q2) q3 q4 hzs hcond.1 hcond.2.1 hdp (aM q5 hs) (aM q6 hs) hz)
      ·cases hc
     ·cases hc
    ·unfold G0 at hc
     split at hc
     ·rename_i t u x y e1 e2
      simp only [Option.bind_eq_some_iff] at hc
      obtain ⟨e,q1,k,q3,x',q5,y',q6,hc⟩:=hc
      split at hc
      ·rename_i hcond
       cases hc
       have hargs:c.args.map a.eval = #[a.eval x,a.eval y]:=Array.toList_inj.1 (by simp [e2])
       have hts:c.argTypes = #[t,u]:=Array.toList_inj.1 (by simp [e1])
       rw [run _ rfl,hargs,hts]
       obtain ⟨v,w',g1,g2⟩:=M9 (P:=P) (u:=u) (ty:=o.type) r (ny q1) q3 hcond (aM q5 hs) (aM q6 hs) hz
       refine ⟨.value v,v,w',?_,.inl rfl,g2⟩
       show (do pure (.value (← Builtin.copy_ #[t,u] o.type #[a.eval x,a.eval y])):Sem Next).run P w=_
       rw [Sem.run_bind,g1]
       rfl
      ·cases hc
     ·cases hc
    ·cases hc
   ·simp only [Option.bind_eq_some_iff,Option.map_eq_some_iff] at hc
    obtain ⟨_,_,_,_,h9⟩:=hc
    exact absurd h9.symm (hnc _ _)
   ·cases hc
  case makeFunc fn _ _ =>
   cases fn
   ·exact absurd (bJ (fun _ h=>ir h) hc) hp
   all_goals cases hc
  all_goals first
   | (cases hc; done)
   | exact absurd (ir hc) hp
   | exact absurd (bJ (fun _ h=>ir h) hc) hp
   | exact absurd (bJ (fun _ h=>bJ (fun _ h=>ir h) h) hc) hp
   | exact absurd (bJ (fun _ h=>bJ (fun _ h=>bJ (fun _ h=>ir h) h) h) hc) hp
   | exact absurd (bJ (fun _ h=>bJ (fun _ h=>bJ (fun _ h=>bJ (fun _ h=>ir h) h) h) h) hc) hp
   | exact absurd (bJ (fun _ h=>bJ (fun _ h=>bJ (fun _ h=>Xc h) h) h) hc) hp
end
end Go.Ab
