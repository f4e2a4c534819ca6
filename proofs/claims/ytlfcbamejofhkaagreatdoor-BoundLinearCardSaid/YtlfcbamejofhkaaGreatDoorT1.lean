/-
  The statement BoundLinear holds of the given program: its card, with the tied table of bits.TrailingZeros32; no further conditions. Part T1.
-/
import Derived.Test.YtlfcbamejofhkaaGreatDoorProg
import Derived.Shelf.Spec.TrailingZeros
import Derived.Test.YtlfcbamejofhkaaGreatDoorRows
import Derived.Deep.Strs
import Derived.ProofKit
import Derived.LaidMore
import Derived.OpenShut
import Derived.Carry
import Derived.Test.YtlfcbamejofhkaaGreatDoorW2
namespace Go.Ab
open Go Go.Proofs Go.Shelf
def UJ:Ren:=⟨fun | 28=>237 | n=>n,fun | 25=>137 | 27=>60 | 53=>229 | n=>n,fun n=>n⟩
theorem Rf:Lays7.n28 Tryz.prog UJ where
 mixed:=by kernel_rfl
 f28:=by kernel_rfl
 t0:=by kernel_rfl
 a0:=Tryz.isAgg0
 z0:=Tryz.sizeOf0
 v0:=Tryz.zeroValue0
 i0:=by kernel_rfl
 t3:=by kernel_rfl
 a3:=Tryz.isAgg3
 z3:=Tryz.sizeOf3
 v3:=Tryz.zeroValue3
 i3:=by kernel_rfl
 t4:=by kernel_rfl
 a4:=Tryz.isAgg4
 z4:=Tryz.sizeOf4
 v4:=Tryz.zeroValue4
 i4:=by kernel_rfl
 t5:=by kernel_rfl
 a5:=Tryz.isAgg5
 z5:=Tryz.sizeOf5
 v5:=Tryz.zeroValue5
 i5:=by kernel_rfl
 t25:=by kernel_rfl
 a25:=Tryz.isAgg137
 z25:=Tryz.sizeOf137
 v25:=Tryz.zeroValue137
 i25:=by kernel_rfl
 t27:=by kernel_rfl
 a27:=Tryz.isAgg60
 z27:=Tryz.sizeOf60
 v27:=Tryz.zeroValue60
 i27:=by kernel_rfl
 t53:=by kernel_rfl
 a53:=Tryz.isAgg229
 z53:=Tryz.sizeOf229
 v53:=Tryz.zeroValue229
 i53:=by kernel_rfl
 g0:=by kernel_rfl
def YN:Inv where
 p w X:=X 0∧TabAt 0 Lib.deBruijn32tab w
 stab:=fun {w w' X} h hs=>⟨h.1,fun j hj=>by rw [gL (hs 0 h.1)]; exact h.2 j hj⟩
 more:=fun h hx=>⟨hx 0 h.1,h.2⟩
theorem MF:∀ (k x:Nat),Lib.ctzFrom k x=Fd k x
 | 0,x=>rfl
 | k+1,x=>by
  unfold Lib.ctzFrom Fd
  rw [MF k (x / 2),Nat.add_comm]
set_option maxRecDepth 100000 in
theorem abn:ui Tryz.prog YN false F.bits_TrailingZeros32 T2:=by
 intro args obs obs' res w X ρ vals n hz hn hi hr hs hv
 unfold T2 at hz
 split at hz
 ·rename_i x
  by_cases hc:0 < x∧x < 4294967296∧obs=[]
  ·rw [if_pos hc] at hz
   obtain ⟨h0,h1,rfl⟩:=hc
   simp only [Option.some.injEq,Prod.mk.injEq] at hz
   obtain ⟨rfl,rfl⟩:=hz
   have hv0:=hv 0 (.v (.int .u32 x)) (vals.getD 0 undef) rfl (by simp at hs; simp [Array.getD_eq_getD_getElem?,hs])
   have e0:vals = #[.int .u32 x]:=by
    simp only [List.length_cons,List.length_nil] at hs
    have:=hv0.v_inv.1
    apply Array.ext
    ·simpa using hs
    ·intro i h2 h3
     have:i=0:=by simp at h3; exact h3
     subst this
     simpa [Array.getD_eq_getD_getElem?,hs] using this
   subst e0
   obtain ⟨m,rfl⟩:∃ m:Nat,x=m:=⟨x.toNat,by omega⟩
   have key:=Any7.bits_TrailingZeros32 Rf m (by omega) w fun _=>hi.2
   have he:(callFunc F.bits_TrailingZeros32 #[.int .u32 (m:Int)]).run Tryz.prog w = .ok (.enter F.bits_TrailingZeros32 #[.int .u32 (m:Int)]) w:=(enters_of (Rf.f28) (by kernel_rfl) rfl:Proofs.Enters Tryz.prog (UJ.f 28)) _ _
   unfold Enters
   rw [he]
   refine Calls.mono key fun e w' hw => ?_
   obtain ⟨rfl,rfl⟩:=hw
   refine ⟨ρ,hr,.refl _ _ _ _,?_⟩
   refine .dat ?_
   have:Lib.ctz 32 m=Fd 32 m:=by
    unfold Lib.ctz
    rw [if_neg (by omega),MF]
   simp only [this,Int.toNat_natCast,mat,cD]
   exact .v _ rfl
  ·rw [if_neg hc] at hz
   cases hz
 ·cases hz
abbrev TX (f:Nat) (fd:FD):Prop:=Text Go.Proofs.Tryz.prog f fd
theorem tx {f : Nat} {fd : FD} {fn : Func} (h : Go.Proofs.Tryz.prog.funcs[f]? = some fn) (h2 : (fn.body.bind fun c => dX Go.Proofs.Tryz.prog fn.ntmps c fd.body, ub Go.Proofs.Tryz.prog fn.results.toList, decide (fn.ntmps ≤ 1000), fn.name == "runtime.NumGoroutine") = (some fd.body, some fd.res, true, false)) : TX f fd := by
 simp only [Prod.mk.injEq,Option.bind_eq_some_iff,decide_eq_true_eq] at h2
 obtain ⟨⟨c,h3,h4⟩,h5,h6,h7⟩:=h2
 exact ⟨⟨fn,c,_,h,h3,rfl,h6,h4,h5,h7⟩⟩
theorem tn:∀ p ∈ ([]:List (Nat × FD)),TX p.1 p.2:=fun _ h=>by cases h
theorem tc {f:Nat} {fd:FD} {l:List (Nat × FD)} (h1:TX f fd) (h2:∀ p ∈ l,TX p.1 p.2):∀ p ∈ (f,fd)::l,TX p.1 p.2:=fun p hp=>by
 rcases List.mem_cons.1 hp with rfl | hp
 ·exact h1
 ·exact h2 p hp
open Go.Proofs.Tryz
theorem t3:TX 3 aX:=tx func3 (by kernel_rfl)
theorem t5:TX 5 wC:=tx func5 (by kernel_rfl)
theorem t6:TX 6 kZ:=tx func6 (by kernel_rfl)
theorem t7:TX 7 l6:=tx func7 (by kernel_rfl)
theorem t8:TX 8 fk:=tx func8 (by kernel_rfl)
theorem t9:TX 9 gE:=tx func9 (by kernel_rfl)
theorem t10:TX 10 aP:=tx func10 (by kernel_rfl)
theorem t11:TX 11 pi:=tx func11 (by kernel_rfl)
theorem t12:TX 12 fv:=tx func12 (by kernel_rfl)
theorem t13:TX 13 l7:=tx func13 (by kernel_rfl)
theorem t14:TX 14 lh:=tx func14 (by kernel_rfl)
theorem t15:TX 15 d6:=tx func15 (by kernel_rfl)
theorem t16:TX 16 kz:=tx func16 (by kernel_rfl)
theorem t17:TX 17 gQ:=tx func17 (by kernel_rfl)
theorem t18:TX 18 it:=tx func18 (by kernel_rfl)
theorem t23:TX 23 jH:=tx func23 (by kernel_rfl)
theorem t25:TX 25 HX:=tx func25 (by kernel_rfl)
theorem t26:TX 26 oM:=tx func26 (by kernel_rfl)
theorem t27:TX 27 ve:=tx func27 (by kernel_rfl)
theorem t28:TX 28 nD:=tx func28 (by kernel_rfl)
theorem t29:TX 29 vf:=tx func29 (by kernel_rfl)
theorem t30:TX 30 cc:=tx func30 (by kernel_rfl)
theorem t31:TX 31 kA:=tx func31 (by kernel_rfl)
theorem t32:TX 32 jI:=tx func32 (by kernel_rfl)
theorem t33:TX 33 bF:=tx func33 (by kernel_rfl)
theorem t34:TX 34 jv:=tx func34 (by kernel_rfl)
theorem t35:TX 35 eh:=tx func35 (by kernel_rfl)
theorem t36:TX 36 fX:=tx func36 (by kernel_rfl)
theorem t37:TX 37 d7:=tx func37 (by kernel_rfl)
theorem t38:TX 38 eS:=tx func38 (by kernel_rfl)
theorem t39:TX 39 gF:=tx func39 (by kernel_rfl)
theorem t40:TX 40 nF:=tx func40 (by kernel_rfl)
theorem t41:TX 41 eT:=tx func41 (by kernel_rfl)
theorem t42:TX 42 jw:=tx func42 (by kernel_rfl)
theorem t43:TX 43 jL:=tx func43 (by kernel_rfl)
theorem t44:TX 44 nH:=tx func44 (by kernel_rfl)
theorem t45:TX 45 gR:=tx func45 (by kernel_rfl)
theorem t46:TX 46 nI:=tx func46 (by kernel_rfl)
theorem t47:TX 47 gG:=tx func47 (by kernel_rfl)
theorem t48:TX 48 lj:=tx func48 (by kernel_rfl)
theorem t49:TX 49 ch:=tx func49 (by kernel_rfl)
theorem t50:TX 50 se:=tx func50 (by kernel_rfl)
theorem t51:TX 51 pD:=tx func51 (by kernel_rfl)
theorem t52:TX 52 lO:=tx func52 (by kernel_rfl)
theorem t53:TX 53 rq:=tx func53 (by kernel_rfl)
theorem t54:TX 54 l8:=tx func54 (by kernel_rfl)
theorem t55:TX 55 kB:=tx func55 (by kernel_rfl)
theorem t56:TX 56 nK:=tx func56 (by kernel_rfl)
theorem t57:TX 57 kC:=tx func57 (by kernel_rfl)
theorem t58:TX 58 jM:=tx func58 (by kernel_rfl)
theorem t71:TX 71 cH:=tx func71 (by kernel_rfl)
theorem t74:TX 74 cj:=tx func74 (by kernel_rfl)
theorem t75:TX 75 nL:=tx func75 (by kernel_rfl)
theorem t76:TX 76 lk:=tx func76 (by kernel_rfl)
theorem t78:TX 78 uw:=tx func78 (by kernel_rfl)
theorem t79:TX 79 lR:=tx func79 (by kernel_rfl)
theorem t80:TX 80 nM:=tx func80 (by kernel_rfl)
theorem t81:TX 81 oN:=tx func81 (by kernel_rfl)
theorem t82:TX 82 nN:=tx func82 (by kernel_rfl)
theorem t83:TX 83 rr:=tx func83 (by kernel_rfl)
theorem t84:TX 84 cF:=tx func84 (by kernel_rfl)
theorem t85:TX 85 bK:=tx func85 (by kernel_rfl)
theorem t86:TX 86 dR:=tx func86 (by kernel_rfl)
theorem t87:TX 87 gT:=tx func87 (by kernel_rfl)
theorem t88:TX 88 ll:=tx func88 (by kernel_rfl)
theorem t89:TX 89 jx:=tx func89 (by kernel_rfl)
theorem t90:TX 90 fT:=tx func90 (by kernel_rfl)
theorem t91:TX 91 eA:=tx func91 (by kernel_rfl)
theorem t92:TX 92 qG:=tx func92 (by kernel_rfl)
theorem t93:TX 93 iw:=tx func93 (by kernel_rfl)
theorem t94:TX 94 hG:=tx func94 (by kernel_rfl)
theorem t95:TX 95 l9:=tx func95 (by kernel_rfl)
theorem t96:TX 96 pk:=tx func96 (by kernel_rfl)
theorem t97:TX 97 pE:=tx func97 (by kernel_rfl)
theorem t98:TX 98 pl:=tx func98 (by kernel_rfl)
theorem t99:TX 99 nR:=tx func99 (by kernel_rfl)
theorem afb:TX 100 fm:=tx func100 (by kernel_rfl)
theorem afc:TX 101 eB:=tx func101 (by kernel_rfl)
theorem afd:TX 102 cX:=tx func102 (by kernel_rfl)
theorem afe:TX 103 jf:=tx func103 (by kernel_rfl)
theorem aff:TX 104 ls:=tx func104 (by kernel_rfl)
theorem afg:TX 105 dG:=tx func105 (by kernel_rfl)
theorem afh:TX 106 pF:=tx func106 (by kernel_rfl)
theorem afi:TX 107 si:=tx func107 (by kernel_rfl)
theorem afj:TX 108 oH:=tx func108 (by kernel_rfl)
theorem afk:TX 109 nS:=tx func109 (by kernel_rfl)
theorem afl:TX 110 qn:=tx func110 (by kernel_rfl)
theorem afm:TX 111 qo:=tx func111 (by kernel_rfl)
theorem afn:TX 112 p8:=tx func112 (by kernel_rfl)
theorem afo:TX 113 j7:=tx func113 (by kernel_rfl)
theorem afp:TX 114 sj:=tx func114 (by kernel_rfl)
theorem afq:TX 115 lS:=tx func115 (by kernel_rfl)
theorem afr:TX 116 lT:=tx func116 (by kernel_rfl)
theorem afs:TX 117 mK:=tx func117 (by kernel_rfl)
theorem aft:TX 118 mL:=tx func118 (by kernel_rfl)
theorem afu:TX 119 go:=tx func119 (by kernel_rfl)
theorem afv:TX 120 nT:=tx func120 (by kernel_rfl)
theorem afw:TX 126 gH:=tx func126 (by kernel_rfl)
theorem afx:TX 135 cz:=tx func135 (by kernel_rfl)
theorem afy:TX 137 lu:=tx func137 (by kernel_rfl)
theorem afz:TX 138 iy:=tx func138 (by kernel_rfl)
theorem afA:TX 139 iz:=tx func139 (by kernel_rfl)
theorem afB:TX 140 mM:=tx func140 (by kernel_rfl)
theorem afC:TX 141 mN:=tx func141 (by kernel_rfl)
theorem afD:TX 142 oP:=tx func142 (by kernel_rfl)
theorem afE:TX 143 lU:=tx func143 (by kernel_rfl)
theorem afF:TX 144 mO:=tx func144 (by kernel_rfl)
theorem afG:TX 145 cA:=tx func145 (by kernel_rfl)
theorem afH:TX 146 dD:=tx func146 (by kernel_rfl)
theorem afI:TX 147 eE:=tx func147 (by kernel_rfl)
theorem afJ:TX 148 du:=tx func148 (by kernel_rfl)
theorem afK:TX 149 ck:=tx func149 (by kernel_rfl)
theorem afL:TX 150 pm:=tx func150 (by kernel_rfl)
theorem afM:TX 151 nW:=tx func151 (by kernel_rfl)
theorem afN:TX 152 kD:=tx func152 (by kernel_rfl)
theorem afO:TX 153 fG:=tx func153 (by kernel_rfl)
theorem afP:TX 154 lw:=tx func154 (by kernel_rfl)
theorem afQ:TX 155 iA:=tx func155 (by kernel_rfl)
theorem afR:TX 156 fH:=tx func156 (by kernel_rfl)
theorem afS:TX 157 et:=tx func157 (by kernel_rfl)
theorem afT:TX 158 eV:=tx func158 (by kernel_rfl)
theorem afU:TX 159 y7:=tx func159 (by kernel_rfl)
theorem afV:TX 160 sn:=tx func160 (by kernel_rfl)
theorem afW:TX 161 mR:=tx func161 (by kernel_rfl)
theorem afX:TX 162 rx:=tx func162 (by kernel_rfl)
theorem afY:TX 163 tq:=tx func163 (by kernel_rfl)
theorem afZ:TX 164 jg:=tx func164 (by kernel_rfl)
theorem af0:TX 171 cI:=tx func171 (by kernel_rfl)
theorem af1:TX 180 gI:=tx func180 (by kernel_rfl)
theorem af2:TX 181 ij:=tx func181 (by kernel_rfl)
theorem af3:TX 182 iB:=tx func182 (by kernel_rfl)
theorem af4:TX 183 fZ:=tx func183 (by kernel_rfl)
theorem af5:TX 184 ga:=tx func184 (by kernel_rfl)
theorem af6:TX 185 lz:=tx func185 (by kernel_rfl)
theorem af7:TX 186 rz:=tx func186 (by kernel_rfl)
theorem af8:TX 187 nY:=tx func187 (by kernel_rfl)
theorem af9:TX 188 nZ:=tx func188 (by kernel_rfl)
theorem aga:TX 189 cG:=tx func189 (by kernel_rfl)
theorem agb:TX 190 d9:=tx func190 (by kernel_rfl)
theorem agc:TX 191 ik:=tx func191 (by kernel_rfl)
theorem agd:TX 192 gW:=tx func192 (by kernel_rfl)
theorem age:TX 193 j8:=tx func193 (by kernel_rfl)
theorem agf:TX 194 gX:=tx func194 (by kernel_rfl)
theorem agh:TX 195 lA:=tx func195 (by kernel_rfl)
theorem agi:TX 196 j9:=tx func196 (by kernel_rfl)
theorem agj:TX 197 il:=tx func197 (by kernel_rfl)
theorem agk:TX 198 mA:=tx func198 (by kernel_rfl)
theorem agl:TX 199 gb:=tx func199 (by kernel_rfl)
theorem agm:TX 200 cK:=tx func200 (by kernel_rfl)
theorem agn:TX 201 ge:=tx func201 (by kernel_rfl)
theorem ago:TX 202 iD:=tx func202 (by kernel_rfl)
theorem agp:TX 203 gr:=tx func203 (by kernel_rfl)
theorem agq:TX 204 fp:=tx func204 (by kernel_rfl)
theorem ags:TX 205 vz:=tx func205 (by kernel_rfl)
theorem agt:TX 206 vA:=tx func206 (by kernel_rfl)
theorem agu:TX 207 wI:=tx func207 (by kernel_rfl)
theorem agv:TX 208 pn:=tx func208 (by kernel_rfl)
theorem agw:TX 209 sN:=tx func209 (by kernel_rfl)
theorem agx:TX 210 n4:=tx func210 (by kernel_rfl)
theorem agy:TX 211 uD:=tx func211 (by kernel_rfl)
theorem agz:TX 212 qH:=tx func212 (by kernel_rfl)
theorem agA:TX 213 qI:=tx func213 (by kernel_rfl)
theorem agB:TX 214 kf:=tx func214 (by kernel_rfl)
theorem agC:TX 218 rC:=tx func218 (by kernel_rfl)
theorem agD:TX 225 eF:=tx func225 (by kernel_rfl)
theorem agE:TX 226 iE:=tx func226 (by kernel_rfl)
theorem agF:TX 227 lC:=tx func227 (by kernel_rfl)
theorem agG:TX 228 n6:=tx func228 (by kernel_rfl)
theorem agH:TX 229 n7:=tx func229 (by kernel_rfl)
theorem agI:TX 230 n8:=tx func230 (by kernel_rfl)
theorem agJ:TX 231 lV:=tx func231 (by kernel_rfl)
theorem agK:TX 232 sO:=tx func232 (by kernel_rfl)
theorem agL:TX 233 qf:=tx func233 (by kernel_rfl)
theorem agM:TX 234 fx:=tx func234 (by kernel_rfl)
theorem agN:TX 235 cp:=tx func235 (by kernel_rfl)
theorem agO:TX 236 im:=tx func236 (by kernel_rfl)
theorem agP:TX 238 iH:=tx func238 (by kernel_rfl)
theorem agQ:TX 239 gw:=tx func239 (by kernel_rfl)
theorem agR:TX 240 po:=tx func240 (by kernel_rfl)
theorem agS:TX 241 oe:=tx func241 (by kernel_rfl)
theorem agT:TX 242 kF:=tx func242 (by kernel_rfl)
theorem agU:TX 243 iI:=tx func243 (by kernel_rfl)
theorem agV:TX 244 oS:=tx func244 (by kernel_rfl)
theorem agW:TX 245 qp:=tx func245 (by kernel_rfl)
theorem agX:TX 246 pK:=tx func246 (by kernel_rfl)
theorem agY:TX 247 qJ:=tx func247 (by kernel_rfl)
theorem agZ:TX 250 vE:=tx func250 (by kernel_rfl)
theorem ag0:TX 260 lE:=tx func260 (by kernel_rfl)
theorem ag1:TX 261 mD:=tx func261 (by kernel_rfl)
theorem ag2:TX 262 mE:=tx func262 (by kernel_rfl)
theorem ag3:TX 263 qh:=tx func263 (by kernel_rfl)
theorem ag4:TX 264 cN:=tx func264 (by kernel_rfl)
theorem ag5:TX 265 eH:=tx func265 (by kernel_rfl)
theorem ag6:TX 266 qq:=tx func266 (by kernel_rfl)
theorem ag7:TX 276 eY:=tx func276 (by kernel_rfl)
theorem ag8:TX 277 mh:=tx func277 (by kernel_rfl)
theorem ag9:TX 278 rF:=tx func278 (by kernel_rfl)
theorem aha:TX 279 so:=tx func279 (by kernel_rfl)
theorem ahb:TX 283 rG:=tx func283 (by kernel_rfl)
set_option maxRecDepth 100000 in
theorem TN:∀ p ∈ T1,TX p.1 p.2:=tc t3 (tc t5 (tc t6 (tc t7 (tc t8 (tc t9 (tc t10 (tc t11 (tc t12 (tc t13 (tc t14 (tc t15 (tc t16 (tc t17 (tc t18 (tc t23 (tc t25 (tc t26 (tc t27 (tc t28 (tc t29 (tc t30 (tc t31 (tc t32 (tc t33 (tc t34 (tc t35 (tc t36 (tc t37 (tc t38 (tc t39 (tc t40 (tc t41 (tc t42 (tc t43 (tc t44 (tc t45 (tc t46 (tc t47 (tc t48 (tc t49 (tc t50 (tc t51 (tc t52 (tc t53 (tc t54 (tc t55 (tc t56 (tc t57 (tc t58 (tc t71 (tc t74 (tc t75 (tc t76 (tc t78 (tc t79 (tc t80 (tc t81 (tc t82 (tc t83 (tc t84 (tc t85 (tc t86 (tc t87 (tc t88 (tc t89 (tc t90 (tc t91 (tc t92 (tc t93 (tc t94 (tc t95 (tc t96 (tc t97 (tc t98 (tc t99 (tc afb (tc afc (tc afd (tc afe (tc aff (tc afg (tc afh (tc afi (tc afj (tc afk (tc afl (tc afm (tc afn (tc afo (tc afp (tc afq (tc afr (tc afs (tc aft (tc afu (tc afv (tc afw (tc afx (tc afy (tc afz (tc afA (tc afB (tc afC (tc afD (tc afE (tc afF (tc afG (tc afH (tc afI (tc afJ (tc afK (tc afL (tc afM (tc afN (tc afO (tc afP (tc afQ (tc afR (tc afS (tc afT (tc afU (tc afV (tc afW (tc afX (tc afY (tc afZ (tc af0 (tc af1 (tc af2 (tc af3 (tc af4 (tc af5 (tc af6 (tc af7 (tc af8 (tc af9 (tc aga (tc agb (tc agc (tc agd (tc age (tc agf (tc agh (tc agi (tc agj (tc agk (tc agl (tc agm (tc agn (tc ago (tc agp (tc agq (tc ags (tc agt (tc agu (tc agv (tc agw (tc agx (tc agy (tc agz (tc agA (tc agB (tc agC (tc agD (tc agE (tc agF (tc agG (tc agH (tc agI (tc agJ (tc agK (tc agL (tc agM (tc agN (tc agO (tc agP (tc agQ (tc agR (tc agS (tc agT (tc agU (tc agV (tc agW (tc agX (tc agY (tc agZ (tc ag0 (tc ag1 (tc ag2 (tc ag3 (tc ag4 (tc ag5 (tc ag6 (tc ag7 (tc ag8 (tc ag9 (tc aha (tc ahb (tn)))))))))))))))))))))))))))))))))))))))))))))))))))))))))))))))))))))))))))))))))))))))))))))))))))))))))))))))))))))))))))))))))))))))))))))))))))))))))))))))))))))))))))))))))))))))))))))))))))))))
end Go.Ab
namespace Go.Ab
open Go Go.Proofs Go.ChangeShapes Go.WideShapes Go.Deep Go.RowKit
set_option maxRecDepth 100000
section
variable {H:Type} {enc:TypeId × Value→H} {w:World}
def zn (w:World) (b:Nat):Prop:=b < w.heap.size∧b ≠ 0
def sW (w:World):Prop:=∀ o v,w.cell? ⟨0,o,none⟩=some v→∃ n,v = .int .u8 n
def rU (u:Value):Prop:=∀ n,u ≠ .int .u8 n
theorem YO (ht:sW w) {a:Addr} {u:Value} (h:w.cell? a=some u) (hn:rU u):zn w a.block∧a.spot=none:=by
 have h1:a.spot=none:=by
  unfold World.cell? at h
  split at h
  ·split at h
   ·cases h
   ·rename_i hs
    simpa using hs
  ·cases h
 refine ⟨⟨?_,fun h0 => ?_⟩,h1⟩
 ·unfold World.cell? at h
  split at h
  ·rename_i hb
   exact (Array.getElem?_eq_some_iff.1 hb).1
  ·cases h
 ·obtain ⟨b,o,s⟩:=a
  simp only at h0 h1
  subst h0 h1
  obtain ⟨n,hv⟩:=ht o u h
  exact hn n hv
def j3 (w:World) (fs:List AV) (cs:List Value):Prop :=
 fs.length=cs.length∧∀ (j:Nat) (c:AV) (u:Value),fs[j]?=some c→cs[j]?=some u→RD w (zn w) c u∧aA c=true∧u.oneCell'=true
theorem j3.app {fa fb:List AV} {ca cb:List Value} (ha:j3 w fa ca) (hb:j3 w fb cb):j3 w (fa++fb) (ca++cb):=by
 refine ⟨by simp [ha.1,hb.1],fun j c u h1 h2 => ?_⟩
 by_cases hj:j < fa.length
 ·rw [List.getElem?_append_left hj] at h1
  rw [List.getElem?_append_left (by rw [← ha.1]; exact hj)] at h2
  exact ha.2 j c u h1 h2
 ·rw [List.getElem?_append_right (by omega)] at h1
  rw [List.getElem?_append_right (by rw [← ha.1]; omega),← ha.1] at h2
  exact hb.2 _ c u h1 h2
theorem j3.one {c:AV} {u:Value} (h:RD w (zn w) c u) (hd:aA c=true) (h1:u.oneCell'=true):j3 w [c] [u]:=by
 refine ⟨rfl,fun j c' u' hc hu => ?_⟩
 cases j with
 | zero=>simp at hc hu; subst hc hu; exact ⟨h,hd,h1⟩
 | succ j=>simp at hc
noncomputable abbrev Tr (w:World) (enc:TypeId × Value→H) (n:Nat) (t:TypeId) (cs:List Value):Option (DataW H × List MemPlace):=DataW.trod enc Tryz.prog w 0 (fun _=>true) true n t cs
def nj (t:TypeId) (d:DataW H):Prop:=∀ m ∈ DataW.weights Tryz.prog t d,m≤reachBytes
theorem YP {e:TypeId}:∀ {l:List (DataW H)} {d:DataW H} {m:Nat},d ∈ l→m ∈ DataW.weights Tryz.prog e d→m ∈ DataW.weightsAll Tryz.prog e l
 | [],d,m,h,_=>by simp at h
 | a::l,d,m,h,hm=>by
  simp only [DataW.weightsAll,List.mem_append]
  rcases List.mem_cons.1 h with rfl | h
  ·exact .inl hm
  ·exact .inr (YP h hm)
theorem MG {α:Type} {p:Nat→α→Prop}:∀ (n:Nat),(∀ i,i < n→∃ r,p i r)→∃ l:List α,l.length=n∧∀ (i:Nat) (r:α),l[i]?=some r→p i r
 | 0,_=>⟨[],rfl,fun i r h=>by simp at h⟩
 | n+1,h=>by
  obtain ⟨l,h1,h2⟩:=MG n fun i hi=>h i (by omega)
  obtain ⟨r,hr⟩:=h n (by omega)
  refine ⟨l++[r],by simp [h1],fun i r' hi => ?_⟩
  by_cases hin:i < n
  ·rw [List.getElem?_append_left (by omega)] at hi
   exact h2 i r' hi
  ·rw [List.getElem?_append_right (by omega)] at hi
   have:i=n:=by
    have:=(List.getElem?_eq_some_iff.1 hi).1
    simp at this
    omega
   subst this
   simp [h1] at hi
   subst hi
   exact hr
theorem yc {α:Type} {t e:TypeId} {k bs:Nat} (ht:Tryz.prog.underlying t=some (.slice e)) (hk:Tryz.prog.cellsOf e=k) (h0:0 < k) (hbs:Tryz.prog.bytesOf e=bs) (F:α→List AV) (Q:α→Prop) (hT:sW w)
  (hrow:∀ n cs' x,Tr w enc n e cs'=some x→nj e x.1→∃ r,Q r∧j3 w (F r) cs'∧∃ u,cs'[0]?=some u∧rU u) {fuel:Nat} {cs:List Value} {x:DataW H × List MemPlace}
  (h:Tr w enc fuel t cs=some x) (hw:nj t x.1):∃ (l:List α) (v:Value),cs=[v]∧(∀ r ∈ l,Q r)∧l.length*bs≤reachBytes∧RD w (zn w) (.sl k (l.map F)) v∧v.oneCell'=true∧rU v:=by
 rcases open_slice ht h with ⟨rfl,_⟩ | ⟨a,len,cap,m,n,D,Pl,rfl,hb,hl,hm,hmm,rfl,hx⟩
 ·exact ⟨[],_,rfl,fun r hr=>by simp at hr,by simp,.sl k [] none 0 ⟨0,0,none⟩ (fun _ _=>undef) (by simp) (fun h=>absurd rfl h) (fun r hr=>by simp at hr) (fun i r j c hr=>by simp at hr) (fun r hr=>by simp at hr) (fun i r j c hr=>by simp at hr),rfl,fun n e=>by cases e⟩
 ·have hlm:len≤m:=by rw [hmm]; split <;> omega
  have hwe:∀ i,i < len→nj e (D i):=fun i hi q hq=>by
   refine hw q ?_
   simp only [DataW.weights,ht,List.mem_cons,List.mem_append]
   exact .inr (.inl (YP (List.mem_map.2 ⟨i,List.mem_range.2 hi,rfl⟩) hq))
  have hbn:len*bs≤reachBytes:=by
   have:=hw ((((List.range len).map D).length+((List.range (m - len)).map fun j=>D (len+j)).length)*Tryz.prog.bytesOf e) (by simp [DataW.weights,ht])
   simp only [List.length_map,List.length_range,hbs] at this
   exact Nat.le_trans (Nat.mul_le_mul_right _ (by omega)) this
  obtain ⟨l,l1,l2⟩:=MG (p:=fun i r=>Q r∧∃ cs',w.cells? 0 (a.add (i*k)) k=some cs'∧j3 w (F r) cs'∧∃ u,cs'[0]?=some u∧rU u) len fun i hi=>by
   obtain ⟨cs',h1,h2⟩:=hx i (by omega)
   obtain ⟨r,g1,g2,g3⟩:=hrow _ _ _ h2 (hwe i hi)
   rw [hk] at h1
   exact ⟨r,g1,cs',h1,g2,g3⟩
  have cell:∀ (i:Nat) (row:List AV) (j:Nat) (c:AV),(l.map F)[i]?=some row→row[j]?=some c→∃ u,w.cell? (a.add (i*k+j))=some u∧RD w (zn w) c u∧aA c=true:=fun i row j c hi hj=>by
   simp only [List.getElem?_map,Option.map_eq_some_iff] at hi
   obtain ⟨r,hr,rfl⟩:=hi
   obtain ⟨_,cs',c1,c2,_⟩:=l2 i r hr
   obtain ⟨_,c3,c4⟩:=World.cells?_some c1
   have hjk:j < k:=by
    have:=(List.getElem?_eq_some_iff.1 hj).1
    rw [c2.1,c3] at this
    exact this
   have:=c4 j hjk
   rw [rf] at this
   obtain ⟨u,hu⟩:∃ u,cs'[j]?=some u:=⟨cs'[j]'(by omega),by simp⟩
   exact ⟨u,by rw [this,hu],(c2.2 j c u hj hu).1,(c2.2 j c u hj hu).2.1⟩
  refine ⟨l,_,rfl,fun r hr => ?_,by rw [l1]; exact hbn,?_,rfl,fun n e=>by cases e⟩
  ·obtain ⟨i,hi⟩:=List.getElem?_of_mem hr
   exact (l2 i r hi).1
  ·have:=RD.sl (w:=w) (A:=zn w) k (l.map F) (some a) cap a (fun i j=>(w.cell? (a.add (i*k+j))).getD undef) (by simp [l1,hl]) (fun hne => ?_) (fun row hr => ?_) (fun i row j c hi hj => ?_) (fun row hr c hc => ?_) (fun i row j c hi hj => ?_)
   ·simpa [l1] using this
   ·have hlen:0 < l.length:=List.length_pos_iff.2 fun e=>hne (by simp [e])
    obtain ⟨_,cs',c1,c2,u,c3,c4⟩:=l2 0 l[0] (by simp)
    have:=(World.cells?_some c1).2.2 0 h0
    rw [c3,Nat.zero_mul,r5,r5] at this
    obtain ⟨q1,q2⟩:=YO hT this c4
    exact ⟨rfl,q1,q2⟩
   ·simp only [List.mem_map] at hr
    obtain ⟨r,hr,rfl⟩:=hr
    obtain ⟨i,hi⟩:=List.getElem?_of_mem hr
    obtain ⟨_,cs',c1,c2,_⟩:=l2 i r hi
    rw [c2.1]
    exact (World.cells?_some c1).2.1
   ·obtain ⟨u,q1,_⟩:=cell i row j c hi hj
    rw [q1]; rfl
   ·obtain ⟨i,hi⟩:=List.getElem?_of_mem hr
    obtain ⟨j,hj⟩:=List.getElem?_of_mem hc
    obtain ⟨u,_,_,q⟩:=cell i row j c hi hj
    exact q
   ·obtain ⟨u,q1,q2,_⟩:=cell i row j c hi hj
    rw [q1]; exact q2
theorem Wn {n:Nat} {cs:List Value} {x:DataW H × List MemPlace} (h:Tr w enc n 60 cs=some x) (_:nj 60 x.1):∃ r:Nat,r < 4294967296∧j3 w [U (r:Int)] cs∧∃ u,cs[0]?=some u∧rU u:=by
 obtain ⟨z,rfl,rfl,hw⟩:=DataW.trod_int Tryz.underlying60 h
 simp only [Lit.wf,Bool.and_eq_true,decide_eq_true_eq] at hw
 have h1:(0:Int)≤z:=hw.1
 have h2:z≤4294967295:=hw.2
 obtain ⟨m,rfl⟩:∃ m:Nat,z=m:=⟨z.toNat,by omega⟩
 exact ⟨m,by omega,.one (.v _ rfl) rfl rfl,_,rfl,fun n e=>by cases e⟩
theorem Wo {n:Nat} {cs:List Value} {x:DataW H × List MemPlace} (h:Tr w enc n 3 cs=some x) (_:nj 3 x.1):∃ r:Int,True∧j3 w [I r] cs∧∃ u,cs[0]?=some u∧rU u:=by
 obtain ⟨z,rfl,rfl,hw⟩:=DataW.trod_int Tryz.underlying3 h
 exact ⟨z,trivial,.one (.v _ rfl) rfl rfl,_,rfl,fun n e=>by cases e⟩
theorem Rg (hT:sW w) {n:Nat} {cs:List Value} {x:DataW H × List MemPlace} (h:Tr w enc n 33 cs=some x) (hw:nj 33 x.1):∃ m:List Nat,(Lb m∧m.length < 4611686018427387904)∧j3 w [lm m] cs∧∃ u,cs[0]?=some u∧rU u:=by
 obtain ⟨l,v,rfl,h1,h2,h3,h4,h5⟩:=yc (k:=1) (bs:=4) Tryz.underlying33 (by kernel_rfl) (by decide) (by kernel_rfl) (fun (r:Nat)=>[U (r:Int)]) (fun r=>r < 4294967296) hT (fun n cs' x=>Wn) h hw
 refine ⟨l,⟨h1,?_⟩,.one h3 rfl h4,_,rfl,h5⟩
 unfold reachBytes at h2
 omega
theorem TO (hT:sW w) {n:Nat} {cs:List Value} {x:DataW H × List MemPlace} (h:Tr w enc n 56 cs=some x) (hw:nj 56 x.1):∃ m:List Int,True∧j3 w [.sl 1 (dp m)] cs∧∃ u,cs[0]?=some u∧rU u:=by
 obtain ⟨l,v,rfl,h1,h2,h3,h4,h5⟩:=yc (k:=1) (bs:=8) Tryz.underlying56 (by kernel_rfl) (by decide) (by kernel_rfl) (fun (r:Int)=>[I r]) (fun r=>True) hT (fun n cs' x=>Wo) h hw
 exact ⟨l,trivial,.one h3 rfl h4,_,rfl,h5⟩
theorem Kt (hT:sW w) {n:Nat} {cs:List Value} {x:DataW H × List MemPlace} (h:Tr w enc n 35 cs=some x) (hw:nj 35 x.1):∃ d:Rd,Ok0 d∧j3 w (am d) cs∧∃ u,cs[0]?=some u∧rU u:=by
 obtain ⟨y0,y1,y2,m,rfl,hl,h0,h1,h2⟩:=trod_struct3 Tryz.underlying35 h
 have hl3:cs.length=3:=hl.trans (by kernel_rfl)
 match cs,hl3 with
 | [a,b,c],_ =>
  have k0:Tr w enc m 4 [a]=some y0:=h0
  have k1:Tr w enc m 33 [b]=some y1:=h1
  have k2:Tr w enc m 3 [c]=some y2:=h2
  have w1:nj 33 y1.1:=fun q hq=>hw q (by simp [DataW.weights,DataW.weightsEach,Tryz.underlying35]; exact .inr (.inl hq))
  obtain ⟨bb,e0,e1⟩:=DataW.trod_bool Tryz.underlying4 k0
  simp only [List.cons.injEq,and_true] at e0
  subst e0
  obtain ⟨l,⟨q1,q2⟩,q3,_⟩:=Rg hT k1 w1
  obtain ⟨z,e2,e3,_⟩:=DataW.trod_int Tryz.underlying3 k2
  simp only [List.cons.injEq,and_true] at e2
  subst e2
  exact ⟨⟨bb,l,z⟩,⟨q1,q2⟩,(j3.one (.v _ rfl) rfl rfl).app (q3.app (.one (.v _ rfl) rfl rfl)),_,rfl,fun n e=>by cases e⟩
theorem TP (hT:sW w) {n:Nat} {cs:List Value} {x:DataW H × List MemPlace} (h:Tr w enc n 59 cs=some x) (hw:nj 59 x.1):∃ d:Rt,Ok0 d.c∧j3 w (cV d) cs∧∃ u,cs[0]?=some u∧rU u:=by
 obtain ⟨y0,y1,m,rfl,hl,h0,h1⟩:=trod_struct2 Tryz.underlying59 h
 have hl3:cs.length=4:=hl.trans (by kernel_rfl)
 match cs,hl3 with
 | [a,b,c,d],_ =>
  have k0:Tr w enc m 56 [a]=some y0:=h0
  have k1:Tr w enc m 35 [b,c,d]=some y1:=h1
  have w0:nj 56 y0.1:=fun q hq=>hw q (by simp [DataW.weights,DataW.weightsEach,Tryz.underlying59]; exact .inl hq)
  have w1:nj 35 y1.1:=fun q hq=>hw q (by simp [DataW.weights,DataW.weightsEach,Tryz.underlying59]; exact .inr hq)
  obtain ⟨l,_,q3,q4⟩:=TO hT k0 w0
  obtain ⟨d,d1,d2,_⟩:=Kt hT k1 w1
  exact ⟨⟨l,d⟩,d1,q3.app d2,q4⟩
theorem YQ (hT:sW w) {n:Nat} {cs:List Value} {x:DataW H × List MemPlace} (h:Tr w enc n 42 cs=some x) (hw:nj 42 x.1):∃ d:Ri,OkI d∧j3 w (bu d) cs∧∃ u,cs[0]?=some u∧rU u:=by
 obtain ⟨y0,y1,y2,m,rfl,hl,h0,h1,h2⟩:=trod_struct3 Tryz.underlying42 h
 have hl3:cs.length=7:=hl.trans (by kernel_rfl)
 match cs,hl3 with
 | [a,b,c,d,e,f,g],_ =>
  have k0:Tr w enc m 35 [a,b,c]=some y0:=h0
  have k1:Tr w enc m 35 [d,e,f]=some y1:=h1
  have k2:Tr w enc m 4 [g]=some y2:=h2
  have w0:nj 35 y0.1:=fun q hq=>hw q (by simp [DataW.weights,DataW.weightsEach,Tryz.underlying42]; exact .inl hq)
  have w1:nj 35 y1.1:=fun q hq=>hw q (by simp [DataW.weights,DataW.weightsEach,Tryz.underlying42]; exact .inr (.inl hq))
  obtain ⟨d0,p1,p2,p3⟩:=Kt hT k0 w0
  obtain ⟨d1,q1,q2,_⟩:=Kt hT k1 w1
  obtain ⟨bb,e0,e1⟩:=DataW.trod_bool Tryz.underlying4 k2
  simp only [List.cons.injEq,and_true] at e0
  subst e0
  exact ⟨⟨d0,d1,bb⟩,⟨p1,q1⟩,p2.app (q2.app (.one (.v _ rfl) rfl rfl)),p3⟩
theorem TQ (hT:sW w) {n:Nat} {us:Array Value} {x:DataW H × List MemPlace} (h:Tr w enc n 24 us.toList=some x) (hw:nj 24 x.1):∃ a:Rp,(∀ t ∈ a.terms,Ok0 t.c)∧RD w (zn w) (a8 a) (.agg us):=by
 obtain ⟨y0,y1,m,rfl,hl,h0,h1⟩:=trod_struct2 Tryz.underlying24 h
 have hl3:us.toList.length=2:=hl.trans (by kernel_rfl)
 obtain ⟨cs⟩:=us
 simp only at hl3 h0 h1
 match cs,hl3 with
 | [a,b],_ =>
  have k0:Tr w enc m 3 [a]=some y0:=h0
  have k1:Tr w enc m 22 [b]=some y1:=h1
  have w1:nj 22 y1.1:=fun q hq=>hw q (by simp [DataW.weights,DataW.weightsEach,Tryz.underlying24]; exact .inr hq)
  obtain ⟨z,e2,e3,_⟩:=DataW.trod_int Tryz.underlying3 k0
  simp only [List.cons.injEq,and_true] at e2
  subst e2
  obtain ⟨l,v,e4,q1,q2,q3,q4,q5⟩:=yc (k:=4) (bs:=64) Tryz.underlying22 (by kernel_rfl) (by decide) (by kernel_rfl) cV (fun t=>Ok0 t.c) hT (fun n cs' x=>TP hT) k1 w1
  simp only [List.cons.injEq,and_true] at e4
  subst e4
  refine ⟨⟨z,l⟩,q1,?_⟩
  have rc:j3 w [I z,.sl 4 (l.map cV)] [.int .i64 z,b]:=(j3.one (.v _ rfl) rfl rfl).app (.one q3 rfl q4)
  refine .agg _ _ rfl (fun i u hu => ?_) fun i c u hc hu => ?_
  ·have hu':[Value.int .i64 z,b][i]?=some u:=by simpa using hu
   obtain ⟨c,hc⟩:∃ c,[I z,AV.sl 4 (l.map cV)][i]?=some c:=⟨_,List.getElem?_eq_getElem (by have:=(List.getElem?_eq_some_iff.1 hu').1; simpa using this)⟩
   exact (rc.2 i c u hc hu').2.2
  ·exact (rc.2 i c u hc (by simpa using hu)).1
theorem Wp (hT:sW w) {n:Nat} {v:Value} {x:DataW H × List MemPlace} (h:Tr w enc n 25 [v]=some x) (hw:nj 25 x.1):∃ l:List Ri,(∀ d ∈ l,OkI d)∧RD w (zn w) (.sl 7 (dB l)) v:=by
 obtain ⟨l,v',e4,q1,q2,q3,q4,q5⟩:=yc (k:=7) (bs:=88) Tryz.underlying25 (by kernel_rfl) (by decide) (by kernel_rfl) bu OkI hT (fun n cs' x=>YQ hT) h hw
 simp only [List.cons.injEq,and_true] at e4
 subst e4
 exact ⟨l,q1,q3⟩
end
end Go.Ab
namespace Go.Ab
open Go Go.Proofs Go.ChangeShapes Go.WideShapes Go.RowKit
set_option maxRecDepth 100000
theorem CO {α:Type} {l:List (Nat × α)} {f:Nat} {x:α} (h:l.lookup f=some x):(f,x) ∈ l:=by
 induction l with
 | nil=>cases h
 | cons a l ih =>
  obtain ⟨i,y⟩:=a
  rw [List.lookup_cons] at h
  split at h
  ·rename_i he
   simp at he
   cases h
   subst he
   simp
  ·exact List.mem_cons_of_mem _ (ih h)
theorem abo:EnvOK Tryz.prog YN ah where
 mixed:=by kernel_rfl
 ext f g h:=by
  have:=CO h
  simp only [Xs,List.mem_cons,List.not_mem_nil,or_false,Prod.mk.injEq] at this
  obtain ⟨rfl,rfl⟩:=this
  have hk:ah.md.keep F.bits_TrailingZeros32=false:=by kernel_rfl
  rw [hk]
  exact @abn
 text f fd _ h:=TN _ (CO h)
theorem ahc : Tryz.prog.globalNamed "math/bits.deBruijn32tab" = some 0 := by kernel_rfl
theorem ahd:(Tryz.prog.globals[0]?).map (·.type)=some 229:=by kernel_rfl
abbrev u4 : List (String × DataW Unit) := [("math/bits.deBruijn32tab", YtlfcbamejofhkaaGreatDoor.Rows.laid_math_bits_deBruijn32tab)]
theorem Rh {W:World} (h:laidMetH Tryz.prog u4 W):TabAt 0 Lib.deBruijn32tab W∧sW W:=by
 rw [MakeChecks.laidMetH_plain _ _ _ (by kernel_rfl)] at h
 obtain ⟨ps,⟨g0,t0,cs0,f0,p0,q0,hg0,ht0,hv0,hd0,_,_⟩,_,_⟩:=h
 obtain rfl:=Option.some.inj (ahc.symm.trans hg0)
 obtain rfl:=Option.some.inj (ahd.symm.trans ht0)
 obtain ⟨xs,m1,rfl,hx1,hlen,hn3,hel⟩:=DataW.trod_array Tryz.underlying229 hd0
 have c5:Tryz.prog.cellsOf 5=1:=by kernel_rfl
 have c155:Tryz.prog.cellsOf 229=32:=by kernel_rfl
 rw [c155] at hlen
 simp only [Prod.mk.injEq] at hx1
 have hD:(YtlfcbamejofhkaaGreatDoor.Rows.laid_math_bits_deBruijn32tab:DataW Unit) = .agg (Lib.deBruijn32tab.map fun (k:Nat) => .lit (.int .u8 (k:Int))):=rfl
 have hmap:xs.map (·.1)=Lib.deBruijn32tab.map fun (k:Nat)=>(.lit (.int .u8 (k:Int)):DataW Unit):=by
  have:=hD.symm.trans hx1.1
  simpa using this.symm
 have key:∀ i,i < 32→cs0[i]?=some (.int .u8 (Lib.deBruijn32tab.getD i 0:Nat)):=fun i hi=>by
  have h1:=hel i hi
  rw [c5,Nat.mul_one] at h1
  obtain ⟨y,hy⟩:∃ y,xs[i]?=some y:=⟨xs[i]'(by omega),by simp⟩
  rw [hy] at h1
  obtain ⟨n,e1,e2,_⟩:=DataW.trod_int Tryz.underlying5 h1
  have h2:(xs.map (·.1))[i]?=some y.1:=by simp [hy]
  rw [hmap,List.getElem?_map] at h2
  have h3:Lib.deBruijn32tab[i]?=some (Lib.deBruijn32tab.getD i 0):=by
   rw [List.getD_eq_getElem?_getD,List.getElem?_eq_getElem (show i < Lib.deBruijn32tab.length from hi)]
   rfl
  rw [h3,e2] at h2
  simp only [Option.map_some,Option.some.injEq,DataW.lit.injEq,Lit.int.injEq,true_and] at h2
  have h4:cs0.toList[i]?=some (.int .u8 n):=by
   have:=congrArg (·[0]?) e1
   simpa [List.getElem?_take,List.getElem?_drop] using this
  rw [h2]
  simpa using h4
 refine ⟨fun j hj => ?_,fun o v hv => ?_⟩
 ·rw [World.var?_cell hg0 hv0 j]
  exact key j hj
 ·rw [World.var?_cell hg0 hv0 o] at hv
  have ho:o < 32:=by
   have:=(Array.getElem?_eq_some_iff.1 hv).1
   have h2:cs0.size=32:=by simpa using hlen
   omega
  rw [key o ho] at hv
  exact ⟨_,(Option.some.inj hv).symm⟩
theorem u5 (id:Nat) (sub:Option Nat) : ¬ live (ax []) id sub:=by
 have hd:ax [] id = .dead:=by
  unfold ax
  split <;> simp
 cases sub with
 | none=>simp [live,hd]
 | some p=>simp [live,hd]
def X0 (b:Nat):Prop:=b=0
def TR:bd:=fun _ _=>(0,0)
theorem ahe {W:World} (hs:0 < W.heap.size):Rel W X0 TR (ax []) where
 inj id sub id' sub' h:=(u5 id sub h).elim
 nx id sub h:=(u5 id sub h).elim
 ob id:=by
  have hd:ax [] id = .dead:=by
   unfold ax
   split <;> simp
  rw [hd]
  trivial
 xl b hb:=by unfold X0 at hb; omega
theorem ahf {W:World} {b:Nat} (h:zn W b):aE W X0 (ax []) TR b:=⟨h.1,h.2,fun ⟨id,sub,hl,_⟩=>u5 id sub hl⟩
theorem TS (n:Nat) (h:ac) (b:Bool):mat n h (B b)=(B b,h):=rfl
theorem Rj {f : Nat} {fn : Func} (hf : Tryz.prog.funcs[f]? = some fn) (hn : (fn.name == "runtime.NumGoroutine") = false) (hb : fn.body.isSome = true) {args : List AV} {vals : Array Value} {W : World} (hL : laidMetH Tryz.prog u4 W) (hz : R f args [] = some (B true, [])) (hs : vals.size = args.length)
  (hv:∀ (i:Nat) (c:AV) (u:Value),args[i]?=some c→vals[i]?=some u→RD W (zn W) c u) (he:(callFunc f vals).run Tryz.prog W = .ok (.enter f vals) W) :
  Calls Tryz.prog f vals W fun e W'=>e = .returned (.bool true)∧Below W.heap.size W W':=by
 obtain ⟨h1,h2⟩:=Rh hL
 have hs0:0 < W.heap.size:=by
  have:=h1 0 (by decide)
  unfold World.cell? at this
  split at this
  ·rename_i hb
   exact (Array.getElem?_eq_some_iff.1 hb).1
  ·cases this
 have key:=UT abo f (args:=args) (obs:=[]) (obs':=[]) (res:=B true) (w:=W) (X:=X0) (ρ:=TR) (vals:=vals) (n:=2000) hz (Nat.le_refl _) ⟨rfl,h1⟩ (ahe hs0) hs fun i c u hc hu => .dat ((hv i c u hc hu).mono fun b hb=>⟨ahf hb,rfl⟩)
 unfold Enters at key
 rw [he] at key
 refine Calls.mono key fun e W' hw => ?_
 cases e with
 | returned v =>
  obtain ⟨ρ',r,far,rv⟩:=hw
  rw [TS] at rv far
  obtain ⟨rfl,_⟩:=rv.v_inv
  exact ⟨rfl,far.os,far.tape,far.output,far.size,fun k hk=>far.old k hk fun ⟨id,sub,hl,_⟩=>u5 id sub hl⟩
 | _=>exact hw.elim
end Go.Ab
