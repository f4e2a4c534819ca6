/-
  The statement BoundNaive holds of the given program: its card, with the tied table of bits.TrailingZeros32; no further conditions. Part T1.
-/
import Derived.Test.YtmlojhdldbenaaaGreatDoorProg
import Derived.Shelf.Spec.TrailingZeros
import Derived.Test.YtmlojhdldbenaaaGreatDoorRows
import Derived.Deep.Strs
import Derived.ProofKit
import Derived.LaidMore
import Derived.OpenShut
import Derived.Carry
import Derived.Test.YtmlojhdldbenaaaGreatDoorW2
namespace Go.Ab
open Go Go.Proofs Go.Shelf
def VM:Ren:=⟨fun | 28=>188 | n=>n,fun | 25=>74 | 27=>41 | 53=>155 | n=>n,fun n=>n⟩
theorem S4:Lays7.n28 Tryz.prog VM where
 mixed:=by kernel_rfl
 f28:=by kernel_rfl
 t0:=by kernel_rfl
 a0:=Tryz.isAgg0
 z0:=Tryz.sizeOf0
 v0:=Tryz.zeroValue0
 i0:=by kernel_rfl
 t3:=by kernel_rfl
 a3:=Tryz.isAgg3
 z3:=Tryz.sizeOf3
 v3:=Tryz.zeroValue3
 i3:=by kernel_rfl
 t4:=by kernel_rfl
 a4:=Tryz.isAgg4
 z4:=Tryz.sizeOf4
 v4:=Tryz.zeroValue4
 i4:=by kernel_rfl
 t5:=by kernel_rfl
 a5:=Tryz.isAgg5
 z5:=Tryz.sizeOf5
 v5:=Tryz.zeroValue5
 i5:=by kernel_rfl
 t25:=by kernel_rfl
 a25:=Tryz.isAgg74
 z25:=Tryz.sizeOf74
 v25:=Tryz.zeroValue74
 i25:=by kernel_rfl
 t27:=by kernel_rfl
 a27:=Tryz.isAgg41
 z27:=Tryz.sizeOf41
 v27:=Tryz.zeroValue41
 i27:=by kernel_rfl
 t53:=by kernel_rfl
 a53:=Tryz.isAgg155
 z53:=Tryz.sizeOf155
 v53:=Tryz.zeroValue155
 i53:=by kernel_rfl
 g0:=by kernel_rfl
def Zv:Inv where
 p w X:=X 0∧TabAt 0 Lib.deBruijn32tab w
 stab:=fun {w w' X} h hs=>⟨h.1,fun j hj=>by rw [ie (hs 0 h.1)]; exact h.2 j hj⟩
 more:=fun h hx=>⟨hx 0 h.1,h.2⟩
theorem Od:∀ (k x:Nat),Lib.ctzFrom k x=GV k x
 | 0,x=>rfl
 | k+1,x=>by
  unfold Lib.ctzFrom GV
  rw [Od k (x / 2),Nat.add_comm]
set_option maxRecDepth 100000 in
theorem ab4:vC Tryz.prog Zv false F.bits_TrailingZeros32 Vl:=by
 intro args obs obs' res w X ρ vals n hz hn hi hr hs hv
 unfold Vl at hz
 split at hz
 ·rename_i x
  by_cases hc:0 < x∧x < 4294967296∧obs=[]
  ·rw [if_pos hc] at hz
   obtain ⟨h0,h1,rfl⟩:=hc
   simp only [Option.some.injEq,Prod.mk.injEq] at hz
   obtain ⟨rfl,rfl⟩:=hz
   have hv0:=hv 0 (.v (.int .u32 x)) (vals.getD 0 undef) rfl (by simp at hs; simp [Array.getD_eq_getD_getElem?,hs])
   have e0:vals = #[.int .u32 x]:=by
    simp only [List.length_cons,List.length_nil] at hs
    have:=hv0.v_inv.1
    apply Array.ext
    ·simpa using hs
    ·intro i h2 h3
     have:i=0:=by simp at h3; exact h3
     subst this
     simpa [Array.getD_eq_getD_getElem?,hs] using this
   subst e0
   obtain ⟨m,rfl⟩:∃ m:Nat,x=m:=⟨x.toNat,by omega⟩
   have key:=Any7.bits_TrailingZeros32 S4 m (by omega) w fun _=>hi.2
   have he:(callFunc F.bits_TrailingZeros32 #[.int .u32 (m:Int)]).run Tryz.prog w = .ok (.enter F.bits_TrailingZeros32 #[.int .u32 (m:Int)]) w:=(enters_of (S4.f28) (by kernel_rfl) rfl:Proofs.Enters Tryz.prog (VM.f 28)) _ _
   unfold Enters
   rw [he]
   refine Calls.mono key fun e w' hw => ?_
   obtain ⟨rfl,rfl⟩:=hw
   refine ⟨ρ,hr,.refl _ _ _ _,?_⟩
   refine .dat ?_
   have:Lib.ctz 32 m=GV 32 m:=by
    unfold Lib.ctz
    rw [if_neg (by omega),Od]
   simp only [this,Int.toNat_natCast,mat,cJ]
   exact .v _ rfl
  ·rw [if_neg hc] at hz
   cases hz
 ·cases hz
abbrev TX (f:Nat) (fd:FD):Prop:=Text Go.Proofs.Tryz.prog f fd
theorem tx {f : Nat} {fd : FD} {fn : Func} (h : Go.Proofs.Tryz.prog.funcs[f]? = some fn) (h2 : (fn.body.bind fun c => eg Go.Proofs.Tryz.prog fn.ntmps c fd.body, vx Go.Proofs.Tryz.prog fn.results.toList, decide (fn.ntmps ≤ 1000), fn.name == "runtime.NumGoroutine") = (some fd.body, some fd.res, true, false)) : TX f fd := by
 simp only [Prod.mk.injEq,Option.bind_eq_some_iff,decide_eq_true_eq] at h2
 obtain ⟨⟨c,h3,h4⟩,h5,h6,h7⟩:=h2
 exact ⟨⟨fn,c,_,h,h3,rfl,h6,h4,h5,h7⟩⟩
theorem tn:∀ p ∈ ([]:List (Nat × FD)),TX p.1 p.2:=fun _ h=>by cases h
theorem tc {f:Nat} {fd:FD} {l:List (Nat × FD)} (h1:TX f fd) (h2:∀ p ∈ l,TX p.1 p.2):∀ p ∈ (f,fd)::l,TX p.1 p.2:=fun p hp=>by
 rcases List.mem_cons.1 hp with rfl | hp
 ·exact h1
 ·exact h2 p hp
open Go.Proofs.Tryz
theorem t3:TX 3 dt:=tx func3 (by kernel_rfl)
theorem t4:TX 4 xS:=tx func4 (by kernel_rfl)
theorem t5:TX 5 lN:=tx func5 (by kernel_rfl)
theorem t6:TX 6 mJ:=tx func6 (by kernel_rfl)
theorem t7:TX 7 lj:=tx func7 (by kernel_rfl)
theorem t8:TX 8 iS:=tx func8 (by kernel_rfl)
theorem t9:TX 9 iT:=tx func9 (by kernel_rfl)
theorem t10:TX 10 Jv:=tx func10 (by kernel_rfl)
theorem t11:TX 11 wx:=tx func11 (by kernel_rfl)
theorem t12:TX 12 og:=tx func12 (by kernel_rfl)
theorem t13:TX 13 wz:=tx func13 (by kernel_rfl)
theorem t14:TX 14 cd:=tx func14 (by kernel_rfl)
theorem t15:TX 15 lk:=tx func15 (by kernel_rfl)
theorem t16:TX 16 kc:=tx func16 (by kernel_rfl)
theorem t17:TX 17 bE:=tx func17 (by kernel_rfl)
theorem t18:TX 18 jX:=tx func18 (by kernel_rfl)
theorem t19:TX 19 g8:=tx func19 (by kernel_rfl)
theorem t20:TX 20 lO:=tx func20 (by kernel_rfl)
theorem t21:TX 21 iK:=tx func21 (by kernel_rfl)
theorem t22:TX 22 fJ:=tx func22 (by kernel_rfl)
theorem t23:TX 23 iU:=tx func23 (by kernel_rfl)
theorem t24:TX 24 fK:=tx func24 (by kernel_rfl)
theorem t25:TX 25 fS:=tx func25 (by kernel_rfl)
theorem t26:TX 26 mK:=tx func26 (by kernel_rfl)
theorem t27:TX 27 oj:=tx func27 (by kernel_rfl)
theorem t28:TX 28 om:=tx func28 (by kernel_rfl)
theorem t29:TX 29 jB:=tx func29 (by kernel_rfl)
theorem t30:TX 30 lq:=tx func30 (by kernel_rfl)
theorem t31:TX 31 jC:=tx func31 (by kernel_rfl)
theorem t32:TX 32 rl:=tx func32 (by kernel_rfl)
theorem t33:TX 33 r9:=tx func33 (by kernel_rfl)
theorem t34:TX 34 qg:=tx func34 (by kernel_rfl)
theorem t35:TX 35 oo:=tx func35 (by kernel_rfl)
theorem t36:TX 36 fy:=tx func36 (by kernel_rfl)
theorem t37:TX 37 ej:=tx func37 (by kernel_rfl)
theorem t38:TX 38 cK:=tx func38 (by kernel_rfl)
theorem t39:TX 39 bH:=tx func39 (by kernel_rfl)
theorem t40:TX 40 fM:=tx func40 (by kernel_rfl)
theorem t41:TX 41 cM:=tx func41 (by kernel_rfl)
theorem t42:TX 42 iL:=tx func42 (by kernel_rfl)
theorem t43:TX 43 fZ:=tx func43 (by kernel_rfl)
theorem t44:TX 44 dW:=tx func44 (by kernel_rfl)
theorem t45:TX 45 jF:=tx func45 (by kernel_rfl)
theorem t46:TX 46 jG:=tx func46 (by kernel_rfl)
theorem t47:TX 47 lS:=tx func47 (by kernel_rfl)
theorem t48:TX 48 bU:=tx func48 (by kernel_rfl)
theorem t49:TX 49 jH:=tx func49 (by kernel_rfl)
theorem t50:TX 50 lT:=tx func50 (by kernel_rfl)
theorem t51:TX 51 eO:=tx func51 (by kernel_rfl)
theorem t52:TX 52 fA:=tx func52 (by kernel_rfl)
theorem t53:TX 53 mL:=tx func53 (by kernel_rfl)
theorem t54:TX 54 lr:=tx func54 (by kernel_rfl)
theorem t55:TX 55 pP:=tx func55 (by kernel_rfl)
theorem t56:TX 56 oq:=tx func56 (by kernel_rfl)
theorem t57:TX 57 ls:=tx func57 (by kernel_rfl)
theorem t58:TX 58 mM:=tx func58 (by kernel_rfl)
theorem t59:TX 59 el:=tx func59 (by kernel_rfl)
theorem t60:TX 60 ot:=tx func60 (by kernel_rfl)
theorem t61:TX 61 kh:=tx func61 (by kernel_rfl)
theorem t62:TX 62 qh:=tx func62 (by kernel_rfl)
theorem t63:TX 63 cF:=tx func63 (by kernel_rfl)
theorem t64:TX 64 gI:=tx func64 (by kernel_rfl)
theorem t65:TX 65 gJ:=tx func65 (by kernel_rfl)
theorem t66:TX 66 dK:=tx func66 (by kernel_rfl)
theorem t67:TX 67 tl:=tx func67 (by kernel_rfl)
theorem t68:TX 68 wD:=tx func68 (by kernel_rfl)
theorem t69:TX 69 tp:=tx func69 (by kernel_rfl)
theorem t70:TX 70 qi:=tx func70 (by kernel_rfl)
theorem t71:TX 71 mr:=tx func71 (by kernel_rfl)
theorem t72:TX 72 se:=tx func72 (by kernel_rfl)
theorem t73:TX 73 iV:=tx func73 (by kernel_rfl)
theorem t74:TX 74 iB:=tx func74 (by kernel_rfl)
theorem t75:TX 75 cu:=tx func75 (by kernel_rfl)
theorem t76:TX 76 ki:=tx func76 (by kernel_rfl)
theorem t77:TX 77 oA:=tx func77 (by kernel_rfl)
theorem t78:TX 78 il:=tx func78 (by kernel_rfl)
theorem t79:TX 79 oB:=tx func79 (by kernel_rfl)
theorem t80:TX 80 eB:=tx func80 (by kernel_rfl)
theorem t81:TX 81 ga:=tx func81 (by kernel_rfl)
theorem t82:TX 82 cG:=tx func82 (by kernel_rfl)
theorem t83:TX 83 gL:=tx func83 (by kernel_rfl)
theorem t84:TX 84 jZ:=tx func84 (by kernel_rfl)
theorem t85:TX 85 im:=tx func85 (by kernel_rfl)
theorem t86:TX 86 fN:=tx func86 (by kernel_rfl)
theorem t87:TX 87 fB:=tx func87 (by kernel_rfl)
theorem t88:TX 88 gr:=tx func88 (by kernel_rfl)
theorem t89:TX 89 eT:=tx func89 (by kernel_rfl)
theorem t90:TX 90 gM:=tx func90 (by kernel_rfl)
theorem t91:TX 91 oC:=tx func91 (by kernel_rfl)
theorem t92:TX 92 lW:=tx func92 (by kernel_rfl)
theorem t93:TX 93 oD:=tx func93 (by kernel_rfl)
theorem t94:TX 94 lX:=tx func94 (by kernel_rfl)
theorem t95:TX 95 oE:=tx func95 (by kernel_rfl)
theorem t96:TX 96 pQ:=tx func96 (by kernel_rfl)
theorem t97:TX 97 oF:=tx func97 (by kernel_rfl)
theorem t98:TX 98 lu:=tx func98 (by kernel_rfl)
theorem t99:TX 99 cL:=tx func99 (by kernel_rfl)
theorem afV:TX 100 eU:=tx func100 (by kernel_rfl)
theorem afW:TX 101 eA:=tx func101 (by kernel_rfl)
theorem afX:TX 102 uD:=tx func102 (by kernel_rfl)
theorem afY:TX 103 lv:=tx func103 (by kernel_rfl)
theorem afZ:TX 104 de:=tx func104 (by kernel_rfl)
theorem af0:TX 105 dN:=tx func105 (by kernel_rfl)
theorem af1:TX 106 qj:=tx func106 (by kernel_rfl)
theorem af2:TX 107 tq:=tx func107 (by kernel_rfl)
theorem af3:TX 108 o9:=tx func108 (by kernel_rfl)
theorem af4:TX 109 oG:=tx func109 (by kernel_rfl)
theorem af5:TX 110 qS:=tx func110 (by kernel_rfl)
theorem af6:TX 111 qT:=tx func111 (by kernel_rfl)
theorem af7:TX 112 kG:=tx func112 (by kernel_rfl)
theorem af8:TX 113 tr:=tx func113 (by kernel_rfl)
theorem af9:TX 114 mQ:=tx func114 (by kernel_rfl)
theorem aga:TX 115 pR:=tx func115 (by kernel_rfl)
theorem agb:TX 116 pS:=tx func116 (by kernel_rfl)
theorem agc:TX 117 oH:=tx func117 (by kernel_rfl)
theorem agd:TX 118 d9:=tx func118 (by kernel_rfl)
theorem age:TX 119 ip:=tx func119 (by kernel_rfl)
theorem agf:TX 120 lZ:=tx func120 (by kernel_rfl)
theorem agh:TX 121 j3:=tx func121 (by kernel_rfl)
theorem agi:TX 122 l4:=tx func122 (by kernel_rfl)
theorem agj:TX 123 gx:=tx func123 (by kernel_rfl)
theorem agk:TX 124 iY:=tx func124 (by kernel_rfl)
theorem agl:TX 125 fO:=tx func125 (by kernel_rfl)
theorem agm:TX 126 eI:=tx func126 (by kernel_rfl)
theorem agn:TX 127 iq:=tx func127 (by kernel_rfl)
theorem ago:TX 128 kH:=tx func128 (by kernel_rfl)
theorem agp:TX 129 hF:=tx func129 (by kernel_rfl)
theorem agq:TX 130 gb:=tx func130 (by kernel_rfl)
theorem ags:TX 131 pT:=tx func131 (by kernel_rfl)
theorem agt:TX 132 m5:=tx func132 (by kernel_rfl)
theorem agu:TX 133 iZ:=tx func133 (by kernel_rfl)
theorem agv:TX 134 hG:=tx func134 (by kernel_rfl)
theorem agw:TX 135 gO:=tx func135 (by kernel_rfl)
theorem agx:TX 136 ro:=tx func136 (by kernel_rfl)
theorem agy:TX 137 jK:=tx func137 (by kernel_rfl)
theorem agz:TX 138 oM:=tx func138 (by kernel_rfl)
theorem agA:TX 139 oN:=tx func139 (by kernel_rfl)
theorem agB:TX 140 rp:=tx func140 (by kernel_rfl)
theorem agC:TX 141 lz:=tx func141 (by kernel_rfl)
theorem agD:TX 142 gy:=tx func142 (by kernel_rfl)
theorem agE:TX 143 iM:=tx func143 (by kernel_rfl)
theorem agF:TX 144 ge:=tx func144 (by kernel_rfl)
theorem agG:TX 145 AC:=tx func145 (by kernel_rfl)
theorem agH:TX 146 tu:=tx func146 (by kernel_rfl)
theorem agI:TX 147 eV:=tx func147 (by kernel_rfl)
theorem agJ:TX 148 sn:=tx func148 (by kernel_rfl)
theorem agK:TX 149 uG:=tx func149 (by kernel_rfl)
theorem agL:TX 150 eW:=tx func150 (by kernel_rfl)
theorem agM:TX 151 dA:=tx func151 (by kernel_rfl)
theorem agN:TX 152 cw:=tx func152 (by kernel_rfl)
theorem agO:TX 153 it:=tx func153 (by kernel_rfl)
theorem agP:TX 154 gP:=tx func154 (by kernel_rfl)
theorem agQ:TX 155 kK:=tx func155 (by kernel_rfl)
theorem agR:TX 156 iu:=tx func156 (by kernel_rfl)
theorem agS:TX 157 l7:=tx func157 (by kernel_rfl)
theorem agT:TX 158 kL:=tx func158 (by kernel_rfl)
theorem agU:TX 159 i8:=tx func159 (by kernel_rfl)
theorem agV:TX 160 iN:=tx func160 (by kernel_rfl)
theorem agW:TX 161 m6:=tx func161 (by kernel_rfl)
theorem agX:TX 162 gz:=tx func162 (by kernel_rfl)
theorem agY:TX 163 cS:=tx func163 (by kernel_rfl)
theorem agZ:TX 164 cN:=tx func164 (by kernel_rfl)
theorem ag0:TX 165 hH:=tx func165 (by kernel_rfl)
theorem ag1:TX 166 pU:=tx func166 (by kernel_rfl)
theorem ag2:TX 167 oR:=tx func167 (by kernel_rfl)
theorem ag3:TX 168 lA:=tx func168 (by kernel_rfl)
theorem ag4:TX 169 ja:=tx func169 (by kernel_rfl)
theorem ag5:TX 170 gA:=tx func170 (by kernel_rfl)
theorem ag6:TX 171 pV:=tx func171 (by kernel_rfl)
theorem ag7:TX 172 tY:=tx func172 (by kernel_rfl)
theorem ag8:TX 173 oS:=tx func173 (by kernel_rfl)
theorem ag9:TX 174 vO:=tx func174 (by kernel_rfl)
theorem aha:TX 175 rq:=tx func175 (by kernel_rfl)
theorem ahb:TX 176 rr:=tx func176 (by kernel_rfl)
theorem ahc:TX 177 kN:=tx func177 (by kernel_rfl)
theorem ahd:TX 178 kj:=tx func178 (by kernel_rfl)
theorem ahe:TX 179 eX:=tx func179 (by kernel_rfl)
theorem ahf:TX 180 wM:=tx func180 (by kernel_rfl)
theorem ahg:TX 181 wN:=tx func181 (by kernel_rfl)
theorem ahh:TX 182 x6:=tx func182 (by kernel_rfl)
theorem ahi:TX 183 iO:=tx func183 (by kernel_rfl)
theorem ahj:TX 184 fT:=tx func184 (by kernel_rfl)
theorem ahk:TX 185 cx:=tx func185 (by kernel_rfl)
theorem ahl:TX 186 iP:=tx func186 (by kernel_rfl)
theorem ahm:TX 187 eY:=tx func187 (by kernel_rfl)
theorem ahn:TX 189 jc:=tx func189 (by kernel_rfl)
theorem aho:TX 190 jd:=tx func190 (by kernel_rfl)
theorem ahp:TX 191 l8:=tx func191 (by kernel_rfl)
theorem ahq:TX 192 qo:=tx func192 (by kernel_rfl)
theorem ahr:TX 193 ru:=tx func193 (by kernel_rfl)
theorem ahs:TX 194 l9:=tx func194 (by kernel_rfl)
theorem aht:TX 195 je:=tx func195 (by kernel_rfl)
theorem ahu:TX 196 qU:=tx func196 (by kernel_rfl)
theorem ahv:TX 197 cX:=tx func197 (by kernel_rfl)
theorem ahw:TX 198 fF:=tx func198 (by kernel_rfl)
theorem ahx:TX 199 m9:=tx func199 (by kernel_rfl)
theorem ahy:TX 200 nc:=tx func200 (by kernel_rfl)
theorem ahz:TX 201 qV:=tx func201 (by kernel_rfl)
theorem ahA:TX 202 su:=tx func202 (by kernel_rfl)
theorem ahB:TX 203 mR:=tx func203 (by kernel_rfl)
theorem ahC:TX 204 sv:=tx func204 (by kernel_rfl)
theorem ahD:TX 205 tv:=tx func205 (by kernel_rfl)
theorem ahE:TX 206 wR:=tx func206 (by kernel_rfl)
theorem ahF:TX 207 sw:=tx func207 (by kernel_rfl)
set_option maxRecDepth 100000 in
theorem U7:∀ p ∈ Vk,TX p.1 p.2:=tc t3 (tc t4 (tc t5 (tc t6 (tc t7 (tc t8 (tc t9 (tc t10 (tc t11 (tc t12 (tc t13 (tc t14 (tc t15 (tc t16 (tc t17 (tc t18 (tc t19 (tc t20 (tc t21 (tc t22 (tc t23 (tc t24 (tc t25 (tc t26 (tc t27 (tc t28 (tc t29 (tc t30 (tc t31 (tc t32 (tc t33 (tc t34 (tc t35 (tc t36 (tc t37 (tc t38 (tc t39 (tc t40 (tc t41 (tc t42 (tc t43 (tc t44 (tc t45 (tc t46 (tc t47 (tc t48 (tc t49 (tc t50 (tc t51 (tc t52 (tc t53 (tc t54 (tc t55 (tc t56 (tc t57 (tc t58 (tc t59 (tc t60 (tc t61 (tc t62 (tc t63 (tc t64 (tc t65 (tc t66 (tc t67 (tc t68 (tc t69 (tc t70 (tc t71 (tc t72 (tc t73 (tc t74 (tc t75 (tc t76 (tc t77 (tc t78 (tc t79 (tc t80 (tc t81 (tc t82 (tc t83 (tc t84 (tc t85 (tc t86 (tc t87 (tc t88 (tc t89 (tc t90 (tc t91 (tc t92 (tc t93 (tc t94 (tc t95 (tc t96 (tc t97 (tc t98 (tc t99 (tc afV (tc afW (tc afX (tc afY (tc afZ (tc af0 (tc af1 (tc af2 (tc af3 (tc af4 (tc af5 (tc af6 (tc af7 (tc af8 (tc af9 (tc aga (tc agb (tc agc (tc agd (tc age (tc agf (tc agh (tc agi (tc agj (tc agk (tc agl (tc agm (tc agn (tc ago (tc agp (tc agq (tc ags (tc agt (tc agu (tc agv (tc agw (tc agx (tc agy (tc agz (tc agA (tc agB (tc agC (tc agD (tc agE (tc agF (tc agG (tc agH (tc agI (tc agJ (tc agK (tc agL (tc agM (tc agN (tc agO (tc agP (tc agQ (tc agR (tc agS (tc agT (tc agU (tc agV (tc agW (tc agX (tc agY (tc agZ (tc ag0 (tc ag1 (tc ag2 (tc ag3 (tc ag4 (tc ag5 (tc ag6 (tc ag7 (tc ag8 (tc ag9 (tc aha (tc ahb (tc ahc (tc ahd (tc ahe (tc ahf (tc ahg (tc ahh (tc ahi (tc ahj (tc ahk (tc ahl (tc ahm (tc ahn (tc aho (tc ahp (tc ahq (tc ahr (tc ahs (tc aht (tc ahu (tc ahv (tc ahw (tc ahx (tc ahy (tc ahz (tc ahA (tc ahB (tc ahC (tc ahD (tc ahE (tc ahF (tn))))))))))))))))))))))))))))))))))))))))))))))))))))))))))))))))))))))))))))))))))))))))))))))))))))))))))))))))))))))))))))))))))))))))))))))))))))))))))))))))))))))))))))))))))))))))))))))))))))))))))))
end Go.Ab
namespace Go.Ab
open Go Go.Proofs Go.ChangeShapes Go.WideShapes Go.Deep Go.RowKit
set_option maxRecDepth 100000
section
variable {H:Type} {enc:TypeId × Value→H} {w:World}
def AL (w:World) (b:Nat):Prop:=b < w.heap.size∧b ≠ 0
def uj (w:World):Prop:=∀ o v,w.cell? ⟨0,o,none⟩=some v→∃ n,v = .int .u8 n
def sW (u:Value):Prop:=∀ n,u ≠ .int .u8 n
theorem Zw (ht:uj w) {a:Addr} {u:Value} (h:w.cell? a=some u) (hn:sW u):AL w a.block∧a.spot=none:=by
 have h1:a.spot=none:=by
  unfold World.cell? at h
  split at h
  ·split at h
   ·cases h
   ·rename_i hs
    simpa using hs
  ·cases h
 refine ⟨⟨?_,fun h0 => ?_⟩,h1⟩
 ·unfold World.cell? at h
  split at h
  ·rename_i hb
   exact (Array.getElem?_eq_some_iff.1 hb).1
  ·cases h
 ·obtain ⟨b,o,s⟩:=a
  simp only at h0 h1
  subst h0 h1
  obtain ⟨n,hv⟩:=ht o u h
  exact hn n hv
def kB (w:World) (fs:List AV) (cs:List Value):Prop :=
 fs.length=cs.length∧∀ (j:Nat) (c:AV) (u:Value),fs[j]?=some c→cs[j]?=some u→RD w (AL w) c u∧aD c=true∧u.oneCell'=true
theorem kB.app {fa fb:List AV} {ca cb:List Value} (ha:kB w fa ca) (hb:kB w fb cb):kB w (fa++fb) (ca++cb):=by
 refine ⟨by simp [ha.1,hb.1],fun j c u h1 h2 => ?_⟩
 by_cases hj:j < fa.length
 ·rw [List.getElem?_append_left hj] at h1
  rw [List.getElem?_append_left (by rw [← ha.1]; exact hj)] at h2
  exact ha.2 j c u h1 h2
 ·rw [List.getElem?_append_right (by omega)] at h1
  rw [List.getElem?_append_right (by rw [← ha.1]; omega),← ha.1] at h2
  exact hb.2 _ c u h1 h2
theorem kB.one {c:AV} {u:Value} (h:RD w (AL w) c u) (hd:aD c=true) (h1:u.oneCell'=true):kB w [c] [u]:=by
 refine ⟨rfl,fun j c' u' hc hu => ?_⟩
 cases j with
 | zero=>simp at hc hu; subst hc hu; exact ⟨h,hd,h1⟩
 | succ j=>simp at hc
noncomputable abbrev Tr (w:World) (enc:TypeId × Value→H) (n:Nat) (t:TypeId) (cs:List Value):Option (DataW H × List MemPlace):=DataW.trod enc Tryz.prog w 0 (fun _=>true) true n t cs
def nS (t:TypeId) (d:DataW H):Prop:=∀ m ∈ DataW.weights Tryz.prog t d,m≤reachBytes
theorem Zx {e:TypeId}:∀ {l:List (DataW H)} {d:DataW H} {m:Nat},d ∈ l→m ∈ DataW.weights Tryz.prog e d→m ∈ DataW.weightsAll Tryz.prog e l
 | [],d,m,h,_=>by simp at h
 | a::l,d,m,h,hm=>by
  simp only [DataW.weightsAll,List.mem_append]
  rcases List.mem_cons.1 h with rfl | h
  ·exact .inl hm
  ·exact .inr (Zx h hm)
theorem Oe {α:Type} {p:Nat→α→Prop}:∀ (n:Nat),(∀ i,i < n→∃ r,p i r)→∃ l:List α,l.length=n∧∀ (i:Nat) (r:α),l[i]?=some r→p i r
 | 0,_=>⟨[],rfl,fun i r h=>by simp at h⟩
 | n+1,h=>by
  obtain ⟨l,h1,h2⟩:=Oe n fun i hi=>h i (by omega)
  obtain ⟨r,hr⟩:=h n (by omega)
  refine ⟨l++[r],by simp [h1],fun i r' hi => ?_⟩
  by_cases hin:i < n
  ·rw [List.getElem?_append_left (by omega)] at hi
   exact h2 i r' hi
  ·rw [List.getElem?_append_right (by omega)] at hi
   have:i=n:=by
    have:=(List.getElem?_eq_some_iff.1 hi).1
    simp at this
    omega
   subst this
   simp [h1] at hi
   subst hi
   exact hr
theorem zB {α:Type} {t e:TypeId} {k bs:Nat} (ht:Tryz.prog.underlying t=some (.slice e)) (hk:Tryz.prog.cellsOf e=k) (h0:0 < k) (hbs:Tryz.prog.bytesOf e=bs) (F:α→List AV) (Q:α→Prop) (hT:uj w)
  (hrow:∀ n cs' x,Tr w enc n e cs'=some x→nS e x.1→∃ r,Q r∧kB w (F r) cs'∧∃ u,cs'[0]?=some u∧sW u) {fuel:Nat} {cs:List Value} {x:DataW H × List MemPlace}
  (h:Tr w enc fuel t cs=some x) (hw:nS t x.1):∃ (l:List α) (v:Value),cs=[v]∧(∀ r ∈ l,Q r)∧l.length*bs≤reachBytes∧RD w (AL w) (.sl k (l.map F)) v∧v.oneCell'=true∧sW v:=by
 rcases open_slice ht h with ⟨rfl,_⟩ | ⟨a,len,cap,m,n,D,Pl,rfl,hb,hl,hm,hmm,rfl,hx⟩
 ·exact ⟨[],_,rfl,fun r hr=>by simp at hr,by simp,.sl k [] none 0 ⟨0,0,none⟩ (fun _ _=>undef) (by simp) (fun h=>absurd rfl h) (fun r hr=>by simp at hr) (fun i r j c hr=>by simp at hr) (fun r hr=>by simp at hr) (fun i r j c hr=>by simp at hr),rfl,fun n e=>by cases e⟩
 ·have hlm:len≤m:=by rw [hmm]; split <;> omega
  have hwe:∀ i,i < len→nS e (D i):=fun i hi q hq=>by
   refine hw q ?_
   simp only [DataW.weights,ht,List.mem_cons,List.mem_append]
   exact .inr (.inl (Zx (List.mem_map.2 ⟨i,List.mem_range.2 hi,rfl⟩) hq))
  have hbn:len*bs≤reachBytes:=by
   have:=hw ((((List.range len).map D).length+((List.range (m - len)).map fun j=>D (len+j)).length)*Tryz.prog.bytesOf e) (by simp [DataW.weights,ht])
   simp only [List.length_map,List.length_range,hbs] at this
   exact Nat.le_trans (Nat.mul_le_mul_right _ (by omega)) this
  obtain ⟨l,l1,l2⟩:=Oe (p:=fun i r=>Q r∧∃ cs',w.cells? 0 (a.add (i*k)) k=some cs'∧kB w (F r) cs'∧∃ u,cs'[0]?=some u∧sW u) len fun i hi=>by
   obtain ⟨cs',h1,h2⟩:=hx i (by omega)
   obtain ⟨r,g1,g2,g3⟩:=hrow _ _ _ h2 (hwe i hi)
   rw [hk] at h1
   exact ⟨r,g1,cs',h1,g2,g3⟩
  have cell:∀ (i:Nat) (row:List AV) (j:Nat) (c:AV),(l.map F)[i]?=some row→row[j]?=some c→∃ u,w.cell? (a.add (i*k+j))=some u∧RD w (AL w) c u∧aD c=true:=fun i row j c hi hj=>by
   simp only [List.getElem?_map,Option.map_eq_some_iff] at hi
   obtain ⟨r,hr,rfl⟩:=hi
   obtain ⟨_,cs',c1,c2,_⟩:=l2 i r hr
   obtain ⟨_,c3,c4⟩:=World.cells?_some c1
   have hjk:j < k:=by
    have:=(List.getElem?_eq_some_iff.1 hj).1
    rw [c2.1,c3] at this
    exact this
   have:=c4 j hjk
   rw [rS] at this
   obtain ⟨u,hu⟩:∃ u,cs'[j]?=some u:=⟨cs'[j]'(by omega),by simp⟩
   exact ⟨u,by rw [this,hu],(c2.2 j c u hj hu).1,(c2.2 j c u hj hu).2.1⟩
  refine ⟨l,_,rfl,fun r hr => ?_,by rw [l1]; exact hbn,?_,rfl,fun n e=>by cases e⟩
  ·obtain ⟨i,hi⟩:=List.getElem?_of_mem hr
   exact (l2 i r hi).1
  ·have:=RD.sl (w:=w) (A:=AL w) k (l.map F) (some a) cap a (fun i j=>(w.cell? (a.add (i*k+j))).getD undef) (by simp [l1,hl]) (fun hne => ?_) (fun row hr => ?_) (fun i row j c hi hj => ?_) (fun row hr c hc => ?_) (fun i row j c hi hj => ?_)
   ·simpa [l1] using this
   ·have hlen:0 < l.length:=List.length_pos_iff.2 fun e=>hne (by simp [e])
    obtain ⟨_,cs',c1,c2,u,c3,c4⟩:=l2 0 l[0] (by simp)
    have:=(World.cells?_some c1).2.2 0 h0
    rw [c3,Nat.zero_mul,s6,s6] at this
    obtain ⟨q1,q2⟩:=Zw hT this c4
    exact ⟨rfl,q1,q2⟩
   ·simp only [List.mem_map] at hr
    obtain ⟨r,hr,rfl⟩:=hr
    obtain ⟨i,hi⟩:=List.getElem?_of_mem hr
    obtain ⟨_,cs',c1,c2,_⟩:=l2 i r hi
    rw [c2.1]
    exact (World.cells?_some c1).2.1
   ·obtain ⟨u,q1,_⟩:=cell i row j c hi hj
    rw [q1]; rfl
   ·obtain ⟨i,hi⟩:=List.getElem?_of_mem hr
    obtain ⟨j,hj⟩:=List.getElem?_of_mem hc
    obtain ⟨u,_,_,q⟩:=cell i row j c hi hj
    exact q
   ·obtain ⟨u,q1,q2,_⟩:=cell i row j c hi hj
    rw [q1]; exact q2
theorem Xf {n:Nat} {cs:List Value} {x:DataW H × List MemPlace} (h:Tr w enc n 41 cs=some x) (_:nS 41 x.1):∃ r:Nat,r < 4294967296∧kB w [U (r:Int)] cs∧∃ u,cs[0]?=some u∧sW u:=by
 obtain ⟨z,rfl,rfl,hw⟩:=DataW.trod_int Tryz.underlying41 h
 simp only [Lit.wf,Bool.and_eq_true,decide_eq_true_eq] at hw
 have h1:(0:Int)≤z:=hw.1
 have h2:z≤4294967295:=hw.2
 obtain ⟨m,rfl⟩:∃ m:Nat,z=m:=⟨z.toNat,by omega⟩
 exact ⟨m,by omega,.one (.v _ rfl) rfl rfl,_,rfl,fun n e=>by cases e⟩
theorem Xg {n:Nat} {cs:List Value} {x:DataW H × List MemPlace} (h:Tr w enc n 3 cs=some x) (_:nS 3 x.1):∃ r:Int,True∧kB w [I r] cs∧∃ u,cs[0]?=some u∧sW u:=by
 obtain ⟨z,rfl,rfl,hw⟩:=DataW.trod_int Tryz.underlying3 h
 exact ⟨z,trivial,.one (.v _ rfl) rfl rfl,_,rfl,fun n e=>by cases e⟩
theorem S5 (hT:uj w) {n:Nat} {cs:List Value} {x:DataW H × List MemPlace} (h:Tr w enc n 30 cs=some x) (hw:nS 30 x.1):∃ m:List Nat,(Lb m∧m.length < 4611686018427387904)∧kB w [lm m] cs∧∃ u,cs[0]?=some u∧sW u:=by
 obtain ⟨l,v,rfl,h1,h2,h3,h4,h5⟩:=zB (k:=1) (bs:=4) Tryz.underlying30 (by kernel_rfl) (by decide) (by kernel_rfl) (fun (r:Nat)=>[U (r:Int)]) (fun r=>r < 4294967296) hT (fun n cs' x=>Xf) h hw
 refine ⟨l,⟨h1,?_⟩,.one h3 rfl h4,_,rfl,h5⟩
 unfold reachBytes at h2
 omega
theorem U8 (hT:uj w) {n:Nat} {cs:List Value} {x:DataW H × List MemPlace} (h:Tr w enc n 37 cs=some x) (hw:nS 37 x.1):∃ m:List Int,True∧kB w [.sl 1 (dO m)] cs∧∃ u,cs[0]?=some u∧sW u:=by
 obtain ⟨l,v,rfl,h1,h2,h3,h4,h5⟩:=zB (k:=1) (bs:=8) Tryz.underlying37 (by kernel_rfl) (by decide) (by kernel_rfl) (fun (r:Int)=>[I r]) (fun r=>True) hT (fun n cs' x=>Xg) h hw
 exact ⟨l,trivial,.one h3 rfl h4,_,rfl,h5⟩
theorem LZ (hT:uj w) {n:Nat} {cs:List Value} {x:DataW H × List MemPlace} (h:Tr w enc n 32 cs=some x) (hw:nS 32 x.1):∃ d:Rd,Ok0 d∧kB w (aj d) cs∧∃ u,cs[0]?=some u∧sW u:=by
 obtain ⟨y0,y1,y2,m,rfl,hl,h0,h1,h2⟩:=trod_struct3 Tryz.underlying32 h
 have hl3:cs.length=3:=hl.trans (by kernel_rfl)
 match cs,hl3 with
 | [a,b,c],_ =>
  have k0:Tr w enc m 4 [a]=some y0:=h0
  have k1:Tr w enc m 30 [b]=some y1:=h1
  have k2:Tr w enc m 3 [c]=some y2:=h2
  have w1:nS 30 y1.1:=fun q hq=>hw q (by simp [DataW.weights,DataW.weightsEach,Tryz.underlying32]; exact .inr (.inl hq))
  obtain ⟨bb,e0,e1⟩:=DataW.trod_bool Tryz.underlying4 k0
  simp only [List.cons.injEq,and_true] at e0
  subst e0
  obtain ⟨l,⟨q1,q2⟩,q3,_⟩:=S5 hT k1 w1
  obtain ⟨z,e2,e3,_⟩:=DataW.trod_int Tryz.underlying3 k2
  simp only [List.cons.injEq,and_true] at e2
  subst e2
  exact ⟨⟨bb,l,z⟩,⟨q1,q2⟩,(kB.one (.v _ rfl) rfl rfl).app (q3.app (.one (.v _ rfl) rfl rfl)),_,rfl,fun n e=>by cases e⟩
theorem U9 (hT:uj w) {n:Nat} {cs:List Value} {x:DataW H × List MemPlace} (h:Tr w enc n 40 cs=some x) (hw:nS 40 x.1):∃ d:Rt,Ok0 d.c∧kB w (dY d) cs∧∃ u,cs[0]?=some u∧sW u:=by
 obtain ⟨y0,y1,m,rfl,hl,h0,h1⟩:=trod_struct2 Tryz.underlying40 h
 have hl3:cs.length=4:=hl.trans (by kernel_rfl)
 match cs,hl3 with
 | [a,b,c,d],_ =>
  have k0:Tr w enc m 37 [a]=some y0:=h0
  have k1:Tr w enc m 32 [b,c,d]=some y1:=h1
  have w0:nS 37 y0.1:=fun q hq=>hw q (by simp [DataW.weights,DataW.weightsEach,Tryz.underlying40]; exact .inl hq)
  have w1:nS 32 y1.1:=fun q hq=>hw q (by simp [DataW.weights,DataW.weightsEach,Tryz.underlying40]; exact .inr hq)
  obtain ⟨l,_,q3,q4⟩:=U8 hT k0 w0
  obtain ⟨d,d1,d2,_⟩:=LZ hT k1 w1
  exact ⟨⟨l,d⟩,d1,q3.app d2,q4⟩
theorem Zy (hT:uj w) {n:Nat} {cs:List Value} {x:DataW H × List MemPlace} (h:Tr w enc n 34 cs=some x) (hw:nS 34 x.1):∃ d:Ri,OkI d∧kB w (az d) cs∧∃ u,cs[0]?=some u∧sW u:=by
 obtain ⟨y0,y1,y2,m,rfl,hl,h0,h1,h2⟩:=trod_struct3 Tryz.underlying34 h
 have hl3:cs.length=7:=hl.trans (by kernel_rfl)
 match cs,hl3 with
 | [a,b,c,d,e,f,g],_ =>
  have k0:Tr w enc m 32 [a,b,c]=some y0:=h0
  have k1:Tr w enc m 32 [d,e,f]=some y1:=h1
  have k2:Tr w enc m 4 [g]=some y2:=h2
  have w0:nS 32 y0.1:=fun q hq=>hw q (by simp [DataW.weights,DataW.weightsEach,Tryz.underlying34]; exact .inl hq)
  have w1:nS 32 y1.1:=fun q hq=>hw q (by simp [DataW.weights,DataW.weightsEach,Tryz.underlying34]; exact .inr (.inl hq))
  obtain ⟨d0,p1,p2,p3⟩:=LZ hT k0 w0
  obtain ⟨d1,q1,q2,_⟩:=LZ hT k1 w1
  obtain ⟨bb,e0,e1⟩:=DataW.trod_bool Tryz.underlying4 k2
  simp only [List.cons.injEq,and_true] at e0
  subst e0
  exact ⟨⟨d0,d1,bb⟩,⟨p1,q1⟩,p2.app (q2.app (.one (.v _ rfl) rfl rfl)),p3⟩
theorem Va (hT:uj w) {n:Nat} {us:Array Value} {x:DataW H × List MemPlace} (h:Tr w enc n 24 us.toList=some x) (hw:nS 24 x.1):∃ a:Rp,(∀ t ∈ a.terms,Ok0 t.c)∧RD w (AL w) (cI a) (.agg us):=by
 obtain ⟨y0,y1,m,rfl,hl,h0,h1⟩:=trod_struct2 Tryz.underlying24 h
 have hl3:us.toList.length=2:=hl.trans (by kernel_rfl)
 obtain ⟨cs⟩:=us
 simp only at hl3 h0 h1
 match cs,hl3 with
 | [a,b],_ =>
  have k0:Tr w enc m 3 [a]=some y0:=h0
  have k1:Tr w enc m 22 [b]=some y1:=h1
  have w1:nS 22 y1.1:=fun q hq=>hw q (by simp [DataW.weights,DataW.weightsEach,Tryz.underlying24]; exact .inr hq)
  obtain ⟨z,e2,e3,_⟩:=DataW.trod_int Tryz.underlying3 k0
  simp only [List.cons.injEq,and_true] at e2
  subst e2
  obtain ⟨l,v,e4,q1,q2,q3,q4,q5⟩:=zB (k:=4) (bs:=64) Tryz.underlying22 (by kernel_rfl) (by decide) (by kernel_rfl) dY (fun t=>Ok0 t.c) hT (fun n cs' x=>U9 hT) k1 w1
  simp only [List.cons.injEq,and_true] at e4
  subst e4
  refine ⟨⟨z,l⟩,q1,?_⟩
  have rc:kB w [I z,.sl 4 (l.map dY)] [.int .i64 z,b]:=(kB.one (.v _ rfl) rfl rfl).app (.one q3 rfl q4)
  refine .agg _ _ rfl (fun i u hu => ?_) fun i c u hc hu => ?_
  ·have hu':[Value.int .i64 z,b][i]?=some u:=by simpa using hu
   obtain ⟨c,hc⟩:∃ c,[I z,AV.sl 4 (l.map dY)][i]?=some c:=⟨_,List.getElem?_eq_getElem (by have:=(List.getElem?_eq_some_iff.1 hu').1; simpa using this)⟩
   exact (rc.2 i c u hc hu').2.2
  ·exact (rc.2 i c u hc (by simpa using hu)).1
theorem Xh (hT:uj w) {n:Nat} {v:Value} {x:DataW H × List MemPlace} (h:Tr w enc n 25 [v]=some x) (hw:nS 25 x.1):∃ l:List Ri,(∀ d ∈ l,OkI d)∧RD w (AL w) (.sl 7 (dp l)) v:=by
 obtain ⟨l,v',e4,q1,q2,q3,q4,q5⟩:=zB (k:=7) (bs:=88) Tryz.underlying25 (by kernel_rfl) (by decide) (by kernel_rfl) az OkI hT (fun n cs' x=>Zy hT) h hw
 simp only [List.cons.injEq,and_true] at e4
 subst e4
 exact ⟨l,q1,q3⟩
end
end Go.Ab
namespace Go.Ab
open Go Go.Proofs Go.ChangeShapes Go.WideShapes Go.RowKit
set_option maxRecDepth 100000
theorem Ek {α:Type} {l:List (Nat × α)} {f:Nat} {x:α} (h:l.lookup f=some x):(f,x) ∈ l:=by
 induction l with
 | nil=>cases h
 | cons a l ih =>
  obtain ⟨i,y⟩:=a
  rw [List.lookup_cons] at h
  split at h
  ·rename_i he
   simp at he
   cases h
   subst he
   simp
  ·exact List.mem_cons_of_mem _ (ih h)
theorem ab5:EnvOK Tryz.prog Zv ai where
 mixed:=by kernel_rfl
 ext f g h:=by
  have:=Ek h
  simp only [X9,List.mem_cons,List.not_mem_nil,or_false,Prod.mk.injEq] at this
  obtain ⟨rfl,rfl⟩:=this
  have hk:ai.md.keep F.bits_TrailingZeros32=false:=by kernel_rfl
  rw [hk]
  exact @ab4
 text f fd _ h:=U7 _ (Ek h)
theorem ahG : Tryz.prog.globalNamed "math/bits.deBruijn32tab" = some 0 := by kernel_rfl
theorem ahH:(Tryz.prog.globals[0]?).map (·.type)=some 155:=by kernel_rfl
abbrev ws : List (String × DataW Unit) := [("math/bits.deBruijn32tab", YtmlojhdldbenaaaGreatDoor.Rows.laid_math_bits_deBruijn32tab)]
theorem S6 {W:World} (h:laidMetH Tryz.prog ws W):TabAt 0 Lib.deBruijn32tab W∧uj W:=by
 rw [MakeChecks.laidMetH_plain _ _ _ (by kernel_rfl)] at h
 obtain ⟨ps,⟨g0,t0,cs0,f0,p0,q0,hg0,ht0,hv0,hd0,_,_⟩,_,_⟩:=h
 obtain rfl:=Option.some.inj (ahG.symm.trans hg0)
 obtain rfl:=Option.some.inj (ahH.symm.trans ht0)
 obtain ⟨xs,m1,rfl,hx1,hlen,hn3,hel⟩:=DataW.trod_array Tryz.underlying155 hd0
 have c5:Tryz.prog.cellsOf 5=1:=by kernel_rfl
 have c155:Tryz.prog.cellsOf 155=32:=by kernel_rfl
 rw [c155] at hlen
 simp only [Prod.mk.injEq] at hx1
 have hD:(YtmlojhdldbenaaaGreatDoor.Rows.laid_math_bits_deBruijn32tab:DataW Unit) = .agg (Lib.deBruijn32tab.map fun (k:Nat) => .lit (.int .u8 (k:Int))):=rfl
 have hmap:xs.map (·.1)=Lib.deBruijn32tab.map fun (k:Nat)=>(.lit (.int .u8 (k:Int)):DataW Unit):=by
  have:=hD.symm.trans hx1.1
  simpa using this.symm
 have key:∀ i,i < 32→cs0[i]?=some (.int .u8 (Lib.deBruijn32tab.getD i 0:Nat)):=fun i hi=>by
  have h1:=hel i hi
  rw [c5,Nat.mul_one] at h1
  obtain ⟨y,hy⟩:∃ y,xs[i]?=some y:=⟨xs[i]'(by omega),by simp⟩
  rw [hy] at h1
  obtain ⟨n,e1,e2,_⟩:=DataW.trod_int Tryz.underlying5 h1
  have h2:(xs.map (·.1))[i]?=some y.1:=by simp [hy]
  rw [hmap,List.getElem?_map] at h2
  have h3:Lib.deBruijn32tab[i]?=some (Lib.deBruijn32tab.getD i 0):=by
   rw [List.getD_eq_getElem?_getD,List.getElem?_eq_getElem (show i < Lib.deBruijn32tab.length from hi)]
   rfl
  rw [h3,e2] at h2
  simp only [Option.map_some,Option.some.injEq,DataW.lit.injEq,Lit.int.injEq,true_and] at h2
  have h4:cs0.toList[i]?=some (.int .u8 n):=by
   have:=congrArg (·[0]?) e1
   simpa [List.getElem?_take,List.getElem?_drop] using this
  rw [h2]
  simpa using h4
 refine ⟨fun j hj => ?_,fun o v hv => ?_⟩
 ·rw [World.var?_cell hg0 hv0 j]
  exact key j hj
 ·rw [World.var?_cell hg0 hv0 o] at hv
  have ho:o < 32:=by
   have:=(Array.getElem?_eq_some_iff.1 hv).1
   have h2:cs0.size=32:=by simpa using hlen
   omega
  rw [key o ho] at hv
  exact ⟨_,(Option.some.inj hv).symm⟩
theorem wt (id:Nat) (sub:Option Nat) : ¬ live (aB []) id sub:=by
 have hd:aB [] id = .dead:=by
  unfold aB
  split <;> simp
 cases sub with
 | none=>simp [live,hd]
 | some p=>simp [live,hd]
def X0 (b:Nat):Prop:=b=0
def Vb:bj:=fun _ _=>(0,0)
theorem ahI {W:World} (hs:0 < W.heap.size):Rel W X0 Vb (aB []) where
 inj id sub id' sub' h:=(wt id sub h).elim
 nx id sub h:=(wt id sub h).elim
 ob id:=by
  have hd:aB [] id = .dead:=by
   unfold aB
   split <;> simp
  rw [hd]
  trivial
 xl b hb:=by unfold X0 at hb; omega
theorem ahJ {W:World} {b:Nat} (h:AL W b):aG W X0 (aB []) Vb b:=⟨h.1,h.2,fun ⟨id,sub,hl,_⟩=>wt id sub hl⟩
theorem Vc (n:Nat) (h:ac) (b:Bool):mat n h (B b)=(B b,h):=rfl
theorem S7 {f : Nat} {fn : Func} (hf : Tryz.prog.funcs[f]? = some fn) (hn : (fn.name == "runtime.NumGoroutine") = false) (hb : fn.body.isSome = true) {args : List AV} {vals : Array Value} {W : World} (hL : laidMetH Tryz.prog ws W) (hz : R f args [] = some (B true, [])) (hs : vals.size = args.length)
  (hv:∀ (i:Nat) (c:AV) (u:Value),args[i]?=some c→vals[i]?=some u→RD W (AL W) c u) (he:(callFunc f vals).run Tryz.prog W = .ok (.enter f vals) W) :
  Calls Tryz.prog f vals W fun e W'=>e = .returned (.bool true)∧Below W.heap.size W W':=by
 obtain ⟨h1,h2⟩:=S6 hL
 have hs0:0 < W.heap.size:=by
  have:=h1 0 (by decide)
  unfold World.cell? at this
  split at this
  ·rename_i hb
   exact (Array.getElem?_eq_some_iff.1 hb).1
  ·cases this
 have key:=VX ab5 f (args:=args) (obs:=[]) (obs':=[]) (res:=B true) (w:=W) (X:=X0) (ρ:=Vb) (vals:=vals) (n:=2000) hz (Nat.le_refl _) ⟨rfl,h1⟩ (ahI hs0) hs fun i c u hc hu => .dat ((hv i c u hc hu).mono fun b hb=>⟨ahJ hb,rfl⟩)
 unfold Enters at key
 rw [he] at key
 refine Calls.mono key fun e W' hw => ?_
 cases e with
 | returned v =>
  obtain ⟨ρ',r,far,rv⟩:=hw
  rw [Vc] at rv far
  obtain ⟨rfl,_⟩:=rv.v_inv
  exact ⟨rfl,far.os,far.tape,far.output,far.size,fun k hk=>far.old k hk fun ⟨id,sub,hl,_⟩=>wt id sub hl⟩
 | _=>exact hw.elim
end Go.Ab
