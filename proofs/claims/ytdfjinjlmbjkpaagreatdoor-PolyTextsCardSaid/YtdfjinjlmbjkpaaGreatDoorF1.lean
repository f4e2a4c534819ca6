/-
  A law of polynomials' texts holds at every input that the statement speaks of, under the conditions that its card names. Part F1.
-/
import Derived.Test.YtdfjinjlmbjkpaaGreatDoorProg
import Derived.Shelf.Strings.Repeat
import Derived.Shelf.Strings.OnBuilder
import Derived.Shelf.Small.Strs
import Derived.Shelf.Strconv.Itoa4
import Derived.Shelf.Strings.BuilderK
import Derived.Lib.Walk
import Derived.Lib.ItoaMem
import Derived.Lib.AppendIntMem
import Derived.WalkKit
import Derived.BigCall
import Derived.BigGuard
import Derived.KernelRfl
import Derived.Test.YtdfjinjlmbjkpaaGreatDoorE1
open Nat renaming le_refl → QK, le_trans → QU, lt_of_lt_of_le → aea
open List renaming length_cons → adX
open Option renaming bind_eq_some_iff → QS, map_eq_some_iff → adV
set_option linter.all false
namespace Go.Ab
open Go Go.Proofs Go.Shelf Go.RowKit Go.Sort Go.Lib
set_option maxHeartbeats 6400000
set_option maxRecDepth 1000000
def R2:Ren:=⟨fun|99=>108|105=>79|129=>136|137=>102|156=>81|165=>109|166=>49|167=>48|169=>50|170=>110|171=>22|206=>133|212=>107|217=>129|240=>82|241=>134|243=>51|246=>83|263=>131|264=>132|266=>144|276=>111|277=>145|283=>112|284=>113|285=>114|286=>115|317=>135|318=>137|319=>138|320=>139|337=>127|338=>146|n=>n,fun|0=>0|2=>2|3=>3|4=>4|5=>5|9=>9|20=>20|31=>25|37=>77|46=>106|51=>54|53=>105|70=>76|72=>79|75=>81|76=>83|80=>85|109=>134|127=>117|146=>132|148=>153|164=>139|171=>141|173=>144|212=>157|213=>158|232=>161|233=>163|n=>n,fun|17=>1|18=>2|19=>4|n=>n⟩
theorem US:Builder.Extra Tryz.prog R2 where
 sizeBuilder:=by kernel_rfl
 liesBuilder:=by kernel_rfl
 t5:=by kernel_rfl
 a5:=Tryz.isAgg5
 z5:=Tryz.sizeOf5
 v5:=Tryz.zeroValue5
 infoByte:=by kernel_rfl
 cellsByte:=by kernel_rfl
 sizeByte:=by kernel_rfl
 neB5:=by decide
theorem acv:Lays.n105 Tryz.prog R2 where
 mixed:=by kernel_rfl
 f99:=by kernel_rfl
 f105:=by kernel_rfl
 f165:=by kernel_rfl
 f166:=by kernel_rfl
 f169:=by kernel_rfl
 f170:=by kernel_rfl
 f206:=by kernel_rfl
 f212:=by kernel_rfl
 f240:=by kernel_rfl
 f241:=by kernel_rfl
 f263:=by kernel_rfl
 f264:=by kernel_rfl
 f276:=by kernel_rfl
 f277:=by kernel_rfl
 t0:=by kernel_rfl
 a0:=Tryz.isAgg0
 z0:=Tryz.sizeOf0
 v0:=Tryz.zeroValue0
 t3:=by kernel_rfl
 a3:=Tryz.isAgg3
 z3:=Tryz.sizeOf3
 v3:=Tryz.zeroValue3
 t4:=by kernel_rfl
 a4:=Tryz.isAgg4
 z4:=Tryz.sizeOf4
 v4:=Tryz.zeroValue4
 t5:=by kernel_rfl
 a5:=Tryz.isAgg5
 z5:=Tryz.sizeOf5
 v5:=Tryz.zeroValue5
 t9:=by kernel_rfl
 a9:=Tryz.isAgg9
 z9:=Tryz.sizeOf9
 v9:=Tryz.zeroValue9
 t20:=by kernel_rfl
 a20:=Tryz.isAgg20
 z20:=Tryz.sizeOf20
 v20:=Tryz.zeroValue20
 t37:=by kernel_rfl
 a37:=Tryz.isAgg77
 z37:=Tryz.sizeOf77
 v37:=Tryz.zeroValue77
 t46:=by kernel_rfl
 a46:=Tryz.isAgg106
 z46:=Tryz.sizeOf106
 v46:=Tryz.zeroValue106
 t51:=by kernel_rfl
 a51:=Tryz.isAgg54
 z51:=Tryz.sizeOf54
 v51:=Tryz.zeroValue54
 t53:=by kernel_rfl
 a53:=Tryz.isAgg105
 z53:=Tryz.sizeOf105
 v53:=Tryz.zeroValue105
 t70:=by kernel_rfl
 a70:=Tryz.isAgg76
 z70:=Tryz.sizeOf76
 v70:=Tryz.zeroValue76
 t72:=by kernel_rfl
 a72:=Tryz.isAgg79
 z72:=Tryz.sizeOf79
 v72:=Tryz.zeroValue79
 t75:=by kernel_rfl
 a75:=Tryz.isAgg81
 z75:=Tryz.sizeOf81
 v75:=Tryz.zeroValue81
 t76:=by kernel_rfl
 a76:=Tryz.isAgg83
 z76:=Tryz.sizeOf83
 v76:=Tryz.zeroValue83
 t109:=by kernel_rfl
 a109:=Tryz.isAgg134
 z109:=Tryz.sizeOf134
 v109:=Tryz.zeroValue134
 t127:=by kernel_rfl
 a127:=Tryz.isAgg117
 z127:=Tryz.sizeOf117
 v127:=Tryz.zeroValue117
 t146:=by kernel_rfl
 a146:=Tryz.isAgg132
 z146:=Tryz.sizeOf132
 v146:=Tryz.zeroValue132
 t148:=by kernel_rfl
 a148:=Tryz.isAgg153
 z148:=Tryz.sizeOf153
 v148:=Tryz.zeroValue153
 t164:=by kernel_rfl
 a164:=Tryz.isAgg139
 z164:=Tryz.sizeOf139
 v164:=Tryz.zeroValue139
theorem acw:Lays.n156 Tryz.prog R2 where
 mixed:=by kernel_rfl
 f156:=by kernel_rfl
 f165:=by kernel_rfl
 f166:=by kernel_rfl
 f169:=by kernel_rfl
 f240:=by kernel_rfl
 f241:=by kernel_rfl
 f276:=by kernel_rfl
 f277:=by kernel_rfl
 t0:=by kernel_rfl
 a0:=Tryz.isAgg0
 z0:=Tryz.sizeOf0
 v0:=Tryz.zeroValue0
 t3:=by kernel_rfl
 a3:=Tryz.isAgg3
 z3:=Tryz.sizeOf3
 v3:=Tryz.zeroValue3
 t4:=by kernel_rfl
 a4:=Tryz.isAgg4
 z4:=Tryz.sizeOf4
 v4:=Tryz.zeroValue4
 t9:=by kernel_rfl
 a9:=Tryz.isAgg9
 z9:=Tryz.sizeOf9
 v9:=Tryz.zeroValue9
 t20:=by kernel_rfl
 a20:=Tryz.isAgg20
 z20:=Tryz.sizeOf20
 v20:=Tryz.zeroValue20
 t31:=by kernel_rfl
 a31:=Tryz.isAgg25
 z31:=Tryz.sizeOf25
 v31:=Tryz.zeroValue25
 t37:=by kernel_rfl
 a37:=Tryz.isAgg77
 z37:=Tryz.sizeOf77
 v37:=Tryz.zeroValue77
 t70:=by kernel_rfl
 a70:=Tryz.isAgg76
 z70:=Tryz.sizeOf76
 v70:=Tryz.zeroValue76
 t72:=by kernel_rfl
 a72:=Tryz.isAgg79
 z72:=Tryz.sizeOf79
 v72:=Tryz.zeroValue79
 t75:=by kernel_rfl
 a75:=Tryz.isAgg81
 z75:=Tryz.sizeOf81
 v75:=Tryz.zeroValue81
 t76:=by kernel_rfl
 a76:=Tryz.isAgg83
 z76:=Tryz.sizeOf83
 v76:=Tryz.zeroValue83
 t127:=by kernel_rfl
 a127:=Tryz.isAgg117
 z127:=Tryz.sizeOf117
 v127:=Tryz.zeroValue117
 t164:=by kernel_rfl
 a164:=Tryz.isAgg139
 z164:=Tryz.sizeOf139
 v164:=Tryz.zeroValue139
theorem acx:Lays.n137 Tryz.prog R2 where
 mixed:=by kernel_rfl
 f137:=by kernel_rfl
 f217:=by kernel_rfl
 f266:=by kernel_rfl
 t3:=by kernel_rfl
 a3:=Tryz.isAgg3
 z3:=Tryz.sizeOf3
 v3:=Tryz.zeroValue3
 t5:=by kernel_rfl
 a5:=Tryz.isAgg5
 z5:=Tryz.sizeOf5
 v5:=Tryz.zeroValue5
 t9:=by kernel_rfl
 a9:=Tryz.isAgg9
 z9:=Tryz.sizeOf9
 v9:=Tryz.zeroValue9
theorem Ta:LaysM.n171 Tryz.prog R2 where
 mixed:=by kernel_rfl
 f129:=by kernel_rfl
 f171:=by kernel_rfl
 f243:=by kernel_rfl
 f246:=by kernel_rfl
 f283:=by kernel_rfl
 f284:=by kernel_rfl
 f285:=by kernel_rfl
 f286:=by kernel_rfl
 f317:=by kernel_rfl
 f318:=by kernel_rfl
 f319:=by kernel_rfl
 f320:=by kernel_rfl
 f337:=by kernel_rfl
 f338:=by kernel_rfl
 t0:=by kernel_rfl
 a0:=Tryz.isAgg0
 z0:=Tryz.sizeOf0
 v0:=Tryz.zeroValue0
 t2:=by kernel_rfl
 a2:=Tryz.isAgg2
 z2:=Tryz.sizeOf2
 v2:=Tryz.zeroValue2
 t3:=by kernel_rfl
 a3:=Tryz.isAgg3
 z3:=Tryz.sizeOf3
 v3:=Tryz.zeroValue3
 t4:=by kernel_rfl
 a4:=Tryz.isAgg4
 z4:=Tryz.sizeOf4
 v4:=Tryz.zeroValue4
 t5:=by kernel_rfl
 a5:=Tryz.isAgg5
 z5:=Tryz.sizeOf5
 v5:=Tryz.zeroValue5
 t9:=by kernel_rfl
 a9:=Tryz.isAgg9
 z9:=Tryz.sizeOf9
 v9:=Tryz.zeroValue9
 t20:=by kernel_rfl
 a20:=Tryz.isAgg20
 z20:=Tryz.sizeOf20
 v20:=Tryz.zeroValue20
 t37:=by kernel_rfl
 a37:=Tryz.isAgg77
 z37:=Tryz.sizeOf77
 v37:=Tryz.zeroValue77
 t46:=by kernel_rfl
 a46:=Tryz.isAgg106
 z46:=Tryz.sizeOf106
 v46:=Tryz.zeroValue106
 t51:=by kernel_rfl
 a51:=Tryz.isAgg54
 z51:=Tryz.sizeOf54
 v51:=Tryz.zeroValue54
 t53:=by kernel_rfl
 a53:=Tryz.isAgg105
 z53:=Tryz.sizeOf105
 v53:=Tryz.zeroValue105
 t171:=by kernel_rfl
 a171:=Tryz.isAgg141
 z171:=Tryz.sizeOf141
 v171:=Tryz.zeroValue141
 t173:=by kernel_rfl
 a173:=Tryz.isAgg144
 z173:=Tryz.sizeOf144
 v173:=Tryz.zeroValue144
 t212:=by kernel_rfl
 a212:=Tryz.isAgg157
 z212:=Tryz.sizeOf157
 v212:=Tryz.zeroValue157
 t213:=by kernel_rfl
 a213:=Tryz.isAgg158
 z213:=Tryz.sizeOf158
 t232:=by kernel_rfl
 a232:=Tryz.isAgg161
 z232:=Tryz.sizeOf161
 v232:=Tryz.zeroValue161
 t233:=by kernel_rfl
 a233:=Tryz.isAgg163
 z233:=Tryz.sizeOf163
 v233:=Tryz.zeroValue163
 g17:=by kernel_rfl
 g18:=by kernel_rfl
 g19:=by kernel_rfl
 i0:=by kernel_rfl
 i2:=by kernel_rfl
 i3:=by kernel_rfl
 i4:=by kernel_rfl
 i5:=by kernel_rfl
 i9:=by kernel_rfl
 i20:=by kernel_rfl
 i37:=by kernel_rfl
 i46:=by kernel_rfl
 i51:=by kernel_rfl
 i53:=by kernel_rfl
 i171:=by kernel_rfl
 i173:=by kernel_rfl
 i212:=by kernel_rfl
 i232:=by kernel_rfl
 i233:=by kernel_rfl
 m17:=by kernel_rfl
 m18:=by kernel_rfl
 m19:=by kernel_rfl
theorem abG:LaysM.n284 Tryz.prog R2 where
 mixed:=by kernel_rfl
 f129:=by kernel_rfl
 f284:=by kernel_rfl
 f317:=by kernel_rfl
 f318:=by kernel_rfl
 t0:=by kernel_rfl
 a0:=Tryz.isAgg0
 z0:=Tryz.sizeOf0
 v0:=Tryz.zeroValue0
 t3:=by kernel_rfl
 a3:=Tryz.isAgg3
 z3:=Tryz.sizeOf3
 v3:=Tryz.zeroValue3
 t4:=by kernel_rfl
 a4:=Tryz.isAgg4
 z4:=Tryz.sizeOf4
 v4:=Tryz.zeroValue4
 t5:=by kernel_rfl
 a5:=Tryz.isAgg5
 z5:=Tryz.sizeOf5
 v5:=Tryz.zeroValue5
 t9:=by kernel_rfl
 a9:=Tryz.isAgg9
 z9:=Tryz.sizeOf9
 v9:=Tryz.zeroValue9
 t46:=by kernel_rfl
 a46:=Tryz.isAgg106
 z46:=Tryz.sizeOf106
 v46:=Tryz.zeroValue106
 t53:=by kernel_rfl
 a53:=Tryz.isAgg105
 z53:=Tryz.sizeOf105
 v53:=Tryz.zeroValue105
 t212:=by kernel_rfl
 a212:=Tryz.isAgg157
 z212:=Tryz.sizeOf157
 v212:=Tryz.zeroValue157
 g17:=by kernel_rfl
 i0:=by kernel_rfl
 i3:=by kernel_rfl
 i4:=by kernel_rfl
 i5:=by kernel_rfl
 i9:=by kernel_rfl
 i46:=by kernel_rfl
 i53:=by kernel_rfl
 i212:=by kernel_rfl
 m17:=by kernel_rfl
theorem acy:Lays.n285 Tryz.prog R2 where
 mixed:=by kernel_rfl
 f285:=by kernel_rfl
 t0:=by kernel_rfl
 a0:=Tryz.isAgg0
 z0:=Tryz.sizeOf0
 v0:=Tryz.zeroValue0
 t3:=by kernel_rfl
 a3:=Tryz.isAgg3
 z3:=Tryz.sizeOf3
 v3:=Tryz.zeroValue3
 t4:=by kernel_rfl
 a4:=Tryz.isAgg4
 z4:=Tryz.sizeOf4
 v4:=Tryz.zeroValue4
 t5:=by kernel_rfl
 a5:=Tryz.isAgg5
 z5:=Tryz.sizeOf5
 v5:=Tryz.zeroValue5
 t9:=by kernel_rfl
 a9:=Tryz.isAgg9
 z9:=Tryz.sizeOf9
 v9:=Tryz.zeroValue9
 t37:=by kernel_rfl
 a37:=Tryz.isAgg77
 z37:=Tryz.sizeOf77
 v37:=Tryz.zeroValue77
 t51:=by kernel_rfl
 a51:=Tryz.isAgg54
 z51:=Tryz.sizeOf54
 v51:=Tryz.zeroValue54
 t53:=by kernel_rfl
 a53:=Tryz.isAgg105
 z53:=Tryz.sizeOf105
 v53:=Tryz.zeroValue105
theorem acz:Lays.n283 Tryz.prog R2 where
 mixed:=by kernel_rfl
 f283:=by kernel_rfl
 t3:=by kernel_rfl
 a3:=Tryz.isAgg3
 z3:=Tryz.sizeOf3
 v3:=Tryz.zeroValue3
 t4:=by kernel_rfl
 a4:=Tryz.isAgg4
 z4:=Tryz.sizeOf4
 v4:=Tryz.zeroValue4
 t9:=by kernel_rfl
 a9:=Tryz.isAgg9
 z9:=Tryz.sizeOf9
 v9:=Tryz.zeroValue9
theorem X9:Lays.n166 Tryz.prog R2 where
 mixed:=by kernel_rfl
 f166:=by kernel_rfl
 f240:=by kernel_rfl
 f276:=by kernel_rfl
 t0:=by kernel_rfl
 a0:=Tryz.isAgg0
 z0:=Tryz.sizeOf0
 v0:=Tryz.zeroValue0
 t3:=by kernel_rfl
 a3:=Tryz.isAgg3
 z3:=Tryz.sizeOf3
 v3:=Tryz.zeroValue3
 t4:=by kernel_rfl
 a4:=Tryz.isAgg4
 z4:=Tryz.sizeOf4
 v4:=Tryz.zeroValue4
 t9:=by kernel_rfl
 a9:=Tryz.isAgg9
 z9:=Tryz.sizeOf9
 v9:=Tryz.zeroValue9
 t20:=by kernel_rfl
 a20:=Tryz.isAgg20
 z20:=Tryz.sizeOf20
 v20:=Tryz.zeroValue20
 t37:=by kernel_rfl
 a37:=Tryz.isAgg77
 z37:=Tryz.sizeOf77
 v37:=Tryz.zeroValue77
 t70:=by kernel_rfl
 a70:=Tryz.isAgg76
 z70:=Tryz.sizeOf76
 v70:=Tryz.zeroValue76
 t72:=by kernel_rfl
 a72:=Tryz.isAgg79
 z72:=Tryz.sizeOf79
 v72:=Tryz.zeroValue79
 t75:=by kernel_rfl
 a75:=Tryz.isAgg81
 z75:=Tryz.sizeOf81
 v75:=Tryz.zeroValue81
 t164:=by kernel_rfl
 a164:=Tryz.isAgg139
 z164:=Tryz.sizeOf139
 v164:=Tryz.zeroValue139
theorem acA:Lays.n167 Tryz.prog R2 where
 mixed:=by kernel_rfl
 f167:=by kernel_rfl
 f240:=by kernel_rfl
 f276:=by kernel_rfl
 t0:=by kernel_rfl
 a0:=Tryz.isAgg0
 z0:=Tryz.sizeOf0
 v0:=Tryz.zeroValue0
 t4:=by kernel_rfl
 a4:=Tryz.isAgg4
 z4:=Tryz.sizeOf4
 v4:=Tryz.zeroValue4
 t5:=by kernel_rfl
 a5:=Tryz.isAgg5
 z5:=Tryz.sizeOf5
 v5:=Tryz.zeroValue5
 t9:=by kernel_rfl
 a9:=Tryz.isAgg9
 z9:=Tryz.sizeOf9
 v9:=Tryz.zeroValue9
 t20:=by kernel_rfl
 a20:=Tryz.isAgg20
 z20:=Tryz.sizeOf20
 v20:=Tryz.zeroValue20
 t37:=by kernel_rfl
 a37:=Tryz.isAgg77
 z37:=Tryz.sizeOf77
 v37:=Tryz.zeroValue77
 t70:=by kernel_rfl
 a70:=Tryz.isAgg76
 z70:=Tryz.sizeOf76
 v70:=Tryz.zeroValue76
 t72:=by kernel_rfl
 a72:=Tryz.isAgg79
 z72:=Tryz.sizeOf79
 v72:=Tryz.zeroValue79
 t75:=by kernel_rfl
 a75:=Tryz.isAgg81
 z75:=Tryz.sizeOf81
 v75:=Tryz.zeroValue81
 t164:=by kernel_rfl
 a164:=Tryz.isAgg139
 z164:=Tryz.sizeOf139
 v164:=Tryz.zeroValue139
theorem Ya:Lays.n169 Tryz.prog R2 where
 mixed:=by kernel_rfl
 f169:=by kernel_rfl
 t0:=by kernel_rfl
 a0:=Tryz.isAgg0
 z0:=Tryz.sizeOf0
 v0:=Tryz.zeroValue0
 t3:=by kernel_rfl
 a3:=Tryz.isAgg3
 z3:=Tryz.sizeOf3
 v3:=Tryz.zeroValue3
 t9:=by kernel_rfl
 a9:=Tryz.isAgg9
 z9:=Tryz.sizeOf9
 v9:=Tryz.zeroValue9
 t37:=by kernel_rfl
 a37:=Tryz.isAgg77
 z37:=Tryz.sizeOf77
 v37:=Tryz.zeroValue77
 t70:=by kernel_rfl
 a70:=Tryz.isAgg76
 z70:=Tryz.sizeOf76
 v70:=Tryz.zeroValue76
 t72:=by kernel_rfl
 a72:=Tryz.isAgg79
 z72:=Tryz.sizeOf79
 v72:=Tryz.zeroValue79
 t127:=by kernel_rfl
 a127:=Tryz.isAgg117
 z127:=Tryz.sizeOf117
 v127:=Tryz.zeroValue117
theorem abH(u:Nat)(hu:u<100)(w:World):Calls Tryz.prog 106 #[.int .u64 u,.int .i64 10] w fun e w'=>e=.returned (.string ⟨(Lib.decDigits u).toArray⟩)/\w'=w:=by
 go_enter Tryz.func106,Tryz.ntmps106
 go_wp2_with (go_at_call 112;refine(Any.internal_strconv_small acz u hu _).mono ?_;rintro e w' ⟨rfl,rfl⟩)
 go_ret
 exact⟨rfl,rfl⟩
theorem acZ(u:Nat)(hu:100<=u)(hu64:u<18446744073709551616)(w:World)(htab:Lib.TabIs Tryz.prog w "internal/strconv.uint64pow10" .u64 Lib.pow10Tab):
  Calls Tryz.prog 106 #[.int .u64 u,.int .i64 10] w fun e w'=>e=.returned (.string ⟨(Lib.decDigits u).toArray⟩)/\∃k os,w'=grow (w.drewN k) os:=by
 have hu1:1<=u:=by omega
 have hnd20:Lib.nDigits u<=20:=by have:=Lib.numDigits_eq u hu1 hu64;split at this<;>omega
 have t171:Tryz.prog.underlying 141=some (.array 24 5):=Ta.t171;have hal:Tryz.prog.arrayLen 141=24:=by simp[Program.arrayLen,t171]
 have hsl:∀W,(Instr.sliceAt 141 (.pointer (some ⟨w.heap.size,0,none⟩)) none (some (.int .i64 (Lib.nDigits u:Int))) none).run Tryz.prog W=.ok (.slice (some ⟨w.heap.size,0,none⟩) (Lib.nDigits u) 24) W:=fun W=>by
  rw[run_sliceAt_array_h W 141 ⟨w.heap.size,0,none⟩ (by simp[Program.arrayLen,Program.elem,t171]) .i64 (Lib.nDigits u:Int) (by omega) (by rw[hal];omega)]
  go_simp
 have hH0:=Lib.holds_zero0 w 141 (Lib.nDigits u) (by omega);have hfmt:=Any.internal_strconv_formatBase10 acy w.heap.size 0 24 u (Array.replicate (Lib.nDigits u) 0) (w.alloc (.cells Lib.zeros24 141)) hH0 (by rw[Array.size_replicate];exact Lib.lt_pow_nDigits u) hu64 (by rw[Array.size_replicate];omega);rw[Array.size_replicate]at hfmt;have HH0:=Lib.hid hH0;have iu:(100:Int)<=(u:Int):=by omega
 clear hH0 hal
 go_enter Tryz.func106,Tryz.ntmps106
 go_wp2_with (go_at_call 113;refine(Any.internal_strconv_numDigits abG u hu1 hu64 _ (Lib.tabIs_alloc htab _)).mono ?_;rintro e w' ⟨rfl,rfl⟩)
 go_at_call 114
 refine hfmt.mono ?_
 rintro e w' ⟨rfl,k,v',dk,rfl,hF⟩
 have hcv:(convert 77 9 (.slice (some ⟨w.heap.size,0,none⟩) (Lib.nDigits u) 24)).run Tryz.prog ((putRow (fun(b:UInt8)=>Value.int .u8 (b.toNat:Int)) (w.alloc (.cells Lib.zeros24 141)) w.heap.size 0 dk).drewN k)=.ok (.string ⟨(Lib.decDigits u).toArray⟩) ((putRow (fun(b:UInt8)=>Value.int .u8 (b.toNat:Int)) (w.alloc (.cells Lib.zeros24 141)) w.heap.size 0 dk).drewN k):=by
  have h:=run_convert_bytes_back (P:=Tryz.prog) ((putRow (fun(b:UInt8)=>Value.int .u8 (b.toNat:Int)) (w.alloc (.cells Lib.zeros24 141)) w.heap.size 0 dk).drewN k) 77 9 5 ⟨w.heap.size,0,none⟩ 24 (Lib.decDigits u) Ta.t37 Ta.t5 Ta.t9 (fun j hj=>by
   rw[Lib.row_is_numeral hF j hj,Lib.add_plain,World.cell?_drewN];exact cell?_putRow (fun(b:UInt8)=>Value.int .u8 (b.toNat:Int)) _ w.heap.size 0 _ dk HH0.out (by rw[hF.size,Array.size_replicate]) j (by rw[hF.size];rw[Lib.decDigits_length]at hj;exact hj))
  rw[Lib.decDigits_length]at h;exact h
 go_wp2
 go_ret
 obtain⟨os,eo⟩:=Lib.fin_at w (.cells Lib.zeros24 141) dk k 0;exact⟨rfl,k,os,eo⟩
theorem acB(u:Nat)(hu64:u<18446744073709551616)(w:World)(htab:Lib.TabIs Tryz.prog w "internal/strconv.uint64pow10" .u64 Lib.pow10Tab):
  Calls Tryz.prog F.strconv_FormatUint #[.int .u64 u,.int .i64 10] w fun e w'=>e=.returned (.string ⟨(Lib.decDigits u).toArray⟩)/\Below w.heap.size w w':=by
 by_cases hs:u<100
 ·go_enter Tryz.func78,Tryz.ntmps78
  go_wp2_with (go_at_call 106;refine(abH u hs _).mono ?_;rintro e w' ⟨rfl,rfl⟩)
  go_ret
  exact⟨rfl,Below.refl _ _⟩
 ·go_enter Tryz.func78,Tryz.ntmps78
  go_wp2_with (go_at_call 106;refine(acZ u (by omega) hu64 _ htab).mono ?_;rintro e w' ⟨rfl,k,os,rfl⟩)
  go_ret
  exact⟨rfl,Lib.below_grow _ w (QK _) k os⟩
theorem UJ{w:World}{A:Nat->Prop}{ρ:bg}{h:ac}:∀ (args:List AV) (xs vs:List Value),Cy args=some xs->vs.length=args.length->(∀ (i:Nat) (c:AV) (u:Value),args[i]?=some c->vs[i]?=some u->RV w A ρ h c u)->vs=xs
 |[],xs,vs,hp,hl,_=>by
  cases hp;exact List.length_eq_zero_iff.1 hl
 |a::l,xs,[],hp,hl,_=>by cases hl
 |a::l,xs,v::vs,hp,hl,hv=>by
  have h0:=hv 0 a v rfl rfl;cases a with
  |v x=>
   simp only[Cy,adV]at hp;obtain⟨ys,h1,rfl⟩:=hp;obtain⟨rfl,_⟩:=h0.v_inv;rw[UJ l ys vs h1 (by simpa using hl) fun i c u h2 h3=>hv (i+1) c u h2 h3]
  |_=>simp[Cy]at hp
theorem TJ{P:Program}{I:Inv}{f:FuncId}{G:List Value->Option Value}(he:∀a w,(callFunc f a).run P w=.ok (.enter f a) w)(hp:∀xs y,G xs=some y->Fe y=true)
  (hw:∀xs y w X,G xs=some y->I.p w X->Calls P f xs.toArray w fun e w'=>e=.returned y/\Below w.heap.size w w'):GQ P I false f (D9 G):=by
 intro args obs obs' res w X ρ vals n hz hn hi hr hs hv;unfold D9 at hz;split at hz
 ·rename_i xs hpl;simp only[adV,Prod.mk.injEq]at hz;obtain⟨y,hy,rfl,rfl⟩:=hz;have e:=UJ args xs vals.toList hpl (by simpa using hs) fun i c u h1 h2=>hv i c u h1 (by simpa using h2);obtain rfl:vals=xs.toArray:=by rw[←e]
  unfold Enters;rw[he];refine Calls.mono (hw xs y w X hy hi) fun ex w' hw=>?_;obtain⟨rfl,hb⟩:=hw;exact⟨ρ,(Rc hr hb).1,(Rc hr hb).2,.dat (.v _ (hp _ _ hy))⟩
 ·cases hz
theorem Xe:∀ (rows:List (List AV)) (xs:List ByteArray),FL rows=some xs->xs.length=rows.length
 |[],xs,h=>by cases h;rfl
 |r::l,xs,h=>by
  unfold FL at h;split at h
  ·simp at*
  ·rename_i x e;cases e;simp only[adV]at h;obtain⟨ys,h1,rfl⟩:=h;rw[adX,Xe l ys h1,adX]
  ·cases h
theorem Xf:∀ (rows:List (List AV)) (xs:List ByteArray) (j:Nat) (x:ByteArray),FL rows=some xs->xs[j]?=some x->rows[j]?=some [.v (.string x)]
 |[],xs,j,x,h,hj=>by cases h;cases hj
 |r::l,xs,j,x,h,hj=>by
  unfold FL at h;split at h
  ·simp at*
  ·rename_i y e;cases e;simp only[adV]at h;obtain⟨ys,h1,rfl⟩:=h;cases j with
   |zero=>cases hj;rfl
   |succ j=>exact Xf l ys j x h1 hj
  ·cases h
theorem acC{P:Program}{I:Inv}{f:FuncId}{J:List ByteArray->ByteArray->List UInt8}(he:∀a w,(callFunc f a).run P w=.ok (.enter f a) w)
  (hw:∀ (bk o c:Nat) (xs:List ByteArray) (sep:ByteArray) (w:World),(∀ (j:Nat) x,xs[j]?=some x->w.cell? ⟨bk,o+j,none⟩=some (.string x))->bk<w.heap.size->xs.length<=1000->xs.length<=c->(J xs sep).length<=140737488355328->
   Calls P f #[.slice (some ⟨bk,o,none⟩) xs.length c,.string sep] w fun e w'=>e=.returned (.string ⟨(J xs sep).toArray⟩)/\Below w.heap.size w w'):GQ P I false f (PS J):=by
 intro args obs obs' res w X ρ vals n hz hn hi hr hs hv;unfold PS at hz;split at hz
 ·rename_i r rows sep;simp only[QS]at hz;obtain⟨xs,hx,hz⟩:=hz;split at hz
  ·rename_i hc;cases hz;obtain⟨u0,h0⟩:=Rk hs (i:=0) rfl;obtain⟨u1,h1⟩:=Rk hs (i:=1) rfl;have d0:=(hv 0 _ _ rfl h0).sl_inv;obtain⟨rfl,_⟩:=(hv 1 _ _ rfl h1).v_inv;obtain rfl:=abA hs h0 h1;have hl:=Xe _ _ hx;cases d0 with
   |sl _ _ a cap ad vs hcap ha hk hv2 hl2 hr2=>
    obtain⟨rfl,hA,hsp⟩:=ha (by simp);obtain⟨bk,o,sp⟩:=ad;simp only at hsp;subst hsp;unfold Enters;rw[he,←hl];refine Calls.mono (hw bk o cap xs sep w (fun j x hj=>?_) hA.1 hc.1 (by rw[hl];exact hcap) hc.2) fun ex w' hw=>?_
    ·have g:=Xf _ _ j x hx hj;have c1:=hv2 j _ 0 _ g rfl;have c2:=hr2 j _ 0 _ g rfl;rw[Nat.mul_one,Nat.add_zero,Ru]at c1;rw[c1,((RV.dat c2:RV w (l6 w X (aO []) ρ) ρ (aO []) _ _).v_inv).1]
    ·obtain⟨rfl,hb⟩:=hw;exact⟨ρ,(Rc hr hb).1,(Rc hr hb).2,.dat (.v _ rfl)⟩
  ·cases hz
 ·cases hz
theorem adg:GQ Tryz.prog RI false F.strconv_Itoa (D9 PT):=
 TJ (fun a w=>(enters_of Tryz.func22 (by kernel_rfl) rfl:Proofs.Enters Tryz.prog 22) a w) (fun xs y h=>by
  unfold PT at h;split at h
  ·split at h
   ·cases h;rfl
   ·cases h
  ·cases h) fun xs y w X h hi=>by
  unfold PT at h;split at h
  ·split at h
   ·rename_i hc;cases h;exact(Any.strconv_Itoa Ta _ hc.1 hc.2 w hi.2).mono fun e w' ⟨h1,k,os,h2⟩=>⟨h1,h2▸Lib.below_grow _ w (QK _) k os⟩
   ·cases h
  ·cases h
theorem adh:GQ Tryz.prog RI false F.strconv_FormatUint (D9 PU):=
 TJ (fun a w=>(enters_of Tryz.func78 (by kernel_rfl) rfl:Proofs.Enters Tryz.prog 78) a w) (fun xs y h=>by
  unfold PU at h;split at h
  ·split at h
   ·cases h;rfl
   ·cases h
  ·cases h) fun xs y w X h hi=>by
  unfold PU at h;split at h
  ·rename_i n;split at h
   ·rename_i hc;cases h;obtain⟨u,rfl⟩:∃u:Nat,n=u:=⟨n.toNat,by omega⟩;exact acB u (by omega) w hi.2
   ·cases h
  ·cases h
theorem adi:GQ Tryz.prog RI false F.strings_Repeat (D9 PV):=
 TJ (fun a w=>(enters_of Tryz.func79 (by kernel_rfl) rfl:Proofs.Enters Tryz.prog 79) a w) (fun xs y h=>by
  unfold PV at h;split at h
  ·split at h
   ·cases h;rfl
   ·cases h
  ·cases h) fun xs y w X h hi=>by
  unfold PV at h;split at h
  ·rename_i s c;split at h
   ·rename_i hc;cases h;obtain⟨u,rfl⟩:∃u:Nat,c=u:=⟨c.toNat,by omega⟩;refine Any.strings_Repeat acv US s u w (by omega) ?_;have:s.size*u<=1000*1000:=Nat.mul_le_mul hc.2.2 (by omega);omega
   ·cases h
  ·cases h
theorem adj:GQ Tryz.prog RI false F.strings_IndexByte (D9 PW):=
 TJ (fun a w=>(enters_of Tryz.func102 (by kernel_rfl) rfl:Proofs.Enters Tryz.prog 102) a w) (fun xs y h=>by
  unfold PW at h;split at h
  ·cases h;rfl
  ·cases h) fun xs y w X h hi=>by
  unfold PW at h;split at h
  ·cases h;exact(Any.strings_IndexByte acx _ _ w).mono fun e w' ⟨h1,h2⟩=>⟨h1,h2▸Below.refl _ _⟩
  ·cases h
theorem adk:GQ Tryz.prog RI false F.strings_Join (PS PX):=
 acC (fun a w=>(enters_of Tryz.func81 (by kernel_rfl) rfl:Proofs.Enters Tryz.prog 81) a w) fun bk o c xs sep w h1 h2 h3 h4 h5=>Any.strings_Join acw US bk o c xs sep w h1 h2 (by omega) h4 h5
theorem Vn{T e:TypeId}{B b:Nat}{p:Value}{bs:List Value}{w w':World}(h:Lib.BuilderAtF T e B b p bs w)(hb:Below w.heap.size w w'):Lib.BuilderAtF T e B b p bs w':=by
 obtain⟨h1,v,h2,⟨h3,h4⟩,h5⟩:=h;have hlt:b<w.heap.size:=(Array.getElem?_eq_some_iff.1 h2).1;refine⟨h1,v,(hb.block _ hlt).trans h2,⟨h3,?_⟩,h5⟩;rcases h4 with h4| ⟨g,cap,cur,fz,g1,g2,g3,g4⟩
 ·exact .inl h4
 ·exact .inr ⟨g,cap,cur,fz,g1,g2,(hb.block _ (Array.getElem?_eq_some_iff.1 g3).1).trans g3,g4⟩
theorem Vo{T e:TypeId}{B b:Nat}{bs:List Value}{w w':World}(h:Lib.IsBuilderF T e B b bs w)(hb:Below w.heap.size w w'):Lib.IsBuilderF T e B b bs w':=h.imp (fun h=>Vn h hb) (fun h=>Vn h hb)
theorem acD(n:Bool)(a:Option Addr)(l cap:Nat)(e:Int)(t u:List UInt8)(w:World)(hl:(l:Int)≠0)(ht:t.length<=10000)(hu:u.length<=1000)
  (hV:∀w1,Below w.heap.size w w1->Calls Tryz.prog F.dyadic_Valid #[.agg #[.bool n,.slice a l cap,.int .i64 e]] w1 fun x w2=>x=.returned (.bool true)/\Below w1.heap.size w1 w2)
  (hT:∀w1,Below w.heap.size w w1->Calls Tryz.prog F.natural_Text #[.slice a l cap] w1 fun x w2=>x=.returned (.tuple #[.string ⟨t.toArray⟩,.int .i64 0])/\Below w1.heap.size w1 w2)
  (hI:∀w1,Below w.heap.size w w1->Calls Tryz.prog F.strconv_Itoa #[.int .i64 e] w1 fun x w2=>x=.returned (.string ⟨u.toArray⟩)/\Below w1.heap.size w1 w2):
  Calls Tryz.prog F.dyadic_Text #[.agg #[.bool n,.slice a l cap,.int .i64 e]] w fun x w'=>x=.returned (.tuple #[.string ⟨((if n then [45]else [])++t++[112]++u).toArray⟩,.int .i64 0])/\Below w.heap.size w w':=by
 go_enter Tryz.func21,Tryz.ntmps21
 go_wp2_with (go_at_call 37;refine(hV _ ((Below.refl _ w).alloc (QK _) _)).mono ?_)
 rintro x W1 ⟨rfl,b1⟩
 have b01:Below w.heap.size w W1:=((Below.refl _ w).alloc (QK _) _).trans (b1.mono (by simp));have s1:w.heap.size<W1.heap.size:=aea (by simp) b1.size;have hb1:W1.heap[w.heap.size]?=some (.cells #[.bool n,.slice a l cap,.int .i64 e] 45 (0,0)):=by
  rw[b1.block _ (by simp)];exact heap_alloc_new w _
 have c1:W1.cell? ⟨w.heap.size,1,none⟩=some (.slice a l cap):=by simp[World.cell?,hb1]
 go_wp2_with (go_at_call 47;refine(hT _ b01).mono ?_)
 rintro x W2 ⟨rfl,b2⟩
 have b02:Below w.heap.size w W2:=b01.trans (b2.mono (by omega));have s2:w.heap.size<W2.heap.size:=aea s1 b2.size;have hb2:W2.heap[w.heap.size]?=some (.cells #[.bool n,.slice a l cap,.int .i64 e] 45 (0,0)):=(b2.block _ s1).trans hb1;have hb3:(W2.alloc (.cells #[.pointer none,.slice none 0 0] 79)).heap[w.heap.size]?=some (.cells #[.bool n,.slice a l cap,.int .i64 e] 45 (0,0)):=(Sp W2 _ s2).trans hb2;have d0:(W2.alloc (.cells #[.pointer none,.slice none 0 0] 79)).cell? ⟨w.heap.size,0,none⟩=some (.bool n):=by simp only[World.cell?,hb3];rfl
 have d2:(W2.alloc (.cells #[.pointer none,.slice none 0 0] 79)).cell? ⟨w.heap.size,2,none⟩=some (.int .i64 e):=by simp only[World.cell?,hb3];rfl
 have hB:=Lib.IsBuilderF.of (Lib.fresh_isBuilder 79 5 W2);have b03:Below w.heap.size w (W2.alloc (.cells #[.pointer none,.slice none 0 0] 79)):=b02.trans ((Below.refl _ W2).alloc (Nat.le_of_lt s2) _);have sS:(ByteArray.mk t.toArray++ByteArray.mk #[112]++ByteArray.mk u.toArray).data.toList=t++[112]++u:=by simp
 have sZ:(ByteArray.mk t.toArray++ByteArray.mk #[112]++ByteArray.mk u.toArray).size=t.length+1+u.length:=by simp[ByteArray.size];omega
 cases n with
 |true=>
  go_wp2_with (go_at_call 48;refine(Any.Builder_WriteByte_k acA US W2.heap.size W2.heap.size [] 45 _ hB (by simp) (by simp)).mono ?_)
  rintro x W3 ⟨rfl,hB3,b3,_⟩
  have b03':Below w.heap.size w W3:=b03.trans (b3.mono (Nat.le_of_lt s2));have e2:W3.cell? ⟨w.heap.size,2,none⟩=some (.int .i64 e):=by simp only[World.cell?,(b3.block _ s2).trans hb3];rfl
  go_wp2_with (go_at_call 22;refine(hI _ b03').mono ?_)
  rintro x W4 ⟨rfl,b4⟩
  have b04:Below w.heap.size w W4:=b03'.trans (b4.mono b03'.size);have hB4:=Vo (.inr hB3) b4;have s4:W2.heap.size<=W4.heap.size:=QU (QU (by simp) b3.size) b4.size
  go_wp2_with (go_at_call 49;refine(Any.Builder_WriteString_k X9 US W2.heap.size W2.heap.size _ (ByteArray.mk t.toArray++ByteArray.mk #[112]++ByteArray.mk u.toArray) _ hB4 (by rw[sZ];simp;omega) s4).mono ?_)
  rintro x W5 ⟨rfl,hB5,b5,_⟩
  have b05:Below w.heap.size w W5:=b04.trans (b5.mono (Nat.le_of_lt s2));have hB5':Lib.IsBuilderF (R2.t 72) (R2.t 5) W2.heap.size W2.heap.size (Lib.byteCells (45::(t++[112]++u))) W5:=by
   rw[show Lib.byteCells (45::(t++[112]++u))=[]++[Value.int .u8 45]++Lib.strCells (ByteArray.mk t.toArray++ByteArray.mk #[112]++ByteArray.mk u.toArray)by rw[Lib.strCells_eq,sS];rfl];exact .inr hB5
  go_wp2_with (go_at_call 50;refine(Any.Builder_String_any_k Ya US W2.heap.size W2.heap.size _ _ hB5' (QU s4 b5.size)).mono ?_)
  rintro x W6 ⟨rfl,_,b6,_⟩
  go_wp2
  go_ret2
  exact⟨by simp,b05.trans (b6.mono (Nat.le_of_lt s2))⟩
 |false=>
  go_wp2_with (go_at_call 22;refine(hI _ b03).mono ?_)
  rintro x W4 ⟨rfl,b4⟩
  have b04:Below w.heap.size w W4:=b03.trans (b4.mono b03.size);have hB4:=Vo hB b4;have s4:W2.heap.size<=W4.heap.size:=QU (by simp) b4.size
  go_wp2_with (go_at_call 49;refine(Any.Builder_WriteString_k X9 US W2.heap.size W2.heap.size _ (ByteArray.mk t.toArray++ByteArray.mk #[112]++ByteArray.mk u.toArray) _ hB4 (by rw[sZ];simp;omega) s4).mono ?_)
  rintro x W5 ⟨rfl,hB5,b5,_⟩
  have b05:Below w.heap.size w W5:=b04.trans (b5.mono (Nat.le_of_lt s2));have hB5':Lib.IsBuilderF (R2.t 72) (R2.t 5) W2.heap.size W2.heap.size (Lib.byteCells (t++[112]++u)) W5:=by
   rw[show Lib.byteCells (t++[112]++u)=[]++Lib.strCells (ByteArray.mk t.toArray++ByteArray.mk #[112]++ByteArray.mk u.toArray)by rw[Lib.strCells_eq,sS];rfl];exact .inr hB5
  go_wp2_with (go_at_call 50;refine(Any.Builder_String_any_k Ya US W2.heap.size W2.heap.size _ _ hB5' (QU s4 b5.size)).mono ?_)
  rintro x W6 ⟨rfl,_,b6,_⟩
  go_wp2
  go_ret2
  exact⟨by simp,b05.trans (b6.mono (Nat.le_of_lt s2))⟩
theorem RV.tup_inv{w:World}{A:Nat->Prop}{ρ:bg}{h:ac}{vs:List AV}{u:Value}(hv:RV w A ρ h (.tup vs) u):∃us:Array Value,u=.tuple us/\us.size=vs.length/\∀ (i:Nat) (c:AV) (u:Value),vs[i]?=some c->us[i]?=some u->RV w A ρ h c u:=by
 cases hv with
 |dat hd=>cases hd
 |tup _ us hs hr=>exact⟨us,rfl,hs,hr⟩
theorem UT{P:Program}{I:Inv}{f:FuncId}{g:List AV->List Ob->Option (AV×List Ob)}(hR:GQ P I false f g){args:List AV}{vals:Array Value}{w:World}{X:Nat->Prop}{ρ:bg}{res:AV}
  (he:(callFunc f vals).run P w=.ok (.enter f vals) w) (hz:g args []=some (res,[])) (hm:mat 2000 (aO []) res=(res,aO [])) (hi:I.p w X) (hr:Rel w X ρ (aO [])) (hs:vals.size=args.length)
  (hv:∀ (i:Nat) (c:AV) (u:Value),args[i]?=some c->vals[i]?=some u->RV w (l6 w X (aO []) ρ) ρ (aO []) c u):
  Calls P f vals w fun e w'=>(∃v ρ',e=.returned v/\RV w' (l6 w' X (aO []) ρ') ρ' (aO []) res v)/\Below w.heap.size w w':=by
 have key:=hR hz (QK 2000) hi hr hs hv;unfold Enters at key;rw[he]at key;refine Calls.mono key fun e w' hw=>?_;cases e with
 |returned v=>
  obtain⟨ρ',r,far,rv⟩:=hw;rw[hm]at rv far;have hl:∀id sub,¬live (aO []) id sub:=fun id sub=>by
   have hd:aO [] id=.dead:=by
    unfold aO;split<;>simp
   cases sub with
   |none=>simp[live,hd]
   |some p=>simp[live,hd]
  exact⟨⟨v,ρ',rfl,rv⟩,far.os,far.tape,far.output,far.size,fun k hk=>far.old k hk fun⟨id,sub,h,_⟩=>hl id sub h⟩
 |_=>exact hw.elim
theorem adq{vals:Array Value}{a b c:Value}(h:vals.size=3)(h0:vals[0]?=some a)(h1:vals[1]?=some b)(h2:vals[2]?=some c):vals=#[a,b,c]:=by
 apply Array.ext_getElem?;intro i
 match i with
 |0=>simpa using h0
 |1=>simpa using h1
 |2=>simpa using h2
 |i+3=>simp[h]
theorem adl{I:Inv}(hV:GQ Tryz.prog I false F.dyadic_Valid (R F.dyadic_Valid))(hT:GQ Tryz.prog I false F.natural_Text (R F.natural_Text))(hI:GQ Tryz.prog I false F.strconv_Itoa (R F.strconv_Itoa))
  (eV:∀a w,(callFunc F.dyadic_Valid a).run Tryz.prog w=.ok (.enter F.dyadic_Valid a) w) (eT:∀a w,(callFunc F.natural_Text a).run Tryz.prog w=.ok (.enter F.natural_Text a) w)
  (eI:∀a w,(callFunc F.strconv_Itoa a).run Tryz.prog w=.ok (.enter F.strconv_Itoa a) w) (eD:∀a w,(callFunc F.dyadic_Text a).run Tryz.prog w=.ok (.enter F.dyadic_Text a) w):
  GQ Tryz.prog I false F.dyadic_Text TQ:=by
 intro args obs obs' res w X ρ vals n hz hn hi hr hs hv;unfold TQ at hz;split at hz
 ·rename_i nb rows e;simp only[QS]at hz;obtain⟨m,hm,hz⟩:=hz;split at hz
  ·rename_i hc;obtain⟨hvd,h0⟩:=hc;cases hz;obtain⟨rfl,hLb⟩:=aam hm;obtain⟨b1,b2,b3,_⟩:=mH hvd hLb;simp only at b1 b2 b3 h0;obtain⟨u0,g0'⟩:=Rk hs (i:=0) rfl;obtain⟨us,rfl,hsz,_,hr2⟩:=(hv 0 _ _ rfl g0').agg_inv;obtain rfl:=abz hs g0';obtain⟨v0,g0⟩:=Rk (args:=[B nb,.sl 1 (ao m),.v (.int .i64 e)]) hsz (i:=0) rfl;obtain⟨v1,g1⟩:=Rk (args:=[B nb,.sl 1 (ao m),.v (.int .i64 e)]) hsz (i:=1) rfl;obtain⟨v2,g2⟩:=Rk (args:=[B nb,.sl 1 (ao m),.v (.int .i64 e)]) hsz (i:=2) rfl;obtain⟨rfl,_⟩:=(hr2 0 _ _ rfl g0).v_inv;obtain⟨rfl,_⟩:=(hr2 2 _ _ rfl g2).v_inv;have d1:=(hr2 1 _ _ rfl g1).sl_inv;obtain rfl:=adq hsz g0 g1 g2;obtain⟨a,l,cap,rfl⟩:∃a l cap,v1=.slice a l cap:=by
    cases d1;exact⟨_,_,_,rfl⟩
   have hl:l=m.length:=by
    have:l=(ao m).length:=by
     cases d1;rfl
    rw[this,NY]
   have d1':∀ {w1:World},Below w.heap.size w w1->RD w1 (l6 w1 X (aO []) ρ) (.sl 1 (ao m)) (.slice a l cap):=fun hb=>d1.mono fun b h=>aau h hb;have inv:∀ {w1:World},Below w.heap.size w w1->I.p w1 X:=fun hb=>I.stab hi fun b h=>hb.block b (hr.xl b h);have cV:=sk (d:=⟨nb,m,e⟩) ⟨hLb,by show m.length<_;omega⟩;rw[hvd]at cV;have cT:=Zo hLb b1;have cI:=X3 (n:=e) (by omega) (by omega);have t1:=Vj hLb;have t2:=itoa_length_le e (by omega) (by omega);have eX:RP ⟨nb,m,e⟩=(if nb then [45]else [])++decDigits (ab m)++[112]++itoa e:=by
    unfold RP;rw[if_neg h0];rfl
   unfold Enters;rw[eD];refine Calls.mono (acD nb a l cap e (decDigits (ab m)) (itoa e) w (by omega) (by omega) (by omega) (fun w1 hb=>?_) (fun w1 hb=>?_) fun w1 hb=>?_) fun ex w' hw=>?_
   ·refine Calls.mono (UT hV (eV _ _) cV rfl (inv hb) (Rc hr hb).1 rfl fun i c u hc hu=>?_) fun ex w2 hw=>?_
    ·match i,hc with
     |0,hc=>
      cases hc;cases hu;refine .dat (.agg _ _ rfl (fun i u hu=>?_) fun i c u hc hu=>?_)
      ·match i,hu with
       |0,hu=>cases hu;rfl
       |1,hu=>cases hu;rfl
       |2,hu=>cases hu;rfl
      ·match i,hc,hu with
       |0,hc,hu=>cases hc;cases hu;exact .v _ rfl
       |1,hc,hu=>cases hc;cases hu;exact d1' hb
       |2,hc,hu=>cases hc;cases hu;exact .v _ rfl
    ·obtain⟨⟨v,ρ',rfl,rv⟩,hb2⟩:=hw;obtain⟨rfl,_⟩:=rv.v_inv;exact⟨rfl,hb2⟩
   ·refine Calls.mono (UT hT (eT _ _) cT rfl (inv hb) (Rc hr hb).1 rfl fun i c u hc hu=>?_) fun ex w2 hw=>?_
    ·match i,hc with
     |0,hc=>
      cases hc;cases hu;exact .dat (d1' hb)
    ·obtain⟨⟨v,ρ',rfl,rv⟩,hb2⟩:=hw;obtain⟨us,rfl,h1,h2⟩:=rv.tup_inv;obtain⟨x0,q0⟩:=Rk (args:=[tx (decDigits (ab m)),.v (.int .i64 0)]) h1 (i:=0) rfl;obtain⟨x1,q1⟩:=Rk (args:=[tx (decDigits (ab m)),.v (.int .i64 0)]) h1 (i:=1) rfl;obtain⟨rfl,_⟩:=(h2 0 _ _ rfl q0).v_inv;obtain⟨rfl,_⟩:=(h2 1 _ _ rfl q1).v_inv;obtain rfl:=abA h1 q0 q1;exact⟨rfl,hb2⟩
   ·refine Calls.mono (UT hI (eI _ _) cI rfl (inv hb) (Rc hr hb).1 rfl fun i c u hc hu=>?_) fun ex w2 hw=>?_
    ·match i,hc with
     |0,hc=>
      cases hc;cases hu;exact .dat (.v _ rfl)
    ·obtain⟨⟨v,ρ',rfl,rv⟩,hb2⟩:=hw;obtain⟨rfl,_⟩:=rv.v_inv;exact⟨rfl,hb2⟩
   ·obtain⟨rfl,hb⟩:=hw;rw[eX];refine⟨ρ,(Rc hr hb).1,(Rc hr hb).2,?_⟩;refine .tup _ _ rfl fun i c u hc hu=>?_
    match i,hc,hu with
    |0,hc,hu=>cases hc;cases hu;exact .dat (.v _ rfl)
    |1,hc,hu=>cases hc;cases hu;exact .dat (.v _ rfl)
  ·cases hz
 ·cases hz
abbrev TX(f:Nat)(fd:FD):Prop:=Text Go.Proofs.Tryz.prog f fd
noncomputable def F9 (f:Nat) (fd:FD):Option (Option Cmd×Option (List Rv)×Bool×Bool):= (Go.Proofs.Tryz.prog.funcs[f]?).map fun fn=> (fn.body.bind fun c=>kE Go.Proofs.Tryz.prog fn.ntmps c fd.body,Bs Go.Proofs.Tryz.prog fn.results.toList,decide (fn.ntmps<=1000),fn.name== "runtime.NumGoroutine")
theorem Qa{f:Nat}{fd:FD}(h:F9 f fd=some (some fd.body,some fd.res,true,false)):TX f fd:=by
 unfold F9 at h;obtain⟨fn,h,h2⟩:=Option.map_eq_some_iff.1 h;simp only[Prod.mk.injEq,QS,decide_eq_true_eq]at h2;obtain⟨⟨c,h3,h4⟩,h5,h6,h7⟩:=h2;exact⟨⟨fn,c,_,h,h3,rfl,h6,h4,h5,h7⟩⟩
set_option maxRecDepth 100000 in
theorem L9:∀p∈xf,TX p.1 p.2:=fun p hp=>Qa (List.map_inj_left.1 (by kernel_rfl:xf.map (fun p=>F9 p.1 p.2)=xf.map fun p=>some (some p.2.body,some p.2.res,true,false)) p hp)
end Go.Ab
