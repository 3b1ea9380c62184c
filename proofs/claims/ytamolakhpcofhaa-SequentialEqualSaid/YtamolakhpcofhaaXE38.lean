/-
  What functions of the program compute, each by its walk. Conditions: those that each theorem names.
-/
import Derived.Test.YtamolakhpcofhaaMod1
import Derived.Test.YtamolakhpcofhaaEng1
import Derived.Test.YtamolakhpcofhaaXE37
import Derived.Test.YtamolakhpcofhaaXF
set_option linter.unusedSimpArgs false
namespace Go.Proofs.Ytamolakhpcofhaa
open Go Go.Eng Go.Am Go.Sq
open Go.Tp (zi)
open Go.Tl (mayL Wd okW okB bo)

set_option maxRecDepth 100000 in
/-- semigroup/sequential.begins -/
theorem begins_spec (w : World) (v : Wd) (ch : UInt8) : Calls Try.prog 106 #[sv v, bv ch] w (fun e w' => e = .returned (.bool (bgb ch v)) ∧ Ext [] w w') := by
 refine enter (args := [sv v, bv ch]) [] 13 Try.func106 rfl rfl rfl ?_
 refine CT.seq (CT.region ?_)
 refine Wl.q rfl rfl (OpQ.assign rfl) ?_
 refine Wl.nil (PX.then_n (CT.seq (CT.region ?_)))
 refine Wl.q rfl rfl (OpQ.move rfl) ?_
 refine Wl.q rfl rfl (OpQ.neqS rfl rfl) ?_
 refine Wl.q rfl rfl (OpQ.move rfl) ?_
 refine Wl.split 7 rfl (fun hg7 => ?_) (fun hg7 => ?_)
 ·
  have hv0 : v ≠ [] := by simpa using hg7
  refine Wl.q rfl rfl (OpQ.move rfl) ?_
  refine Wl.q rfl rfl (OpQ.indexSvN zf4 rfl rfl (by have := List.length_pos_iff.2 hv0; omega)) ?_
  refine Wl.q rfl rfl (OpQ.move rfl) ?_
  refine Wl.q rfl rfl (OpQ.eql rfl rfl) ?_
  refine Wl.q rfl rfl (OpQ.pickT rfl rfl) ?_
  refine Wl.q rfl rfl (OpQ.assign rfl) ?_
  refine Wl.nil (PX.then_n (CT.ret ?_))
  refine PX.ret1 rfl rfl (fun w' hH => ?_)
  exact ⟨by rw [bgb_dec hv0], hH.ext⟩
 ·
  have hv0 : v = [] := by simpa using hg7
  refine Wl.skip rfl rfl ?_
  refine Wl.skip rfl rfl ?_
  refine Wl.skip rfl rfl ?_
  refine Wl.skip rfl rfl ?_
  refine Wl.q rfl rfl (OpQ.pickF rfl rfl) ?_
  refine Wl.q rfl rfl (OpQ.assign rfl) ?_
  refine Wl.nil (PX.then_n (CT.ret ?_))
  refine PX.ret1 rfl rfl (fun w' hH => ?_)
  exact ⟨by rw [hv0]; rfl, hH.ext⟩

set_option maxRecDepth 100000 in
/-- internal/stringslite.HasPrefix -/
theorem prefix_spec (w : World) (s t : Wd) : Calls Try.prog 105 #[sv s, sv t] w (fun e w' => e = .returned (.bool (decide (t <+: s))) ∧ Ext [] w w') := by
 refine enter (args := [sv s, sv t]) [] 18 Try.func105 rfl rfl rfl ?_
 refine CT.seq (CT.region ?_)
 refine Wl.q rfl rfl (OpQ.assign rfl) ?_
 refine Wl.nil (PX.then_n (CT.seq (CT.region ?_)))
 refine Wl.q rfl rfl (OpQ.move rfl) ?_
 refine Wl.q rfl rfl (OpQ.lenSv zf4 rfl) ?_
 refine Wl.q rfl rfl (OpQ.move rfl) ?_
 refine Wl.q rfl rfl (OpQ.lenSv zf4 rfl) ?_
 refine Wl.q rfl rfl (OpQ.geq rfl rfl) ?_
 refine Wl.q rfl rfl (OpQ.move rfl) ?_
 refine Wl.split 10 rfl (fun hg10 => ?_) (fun hg10 => ?_)
 ·
  have hle : t.length ≤ s.length := by have := of_decide_eq_true hg10; omega
  refine Wl.q rfl rfl (OpQ.move rfl) ?_
  refine Wl.q rfl rfl (OpQ.move rfl) ?_
  refine Wl.q rfl rfl (OpQ.lenSv zf4 rfl) ?_
  refine Wl.q rfl rfl (OpQ.sliceSH zf4 rfl rfl (by omega)) ?_
  refine Wl.q rfl rfl (OpQ.move rfl) ?_
  refine Wl.q rfl rfl (OpQ.eqlS rfl rfl) ?_
  refine Wl.q rfl rfl (OpQ.pickT rfl rfl) ?_
  refine Wl.q rfl rfl (OpQ.assign rfl) ?_
  refine Wl.nil (PX.then_n (CT.ret ?_))
  refine PX.ret1 rfl rfl (fun w' hH => ?_)
  exact ⟨by rw [pre_dec], hH.ext⟩
 ·
  have hle : ¬ t.length ≤ s.length := by have := of_decide_eq_false hg10; omega
  refine Wl.skip rfl rfl ?_
  refine Wl.skip rfl rfl ?_
  refine Wl.skip rfl rfl ?_
  refine Wl.skip rfl rfl ?_
  refine Wl.skip rfl rfl ?_
  refine Wl.skip rfl rfl ?_
  refine Wl.q rfl rfl (OpQ.pickF rfl rfl) ?_
  refine Wl.q rfl rfl (OpQ.assign rfl) ?_
  refine Wl.nil (PX.then_n (CT.ret ?_))
  refine PX.ret1 rfl rfl (fun w' hH => ?_)
  exact ⟨by rw [← pre_no hle], hH.ext⟩

set_option maxRecDepth 100000 in
/-- strings.HasPrefix -/
theorem hasPrefix_spec (w : World) (s t : Wd) : Calls Try.prog 94 #[sv s, sv t] w (fun e w' => e = .returned (.bool (decide (t <+: s))) ∧ Ext [] w w') := by
 refine enter (args := [sv s, sv t]) [] 8 Try.func94 rfl rfl rfl ?_
 refine CT.seq (CT.region ?_)
 refine Wl.q rfl rfl (OpQ.assign rfl) ?_
 refine Wl.nil (PX.then_n (CT.seq (CT.region ?_)))
 refine Wl.q rfl rfl (OpQ.move rfl) ?_
 refine Wl.q rfl rfl (OpQ.move rfl) ?_
 refine Wl.g rfl rfl (OpG.callV zf103 rfl (fun w hH => prefix_spec w s t)) ?_
 rintro _ _
 refine Wl.q rfl rfl (OpQ.assign rfl) ?_
 refine Wl.nil (PX.then_n (CT.ret ?_))
 refine PX.ret1 rfl rfl (fun w' hH => ?_)
 exact ⟨rfl, hH.ext⟩

end Go.Proofs.Ytamolakhpcofhaa

