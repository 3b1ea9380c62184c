/-
  What functions of the program compute, each by its walk. Conditions: those that each theorem names.
-/
import Derived.Test.YtlmbcdjmdgbmjaaMod
import Derived.Test.YtlmbcdjmdgbmjaaXQ4
set_option linter.unusedSimpArgs false
namespace Go.Proofs.Ytlmbcdjmdgbmjaa
open Go Go.Eng Go.Tl
open Go.Rel (iv mapSet)

theorem E_un22 : Try.prog.underlying 22 = some (.slice 31) := by kernel_rfl
theorem E_in31 : (Try.prog.info? 31).map (fun i => (i.zero, i.size, i.bytes)) = some (some (.agg #[.int .i64 0, .int .i64 0, .int .i64 0, .int .i64 0]), 4, 32) := by kernel_rfl
theorem E_pl31 : placesB Try.prog 31 = some (#[.int .i64 0, .int .i64 0, .int .i64 0, .int .i64 0], [(0, 1), (1, 1), (2, 1), (3, 1)]) := by kernel_rfl
theorem E_go16 : isGo Try.prog 16 = true := by kernel_rfl
set_option maxRecDepth 100000 in
/-- semigroup/semigrouplaw39.known -/
theorem known_spec (w : World)  : Calls Try.prog 11 #[] w (fun e w' => e = .returned (.bool true) ∧ Ext [] w w') := by
 refine enter (args := []) [] 23 Try.func11 rfl rfl rfl ?_
 refine CT.seq ?_
 refine CT.region ?_
 refine Wl.q rfl rfl (OpQ.assign rfl) ?_
 refine Wl.nil ?_
 refine PX.then_n ?_
 refine CT.seq ?_
 refine CT.region ?_
 refine Wl.q rfl rfl (OpQ.build (cells := #[.int .i64 2, .int .i64 0, .int .i64 0, .int .i64 0]) E_pl31 rfl rfl) ?_
 refine Wl.q rfl rfl (OpQ.build (cells := #[.int .i64 2, .int .i64 1, .int .i64 0, .int .i64 0]) E_pl31 rfl rfl) ?_
 refine Wl.q rfl rfl (OpQ.build (cells := #[.int .i64 7, .int .i64 0, .int .i64 1, .int .i64 0]) E_pl31 rfl rfl) ?_
 refine Wl.q rfl rfl (OpQ.build (cells := #[.int .i64 8, .int .i64 0, .int .i64 0, .int .i64 1]) E_pl31 rfl rfl) ?_
 refine Wl.g rfl rfl (OpG.litS (vs := kl.flatMap tv) E_un22 E_in31 rfl (by decide) (by kernel_rfl) rfl) ?_
 rintro b6 _
 refine Wl.q rfl rfl (OpQ.assign rfl) ?_
 refine Wl.nil ?_
 refine PX.then_n ?_
 refine CT.seq ?_
 refine CT.region ?_
 refine Wl.q rfl rfl (OpQ.move rfl) ?_
 refine Wl.g rfl rfl (OpG.callV E_go16 rfl (fun w hH => holds_spec w (some ⟨b6, 0, none⟩) 4 kl (hH.rd .here) (by decide) (by decide) 2 [97, 98] (by decide))) ?_
 rintro _ _
 refine Wl.know 8 (v' := .bool true) rfl (congrArg Value.bool kn1) ?_
 refine Wl.q rfl rfl (OpQ.move rfl) ?_
 refine Wl.q rfl rfl (OpQ.move rfl) ?_
 refine Wl.g rfl rfl (OpG.callV E_go16 rfl (fun w hH => holds_spec w (some ⟨b6, 0, none⟩) 4 kl (hH.rd .here) (by decide) (by decide) 3 [97, 98] (by decide))) ?_
 rintro _ _
 refine Wl.know 11 (v' := .bool true) rfl (congrArg Value.bool kn2) ?_
 refine Wl.q rfl rfl (OpQ.pickT rfl rfl) ?_
 refine Wl.q rfl rfl (OpQ.move rfl) ?_
 refine Wl.q rfl rfl (OpQ.move rfl) ?_
 refine Wl.g rfl rfl (OpG.callV E_go16 rfl (fun w hH => holds_spec w (some ⟨b6, 0, none⟩) 4 kl (hH.rd .here) (by decide) (by decide) 3 [97, 97] (by decide))) ?_
 rintro _ _
 refine Wl.know 15 (v' := .bool false) rfl (congrArg Value.bool kn3) ?_
 refine Wl.q rfl rfl (OpQ.not rfl) ?_
 refine Wl.q rfl rfl (OpQ.pickT rfl rfl) ?_
 refine Wl.q rfl rfl (OpQ.move rfl) ?_
 refine Wl.q rfl rfl (OpQ.move rfl) ?_
 refine Wl.g rfl rfl (OpG.callV E_go16 rfl (fun w hH => holds_spec w (some ⟨b6, 0, none⟩) 4 kl (hH.rd .here) (by decide) (by decide) 2 [97] (by decide))) ?_
 rintro _ _
 refine Wl.know 20 (v' := .bool false) rfl (congrArg Value.bool kn4) ?_
 refine Wl.q rfl rfl (OpQ.not rfl) ?_
 refine Wl.q rfl rfl (OpQ.pickT rfl rfl) ?_
 refine Wl.q rfl rfl (OpQ.assign rfl) ?_
 refine Wl.nil ?_
 refine PX.then_n ?_
 refine CT.ret ?_
 refine PX.ret1 rfl rfl (fun w' hH => ?_)
 exact ⟨rfl, hH.ext⟩

end Go.Proofs.Ytlmbcdjmdgbmjaa

