/-
  The walks of the laws. Conditions: those that each theorem names.
-/
import Derived.Test.YtbefnlnnnpinnaaDoorWalks2
namespace Go.Proofs.YtbefnlnnnpinnaaDoor
open Go Go.Eng Go.Rel

theorem N_go29 : isGo Tryd.prog 29 = true := by kernel_rfl
theorem N_go18 : isGo Tryd.prog 18 = true := by kernel_rfl
theorem N_un25 : Tryd.prog.underlying 25 = some (.slice 3) := by kernel_rfl
theorem N_go19 : isGo Tryd.prog 19 = true := by kernel_rfl
theorem N_go30 : isGo Tryd.prog 30 = true := by kernel_rfl
theorem N_un4 : Tryd.prog.underlying 4 = some .bool := by kernel_rfl
theorem N_go14 : isGo Tryd.prog 14 = true := by kernel_rfl
set_option maxRecDepth 100000 in
/-- semigroup/semigrouplaw02.RelationSorts -/
theorem RelationSorts_spec (w : World) (a : Option Addr) (cp : Nat) (xs : List (BitVec 64)) (hr : Rd w a (xs.map u)) (hn : xs.length ≤ 9223372036854775807) (hT : Tab w) : Calls Tryd.prog 7 #[.slice a xs.length cp] w (fun e w' => e = .returned (.bool true) ∧ Ext [] w w') := by
  refine enter (args := [.slice a xs.length cp]) [] 41 Tryd.func7 rfl rfl rfl ?_
  refine CT.seq ?_
  -- region 0: law.go:160
  refine CT.region ?_
  refine Wl.q rfl rfl (OpQ.assign rfl) ?_
  refine Wl.nil ?_
  refine PX.then_n ?_
  refine CT.seq ?_
  -- region 1: law.go:161
  refine CT.region ?_
  refine Wl.q rfl rfl (OpQ.move rfl) ?_
  refine Wl.g rfl rfl (OpG.callT N_go29 rfl (fun w hH => topo_spec w a cp xs (hH.rd0 hr rfl) hn (hH.rd0 hT rfl))) ?_
  rintro ⟨a9, c9⟩ h9
  refine Wl.q rfl rfl (OpQ.move rfl) ?_
  refine Wl.q rfl rfl (OpQ.extract rfl rfl) ?_
  refine Wl.q rfl rfl (OpQ.extract rfl rfl) ?_
  refine Wl.q rfl rfl (OpQ.assign rfl) ?_
  refine Wl.q rfl rfl (OpQ.assign rfl) ?_
  refine Wl.nil ?_
  refine PX.then_n ?_
  refine CT.seq ?_
  refine CT.seq ?_
  -- region 2: law.go:162
  refine CT.region ?_
  refine Wl.q rfl rfl (OpQ.move rfl) ?_
  refine Wl.g rfl rfl (OpG.callV N_go18 rfl (fun w hH => validR_spec w a cp xs (hH.rd0 hr rfl) hn )) ?_
  rintro _ _
  refine Wl.q rfl rfl (OpQ.not rfl) ?_
  refine Wl.nil ?_
  refine PX.then_n ?_
  refine CT.cond rfl (fun h14 => ?_) (fun h14 => ?_)
  · -- if t14: then
    have hv : validB xs = false := by simpa using h14
    refine CT.seq ?_
    -- region 3: law.go:163
    refine CT.region ?_
    refine Wl.q rfl rfl (OpQ.move rfl) ?_
    refine Wl.q rfl rfl (OpQ.len N_un25 rfl) ?_
    refine Wl.q rfl rfl (OpQ.eql rfl rfl) ?_
    refine Wl.know 17 (v' := .bool true) rfl (congrArg Value.bool (by rw [topR_no hv]; rfl)) ?_
    refine Wl.q rfl rfl (OpQ.move rfl) ?_
    refine Wl.q rfl rfl (OpQ.move rfl) ?_
    refine Wl.q rfl rfl (OpQ.not rfl) ?_
    refine Wl.know 20 (v' := .bool true) rfl (congrArg Value.bool (by rw [topR_no hv]; rfl)) ?_
    refine Wl.q rfl rfl (OpQ.pickT rfl rfl) ?_
    refine Wl.q rfl rfl (OpQ.move rfl) ?_
    refine Wl.g rfl rfl (OpG.callV N_go19 rfl (fun w hH => awake_spec w)) ?_
    rintro _ _
    refine Wl.q rfl rfl (OpQ.pickT rfl rfl) ?_
    refine Wl.q rfl rfl (OpQ.assign rfl) ?_
    refine Wl.nil ?_
    refine PX.then_n ?_
    refine CT.ret ?_
    refine PX.then_r ?_
    refine PX.ret1 rfl rfl (fun w' hH => ?_)
    exact ⟨rfl, hH.ext⟩
  · -- if t14: else
    have hv : validB xs = true := by simpa using h14
    have hl := validB_le hv
    refine CT.skip ?_
    refine PX.then_n ?_
    refine CT.seq ?_
    -- region 4: law.go:165
    refine CT.region ?_
    refine Wl.q rfl rfl (OpQ.move rfl) ?_
    refine Wl.g rfl rfl (OpG.callT N_go30 rfl (fun w hH => topoR_spec w a cp xs (hH.rd0 hr rfl) hl)) ?_
    rintro ⟨a27, c27⟩ h27
    refine Wl.q rfl rfl (OpQ.move rfl) ?_
    refine Wl.q rfl rfl (OpQ.extract rfl rfl) ?_
    refine Wl.q rfl rfl (OpQ.extract rfl rfl) ?_
    refine Wl.q rfl rfl (OpQ.assign rfl) ?_
    refine Wl.q rfl rfl (OpQ.assign rfl) ?_
    refine Wl.nil ?_
    refine PX.then_n ?_
    refine CT.seq ?_
    -- region 5: law.go:166
    refine CT.region ?_
    refine Wl.q rfl rfl (OpQ.move rfl) ?_
    refine Wl.q rfl rfl (OpQ.move rfl) ?_
    refine Wl.q rfl rfl (OpQ.eqlB N_un4 rfl rfl) ?_
    refine Wl.know 32 (v' := .bool true) rfl (congrArg Value.bool (by rw [top_same hv]; simp)) ?_
    refine Wl.q rfl rfl (OpQ.move rfl) ?_
    refine Wl.q rfl rfl (OpQ.move rfl) ?_
    refine Wl.q rfl rfl (OpQ.move rfl) ?_
    refine Wl.g rfl rfl (OpG.callV N_go14 rfl (fun w hH => sameI_spec w a9 c9 ((topR xs).getD []) (hH.rd (by repeat (first | exact Has.here | apply Has.there))) a27 c27 ((topE xs).getD []) (hH.rd (by repeat (first | exact Has.here | apply Has.there))) (le63 (top_le _)))) ?_
    rintro _ _
    refine Wl.know 36 (v' := .bool true) rfl (congrArg Value.bool (by rw [top_same hv]; simp)) ?_
    refine Wl.q rfl rfl (OpQ.pickT rfl rfl) ?_
    refine Wl.q rfl rfl (OpQ.move rfl) ?_
    refine Wl.g rfl rfl (OpG.callV N_go19 rfl (fun w hH => awake_spec w)) ?_
    rintro _ _
    refine Wl.q rfl rfl (OpQ.pickT rfl rfl) ?_
    refine Wl.q rfl rfl (OpQ.assign rfl) ?_
    refine Wl.nil ?_
    refine PX.then_n ?_
    refine CT.ret ?_
    refine PX.ret1 rfl rfl (fun w' hH => ?_)
    exact ⟨rfl, hH.ext⟩

end Go.Proofs.YtbefnlnnnpinnaaDoor
