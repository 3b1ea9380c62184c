/-
  What functions of the packages firstorder, semigroupref38 and semigroupmade compute, each by its walk. Conditions: those that each theorem names.
-/
import Derived.Test.YtdcjemjfliaaiaaMod
import Derived.Test.YtdcjemjfliaaiaaLaws2
set_option linter.unusedSimpArgs false
namespace Go.Proofs.Ytdcjemjfliaaiaa
open Go Go.Eng Go.Sf
open Go.Tp (zi)
open Go.Tl (vf mayL Wd okW okB vf_t vf_f)

set_option maxRecDepth 100000 in
/-- semigroup/starfree.parts -/
theorem parts_spec (w : World) (op : Int) : Calls Try.prog 49 #[.int .i64 (op)] w (fun e w' => e = .returned (.int .i64 (pt op)) ∧ Ext [] w w') := by
  refine enter (args := [.int .i64 (op)]) [] 10 Try.func49 rfl rfl rfl ?_
  refine CT.seq ?_
  -- region 0: starfree.go:55
  refine CT.region ?_
  refine Wl.q rfl rfl (OpQ.assign rfl) ?_
  refine Wl.nil ?_
  refine PX.then_n ?_
  refine CT.seq ?_
  refine CT.seq ?_
  -- region 1: starfree.go:56
  refine CT.region ?_
  refine Wl.q rfl rfl (OpQ.move rfl) ?_
  refine Wl.nil ?_
  refine PX.then_n ?_
  refine CT.block ?_
  refine CT.seq ?_
  refine CT.seq ?_
  -- region 2: starfree.go:57
  refine CT.region ?_
  refine Wl.q rfl rfl (OpQ.eql rfl rfl) ?_
  refine Wl.q rfl rfl (OpQ.assign rfl) ?_
  refine Wl.nil ?_
  refine PX.then_n ?_
  refine CT.cond rfl (fun h4 => ?_) (fun h4 => ?_)
  · -- if t4: then
    have h4 := of_decide_eq_true h4
    refine CT.skip ?_
    refine PX.then_n ?_
    refine CT.cond rfl (fun h4 => ?_) (fun h4 => ?_)
    · -- if t4: then
      have h4 := of_decide_eq_true h4
      refine CT.seq ?_
      -- region 5: starfree.go:58
      refine CT.region ?_
      refine Wl.q rfl rfl (OpQ.assign rfl) ?_
      refine Wl.nil ?_
      refine PX.then_n ?_
      refine CT.ret ?_
      refine PX.block_r ?_
      refine PX.then_r ?_
      refine PX.ret1 rfl rfl (fun w' hH => ?_)
      exact ⟨Tl.ret_i (by unfold pt; split <;> first | omega | (split <;> omega)), hH.ext⟩
    · -- if t4: else
      have h4 := of_decide_eq_false h4
      refine CT.seq ?_
      -- region 6: starfree.go:59
      refine CT.region ?_
      refine Wl.q rfl rfl (OpQ.eql rfl rfl) ?_
      refine Wl.q rfl rfl (OpQ.assign rfl) ?_
      refine Wl.nil ?_
      refine PX.then_n ?_
      refine CT.cond rfl (fun h8 => ?_) (fun h8 => ?_)
      · -- if t8: then
        have h8 := of_decide_eq_true h8
        refine CT.seq ?_
        -- region 7: starfree.go:60
        refine CT.region ?_
        refine Wl.q rfl rfl (OpQ.assign rfl) ?_
        refine Wl.nil ?_
        refine PX.then_n ?_
        refine CT.ret ?_
        refine PX.block_r ?_
        refine PX.then_r ?_
        refine PX.ret1 rfl rfl (fun w' hH => ?_)
        exact ⟨Tl.ret_i (by unfold pt; split <;> first | omega | (split <;> omega)), hH.ext⟩
      · -- if t8: else
        have h8 := of_decide_eq_false h8
        refine CT.skip ?_
        refine PX.block_n ?_
        refine PX.then_n ?_
        refine CT.seq ?_
        -- region 8: starfree.go:62
        refine CT.region ?_
        refine Wl.q rfl rfl (OpQ.assign rfl) ?_
        refine Wl.nil ?_
        refine PX.then_n ?_
        refine CT.ret ?_
        refine PX.ret1 rfl rfl (fun w' hH => ?_)
        exact ⟨Tl.ret_i (by unfold pt; split <;> first | omega | (split <;> omega)), hH.ext⟩
  · -- if t4: else
    have h4 := of_decide_eq_false h4
    refine CT.seq ?_
    -- region 3: starfree.go:57
    refine CT.region ?_
    refine Wl.q rfl rfl (OpQ.eql rfl rfl) ?_
    refine Wl.q rfl rfl (OpQ.assign rfl) ?_
    refine Wl.nil ?_
    refine PX.then_n ?_
    refine CT.cond rfl (fun h4 => ?_) (fun h4 => ?_)
    · -- if t4: then
      have h4 := of_decide_eq_true h4
      refine CT.skip ?_
      refine PX.then_n ?_
      refine CT.cond rfl (fun h4 => ?_) (fun h4 => ?_)
      · -- if t4: then
        have h4 := of_decide_eq_true h4
        refine CT.seq ?_
        -- region 5: starfree.go:58
        refine CT.region ?_
        refine Wl.q rfl rfl (OpQ.assign rfl) ?_
        refine Wl.nil ?_
        refine PX.then_n ?_
        refine CT.ret ?_
        refine PX.block_r ?_
        refine PX.then_r ?_
        refine PX.ret1 rfl rfl (fun w' hH => ?_)
        exact ⟨Tl.ret_i (by unfold pt; split <;> first | omega | (split <;> omega)), hH.ext⟩
      · -- if t4: else
        have h4 := of_decide_eq_false h4
        refine CT.seq ?_
        -- region 6: starfree.go:59
        refine CT.region ?_
        refine Wl.q rfl rfl (OpQ.eql rfl rfl) ?_
        refine Wl.q rfl rfl (OpQ.assign rfl) ?_
        refine Wl.nil ?_
        refine PX.then_n ?_
        refine CT.cond rfl (fun h8 => ?_) (fun h8 => ?_)
        · -- if t8: then
          have h8 := of_decide_eq_true h8
          refine CT.seq ?_
          -- region 7: starfree.go:60
          refine CT.region ?_
          refine Wl.q rfl rfl (OpQ.assign rfl) ?_
          refine Wl.nil ?_
          refine PX.then_n ?_
          refine CT.ret ?_
          refine PX.block_r ?_
          refine PX.then_r ?_
          refine PX.ret1 rfl rfl (fun w' hH => ?_)
          exact ⟨Tl.ret_i (by unfold pt; split <;> first | omega | (split <;> omega)), hH.ext⟩
        · -- if t8: else
          have h8 := of_decide_eq_false h8
          refine CT.skip ?_
          refine PX.block_n ?_
          refine PX.then_n ?_
          refine CT.seq ?_
          -- region 8: starfree.go:62
          refine CT.region ?_
          refine Wl.q rfl rfl (OpQ.assign rfl) ?_
          refine Wl.nil ?_
          refine PX.then_n ?_
          refine CT.ret ?_
          refine PX.ret1 rfl rfl (fun w' hH => ?_)
          exact ⟨Tl.ret_i (by unfold pt; split <;> first | omega | (split <;> omega)), hH.ext⟩
    · -- if t4: else
      have h4 := of_decide_eq_false h4
      -- region 4: starfree.go:57
      refine CT.region ?_
      refine Wl.q rfl rfl (OpQ.eql rfl rfl) ?_
      refine Wl.q rfl rfl (OpQ.assign rfl) ?_
      refine Wl.nil ?_
      refine PX.then_n ?_
      refine CT.cond rfl (fun h4 => ?_) (fun h4 => ?_)
      · -- if t4: then
        have h4 := of_decide_eq_true h4
        refine CT.seq ?_
        -- region 5: starfree.go:58
        refine CT.region ?_
        refine Wl.q rfl rfl (OpQ.assign rfl) ?_
        refine Wl.nil ?_
        refine PX.then_n ?_
        refine CT.ret ?_
        refine PX.block_r ?_
        refine PX.then_r ?_
        refine PX.ret1 rfl rfl (fun w' hH => ?_)
        exact ⟨Tl.ret_i (by unfold pt; split <;> first | omega | (split <;> omega)), hH.ext⟩
      · -- if t4: else
        have h4 := of_decide_eq_false h4
        refine CT.seq ?_
        -- region 6: starfree.go:59
        refine CT.region ?_
        refine Wl.q rfl rfl (OpQ.eql rfl rfl) ?_
        refine Wl.q rfl rfl (OpQ.assign rfl) ?_
        refine Wl.nil ?_
        refine PX.then_n ?_
        refine CT.cond rfl (fun h8 => ?_) (fun h8 => ?_)
        · -- if t8: then
          have h8 := of_decide_eq_true h8
          refine CT.seq ?_
          -- region 7: starfree.go:60
          refine CT.region ?_
          refine Wl.q rfl rfl (OpQ.assign rfl) ?_
          refine Wl.nil ?_
          refine PX.then_n ?_
          refine CT.ret ?_
          refine PX.block_r ?_
          refine PX.then_r ?_
          refine PX.ret1 rfl rfl (fun w' hH => ?_)
          exact ⟨Tl.ret_i (by unfold pt; split <;> first | omega | (split <;> omega)), hH.ext⟩
        · -- if t8: else
          have h8 := of_decide_eq_false h8
          refine CT.skip ?_
          refine PX.block_n ?_
          refine PX.then_n ?_
          refine CT.seq ?_
          -- region 8: starfree.go:62
          refine CT.region ?_
          refine Wl.q rfl rfl (OpQ.assign rfl) ?_
          refine Wl.nil ?_
          refine PX.then_n ?_
          refine CT.ret ?_
          refine PX.ret1 rfl rfl (fun w' hH => ?_)
          exact ⟨Tl.ret_i (by unfold pt; split <;> first | omega | (split <;> omega)), hH.ext⟩

set_option maxRecDepth 100000 in
/-- semigroup/starfree.validPart -/
theorem validPart_spec (w : World) (v n : Int) (need : Bool) : Calls Try.prog 66 #[.int .i64 (v), .int .i64 (n), .bool need] w (fun e w' => e = .returned (.bool (vf v n need)) ∧ Ext [] w w') := by
  refine enter (args := [.int .i64 (v), .int .i64 (n), .bool need]) [] 17 Try.func66 rfl rfl rfl ?_
  refine CT.seq ?_
  -- region 0: starfree.go:47
  refine CT.region ?_
  refine Wl.q rfl rfl (OpQ.assign rfl) ?_
  refine Wl.nil ?_
  refine PX.then_n ?_
  refine CT.seq ?_
  refine CT.seq ?_
  -- region 1: starfree.go:48
  refine CT.region ?_
  refine Wl.q rfl rfl (OpQ.move rfl) ?_
  refine Wl.nil ?_
  refine PX.then_n ?_
  refine CT.cond rfl (fun h7 => ?_) (fun h7 => ?_)
  · -- if t7: then
    subst h7
    rw [vf_t]
    refine CT.seq ?_
    -- region 2: starfree.go:49
    refine CT.region ?_
    refine Wl.q rfl rfl (OpQ.move rfl) ?_
    refine Wl.q rfl rfl (OpQ.geq rfl rfl) ?_
    refine Wl.q rfl rfl (OpQ.move rfl) ?_
    refine Wl.split 10 rfl (fun hg10 => ?_) (fun hg10 => ?_)
    · -- t10 = True
      have hg10 := of_decide_eq_true hg10
      refine Wl.q rfl rfl (OpQ.move rfl) ?_
      refine Wl.q rfl rfl (OpQ.move rfl) ?_
      refine Wl.q rfl rfl (OpQ.lss rfl rfl) ?_
      refine Wl.q rfl rfl (OpQ.pickT rfl rfl) ?_
      refine Wl.q rfl rfl (OpQ.assign rfl) ?_
      refine Wl.nil ?_
      refine PX.then_n ?_
      refine CT.ret ?_
      refine PX.then_r ?_
      refine PX.ret1 rfl rfl (fun w' hH => ?_)
      exact ⟨Tl.ret_b (by rw [decide_eq_decide]; omega), hH.ext⟩
    · -- t10 = False
      have hg10 := of_decide_eq_false hg10
      refine Wl.skip rfl rfl ?_
      refine Wl.skip rfl rfl ?_
      refine Wl.skip rfl rfl ?_
      refine Wl.q rfl rfl (OpQ.pickF rfl rfl) ?_
      refine Wl.q rfl rfl (OpQ.assign rfl) ?_
      refine Wl.nil ?_
      refine PX.then_n ?_
      refine CT.ret ?_
      refine PX.then_r ?_
      refine PX.ret1 rfl rfl (fun w' hH => ?_)
      exact ⟨Tl.ret_b (by rw [eq_comm, decide_eq_false_iff_not]; omega), hH.ext⟩
  · -- if t7: else
    subst h7
    rw [vf_f]
    refine CT.skip ?_
    refine PX.then_n ?_
    refine CT.seq ?_
    -- region 3: starfree.go:51
    refine CT.region ?_
    refine Wl.q rfl rfl (OpQ.move rfl) ?_
    refine Wl.q rfl rfl (OpQ.eql rfl rfl) ?_
    refine Wl.q rfl rfl (OpQ.assign rfl) ?_
    refine Wl.nil ?_
    refine PX.then_n ?_
    refine CT.ret ?_
    refine PX.ret1 rfl rfl (fun w' hH => ?_)
    exact ⟨rfl, hH.ext⟩

theorem SA_fa72_0 : fieldB Try.prog 72 0 = some 0 := by kernel_rfl
theorem SA_sc3 : scalarB Try.prog 3 = some true := by kernel_rfl
theorem SA_fa72_1 : fieldB Try.prog 72 1 = some 1 := by kernel_rfl
theorem SA_mixed : Try.prog.follows .mixedOrders = true := by kernel_rfl
theorem SA_fa72_2 : fieldB Try.prog 72 2 = some 2 := by kernel_rfl
theorem SA_go49 : isGo Try.prog 49 = true := by kernel_rfl
theorem SA_go66 : isGo Try.prog 66 = true := by kernel_rfl
theorem SA_fa72_3 : fieldB Try.prog 72 3 = some 3 := by kernel_rfl
set_option maxRecDepth 100000 in
/-- semigroup/starfree.validNode -/
theorem validNode_spec (w : World) (n : Nd) (i : Nat) (letters : Int) : Calls Try.prog 54 #[.agg (nv n).toArray, .int .i64 (i : Int), .int .i64 (letters)] w (fun e w' => e = .returned (.bool (okN n i letters)) ∧ Ext [] w w') := by
  refine enter (args := [.agg (nv n).toArray, .int .i64 (i : Int), .int .i64 (letters)]) [] 48 Try.func54 rfl rfl rfl ?_
  refine CT.seq ?_
  -- region 0: starfree.go:32
  refine CT.region ?_
  refine Wl.g rfl rfl (OpG.box (size := 4) rfl rfl rfl) ?_
  rintro b3 _
  refine Wl.q rfl rfl (OpQ.assign rfl) ?_
  refine Wl.nil ?_
  refine PX.then_n ?_
  refine CT.seq ?_
  refine CT.seq ?_
  -- region 1: starfree.go:33
  refine CT.region ?_
  refine Wl.q rfl rfl (OpQ.fieldAddr SA_fa72_0 rfl) ?_
  refine Wl.q rfl rfl (OpQ.loadF (b := b3) SA_sc3 rfl (by repeat (first | exact Has.here | apply Has.there)) (by rfl)) ?_
  refine Wl.q rfl rfl (OpQ.lss rfl rfl) ?_
  refine Wl.q rfl rfl (OpQ.move rfl) ?_
  refine Wl.split 10 rfl (fun hg10 => ?_) (fun hg10 => ?_)
  · -- t10 = True
    have hg10 := of_decide_eq_true hg10
    refine Wl.skip rfl rfl ?_
    refine Wl.skip rfl rfl ?_
    refine Wl.skip rfl rfl ?_
    refine Wl.q rfl rfl (OpQ.pickT rfl rfl) ?_
    refine Wl.nil ?_
    refine PX.then_n ?_
    refine CT.condT rfl ?_
    refine CT.seq ?_
    -- region 2: starfree.go:34
    refine CT.region ?_
    refine Wl.q rfl rfl (OpQ.assign rfl) ?_
    refine Wl.nil ?_
    refine PX.then_n ?_
    refine CT.ret ?_
    refine PX.then_r ?_
    refine PX.ret1 rfl rfl (fun w' hH => ?_)
    exact ⟨Tl.ret_b (by first | exact okN_f1 (by omega) | exact okN_f2 (by omega) | exact okN_t (by omega) (by omega) hg38 | exact okN_f3 hg38), hH.ext⟩
  · -- t10 = False
    have hg10 := of_decide_eq_false hg10
    refine Wl.q rfl rfl (OpQ.fieldAddr SA_fa72_0 rfl) ?_
    refine Wl.q rfl rfl (OpQ.loadF (b := b3) SA_sc3 rfl (by repeat (first | exact Has.here | apply Has.there)) (by rfl)) ?_
    refine Wl.q rfl rfl (OpQ.gtr rfl rfl) ?_
    refine Wl.q rfl rfl (OpQ.pickF rfl rfl) ?_
    refine Wl.nil ?_
    refine PX.then_n ?_
    refine CT.cond rfl (fun h14 => ?_) (fun h14 => ?_)
    · -- if t14: then
      have h14 := of_decide_eq_true h14
      refine CT.seq ?_
      -- region 2: starfree.go:34
      refine CT.region ?_
      refine Wl.q rfl rfl (OpQ.assign rfl) ?_
      refine Wl.nil ?_
      refine PX.then_n ?_
      refine CT.ret ?_
      refine PX.then_r ?_
      refine PX.ret1 rfl rfl (fun w' hH => ?_)
      exact ⟨Tl.ret_b (by first | exact okN_f1 (by omega) | exact okN_f2 (by omega) | exact okN_t (by omega) (by omega) hg38 | exact okN_f3 hg38), hH.ext⟩
    · -- if t14: else
      have h14 := of_decide_eq_false h14
      refine CT.skip ?_
      refine PX.then_n ?_
      refine CT.seq ?_
      refine CT.seq ?_
      -- region 3: starfree.go:36
      refine CT.region ?_
      refine Wl.q rfl rfl (OpQ.fieldAddr SA_fa72_0 rfl) ?_
      refine Wl.q rfl rfl (OpQ.loadF (b := b3) SA_sc3 rfl (by repeat (first | exact Has.here | apply Has.there)) (by rfl)) ?_
      refine Wl.q rfl rfl (OpQ.eql rfl rfl) ?_
      refine Wl.nil ?_
      refine PX.then_n ?_
      refine CT.cond rfl (fun h17 => ?_) (fun h17 => ?_)
      · -- if t17: then
        have h17 := of_decide_eq_true h17
        refine CT.seq ?_
        -- region 4: starfree.go:37
        refine CT.region ?_
        refine Wl.q rfl rfl (OpQ.fieldAddr SA_fa72_1 rfl) ?_
        refine Wl.q rfl rfl (OpQ.loadF (b := b3) SA_sc3 rfl (by repeat (first | exact Has.here | apply Has.there)) (by rfl)) ?_
        refine Wl.q rfl rfl (OpQ.lss rfl rfl) ?_
        refine Wl.q rfl rfl (OpQ.move rfl) ?_
        refine Wl.split 21 rfl (fun hg21 => ?_) (fun hg21 => ?_)
        · -- t21 = True
          have hg21 := of_decide_eq_true hg21
          refine Wl.skip rfl rfl ?_
          refine Wl.skip rfl rfl ?_
          refine Wl.skip rfl rfl ?_
          refine Wl.skip rfl rfl ?_
          refine Wl.q rfl rfl (OpQ.pickT rfl rfl) ?_
          refine Wl.nil ?_
          refine PX.then_n ?_
          refine CT.condT rfl ?_
          refine CT.seq ?_
          -- region 5: starfree.go:38
          refine CT.region ?_
          refine Wl.q rfl rfl (OpQ.assign rfl) ?_
          refine Wl.nil ?_
          refine PX.then_n ?_
          refine CT.ret ?_
          refine PX.then_r ?_
          refine PX.ret1 rfl rfl (fun w' hH => ?_)
          exact ⟨Tl.ret_b (by first | exact okN_f1 (by omega) | exact okN_f2 (by omega) | exact okN_t (by omega) (by omega) hg38 | exact okN_f3 hg38), hH.ext⟩
        · -- t21 = False
          have hg21 := of_decide_eq_false hg21
          refine Wl.q rfl rfl (OpQ.fieldAddr SA_fa72_1 rfl) ?_
          refine Wl.q rfl rfl (OpQ.loadF (b := b3) SA_sc3 rfl (by repeat (first | exact Has.here | apply Has.there)) (by rfl)) ?_
          refine Wl.q rfl rfl (OpQ.move rfl) ?_
          refine Wl.q rfl rfl (OpQ.geq rfl rfl) ?_
          refine Wl.q rfl rfl (OpQ.pickF rfl rfl) ?_
          refine Wl.nil ?_
          refine PX.then_n ?_
          refine CT.cond rfl (fun h26 => ?_) (fun h26 => ?_)
          · -- if t26: then
            have h26 := of_decide_eq_true h26
            refine CT.seq ?_
            -- region 5: starfree.go:38
            refine CT.region ?_
            refine Wl.q rfl rfl (OpQ.assign rfl) ?_
            refine Wl.nil ?_
            refine PX.then_n ?_
            refine CT.ret ?_
            refine PX.then_r ?_
            refine PX.ret1 rfl rfl (fun w' hH => ?_)
            exact ⟨Tl.ret_b (by first | exact okN_f1 (by omega) | exact okN_f2 (by omega) | exact okN_t (by omega) (by omega) hg38 | exact okN_f3 hg38), hH.ext⟩
          · -- if t26: else
            have h26 := of_decide_eq_false h26
            refine CT.skip ?_
            refine PX.then_n ?_
            refine CT.seq ?_
            -- region 8, drawn: starfree.go:43
            refine CT.draw 19 SA_mixed ?_
            refine RA.q 0 (by kernel_rfl) rfl rfl rfl (.refl _) (OpQ.fieldAddr SA_fa72_2 rfl) ?_
            refine RA.q 1 (by kernel_rfl) rfl rfl rfl (.refl _) (OpQ.loadF (b := b3) SA_sc3 rfl (by repeat (first | exact Has.here | apply Has.there)) (by rfl)) ?_
            refine RA.q 2 (by kernel_rfl) rfl rfl rfl (.refl _) (OpQ.move rfl) ?_
            refine RA.q 3 (by kernel_rfl) rfl rfl rfl (.refl _) (OpQ.fieldAddr SA_fa72_0 rfl) ?_
            refine RA.q 4 (by kernel_rfl) rfl rfl rfl (.refl _) (OpQ.loadF (b := b3) SA_sc3 rfl (by repeat (first | exact Has.here | apply Has.there)) (by rfl)) ?_
            refine RA.f 5 (by kernel_rfl) rfl rfl rfl (OpG.callV SA_go49 rfl (fun w hH => parts_spec w _)) (fun _ _ => (.refl _)) ?_
            rintro _ _
            refine RA.q 6 (by kernel_rfl) rfl rfl rfl (.refl _) (OpQ.geq rfl rfl) ?_
            refine RA.know 36 (v' := .bool (hA n.op)) rfl (congrArg Value.bool (pt_a _)) ?_
            refine RA.f 7 (by kernel_rfl) rfl rfl rfl (OpG.callV SA_go66 rfl (fun w hH => validPart_spec w _ _ _)) (fun _ _ => (.refl _)) ?_
            rintro _ _
            refine RA.q 8 (by kernel_rfl) rfl rfl rfl (.refl _) (OpQ.move rfl) ?_
            refine RA.split 38 rfl (fun hg38 => ?_) (fun hg38 => ?_)
            · -- t38 = True
              refine RA.q 9 (by kernel_rfl) rfl rfl rfl (.refl _) (OpQ.fieldAddr SA_fa72_3 rfl) ?_
              refine RA.q 10 (by kernel_rfl) rfl rfl rfl (.refl _) (OpQ.loadF (b := b3) SA_sc3 rfl (by repeat (first | exact Has.here | apply Has.there)) (by rfl)) ?_
              refine RA.q 11 (by kernel_rfl) rfl rfl rfl (.refl _) (OpQ.move rfl) ?_
              refine RA.q 12 (by kernel_rfl) rfl rfl rfl (.refl _) (OpQ.fieldAddr SA_fa72_0 rfl) ?_
              refine RA.q 13 (by kernel_rfl) rfl rfl rfl (.refl _) (OpQ.loadF (b := b3) SA_sc3 rfl (by repeat (first | exact Has.here | apply Has.there)) (by rfl)) ?_
              refine RA.f 14 (by kernel_rfl) rfl rfl rfl (OpG.callV SA_go49 rfl (fun w hH => parts_spec w _)) (fun _ _ => (.refl _)) ?_
              rintro _ _
              refine RA.q 15 (by kernel_rfl) rfl rfl rfl (.refl _) (OpQ.eql rfl rfl) ?_
              refine RA.know 45 (v' := .bool (hB n.op)) rfl (congrArg Value.bool (pt_b _)) ?_
              refine RA.f 16 (by kernel_rfl) rfl rfl rfl (OpG.callV SA_go66 rfl (fun w hH => validPart_spec w _ _ _)) (fun _ _ => (.refl _)) ?_
              rintro _ _
              refine RA.q 17 (by kernel_rfl) rfl rfl rfl (.refl _) (OpQ.pickT rfl rfl) ?_
              refine RA.q 18 (by kernel_rfl) rfl rfl rfl (.refl _) (OpQ.assign rfl) ?_
              refine RA.tail ?_
              refine RT.done (by kernel_rfl) ?_
              refine PX.then_n ?_
              refine CT.ret ?_
              refine PX.ret1 rfl rfl (fun w' hH => ?_)
              exact ⟨Tl.ret_b (by first | exact okN_f1 (by omega) | exact okN_f2 (by omega) | exact okN_t (by omega) (by omega) hg38 | exact okN_f3 hg38), hH.ext⟩
            · -- t38 = False
              refine RA.skip 9 (by kernel_rfl) rfl rfl rfl (.refl _) ?_
              refine RA.skip 10 (by kernel_rfl) rfl rfl rfl (.refl _) ?_
              refine RA.skip 11 (by kernel_rfl) rfl rfl rfl (.refl _) ?_
              refine RA.skip 12 (by kernel_rfl) rfl rfl rfl (.refl _) ?_
              refine RA.skip 13 (by kernel_rfl) rfl rfl rfl (.refl _) ?_
              refine RA.skip 14 (by kernel_rfl) rfl rfl rfl (.refl _) ?_
              refine RA.skip 15 (by kernel_rfl) rfl rfl rfl (.refl _) ?_
              refine RA.skip 16 (by kernel_rfl) rfl rfl rfl (.refl _) ?_
              refine RA.q 17 (by kernel_rfl) rfl rfl rfl (.refl _) (OpQ.pickF rfl rfl) ?_
              refine RA.q 18 (by kernel_rfl) rfl rfl rfl (.refl _) (OpQ.assign rfl) ?_
              refine RA.tail ?_
              refine RT.done (by kernel_rfl) ?_
              refine PX.then_n ?_
              refine CT.ret ?_
              refine PX.ret1 rfl rfl (fun w' hH => ?_)
              exact ⟨Tl.ret_b (by first | exact okN_f1 (by omega) | exact okN_f2 (by omega) | exact okN_t (by omega) (by omega) hg38 | exact okN_f3 hg38), hH.ext⟩
      · -- if t17: else
        have h17 := of_decide_eq_false h17
        refine CT.seq ?_
        -- region 6: starfree.go:40
        refine CT.region ?_
        refine Wl.q rfl rfl (OpQ.fieldAddr SA_fa72_1 rfl) ?_
        refine Wl.q rfl rfl (OpQ.loadF (b := b3) SA_sc3 rfl (by repeat (first | exact Has.here | apply Has.there)) (by rfl)) ?_
        refine Wl.q rfl rfl (OpQ.neq rfl rfl) ?_
        refine Wl.nil ?_
        refine PX.then_n ?_
        refine CT.cond rfl (fun h29 => ?_) (fun h29 => ?_)
        · -- if t29: then
          have h29 := of_nd_t h29
          refine CT.seq ?_
          -- region 7: starfree.go:41
          refine CT.region ?_
          refine Wl.q rfl rfl (OpQ.assign rfl) ?_
          refine Wl.nil ?_
          refine PX.then_n ?_
          refine CT.ret ?_
          refine PX.then_r ?_
          refine PX.ret1 rfl rfl (fun w' hH => ?_)
          exact ⟨Tl.ret_b (by first | exact okN_f1 (by omega) | exact okN_f2 (by omega) | exact okN_t (by omega) (by omega) hg38 | exact okN_f3 hg38), hH.ext⟩
        · -- if t29: else
          have h29 := of_nd_f h29
          refine CT.skip ?_
          refine PX.then_n ?_
          refine CT.seq ?_
          -- region 8, drawn: starfree.go:43
          refine CT.draw 19 SA_mixed ?_
          refine RA.q 0 (by kernel_rfl) rfl rfl rfl (.refl _) (OpQ.fieldAddr SA_fa72_2 rfl) ?_
          refine RA.q 1 (by kernel_rfl) rfl rfl rfl (.refl _) (OpQ.loadF (b := b3) SA_sc3 rfl (by repeat (first | exact Has.here | apply Has.there)) (by rfl)) ?_
          refine RA.q 2 (by kernel_rfl) rfl rfl rfl (.refl _) (OpQ.move rfl) ?_
          refine RA.q 3 (by kernel_rfl) rfl rfl rfl (.refl _) (OpQ.fieldAddr SA_fa72_0 rfl) ?_
          refine RA.q 4 (by kernel_rfl) rfl rfl rfl (.refl _) (OpQ.loadF (b := b3) SA_sc3 rfl (by repeat (first | exact Has.here | apply Has.there)) (by rfl)) ?_
          refine RA.f 5 (by kernel_rfl) rfl rfl rfl (OpG.callV SA_go49 rfl (fun w hH => parts_spec w _)) (fun _ _ => (.refl _)) ?_
          rintro _ _
          refine RA.q 6 (by kernel_rfl) rfl rfl rfl (.refl _) (OpQ.geq rfl rfl) ?_
          refine RA.know 36 (v' := .bool (hA n.op)) rfl (congrArg Value.bool (pt_a _)) ?_
          refine RA.f 7 (by kernel_rfl) rfl rfl rfl (OpG.callV SA_go66 rfl (fun w hH => validPart_spec w _ _ _)) (fun _ _ => (.refl _)) ?_
          rintro _ _
          refine RA.q 8 (by kernel_rfl) rfl rfl rfl (.refl _) (OpQ.move rfl) ?_
          refine RA.split 38 rfl (fun hg38 => ?_) (fun hg38 => ?_)
          · -- t38 = True
            refine RA.q 9 (by kernel_rfl) rfl rfl rfl (.refl _) (OpQ.fieldAddr SA_fa72_3 rfl) ?_
            refine RA.q 10 (by kernel_rfl) rfl rfl rfl (.refl _) (OpQ.loadF (b := b3) SA_sc3 rfl (by repeat (first | exact Has.here | apply Has.there)) (by rfl)) ?_
            refine RA.q 11 (by kernel_rfl) rfl rfl rfl (.refl _) (OpQ.move rfl) ?_
            refine RA.q 12 (by kernel_rfl) rfl rfl rfl (.refl _) (OpQ.fieldAddr SA_fa72_0 rfl) ?_
            refine RA.q 13 (by kernel_rfl) rfl rfl rfl (.refl _) (OpQ.loadF (b := b3) SA_sc3 rfl (by repeat (first | exact Has.here | apply Has.there)) (by rfl)) ?_
            refine RA.f 14 (by kernel_rfl) rfl rfl rfl (OpG.callV SA_go49 rfl (fun w hH => parts_spec w _)) (fun _ _ => (.refl _)) ?_
            rintro _ _
            refine RA.q 15 (by kernel_rfl) rfl rfl rfl (.refl _) (OpQ.eql rfl rfl) ?_
            refine RA.know 45 (v' := .bool (hB n.op)) rfl (congrArg Value.bool (pt_b _)) ?_
            refine RA.f 16 (by kernel_rfl) rfl rfl rfl (OpG.callV SA_go66 rfl (fun w hH => validPart_spec w _ _ _)) (fun _ _ => (.refl _)) ?_
            rintro _ _
            refine RA.q 17 (by kernel_rfl) rfl rfl rfl (.refl _) (OpQ.pickT rfl rfl) ?_
            refine RA.q 18 (by kernel_rfl) rfl rfl rfl (.refl _) (OpQ.assign rfl) ?_
            refine RA.tail ?_
            refine RT.done (by kernel_rfl) ?_
            refine PX.then_n ?_
            refine CT.ret ?_
            refine PX.ret1 rfl rfl (fun w' hH => ?_)
            exact ⟨Tl.ret_b (by first | exact okN_f1 (by omega) | exact okN_f2 (by omega) | exact okN_t (by omega) (by omega) hg38 | exact okN_f3 hg38), hH.ext⟩
          · -- t38 = False
            refine RA.skip 9 (by kernel_rfl) rfl rfl rfl (.refl _) ?_
            refine RA.skip 10 (by kernel_rfl) rfl rfl rfl (.refl _) ?_
            refine RA.skip 11 (by kernel_rfl) rfl rfl rfl (.refl _) ?_
            refine RA.skip 12 (by kernel_rfl) rfl rfl rfl (.refl _) ?_
            refine RA.skip 13 (by kernel_rfl) rfl rfl rfl (.refl _) ?_
            refine RA.skip 14 (by kernel_rfl) rfl rfl rfl (.refl _) ?_
            refine RA.skip 15 (by kernel_rfl) rfl rfl rfl (.refl _) ?_
            refine RA.skip 16 (by kernel_rfl) rfl rfl rfl (.refl _) ?_
            refine RA.q 17 (by kernel_rfl) rfl rfl rfl (.refl _) (OpQ.pickF rfl rfl) ?_
            refine RA.q 18 (by kernel_rfl) rfl rfl rfl (.refl _) (OpQ.assign rfl) ?_
            refine RA.tail ?_
            refine RT.done (by kernel_rfl) ?_
            refine PX.then_n ?_
            refine CT.ret ?_
            refine PX.ret1 rfl rfl (fun w' hH => ?_)
            exact ⟨Tl.ret_b (by first | exact okN_f1 (by omega) | exact okN_f2 (by omega) | exact okN_t (by omega) (by omega) hg38 | exact okN_f3 hg38), hH.ext⟩

theorem SA_fa40_0 : fieldB Try.prog 40 0 = some 0 := by kernel_rfl
theorem SA_sc38 : scalarB Try.prog 38 = some true := by kernel_rfl
theorem SA_un38 : Try.prog.underlying 38 = some (.slice 72) := by kernel_rfl
theorem SA_sz72 : sizeB Try.prog 72 = some 4 := by kernel_rfl
theorem SA_ag72 : isAggB Try.prog 72 = some true := by kernel_rfl
theorem SA_in72 : (Try.prog.info? 72).map (fun i => (i.zero, i.size, i.bytes)) = some (some (.agg #[.int .i64 0, .int .i64 0, .int .i64 0, .int .i64 0]), 4, 32) := by kernel_rfl
theorem SA_go54 : isGo Try.prog 54 = true := by kernel_rfl
theorem SA_fa40_1 : fieldB Try.prog 40 1 = some 1 := by kernel_rfl
set_option maxRecDepth 100000 in
/-- semigroup/starfree.Validate -/
theorem gvalid_spec (w : World) (a : Option Addr) (cp : Nat) (xs : List Nd) (hr : Rd w a (xs.flatMap nv)) (hn : xs.length ≤ 9223372036854775807) (root letters : Int) : Calls Try.prog 35 #[.agg #[.slice a xs.length cp, .int .i64 root], .int .i64 (letters)] w (fun e w' => e = .returned (.int .i64 (gE xs root letters)) ∧ Ext [] w w') := by
  have sm : 0 < xs.length → a.isSome = true := fun h => hr.isSome (j := 0) (by rw [flat_len nv_len]; omega)
  refine enter (args := [.agg #[.slice a xs.length cp, .int .i64 root], .int .i64 (letters)]) [] 42 Try.func35 rfl rfl rfl ?_
  refine CT.seq ?_
  -- region 0: starfree.go:13
  refine CT.region ?_
  refine Wl.g rfl rfl (OpG.box (size := 2) rfl rfl rfl) ?_
  rintro b2 _
  refine Wl.q rfl rfl (OpQ.assign rfl) ?_
  refine Wl.nil ?_
  refine PX.then_n ?_
  refine CT.seq ?_
  refine CT.seq ?_
  -- region 1: starfree.go:14
  refine CT.region ?_
  refine Wl.q rfl rfl (OpQ.move rfl) ?_
  refine Wl.q rfl rfl (OpQ.lss rfl rfl) ?_
  refine Wl.q rfl rfl (OpQ.move rfl) ?_
  refine Wl.split 9 rfl (fun hg9 => ?_) (fun hg9 => ?_)
  · -- t9 = True
    have hg9 := of_decide_eq_true hg9
    refine Wl.skip rfl rfl ?_
    refine Wl.skip rfl rfl ?_
    refine Wl.q rfl rfl (OpQ.pickT rfl rfl) ?_
    refine Wl.nil ?_
    refine PX.then_n ?_
    refine CT.condT rfl ?_
    refine CT.seq ?_
    -- region 2: starfree.go:15
    refine CT.region ?_
    refine Wl.q rfl rfl (OpQ.assign rfl) ?_
    refine Wl.nil ?_
    refine PX.then_n ?_
    refine CT.ret ?_
    refine PX.then_r ?_
    refine PX.ret1 rfl rfl (fun w' hH => ?_)
    exact ⟨Tl.ret_i (gE_may' (by omega)).symm, hH.ext⟩
  · -- t9 = False
    have hg9 := of_decide_eq_false hg9
    refine Wl.q rfl rfl (OpQ.move rfl) ?_
    refine Wl.q rfl rfl (OpQ.gtr rfl rfl) ?_
    refine Wl.q rfl rfl (OpQ.pickF rfl rfl) ?_
    refine Wl.nil ?_
    refine PX.then_n ?_
    refine CT.cond rfl (fun h12 => ?_) (fun h12 => ?_)
    · -- if t12: then
      have h12 := of_decide_eq_true h12
      refine CT.seq ?_
      -- region 2: starfree.go:15
      refine CT.region ?_
      refine Wl.q rfl rfl (OpQ.assign rfl) ?_
      refine Wl.nil ?_
      refine PX.then_n ?_
      refine CT.ret ?_
      refine PX.then_r ?_
      refine PX.ret1 rfl rfl (fun w' hH => ?_)
      exact ⟨Tl.ret_i (gE_may' (by omega)).symm, hH.ext⟩
    · -- if t12: else
      have h12 := of_decide_eq_false h12
      refine CT.skip ?_
      refine PX.then_n ?_
      refine CT.seq ?_
      refine CT.seq ?_
      -- region 3: starfree.go:17
      refine CT.region ?_
      refine Wl.q rfl rfl (OpQ.fieldAddr SA_fa40_0 rfl) ?_
      refine Wl.q rfl rfl (OpQ.loadF (b := b2) SA_sc38 rfl (by repeat (first | exact Has.here | apply Has.there)) (by rfl)) ?_
      refine Wl.q rfl rfl (OpQ.len SA_un38 rfl) ?_
      refine Wl.q rfl rfl (OpQ.gtr rfl rfl) ?_
      refine Wl.nil ?_
      refine PX.then_n ?_
      refine CT.cond rfl (fun h16 => ?_) (fun h16 => ?_)
      · -- if t16: then
        have h16 := of_decide_eq_true h16
        refine CT.seq ?_
        -- region 4: starfree.go:18
        refine CT.region ?_
        refine Wl.q rfl rfl (OpQ.assign rfl) ?_
        refine Wl.nil ?_
        refine PX.then_n ?_
        refine CT.ret ?_
        refine PX.then_r ?_
        refine PX.ret1 rfl rfl (fun w' hH => ?_)
        exact ⟨Tl.ret_i (gE_long (Tl.may_in (by omega) (by omega)) (by omega)).symm, hH.ext⟩
      · -- if t16: else
        have h16 := of_decide_eq_false h16
        refine CT.skip ?_
        refine PX.then_n ?_
        refine CT.seq ?_
        refine CT.seq ?_
        -- region 5: starfree.go:20
        refine CT.region ?_
        refine Wl.q rfl rfl (OpQ.fieldAddr SA_fa40_0 rfl) ?_
        refine Wl.q rfl rfl (OpQ.loadF (b := b2) SA_sc38 rfl (by repeat (first | exact Has.here | apply Has.there)) (by rfl)) ?_
        refine Wl.q rfl rfl (OpQ.len SA_un38 rfl) ?_
        refine Wl.q rfl rfl (OpQ.move rfl) ?_
        refine Wl.nil ?_
        refine PX.then_n ?_
        refine CT.block ?_
        -- the loop at region 6
        refine CT.loop (ι := Nat) (fun k => k ≤ xs.length ∧ ∀ j, j < k → okN (xs.getD j n0) j letters = true) (fun k => [(1, .int .i64 (letters)), (2, .pointer (some ⟨b2, 0, none⟩)), (18, .slice a xs.length cp), (19, .int .i64 (xs.length : Int)), (20, .int .i64 (k : Int))]) (fun k => [.row 40 2 (vb b2) 1 [.slice a xs.length cp, .int .i64 root]]) (fun k => xs.length - k) 0 ⟨by omega, by omega⟩ ⟨rfl, rfl, rfl, rfl, rfl, trivial⟩ (HSub.refl _) (fun k ⟨hk, hall⟩ K0 hK0 => ?_)
        refine CT.seq ?_
        -- region 6: starfree.go:20
        refine CT.region ?_
        refine Wl.q rfl rfl (OpQ.lss rfl rfl) ?_
        refine Wl.nil ?_
        refine PX.then_n ?_
        refine CT.seq ?_
        refine CT.cond rfl (fun h21 => ?_) (fun h21 => ?_)
        · -- if t21: then
          have h21 := of_decide_eq_true h21
          refine CT.skip ?_
          refine PX.then_n ?_
          refine CT.seq ?_
          refine CT.block ?_
          refine CT.seq ?_
          -- region 7: starfree.go:20
          refine CT.region ?_
          refine Wl.q rfl rfl (OpQ.move rfl) ?_
          refine Wl.q rfl rfl (OpQ.index SA_un38 SA_sz72 rfl rfl (by omega) (sm (by omega))) ?_
          refine Wl.q rfl rfl (OpQ.loadAggG (cs := nv (xs.getD k n0)) SA_ag72 SA_sz72 rfl (fun w hH => hH.rd0 hr rfl) (flat_cells nv_len xs n0 (by omega))) ?_
          refine Wl.g rfl rfl (OpG.alloc (zs := [.int .i64 0, .int .i64 0, .int .i64 0, .int .i64 0]) SA_in72 rfl rfl) ?_
          rintro b6 _
          refine Wl.q rfl rfl (OpQ.assign rfl) ?_
          refine Wl.g rfl rfl (OpG.storeV (b := b6) SA_sz72 rfl rfl rfl rfl (by repeat (first | exact Upd.here | apply Upd.there))) ?_
          rintro _ _
          refine Wl.nil ?_
          refine PX.then_n ?_
          refine CT.seq ?_
          -- region 8: starfree.go:21
          refine CT.region ?_
          refine Wl.q rfl rfl (OpQ.loadV (b := b6) SA_ag72 SA_sz72 rfl (by repeat (first | exact Has.here | apply Has.there)) (by rfl)) ?_
          refine Wl.q rfl rfl (OpQ.move rfl) ?_
          refine Wl.q rfl rfl (OpQ.move rfl) ?_
          refine Wl.g rfl rfl (OpG.callV SA_go54 rfl (fun w hH => validNode_spec w _ _ _)) ?_
          rintro _ _
          refine Wl.q rfl rfl (OpQ.not rfl) ?_
          refine Wl.nil ?_
          refine PX.then_n ?_
          refine CT.cond rfl (fun h29 => ?_) (fun h29 => ?_)
          · -- if t29: then
            refine CT.seq ?_
            -- region 9: starfree.go:22
            refine CT.region ?_
            refine Wl.q rfl rfl (OpQ.assign rfl) ?_
            refine Wl.nil ?_
            refine PX.then_n ?_
            refine CT.ret ?_
            refine PX.block_r ?_
            refine PX.then_r ?_
            refine PX.then_r ?_
            refine PX.block_r ?_
            refine PX.then_r ?_
            refine PX.ret1 rfl rfl (fun w' hH => ?_)
            exact ⟨Tl.ret_i (gE_bad (Tl.may_in (by omega) (by omega)) (by omega) (okG_bad (k := k) (by omega) (by simpa [-List.getD_eq_getElem?_getD] using h29))).symm, hH.ext⟩
          · -- if t29: else
            refine CT.skip ?_
            refine PX.block_n ?_
            refine PX.then_n ?_
            -- region 10: starfree.go:20
            refine CT.region ?_
            refine Wl.q rfl rfl (OpQ.add rfl rfl (by omega)) ?_
            refine Wl.q rfl rfl (OpQ.move rfl) ?_
            refine Wl.nil ?_
            have hall2 : ∀ j, j < k + 1 → okN (xs.getD j n0) j letters = true := fun j hj => by
              rcases Nat.lt_or_ge j k with h | h
              · exact hall j h
              · rw [show j = k by omega]; exact (by simpa [-List.getD_eq_getElem?_getD] using h29)
            exact PX.loop hK0 (k + 1) ⟨by omega, hall2⟩ (by first | omega | (dsimp only; omega)) ⟨rfl, rfl, rfl, rfl, rfl, trivial⟩ (.drop (HSub.refl _))
        · -- if t21: else
          have h21 := of_decide_eq_false h21
          refine CT.exit ?_
          refine PX.then_x ?_
          refine PX.then_x ?_
          refine PX.block_x ?_
          refine PX.then_n ?_
          refine CT.seq ?_
          refine CT.seq ?_
          -- region 11: starfree.go:25
          refine CT.region ?_
          refine Wl.q rfl rfl (OpQ.fieldAddr SA_fa40_1 rfl) ?_
          refine Wl.q rfl rfl (OpQ.loadF (b := b2) SA_sc3 rfl (by repeat (first | exact Has.here | apply Has.there)) (by rfl)) ?_
          refine Wl.q rfl rfl (OpQ.lss rfl rfl) ?_
          refine Wl.q rfl rfl (OpQ.move rfl) ?_
          refine Wl.split 34 rfl (fun hg34 => ?_) (fun hg34 => ?_)
          · -- t34 = True
            have hg34 := of_decide_eq_true hg34
            refine Wl.skip rfl rfl ?_
            refine Wl.skip rfl rfl ?_
            refine Wl.skip rfl rfl ?_
            refine Wl.skip rfl rfl ?_
            refine Wl.skip rfl rfl ?_
            refine Wl.skip rfl rfl ?_
            refine Wl.q rfl rfl (OpQ.pickT rfl rfl) ?_
            refine Wl.nil ?_
            refine PX.then_n ?_
            refine CT.condT rfl ?_
            refine CT.seq ?_
            -- region 12: starfree.go:26
            refine CT.region ?_
            refine Wl.q rfl rfl (OpQ.assign rfl) ?_
            refine Wl.nil ?_
            refine PX.then_n ?_
            refine CT.ret ?_
            refine PX.then_r ?_
            refine PX.ret1 rfl rfl (fun w' hH => ?_)
            exact ⟨Tl.ret_i (gE_root (Tl.may_in (by omega) (by omega)) (by omega) (okG_ok (fun j hj => hall j (by omega))) (by omega)).symm, hH.ext⟩
          · -- t34 = False
            have hg34 := of_decide_eq_false hg34
            refine Wl.q rfl rfl (OpQ.fieldAddr SA_fa40_1 rfl) ?_
            refine Wl.q rfl rfl (OpQ.loadF (b := b2) SA_sc3 rfl (by repeat (first | exact Has.here | apply Has.there)) (by rfl)) ?_
            refine Wl.q rfl rfl (OpQ.fieldAddr SA_fa40_0 rfl) ?_
            refine Wl.q rfl rfl (OpQ.loadF (b := b2) SA_sc38 rfl (by repeat (first | exact Has.here | apply Has.there)) (by rfl)) ?_
            refine Wl.q rfl rfl (OpQ.len SA_un38 rfl) ?_
            refine Wl.q rfl rfl (OpQ.geq rfl rfl) ?_
            refine Wl.q rfl rfl (OpQ.pickF rfl rfl) ?_
            refine Wl.nil ?_
            refine PX.then_n ?_
            refine CT.cond rfl (fun h41 => ?_) (fun h41 => ?_)
            · -- if t41: then
              have h41 := of_decide_eq_true h41
              refine CT.seq ?_
              -- region 12: starfree.go:26
              refine CT.region ?_
              refine Wl.q rfl rfl (OpQ.assign rfl) ?_
              refine Wl.nil ?_
              refine PX.then_n ?_
              refine CT.ret ?_
              refine PX.then_r ?_
              refine PX.ret1 rfl rfl (fun w' hH => ?_)
              exact ⟨Tl.ret_i (gE_root (Tl.may_in (by omega) (by omega)) (by omega) (okG_ok (fun j hj => hall j (by omega))) (by omega)).symm, hH.ext⟩
            · -- if t41: else
              have h41 := of_decide_eq_false h41
              refine CT.skip ?_
              refine PX.then_n ?_
              refine CT.seq ?_
              -- region 13: starfree.go:28
              refine CT.region ?_
              refine Wl.q rfl rfl (OpQ.assign rfl) ?_
              refine Wl.nil ?_
              refine PX.then_n ?_
              refine CT.ret ?_
              refine PX.ret1 rfl rfl (fun w' hH => ?_)
              exact ⟨Tl.ret_i (gE_ok (Tl.may_in (by omega) (by omega)) (by omega) (okG_ok (fun j hj => hall j (by omega))) (by omega)).symm, hH.ext⟩

theorem SA_go40 : isGo Try.prog 40 = true := by kernel_rfl
set_option maxRecDepth 100000 in
/-- semigroup/semigroupref31.Validate -/
theorem gvalidR_spec (w : World) (a : Option Addr) (cp : Nat) (xs : List Nd) (hr : Rd w a (xs.flatMap nv)) (hn : xs.length ≤ 9223372036854775807) (root letters : Int) : Calls Try.prog 25 #[.agg #[.slice a xs.length cp, .int .i64 root], .int .i64 (letters)] w (fun e w' => e = .returned (.int .i64 (gE xs root letters)) ∧ Ext [] w w') := by
  have sm : 0 < xs.length → a.isSome = true := fun h => hr.isSome (j := 0) (by rw [flat_len nv_len]; omega)
  refine enter (args := [.agg #[.slice a xs.length cp, .int .i64 root], .int .i64 (letters)]) [] 146 Try.func25 rfl rfl rfl ?_
  refine CT.seq ?_
  -- region 0: ref.go:13
  refine CT.region ?_
  refine Wl.g rfl rfl (OpG.box (size := 2) rfl rfl rfl) ?_
  rintro b2 _
  refine Wl.q rfl rfl (OpQ.assign rfl) ?_
  refine Wl.nil ?_
  refine PX.then_n ?_
  refine CT.seq ?_
  refine CT.seq ?_
  -- region 1: ref.go:14
  refine CT.region ?_
  refine Wl.q rfl rfl (OpQ.move rfl) ?_
  refine Wl.g rfl rfl (OpG.callV SA_go40 rfl (fun w hH => may_spec w letters)) ?_
  rintro _ _
  refine Wl.q rfl rfl (OpQ.not rfl) ?_
  refine Wl.nil ?_
  refine PX.then_n ?_
  refine CT.cond rfl (fun h11 => ?_) (fun h11 => ?_)
  · -- if t11: then
    have hm : mayL letters = false := by simpa using h11
    refine CT.seq ?_
    -- region 2: ref.go:15
    refine CT.region ?_
    refine Wl.q rfl rfl (OpQ.assign rfl) ?_
    refine Wl.nil ?_
    refine PX.then_n ?_
    refine CT.ret ?_
    refine PX.then_r ?_
    refine PX.ret1 rfl rfl (fun w' hH => ?_)
    exact ⟨Tl.ret_i (gE_may hm).symm, hH.ext⟩
  · -- if t11: else
    have hm : mayL letters = true := by simpa using h11
    refine CT.skip ?_
    refine PX.then_n ?_
    refine CT.seq ?_
    refine CT.seq ?_
    -- region 3: ref.go:17
    refine CT.region ?_
    refine Wl.q rfl rfl (OpQ.fieldAddr SA_fa40_0 rfl) ?_
    refine Wl.q rfl rfl (OpQ.loadF (b := b2) SA_sc38 rfl (by repeat (first | exact Has.here | apply Has.there)) (by rfl)) ?_
    refine Wl.q rfl rfl (OpQ.len SA_un38 rfl) ?_
    refine Wl.q rfl rfl (OpQ.gtr rfl rfl) ?_
    refine Wl.nil ?_
    refine PX.then_n ?_
    refine CT.cond rfl (fun h15 => ?_) (fun h15 => ?_)
    · -- if t15: then
      have h15 := of_decide_eq_true h15
      refine CT.seq ?_
      -- region 4: ref.go:18
      refine CT.region ?_
      refine Wl.q rfl rfl (OpQ.assign rfl) ?_
      refine Wl.nil ?_
      refine PX.then_n ?_
      refine CT.ret ?_
      refine PX.then_r ?_
      refine PX.ret1 rfl rfl (fun w' hH => ?_)
      exact ⟨Tl.ret_i (gE_long hm (by omega)).symm, hH.ext⟩
    · -- if t15: else
      have h15 := of_decide_eq_false h15
      refine CT.skip ?_
      refine PX.then_n ?_
      refine CT.seq ?_
      refine CT.seq ?_
      -- region 5: ref.go:20
      refine CT.region ?_
      refine Wl.q rfl rfl (OpQ.fieldAddr SA_fa40_0 rfl) ?_
      refine Wl.q rfl rfl (OpQ.loadF (b := b2) SA_sc38 rfl (by repeat (first | exact Has.here | apply Has.there)) (by rfl)) ?_
      refine Wl.q rfl rfl (OpQ.len SA_un38 rfl) ?_
      refine Wl.q rfl rfl (OpQ.move rfl) ?_
      refine Wl.nil ?_
      refine PX.then_n ?_
      refine CT.block ?_
      -- the loop at region 6
      refine CT.loop (ι := Nat) (fun k => k ≤ xs.length ∧ ∀ j, j < k → okN (xs.getD j n0) j letters = true) (fun k => [(1, .int .i64 (letters)), (2, .pointer (some ⟨b2, 0, none⟩)), (17, .slice a xs.length cp), (18, .int .i64 (xs.length : Int)), (19, .int .i64 (k : Int))]) (fun k => [.row 40 2 (vb b2) 1 [.slice a xs.length cp, .int .i64 root]]) (fun k => xs.length - k) 0 ⟨by omega, by omega⟩ ⟨rfl, rfl, rfl, rfl, rfl, trivial⟩ (HSub.refl _) (fun k ⟨hk, hall⟩ K0 hK0 => ?_)
      refine CT.seq ?_
      -- region 6: ref.go:20
      refine CT.region ?_
      refine Wl.q rfl rfl (OpQ.lss rfl rfl) ?_
      refine Wl.nil ?_
      refine PX.then_n ?_
      refine CT.seq ?_
      refine CT.cond rfl (fun h20 => ?_) (fun h20 => ?_)
      · -- if t20: then
        have h20 := of_decide_eq_true h20
        refine CT.skip ?_
        refine PX.then_n ?_
        refine CT.seq ?_
        refine CT.block ?_
        refine CT.seq ?_
        -- region 7: ref.go:20
        refine CT.region ?_
        refine Wl.q rfl rfl (OpQ.move rfl) ?_
        refine Wl.q rfl rfl (OpQ.index SA_un38 SA_sz72 rfl rfl (by omega) (sm (by omega))) ?_
        refine Wl.q rfl rfl (OpQ.loadAggG (cs := nv (xs.getD k n0)) SA_ag72 SA_sz72 rfl (fun w hH => hH.rd0 hr rfl) (flat_cells nv_len xs n0 (by omega))) ?_
        refine Wl.g rfl rfl (OpG.alloc (zs := [.int .i64 0, .int .i64 0, .int .i64 0, .int .i64 0]) SA_in72 rfl rfl) ?_
        rintro b6 _
        refine Wl.q rfl rfl (OpQ.assign rfl) ?_
        refine Wl.g rfl rfl (OpG.storeV (b := b6) SA_sz72 rfl rfl rfl rfl (by repeat (first | exact Upd.here | apply Upd.there))) ?_
        rintro _ _
        refine Wl.nil ?_
        refine PX.then_n ?_
        refine CT.cut (ι := Unit) (Φ := fun _ => True) (E' := fun _ => [(1, .int .i64 (letters)), (2, .pointer (some ⟨b2, 0, none⟩)), (5, .int .i64 (k : Int)), (6, .pointer (some ⟨b6, 0, none⟩)), (17, .slice a xs.length cp), (18, .int .i64 (xs.length : Int)), (19, .int .i64 (k : Int)), (7, .bool (decide (5 ≤ (xs.getD k n0).op ∧ (xs.getD k n0).op ≤ 8))), (8, .bool (decide (5 ≤ (xs.getD k n0).op ∧ (xs.getD k n0).op ≤ 7)))]) (H' := fun _ => [.row 72 4 (vb b6) 1 (nv (xs.getD k n0)), .row 40 2 (vb b2) 1 [.slice a xs.length cp, .int .i64 root]]) (fun K1 hK1 => ?_) (fun _ _ => ?_)
        · -- up to the join
          -- region 8, drawn: ref.go:21
          refine CT.draw 33 SA_mixed ?_
          refine RA.q 0 (by kernel_rfl) rfl rfl rfl (.refl _) (OpQ.fieldAddr SA_fa72_0 rfl) ?_
          refine RA.q 1 (by kernel_rfl) rfl rfl rfl (.refl _) (OpQ.loadF (b := b6) SA_sc3 rfl (by repeat (first | exact Has.here | apply Has.there)) (by rfl)) ?_
          refine RA.q 2 (by kernel_rfl) rfl rfl rfl (.refl _) (OpQ.eql rfl rfl) ?_
          refine RA.q 3 (by kernel_rfl) rfl rfl rfl (.refl _) (OpQ.move rfl) ?_
          refine RA.split 27 rfl (fun hg27 => ?_) (fun hg27 => ?_)
          · -- t27 = True
            have hg27 := of_decide_eq_true hg27
            refine RA.skip 4 (by kernel_rfl) rfl rfl rfl (.refl _) ?_
            refine RA.skip 5 (by kernel_rfl) rfl rfl rfl (.refl _) ?_
            refine RA.skip 6 (by kernel_rfl) rfl rfl rfl (.refl _) ?_
            refine RA.q 7 (by kernel_rfl) rfl rfl rfl (.refl _) (OpQ.pickT rfl rfl) ?_
            refine RA.q 8 (by kernel_rfl) rfl rfl rfl (.refl _) (OpQ.move rfl) ?_
            refine RA.skip 9 (by kernel_rfl) rfl rfl rfl (.refl _) ?_
            refine RA.skip 10 (by kernel_rfl) rfl rfl rfl (.refl _) ?_
            refine RA.skip 11 (by kernel_rfl) rfl rfl rfl (.refl _) ?_
            refine RA.q 12 (by kernel_rfl) rfl rfl rfl (.refl _) (OpQ.pickT rfl rfl) ?_
            refine RA.q 13 (by kernel_rfl) rfl rfl rfl (.refl _) (OpQ.move rfl) ?_
            refine RA.skip 14 (by kernel_rfl) rfl rfl rfl (.refl _) ?_
            refine RA.skip 15 (by kernel_rfl) rfl rfl rfl (.refl _) ?_
            refine RA.skip 16 (by kernel_rfl) rfl rfl rfl (.refl _) ?_
            refine RA.q 17 (by kernel_rfl) rfl rfl rfl (.refl _) (OpQ.pickT rfl rfl) ?_
            refine RA.q 18 (by kernel_rfl) rfl rfl rfl (.refl _) (OpQ.fieldAddr SA_fa72_0 rfl) ?_
            refine RA.q 19 (by kernel_rfl) rfl rfl rfl (.refl _) (OpQ.loadF (b := b6) SA_sc3 rfl (by repeat (first | exact Has.here | apply Has.there)) (by rfl)) ?_
            refine RA.q 20 (by kernel_rfl) rfl rfl rfl (.refl _) (OpQ.eql rfl rfl) ?_
            refine RA.q 21 (by kernel_rfl) rfl rfl rfl (.refl _) (OpQ.move rfl) ?_
            refine RA.split 45 rfl (fun hg45 => ?_) (fun hg45 => ?_)
            · -- t45 = True
              have hg45 := of_decide_eq_true hg45
              refine RA.skip 22 (by kernel_rfl) rfl rfl rfl (.refl _) ?_
              refine RA.skip 23 (by kernel_rfl) rfl rfl rfl (.refl _) ?_
              refine RA.skip 24 (by kernel_rfl) rfl rfl rfl (.refl _) ?_
              refine RA.q 25 (by kernel_rfl) rfl rfl rfl (.refl _) (OpQ.pickT rfl rfl) ?_
              refine RA.q 26 (by kernel_rfl) rfl rfl rfl (.refl _) (OpQ.move rfl) ?_
              refine RA.skip 27 (by kernel_rfl) rfl rfl rfl (.refl _) ?_
              refine RA.skip 28 (by kernel_rfl) rfl rfl rfl (.refl _) ?_
              refine RA.skip 29 (by kernel_rfl) rfl rfl rfl (.refl _) ?_
              refine RA.q 30 (by kernel_rfl) rfl rfl rfl (.refl _) (OpQ.pickT rfl rfl) ?_
              refine RA.q 31 (by kernel_rfl) rfl rfl rfl (.refl _) (OpQ.assign rfl) ?_
              refine RA.q 32 (by kernel_rfl) rfl rfl rfl (.refl _) (OpQ.assign rfl) ?_
              refine RA.tail ?_
              refine RT.done (by kernel_rfl) ?_
              exact PX.cut hK1 () trivial ⟨rfl, rfl, rfl, rfl, rfl, rfl, rfl, (lkV rfl (congrArg Value.bool (by first | (rw [decide_eq_decide]; omega) | (rw [eq_comm, decide_eq_true_eq]; omega) | (rw [eq_comm, decide_eq_false_iff_not]; omega) | (rw [decide_eq_true_eq]; omega) | (rw [decide_eq_false_iff_not]; omega)))), (lkV rfl (congrArg Value.bool (by first | (rw [decide_eq_decide]; omega) | (rw [eq_comm, decide_eq_true_eq]; omega) | (rw [eq_comm, decide_eq_false_iff_not]; omega) | (rw [decide_eq_true_eq]; omega) | (rw [decide_eq_false_iff_not]; omega)))), trivial⟩ (HSub.refl _)
            · -- t45 = False
              have hg45 := of_decide_eq_false hg45
              refine RA.q 22 (by kernel_rfl) rfl rfl rfl (.refl _) (OpQ.fieldAddr SA_fa72_0 rfl) ?_
              refine RA.q 23 (by kernel_rfl) rfl rfl rfl (.refl _) (OpQ.loadF (b := b6) SA_sc3 rfl (by repeat (first | exact Has.here | apply Has.there)) (by rfl)) ?_
              refine RA.q 24 (by kernel_rfl) rfl rfl rfl (.refl _) (OpQ.eql rfl rfl) ?_
              refine RA.q 25 (by kernel_rfl) rfl rfl rfl (.refl _) (OpQ.pickF rfl rfl) ?_
              refine RA.q 26 (by kernel_rfl) rfl rfl rfl (.refl _) (OpQ.move rfl) ?_
              refine RA.split 50 rfl (fun hg50 => ?_) (fun hg50 => ?_)
              · -- t50 = True
                have hg50 := of_decide_eq_true hg50
                refine RA.skip 27 (by kernel_rfl) rfl rfl rfl (.refl _) ?_
                refine RA.skip 28 (by kernel_rfl) rfl rfl rfl (.refl _) ?_
                refine RA.skip 29 (by kernel_rfl) rfl rfl rfl (.refl _) ?_
                refine RA.q 30 (by kernel_rfl) rfl rfl rfl (.refl _) (OpQ.pickT rfl rfl) ?_
                refine RA.q 31 (by kernel_rfl) rfl rfl rfl (.refl _) (OpQ.assign rfl) ?_
                refine RA.q 32 (by kernel_rfl) rfl rfl rfl (.refl _) (OpQ.assign rfl) ?_
                refine RA.tail ?_
                refine RT.done (by kernel_rfl) ?_
                exact PX.cut hK1 () trivial ⟨rfl, rfl, rfl, rfl, rfl, rfl, rfl, (lkV rfl (congrArg Value.bool (by first | (rw [decide_eq_decide]; omega) | (rw [eq_comm, decide_eq_true_eq]; omega) | (rw [eq_comm, decide_eq_false_iff_not]; omega) | (rw [decide_eq_true_eq]; omega) | (rw [decide_eq_false_iff_not]; omega)))), (lkV rfl (congrArg Value.bool (by first | (rw [decide_eq_decide]; omega) | (rw [eq_comm, decide_eq_true_eq]; omega) | (rw [eq_comm, decide_eq_false_iff_not]; omega) | (rw [decide_eq_true_eq]; omega) | (rw [decide_eq_false_iff_not]; omega)))), trivial⟩ (HSub.refl _)
              · -- t50 = False
                have hg50 := of_decide_eq_false hg50
                refine RA.q 27 (by kernel_rfl) rfl rfl rfl (.refl _) (OpQ.fieldAddr SA_fa72_0 rfl) ?_
                refine RA.q 28 (by kernel_rfl) rfl rfl rfl (.refl _) (OpQ.loadF (b := b6) SA_sc3 rfl (by repeat (first | exact Has.here | apply Has.there)) (by rfl)) ?_
                refine RA.q 29 (by kernel_rfl) rfl rfl rfl (.refl _) (OpQ.eql rfl rfl) ?_
                refine RA.q 30 (by kernel_rfl) rfl rfl rfl (.refl _) (OpQ.pickF rfl rfl) ?_
                refine RA.q 31 (by kernel_rfl) rfl rfl rfl (.refl _) (OpQ.assign rfl) ?_
                refine RA.q 32 (by kernel_rfl) rfl rfl rfl (.refl _) (OpQ.assign rfl) ?_
                refine RA.tail ?_
                refine RT.done (by kernel_rfl) ?_
                exact PX.cut hK1 () trivial ⟨rfl, rfl, rfl, rfl, rfl, rfl, rfl, (lkV rfl (congrArg Value.bool (by first | (rw [decide_eq_decide]; omega) | (rw [eq_comm, decide_eq_true_eq]; omega) | (rw [eq_comm, decide_eq_false_iff_not]; omega) | (rw [decide_eq_true_eq]; omega) | (rw [decide_eq_false_iff_not]; omega)))), (lkV rfl (congrArg Value.bool (by first | (rw [decide_eq_decide]; omega) | (rw [eq_comm, decide_eq_true_eq]; omega) | (rw [eq_comm, decide_eq_false_iff_not]; omega) | (rw [decide_eq_true_eq]; omega) | (rw [decide_eq_false_iff_not]; omega)))), trivial⟩ (HSub.refl _)
          · -- t27 = False
            have hg27 := of_decide_eq_false hg27
            refine RA.q 4 (by kernel_rfl) rfl rfl rfl (.refl _) (OpQ.fieldAddr SA_fa72_0 rfl) ?_
            refine RA.q 5 (by kernel_rfl) rfl rfl rfl (.refl _) (OpQ.loadF (b := b6) SA_sc3 rfl (by repeat (first | exact Has.here | apply Has.there)) (by rfl)) ?_
            refine RA.q 6 (by kernel_rfl) rfl rfl rfl (.refl _) (OpQ.eql rfl rfl) ?_
            refine RA.q 7 (by kernel_rfl) rfl rfl rfl (.refl _) (OpQ.pickF rfl rfl) ?_
            refine RA.q 8 (by kernel_rfl) rfl rfl rfl (.refl _) (OpQ.move rfl) ?_
            refine RA.split 32 rfl (fun hg32 => ?_) (fun hg32 => ?_)
            · -- t32 = True
              have hg32 := of_decide_eq_true hg32
              refine RA.skip 9 (by kernel_rfl) rfl rfl rfl (.refl _) ?_
              refine RA.skip 10 (by kernel_rfl) rfl rfl rfl (.refl _) ?_
              refine RA.skip 11 (by kernel_rfl) rfl rfl rfl (.refl _) ?_
              refine RA.q 12 (by kernel_rfl) rfl rfl rfl (.refl _) (OpQ.pickT rfl rfl) ?_
              refine RA.q 13 (by kernel_rfl) rfl rfl rfl (.refl _) (OpQ.move rfl) ?_
              refine RA.skip 14 (by kernel_rfl) rfl rfl rfl (.refl _) ?_
              refine RA.skip 15 (by kernel_rfl) rfl rfl rfl (.refl _) ?_
              refine RA.skip 16 (by kernel_rfl) rfl rfl rfl (.refl _) ?_
              refine RA.q 17 (by kernel_rfl) rfl rfl rfl (.refl _) (OpQ.pickT rfl rfl) ?_
              refine RA.q 18 (by kernel_rfl) rfl rfl rfl (.refl _) (OpQ.fieldAddr SA_fa72_0 rfl) ?_
              refine RA.q 19 (by kernel_rfl) rfl rfl rfl (.refl _) (OpQ.loadF (b := b6) SA_sc3 rfl (by repeat (first | exact Has.here | apply Has.there)) (by rfl)) ?_
              refine RA.q 20 (by kernel_rfl) rfl rfl rfl (.refl _) (OpQ.eql rfl rfl) ?_
              refine RA.q 21 (by kernel_rfl) rfl rfl rfl (.refl _) (OpQ.move rfl) ?_
              refine RA.split 45 rfl (fun hg45 => ?_) (fun hg45 => ?_)
              · -- t45 = True
                have hg45 := of_decide_eq_true hg45
                refine RA.skip 22 (by kernel_rfl) rfl rfl rfl (.refl _) ?_
                refine RA.skip 23 (by kernel_rfl) rfl rfl rfl (.refl _) ?_
                refine RA.skip 24 (by kernel_rfl) rfl rfl rfl (.refl _) ?_
                refine RA.q 25 (by kernel_rfl) rfl rfl rfl (.refl _) (OpQ.pickT rfl rfl) ?_
                refine RA.q 26 (by kernel_rfl) rfl rfl rfl (.refl _) (OpQ.move rfl) ?_
                refine RA.skip 27 (by kernel_rfl) rfl rfl rfl (.refl _) ?_
                refine RA.skip 28 (by kernel_rfl) rfl rfl rfl (.refl _) ?_
                refine RA.skip 29 (by kernel_rfl) rfl rfl rfl (.refl _) ?_
                refine RA.q 30 (by kernel_rfl) rfl rfl rfl (.refl _) (OpQ.pickT rfl rfl) ?_
                refine RA.q 31 (by kernel_rfl) rfl rfl rfl (.refl _) (OpQ.assign rfl) ?_
                refine RA.q 32 (by kernel_rfl) rfl rfl rfl (.refl _) (OpQ.assign rfl) ?_
                refine RA.tail ?_
                refine RT.done (by kernel_rfl) ?_
                exact PX.cut hK1 () trivial ⟨rfl, rfl, rfl, rfl, rfl, rfl, rfl, (lkV rfl (congrArg Value.bool (by first | (rw [decide_eq_decide]; omega) | (rw [eq_comm, decide_eq_true_eq]; omega) | (rw [eq_comm, decide_eq_false_iff_not]; omega) | (rw [decide_eq_true_eq]; omega) | (rw [decide_eq_false_iff_not]; omega)))), (lkV rfl (congrArg Value.bool (by first | (rw [decide_eq_decide]; omega) | (rw [eq_comm, decide_eq_true_eq]; omega) | (rw [eq_comm, decide_eq_false_iff_not]; omega) | (rw [decide_eq_true_eq]; omega) | (rw [decide_eq_false_iff_not]; omega)))), trivial⟩ (HSub.refl _)
              · -- t45 = False
                have hg45 := of_decide_eq_false hg45
                refine RA.q 22 (by kernel_rfl) rfl rfl rfl (.refl _) (OpQ.fieldAddr SA_fa72_0 rfl) ?_
                refine RA.q 23 (by kernel_rfl) rfl rfl rfl (.refl _) (OpQ.loadF (b := b6) SA_sc3 rfl (by repeat (first | exact Has.here | apply Has.there)) (by rfl)) ?_
                refine RA.q 24 (by kernel_rfl) rfl rfl rfl (.refl _) (OpQ.eql rfl rfl) ?_
                refine RA.q 25 (by kernel_rfl) rfl rfl rfl (.refl _) (OpQ.pickF rfl rfl) ?_
                refine RA.q 26 (by kernel_rfl) rfl rfl rfl (.refl _) (OpQ.move rfl) ?_
                refine RA.split 50 rfl (fun hg50 => ?_) (fun hg50 => ?_)
                · -- t50 = True
                  have hg50 := of_decide_eq_true hg50
                  refine RA.skip 27 (by kernel_rfl) rfl rfl rfl (.refl _) ?_
                  refine RA.skip 28 (by kernel_rfl) rfl rfl rfl (.refl _) ?_
                  refine RA.skip 29 (by kernel_rfl) rfl rfl rfl (.refl _) ?_
                  refine RA.q 30 (by kernel_rfl) rfl rfl rfl (.refl _) (OpQ.pickT rfl rfl) ?_
                  refine RA.q 31 (by kernel_rfl) rfl rfl rfl (.refl _) (OpQ.assign rfl) ?_
                  refine RA.q 32 (by kernel_rfl) rfl rfl rfl (.refl _) (OpQ.assign rfl) ?_
                  refine RA.tail ?_
                  refine RT.done (by kernel_rfl) ?_
                  exact PX.cut hK1 () trivial ⟨rfl, rfl, rfl, rfl, rfl, rfl, rfl, (lkV rfl (congrArg Value.bool (by first | (rw [decide_eq_decide]; omega) | (rw [eq_comm, decide_eq_true_eq]; omega) | (rw [eq_comm, decide_eq_false_iff_not]; omega) | (rw [decide_eq_true_eq]; omega) | (rw [decide_eq_false_iff_not]; omega)))), (lkV rfl (congrArg Value.bool (by first | (rw [decide_eq_decide]; omega) | (rw [eq_comm, decide_eq_true_eq]; omega) | (rw [eq_comm, decide_eq_false_iff_not]; omega) | (rw [decide_eq_true_eq]; omega) | (rw [decide_eq_false_iff_not]; omega)))), trivial⟩ (HSub.refl _)
                · -- t50 = False
                  have hg50 := of_decide_eq_false hg50
                  refine RA.q 27 (by kernel_rfl) rfl rfl rfl (.refl _) (OpQ.fieldAddr SA_fa72_0 rfl) ?_
                  refine RA.q 28 (by kernel_rfl) rfl rfl rfl (.refl _) (OpQ.loadF (b := b6) SA_sc3 rfl (by repeat (first | exact Has.here | apply Has.there)) (by rfl)) ?_
                  refine RA.q 29 (by kernel_rfl) rfl rfl rfl (.refl _) (OpQ.eql rfl rfl) ?_
                  refine RA.q 30 (by kernel_rfl) rfl rfl rfl (.refl _) (OpQ.pickF rfl rfl) ?_
                  refine RA.q 31 (by kernel_rfl) rfl rfl rfl (.refl _) (OpQ.assign rfl) ?_
                  refine RA.q 32 (by kernel_rfl) rfl rfl rfl (.refl _) (OpQ.assign rfl) ?_
                  refine RA.tail ?_
                  refine RT.done (by kernel_rfl) ?_
                  exact PX.cut hK1 () trivial ⟨rfl, rfl, rfl, rfl, rfl, rfl, rfl, (lkV rfl (congrArg Value.bool (by first | (rw [decide_eq_decide]; omega) | (rw [eq_comm, decide_eq_true_eq]; omega) | (rw [eq_comm, decide_eq_false_iff_not]; omega) | (rw [decide_eq_true_eq]; omega) | (rw [decide_eq_false_iff_not]; omega)))), (lkV rfl (congrArg Value.bool (by first | (rw [decide_eq_decide]; omega) | (rw [eq_comm, decide_eq_true_eq]; omega) | (rw [eq_comm, decide_eq_false_iff_not]; omega) | (rw [decide_eq_true_eq]; omega) | (rw [decide_eq_false_iff_not]; omega)))), trivial⟩ (HSub.refl _)
            · -- t32 = False
              have hg32 := of_decide_eq_false hg32
              refine RA.q 9 (by kernel_rfl) rfl rfl rfl (.refl _) (OpQ.fieldAddr SA_fa72_0 rfl) ?_
              refine RA.q 10 (by kernel_rfl) rfl rfl rfl (.refl _) (OpQ.loadF (b := b6) SA_sc3 rfl (by repeat (first | exact Has.here | apply Has.there)) (by rfl)) ?_
              refine RA.q 11 (by kernel_rfl) rfl rfl rfl (.refl _) (OpQ.eql rfl rfl) ?_
              refine RA.q 12 (by kernel_rfl) rfl rfl rfl (.refl _) (OpQ.pickF rfl rfl) ?_
              refine RA.q 13 (by kernel_rfl) rfl rfl rfl (.refl _) (OpQ.move rfl) ?_
              refine RA.split 37 rfl (fun hg37 => ?_) (fun hg37 => ?_)
              · -- t37 = True
                have hg37 := of_decide_eq_true hg37
                refine RA.skip 14 (by kernel_rfl) rfl rfl rfl (.refl _) ?_
                refine RA.skip 15 (by kernel_rfl) rfl rfl rfl (.refl _) ?_
                refine RA.skip 16 (by kernel_rfl) rfl rfl rfl (.refl _) ?_
                refine RA.q 17 (by kernel_rfl) rfl rfl rfl (.refl _) (OpQ.pickT rfl rfl) ?_
                refine RA.q 18 (by kernel_rfl) rfl rfl rfl (.refl _) (OpQ.fieldAddr SA_fa72_0 rfl) ?_
                refine RA.q 19 (by kernel_rfl) rfl rfl rfl (.refl _) (OpQ.loadF (b := b6) SA_sc3 rfl (by repeat (first | exact Has.here | apply Has.there)) (by rfl)) ?_
                refine RA.q 20 (by kernel_rfl) rfl rfl rfl (.refl _) (OpQ.eql rfl rfl) ?_
                refine RA.q 21 (by kernel_rfl) rfl rfl rfl (.refl _) (OpQ.move rfl) ?_
                refine RA.split 45 rfl (fun hg45 => ?_) (fun hg45 => ?_)
                · -- t45 = True
                  have hg45 := of_decide_eq_true hg45
                  refine RA.skip 22 (by kernel_rfl) rfl rfl rfl (.refl _) ?_
                  refine RA.skip 23 (by kernel_rfl) rfl rfl rfl (.refl _) ?_
                  refine RA.skip 24 (by kernel_rfl) rfl rfl rfl (.refl _) ?_
                  refine RA.q 25 (by kernel_rfl) rfl rfl rfl (.refl _) (OpQ.pickT rfl rfl) ?_
                  refine RA.q 26 (by kernel_rfl) rfl rfl rfl (.refl _) (OpQ.move rfl) ?_
                  refine RA.skip 27 (by kernel_rfl) rfl rfl rfl (.refl _) ?_
                  refine RA.skip 28 (by kernel_rfl) rfl rfl rfl (.refl _) ?_
                  refine RA.skip 29 (by kernel_rfl) rfl rfl rfl (.refl _) ?_
                  refine RA.q 30 (by kernel_rfl) rfl rfl rfl (.refl _) (OpQ.pickT rfl rfl) ?_
                  refine RA.q 31 (by kernel_rfl) rfl rfl rfl (.refl _) (OpQ.assign rfl) ?_
                  refine RA.q 32 (by kernel_rfl) rfl rfl rfl (.refl _) (OpQ.assign rfl) ?_
                  refine RA.tail ?_
                  refine RT.done (by kernel_rfl) ?_
                  exact PX.cut hK1 () trivial ⟨rfl, rfl, rfl, rfl, rfl, rfl, rfl, (lkV rfl (congrArg Value.bool (by first | (rw [decide_eq_decide]; omega) | (rw [eq_comm, decide_eq_true_eq]; omega) | (rw [eq_comm, decide_eq_false_iff_not]; omega) | (rw [decide_eq_true_eq]; omega) | (rw [decide_eq_false_iff_not]; omega)))), (lkV rfl (congrArg Value.bool (by first | (rw [decide_eq_decide]; omega) | (rw [eq_comm, decide_eq_true_eq]; omega) | (rw [eq_comm, decide_eq_false_iff_not]; omega) | (rw [decide_eq_true_eq]; omega) | (rw [decide_eq_false_iff_not]; omega)))), trivial⟩ (HSub.refl _)
                · -- t45 = False
                  have hg45 := of_decide_eq_false hg45
                  refine RA.q 22 (by kernel_rfl) rfl rfl rfl (.refl _) (OpQ.fieldAddr SA_fa72_0 rfl) ?_
                  refine RA.q 23 (by kernel_rfl) rfl rfl rfl (.refl _) (OpQ.loadF (b := b6) SA_sc3 rfl (by repeat (first | exact Has.here | apply Has.there)) (by rfl)) ?_
                  refine RA.q 24 (by kernel_rfl) rfl rfl rfl (.refl _) (OpQ.eql rfl rfl) ?_
                  refine RA.q 25 (by kernel_rfl) rfl rfl rfl (.refl _) (OpQ.pickF rfl rfl) ?_
                  refine RA.q 26 (by kernel_rfl) rfl rfl rfl (.refl _) (OpQ.move rfl) ?_
                  refine RA.split 50 rfl (fun hg50 => ?_) (fun hg50 => ?_)
                  · -- t50 = True
                    have hg50 := of_decide_eq_true hg50
                    refine RA.skip 27 (by kernel_rfl) rfl rfl rfl (.refl _) ?_
                    refine RA.skip 28 (by kernel_rfl) rfl rfl rfl (.refl _) ?_
                    refine RA.skip 29 (by kernel_rfl) rfl rfl rfl (.refl _) ?_
                    refine RA.q 30 (by kernel_rfl) rfl rfl rfl (.refl _) (OpQ.pickT rfl rfl) ?_
                    refine RA.q 31 (by kernel_rfl) rfl rfl rfl (.refl _) (OpQ.assign rfl) ?_
                    refine RA.q 32 (by kernel_rfl) rfl rfl rfl (.refl _) (OpQ.assign rfl) ?_
                    refine RA.tail ?_
                    refine RT.done (by kernel_rfl) ?_
                    exact PX.cut hK1 () trivial ⟨rfl, rfl, rfl, rfl, rfl, rfl, rfl, (lkV rfl (congrArg Value.bool (by first | (rw [decide_eq_decide]; omega) | (rw [eq_comm, decide_eq_true_eq]; omega) | (rw [eq_comm, decide_eq_false_iff_not]; omega) | (rw [decide_eq_true_eq]; omega) | (rw [decide_eq_false_iff_not]; omega)))), (lkV rfl (congrArg Value.bool (by first | (rw [decide_eq_decide]; omega) | (rw [eq_comm, decide_eq_true_eq]; omega) | (rw [eq_comm, decide_eq_false_iff_not]; omega) | (rw [decide_eq_true_eq]; omega) | (rw [decide_eq_false_iff_not]; omega)))), trivial⟩ (HSub.refl _)
                  · -- t50 = False
                    have hg50 := of_decide_eq_false hg50
                    refine RA.q 27 (by kernel_rfl) rfl rfl rfl (.refl _) (OpQ.fieldAddr SA_fa72_0 rfl) ?_
                    refine RA.q 28 (by kernel_rfl) rfl rfl rfl (.refl _) (OpQ.loadF (b := b6) SA_sc3 rfl (by repeat (first | exact Has.here | apply Has.there)) (by rfl)) ?_
                    refine RA.q 29 (by kernel_rfl) rfl rfl rfl (.refl _) (OpQ.eql rfl rfl) ?_
                    refine RA.q 30 (by kernel_rfl) rfl rfl rfl (.refl _) (OpQ.pickF rfl rfl) ?_
                    refine RA.q 31 (by kernel_rfl) rfl rfl rfl (.refl _) (OpQ.assign rfl) ?_
                    refine RA.q 32 (by kernel_rfl) rfl rfl rfl (.refl _) (OpQ.assign rfl) ?_
                    refine RA.tail ?_
                    refine RT.done (by kernel_rfl) ?_
                    exact PX.cut hK1 () trivial ⟨rfl, rfl, rfl, rfl, rfl, rfl, rfl, (lkV rfl (congrArg Value.bool (by first | (rw [decide_eq_decide]; omega) | (rw [eq_comm, decide_eq_true_eq]; omega) | (rw [eq_comm, decide_eq_false_iff_not]; omega) | (rw [decide_eq_true_eq]; omega) | (rw [decide_eq_false_iff_not]; omega)))), (lkV rfl (congrArg Value.bool (by first | (rw [decide_eq_decide]; omega) | (rw [eq_comm, decide_eq_true_eq]; omega) | (rw [eq_comm, decide_eq_false_iff_not]; omega) | (rw [decide_eq_true_eq]; omega) | (rw [decide_eq_false_iff_not]; omega)))), trivial⟩ (HSub.refl _)
              · -- t37 = False
                have hg37 := of_decide_eq_false hg37
                refine RA.q 14 (by kernel_rfl) rfl rfl rfl (.refl _) (OpQ.fieldAddr SA_fa72_0 rfl) ?_
                refine RA.q 15 (by kernel_rfl) rfl rfl rfl (.refl _) (OpQ.loadF (b := b6) SA_sc3 rfl (by repeat (first | exact Has.here | apply Has.there)) (by rfl)) ?_
                refine RA.q 16 (by kernel_rfl) rfl rfl rfl (.refl _) (OpQ.eql rfl rfl) ?_
                refine RA.q 17 (by kernel_rfl) rfl rfl rfl (.refl _) (OpQ.pickF rfl rfl) ?_
                refine RA.q 18 (by kernel_rfl) rfl rfl rfl (.refl _) (OpQ.fieldAddr SA_fa72_0 rfl) ?_
                refine RA.q 19 (by kernel_rfl) rfl rfl rfl (.refl _) (OpQ.loadF (b := b6) SA_sc3 rfl (by repeat (first | exact Has.here | apply Has.there)) (by rfl)) ?_
                refine RA.q 20 (by kernel_rfl) rfl rfl rfl (.refl _) (OpQ.eql rfl rfl) ?_
                refine RA.q 21 (by kernel_rfl) rfl rfl rfl (.refl _) (OpQ.move rfl) ?_
                refine RA.split 45 rfl (fun hg45 => ?_) (fun hg45 => ?_)
                · -- t45 = True
                  have hg45 := of_decide_eq_true hg45
                  refine RA.skip 22 (by kernel_rfl) rfl rfl rfl (.refl _) ?_
                  refine RA.skip 23 (by kernel_rfl) rfl rfl rfl (.refl _) ?_
                  refine RA.skip 24 (by kernel_rfl) rfl rfl rfl (.refl _) ?_
                  refine RA.q 25 (by kernel_rfl) rfl rfl rfl (.refl _) (OpQ.pickT rfl rfl) ?_
                  refine RA.q 26 (by kernel_rfl) rfl rfl rfl (.refl _) (OpQ.move rfl) ?_
                  refine RA.skip 27 (by kernel_rfl) rfl rfl rfl (.refl _) ?_
                  refine RA.skip 28 (by kernel_rfl) rfl rfl rfl (.refl _) ?_
                  refine RA.skip 29 (by kernel_rfl) rfl rfl rfl (.refl _) ?_
                  refine RA.q 30 (by kernel_rfl) rfl rfl rfl (.refl _) (OpQ.pickT rfl rfl) ?_
                  refine RA.q 31 (by kernel_rfl) rfl rfl rfl (.refl _) (OpQ.assign rfl) ?_
                  refine RA.q 32 (by kernel_rfl) rfl rfl rfl (.refl _) (OpQ.assign rfl) ?_
                  refine RA.tail ?_
                  refine RT.done (by kernel_rfl) ?_
                  exact PX.cut hK1 () trivial ⟨rfl, rfl, rfl, rfl, rfl, rfl, rfl, (lkV rfl (congrArg Value.bool (by first | (rw [decide_eq_decide]; omega) | (rw [eq_comm, decide_eq_true_eq]; omega) | (rw [eq_comm, decide_eq_false_iff_not]; omega) | (rw [decide_eq_true_eq]; omega) | (rw [decide_eq_false_iff_not]; omega)))), (lkV rfl (congrArg Value.bool (by first | (rw [decide_eq_decide]; omega) | (rw [eq_comm, decide_eq_true_eq]; omega) | (rw [eq_comm, decide_eq_false_iff_not]; omega) | (rw [decide_eq_true_eq]; omega) | (rw [decide_eq_false_iff_not]; omega)))), trivial⟩ (HSub.refl _)
                · -- t45 = False
                  have hg45 := of_decide_eq_false hg45
                  refine RA.q 22 (by kernel_rfl) rfl rfl rfl (.refl _) (OpQ.fieldAddr SA_fa72_0 rfl) ?_
                  refine RA.q 23 (by kernel_rfl) rfl rfl rfl (.refl _) (OpQ.loadF (b := b6) SA_sc3 rfl (by repeat (first | exact Has.here | apply Has.there)) (by rfl)) ?_
                  refine RA.q 24 (by kernel_rfl) rfl rfl rfl (.refl _) (OpQ.eql rfl rfl) ?_
                  refine RA.q 25 (by kernel_rfl) rfl rfl rfl (.refl _) (OpQ.pickF rfl rfl) ?_
                  refine RA.q 26 (by kernel_rfl) rfl rfl rfl (.refl _) (OpQ.move rfl) ?_
                  refine RA.split 50 rfl (fun hg50 => ?_) (fun hg50 => ?_)
                  · -- t50 = True
                    have hg50 := of_decide_eq_true hg50
                    refine RA.skip 27 (by kernel_rfl) rfl rfl rfl (.refl _) ?_
                    refine RA.skip 28 (by kernel_rfl) rfl rfl rfl (.refl _) ?_
                    refine RA.skip 29 (by kernel_rfl) rfl rfl rfl (.refl _) ?_
                    refine RA.q 30 (by kernel_rfl) rfl rfl rfl (.refl _) (OpQ.pickT rfl rfl) ?_
                    refine RA.q 31 (by kernel_rfl) rfl rfl rfl (.refl _) (OpQ.assign rfl) ?_
                    refine RA.q 32 (by kernel_rfl) rfl rfl rfl (.refl _) (OpQ.assign rfl) ?_
                    refine RA.tail ?_
                    refine RT.done (by kernel_rfl) ?_
                    exact PX.cut hK1 () trivial ⟨rfl, rfl, rfl, rfl, rfl, rfl, rfl, (lkV rfl (congrArg Value.bool (by first | (rw [decide_eq_decide]; omega) | (rw [eq_comm, decide_eq_true_eq]; omega) | (rw [eq_comm, decide_eq_false_iff_not]; omega) | (rw [decide_eq_true_eq]; omega) | (rw [decide_eq_false_iff_not]; omega)))), (lkV rfl (congrArg Value.bool (by first | (rw [decide_eq_decide]; omega) | (rw [eq_comm, decide_eq_true_eq]; omega) | (rw [eq_comm, decide_eq_false_iff_not]; omega) | (rw [decide_eq_true_eq]; omega) | (rw [decide_eq_false_iff_not]; omega)))), trivial⟩ (HSub.refl _)
                  · -- t50 = False
                    have hg50 := of_decide_eq_false hg50
                    refine RA.q 27 (by kernel_rfl) rfl rfl rfl (.refl _) (OpQ.fieldAddr SA_fa72_0 rfl) ?_
                    refine RA.q 28 (by kernel_rfl) rfl rfl rfl (.refl _) (OpQ.loadF (b := b6) SA_sc3 rfl (by repeat (first | exact Has.here | apply Has.there)) (by rfl)) ?_
                    refine RA.q 29 (by kernel_rfl) rfl rfl rfl (.refl _) (OpQ.eql rfl rfl) ?_
                    refine RA.q 30 (by kernel_rfl) rfl rfl rfl (.refl _) (OpQ.pickF rfl rfl) ?_
                    refine RA.q 31 (by kernel_rfl) rfl rfl rfl (.refl _) (OpQ.assign rfl) ?_
                    refine RA.q 32 (by kernel_rfl) rfl rfl rfl (.refl _) (OpQ.assign rfl) ?_
                    refine RA.tail ?_
                    refine RT.done (by kernel_rfl) ?_
                    exact PX.cut hK1 () trivial ⟨rfl, rfl, rfl, rfl, rfl, rfl, rfl, (lkV rfl (congrArg Value.bool (by first | (rw [decide_eq_decide]; omega) | (rw [eq_comm, decide_eq_true_eq]; omega) | (rw [eq_comm, decide_eq_false_iff_not]; omega) | (rw [decide_eq_true_eq]; omega) | (rw [decide_eq_false_iff_not]; omega)))), (lkV rfl (congrArg Value.bool (by first | (rw [decide_eq_decide]; omega) | (rw [eq_comm, decide_eq_true_eq]; omega) | (rw [eq_comm, decide_eq_false_iff_not]; omega) | (rw [decide_eq_true_eq]; omega) | (rw [decide_eq_false_iff_not]; omega)))), trivial⟩ (HSub.refl _)
        · -- from the join on
          refine CT.block ?_
          refine CT.weak (E' := [(1, _), (2, _), (5, _), (6, _), (7, _), (8, _), (17, _), (18, _), (19, _)]) (by repeat (first | exact trivial | refine ⟨rfl, ?_⟩)) (HSub.refl _) ?_
          refine CT.cutB 55 (bO (xs.getD k n0)) (fun K2 hK2 => ?_) ?_
          · -- up to the join
            -- region 9: ref.go:23
            refine CT.region ?_
            refine Wl.q rfl rfl (OpQ.fieldAddr SA_fa72_0 rfl) ?_
            refine Wl.q rfl rfl (OpQ.loadF (b := b6) SA_sc3 rfl (by repeat (first | exact Has.here | apply Has.there)) (by rfl)) ?_
            refine Wl.q rfl rfl (OpQ.lss rfl rfl) ?_
            refine Wl.q rfl rfl (OpQ.move rfl) ?_
            refine Wl.split 59 rfl (fun hg59 => ?_) (fun hg59 => ?_)
            · -- t59 = True
              refine Wl.skip rfl rfl ?_
              refine Wl.skip rfl rfl ?_
              refine Wl.skip rfl rfl ?_
              refine Wl.q rfl rfl (OpQ.pickT rfl rfl) ?_
              refine Wl.q rfl rfl (OpQ.assign rfl) ?_
              refine Wl.nil ?_
              exact PX.cutB hK2 ⟨lkV rfl (congrArg Value.bool (by (try simp only [decide_eq_true_eq, decide_eq_false_iff_not, Bool.not_eq_true', Bool.not_eq_false'] at hg59); rw [Bool.eq_iff_iff]; simp [-List.getD_eq_getElem?_getD, bO]; try omega)), (by repeat (first | exact trivial | refine ⟨rfl, ?_⟩))⟩ (HSub.refl _)
            · -- t59 = False
              refine Wl.q rfl rfl (OpQ.fieldAddr SA_fa72_0 rfl) ?_
              refine Wl.q rfl rfl (OpQ.loadF (b := b6) SA_sc3 rfl (by repeat (first | exact Has.here | apply Has.there)) (by rfl)) ?_
              refine Wl.q rfl rfl (OpQ.gtr rfl rfl) ?_
              refine Wl.q rfl rfl (OpQ.pickF rfl rfl) ?_
              refine Wl.q rfl rfl (OpQ.assign rfl) ?_
              refine Wl.nil ?_
              exact PX.cutB hK2 ⟨lkV rfl (congrArg Value.bool (by (try simp only [decide_eq_true_eq, decide_eq_false_iff_not, Bool.not_eq_true', Bool.not_eq_false'] at hg59); rw [Bool.eq_iff_iff]; simp [-List.getD_eq_getElem?_getD, bO]; try omega)), (by repeat (first | exact trivial | refine ⟨rfl, ?_⟩))⟩ (HSub.refl _)
          · -- from the join on
            refine CT.cond rfl (fun h55 => ?_) (fun h55 => ?_)
            · -- if t55: then
              refine CT.seq ?_
              -- region 10: ref.go:24
              refine CT.region ?_
              refine Wl.q rfl rfl (OpQ.assign rfl) ?_
              refine Wl.nil ?_
              refine PX.then_n ?_
              refine CT.ret ?_
              refine PX.block_r ?_
              refine PX.block_r ?_
              refine PX.then_r ?_
              refine PX.then_r ?_
              refine PX.block_r ?_
              refine PX.then_r ?_
              refine PX.ret1 rfl rfl (fun w' hH => ?_)
              exact ⟨Tl.ret_i (gE_bad hm (by omega) (okG_bad (k := k) (by omega) (by rw [okN_bad, h55]; rfl))).symm, hH.ext⟩
            · -- if t55: else
              refine CT.weak (E' := [(1, _), (2, _), (5, _), (6, _), (7, _), (8, _), (17, _), (18, _), (19, _)]) (by repeat (first | exact trivial | refine ⟨rfl, ?_⟩)) (HSub.refl _) ?_
              refine CT.cutB 64 (bL (xs.getD k n0) letters) (fun K3 hK3 => ?_) ?_
              · -- up to the join
                -- region 11: ref.go:25
                refine CT.region ?_
                refine Wl.q rfl rfl (OpQ.fieldAddr SA_fa72_0 rfl) ?_
                refine Wl.q rfl rfl (OpQ.loadF (b := b6) SA_sc3 rfl (by repeat (first | exact Has.here | apply Has.there)) (by rfl)) ?_
                refine Wl.q rfl rfl (OpQ.eql rfl rfl) ?_
                refine Wl.q rfl rfl (OpQ.move rfl) ?_
                refine Wl.split 68 rfl (fun hg68 => ?_) (fun hg68 => ?_)
                · -- t68 = True
                  refine Wl.q rfl rfl (OpQ.fieldAddr SA_fa72_1 rfl) ?_
                  refine Wl.q rfl rfl (OpQ.loadF (b := b6) SA_sc3 rfl (by repeat (first | exact Has.here | apply Has.there)) (by rfl)) ?_
                  refine Wl.q rfl rfl (OpQ.lss rfl rfl) ?_
                  refine Wl.q rfl rfl (OpQ.move rfl) ?_
                  refine Wl.split 72 rfl (fun hg72 => ?_) (fun hg72 => ?_)
                  · -- t72 = True
                    refine Wl.skip rfl rfl ?_
                    refine Wl.skip rfl rfl ?_
                    refine Wl.skip rfl rfl ?_
                    refine Wl.skip rfl rfl ?_
                    refine Wl.q rfl rfl (OpQ.pickT rfl rfl) ?_
                    refine Wl.q rfl rfl (OpQ.pickT rfl rfl) ?_
                    refine Wl.q rfl rfl (OpQ.move rfl) ?_
                    refine Wl.skip rfl rfl ?_
                    refine Wl.skip rfl rfl ?_
                    refine Wl.skip rfl rfl ?_
                    refine Wl.skip rfl rfl ?_
                    refine Wl.skip rfl rfl ?_
                    refine Wl.skip rfl rfl ?_
                    refine Wl.skip rfl rfl ?_
                    refine Wl.skip rfl rfl ?_
                    refine Wl.q rfl rfl (OpQ.pickT rfl rfl) ?_
                    refine Wl.q rfl rfl (OpQ.assign rfl) ?_
                    refine Wl.nil ?_
                    exact PX.cutB hK3 ⟨lkV rfl (congrArg Value.bool (by (try simp only [decide_eq_true_eq, decide_eq_false_iff_not, Bool.not_eq_true', Bool.not_eq_false'] at hg68); (try simp only [decide_eq_true_eq, decide_eq_false_iff_not, Bool.not_eq_true', Bool.not_eq_false'] at hg72); (try simp only [decide_eq_true_eq, decide_eq_false_iff_not, Bool.not_eq_true', Bool.not_eq_false'] at hg79); (try simp only [decide_eq_true_eq, decide_eq_false_iff_not, Bool.not_eq_true', Bool.not_eq_false'] at hg83); rw [Bool.eq_iff_iff]; simp [-List.getD_eq_getElem?_getD, bL]; try omega)), (by repeat (first | exact trivial | refine ⟨rfl, ?_⟩))⟩ (HSub.refl _)
                  · -- t72 = False
                    refine Wl.q rfl rfl (OpQ.fieldAddr SA_fa72_1 rfl) ?_
                    refine Wl.q rfl rfl (OpQ.loadF (b := b6) SA_sc3 rfl (by repeat (first | exact Has.here | apply Has.there)) (by rfl)) ?_
                    refine Wl.q rfl rfl (OpQ.move rfl) ?_
                    refine Wl.q rfl rfl (OpQ.geq rfl rfl) ?_
                    refine Wl.q rfl rfl (OpQ.pickF rfl rfl) ?_
                    refine Wl.q rfl rfl (OpQ.pickT rfl rfl) ?_
                    refine Wl.q rfl rfl (OpQ.move rfl) ?_
                    refine Wl.split 79 rfl (fun hg79 => ?_) (fun hg79 => ?_)
                    · -- t79 = True
                      refine Wl.skip rfl rfl ?_
                      refine Wl.skip rfl rfl ?_
                      refine Wl.skip rfl rfl ?_
                      refine Wl.skip rfl rfl ?_
                      refine Wl.skip rfl rfl ?_
                      refine Wl.skip rfl rfl ?_
                      refine Wl.skip rfl rfl ?_
                      refine Wl.skip rfl rfl ?_
                      refine Wl.q rfl rfl (OpQ.pickT rfl rfl) ?_
                      refine Wl.q rfl rfl (OpQ.assign rfl) ?_
                      refine Wl.nil ?_
                      exact PX.cutB hK3 ⟨lkV rfl (congrArg Value.bool (by (try simp only [decide_eq_true_eq, decide_eq_false_iff_not, Bool.not_eq_true', Bool.not_eq_false'] at hg68); (try simp only [decide_eq_true_eq, decide_eq_false_iff_not, Bool.not_eq_true', Bool.not_eq_false'] at hg72); (try simp only [decide_eq_true_eq, decide_eq_false_iff_not, Bool.not_eq_true', Bool.not_eq_false'] at hg79); (try simp only [decide_eq_true_eq, decide_eq_false_iff_not, Bool.not_eq_true', Bool.not_eq_false'] at hg83); rw [Bool.eq_iff_iff]; simp [-List.getD_eq_getElem?_getD, bL]; try omega)), (by repeat (first | exact trivial | refine ⟨rfl, ?_⟩))⟩ (HSub.refl _)
                    · -- t79 = False
                      refine Wl.q rfl rfl (OpQ.fieldAddr SA_fa72_0 rfl) ?_
                      refine Wl.q rfl rfl (OpQ.loadF (b := b6) SA_sc3 rfl (by repeat (first | exact Has.here | apply Has.there)) (by rfl)) ?_
                      refine Wl.q rfl rfl (OpQ.neq rfl rfl) ?_
                      refine Wl.q rfl rfl (OpQ.move rfl) ?_
                      refine Wl.split 83 rfl (fun hg83 => ?_) (fun hg83 => ?_)
                      · -- t83 = True
                        refine Wl.q rfl rfl (OpQ.fieldAddr SA_fa72_1 rfl) ?_
                        refine Wl.q rfl rfl (OpQ.loadF (b := b6) SA_sc3 rfl (by repeat (first | exact Has.here | apply Has.there)) (by rfl)) ?_
                        refine Wl.q rfl rfl (OpQ.neq rfl rfl) ?_
                        refine Wl.q rfl rfl (OpQ.pickT rfl rfl) ?_
                        refine Wl.q rfl rfl (OpQ.pickF rfl rfl) ?_
                        refine Wl.q rfl rfl (OpQ.assign rfl) ?_
                        refine Wl.nil ?_
                        exact PX.cutB hK3 ⟨lkV rfl (congrArg Value.bool (by (try simp only [decide_eq_true_eq, decide_eq_false_iff_not, Bool.not_eq_true', Bool.not_eq_false'] at hg68); (try simp only [decide_eq_true_eq, decide_eq_false_iff_not, Bool.not_eq_true', Bool.not_eq_false'] at hg72); (try simp only [decide_eq_true_eq, decide_eq_false_iff_not, Bool.not_eq_true', Bool.not_eq_false'] at hg79); (try simp only [decide_eq_true_eq, decide_eq_false_iff_not, Bool.not_eq_true', Bool.not_eq_false'] at hg83); rw [Bool.eq_iff_iff]; simp [-List.getD_eq_getElem?_getD, bL]; try omega)), (by repeat (first | exact trivial | refine ⟨rfl, ?_⟩))⟩ (HSub.refl _)
                      · -- t83 = False
                        refine Wl.skip rfl rfl ?_
                        refine Wl.skip rfl rfl ?_
                        refine Wl.skip rfl rfl ?_
                        refine Wl.q rfl rfl (OpQ.pickF rfl rfl) ?_
                        refine Wl.q rfl rfl (OpQ.pickF rfl rfl) ?_
                        refine Wl.q rfl rfl (OpQ.assign rfl) ?_
                        refine Wl.nil ?_
                        exact PX.cutB hK3 ⟨lkV rfl (congrArg Value.bool (by (try simp only [decide_eq_true_eq, decide_eq_false_iff_not, Bool.not_eq_true', Bool.not_eq_false'] at hg68); (try simp only [decide_eq_true_eq, decide_eq_false_iff_not, Bool.not_eq_true', Bool.not_eq_false'] at hg72); (try simp only [decide_eq_true_eq, decide_eq_false_iff_not, Bool.not_eq_true', Bool.not_eq_false'] at hg79); (try simp only [decide_eq_true_eq, decide_eq_false_iff_not, Bool.not_eq_true', Bool.not_eq_false'] at hg83); rw [Bool.eq_iff_iff]; simp [-List.getD_eq_getElem?_getD, bL]; try omega)), (by repeat (first | exact trivial | refine ⟨rfl, ?_⟩))⟩ (HSub.refl _)
                · -- t68 = False
                  refine Wl.skip rfl rfl ?_
                  refine Wl.skip rfl rfl ?_
                  refine Wl.skip rfl rfl ?_
                  refine Wl.skip rfl rfl ?_
                  refine Wl.skip rfl rfl ?_
                  refine Wl.skip rfl rfl ?_
                  refine Wl.skip rfl rfl ?_
                  refine Wl.skip rfl rfl ?_
                  refine Wl.skip rfl rfl ?_
                  refine Wl.q rfl rfl (OpQ.pickF rfl rfl) ?_
                  refine Wl.q rfl rfl (OpQ.move rfl) ?_
                  refine Wl.q rfl rfl (OpQ.fieldAddr SA_fa72_0 rfl) ?_
                  refine Wl.q rfl rfl (OpQ.loadF (b := b6) SA_sc3 rfl (by repeat (first | exact Has.here | apply Has.there)) (by rfl)) ?_
                  refine Wl.q rfl rfl (OpQ.neq rfl rfl) ?_
                  refine Wl.q rfl rfl (OpQ.move rfl) ?_
                  refine Wl.split 83 rfl (fun hg83 => ?_) (fun hg83 => ?_)
                  · -- t83 = True
                    refine Wl.q rfl rfl (OpQ.fieldAddr SA_fa72_1 rfl) ?_
                    refine Wl.q rfl rfl (OpQ.loadF (b := b6) SA_sc3 rfl (by repeat (first | exact Has.here | apply Has.there)) (by rfl)) ?_
                    refine Wl.q rfl rfl (OpQ.neq rfl rfl) ?_
                    refine Wl.q rfl rfl (OpQ.pickT rfl rfl) ?_
                    refine Wl.q rfl rfl (OpQ.pickF rfl rfl) ?_
                    refine Wl.q rfl rfl (OpQ.assign rfl) ?_
                    refine Wl.nil ?_
                    exact PX.cutB hK3 ⟨lkV rfl (congrArg Value.bool (by (try simp only [decide_eq_true_eq, decide_eq_false_iff_not, Bool.not_eq_true', Bool.not_eq_false'] at hg68); (try simp only [decide_eq_true_eq, decide_eq_false_iff_not, Bool.not_eq_true', Bool.not_eq_false'] at hg72); (try simp only [decide_eq_true_eq, decide_eq_false_iff_not, Bool.not_eq_true', Bool.not_eq_false'] at hg79); (try simp only [decide_eq_true_eq, decide_eq_false_iff_not, Bool.not_eq_true', Bool.not_eq_false'] at hg83); rw [Bool.eq_iff_iff]; simp [-List.getD_eq_getElem?_getD, bL]; try omega)), (by repeat (first | exact trivial | refine ⟨rfl, ?_⟩))⟩ (HSub.refl _)
                  · -- t83 = False
                    refine Wl.skip rfl rfl ?_
                    refine Wl.skip rfl rfl ?_
                    refine Wl.skip rfl rfl ?_
                    refine Wl.q rfl rfl (OpQ.pickF rfl rfl) ?_
                    refine Wl.q rfl rfl (OpQ.pickF rfl rfl) ?_
                    refine Wl.q rfl rfl (OpQ.assign rfl) ?_
                    refine Wl.nil ?_
                    exact PX.cutB hK3 ⟨lkV rfl (congrArg Value.bool (by (try simp only [decide_eq_true_eq, decide_eq_false_iff_not, Bool.not_eq_true', Bool.not_eq_false'] at hg68); (try simp only [decide_eq_true_eq, decide_eq_false_iff_not, Bool.not_eq_true', Bool.not_eq_false'] at hg72); (try simp only [decide_eq_true_eq, decide_eq_false_iff_not, Bool.not_eq_true', Bool.not_eq_false'] at hg79); (try simp only [decide_eq_true_eq, decide_eq_false_iff_not, Bool.not_eq_true', Bool.not_eq_false'] at hg83); rw [Bool.eq_iff_iff]; simp [-List.getD_eq_getElem?_getD, bL]; try omega)), (by repeat (first | exact trivial | refine ⟨rfl, ?_⟩))⟩ (HSub.refl _)
              · -- from the join on
                refine CT.cond rfl (fun h64 => ?_) (fun h64 => ?_)
                · -- if t64: then
                  refine CT.seq ?_
                  -- region 12: ref.go:26
                  refine CT.region ?_
                  refine Wl.q rfl rfl (OpQ.assign rfl) ?_
                  refine Wl.nil ?_
                  refine PX.then_n ?_
                  refine CT.ret ?_
                  refine PX.block_r ?_
                  refine PX.block_r ?_
                  refine PX.then_r ?_
                  refine PX.then_r ?_
                  refine PX.block_r ?_
                  refine PX.then_r ?_
                  refine PX.ret1 rfl rfl (fun w' hH => ?_)
                  exact ⟨Tl.ret_i (gE_bad hm (by omega) (okG_bad (k := k) (by omega) (by rw [okN_bad, h64]; simp))).symm, hH.ext⟩
                · -- if t64: else
                  refine CT.weak (E' := [(1, _), (2, _), (5, _), (6, _), (7, _), (8, _), (17, _), (18, _), (19, _)]) (by repeat (first | exact trivial | refine ⟨rfl, ?_⟩)) (HSub.refl _) ?_
                  refine CT.cutB 89 (bA (xs.getD k n0) k) (fun K4 hK4 => ?_) ?_
                  · -- up to the join
                    -- region 13: ref.go:27
                    refine CT.region ?_
                    refine Wl.q rfl rfl (OpQ.move rfl) ?_
                    refine Wl.q rfl rfl (OpQ.move rfl) ?_
                    refine Wl.split 91 rfl (fun hg91 => ?_) (fun hg91 => ?_)
                    · -- t91 = True
                      refine Wl.q rfl rfl (OpQ.fieldAddr SA_fa72_2 rfl) ?_
                      refine Wl.q rfl rfl (OpQ.loadF (b := b6) SA_sc3 rfl (by repeat (first | exact Has.here | apply Has.there)) (by rfl)) ?_
                      refine Wl.q rfl rfl (OpQ.lss rfl rfl) ?_
                      refine Wl.q rfl rfl (OpQ.move rfl) ?_
                      refine Wl.split 95 rfl (fun hg95 => ?_) (fun hg95 => ?_)
                      · -- t95 = True
                        refine Wl.skip rfl rfl ?_
                        refine Wl.skip rfl rfl ?_
                        refine Wl.skip rfl rfl ?_
                        refine Wl.skip rfl rfl ?_
                        refine Wl.q rfl rfl (OpQ.pickT rfl rfl) ?_
                        refine Wl.q rfl rfl (OpQ.pickT rfl rfl) ?_
                        refine Wl.q rfl rfl (OpQ.move rfl) ?_
                        refine Wl.skip rfl rfl ?_
                        refine Wl.skip rfl rfl ?_
                        refine Wl.skip rfl rfl ?_
                        refine Wl.skip rfl rfl ?_
                        refine Wl.skip rfl rfl ?_
                        refine Wl.skip rfl rfl ?_
                        refine Wl.skip rfl rfl ?_
                        refine Wl.q rfl rfl (OpQ.pickT rfl rfl) ?_
                        refine Wl.q rfl rfl (OpQ.move rfl) ?_
                        refine Wl.skip rfl rfl ?_
                        refine Wl.skip rfl rfl ?_
                        refine Wl.skip rfl rfl ?_
                        refine Wl.skip rfl rfl ?_
                        refine Wl.skip rfl rfl ?_
                        refine Wl.skip rfl rfl ?_
                        refine Wl.skip rfl rfl ?_
                        refine Wl.skip rfl rfl ?_
                        refine Wl.skip rfl rfl ?_
                        refine Wl.skip rfl rfl ?_
                        refine Wl.skip rfl rfl ?_
                        refine Wl.skip rfl rfl ?_
                        refine Wl.q rfl rfl (OpQ.pickT rfl rfl) ?_
                        refine Wl.q rfl rfl (OpQ.move rfl) ?_
                        refine Wl.skip rfl rfl ?_
                        refine Wl.skip rfl rfl ?_
                        refine Wl.skip rfl rfl ?_
                        refine Wl.skip rfl rfl ?_
                        refine Wl.skip rfl rfl ?_
                        refine Wl.skip rfl rfl ?_
                        refine Wl.skip rfl rfl ?_
                        refine Wl.q rfl rfl (OpQ.pickT rfl rfl) ?_
                        refine Wl.q rfl rfl (OpQ.assign rfl) ?_
                        refine Wl.nil ?_
                        exact PX.cutB hK4 ⟨lkV rfl (congrArg Value.bool (by (try simp only [decide_eq_true_eq, decide_eq_false_iff_not, Bool.not_eq_true', Bool.not_eq_false'] at hg91); (try simp only [decide_eq_true_eq, decide_eq_false_iff_not, Bool.not_eq_true', Bool.not_eq_false'] at hg95); (try simp only [decide_eq_true_eq, decide_eq_false_iff_not, Bool.not_eq_true', Bool.not_eq_false'] at hg102); (try simp only [decide_eq_true_eq, decide_eq_false_iff_not, Bool.not_eq_true', Bool.not_eq_false'] at hg105); (try simp only [decide_eq_true_eq, decide_eq_false_iff_not, Bool.not_eq_true', Bool.not_eq_false'] at hg111); (try simp only [decide_eq_true_eq, decide_eq_false_iff_not, Bool.not_eq_true', Bool.not_eq_false'] at hg113); (try simp only [decide_eq_true_eq, decide_eq_false_iff_not, Bool.not_eq_true', Bool.not_eq_false'] at hg117); (try simp only [decide_eq_true_eq, decide_eq_false_iff_not, Bool.not_eq_true', Bool.not_eq_false'] at hg125); (try simp only [decide_eq_true_eq, decide_eq_false_iff_not, Bool.not_eq_true', Bool.not_eq_false'] at hg128); rw [Bool.eq_iff_iff]; simp [-List.getD_eq_getElem?_getD, bA, hA, hB]; try omega)), (by repeat (first | exact trivial | refine ⟨rfl, ?_⟩))⟩ (HSub.refl _)
                      · -- t95 = False
                        refine Wl.q rfl rfl (OpQ.fieldAddr SA_fa72_2 rfl) ?_
                        refine Wl.q rfl rfl (OpQ.loadF (b := b6) SA_sc3 rfl (by repeat (first | exact Has.here | apply Has.there)) (by rfl)) ?_
                        refine Wl.q rfl rfl (OpQ.move rfl) ?_
                        refine Wl.q rfl rfl (OpQ.geq rfl rfl) ?_
                        refine Wl.q rfl rfl (OpQ.pickF rfl rfl) ?_
                        refine Wl.q rfl rfl (OpQ.pickT rfl rfl) ?_
                        refine Wl.q rfl rfl (OpQ.move rfl) ?_
                        refine Wl.split 102 rfl (fun hg102 => ?_) (fun hg102 => ?_)
                        · -- t102 = True
                          refine Wl.skip rfl rfl ?_
                          refine Wl.skip rfl rfl ?_
                          refine Wl.skip rfl rfl ?_
                          refine Wl.skip rfl rfl ?_
                          refine Wl.skip rfl rfl ?_
                          refine Wl.skip rfl rfl ?_
                          refine Wl.skip rfl rfl ?_
                          refine Wl.q rfl rfl (OpQ.pickT rfl rfl) ?_
                          refine Wl.q rfl rfl (OpQ.move rfl) ?_
                          refine Wl.skip rfl rfl ?_
                          refine Wl.skip rfl rfl ?_
                          refine Wl.skip rfl rfl ?_
                          refine Wl.skip rfl rfl ?_
                          refine Wl.skip rfl rfl ?_
                          refine Wl.skip rfl rfl ?_
                          refine Wl.skip rfl rfl ?_
                          refine Wl.skip rfl rfl ?_
                          refine Wl.skip rfl rfl ?_
                          refine Wl.skip rfl rfl ?_
                          refine Wl.skip rfl rfl ?_
                          refine Wl.skip rfl rfl ?_
                          refine Wl.q rfl rfl (OpQ.pickT rfl rfl) ?_
                          refine Wl.q rfl rfl (OpQ.move rfl) ?_
                          refine Wl.skip rfl rfl ?_
                          refine Wl.skip rfl rfl ?_
                          refine Wl.skip rfl rfl ?_
                          refine Wl.skip rfl rfl ?_
                          refine Wl.skip rfl rfl ?_
                          refine Wl.skip rfl rfl ?_
                          refine Wl.skip rfl rfl ?_
                          refine Wl.q rfl rfl (OpQ.pickT rfl rfl) ?_
                          refine Wl.q rfl rfl (OpQ.assign rfl) ?_
                          refine Wl.nil ?_
                          exact PX.cutB hK4 ⟨lkV rfl (congrArg Value.bool (by (try simp only [decide_eq_true_eq, decide_eq_false_iff_not, Bool.not_eq_true', Bool.not_eq_false'] at hg91); (try simp only [decide_eq_true_eq, decide_eq_false_iff_not, Bool.not_eq_true', Bool.not_eq_false'] at hg95); (try simp only [decide_eq_true_eq, decide_eq_false_iff_not, Bool.not_eq_true', Bool.not_eq_false'] at hg102); (try simp only [decide_eq_true_eq, decide_eq_false_iff_not, Bool.not_eq_true', Bool.not_eq_false'] at hg105); (try simp only [decide_eq_true_eq, decide_eq_false_iff_not, Bool.not_eq_true', Bool.not_eq_false'] at hg111); (try simp only [decide_eq_true_eq, decide_eq_false_iff_not, Bool.not_eq_true', Bool.not_eq_false'] at hg113); (try simp only [decide_eq_true_eq, decide_eq_false_iff_not, Bool.not_eq_true', Bool.not_eq_false'] at hg117); (try simp only [decide_eq_true_eq, decide_eq_false_iff_not, Bool.not_eq_true', Bool.not_eq_false'] at hg125); (try simp only [decide_eq_true_eq, decide_eq_false_iff_not, Bool.not_eq_true', Bool.not_eq_false'] at hg128); rw [Bool.eq_iff_iff]; simp [-List.getD_eq_getElem?_getD, bA, hA, hB]; try omega)), (by repeat (first | exact trivial | refine ⟨rfl, ?_⟩))⟩ (HSub.refl _)
                        · -- t102 = False
                          refine Wl.q rfl rfl (OpQ.move rfl) ?_
                          refine Wl.q rfl rfl (OpQ.not rfl) ?_
                          refine Wl.q rfl rfl (OpQ.move rfl) ?_
                          refine Wl.split 105 rfl (fun hg105 => ?_) (fun hg105 => ?_)
                          · -- t105 = True
                            refine Wl.q rfl rfl (OpQ.fieldAddr SA_fa72_2 rfl) ?_
                            refine Wl.q rfl rfl (OpQ.loadF (b := b6) SA_sc3 rfl (by repeat (first | exact Has.here | apply Has.there)) (by rfl)) ?_
                            refine Wl.q rfl rfl (OpQ.neq rfl rfl) ?_
                            refine Wl.q rfl rfl (OpQ.pickT rfl rfl) ?_
                            refine Wl.q rfl rfl (OpQ.pickF rfl rfl) ?_
                            refine Wl.q rfl rfl (OpQ.move rfl) ?_
                            refine Wl.split 111 rfl (fun hg111 => ?_) (fun hg111 => ?_)
                            · -- t111 = True
                              refine Wl.skip rfl rfl ?_
                              refine Wl.skip rfl rfl ?_
                              refine Wl.skip rfl rfl ?_
                              refine Wl.skip rfl rfl ?_
                              refine Wl.skip rfl rfl ?_
                              refine Wl.skip rfl rfl ?_
                              refine Wl.skip rfl rfl ?_
                              refine Wl.skip rfl rfl ?_
                              refine Wl.skip rfl rfl ?_
                              refine Wl.skip rfl rfl ?_
                              refine Wl.skip rfl rfl ?_
                              refine Wl.skip rfl rfl ?_
                              refine Wl.q rfl rfl (OpQ.pickT rfl rfl) ?_
                              refine Wl.q rfl rfl (OpQ.move rfl) ?_
                              refine Wl.skip rfl rfl ?_
                              refine Wl.skip rfl rfl ?_
                              refine Wl.skip rfl rfl ?_
                              refine Wl.skip rfl rfl ?_
                              refine Wl.skip rfl rfl ?_
                              refine Wl.skip rfl rfl ?_
                              refine Wl.skip rfl rfl ?_
                              refine Wl.q rfl rfl (OpQ.pickT rfl rfl) ?_
                              refine Wl.q rfl rfl (OpQ.assign rfl) ?_
                              refine Wl.nil ?_
                              exact PX.cutB hK4 ⟨lkV rfl (congrArg Value.bool (by (try simp only [decide_eq_true_eq, decide_eq_false_iff_not, Bool.not_eq_true', Bool.not_eq_false'] at hg91); (try simp only [decide_eq_true_eq, decide_eq_false_iff_not, Bool.not_eq_true', Bool.not_eq_false'] at hg95); (try simp only [decide_eq_true_eq, decide_eq_false_iff_not, Bool.not_eq_true', Bool.not_eq_false'] at hg102); (try simp only [decide_eq_true_eq, decide_eq_false_iff_not, Bool.not_eq_true', Bool.not_eq_false'] at hg105); (try simp only [decide_eq_true_eq, decide_eq_false_iff_not, Bool.not_eq_true', Bool.not_eq_false'] at hg111); (try simp only [decide_eq_true_eq, decide_eq_false_iff_not, Bool.not_eq_true', Bool.not_eq_false'] at hg113); (try simp only [decide_eq_true_eq, decide_eq_false_iff_not, Bool.not_eq_true', Bool.not_eq_false'] at hg117); (try simp only [decide_eq_true_eq, decide_eq_false_iff_not, Bool.not_eq_true', Bool.not_eq_false'] at hg125); (try simp only [decide_eq_true_eq, decide_eq_false_iff_not, Bool.not_eq_true', Bool.not_eq_false'] at hg128); rw [Bool.eq_iff_iff]; simp [-List.getD_eq_getElem?_getD, bA, hA, hB]; try omega)), (by repeat (first | exact trivial | refine ⟨rfl, ?_⟩))⟩ (HSub.refl _)
                            · -- t111 = False
                              refine Wl.q rfl rfl (OpQ.move rfl) ?_
                              refine Wl.q rfl rfl (OpQ.move rfl) ?_
                              refine Wl.split 113 rfl (fun hg113 => ?_) (fun hg113 => ?_)
                              · -- t113 = True
                                refine Wl.q rfl rfl (OpQ.fieldAddr SA_fa72_3 rfl) ?_
                                refine Wl.q rfl rfl (OpQ.loadF (b := b6) SA_sc3 rfl (by repeat (first | exact Has.here | apply Has.there)) (by rfl)) ?_
                                refine Wl.q rfl rfl (OpQ.lss rfl rfl) ?_
                                refine Wl.q rfl rfl (OpQ.move rfl) ?_
                                refine Wl.split 117 rfl (fun hg117 => ?_) (fun hg117 => ?_)
                                · -- t117 = True
                                  refine Wl.skip rfl rfl ?_
                                  refine Wl.skip rfl rfl ?_
                                  refine Wl.skip rfl rfl ?_
                                  refine Wl.skip rfl rfl ?_
                                  refine Wl.q rfl rfl (OpQ.pickT rfl rfl) ?_
                                  refine Wl.q rfl rfl (OpQ.pickT rfl rfl) ?_
                                  refine Wl.q rfl rfl (OpQ.pickF rfl rfl) ?_
                                  refine Wl.q rfl rfl (OpQ.move rfl) ?_
                                  refine Wl.skip rfl rfl ?_
                                  refine Wl.skip rfl rfl ?_
                                  refine Wl.skip rfl rfl ?_
                                  refine Wl.skip rfl rfl ?_
                                  refine Wl.skip rfl rfl ?_
                                  refine Wl.skip rfl rfl ?_
                                  refine Wl.skip rfl rfl ?_
                                  refine Wl.q rfl rfl (OpQ.pickT rfl rfl) ?_
                                  refine Wl.q rfl rfl (OpQ.assign rfl) ?_
                                  refine Wl.nil ?_
                                  exact PX.cutB hK4 ⟨lkV rfl (congrArg Value.bool (by (try simp only [decide_eq_true_eq, decide_eq_false_iff_not, Bool.not_eq_true', Bool.not_eq_false'] at hg91); (try simp only [decide_eq_true_eq, decide_eq_false_iff_not, Bool.not_eq_true', Bool.not_eq_false'] at hg95); (try simp only [decide_eq_true_eq, decide_eq_false_iff_not, Bool.not_eq_true', Bool.not_eq_false'] at hg102); (try simp only [decide_eq_true_eq, decide_eq_false_iff_not, Bool.not_eq_true', Bool.not_eq_false'] at hg105); (try simp only [decide_eq_true_eq, decide_eq_false_iff_not, Bool.not_eq_true', Bool.not_eq_false'] at hg111); (try simp only [decide_eq_true_eq, decide_eq_false_iff_not, Bool.not_eq_true', Bool.not_eq_false'] at hg113); (try simp only [decide_eq_true_eq, decide_eq_false_iff_not, Bool.not_eq_true', Bool.not_eq_false'] at hg117); (try simp only [decide_eq_true_eq, decide_eq_false_iff_not, Bool.not_eq_true', Bool.not_eq_false'] at hg125); (try simp only [decide_eq_true_eq, decide_eq_false_iff_not, Bool.not_eq_true', Bool.not_eq_false'] at hg128); rw [Bool.eq_iff_iff]; simp [-List.getD_eq_getElem?_getD, bA, hA, hB]; try omega)), (by repeat (first | exact trivial | refine ⟨rfl, ?_⟩))⟩ (HSub.refl _)
                                · -- t117 = False
                                  refine Wl.q rfl rfl (OpQ.fieldAddr SA_fa72_3 rfl) ?_
                                  refine Wl.q rfl rfl (OpQ.loadF (b := b6) SA_sc3 rfl (by repeat (first | exact Has.here | apply Has.there)) (by rfl)) ?_
                                  refine Wl.q rfl rfl (OpQ.move rfl) ?_
                                  refine Wl.q rfl rfl (OpQ.geq rfl rfl) ?_
                                  refine Wl.q rfl rfl (OpQ.pickF rfl rfl) ?_
                                  refine Wl.q rfl rfl (OpQ.pickT rfl rfl) ?_
                                  refine Wl.q rfl rfl (OpQ.pickF rfl rfl) ?_
                                  refine Wl.q rfl rfl (OpQ.move rfl) ?_
                                  refine Wl.split 125 rfl (fun hg125 => ?_) (fun hg125 => ?_)
                                  · -- t125 = True
                                    refine Wl.skip rfl rfl ?_
                                    refine Wl.skip rfl rfl ?_
                                    refine Wl.skip rfl rfl ?_
                                    refine Wl.skip rfl rfl ?_
                                    refine Wl.skip rfl rfl ?_
                                    refine Wl.skip rfl rfl ?_
                                    refine Wl.skip rfl rfl ?_
                                    refine Wl.q rfl rfl (OpQ.pickT rfl rfl) ?_
                                    refine Wl.q rfl rfl (OpQ.assign rfl) ?_
                                    refine Wl.nil ?_
                                    exact PX.cutB hK4 ⟨lkV rfl (congrArg Value.bool (by (try simp only [decide_eq_true_eq, decide_eq_false_iff_not, Bool.not_eq_true', Bool.not_eq_false'] at hg91); (try simp only [decide_eq_true_eq, decide_eq_false_iff_not, Bool.not_eq_true', Bool.not_eq_false'] at hg95); (try simp only [decide_eq_true_eq, decide_eq_false_iff_not, Bool.not_eq_true', Bool.not_eq_false'] at hg102); (try simp only [decide_eq_true_eq, decide_eq_false_iff_not, Bool.not_eq_true', Bool.not_eq_false'] at hg105); (try simp only [decide_eq_true_eq, decide_eq_false_iff_not, Bool.not_eq_true', Bool.not_eq_false'] at hg111); (try simp only [decide_eq_true_eq, decide_eq_false_iff_not, Bool.not_eq_true', Bool.not_eq_false'] at hg113); (try simp only [decide_eq_true_eq, decide_eq_false_iff_not, Bool.not_eq_true', Bool.not_eq_false'] at hg117); (try simp only [decide_eq_true_eq, decide_eq_false_iff_not, Bool.not_eq_true', Bool.not_eq_false'] at hg125); (try simp only [decide_eq_true_eq, decide_eq_false_iff_not, Bool.not_eq_true', Bool.not_eq_false'] at hg128); rw [Bool.eq_iff_iff]; simp [-List.getD_eq_getElem?_getD, bA, hA, hB]; try omega)), (by repeat (first | exact trivial | refine ⟨rfl, ?_⟩))⟩ (HSub.refl _)
                                  · -- t125 = False
                                    refine Wl.q rfl rfl (OpQ.move rfl) ?_
                                    refine Wl.q rfl rfl (OpQ.not rfl) ?_
                                    refine Wl.q rfl rfl (OpQ.move rfl) ?_
                                    refine Wl.split 128 rfl (fun hg128 => ?_) (fun hg128 => ?_)
                                    · -- t128 = True
                                      refine Wl.q rfl rfl (OpQ.fieldAddr SA_fa72_3 rfl) ?_
                                      refine Wl.q rfl rfl (OpQ.loadF (b := b6) SA_sc3 rfl (by repeat (first | exact Has.here | apply Has.there)) (by rfl)) ?_
                                      refine Wl.q rfl rfl (OpQ.neq rfl rfl) ?_
                                      refine Wl.q rfl rfl (OpQ.pickT rfl rfl) ?_
                                      refine Wl.q rfl rfl (OpQ.pickF rfl rfl) ?_
                                      refine Wl.q rfl rfl (OpQ.assign rfl) ?_
                                      refine Wl.nil ?_
                                      exact PX.cutB hK4 ⟨lkV rfl (congrArg Value.bool (by (try simp only [decide_eq_true_eq, decide_eq_false_iff_not, Bool.not_eq_true', Bool.not_eq_false'] at hg91); (try simp only [decide_eq_true_eq, decide_eq_false_iff_not, Bool.not_eq_true', Bool.not_eq_false'] at hg95); (try simp only [decide_eq_true_eq, decide_eq_false_iff_not, Bool.not_eq_true', Bool.not_eq_false'] at hg102); (try simp only [decide_eq_true_eq, decide_eq_false_iff_not, Bool.not_eq_true', Bool.not_eq_false'] at hg105); (try simp only [decide_eq_true_eq, decide_eq_false_iff_not, Bool.not_eq_true', Bool.not_eq_false'] at hg111); (try simp only [decide_eq_true_eq, decide_eq_false_iff_not, Bool.not_eq_true', Bool.not_eq_false'] at hg113); (try simp only [decide_eq_true_eq, decide_eq_false_iff_not, Bool.not_eq_true', Bool.not_eq_false'] at hg117); (try simp only [decide_eq_true_eq, decide_eq_false_iff_not, Bool.not_eq_true', Bool.not_eq_false'] at hg125); (try simp only [decide_eq_true_eq, decide_eq_false_iff_not, Bool.not_eq_true', Bool.not_eq_false'] at hg128); rw [Bool.eq_iff_iff]; simp [-List.getD_eq_getElem?_getD, bA, hA, hB]; try omega)), (by repeat (first | exact trivial | refine ⟨rfl, ?_⟩))⟩ (HSub.refl _)
                                    · -- t128 = False
                                      refine Wl.skip rfl rfl ?_
                                      refine Wl.skip rfl rfl ?_
                                      refine Wl.skip rfl rfl ?_
                                      refine Wl.q rfl rfl (OpQ.pickF rfl rfl) ?_
                                      refine Wl.q rfl rfl (OpQ.pickF rfl rfl) ?_
                                      refine Wl.q rfl rfl (OpQ.assign rfl) ?_
                                      refine Wl.nil ?_
                                      exact PX.cutB hK4 ⟨lkV rfl (congrArg Value.bool (by (try simp only [decide_eq_true_eq, decide_eq_false_iff_not, Bool.not_eq_true', Bool.not_eq_false'] at hg91); (try simp only [decide_eq_true_eq, decide_eq_false_iff_not, Bool.not_eq_true', Bool.not_eq_false'] at hg95); (try simp only [decide_eq_true_eq, decide_eq_false_iff_not, Bool.not_eq_true', Bool.not_eq_false'] at hg102); (try simp only [decide_eq_true_eq, decide_eq_false_iff_not, Bool.not_eq_true', Bool.not_eq_false'] at hg105); (try simp only [decide_eq_true_eq, decide_eq_false_iff_not, Bool.not_eq_true', Bool.not_eq_false'] at hg111); (try simp only [decide_eq_true_eq, decide_eq_false_iff_not, Bool.not_eq_true', Bool.not_eq_false'] at hg113); (try simp only [decide_eq_true_eq, decide_eq_false_iff_not, Bool.not_eq_true', Bool.not_eq_false'] at hg117); (try simp only [decide_eq_true_eq, decide_eq_false_iff_not, Bool.not_eq_true', Bool.not_eq_false'] at hg125); (try simp only [decide_eq_true_eq, decide_eq_false_iff_not, Bool.not_eq_true', Bool.not_eq_false'] at hg128); rw [Bool.eq_iff_iff]; simp [-List.getD_eq_getElem?_getD, bA, hA, hB]; try omega)), (by repeat (first | exact trivial | refine ⟨rfl, ?_⟩))⟩ (HSub.refl _)
                              · -- t113 = False
                                refine Wl.skip rfl rfl ?_
                                refine Wl.skip rfl rfl ?_
                                refine Wl.skip rfl rfl ?_
                                refine Wl.skip rfl rfl ?_
                                refine Wl.skip rfl rfl ?_
                                refine Wl.skip rfl rfl ?_
                                refine Wl.skip rfl rfl ?_
                                refine Wl.skip rfl rfl ?_
                                refine Wl.skip rfl rfl ?_
                                refine Wl.q rfl rfl (OpQ.pickF rfl rfl) ?_
                                refine Wl.q rfl rfl (OpQ.pickF rfl rfl) ?_
                                refine Wl.q rfl rfl (OpQ.move rfl) ?_
                                refine Wl.q rfl rfl (OpQ.move rfl) ?_
                                refine Wl.q rfl rfl (OpQ.not rfl) ?_
                                refine Wl.q rfl rfl (OpQ.move rfl) ?_
                                refine Wl.split 128 rfl (fun hg128 => ?_) (fun hg128 => ?_)
                                · -- t128 = True
                                  refine Wl.q rfl rfl (OpQ.fieldAddr SA_fa72_3 rfl) ?_
                                  refine Wl.q rfl rfl (OpQ.loadF (b := b6) SA_sc3 rfl (by repeat (first | exact Has.here | apply Has.there)) (by rfl)) ?_
                                  refine Wl.q rfl rfl (OpQ.neq rfl rfl) ?_
                                  refine Wl.q rfl rfl (OpQ.pickT rfl rfl) ?_
                                  refine Wl.q rfl rfl (OpQ.pickF rfl rfl) ?_
                                  refine Wl.q rfl rfl (OpQ.assign rfl) ?_
                                  refine Wl.nil ?_
                                  exact PX.cutB hK4 ⟨lkV rfl (congrArg Value.bool (by (try simp only [decide_eq_true_eq, decide_eq_false_iff_not, Bool.not_eq_true', Bool.not_eq_false'] at hg91); (try simp only [decide_eq_true_eq, decide_eq_false_iff_not, Bool.not_eq_true', Bool.not_eq_false'] at hg95); (try simp only [decide_eq_true_eq, decide_eq_false_iff_not, Bool.not_eq_true', Bool.not_eq_false'] at hg102); (try simp only [decide_eq_true_eq, decide_eq_false_iff_not, Bool.not_eq_true', Bool.not_eq_false'] at hg105); (try simp only [decide_eq_true_eq, decide_eq_false_iff_not, Bool.not_eq_true', Bool.not_eq_false'] at hg111); (try simp only [decide_eq_true_eq, decide_eq_false_iff_not, Bool.not_eq_true', Bool.not_eq_false'] at hg113); (try simp only [decide_eq_true_eq, decide_eq_false_iff_not, Bool.not_eq_true', Bool.not_eq_false'] at hg117); (try simp only [decide_eq_true_eq, decide_eq_false_iff_not, Bool.not_eq_true', Bool.not_eq_false'] at hg125); (try simp only [decide_eq_true_eq, decide_eq_false_iff_not, Bool.not_eq_true', Bool.not_eq_false'] at hg128); rw [Bool.eq_iff_iff]; simp [-List.getD_eq_getElem?_getD, bA, hA, hB]; try omega)), (by repeat (first | exact trivial | refine ⟨rfl, ?_⟩))⟩ (HSub.refl _)
                                · -- t128 = False
                                  refine Wl.skip rfl rfl ?_
                                  refine Wl.skip rfl rfl ?_
                                  refine Wl.skip rfl rfl ?_
                                  refine Wl.q rfl rfl (OpQ.pickF rfl rfl) ?_
                                  refine Wl.q rfl rfl (OpQ.pickF rfl rfl) ?_
                                  refine Wl.q rfl rfl (OpQ.assign rfl) ?_
                                  refine Wl.nil ?_
                                  exact PX.cutB hK4 ⟨lkV rfl (congrArg Value.bool (by (try simp only [decide_eq_true_eq, decide_eq_false_iff_not, Bool.not_eq_true', Bool.not_eq_false'] at hg91); (try simp only [decide_eq_true_eq, decide_eq_false_iff_not, Bool.not_eq_true', Bool.not_eq_false'] at hg95); (try simp only [decide_eq_true_eq, decide_eq_false_iff_not, Bool.not_eq_true', Bool.not_eq_false'] at hg102); (try simp only [decide_eq_true_eq, decide_eq_false_iff_not, Bool.not_eq_true', Bool.not_eq_false'] at hg105); (try simp only [decide_eq_true_eq, decide_eq_false_iff_not, Bool.not_eq_true', Bool.not_eq_false'] at hg111); (try simp only [decide_eq_true_eq, decide_eq_false_iff_not, Bool.not_eq_true', Bool.not_eq_false'] at hg113); (try simp only [decide_eq_true_eq, decide_eq_false_iff_not, Bool.not_eq_true', Bool.not_eq_false'] at hg117); (try simp only [decide_eq_true_eq, decide_eq_false_iff_not, Bool.not_eq_true', Bool.not_eq_false'] at hg125); (try simp only [decide_eq_true_eq, decide_eq_false_iff_not, Bool.not_eq_true', Bool.not_eq_false'] at hg128); rw [Bool.eq_iff_iff]; simp [-List.getD_eq_getElem?_getD, bA, hA, hB]; try omega)), (by repeat (first | exact trivial | refine ⟨rfl, ?_⟩))⟩ (HSub.refl _)
                          · -- t105 = False
                            refine Wl.skip rfl rfl ?_
                            refine Wl.skip rfl rfl ?_
                            refine Wl.skip rfl rfl ?_
                            refine Wl.q rfl rfl (OpQ.pickF rfl rfl) ?_
                            refine Wl.q rfl rfl (OpQ.pickF rfl rfl) ?_
                            refine Wl.q rfl rfl (OpQ.move rfl) ?_
                            refine Wl.q rfl rfl (OpQ.move rfl) ?_
                            refine Wl.q rfl rfl (OpQ.move rfl) ?_
                            refine Wl.split 113 rfl (fun hg113 => ?_) (fun hg113 => ?_)
                            · -- t113 = True
                              refine Wl.q rfl rfl (OpQ.fieldAddr SA_fa72_3 rfl) ?_
                              refine Wl.q rfl rfl (OpQ.loadF (b := b6) SA_sc3 rfl (by repeat (first | exact Has.here | apply Has.there)) (by rfl)) ?_
                              refine Wl.q rfl rfl (OpQ.lss rfl rfl) ?_
                              refine Wl.q rfl rfl (OpQ.move rfl) ?_
                              refine Wl.split 117 rfl (fun hg117 => ?_) (fun hg117 => ?_)
                              · -- t117 = True
                                refine Wl.skip rfl rfl ?_
                                refine Wl.skip rfl rfl ?_
                                refine Wl.skip rfl rfl ?_
                                refine Wl.skip rfl rfl ?_
                                refine Wl.q rfl rfl (OpQ.pickT rfl rfl) ?_
                                refine Wl.q rfl rfl (OpQ.pickT rfl rfl) ?_
                                refine Wl.q rfl rfl (OpQ.pickF rfl rfl) ?_
                                refine Wl.q rfl rfl (OpQ.move rfl) ?_
                                refine Wl.skip rfl rfl ?_
                                refine Wl.skip rfl rfl ?_
                                refine Wl.skip rfl rfl ?_
                                refine Wl.skip rfl rfl ?_
                                refine Wl.skip rfl rfl ?_
                                refine Wl.skip rfl rfl ?_
                                refine Wl.skip rfl rfl ?_
                                refine Wl.q rfl rfl (OpQ.pickT rfl rfl) ?_
                                refine Wl.q rfl rfl (OpQ.assign rfl) ?_
                                refine Wl.nil ?_
                                exact PX.cutB hK4 ⟨lkV rfl (congrArg Value.bool (by (try simp only [decide_eq_true_eq, decide_eq_false_iff_not, Bool.not_eq_true', Bool.not_eq_false'] at hg91); (try simp only [decide_eq_true_eq, decide_eq_false_iff_not, Bool.not_eq_true', Bool.not_eq_false'] at hg95); (try simp only [decide_eq_true_eq, decide_eq_false_iff_not, Bool.not_eq_true', Bool.not_eq_false'] at hg102); (try simp only [decide_eq_true_eq, decide_eq_false_iff_not, Bool.not_eq_true', Bool.not_eq_false'] at hg105); (try simp only [decide_eq_true_eq, decide_eq_false_iff_not, Bool.not_eq_true', Bool.not_eq_false'] at hg111); (try simp only [decide_eq_true_eq, decide_eq_false_iff_not, Bool.not_eq_true', Bool.not_eq_false'] at hg113); (try simp only [decide_eq_true_eq, decide_eq_false_iff_not, Bool.not_eq_true', Bool.not_eq_false'] at hg117); (try simp only [decide_eq_true_eq, decide_eq_false_iff_not, Bool.not_eq_true', Bool.not_eq_false'] at hg125); (try simp only [decide_eq_true_eq, decide_eq_false_iff_not, Bool.not_eq_true', Bool.not_eq_false'] at hg128); rw [Bool.eq_iff_iff]; simp [-List.getD_eq_getElem?_getD, bA, hA, hB]; try omega)), (by repeat (first | exact trivial | refine ⟨rfl, ?_⟩))⟩ (HSub.refl _)
                              · -- t117 = False
                                refine Wl.q rfl rfl (OpQ.fieldAddr SA_fa72_3 rfl) ?_
                                refine Wl.q rfl rfl (OpQ.loadF (b := b6) SA_sc3 rfl (by repeat (first | exact Has.here | apply Has.there)) (by rfl)) ?_
                                refine Wl.q rfl rfl (OpQ.move rfl) ?_
                                refine Wl.q rfl rfl (OpQ.geq rfl rfl) ?_
                                refine Wl.q rfl rfl (OpQ.pickF rfl rfl) ?_
                                refine Wl.q rfl rfl (OpQ.pickT rfl rfl) ?_
                                refine Wl.q rfl rfl (OpQ.pickF rfl rfl) ?_
                                refine Wl.q rfl rfl (OpQ.move rfl) ?_
                                refine Wl.split 125 rfl (fun hg125 => ?_) (fun hg125 => ?_)
                                · -- t125 = True
                                  refine Wl.skip rfl rfl ?_
                                  refine Wl.skip rfl rfl ?_
                                  refine Wl.skip rfl rfl ?_
                                  refine Wl.skip rfl rfl ?_
                                  refine Wl.skip rfl rfl ?_
                                  refine Wl.skip rfl rfl ?_
                                  refine Wl.skip rfl rfl ?_
                                  refine Wl.q rfl rfl (OpQ.pickT rfl rfl) ?_
                                  refine Wl.q rfl rfl (OpQ.assign rfl) ?_
                                  refine Wl.nil ?_
                                  exact PX.cutB hK4 ⟨lkV rfl (congrArg Value.bool (by (try simp only [decide_eq_true_eq, decide_eq_false_iff_not, Bool.not_eq_true', Bool.not_eq_false'] at hg91); (try simp only [decide_eq_true_eq, decide_eq_false_iff_not, Bool.not_eq_true', Bool.not_eq_false'] at hg95); (try simp only [decide_eq_true_eq, decide_eq_false_iff_not, Bool.not_eq_true', Bool.not_eq_false'] at hg102); (try simp only [decide_eq_true_eq, decide_eq_false_iff_not, Bool.not_eq_true', Bool.not_eq_false'] at hg105); (try simp only [decide_eq_true_eq, decide_eq_false_iff_not, Bool.not_eq_true', Bool.not_eq_false'] at hg111); (try simp only [decide_eq_true_eq, decide_eq_false_iff_not, Bool.not_eq_true', Bool.not_eq_false'] at hg113); (try simp only [decide_eq_true_eq, decide_eq_false_iff_not, Bool.not_eq_true', Bool.not_eq_false'] at hg117); (try simp only [decide_eq_true_eq, decide_eq_false_iff_not, Bool.not_eq_true', Bool.not_eq_false'] at hg125); (try simp only [decide_eq_true_eq, decide_eq_false_iff_not, Bool.not_eq_true', Bool.not_eq_false'] at hg128); rw [Bool.eq_iff_iff]; simp [-List.getD_eq_getElem?_getD, bA, hA, hB]; try omega)), (by repeat (first | exact trivial | refine ⟨rfl, ?_⟩))⟩ (HSub.refl _)
                                · -- t125 = False
                                  refine Wl.q rfl rfl (OpQ.move rfl) ?_
                                  refine Wl.q rfl rfl (OpQ.not rfl) ?_
                                  refine Wl.q rfl rfl (OpQ.move rfl) ?_
                                  refine Wl.split 128 rfl (fun hg128 => ?_) (fun hg128 => ?_)
                                  · -- t128 = True
                                    refine Wl.q rfl rfl (OpQ.fieldAddr SA_fa72_3 rfl) ?_
                                    refine Wl.q rfl rfl (OpQ.loadF (b := b6) SA_sc3 rfl (by repeat (first | exact Has.here | apply Has.there)) (by rfl)) ?_
                                    refine Wl.q rfl rfl (OpQ.neq rfl rfl) ?_
                                    refine Wl.q rfl rfl (OpQ.pickT rfl rfl) ?_
                                    refine Wl.q rfl rfl (OpQ.pickF rfl rfl) ?_
                                    refine Wl.q rfl rfl (OpQ.assign rfl) ?_
                                    refine Wl.nil ?_
                                    exact PX.cutB hK4 ⟨lkV rfl (congrArg Value.bool (by (try simp only [decide_eq_true_eq, decide_eq_false_iff_not, Bool.not_eq_true', Bool.not_eq_false'] at hg91); (try simp only [decide_eq_true_eq, decide_eq_false_iff_not, Bool.not_eq_true', Bool.not_eq_false'] at hg95); (try simp only [decide_eq_true_eq, decide_eq_false_iff_not, Bool.not_eq_true', Bool.not_eq_false'] at hg102); (try simp only [decide_eq_true_eq, decide_eq_false_iff_not, Bool.not_eq_true', Bool.not_eq_false'] at hg105); (try simp only [decide_eq_true_eq, decide_eq_false_iff_not, Bool.not_eq_true', Bool.not_eq_false'] at hg111); (try simp only [decide_eq_true_eq, decide_eq_false_iff_not, Bool.not_eq_true', Bool.not_eq_false'] at hg113); (try simp only [decide_eq_true_eq, decide_eq_false_iff_not, Bool.not_eq_true', Bool.not_eq_false'] at hg117); (try simp only [decide_eq_true_eq, decide_eq_false_iff_not, Bool.not_eq_true', Bool.not_eq_false'] at hg125); (try simp only [decide_eq_true_eq, decide_eq_false_iff_not, Bool.not_eq_true', Bool.not_eq_false'] at hg128); rw [Bool.eq_iff_iff]; simp [-List.getD_eq_getElem?_getD, bA, hA, hB]; try omega)), (by repeat (first | exact trivial | refine ⟨rfl, ?_⟩))⟩ (HSub.refl _)
                                  · -- t128 = False
                                    refine Wl.skip rfl rfl ?_
                                    refine Wl.skip rfl rfl ?_
                                    refine Wl.skip rfl rfl ?_
                                    refine Wl.q rfl rfl (OpQ.pickF rfl rfl) ?_
                                    refine Wl.q rfl rfl (OpQ.pickF rfl rfl) ?_
                                    refine Wl.q rfl rfl (OpQ.assign rfl) ?_
                                    refine Wl.nil ?_
                                    exact PX.cutB hK4 ⟨lkV rfl (congrArg Value.bool (by (try simp only [decide_eq_true_eq, decide_eq_false_iff_not, Bool.not_eq_true', Bool.not_eq_false'] at hg91); (try simp only [decide_eq_true_eq, decide_eq_false_iff_not, Bool.not_eq_true', Bool.not_eq_false'] at hg95); (try simp only [decide_eq_true_eq, decide_eq_false_iff_not, Bool.not_eq_true', Bool.not_eq_false'] at hg102); (try simp only [decide_eq_true_eq, decide_eq_false_iff_not, Bool.not_eq_true', Bool.not_eq_false'] at hg105); (try simp only [decide_eq_true_eq, decide_eq_false_iff_not, Bool.not_eq_true', Bool.not_eq_false'] at hg111); (try simp only [decide_eq_true_eq, decide_eq_false_iff_not, Bool.not_eq_true', Bool.not_eq_false'] at hg113); (try simp only [decide_eq_true_eq, decide_eq_false_iff_not, Bool.not_eq_true', Bool.not_eq_false'] at hg117); (try simp only [decide_eq_true_eq, decide_eq_false_iff_not, Bool.not_eq_true', Bool.not_eq_false'] at hg125); (try simp only [decide_eq_true_eq, decide_eq_false_iff_not, Bool.not_eq_true', Bool.not_eq_false'] at hg128); rw [Bool.eq_iff_iff]; simp [-List.getD_eq_getElem?_getD, bA, hA, hB]; try omega)), (by repeat (first | exact trivial | refine ⟨rfl, ?_⟩))⟩ (HSub.refl _)
                            · -- t113 = False
                              refine Wl.skip rfl rfl ?_
                              refine Wl.skip rfl rfl ?_
                              refine Wl.skip rfl rfl ?_
                              refine Wl.skip rfl rfl ?_
                              refine Wl.skip rfl rfl ?_
                              refine Wl.skip rfl rfl ?_
                              refine Wl.skip rfl rfl ?_
                              refine Wl.skip rfl rfl ?_
                              refine Wl.skip rfl rfl ?_
                              refine Wl.q rfl rfl (OpQ.pickF rfl rfl) ?_
                              refine Wl.q rfl rfl (OpQ.pickF rfl rfl) ?_
                              refine Wl.q rfl rfl (OpQ.move rfl) ?_
                              refine Wl.q rfl rfl (OpQ.move rfl) ?_
                              refine Wl.q rfl rfl (OpQ.not rfl) ?_
                              refine Wl.q rfl rfl (OpQ.move rfl) ?_
                              refine Wl.split 128 rfl (fun hg128 => ?_) (fun hg128 => ?_)
                              · -- t128 = True
                                refine Wl.q rfl rfl (OpQ.fieldAddr SA_fa72_3 rfl) ?_
                                refine Wl.q rfl rfl (OpQ.loadF (b := b6) SA_sc3 rfl (by repeat (first | exact Has.here | apply Has.there)) (by rfl)) ?_
                                refine Wl.q rfl rfl (OpQ.neq rfl rfl) ?_
                                refine Wl.q rfl rfl (OpQ.pickT rfl rfl) ?_
                                refine Wl.q rfl rfl (OpQ.pickF rfl rfl) ?_
                                refine Wl.q rfl rfl (OpQ.assign rfl) ?_
                                refine Wl.nil ?_
                                exact PX.cutB hK4 ⟨lkV rfl (congrArg Value.bool (by (try simp only [decide_eq_true_eq, decide_eq_false_iff_not, Bool.not_eq_true', Bool.not_eq_false'] at hg91); (try simp only [decide_eq_true_eq, decide_eq_false_iff_not, Bool.not_eq_true', Bool.not_eq_false'] at hg95); (try simp only [decide_eq_true_eq, decide_eq_false_iff_not, Bool.not_eq_true', Bool.not_eq_false'] at hg102); (try simp only [decide_eq_true_eq, decide_eq_false_iff_not, Bool.not_eq_true', Bool.not_eq_false'] at hg105); (try simp only [decide_eq_true_eq, decide_eq_false_iff_not, Bool.not_eq_true', Bool.not_eq_false'] at hg111); (try simp only [decide_eq_true_eq, decide_eq_false_iff_not, Bool.not_eq_true', Bool.not_eq_false'] at hg113); (try simp only [decide_eq_true_eq, decide_eq_false_iff_not, Bool.not_eq_true', Bool.not_eq_false'] at hg117); (try simp only [decide_eq_true_eq, decide_eq_false_iff_not, Bool.not_eq_true', Bool.not_eq_false'] at hg125); (try simp only [decide_eq_true_eq, decide_eq_false_iff_not, Bool.not_eq_true', Bool.not_eq_false'] at hg128); rw [Bool.eq_iff_iff]; simp [-List.getD_eq_getElem?_getD, bA, hA, hB]; try omega)), (by repeat (first | exact trivial | refine ⟨rfl, ?_⟩))⟩ (HSub.refl _)
                              · -- t128 = False
                                refine Wl.skip rfl rfl ?_
                                refine Wl.skip rfl rfl ?_
                                refine Wl.skip rfl rfl ?_
                                refine Wl.q rfl rfl (OpQ.pickF rfl rfl) ?_
                                refine Wl.q rfl rfl (OpQ.pickF rfl rfl) ?_
                                refine Wl.q rfl rfl (OpQ.assign rfl) ?_
                                refine Wl.nil ?_
                                exact PX.cutB hK4 ⟨lkV rfl (congrArg Value.bool (by (try simp only [decide_eq_true_eq, decide_eq_false_iff_not, Bool.not_eq_true', Bool.not_eq_false'] at hg91); (try simp only [decide_eq_true_eq, decide_eq_false_iff_not, Bool.not_eq_true', Bool.not_eq_false'] at hg95); (try simp only [decide_eq_true_eq, decide_eq_false_iff_not, Bool.not_eq_true', Bool.not_eq_false'] at hg102); (try simp only [decide_eq_true_eq, decide_eq_false_iff_not, Bool.not_eq_true', Bool.not_eq_false'] at hg105); (try simp only [decide_eq_true_eq, decide_eq_false_iff_not, Bool.not_eq_true', Bool.not_eq_false'] at hg111); (try simp only [decide_eq_true_eq, decide_eq_false_iff_not, Bool.not_eq_true', Bool.not_eq_false'] at hg113); (try simp only [decide_eq_true_eq, decide_eq_false_iff_not, Bool.not_eq_true', Bool.not_eq_false'] at hg117); (try simp only [decide_eq_true_eq, decide_eq_false_iff_not, Bool.not_eq_true', Bool.not_eq_false'] at hg125); (try simp only [decide_eq_true_eq, decide_eq_false_iff_not, Bool.not_eq_true', Bool.not_eq_false'] at hg128); rw [Bool.eq_iff_iff]; simp [-List.getD_eq_getElem?_getD, bA, hA, hB]; try omega)), (by repeat (first | exact trivial | refine ⟨rfl, ?_⟩))⟩ (HSub.refl _)
                    · -- t91 = False
                      refine Wl.skip rfl rfl ?_
                      refine Wl.skip rfl rfl ?_
                      refine Wl.skip rfl rfl ?_
                      refine Wl.skip rfl rfl ?_
                      refine Wl.skip rfl rfl ?_
                      refine Wl.skip rfl rfl ?_
                      refine Wl.skip rfl rfl ?_
                      refine Wl.skip rfl rfl ?_
                      refine Wl.skip rfl rfl ?_
                      refine Wl.q rfl rfl (OpQ.pickF rfl rfl) ?_
                      refine Wl.q rfl rfl (OpQ.move rfl) ?_
                      refine Wl.q rfl rfl (OpQ.move rfl) ?_
                      refine Wl.q rfl rfl (OpQ.not rfl) ?_
                      refine Wl.q rfl rfl (OpQ.move rfl) ?_
                      refine Wl.split 105 rfl (fun hg105 => ?_) (fun hg105 => ?_)
                      · -- t105 = True
                        refine Wl.q rfl rfl (OpQ.fieldAddr SA_fa72_2 rfl) ?_
                        refine Wl.q rfl rfl (OpQ.loadF (b := b6) SA_sc3 rfl (by repeat (first | exact Has.here | apply Has.there)) (by rfl)) ?_
                        refine Wl.q rfl rfl (OpQ.neq rfl rfl) ?_
                        refine Wl.q rfl rfl (OpQ.pickT rfl rfl) ?_
                        refine Wl.q rfl rfl (OpQ.pickF rfl rfl) ?_
                        refine Wl.q rfl rfl (OpQ.move rfl) ?_
                        refine Wl.split 111 rfl (fun hg111 => ?_) (fun hg111 => ?_)
                        · -- t111 = True
                          refine Wl.skip rfl rfl ?_
                          refine Wl.skip rfl rfl ?_
                          refine Wl.skip rfl rfl ?_
                          refine Wl.skip rfl rfl ?_
                          refine Wl.skip rfl rfl ?_
                          refine Wl.skip rfl rfl ?_
                          refine Wl.skip rfl rfl ?_
                          refine Wl.skip rfl rfl ?_
                          refine Wl.skip rfl rfl ?_
                          refine Wl.skip rfl rfl ?_
                          refine Wl.skip rfl rfl ?_
                          refine Wl.skip rfl rfl ?_
                          refine Wl.q rfl rfl (OpQ.pickT rfl rfl) ?_
                          refine Wl.q rfl rfl (OpQ.move rfl) ?_
                          refine Wl.skip rfl rfl ?_
                          refine Wl.skip rfl rfl ?_
                          refine Wl.skip rfl rfl ?_
                          refine Wl.skip rfl rfl ?_
                          refine Wl.skip rfl rfl ?_
                          refine Wl.skip rfl rfl ?_
                          refine Wl.skip rfl rfl ?_
                          refine Wl.q rfl rfl (OpQ.pickT rfl rfl) ?_
                          refine Wl.q rfl rfl (OpQ.assign rfl) ?_
                          refine Wl.nil ?_
                          exact PX.cutB hK4 ⟨lkV rfl (congrArg Value.bool (by (try simp only [decide_eq_true_eq, decide_eq_false_iff_not, Bool.not_eq_true', Bool.not_eq_false'] at hg91); (try simp only [decide_eq_true_eq, decide_eq_false_iff_not, Bool.not_eq_true', Bool.not_eq_false'] at hg95); (try simp only [decide_eq_true_eq, decide_eq_false_iff_not, Bool.not_eq_true', Bool.not_eq_false'] at hg102); (try simp only [decide_eq_true_eq, decide_eq_false_iff_not, Bool.not_eq_true', Bool.not_eq_false'] at hg105); (try simp only [decide_eq_true_eq, decide_eq_false_iff_not, Bool.not_eq_true', Bool.not_eq_false'] at hg111); (try simp only [decide_eq_true_eq, decide_eq_false_iff_not, Bool.not_eq_true', Bool.not_eq_false'] at hg113); (try simp only [decide_eq_true_eq, decide_eq_false_iff_not, Bool.not_eq_true', Bool.not_eq_false'] at hg117); (try simp only [decide_eq_true_eq, decide_eq_false_iff_not, Bool.not_eq_true', Bool.not_eq_false'] at hg125); (try simp only [decide_eq_true_eq, decide_eq_false_iff_not, Bool.not_eq_true', Bool.not_eq_false'] at hg128); rw [Bool.eq_iff_iff]; simp [-List.getD_eq_getElem?_getD, bA, hA, hB]; try omega)), (by repeat (first | exact trivial | refine ⟨rfl, ?_⟩))⟩ (HSub.refl _)
                        · -- t111 = False
                          refine Wl.q rfl rfl (OpQ.move rfl) ?_
                          refine Wl.q rfl rfl (OpQ.move rfl) ?_
                          refine Wl.split 113 rfl (fun hg113 => ?_) (fun hg113 => ?_)
                          · -- t113 = True
                            refine Wl.q rfl rfl (OpQ.fieldAddr SA_fa72_3 rfl) ?_
                            refine Wl.q rfl rfl (OpQ.loadF (b := b6) SA_sc3 rfl (by repeat (first | exact Has.here | apply Has.there)) (by rfl)) ?_
                            refine Wl.q rfl rfl (OpQ.lss rfl rfl) ?_
                            refine Wl.q rfl rfl (OpQ.move rfl) ?_
                            refine Wl.split 117 rfl (fun hg117 => ?_) (fun hg117 => ?_)
                            · -- t117 = True
                              refine Wl.skip rfl rfl ?_
                              refine Wl.skip rfl rfl ?_
                              refine Wl.skip rfl rfl ?_
                              refine Wl.skip rfl rfl ?_
                              refine Wl.q rfl rfl (OpQ.pickT rfl rfl) ?_
                              refine Wl.q rfl rfl (OpQ.pickT rfl rfl) ?_
                              refine Wl.q rfl rfl (OpQ.pickF rfl rfl) ?_
                              refine Wl.q rfl rfl (OpQ.move rfl) ?_
                              refine Wl.skip rfl rfl ?_
                              refine Wl.skip rfl rfl ?_
                              refine Wl.skip rfl rfl ?_
                              refine Wl.skip rfl rfl ?_
                              refine Wl.skip rfl rfl ?_
                              refine Wl.skip rfl rfl ?_
                              refine Wl.skip rfl rfl ?_
                              refine Wl.q rfl rfl (OpQ.pickT rfl rfl) ?_
                              refine Wl.q rfl rfl (OpQ.assign rfl) ?_
                              refine Wl.nil ?_
                              exact PX.cutB hK4 ⟨lkV rfl (congrArg Value.bool (by (try simp only [decide_eq_true_eq, decide_eq_false_iff_not, Bool.not_eq_true', Bool.not_eq_false'] at hg91); (try simp only [decide_eq_true_eq, decide_eq_false_iff_not, Bool.not_eq_true', Bool.not_eq_false'] at hg95); (try simp only [decide_eq_true_eq, decide_eq_false_iff_not, Bool.not_eq_true', Bool.not_eq_false'] at hg102); (try simp only [decide_eq_true_eq, decide_eq_false_iff_not, Bool.not_eq_true', Bool.not_eq_false'] at hg105); (try simp only [decide_eq_true_eq, decide_eq_false_iff_not, Bool.not_eq_true', Bool.not_eq_false'] at hg111); (try simp only [decide_eq_true_eq, decide_eq_false_iff_not, Bool.not_eq_true', Bool.not_eq_false'] at hg113); (try simp only [decide_eq_true_eq, decide_eq_false_iff_not, Bool.not_eq_true', Bool.not_eq_false'] at hg117); (try simp only [decide_eq_true_eq, decide_eq_false_iff_not, Bool.not_eq_true', Bool.not_eq_false'] at hg125); (try simp only [decide_eq_true_eq, decide_eq_false_iff_not, Bool.not_eq_true', Bool.not_eq_false'] at hg128); rw [Bool.eq_iff_iff]; simp [-List.getD_eq_getElem?_getD, bA, hA, hB]; try omega)), (by repeat (first | exact trivial | refine ⟨rfl, ?_⟩))⟩ (HSub.refl _)
                            · -- t117 = False
                              refine Wl.q rfl rfl (OpQ.fieldAddr SA_fa72_3 rfl) ?_
                              refine Wl.q rfl rfl (OpQ.loadF (b := b6) SA_sc3 rfl (by repeat (first | exact Has.here | apply Has.there)) (by rfl)) ?_
                              refine Wl.q rfl rfl (OpQ.move rfl) ?_
                              refine Wl.q rfl rfl (OpQ.geq rfl rfl) ?_
                              refine Wl.q rfl rfl (OpQ.pickF rfl rfl) ?_
                              refine Wl.q rfl rfl (OpQ.pickT rfl rfl) ?_
                              refine Wl.q rfl rfl (OpQ.pickF rfl rfl) ?_
                              refine Wl.q rfl rfl (OpQ.move rfl) ?_
                              refine Wl.split 125 rfl (fun hg125 => ?_) (fun hg125 => ?_)
                              · -- t125 = True
                                refine Wl.skip rfl rfl ?_
                                refine Wl.skip rfl rfl ?_
                                refine Wl.skip rfl rfl ?_
                                refine Wl.skip rfl rfl ?_
                                refine Wl.skip rfl rfl ?_
                                refine Wl.skip rfl rfl ?_
                                refine Wl.skip rfl rfl ?_
                                refine Wl.q rfl rfl (OpQ.pickT rfl rfl) ?_
                                refine Wl.q rfl rfl (OpQ.assign rfl) ?_
                                refine Wl.nil ?_
                                exact PX.cutB hK4 ⟨lkV rfl (congrArg Value.bool (by (try simp only [decide_eq_true_eq, decide_eq_false_iff_not, Bool.not_eq_true', Bool.not_eq_false'] at hg91); (try simp only [decide_eq_true_eq, decide_eq_false_iff_not, Bool.not_eq_true', Bool.not_eq_false'] at hg95); (try simp only [decide_eq_true_eq, decide_eq_false_iff_not, Bool.not_eq_true', Bool.not_eq_false'] at hg102); (try simp only [decide_eq_true_eq, decide_eq_false_iff_not, Bool.not_eq_true', Bool.not_eq_false'] at hg105); (try simp only [decide_eq_true_eq, decide_eq_false_iff_not, Bool.not_eq_true', Bool.not_eq_false'] at hg111); (try simp only [decide_eq_true_eq, decide_eq_false_iff_not, Bool.not_eq_true', Bool.not_eq_false'] at hg113); (try simp only [decide_eq_true_eq, decide_eq_false_iff_not, Bool.not_eq_true', Bool.not_eq_false'] at hg117); (try simp only [decide_eq_true_eq, decide_eq_false_iff_not, Bool.not_eq_true', Bool.not_eq_false'] at hg125); (try simp only [decide_eq_true_eq, decide_eq_false_iff_not, Bool.not_eq_true', Bool.not_eq_false'] at hg128); rw [Bool.eq_iff_iff]; simp [-List.getD_eq_getElem?_getD, bA, hA, hB]; try omega)), (by repeat (first | exact trivial | refine ⟨rfl, ?_⟩))⟩ (HSub.refl _)
                              · -- t125 = False
                                refine Wl.q rfl rfl (OpQ.move rfl) ?_
                                refine Wl.q rfl rfl (OpQ.not rfl) ?_
                                refine Wl.q rfl rfl (OpQ.move rfl) ?_
                                refine Wl.split 128 rfl (fun hg128 => ?_) (fun hg128 => ?_)
                                · -- t128 = True
                                  refine Wl.q rfl rfl (OpQ.fieldAddr SA_fa72_3 rfl) ?_
                                  refine Wl.q rfl rfl (OpQ.loadF (b := b6) SA_sc3 rfl (by repeat (first | exact Has.here | apply Has.there)) (by rfl)) ?_
                                  refine Wl.q rfl rfl (OpQ.neq rfl rfl) ?_
                                  refine Wl.q rfl rfl (OpQ.pickT rfl rfl) ?_
                                  refine Wl.q rfl rfl (OpQ.pickF rfl rfl) ?_
                                  refine Wl.q rfl rfl (OpQ.assign rfl) ?_
                                  refine Wl.nil ?_
                                  exact PX.cutB hK4 ⟨lkV rfl (congrArg Value.bool (by (try simp only [decide_eq_true_eq, decide_eq_false_iff_not, Bool.not_eq_true', Bool.not_eq_false'] at hg91); (try simp only [decide_eq_true_eq, decide_eq_false_iff_not, Bool.not_eq_true', Bool.not_eq_false'] at hg95); (try simp only [decide_eq_true_eq, decide_eq_false_iff_not, Bool.not_eq_true', Bool.not_eq_false'] at hg102); (try simp only [decide_eq_true_eq, decide_eq_false_iff_not, Bool.not_eq_true', Bool.not_eq_false'] at hg105); (try simp only [decide_eq_true_eq, decide_eq_false_iff_not, Bool.not_eq_true', Bool.not_eq_false'] at hg111); (try simp only [decide_eq_true_eq, decide_eq_false_iff_not, Bool.not_eq_true', Bool.not_eq_false'] at hg113); (try simp only [decide_eq_true_eq, decide_eq_false_iff_not, Bool.not_eq_true', Bool.not_eq_false'] at hg117); (try simp only [decide_eq_true_eq, decide_eq_false_iff_not, Bool.not_eq_true', Bool.not_eq_false'] at hg125); (try simp only [decide_eq_true_eq, decide_eq_false_iff_not, Bool.not_eq_true', Bool.not_eq_false'] at hg128); rw [Bool.eq_iff_iff]; simp [-List.getD_eq_getElem?_getD, bA, hA, hB]; try omega)), (by repeat (first | exact trivial | refine ⟨rfl, ?_⟩))⟩ (HSub.refl _)
                                · -- t128 = False
                                  refine Wl.skip rfl rfl ?_
                                  refine Wl.skip rfl rfl ?_
                                  refine Wl.skip rfl rfl ?_
                                  refine Wl.q rfl rfl (OpQ.pickF rfl rfl) ?_
                                  refine Wl.q rfl rfl (OpQ.pickF rfl rfl) ?_
                                  refine Wl.q rfl rfl (OpQ.assign rfl) ?_
                                  refine Wl.nil ?_
                                  exact PX.cutB hK4 ⟨lkV rfl (congrArg Value.bool (by (try simp only [decide_eq_true_eq, decide_eq_false_iff_not, Bool.not_eq_true', Bool.not_eq_false'] at hg91); (try simp only [decide_eq_true_eq, decide_eq_false_iff_not, Bool.not_eq_true', Bool.not_eq_false'] at hg95); (try simp only [decide_eq_true_eq, decide_eq_false_iff_not, Bool.not_eq_true', Bool.not_eq_false'] at hg102); (try simp only [decide_eq_true_eq, decide_eq_false_iff_not, Bool.not_eq_true', Bool.not_eq_false'] at hg105); (try simp only [decide_eq_true_eq, decide_eq_false_iff_not, Bool.not_eq_true', Bool.not_eq_false'] at hg111); (try simp only [decide_eq_true_eq, decide_eq_false_iff_not, Bool.not_eq_true', Bool.not_eq_false'] at hg113); (try simp only [decide_eq_true_eq, decide_eq_false_iff_not, Bool.not_eq_true', Bool.not_eq_false'] at hg117); (try simp only [decide_eq_true_eq, decide_eq_false_iff_not, Bool.not_eq_true', Bool.not_eq_false'] at hg125); (try simp only [decide_eq_true_eq, decide_eq_false_iff_not, Bool.not_eq_true', Bool.not_eq_false'] at hg128); rw [Bool.eq_iff_iff]; simp [-List.getD_eq_getElem?_getD, bA, hA, hB]; try omega)), (by repeat (first | exact trivial | refine ⟨rfl, ?_⟩))⟩ (HSub.refl _)
                          · -- t113 = False
                            refine Wl.skip rfl rfl ?_
                            refine Wl.skip rfl rfl ?_
                            refine Wl.skip rfl rfl ?_
                            refine Wl.skip rfl rfl ?_
                            refine Wl.skip rfl rfl ?_
                            refine Wl.skip rfl rfl ?_
                            refine Wl.skip rfl rfl ?_
                            refine Wl.skip rfl rfl ?_
                            refine Wl.skip rfl rfl ?_
                            refine Wl.q rfl rfl (OpQ.pickF rfl rfl) ?_
                            refine Wl.q rfl rfl (OpQ.pickF rfl rfl) ?_
                            refine Wl.q rfl rfl (OpQ.move rfl) ?_
                            refine Wl.q rfl rfl (OpQ.move rfl) ?_
                            refine Wl.q rfl rfl (OpQ.not rfl) ?_
                            refine Wl.q rfl rfl (OpQ.move rfl) ?_
                            refine Wl.split 128 rfl (fun hg128 => ?_) (fun hg128 => ?_)
                            · -- t128 = True
                              refine Wl.q rfl rfl (OpQ.fieldAddr SA_fa72_3 rfl) ?_
                              refine Wl.q rfl rfl (OpQ.loadF (b := b6) SA_sc3 rfl (by repeat (first | exact Has.here | apply Has.there)) (by rfl)) ?_
                              refine Wl.q rfl rfl (OpQ.neq rfl rfl) ?_
                              refine Wl.q rfl rfl (OpQ.pickT rfl rfl) ?_
                              refine Wl.q rfl rfl (OpQ.pickF rfl rfl) ?_
                              refine Wl.q rfl rfl (OpQ.assign rfl) ?_
                              refine Wl.nil ?_
                              exact PX.cutB hK4 ⟨lkV rfl (congrArg Value.bool (by (try simp only [decide_eq_true_eq, decide_eq_false_iff_not, Bool.not_eq_true', Bool.not_eq_false'] at hg91); (try simp only [decide_eq_true_eq, decide_eq_false_iff_not, Bool.not_eq_true', Bool.not_eq_false'] at hg95); (try simp only [decide_eq_true_eq, decide_eq_false_iff_not, Bool.not_eq_true', Bool.not_eq_false'] at hg102); (try simp only [decide_eq_true_eq, decide_eq_false_iff_not, Bool.not_eq_true', Bool.not_eq_false'] at hg105); (try simp only [decide_eq_true_eq, decide_eq_false_iff_not, Bool.not_eq_true', Bool.not_eq_false'] at hg111); (try simp only [decide_eq_true_eq, decide_eq_false_iff_not, Bool.not_eq_true', Bool.not_eq_false'] at hg113); (try simp only [decide_eq_true_eq, decide_eq_false_iff_not, Bool.not_eq_true', Bool.not_eq_false'] at hg117); (try simp only [decide_eq_true_eq, decide_eq_false_iff_not, Bool.not_eq_true', Bool.not_eq_false'] at hg125); (try simp only [decide_eq_true_eq, decide_eq_false_iff_not, Bool.not_eq_true', Bool.not_eq_false'] at hg128); rw [Bool.eq_iff_iff]; simp [-List.getD_eq_getElem?_getD, bA, hA, hB]; try omega)), (by repeat (first | exact trivial | refine ⟨rfl, ?_⟩))⟩ (HSub.refl _)
                            · -- t128 = False
                              refine Wl.skip rfl rfl ?_
                              refine Wl.skip rfl rfl ?_
                              refine Wl.skip rfl rfl ?_
                              refine Wl.q rfl rfl (OpQ.pickF rfl rfl) ?_
                              refine Wl.q rfl rfl (OpQ.pickF rfl rfl) ?_
                              refine Wl.q rfl rfl (OpQ.assign rfl) ?_
                              refine Wl.nil ?_
                              exact PX.cutB hK4 ⟨lkV rfl (congrArg Value.bool (by (try simp only [decide_eq_true_eq, decide_eq_false_iff_not, Bool.not_eq_true', Bool.not_eq_false'] at hg91); (try simp only [decide_eq_true_eq, decide_eq_false_iff_not, Bool.not_eq_true', Bool.not_eq_false'] at hg95); (try simp only [decide_eq_true_eq, decide_eq_false_iff_not, Bool.not_eq_true', Bool.not_eq_false'] at hg102); (try simp only [decide_eq_true_eq, decide_eq_false_iff_not, Bool.not_eq_true', Bool.not_eq_false'] at hg105); (try simp only [decide_eq_true_eq, decide_eq_false_iff_not, Bool.not_eq_true', Bool.not_eq_false'] at hg111); (try simp only [decide_eq_true_eq, decide_eq_false_iff_not, Bool.not_eq_true', Bool.not_eq_false'] at hg113); (try simp only [decide_eq_true_eq, decide_eq_false_iff_not, Bool.not_eq_true', Bool.not_eq_false'] at hg117); (try simp only [decide_eq_true_eq, decide_eq_false_iff_not, Bool.not_eq_true', Bool.not_eq_false'] at hg125); (try simp only [decide_eq_true_eq, decide_eq_false_iff_not, Bool.not_eq_true', Bool.not_eq_false'] at hg128); rw [Bool.eq_iff_iff]; simp [-List.getD_eq_getElem?_getD, bA, hA, hB]; try omega)), (by repeat (first | exact trivial | refine ⟨rfl, ?_⟩))⟩ (HSub.refl _)
                      · -- t105 = False
                        refine Wl.skip rfl rfl ?_
                        refine Wl.skip rfl rfl ?_
                        refine Wl.skip rfl rfl ?_
                        refine Wl.q rfl rfl (OpQ.pickF rfl rfl) ?_
                        refine Wl.q rfl rfl (OpQ.pickF rfl rfl) ?_
                        refine Wl.q rfl rfl (OpQ.move rfl) ?_
                        refine Wl.q rfl rfl (OpQ.move rfl) ?_
                        refine Wl.q rfl rfl (OpQ.move rfl) ?_
                        refine Wl.split 113 rfl (fun hg113 => ?_) (fun hg113 => ?_)
                        · -- t113 = True
                          refine Wl.q rfl rfl (OpQ.fieldAddr SA_fa72_3 rfl) ?_
                          refine Wl.q rfl rfl (OpQ.loadF (b := b6) SA_sc3 rfl (by repeat (first | exact Has.here | apply Has.there)) (by rfl)) ?_
                          refine Wl.q rfl rfl (OpQ.lss rfl rfl) ?_
                          refine Wl.q rfl rfl (OpQ.move rfl) ?_
                          refine Wl.split 117 rfl (fun hg117 => ?_) (fun hg117 => ?_)
                          · -- t117 = True
                            refine Wl.skip rfl rfl ?_
                            refine Wl.skip rfl rfl ?_
                            refine Wl.skip rfl rfl ?_
                            refine Wl.skip rfl rfl ?_
                            refine Wl.q rfl rfl (OpQ.pickT rfl rfl) ?_
                            refine Wl.q rfl rfl (OpQ.pickT rfl rfl) ?_
                            refine Wl.q rfl rfl (OpQ.pickF rfl rfl) ?_
                            refine Wl.q rfl rfl (OpQ.move rfl) ?_
                            refine Wl.skip rfl rfl ?_
                            refine Wl.skip rfl rfl ?_
                            refine Wl.skip rfl rfl ?_
                            refine Wl.skip rfl rfl ?_
                            refine Wl.skip rfl rfl ?_
                            refine Wl.skip rfl rfl ?_
                            refine Wl.skip rfl rfl ?_
                            refine Wl.q rfl rfl (OpQ.pickT rfl rfl) ?_
                            refine Wl.q rfl rfl (OpQ.assign rfl) ?_
                            refine Wl.nil ?_
                            exact PX.cutB hK4 ⟨lkV rfl (congrArg Value.bool (by (try simp only [decide_eq_true_eq, decide_eq_false_iff_not, Bool.not_eq_true', Bool.not_eq_false'] at hg91); (try simp only [decide_eq_true_eq, decide_eq_false_iff_not, Bool.not_eq_true', Bool.not_eq_false'] at hg95); (try simp only [decide_eq_true_eq, decide_eq_false_iff_not, Bool.not_eq_true', Bool.not_eq_false'] at hg102); (try simp only [decide_eq_true_eq, decide_eq_false_iff_not, Bool.not_eq_true', Bool.not_eq_false'] at hg105); (try simp only [decide_eq_true_eq, decide_eq_false_iff_not, Bool.not_eq_true', Bool.not_eq_false'] at hg111); (try simp only [decide_eq_true_eq, decide_eq_false_iff_not, Bool.not_eq_true', Bool.not_eq_false'] at hg113); (try simp only [decide_eq_true_eq, decide_eq_false_iff_not, Bool.not_eq_true', Bool.not_eq_false'] at hg117); (try simp only [decide_eq_true_eq, decide_eq_false_iff_not, Bool.not_eq_true', Bool.not_eq_false'] at hg125); (try simp only [decide_eq_true_eq, decide_eq_false_iff_not, Bool.not_eq_true', Bool.not_eq_false'] at hg128); rw [Bool.eq_iff_iff]; simp [-List.getD_eq_getElem?_getD, bA, hA, hB]; try omega)), (by repeat (first | exact trivial | refine ⟨rfl, ?_⟩))⟩ (HSub.refl _)
                          · -- t117 = False
                            refine Wl.q rfl rfl (OpQ.fieldAddr SA_fa72_3 rfl) ?_
                            refine Wl.q rfl rfl (OpQ.loadF (b := b6) SA_sc3 rfl (by repeat (first | exact Has.here | apply Has.there)) (by rfl)) ?_
                            refine Wl.q rfl rfl (OpQ.move rfl) ?_
                            refine Wl.q rfl rfl (OpQ.geq rfl rfl) ?_
                            refine Wl.q rfl rfl (OpQ.pickF rfl rfl) ?_
                            refine Wl.q rfl rfl (OpQ.pickT rfl rfl) ?_
                            refine Wl.q rfl rfl (OpQ.pickF rfl rfl) ?_
                            refine Wl.q rfl rfl (OpQ.move rfl) ?_
                            refine Wl.split 125 rfl (fun hg125 => ?_) (fun hg125 => ?_)
                            · -- t125 = True
                              refine Wl.skip rfl rfl ?_
                              refine Wl.skip rfl rfl ?_
                              refine Wl.skip rfl rfl ?_
                              refine Wl.skip rfl rfl ?_
                              refine Wl.skip rfl rfl ?_
                              refine Wl.skip rfl rfl ?_
                              refine Wl.skip rfl rfl ?_
                              refine Wl.q rfl rfl (OpQ.pickT rfl rfl) ?_
                              refine Wl.q rfl rfl (OpQ.assign rfl) ?_
                              refine Wl.nil ?_
                              exact PX.cutB hK4 ⟨lkV rfl (congrArg Value.bool (by (try simp only [decide_eq_true_eq, decide_eq_false_iff_not, Bool.not_eq_true', Bool.not_eq_false'] at hg91); (try simp only [decide_eq_true_eq, decide_eq_false_iff_not, Bool.not_eq_true', Bool.not_eq_false'] at hg95); (try simp only [decide_eq_true_eq, decide_eq_false_iff_not, Bool.not_eq_true', Bool.not_eq_false'] at hg102); (try simp only [decide_eq_true_eq, decide_eq_false_iff_not, Bool.not_eq_true', Bool.not_eq_false'] at hg105); (try simp only [decide_eq_true_eq, decide_eq_false_iff_not, Bool.not_eq_true', Bool.not_eq_false'] at hg111); (try simp only [decide_eq_true_eq, decide_eq_false_iff_not, Bool.not_eq_true', Bool.not_eq_false'] at hg113); (try simp only [decide_eq_true_eq, decide_eq_false_iff_not, Bool.not_eq_true', Bool.not_eq_false'] at hg117); (try simp only [decide_eq_true_eq, decide_eq_false_iff_not, Bool.not_eq_true', Bool.not_eq_false'] at hg125); (try simp only [decide_eq_true_eq, decide_eq_false_iff_not, Bool.not_eq_true', Bool.not_eq_false'] at hg128); rw [Bool.eq_iff_iff]; simp [-List.getD_eq_getElem?_getD, bA, hA, hB]; try omega)), (by repeat (first | exact trivial | refine ⟨rfl, ?_⟩))⟩ (HSub.refl _)
                            · -- t125 = False
                              refine Wl.q rfl rfl (OpQ.move rfl) ?_
                              refine Wl.q rfl rfl (OpQ.not rfl) ?_
                              refine Wl.q rfl rfl (OpQ.move rfl) ?_
                              refine Wl.split 128 rfl (fun hg128 => ?_) (fun hg128 => ?_)
                              · -- t128 = True
                                refine Wl.q rfl rfl (OpQ.fieldAddr SA_fa72_3 rfl) ?_
                                refine Wl.q rfl rfl (OpQ.loadF (b := b6) SA_sc3 rfl (by repeat (first | exact Has.here | apply Has.there)) (by rfl)) ?_
                                refine Wl.q rfl rfl (OpQ.neq rfl rfl) ?_
                                refine Wl.q rfl rfl (OpQ.pickT rfl rfl) ?_
                                refine Wl.q rfl rfl (OpQ.pickF rfl rfl) ?_
                                refine Wl.q rfl rfl (OpQ.assign rfl) ?_
                                refine Wl.nil ?_
                                exact PX.cutB hK4 ⟨lkV rfl (congrArg Value.bool (by (try simp only [decide_eq_true_eq, decide_eq_false_iff_not, Bool.not_eq_true', Bool.not_eq_false'] at hg91); (try simp only [decide_eq_true_eq, decide_eq_false_iff_not, Bool.not_eq_true', Bool.not_eq_false'] at hg95); (try simp only [decide_eq_true_eq, decide_eq_false_iff_not, Bool.not_eq_true', Bool.not_eq_false'] at hg102); (try simp only [decide_eq_true_eq, decide_eq_false_iff_not, Bool.not_eq_true', Bool.not_eq_false'] at hg105); (try simp only [decide_eq_true_eq, decide_eq_false_iff_not, Bool.not_eq_true', Bool.not_eq_false'] at hg111); (try simp only [decide_eq_true_eq, decide_eq_false_iff_not, Bool.not_eq_true', Bool.not_eq_false'] at hg113); (try simp only [decide_eq_true_eq, decide_eq_false_iff_not, Bool.not_eq_true', Bool.not_eq_false'] at hg117); (try simp only [decide_eq_true_eq, decide_eq_false_iff_not, Bool.not_eq_true', Bool.not_eq_false'] at hg125); (try simp only [decide_eq_true_eq, decide_eq_false_iff_not, Bool.not_eq_true', Bool.not_eq_false'] at hg128); rw [Bool.eq_iff_iff]; simp [-List.getD_eq_getElem?_getD, bA, hA, hB]; try omega)), (by repeat (first | exact trivial | refine ⟨rfl, ?_⟩))⟩ (HSub.refl _)
                              · -- t128 = False
                                refine Wl.skip rfl rfl ?_
                                refine Wl.skip rfl rfl ?_
                                refine Wl.skip rfl rfl ?_
                                refine Wl.q rfl rfl (OpQ.pickF rfl rfl) ?_
                                refine Wl.q rfl rfl (OpQ.pickF rfl rfl) ?_
                                refine Wl.q rfl rfl (OpQ.assign rfl) ?_
                                refine Wl.nil ?_
                                exact PX.cutB hK4 ⟨lkV rfl (congrArg Value.bool (by (try simp only [decide_eq_true_eq, decide_eq_false_iff_not, Bool.not_eq_true', Bool.not_eq_false'] at hg91); (try simp only [decide_eq_true_eq, decide_eq_false_iff_not, Bool.not_eq_true', Bool.not_eq_false'] at hg95); (try simp only [decide_eq_true_eq, decide_eq_false_iff_not, Bool.not_eq_true', Bool.not_eq_false'] at hg102); (try simp only [decide_eq_true_eq, decide_eq_false_iff_not, Bool.not_eq_true', Bool.not_eq_false'] at hg105); (try simp only [decide_eq_true_eq, decide_eq_false_iff_not, Bool.not_eq_true', Bool.not_eq_false'] at hg111); (try simp only [decide_eq_true_eq, decide_eq_false_iff_not, Bool.not_eq_true', Bool.not_eq_false'] at hg113); (try simp only [decide_eq_true_eq, decide_eq_false_iff_not, Bool.not_eq_true', Bool.not_eq_false'] at hg117); (try simp only [decide_eq_true_eq, decide_eq_false_iff_not, Bool.not_eq_true', Bool.not_eq_false'] at hg125); (try simp only [decide_eq_true_eq, decide_eq_false_iff_not, Bool.not_eq_true', Bool.not_eq_false'] at hg128); rw [Bool.eq_iff_iff]; simp [-List.getD_eq_getElem?_getD, bA, hA, hB]; try omega)), (by repeat (first | exact trivial | refine ⟨rfl, ?_⟩))⟩ (HSub.refl _)
                        · -- t113 = False
                          refine Wl.skip rfl rfl ?_
                          refine Wl.skip rfl rfl ?_
                          refine Wl.skip rfl rfl ?_
                          refine Wl.skip rfl rfl ?_
                          refine Wl.skip rfl rfl ?_
                          refine Wl.skip rfl rfl ?_
                          refine Wl.skip rfl rfl ?_
                          refine Wl.skip rfl rfl ?_
                          refine Wl.skip rfl rfl ?_
                          refine Wl.q rfl rfl (OpQ.pickF rfl rfl) ?_
                          refine Wl.q rfl rfl (OpQ.pickF rfl rfl) ?_
                          refine Wl.q rfl rfl (OpQ.move rfl) ?_
                          refine Wl.q rfl rfl (OpQ.move rfl) ?_
                          refine Wl.q rfl rfl (OpQ.not rfl) ?_
                          refine Wl.q rfl rfl (OpQ.move rfl) ?_
                          refine Wl.split 128 rfl (fun hg128 => ?_) (fun hg128 => ?_)
                          · -- t128 = True
                            refine Wl.q rfl rfl (OpQ.fieldAddr SA_fa72_3 rfl) ?_
                            refine Wl.q rfl rfl (OpQ.loadF (b := b6) SA_sc3 rfl (by repeat (first | exact Has.here | apply Has.there)) (by rfl)) ?_
                            refine Wl.q rfl rfl (OpQ.neq rfl rfl) ?_
                            refine Wl.q rfl rfl (OpQ.pickT rfl rfl) ?_
                            refine Wl.q rfl rfl (OpQ.pickF rfl rfl) ?_
                            refine Wl.q rfl rfl (OpQ.assign rfl) ?_
                            refine Wl.nil ?_
                            exact PX.cutB hK4 ⟨lkV rfl (congrArg Value.bool (by (try simp only [decide_eq_true_eq, decide_eq_false_iff_not, Bool.not_eq_true', Bool.not_eq_false'] at hg91); (try simp only [decide_eq_true_eq, decide_eq_false_iff_not, Bool.not_eq_true', Bool.not_eq_false'] at hg95); (try simp only [decide_eq_true_eq, decide_eq_false_iff_not, Bool.not_eq_true', Bool.not_eq_false'] at hg102); (try simp only [decide_eq_true_eq, decide_eq_false_iff_not, Bool.not_eq_true', Bool.not_eq_false'] at hg105); (try simp only [decide_eq_true_eq, decide_eq_false_iff_not, Bool.not_eq_true', Bool.not_eq_false'] at hg111); (try simp only [decide_eq_true_eq, decide_eq_false_iff_not, Bool.not_eq_true', Bool.not_eq_false'] at hg113); (try simp only [decide_eq_true_eq, decide_eq_false_iff_not, Bool.not_eq_true', Bool.not_eq_false'] at hg117); (try simp only [decide_eq_true_eq, decide_eq_false_iff_not, Bool.not_eq_true', Bool.not_eq_false'] at hg125); (try simp only [decide_eq_true_eq, decide_eq_false_iff_not, Bool.not_eq_true', Bool.not_eq_false'] at hg128); rw [Bool.eq_iff_iff]; simp [-List.getD_eq_getElem?_getD, bA, hA, hB]; try omega)), (by repeat (first | exact trivial | refine ⟨rfl, ?_⟩))⟩ (HSub.refl _)
                          · -- t128 = False
                            refine Wl.skip rfl rfl ?_
                            refine Wl.skip rfl rfl ?_
                            refine Wl.skip rfl rfl ?_
                            refine Wl.q rfl rfl (OpQ.pickF rfl rfl) ?_
                            refine Wl.q rfl rfl (OpQ.pickF rfl rfl) ?_
                            refine Wl.q rfl rfl (OpQ.assign rfl) ?_
                            refine Wl.nil ?_
                            exact PX.cutB hK4 ⟨lkV rfl (congrArg Value.bool (by (try simp only [decide_eq_true_eq, decide_eq_false_iff_not, Bool.not_eq_true', Bool.not_eq_false'] at hg91); (try simp only [decide_eq_true_eq, decide_eq_false_iff_not, Bool.not_eq_true', Bool.not_eq_false'] at hg95); (try simp only [decide_eq_true_eq, decide_eq_false_iff_not, Bool.not_eq_true', Bool.not_eq_false'] at hg102); (try simp only [decide_eq_true_eq, decide_eq_false_iff_not, Bool.not_eq_true', Bool.not_eq_false'] at hg105); (try simp only [decide_eq_true_eq, decide_eq_false_iff_not, Bool.not_eq_true', Bool.not_eq_false'] at hg111); (try simp only [decide_eq_true_eq, decide_eq_false_iff_not, Bool.not_eq_true', Bool.not_eq_false'] at hg113); (try simp only [decide_eq_true_eq, decide_eq_false_iff_not, Bool.not_eq_true', Bool.not_eq_false'] at hg117); (try simp only [decide_eq_true_eq, decide_eq_false_iff_not, Bool.not_eq_true', Bool.not_eq_false'] at hg125); (try simp only [decide_eq_true_eq, decide_eq_false_iff_not, Bool.not_eq_true', Bool.not_eq_false'] at hg128); rw [Bool.eq_iff_iff]; simp [-List.getD_eq_getElem?_getD, bA, hA, hB]; try omega)), (by repeat (first | exact trivial | refine ⟨rfl, ?_⟩))⟩ (HSub.refl _)
                  · -- from the join on
                    refine CT.cond rfl (fun h89 => ?_) (fun h89 => ?_)
                    · -- if t89: then
                      refine CT.seq ?_
                      -- region 14: ref.go:28
                      refine CT.region ?_
                      refine Wl.q rfl rfl (OpQ.assign rfl) ?_
                      refine Wl.nil ?_
                      refine PX.then_n ?_
                      refine CT.ret ?_
                      refine PX.block_r ?_
                      refine PX.block_r ?_
                      refine PX.then_r ?_
                      refine PX.then_r ?_
                      refine PX.block_r ?_
                      refine PX.then_r ?_
                      refine PX.ret1 rfl rfl (fun w' hH => ?_)
                      exact ⟨Tl.ret_i (gE_bad hm (by omega) (okG_bad (k := k) (by omega) (by rw [okN_bad, h89]; simp))).symm, hH.ext⟩
                    · -- if t89: else
                      refine CT.skip ?_
                      refine PX.block_n ?_
                      refine PX.block_n ?_
                      refine PX.then_n ?_
                      -- region 15: ref.go:20
                      refine CT.region ?_
                      refine Wl.q rfl rfl (OpQ.add rfl rfl (by omega)) ?_
                      refine Wl.q rfl rfl (OpQ.move rfl) ?_
                      refine Wl.nil ?_
                      have hall2 : ∀ j, j < k + 1 → okN (xs.getD j n0) j letters = true := fun j hj => by
                        rcases Nat.lt_or_ge j k with h | h
                        · exact hall j h
                        · rw [show j = k by omega]; exact by rw [okN_bad, h55, h64, h89]; rfl
                      exact PX.loop hK0 (k + 1) ⟨by omega, hall2⟩ (by first | omega | (dsimp only; omega)) ⟨rfl, rfl, rfl, rfl, rfl, trivial⟩ (.drop (HSub.refl _))
      · -- if t20: else
        have h20 := of_decide_eq_false h20
        refine CT.exit ?_
        refine PX.then_x ?_
        refine PX.then_x ?_
        refine PX.block_x ?_
        refine PX.then_n ?_
        refine CT.seq ?_
        refine CT.seq ?_
        -- region 16: ref.go:31
        refine CT.region ?_
        refine Wl.q rfl rfl (OpQ.fieldAddr SA_fa40_1 rfl) ?_
        refine Wl.q rfl rfl (OpQ.loadF (b := b2) SA_sc3 rfl (by repeat (first | exact Has.here | apply Has.there)) (by rfl)) ?_
        refine Wl.q rfl rfl (OpQ.lss rfl rfl) ?_
        refine Wl.q rfl rfl (OpQ.move rfl) ?_
        refine Wl.split 138 rfl (fun hg138 => ?_) (fun hg138 => ?_)
        · -- t138 = True
          have hg138 := of_decide_eq_true hg138
          refine Wl.skip rfl rfl ?_
          refine Wl.skip rfl rfl ?_
          refine Wl.skip rfl rfl ?_
          refine Wl.skip rfl rfl ?_
          refine Wl.skip rfl rfl ?_
          refine Wl.skip rfl rfl ?_
          refine Wl.q rfl rfl (OpQ.pickT rfl rfl) ?_
          refine Wl.nil ?_
          refine PX.then_n ?_
          refine CT.condT rfl ?_
          refine CT.seq ?_
          -- region 17: ref.go:32
          refine CT.region ?_
          refine Wl.q rfl rfl (OpQ.assign rfl) ?_
          refine Wl.nil ?_
          refine PX.then_n ?_
          refine CT.ret ?_
          refine PX.then_r ?_
          refine PX.ret1 rfl rfl (fun w' hH => ?_)
          exact ⟨Tl.ret_i (gE_root hm (by omega) (okG_ok (fun j hj => hall j (by omega))) (by omega)).symm, hH.ext⟩
        · -- t138 = False
          have hg138 := of_decide_eq_false hg138
          refine Wl.q rfl rfl (OpQ.fieldAddr SA_fa40_1 rfl) ?_
          refine Wl.q rfl rfl (OpQ.loadF (b := b2) SA_sc3 rfl (by repeat (first | exact Has.here | apply Has.there)) (by rfl)) ?_
          refine Wl.q rfl rfl (OpQ.fieldAddr SA_fa40_0 rfl) ?_
          refine Wl.q rfl rfl (OpQ.loadF (b := b2) SA_sc38 rfl (by repeat (first | exact Has.here | apply Has.there)) (by rfl)) ?_
          refine Wl.q rfl rfl (OpQ.len SA_un38 rfl) ?_
          refine Wl.q rfl rfl (OpQ.geq rfl rfl) ?_
          refine Wl.q rfl rfl (OpQ.pickF rfl rfl) ?_
          refine Wl.nil ?_
          refine PX.then_n ?_
          refine CT.cond rfl (fun h145 => ?_) (fun h145 => ?_)
          · -- if t145: then
            have h145 := of_decide_eq_true h145
            refine CT.seq ?_
            -- region 17: ref.go:32
            refine CT.region ?_
            refine Wl.q rfl rfl (OpQ.assign rfl) ?_
            refine Wl.nil ?_
            refine PX.then_n ?_
            refine CT.ret ?_
            refine PX.then_r ?_
            refine PX.ret1 rfl rfl (fun w' hH => ?_)
            exact ⟨Tl.ret_i (gE_root hm (by omega) (okG_ok (fun j hj => hall j (by omega))) (by omega)).symm, hH.ext⟩
          · -- if t145: else
            have h145 := of_decide_eq_false h145
            refine CT.skip ?_
            refine PX.then_n ?_
            refine CT.seq ?_
            -- region 18: ref.go:34
            refine CT.region ?_
            refine Wl.q rfl rfl (OpQ.assign rfl) ?_
            refine Wl.nil ?_
            refine PX.then_n ?_
            refine CT.ret ?_
            refine PX.ret1 rfl rfl (fun w' hH => ?_)
            exact ⟨Tl.ret_i (gE_ok hm (by omega) (okG_ok (fun j hj => hall j (by omega))) (by omega)).symm, hH.ext⟩

theorem SA_in81 : (Try.prog.info? 81).map (fun i => (i.zero, i.size, i.bytes)) = some (some (.agg #[.int .i64 0, .int .i64 0]), 2, 16) := by kernel_rfl
theorem SA_pl81 : placesB Try.prog 81 = some (#[.int .i64 0, .int .i64 0], [(0, 1), (1, 1)]) := by kernel_rfl
theorem SA_sz81 : sizeB Try.prog 81 = some 2 := by kernel_rfl
theorem SA_ag81 : isAggB Try.prog 81 = some true := by kernel_rfl
set_option maxRecDepth 100000 in
/-- semigroup/firstorder.pairOf -/
theorem pairOf_spec (w : World) (k : Nat) (hk : k < 9) : Calls Try.prog 38 #[.int .i64 (k : Int)] w (fun e w' => e = .returned (.agg #[.int .i64 ((k / 3 : Nat) : Int), .int .i64 ((k % 3 : Nat) : Int)]) ∧ Ext [] w w') := by
  refine enter (args := [.int .i64 (k : Int)]) [] 8 Try.func38 rfl rfl rfl ?_
  refine CT.seq ?_
  -- region 0: translate.go:45
  refine CT.region ?_
  refine Wl.g rfl rfl (OpG.alloc (zs := [.int .i64 0, .int .i64 0]) SA_in81 rfl rfl) ?_
  rintro b2 _
  refine Wl.nil ?_
  refine PX.then_n ?_
  refine CT.seq ?_
  -- region 1: translate.go:46
  refine CT.region ?_
  refine Wl.q rfl rfl (OpQ.move rfl) ?_
  refine Wl.q rfl rfl (OpQ.quo rfl rfl (by rw [quo3]; omega)) ?_
  refine Wl.know 4 (v' := .int .i64 ((k / 3 : Nat) : Int)) rfl (congrArg (Value.int .i64) (quo3 k)) ?_
  refine Wl.q rfl rfl (OpQ.move rfl) ?_
  refine Wl.q rfl rfl (OpQ.rem rfl rfl (by omega)) ?_
  refine Wl.know 6 (v' := .int .i64 ((k % 3 : Nat) : Int)) rfl (congrArg (Value.int .i64) (rem3 k)) ?_
  refine Wl.q rfl rfl (OpQ.build (cells := #[.int .i64 ((k / 3 : Nat) : Int), .int .i64 ((k % 3 : Nat) : Int)]) SA_pl81 rfl rfl) ?_
  refine Wl.g rfl rfl (OpG.storeV (b := b2) SA_sz81 rfl rfl rfl rfl (by repeat (first | exact Upd.here | apply Upd.there))) ?_
  rintro _ _
  refine Wl.nil ?_
  refine PX.then_n ?_
  refine CT.ret ?_
  refine PX.retC rfl rfl (by repeat (first | exact Has.here | apply Has.there)) SA_ag81 SA_sz81 (by rfl) (fun w' hH => ?_)
  exact ⟨rfl, hH.ext⟩

theorem SA_fa81_0 : fieldB Try.prog 81 0 = some 0 := by kernel_rfl
theorem SA_fa81_1 : fieldB Try.prog 81 1 = some 1 := by kernel_rfl
set_option maxRecDepth 100000 in
/-- (semigroup/firstorder.pair).slot -/
theorem slot_spec (w : World) (l r : Nat) (hl : l < 3) (hr : r < 3) : Calls Try.prog 39 #[.agg #[.int .i64 ((l : Nat) : Int), .int .i64 ((r : Nat) : Int)]] w (fun e w' => e = .returned (.int .i64 ((l * 3 + r : Nat) : Int)) ∧ Ext [] w w') := by
  refine enter (args := [.agg #[.int .i64 ((l : Nat) : Int), .int .i64 ((r : Nat) : Int)]]) [] 9 Try.func39 rfl rfl rfl ?_
  refine CT.seq ?_
  -- region 0: translate.go:40
  refine CT.region ?_
  refine Wl.g rfl rfl (OpG.box (size := 2) rfl rfl rfl) ?_
  rintro b1 _
  refine Wl.q rfl rfl (OpQ.assign rfl) ?_
  refine Wl.nil ?_
  refine PX.then_n ?_
  refine CT.seq ?_
  -- region 1: translate.go:41
  refine CT.region ?_
  refine Wl.q rfl rfl (OpQ.fieldAddr SA_fa81_0 rfl) ?_
  refine Wl.q rfl rfl (OpQ.loadF (b := b1) SA_sc3 rfl (by repeat (first | exact Has.here | apply Has.there)) (by rfl)) ?_
  refine Wl.q rfl rfl (OpQ.mul rfl rfl (by omega)) ?_
  refine Wl.q rfl rfl (OpQ.fieldAddr SA_fa81_1 rfl) ?_
  refine Wl.q rfl rfl (OpQ.loadF (b := b1) SA_sc3 rfl (by repeat (first | exact Has.here | apply Has.there)) (by rfl)) ?_
  refine Wl.q rfl rfl (OpQ.add rfl rfl (by omega)) ?_
  refine Wl.q rfl rfl (OpQ.assign rfl) ?_
  refine Wl.nil ?_
  refine PX.then_n ?_
  refine CT.ret ?_
  refine PX.ret1 rfl rfl (fun w' hH => ?_)
  exact ⟨Tl.ret_i (by omega), hH.ext⟩

set_option maxRecDepth 100000 in
/-- (semigroup/firstorder.pair).third -/
theorem third_spec (w : World) (l r : Nat) (hl : l + r ≤ 3) : Calls Try.prog 55 #[.agg #[.int .i64 ((l : Nat) : Int), .int .i64 ((r : Nat) : Int)]] w (fun e w' => e = .returned (.int .i64 ((3 - l - r : Nat) : Int)) ∧ Ext [] w w') := by
  refine enter (args := [.agg #[.int .i64 ((l : Nat) : Int), .int .i64 ((r : Nat) : Int)]]) [] 9 Try.func55 rfl rfl rfl ?_
  refine CT.seq ?_
  -- region 0: translate.go:35
  refine CT.region ?_
  refine Wl.g rfl rfl (OpG.box (size := 2) rfl rfl rfl) ?_
  rintro b1 _
  refine Wl.q rfl rfl (OpQ.assign rfl) ?_
  refine Wl.nil ?_
  refine PX.then_n ?_
  refine CT.seq ?_
  -- region 1: translate.go:36
  refine CT.region ?_
  refine Wl.q rfl rfl (OpQ.fieldAddr SA_fa81_0 rfl) ?_
  refine Wl.q rfl rfl (OpQ.loadF (b := b1) SA_sc3 rfl (by repeat (first | exact Has.here | apply Has.there)) (by rfl)) ?_
  refine Wl.q rfl rfl (OpQ.sub rfl rfl (by omega)) ?_
  refine Wl.q rfl rfl (OpQ.fieldAddr SA_fa81_1 rfl) ?_
  refine Wl.q rfl rfl (OpQ.loadF (b := b1) SA_sc3 rfl (by repeat (first | exact Has.here | apply Has.there)) (by rfl)) ?_
  refine Wl.q rfl rfl (OpQ.sub rfl rfl (by omega)) ?_
  refine Wl.q rfl rfl (OpQ.assign rfl) ?_
  refine Wl.nil ?_
  refine PX.then_n ?_
  refine CT.ret ?_
  refine PX.ret1 rfl rfl (fun w' hH => ?_)
  exact ⟨Tl.ret_i (by omega), hH.ext⟩

end Go.Proofs.Ytdcjemjfliaaiaa
