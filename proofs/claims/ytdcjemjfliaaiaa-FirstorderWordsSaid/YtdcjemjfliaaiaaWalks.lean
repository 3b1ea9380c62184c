/-
  What functions of the packages firstorder, semigroupref38 and semigroupmade compute, each by its walk. Conditions: those that each theorem names.
-/
import Derived.Test.YtdcjemjfliaaiaaMod
import Derived.Test.YtdcjemjfliaaiaaProg
set_option linter.unusedSimpArgs false
namespace Go.Proofs.Ytdcjemjfliaaiaa
open Go Go.Eng Go.Fo
open Go.Tp (zi)
open Go.Tl (vf mayL Wd okW okB vf_t vf_f ret_b ret_i okW_may okW_long okW_bad okW_ok may_in u8_lt)

theorem un22 : Try.prog.underlying 22 = some (.slice 3) := by kernel_rfl
theorem sz3 : sizeB Try.prog 3 = some 1 := by kernel_rfl
theorem un56 : Try.prog.underlying 56 = some (.slice 5) := by kernel_rfl
theorem un5 : Try.prog.underlying 5 = some (.int .u8) := by kernel_rfl
theorem un9 : Try.prog.underlying 9 = some .string := by kernel_rfl
set_option maxRecDepth 100000 in
/-- semigroup/semigroupref01.MayLetters -/
theorem may_spec (w : World) (l : Int) : Calls Try.prog 40 #[.int .i64 (l)] w (fun e w' => e = .returned (.bool (mayL l)) ∧ Ext [] w w') := by
  refine enter (args := [.int .i64 (l)]) [] 9 Try.func40 rfl rfl rfl ?_
  refine CT.seq ?_
  -- region 0: ref.go:7
  refine CT.region ?_
  refine Wl.q rfl rfl (OpQ.assign rfl) ?_
  refine Wl.nil ?_
  refine PX.then_n ?_
  refine CT.seq ?_
  -- region 1: ref.go:7
  refine CT.region ?_
  refine Wl.q rfl rfl (OpQ.move rfl) ?_
  refine Wl.q rfl rfl (OpQ.geq rfl rfl) ?_
  refine Wl.q rfl rfl (OpQ.move rfl) ?_
  refine Wl.split 5 rfl (fun hg5 => ?_) (fun hg5 => ?_)
  · -- t5 = True
    have hg5 := of_decide_eq_true hg5
    refine Wl.q rfl rfl (OpQ.move rfl) ?_
    refine Wl.q rfl rfl (OpQ.leq rfl rfl) ?_
    refine Wl.q rfl rfl (OpQ.pickT rfl rfl) ?_
    refine Wl.q rfl rfl (OpQ.assign rfl) ?_
    refine Wl.nil ?_
    refine PX.then_n ?_
    refine CT.ret ?_
    refine PX.ret1 rfl rfl (fun w' hH => ?_)
    exact ⟨ret_b (by rw [mayL, decide_eq_decide]; omega), hH.ext⟩
  · -- t5 = False
    have hg5 := of_decide_eq_false hg5
    refine Wl.skip rfl rfl ?_
    refine Wl.skip rfl rfl ?_
    refine Wl.q rfl rfl (OpQ.pickF rfl rfl) ?_
    refine Wl.q rfl rfl (OpQ.assign rfl) ?_
    refine Wl.nil ?_
    refine PX.then_n ?_
    refine CT.ret ?_
    refine PX.ret1 rfl rfl (fun w' hH => ?_)
    exact ⟨ret_b (by rw [eq_comm, mayL, decide_eq_false_iff_not]; omega), hH.ext⟩

theorem un3 : Try.prog.underlying 3 = some (.int .i64) := by kernel_rfl
set_option maxRecDepth 100000 in
/-- semigroup/word.Valid -/
theorem wvalid_spec (w : World) (ws : Wd) (hn : ws.length ≤ 9223372036854775807) (letters : Int) : Calls Try.prog 30 #[sv ws, .int .i64 (letters)] w (fun e w' => e = .returned (.bool (okW ws letters)) ∧ Ext [] w w') := by
  refine enter (args := [sv ws, .int .i64 (letters)]) [] 36 Try.func30 rfl rfl rfl ?_
  refine CT.seq ?_
  -- region 0: word.go:22
  refine CT.region ?_
  refine Wl.q rfl rfl (OpQ.assign rfl) ?_
  refine Wl.nil ?_
  refine PX.then_n ?_
  refine CT.seq ?_
  refine CT.seq ?_
  -- region 1: word.go:23
  refine CT.region ?_
  refine Wl.q rfl rfl (OpQ.move rfl) ?_
  refine Wl.q rfl rfl (OpQ.lss rfl rfl) ?_
  refine Wl.q rfl rfl (OpQ.move rfl) ?_
  refine Wl.split 8 rfl (fun hg8 => ?_) (fun hg8 => ?_)
  · -- t8 = True
    have hg8 := of_decide_eq_true hg8
    refine Wl.skip rfl rfl ?_
    refine Wl.skip rfl rfl ?_
    refine Wl.q rfl rfl (OpQ.pickT rfl rfl) ?_
    refine Wl.q rfl rfl (OpQ.move rfl) ?_
    refine Wl.skip rfl rfl ?_
    refine Wl.skip rfl rfl ?_
    refine Wl.skip rfl rfl ?_
    refine Wl.q rfl rfl (OpQ.pickT rfl rfl) ?_
    refine Wl.nil ?_
    refine PX.then_n ?_
    refine CT.condT rfl ?_
    refine CT.seq ?_
    -- region 2: word.go:24
    refine CT.region ?_
    refine Wl.q rfl rfl (OpQ.assign rfl) ?_
    refine Wl.nil ?_
    refine PX.then_n ?_
    refine CT.ret ?_
    refine PX.then_r ?_
    refine PX.ret1 rfl rfl (fun w' hH => ?_)
    exact ⟨ret_b (okW_may (by omega)).symm, hH.ext⟩
  · -- t8 = False
    have hg8 := of_decide_eq_false hg8
    refine Wl.q rfl rfl (OpQ.move rfl) ?_
    refine Wl.q rfl rfl (OpQ.gtr rfl rfl) ?_
    refine Wl.q rfl rfl (OpQ.pickF rfl rfl) ?_
    refine Wl.q rfl rfl (OpQ.move rfl) ?_
    refine Wl.split 12 rfl (fun hg12 => ?_) (fun hg12 => ?_)
    · -- t12 = True
      have hg12 := of_decide_eq_true hg12
      refine Wl.skip rfl rfl ?_
      refine Wl.skip rfl rfl ?_
      refine Wl.skip rfl rfl ?_
      refine Wl.q rfl rfl (OpQ.pickT rfl rfl) ?_
      refine Wl.nil ?_
      refine PX.then_n ?_
      refine CT.condT rfl ?_
      refine CT.seq ?_
      -- region 2: word.go:24
      refine CT.region ?_
      refine Wl.q rfl rfl (OpQ.assign rfl) ?_
      refine Wl.nil ?_
      refine PX.then_n ?_
      refine CT.ret ?_
      refine PX.then_r ?_
      refine PX.ret1 rfl rfl (fun w' hH => ?_)
      exact ⟨ret_b (okW_may (by omega)).symm, hH.ext⟩
    · -- t12 = False
      have hg12 := of_decide_eq_false hg12
      refine Wl.q rfl rfl (OpQ.move rfl) ?_
      refine Wl.q rfl rfl (OpQ.lenSv un9 rfl) ?_
      refine Wl.q rfl rfl (OpQ.gtr rfl rfl) ?_
      refine Wl.q rfl rfl (OpQ.pickF rfl rfl) ?_
      refine Wl.nil ?_
      refine PX.then_n ?_
      refine CT.cond rfl (fun h16 => ?_) (fun h16 => ?_)
      · -- if t16: then
        have h16 := of_decide_eq_true h16
        refine CT.seq ?_
        -- region 2: word.go:24
        refine CT.region ?_
        refine Wl.q rfl rfl (OpQ.assign rfl) ?_
        refine Wl.nil ?_
        refine PX.then_n ?_
        refine CT.ret ?_
        refine PX.then_r ?_
        refine PX.ret1 rfl rfl (fun w' hH => ?_)
        exact ⟨ret_b (okW_long (by omega)).symm, hH.ext⟩
      · -- if t16: else
        have h16 := of_decide_eq_false h16
        refine CT.skip ?_
        refine PX.then_n ?_
        refine CT.seq ?_
        refine CT.seq ?_
        -- region 3: word.go:26
        refine CT.region ?_
        refine Wl.q rfl rfl (OpQ.move rfl) ?_
        refine Wl.q rfl rfl (OpQ.lenSv un9 rfl) ?_
        refine Wl.q rfl rfl (OpQ.move rfl) ?_
        refine Wl.nil ?_
        refine PX.then_n ?_
        refine CT.block ?_
        -- the loop at region 4
        refine CT.loop (ι := Nat) (fun k => k ≤ ws.length ∧ ∀ j, j < k → okB letters (ws.getD j 0) = true) (fun k => [(0, sv ws), (1, .int .i64 (letters)), (18, .int .i64 (ws.length : Int)), (19, .int .i64 (k : Int))]) (fun _ => []) (fun k => ws.length - k) 0 ⟨by omega, by omega⟩ ⟨rfl, rfl, rfl, rfl, trivial⟩ (HSub.none _) (fun k ⟨hk, hall⟩ K0 hK0 => ?_)
        have hu := u8_lt (ws.getD k 0)
        refine CT.seq ?_
        -- region 4: word.go:26
        refine CT.region ?_
        refine Wl.q rfl rfl (OpQ.lss rfl rfl) ?_
        refine Wl.nil ?_
        refine PX.then_n ?_
        refine CT.seq ?_
        refine CT.cond rfl (fun h20 => ?_) (fun h20 => ?_)
        · -- if t20: then
          have h20 := of_decide_eq_true h20
          refine CT.skip ?_
          refine PX.then_n ?_
          refine CT.seq ?_
          refine CT.block ?_
          refine CT.seq ?_
          -- region 5: word.go:26
          refine CT.region ?_
          refine Wl.q rfl rfl (OpQ.move rfl) ?_
          refine Wl.q rfl rfl (OpQ.assign rfl) ?_
          refine Wl.nil ?_
          refine PX.then_n ?_
          refine CT.seq ?_
          -- region 6: word.go:27
          refine CT.region ?_
          refine Wl.q rfl rfl (OpQ.move rfl) ?_
          refine Wl.q rfl rfl (OpQ.move rfl) ?_
          refine Wl.q rfl rfl (OpQ.indexSvN un9 rfl rfl (by omega)) ?_
          refine Wl.q rfl rfl (OpQ.lss rfl rfl) ?_
          refine Wl.q rfl rfl (OpQ.move rfl) ?_
          refine Wl.split 26 rfl (fun hg26 => ?_) (fun hg26 => ?_)
          · -- t26 = True
            have hg26 := of_decide_eq_true hg26
            refine Wl.skip rfl rfl ?_
            refine Wl.skip rfl rfl ?_
            refine Wl.skip rfl rfl ?_
            refine Wl.skip rfl rfl ?_
            refine Wl.skip rfl rfl ?_
            refine Wl.skip rfl rfl ?_
            refine Wl.skip rfl rfl ?_
            refine Wl.q rfl rfl (OpQ.pickT rfl rfl) ?_
            refine Wl.nil ?_
            refine PX.then_n ?_
            refine CT.condT rfl ?_
            refine CT.seq ?_
            -- region 7: word.go:28
            refine CT.region ?_
            refine Wl.q rfl rfl (OpQ.assign rfl) ?_
            refine Wl.nil ?_
            refine PX.then_n ?_
            refine CT.ret ?_
            refine PX.block_r ?_
            refine PX.then_r ?_
            refine PX.then_r ?_
            refine PX.block_r ?_
            refine PX.then_r ?_
            refine PX.ret1 rfl rfl (fun w' hH => ?_)
            exact ⟨ret_b (okW_bad (j := k) (by omega) (by rw [okB, decide_eq_false_iff_not]; omega)).symm, hH.ext⟩
          · -- t26 = False
            have hg26 := of_decide_eq_false hg26
            refine Wl.q rfl rfl (OpQ.move rfl) ?_
            refine Wl.q rfl rfl (OpQ.move rfl) ?_
            refine Wl.q rfl rfl (OpQ.indexSvN un9 rfl rfl (by omega)) ?_
            refine Wl.q rfl rfl (OpQ.sub8 rfl rfl (by omega)) ?_
            refine Wl.q rfl rfl (OpQ.conv rfl (conv_u8_i64 un5 un3 _ (by omega))) ?_
            refine Wl.q rfl rfl (OpQ.move rfl) ?_
            refine Wl.q rfl rfl (OpQ.geq rfl rfl) ?_
            refine Wl.q rfl rfl (OpQ.pickF rfl rfl) ?_
            refine Wl.nil ?_
            refine PX.then_n ?_
            refine CT.cond rfl (fun h34 => ?_) (fun h34 => ?_)
            · -- if t34: then
              have h34 := of_decide_eq_true h34
              refine CT.seq ?_
              -- region 7: word.go:28
              refine CT.region ?_
              refine Wl.q rfl rfl (OpQ.assign rfl) ?_
              refine Wl.nil ?_
              refine PX.then_n ?_
              refine CT.ret ?_
              refine PX.block_r ?_
              refine PX.then_r ?_
              refine PX.then_r ?_
              refine PX.block_r ?_
              refine PX.then_r ?_
              refine PX.ret1 rfl rfl (fun w' hH => ?_)
              exact ⟨ret_b (okW_bad (j := k) (by omega) (by rw [okB, decide_eq_false_iff_not]; omega)).symm, hH.ext⟩
            · -- if t34: else
              have h34 := of_decide_eq_false h34
              refine CT.skip ?_
              refine PX.block_n ?_
              refine PX.then_n ?_
              -- region 8: word.go:26
              refine CT.region ?_
              refine Wl.q rfl rfl (OpQ.add rfl rfl (by omega)) ?_
              refine Wl.q rfl rfl (OpQ.move rfl) ?_
              refine Wl.nil ?_
              have hall2 : ∀ j, j < k + 1 → okB letters (ws.getD j 0) = true := fun j hj => by
                rcases Nat.lt_or_ge j k with h | h
                · exact hall j h
                · rw [show j = k by omega]; exact (by rw [okB, decide_eq_true_eq]; omega)
              exact PX.loop hK0 (k + 1) ⟨by omega, hall2⟩ (by first | omega | (dsimp only; omega)) ⟨rfl, rfl, rfl, rfl, trivial⟩ (HSub.none _)
        · -- if t20: else
          have h20 := of_decide_eq_false h20
          refine CT.exit ?_
          refine PX.then_x ?_
          refine PX.then_x ?_
          refine PX.block_x ?_
          refine PX.then_n ?_
          refine CT.seq ?_
          -- region 9: word.go:31
          refine CT.region ?_
          refine Wl.q rfl rfl (OpQ.assign rfl) ?_
          refine Wl.nil ?_
          refine PX.then_n ?_
          refine CT.ret ?_
          refine PX.ret1 rfl rfl (fun w' hH => ?_)
          exact ⟨ret_b (okW_ok (may_in (by omega) (by omega)) (by omega) (fun j hj => hall j (by omega))).symm, hH.ext⟩

theorem go40 : isGo Try.prog 40 = true := by kernel_rfl
set_option maxRecDepth 100000 in
/-- semigroup/semigroupref01.Valid -/
theorem wvalidR_spec (w : World) (ws : Wd) (hn : ws.length ≤ 9223372036854775807) (letters : Int) : Calls Try.prog 43 #[sv ws, .int .i64 (letters)] w (fun e w' => e = .returned (.bool (okW ws letters)) ∧ Ext [] w w') := by
  refine enter (args := [sv ws, .int .i64 (letters)]) [] 33 Try.func43 rfl rfl rfl ?_
  refine CT.seq ?_
  -- region 0: ref.go:10
  refine CT.region ?_
  refine Wl.q rfl rfl (OpQ.assign rfl) ?_
  refine Wl.nil ?_
  refine PX.then_n ?_
  refine CT.seq ?_
  refine CT.seq ?_
  -- region 1: ref.go:11
  refine CT.region ?_
  refine Wl.q rfl rfl (OpQ.move rfl) ?_
  refine Wl.g rfl rfl (OpG.callV go40 rfl (fun w hH => may_spec w letters)) ?_
  rintro _ _
  refine Wl.q rfl rfl (OpQ.not rfl) ?_
  refine Wl.q rfl rfl (OpQ.move rfl) ?_
  refine Wl.split 9 rfl (fun hg9 => ?_) (fun hg9 => ?_)
  · -- t9 = True
    have hm : mayL letters = false := by simpa using hg9
    refine Wl.skip rfl rfl ?_
    refine Wl.skip rfl rfl ?_
    refine Wl.skip rfl rfl ?_
    refine Wl.q rfl rfl (OpQ.pickT rfl rfl) ?_
    refine Wl.nil ?_
    refine PX.then_n ?_
    refine CT.condT rfl ?_
    refine CT.seq ?_
    -- region 2: ref.go:12
    refine CT.region ?_
    refine Wl.q rfl rfl (OpQ.assign rfl) ?_
    refine Wl.nil ?_
    refine PX.then_n ?_
    refine CT.ret ?_
    refine PX.then_r ?_
    refine PX.ret1 rfl rfl (fun w' hH => ?_)
    exact ⟨ret_b (by rw [okW, hm]; rfl), hH.ext⟩
  · -- t9 = False
    have hm : mayL letters = true := by simpa using hg9
    refine Wl.q rfl rfl (OpQ.move rfl) ?_
    refine Wl.q rfl rfl (OpQ.lenSv un9 rfl) ?_
    refine Wl.q rfl rfl (OpQ.gtr rfl rfl) ?_
    refine Wl.q rfl rfl (OpQ.pickF rfl rfl) ?_
    refine Wl.nil ?_
    refine PX.then_n ?_
    refine CT.cond rfl (fun h13 => ?_) (fun h13 => ?_)
    · -- if t13: then
      have h13 := of_decide_eq_true h13
      refine CT.seq ?_
      -- region 2: ref.go:12
      refine CT.region ?_
      refine Wl.q rfl rfl (OpQ.assign rfl) ?_
      refine Wl.nil ?_
      refine PX.then_n ?_
      refine CT.ret ?_
      refine PX.then_r ?_
      refine PX.ret1 rfl rfl (fun w' hH => ?_)
      exact ⟨ret_b (okW_long (by omega)).symm, hH.ext⟩
    · -- if t13: else
      have h13 := of_decide_eq_false h13
      refine CT.skip ?_
      refine PX.then_n ?_
      refine CT.seq ?_
      refine CT.seq ?_
      -- region 3: ref.go:14
      refine CT.region ?_
      refine Wl.q rfl rfl (OpQ.assign rfl) ?_
      refine Wl.nil ?_
      refine PX.then_n ?_
      refine CT.block ?_
      -- the loop at region 4
      refine CT.loop (ι := Nat) (fun k => k ≤ ws.length ∧ ∀ j, j < k → okB letters (ws.getD j 0) = true) (fun k => [(0, sv ws), (1, .int .i64 (letters)), (5, .int .i64 (k : Int))]) (fun _ => []) (fun k => ws.length - k) 0 ⟨by omega, by omega⟩ ⟨rfl, rfl, rfl, trivial⟩ (HSub.none _) (fun k ⟨hk, hall⟩ K0 hK0 => ?_)
      have hu := u8_lt (ws.getD k 0)
      refine CT.seq ?_
      refine CT.seq ?_
      -- region 4: ref.go:14
      refine CT.region ?_
      refine Wl.q rfl rfl (OpQ.move rfl) ?_
      refine Wl.q rfl rfl (OpQ.move rfl) ?_
      refine Wl.q rfl rfl (OpQ.lenSv un9 rfl) ?_
      refine Wl.q rfl rfl (OpQ.lss rfl rfl) ?_
      refine Wl.nil ?_
      refine PX.then_n ?_
      refine CT.cond rfl (fun h17 => ?_) (fun h17 => ?_)
      · -- if t17: then
        have h17 := of_decide_eq_true h17
        refine CT.skip ?_
        refine PX.then_n ?_
        refine CT.seq ?_
        refine CT.block ?_
        refine CT.seq ?_
        -- region 6: ref.go:15
        refine CT.region ?_
        refine Wl.q rfl rfl (OpQ.move rfl) ?_
        refine Wl.q rfl rfl (OpQ.move rfl) ?_
        refine Wl.q rfl rfl (OpQ.indexSvN un9 rfl rfl (by omega)) ?_
        refine Wl.q rfl rfl (OpQ.lss rfl rfl) ?_
        refine Wl.q rfl rfl (OpQ.move rfl) ?_
        refine Wl.split 24 rfl (fun hg24 => ?_) (fun hg24 => ?_)
        · -- t24 = True
          have hg24 := of_decide_eq_true hg24
          refine Wl.skip rfl rfl ?_
          refine Wl.skip rfl rfl ?_
          refine Wl.skip rfl rfl ?_
          refine Wl.skip rfl rfl ?_
          refine Wl.skip rfl rfl ?_
          refine Wl.skip rfl rfl ?_
          refine Wl.skip rfl rfl ?_
          refine Wl.q rfl rfl (OpQ.pickT rfl rfl) ?_
          refine Wl.nil ?_
          refine PX.then_n ?_
          refine CT.condT rfl ?_
          refine CT.seq ?_
          -- region 7: ref.go:16
          refine CT.region ?_
          refine Wl.q rfl rfl (OpQ.assign rfl) ?_
          refine Wl.nil ?_
          refine PX.then_n ?_
          refine CT.ret ?_
          refine PX.block_r ?_
          refine PX.then_r ?_
          refine PX.then_r ?_
          refine PX.block_r ?_
          refine PX.then_r ?_
          refine PX.ret1 rfl rfl (fun w' hH => ?_)
          exact ⟨ret_b (okW_bad (j := k) (by omega) (by rw [okB, decide_eq_false_iff_not]; omega)).symm, hH.ext⟩
        · -- t24 = False
          have hg24 := of_decide_eq_false hg24
          refine Wl.q rfl rfl (OpQ.move rfl) ?_
          refine Wl.q rfl rfl (OpQ.move rfl) ?_
          refine Wl.q rfl rfl (OpQ.indexSvN un9 rfl rfl (by omega)) ?_
          refine Wl.q rfl rfl (OpQ.sub8 rfl rfl (by omega)) ?_
          refine Wl.q rfl rfl (OpQ.conv rfl (conv_u8_i64 un5 un3 _ (by omega))) ?_
          refine Wl.q rfl rfl (OpQ.move rfl) ?_
          refine Wl.q rfl rfl (OpQ.geq rfl rfl) ?_
          refine Wl.q rfl rfl (OpQ.pickF rfl rfl) ?_
          refine Wl.nil ?_
          refine PX.then_n ?_
          refine CT.cond rfl (fun h32 => ?_) (fun h32 => ?_)
          · -- if t32: then
            have h32 := of_decide_eq_true h32
            refine CT.seq ?_
            -- region 7: ref.go:16
            refine CT.region ?_
            refine Wl.q rfl rfl (OpQ.assign rfl) ?_
            refine Wl.nil ?_
            refine PX.then_n ?_
            refine CT.ret ?_
            refine PX.block_r ?_
            refine PX.then_r ?_
            refine PX.then_r ?_
            refine PX.block_r ?_
            refine PX.then_r ?_
            refine PX.ret1 rfl rfl (fun w' hH => ?_)
            exact ⟨ret_b (okW_bad (j := k) (by omega) (by rw [okB, decide_eq_false_iff_not]; omega)).symm, hH.ext⟩
          · -- if t32: else
            have h32 := of_decide_eq_false h32
            refine CT.skip ?_
            refine PX.block_n ?_
            refine PX.then_n ?_
            -- region 5: ref.go:14
            refine CT.region ?_
            refine Wl.q rfl rfl (OpQ.move rfl) ?_
            refine Wl.q rfl rfl (OpQ.add rfl rfl (by omega)) ?_
            refine Wl.q rfl rfl (OpQ.assign rfl) ?_
            refine Wl.nil ?_
            have hall2 : ∀ j, j < k + 1 → okB letters (ws.getD j 0) = true := fun j hj => by
              rcases Nat.lt_or_ge j k with h | h
              · exact hall j h
              · rw [show j = k by omega]; exact (by rw [okB, decide_eq_true_eq]; omega)
            exact PX.loop hK0 (k + 1) ⟨by omega, hall2⟩ (by first | omega | (dsimp only; omega)) ⟨rfl, rfl, rfl, trivial⟩ (HSub.none _)
      · -- if t17: else
        have h17 := of_decide_eq_false h17
        refine CT.exit ?_
        refine PX.then_x ?_
        refine PX.then_x ?_
        refine PX.block_x ?_
        refine PX.then_n ?_
        refine CT.seq ?_
        -- region 8: ref.go:19
        refine CT.region ?_
        refine Wl.q rfl rfl (OpQ.assign rfl) ?_
        refine Wl.nil ?_
        refine PX.then_n ?_
        refine CT.ret ?_
        refine PX.ret1 rfl rfl (fun w' hH => ?_)
        exact ⟨ret_b (okW_ok hm (by omega) (fun j hj => hall j (by omega))).symm, hH.ext⟩

set_option maxRecDepth 100000 in
/-- semigroup/semigroupmade.Mod -/
theorem mod_spec (w : World) (x n : Int) (hn : -9223372036854775808 ≤ n ∧ n ≤ 9223372036854775807) : Calls Try.prog 16 #[.int .i64 (x), .int .i64 (n)] w (fun e w' => ∃ r : Int, (0 ≤ r ∧ (1 ≤ n → r < n)) ∧ e = .returned (.int .i64 r) ∧ Ext [] w w') := by
  refine enter (args := [.int .i64 (x), .int .i64 (n)]) [] 16 Try.func16 rfl rfl rfl ?_
  refine CT.seq ?_
  -- region 0: made.go:21
  refine CT.region ?_
  refine Wl.q rfl rfl (OpQ.assign rfl) ?_
  refine Wl.nil ?_
  refine PX.then_n ?_
  refine CT.seq ?_
  refine CT.seq ?_
  -- region 1: made.go:22
  refine CT.region ?_
  refine Wl.q rfl rfl (OpQ.move rfl) ?_
  refine Wl.q rfl rfl (OpQ.lss rfl rfl) ?_
  refine Wl.nil ?_
  refine PX.then_n ?_
  refine CT.cond rfl (fun h6 => ?_) (fun h6 => ?_)
  · -- if t6: then
    have h6 := of_decide_eq_true h6
    refine CT.seq ?_
    -- region 2: made.go:23
    refine CT.region ?_
    refine Wl.q rfl rfl (OpQ.assign rfl) ?_
    refine Wl.nil ?_
    refine PX.then_n ?_
    refine CT.ret ?_
    refine PX.then_r ?_
    refine PX.ret1 rfl rfl (fun w' hH => ?_)
    exact ⟨0, ⟨by omega, by omega⟩, rfl, hH.ext⟩
  · -- if t6: else
    have h6 := of_decide_eq_false h6
    have hm := Tp.mod_rng (x := x) (n := n) (by omega)
    refine CT.skip ?_
    refine PX.then_n ?_
    refine CT.seq ?_
    -- region 3: made.go:25
    refine CT.region ?_
    refine Wl.q rfl rfl (OpQ.move rfl) ?_
    refine Wl.q rfl rfl (OpQ.move rfl) ?_
    refine Wl.q rfl rfl (OpQ.rem rfl rfl (by omega)) ?_
    refine Wl.q rfl rfl (OpQ.assign rfl) ?_
    refine Wl.nil ?_
    refine PX.then_n ?_
    refine CT.seq ?_
    refine CT.seq ?_
    -- region 4: made.go:26
    refine CT.region ?_
    refine Wl.q rfl rfl (OpQ.move rfl) ?_
    refine Wl.q rfl rfl (OpQ.lss rfl rfl) ?_
    refine Wl.nil ?_
    refine PX.then_n ?_
    refine CT.cond rfl (fun h11 => ?_) (fun h11 => ?_)
    · -- if t11: then
      have h11 := of_decide_eq_true h11
      -- region 5: made.go:27
      refine CT.region ?_
      refine Wl.q rfl rfl (OpQ.move rfl) ?_
      refine Wl.q rfl rfl (OpQ.move rfl) ?_
      refine Wl.q rfl rfl (OpQ.add rfl rfl (by omega)) ?_
      refine Wl.q rfl rfl (OpQ.assign rfl) ?_
      refine Wl.nil ?_
      refine PX.then_n ?_
      refine CT.seq ?_
      -- region 6: made.go:29
      refine CT.region ?_
      refine Wl.q rfl rfl (OpQ.move rfl) ?_
      refine Wl.q rfl rfl (OpQ.assign rfl) ?_
      refine Wl.nil ?_
      refine PX.then_n ?_
      refine CT.ret ?_
      refine PX.ret1 rfl rfl (fun w' hH => ?_)
      exact ⟨_, ⟨by omega, by omega⟩, rfl, hH.ext⟩
    · -- if t11: else
      have h11 := of_decide_eq_false h11
      refine CT.skip ?_
      refine PX.then_n ?_
      refine CT.seq ?_
      -- region 6: made.go:29
      refine CT.region ?_
      refine Wl.q rfl rfl (OpQ.move rfl) ?_
      refine Wl.q rfl rfl (OpQ.assign rfl) ?_
      refine Wl.nil ?_
      refine PX.then_n ?_
      refine CT.ret ?_
      refine PX.ret1 rfl rfl (fun w' hH => ?_)
      exact ⟨_, ⟨by omega, by omega⟩, rfl, hH.ext⟩

theorem pl55 : placesB Try.prog 55 = some (#[.slice none 0 0, .int .i64 0], [(0, 1), (1, 1)]) := by kernel_rfl
set_option maxRecDepth 100000 in
/-- semigroup/semigroupmade.New -/
theorem new_spec (w : World) (a : Option Addr) (cp : Nat) (l : List Int) (hcp : l.length ≤ cp) : Calls Try.prog 9 #[.slice a l.length cp] w (fun e w' => ∃ i : Nat × Nat, (i.2 ≤ l.length ∧ i.2 ≤ 80) ∧ e = .returned (.pointer (some ⟨i.1, 0, none⟩)) ∧ Post [] [.row 55 2 (vb i.1) 1 [.slice a i.2 cp, .int .i64 ((0 : Nat) : Int)]] w w') := by
  refine enter (args := [.slice a l.length cp]) [] 11 Try.func9 rfl rfl rfl ?_
  refine CT.seq ?_
  -- region 0: made.go:13
  refine CT.region ?_
  refine Wl.q rfl rfl (OpQ.assign rfl) ?_
  refine Wl.nil ?_
  refine PX.then_n ?_
  refine CT.seq ?_
  refine CT.seq ?_
  -- region 1: made.go:14
  refine CT.region ?_
  refine Wl.q rfl rfl (OpQ.move rfl) ?_
  refine Wl.q rfl rfl (OpQ.len un22 rfl) ?_
  refine Wl.q rfl rfl (OpQ.gtr rfl rfl) ?_
  refine Wl.nil ?_
  refine PX.then_n ?_
  refine CT.cond rfl (fun h5 => ?_) (fun h5 => ?_)
  · -- if t5: then
    have h5 := of_decide_eq_true h5
    -- region 2: made.go:15
    refine CT.region ?_
    refine Wl.q rfl rfl (OpQ.move rfl) ?_
    refine Wl.q rfl rfl (OpQ.sliceToN (k := 80) un22 sz3 rfl rfl rfl (by omega)) ?_
    refine Wl.q rfl rfl (OpQ.assign rfl) ?_
    refine Wl.nil ?_
    refine PX.then_n ?_
    refine CT.seq ?_
    -- region 3: made.go:17
    refine CT.region ?_
    refine Wl.q rfl rfl (OpQ.move rfl) ?_
    refine Wl.q rfl rfl (OpQ.build (cells := #[_, .int .i64 0]) pl55 rfl rfl) ?_
    refine Wl.g rfl rfl (OpG.box (size := 2) rfl rfl rfl) ?_
    rintro b10 _
    refine Wl.q rfl rfl (OpQ.assign rfl) ?_
    refine Wl.nil ?_
    refine PX.then_n ?_
    refine CT.ret ?_
    refine PX.ret1 rfl rfl (fun w' hH => ?_)
    exact ⟨(b10, _), ⟨by first | omega | (dsimp only; omega), by first | omega | (dsimp only; omega)⟩, rfl, hH.post⟩
  · -- if t5: else
    have h5 := of_decide_eq_false h5
    refine CT.skip ?_
    refine PX.then_n ?_
    refine CT.seq ?_
    -- region 3: made.go:17
    refine CT.region ?_
    refine Wl.q rfl rfl (OpQ.move rfl) ?_
    refine Wl.q rfl rfl (OpQ.build (cells := #[_, .int .i64 0]) pl55 rfl rfl) ?_
    refine Wl.g rfl rfl (OpG.box (size := 2) rfl rfl rfl) ?_
    rintro b10 _
    refine Wl.q rfl rfl (OpQ.assign rfl) ?_
    refine Wl.nil ?_
    refine PX.then_n ?_
    refine CT.ret ?_
    refine PX.ret1 rfl rfl (fun w' hH => ?_)
    exact ⟨(b10, _), ⟨by first | omega | (dsimp only; omega), by first | omega | (dsimp only; omega)⟩, rfl, hH.post⟩

theorem mixed : Try.prog.follows .mixedOrders = true := by kernel_rfl
theorem fa55_1 : fieldB Try.prog 55 1 = some 1 := by kernel_rfl
theorem sc3 : scalarB Try.prog 3 = some true := by kernel_rfl
theorem fa55_0 : fieldB Try.prog 55 0 = some 0 := by kernel_rfl
theorem sc22 : scalarB Try.prog 22 = some true := by kernel_rfl
theorem go16 : isGo Try.prog 16 = true := by kernel_rfl
set_option maxRecDepth 100000 in
/-- (*semigroup/semigroupmade.Tape).Next -/
theorem next_spec (w : World) (b : Nat) (ta : Option Addr) (tn tc : Nat) (tl : List Int) (htl : tl.length = tn) (htm : tn ≤ 9223372036854775806) (hr : Stays [b] w (fun w => Rd w ta (tl.map zi))) (p : Nat) (hat : p ≤ tn) (hpre : Pre [.row 55 2 (vb b) 1 [.slice ta tn tc, .int .i64 ((p : Nat) : Int)]] w) (n : Int) (hn : -9223372036854775808 ≤ n ∧ n ≤ 9223372036854775807) : Calls Try.prog 10 #[.pointer (some ⟨b, 0, none⟩), .int .i64 (n)] w (fun e w' => ∃ i : Int × Nat, ((0 ≤ i.1 ∧ (1 ≤ n → i.1 < n)) ∧ i.2 ≤ tn) ∧ e = .returned (.int .i64 i.1) ∧ Post [b] [.row 55 2 (vb b) 1 [.slice ta tn tc, .int .i64 ((i.2 : Nat) : Int)]] w w') := by
  have sm : 0 < tl.length → ta.isSome = true := fun h => hr.now.isSome (j := 0) (by rw [List.length_map]; omega)
  refine enterX (args := [.pointer (some ⟨b, 0, none⟩), .int .i64 (n)]) hpre 35 Try.func10 rfl rfl rfl ?_
  refine CT.seq ?_
  -- region 0: made.go:33
  refine CT.region ?_
  refine Wl.q rfl rfl (OpQ.assign rfl) ?_
  refine Wl.nil ?_
  refine PX.then_n ?_
  refine CT.seq ?_
  refine CT.seq ?_
  -- region 1, drawn: made.go:34
  refine CT.draw 10 mixed ?_
  refine RA.q 0 (by kernel_rfl) rfl rfl rfl (.refl _) (OpQ.move rfl) ?_
  refine RA.q 1 (by kernel_rfl) rfl rfl rfl (.refl _) (OpQ.nilCheckP rfl) ?_
  refine RA.q 2 (by kernel_rfl) rfl rfl rfl (.refl _) (OpQ.fieldAddr fa55_1 rfl) ?_
  refine RA.q 3 (by kernel_rfl) rfl rfl rfl (.refl _) (OpQ.loadF (b := b) sc3 rfl (by repeat (first | exact Has.here | apply Has.there)) (by rfl)) ?_
  refine RA.q 4 (by kernel_rfl) rfl rfl rfl (.refl _) (OpQ.move rfl) ?_
  refine RA.q 5 (by kernel_rfl) rfl rfl rfl (.refl _) (OpQ.nilCheckP rfl) ?_
  refine RA.q 6 (by kernel_rfl) rfl rfl rfl (.refl _) (OpQ.fieldAddr fa55_0 rfl) ?_
  refine RA.q 7 (by kernel_rfl) rfl rfl rfl (.refl _) (OpQ.loadF (b := b) sc22 rfl (by repeat (first | exact Has.here | apply Has.there)) (by rfl)) ?_
  refine RA.q 8 (by kernel_rfl) rfl rfl rfl (.refl _) (OpQ.len un22 rfl) ?_
  refine RA.q 9 (by kernel_rfl) rfl rfl rfl (.refl _) (OpQ.geq rfl rfl) ?_
  refine RA.tail ?_
  refine RT.done (by kernel_rfl) ?_
  refine PX.then_n ?_
  refine CT.cond rfl (fun h14 => ?_) (fun h14 => ?_)
  · -- if t14: then
    have h14 := of_decide_eq_true h14
    refine CT.seq ?_
    -- region 2: made.go:35
    refine CT.region ?_
    refine Wl.q rfl rfl (OpQ.assign rfl) ?_
    refine Wl.nil ?_
    refine PX.then_n ?_
    refine CT.ret ?_
    refine PX.then_r ?_
    refine PX.ret1 rfl rfl (fun w' hH => ?_)
    exact ⟨(0, p), ⟨⟨by first | omega | (dsimp only; omega), by first | omega | (dsimp only; omega)⟩, hat⟩, rfl, hH.post⟩
  · -- if t14: else
    have h14 := of_decide_eq_false h14
    refine CT.skip ?_
    refine PX.then_n ?_
    refine CT.seq ?_
    -- region 3: made.go:37
    refine CT.region ?_
    refine Wl.q rfl rfl (OpQ.move rfl) ?_
    refine Wl.q rfl rfl (OpQ.nilCheckP rfl) ?_
    refine Wl.q rfl rfl (OpQ.fieldAddr fa55_1 rfl) ?_
    refine Wl.q rfl rfl (OpQ.loadF (b := b) sc3 rfl (by repeat (first | exact Has.here | apply Has.there)) (by rfl)) ?_
    refine Wl.q rfl rfl (OpQ.add rfl rfl (by omega)) ?_
    refine Wl.know 19 (v' := .int .i64 ((p + 1 : Nat) : Int)) rfl (congrArg (Value.int .i64) (by omega)) ?_
    refine Wl.q rfl rfl (OpQ.nilCheckP rfl) ?_
    refine Wl.q rfl rfl (OpQ.fieldAddr fa55_1 rfl) ?_
    refine Wl.g rfl rfl (OpG.storeRow (a := some ⟨b, 0, none⟩) sz3 rfl rfl rfl (by repeat (first | exact Upd.here | apply Upd.there)) (by simp)) ?_
    rintro _ _
    refine Wl.nil ?_
    refine PX.then_n ?_
    refine CT.seq ?_
    -- region 4, drawn: made.go:38
    refine CT.draw 14 mixed ?_
    refine RA.q 0 (by kernel_rfl) rfl rfl rfl (.refl _) (OpQ.move rfl) ?_
    refine RA.q 1 (by kernel_rfl) rfl rfl rfl (.refl _) (OpQ.nilCheckP rfl) ?_
    refine RA.q 2 (by kernel_rfl) rfl rfl rfl (.refl _) (OpQ.fieldAddr fa55_0 rfl) ?_
    refine RA.q 3 (by kernel_rfl) rfl rfl rfl (.refl _) (OpQ.loadF (b := b) sc22 rfl (by repeat (first | exact Has.here | apply Has.there)) (by rfl)) ?_
    refine RA.q 4 (by kernel_rfl) rfl rfl rfl (.refl _) (OpQ.move rfl) ?_
    refine RA.q 5 (by kernel_rfl) rfl rfl rfl (.refl _) (OpQ.nilCheckP rfl) ?_
    refine RA.q 6 (by kernel_rfl) rfl rfl rfl (.refl _) (OpQ.fieldAddr fa55_1 rfl) ?_
    refine RA.q 7 (by kernel_rfl) rfl rfl rfl (.refl _) (OpQ.loadF (b := b) sc3 rfl (by repeat (first | exact Has.here | apply Has.there)) (by rfl)) ?_
    refine RA.q 8 (by kernel_rfl) rfl rfl rfl (.refl _) (OpQ.sub rfl rfl (by omega)) ?_
    refine RA.know 30 (v' := .int .i64 (p : Int)) rfl (congrArg (Value.int .i64) (by omega)) ?_
    refine RA.q 9 (by kernel_rfl) rfl rfl rfl (.refl _) (OpQ.index1 un22 sz3 rfl rfl (by omega) (sm (by omega))) ?_
    refine RA.q 10 (by kernel_rfl) rfl rfl rfl (.refl _) (OpQ.loadG sc3 rfl (fun w hH => hH.use hr) (getMap zi tl 0 (j := p) (by omega))) ?_
    refine RA.q 11 (by kernel_rfl) rfl rfl rfl (.refl _) (OpQ.move rfl) ?_
    refine RA.f 12 (by kernel_rfl) rfl rfl rfl (OpG.call go16 rfl (fun w hH => (mod_spec w _ n hn).mono fun e w' ⟨r, h1, h2, h3⟩ => ⟨r, h1, h2, hH.ext_nil h3⟩)) (fun _ _ => (.refl _)) ?_
    rintro r34 h34
    refine RA.know 34 (v' := .int .i64 r34) rfl rfl ?_
    refine RA.q 13 (by kernel_rfl) rfl rfl rfl (.refl _) (OpQ.assign rfl) ?_
    refine RA.tail ?_
    refine RT.done (by kernel_rfl) ?_
    refine PX.then_n ?_
    refine CT.ret ?_
    refine PX.ret1 rfl rfl (fun w' hH => ?_)
    exact ⟨(r34, p + 1), ⟨⟨h34.1, h34.2⟩, by first | omega | (dsimp only; omega)⟩, rfl, hH.post⟩

theorem go10 : isGo Try.prog 10 = true := by kernel_rfl
theorem in5 : (Try.prog.info? 5).map (fun i => (i.zero, i.size, i.bytes)) = some (some (.int .u8 0), 1, 1) := by kernel_rfl
set_option maxRecDepth 100000 in
/-- (*semigroup/semigroupmade.Tape).Word -/
theorem word_spec (w : World) (b : Nat) (ta : Option Addr) (tn tc : Nat) (tl : List Int) (htl : tl.length = tn) (htm : tn ≤ 9223372036854775806) (hr : Stays [b] w (fun w => Rd w ta (tl.map zi))) (p : Nat) (hat : p ≤ tn) (hpre : Pre [.row 55 2 (vb b) 1 [.slice ta tn tc, .int .i64 ((p : Nat) : Int)]] w) (letters most : Int) (hle : 1 ≤ letters ∧ letters ≤ 6) (hmo : 0 ≤ most ∧ most ≤ 2000) : Calls Try.prog 12 #[.pointer (some ⟨b, 0, none⟩), .int .i64 (letters), .int .i64 (most)] w (fun e w' => ∃ i : List UInt8 × Nat, ((i.1.length ≤ most ∧ Tl.okW i.1 letters = true) ∧ i.2 ≤ tn) ∧ e = .returned (sv i.1) ∧ Post [b] [.row 55 2 (vb b) 1 [.slice ta tn tc, .int .i64 ((i.2 : Nat) : Int)]] w w') := by
  refine enterX (args := [.pointer (some ⟨b, 0, none⟩), .int .i64 (letters), .int .i64 (most)]) hpre 27 Try.func12 rfl rfl rfl ?_
  refine CT.seq ?_
  -- region 0: made.go:61
  refine CT.region ?_
  refine Wl.q rfl rfl (OpQ.assign rfl) ?_
  refine Wl.nil ?_
  refine PX.then_n ?_
  refine CT.seq ?_
  -- region 1: made.go:62
  refine CT.region ?_
  refine Wl.q rfl rfl (OpQ.assign rfl) ?_
  refine Wl.nil ?_
  refine PX.then_n ?_
  refine CT.seq ?_
  refine CT.seq ?_
  -- region 2: made.go:63
  refine CT.region ?_
  refine Wl.q rfl rfl (OpQ.move rfl) ?_
  refine Wl.q rfl rfl (OpQ.move rfl) ?_
  refine Wl.q rfl rfl (OpQ.add rfl rfl (by omega)) ?_
  refine Wl.g rfl rfl (OpG.callX go10 rfl (.cons .here .nil) (fun _ => (.cons .nil)) (fun w hH hp => next_spec w b ta tn tc tl htl htm (hH.stays hr (.cons .here .nil)) p hat hp (most + 1) (by omega))) ?_
  rintro ⟨r12, p12⟩ h12
  dsimp only at h12
  obtain ⟨⟨h12a, h12b⟩, h12p⟩ := h12
  refine Wl.know 12 (v' := .int .i64 r12) rfl rfl ?_
  refine Wl.q rfl rfl (OpQ.assign rfl) ?_
  refine Wl.nil ?_
  refine PX.then_n ?_
  refine CT.block ?_
  -- the loop at region 3
  refine CT.nilrow 5 1 ?_
  refine CT.loop (ι := Nat × List UInt8 × Nat × Option Addr × Nat) (fun (m, l, p', a', c') => (m : Int) + l.length ≤ most ∧ l.all (Tl.okB letters) = true ∧ p' ≤ tn) (fun (m, l, p', a', c') => [(0, .pointer (some ⟨b, 0, none⟩)), (1, .int .i64 (letters)), (7, .slice a' l.length c'), (8, .int .i64 (m))]) (fun (m, l, p', a', c') => [.row 5 1 (.slice a' l.length c') l.length (l.map bv), .row 55 2 (vb b) 1 [.slice ta tn tc, .int .i64 ((p' : Nat) : Int)]]) (fun (m, l, p', a', c') => m) (r12.toNat, [], p12, none, 0) ⟨by dsimp only [List.length_nil]; omega, rfl, h12p⟩ ⟨rfl, rfl, rfl, (lkV rfl (congrArg (Value.int .i64) (by omega))), trivial⟩ (.keep rfl (.keep rfl .nil)) (fun ⟨m, l, p', a', c'⟩ ⟨hm, hal, hat'⟩ K0 hK0 => ?_)
  dsimp only
  refine CT.seq ?_
  refine CT.seq ?_
  -- region 3: made.go:63
  refine CT.region ?_
  refine Wl.q rfl rfl (OpQ.move rfl) ?_
  refine Wl.q rfl rfl (OpQ.gtr rfl rfl) ?_
  refine Wl.nil ?_
  refine PX.then_n ?_
  refine CT.cond rfl (fun h14 => ?_) (fun h14 => ?_)
  · -- if t14: then
    have h14 := of_decide_eq_true h14
    refine CT.skip ?_
    refine PX.then_n ?_
    refine CT.seq ?_
    refine CT.block ?_
    -- region 5: made.go:64
    refine CT.region ?_
    refine Wl.q rfl rfl (OpQ.move rfl) ?_
    refine Wl.q rfl rfl (OpQ.move rfl) ?_
    refine Wl.q rfl rfl (OpQ.move rfl) ?_
    refine Wl.g rfl rfl (OpG.callX go10 rfl (.cons (.there .here) .nil) (fun _ => (.cons .nil)) (fun w hH hp => next_spec w b ta tn tc tl htl htm (hH.stays hr (.cons (.there .here) .nil)) p' hat' hp (letters) (by omega))) ?_
    rintro ⟨r20, p20⟩ h20
    dsimp only at h20
    obtain ⟨⟨h20a, h20b⟩, h20p⟩ := h20
    refine Wl.know 20 (v' := .int .i64 r20) rfl rfl ?_
    refine Wl.q rfl rfl (OpQ.add rfl rfl (by omega)) ?_
    refine Wl.q rfl rfl (OpQ.conv rfl (conv_i64_u8 un3 un5 _ (by omega))) ?_
    refine Wl.know 22 (v' := bv (UInt8.ofNat (97 + r20).toNat)) rfl (Tl.bv_of (by omega)) ?_
    refine Wl.g rfl rfl (OpG.lit1 un56 in5 rfl rfl rfl) ?_
    rintro b23 _
    refine Wl.g rfl rfl (OpG.append un56 in5 (by rfl) (by decide) rfl rfl (p := 2) rfl (fun w hH => hH.rd .here) ⟨rfl, (by simp [Value.oneCell']), (by omega), (by omega)⟩ (nm := l.length + 1) rfl (all := (l ++ [UInt8.ofNat (97 + r20).toNat]).map bv) (by simp)) ?_
    rintro ⟨a24, c24⟩ h24
    refine Wl.q rfl rfl (OpQ.assign rfl) ?_
    refine Wl.nil ?_
    refine PX.block_n ?_
    refine PX.then_n ?_
    -- region 4: made.go:63
    refine CT.region ?_
    refine Wl.q rfl rfl (OpQ.move rfl) ?_
    refine Wl.q rfl rfl (OpQ.sub rfl rfl (by omega)) ?_
    refine Wl.q rfl rfl (OpQ.assign rfl) ?_
    refine Wl.nil ?_
    refine PX.as (fun _ h => h.take (.cons (.there (.there .here)) (.cons (.there .here) .nil))) ?_
    exact PX.loop hK0 (m - 1, l ++ [UInt8.ofNat (97 + r20).toNat], p20, a24, c24) ⟨by simp; omega, by simp [hal, Tl.okB_of (letters := letters) (r := r20) (by omega) (by omega)], h20p⟩ (show m - 1 < m by omega) ⟨rfl, rfl, (lkV rfl (by simp)), (lkV rfl (congrArg (Value.int .i64) (by omega))), trivial⟩ (.keep (by rw [List.length_append]; rfl) (.keep rfl .nil))
  · -- if t14: else
    have h14 := of_decide_eq_false h14
    refine CT.exit ?_
    refine PX.then_x ?_
    refine PX.then_x ?_
    refine PX.block_x ?_
    refine PX.then_n ?_
    refine CT.seq ?_
    -- region 6: made.go:66
    refine CT.region ?_
    refine Wl.q rfl rfl (OpQ.move rfl) ?_
    refine Wl.q rfl rfl (OpQ.convBS un56 un5 un9 rfl (fun w hH => hH.rd .here)) ?_
    refine Wl.q rfl rfl (OpQ.assign rfl) ?_
    refine Wl.nil ?_
    refine PX.then_n ?_
    refine CT.ret ?_
    refine PX.ret1 rfl rfl (fun w' hH => ?_)
    exact ⟨(l, p'), ⟨⟨by first | omega | (dsimp only; omega), Tl.okW_of (by rw [Tl.mayL, decide_eq_true_eq]; exact hle) (by first | omega | (dsimp only; omega)) hal⟩, hat'⟩, rfl, hH.post.sub (.drop (.keep rfl .nil))⟩

theorem in67 : (Try.prog.info? 67).map (fun i => (i.zero, i.size, i.bytes)) = some (some (.agg #[.bool false, .bool false, .bool false, .bool false, .bool false, .bool false]), 6, 6) := by kernel_rfl
theorem pl67 : placesB Try.prog 67 = some (#[.bool false, .bool false, .bool false, .bool false, .bool false, .bool false], [(0, 1), (1, 1), (2, 1), (3, 1), (4, 1), (5, 1)]) := by kernel_rfl
theorem sz67 : sizeB Try.prog 67 = some 6 := by kernel_rfl
theorem ag67 : isAggB Try.prog 67 = some true := by kernel_rfl
set_option maxRecDepth 100000 in
/-- semigroup/firstorder.fieldsOf -/
theorem fieldsOf_spec (w : World) (op : Int) : Calls Try.prog 33 #[.int .i64 (op)] w (fun e w' => e = .returned (.agg #[.bool (gx op), .bool (gy op), .bool (gl op), .bool (ga op), .bool (gb op), .bool (gk op)]) ∧ Ext [] w w') := by
  refine enter (args := [.int .i64 (op)]) [] 24 Try.func33 rfl rfl rfl ?_
  refine CT.seq ?_
  -- region 0: firstorder.go:19
  refine CT.region ?_
  refine Wl.g rfl rfl (OpG.alloc (zs := [.bool false, .bool false, .bool false, .bool false, .bool false, .bool false]) in67 rfl rfl) ?_
  rintro b2 _
  refine Wl.nil ?_
  refine PX.then_n ?_
  refine CT.seq ?_
  refine CT.seq ?_
  -- region 1: firstorder.go:20
  refine CT.region ?_
  refine Wl.q rfl rfl (OpQ.move rfl) ?_
  refine Wl.nil ?_
  refine PX.then_n ?_
  refine CT.block ?_
  refine CT.seq ?_
  -- region 2: firstorder.go:21
  refine CT.region ?_
  refine Wl.q rfl rfl (OpQ.eql rfl rfl) ?_
  refine Wl.q rfl rfl (OpQ.assign rfl) ?_
  refine Wl.nil ?_
  refine PX.then_n ?_
  refine CT.cond rfl (fun h4 => ?_) (fun h4 => ?_)
  · -- if t4: then
    have h4 := of_decide_eq_true h4
    refine CT.seq ?_
    -- region 3: firstorder.go:22
    refine CT.region ?_
    refine Wl.q rfl rfl (OpQ.build (cells := #[.bool false, .bool false, .bool false, .bool false, .bool false, .bool true]) pl67 rfl rfl) ?_
    refine Wl.g rfl rfl (OpG.storeV (b := b2) sz67 rfl rfl rfl rfl (by repeat (first | exact Upd.here | apply Upd.there))) ?_
    rintro _ _
    refine Wl.nil ?_
    refine PX.then_n ?_
    refine CT.ret ?_
    refine PX.block_r ?_
    refine PX.then_r ?_
    refine PX.retC rfl rfl (by repeat (first | exact Has.here | apply Has.there)) ag67 sz67 (by rfl) (fun w' hH => ?_)
    exact ⟨fd_ret (by first | (rw [gx, decide_eq_true_eq]; omega) | (rw [gx, decide_eq_false_iff_not]; omega)) (by first | (rw [gy, decide_eq_true_eq]; omega) | (rw [gy, decide_eq_false_iff_not]; omega)) (by first | (rw [gl, decide_eq_true_eq]; omega) | (rw [gl, decide_eq_false_iff_not]; omega)) (by first | (rw [ga, decide_eq_true_eq]; omega) | (rw [ga, decide_eq_false_iff_not]; omega)) (by first | (rw [gb, decide_eq_true_eq]; omega) | (rw [gb, decide_eq_false_iff_not]; omega)) (by first | (rw [gk, decide_eq_true_eq]; omega) | (rw [gk, decide_eq_false_iff_not]; omega)), hH.ext⟩
  · -- if t4: else
    have h4 := of_decide_eq_false h4
    refine CT.seq ?_
    -- region 4: firstorder.go:23
    refine CT.region ?_
    refine Wl.q rfl rfl (OpQ.eql rfl rfl) ?_
    refine Wl.q rfl rfl (OpQ.assign rfl) ?_
    refine Wl.nil ?_
    refine PX.then_n ?_
    refine CT.cond rfl (fun h7 => ?_) (fun h7 => ?_)
    · -- if t7: then
      have h7 := of_decide_eq_true h7
      refine CT.seq ?_
      -- region 5: firstorder.go:24
      refine CT.region ?_
      refine Wl.q rfl rfl (OpQ.build (cells := #[.bool true, .bool true, .bool true, .bool false, .bool false, .bool true]) pl67 rfl rfl) ?_
      refine Wl.g rfl rfl (OpG.storeV (b := b2) sz67 rfl rfl rfl rfl (by repeat (first | exact Upd.here | apply Upd.there))) ?_
      rintro _ _
      refine Wl.nil ?_
      refine PX.then_n ?_
      refine CT.ret ?_
      refine PX.block_r ?_
      refine PX.then_r ?_
      refine PX.retC rfl rfl (by repeat (first | exact Has.here | apply Has.there)) ag67 sz67 (by rfl) (fun w' hH => ?_)
      exact ⟨fd_ret (by first | (rw [gx, decide_eq_true_eq]; omega) | (rw [gx, decide_eq_false_iff_not]; omega)) (by first | (rw [gy, decide_eq_true_eq]; omega) | (rw [gy, decide_eq_false_iff_not]; omega)) (by first | (rw [gl, decide_eq_true_eq]; omega) | (rw [gl, decide_eq_false_iff_not]; omega)) (by first | (rw [ga, decide_eq_true_eq]; omega) | (rw [ga, decide_eq_false_iff_not]; omega)) (by first | (rw [gb, decide_eq_true_eq]; omega) | (rw [gb, decide_eq_false_iff_not]; omega)) (by first | (rw [gk, decide_eq_true_eq]; omega) | (rw [gk, decide_eq_false_iff_not]; omega)), hH.ext⟩
    · -- if t7: else
      have h7 := of_decide_eq_false h7
      refine CT.seq ?_
      -- region 6: firstorder.go:25
      refine CT.region ?_
      refine Wl.q rfl rfl (OpQ.eql rfl rfl) ?_
      refine Wl.q rfl rfl (OpQ.assign rfl) ?_
      refine Wl.nil ?_
      refine PX.then_n ?_
      refine CT.cond rfl (fun h10 => ?_) (fun h10 => ?_)
      · -- if t10: then
        have h10 := of_decide_eq_true h10
        refine CT.seq ?_
        -- region 7: firstorder.go:26
        refine CT.region ?_
        refine Wl.q rfl rfl (OpQ.build (cells := #[.bool true, .bool true, .bool false, .bool false, .bool false, .bool true]) pl67 rfl rfl) ?_
        refine Wl.g rfl rfl (OpG.storeV (b := b2) sz67 rfl rfl rfl rfl (by repeat (first | exact Upd.here | apply Upd.there))) ?_
        rintro _ _
        refine Wl.nil ?_
        refine PX.then_n ?_
        refine CT.ret ?_
        refine PX.block_r ?_
        refine PX.then_r ?_
        refine PX.retC rfl rfl (by repeat (first | exact Has.here | apply Has.there)) ag67 sz67 (by rfl) (fun w' hH => ?_)
        exact ⟨fd_ret (by first | (rw [gx, decide_eq_true_eq]; omega) | (rw [gx, decide_eq_false_iff_not]; omega)) (by first | (rw [gy, decide_eq_true_eq]; omega) | (rw [gy, decide_eq_false_iff_not]; omega)) (by first | (rw [gl, decide_eq_true_eq]; omega) | (rw [gl, decide_eq_false_iff_not]; omega)) (by first | (rw [ga, decide_eq_true_eq]; omega) | (rw [ga, decide_eq_false_iff_not]; omega)) (by first | (rw [gb, decide_eq_true_eq]; omega) | (rw [gb, decide_eq_false_iff_not]; omega)) (by first | (rw [gk, decide_eq_true_eq]; omega) | (rw [gk, decide_eq_false_iff_not]; omega)), hH.ext⟩
      · -- if t10: else
        have h10 := of_decide_eq_false h10
        refine CT.seq ?_
        -- region 8: firstorder.go:27
        refine CT.region ?_
        refine Wl.q rfl rfl (OpQ.eql rfl rfl) ?_
        refine Wl.q rfl rfl (OpQ.assign rfl) ?_
        refine Wl.nil ?_
        refine PX.then_n ?_
        refine CT.cond rfl (fun h13 => ?_) (fun h13 => ?_)
        · -- if t13: then
          have h13 := of_decide_eq_true h13
          refine CT.seq ?_
          -- region 9: firstorder.go:28
          refine CT.region ?_
          refine Wl.q rfl rfl (OpQ.build (cells := #[.bool false, .bool false, .bool false, .bool true, .bool false, .bool true]) pl67 rfl rfl) ?_
          refine Wl.g rfl rfl (OpG.storeV (b := b2) sz67 rfl rfl rfl rfl (by repeat (first | exact Upd.here | apply Upd.there))) ?_
          rintro _ _
          refine Wl.nil ?_
          refine PX.then_n ?_
          refine CT.ret ?_
          refine PX.block_r ?_
          refine PX.then_r ?_
          refine PX.retC rfl rfl (by repeat (first | exact Has.here | apply Has.there)) ag67 sz67 (by rfl) (fun w' hH => ?_)
          exact ⟨fd_ret (by first | (rw [gx, decide_eq_true_eq]; omega) | (rw [gx, decide_eq_false_iff_not]; omega)) (by first | (rw [gy, decide_eq_true_eq]; omega) | (rw [gy, decide_eq_false_iff_not]; omega)) (by first | (rw [gl, decide_eq_true_eq]; omega) | (rw [gl, decide_eq_false_iff_not]; omega)) (by first | (rw [ga, decide_eq_true_eq]; omega) | (rw [ga, decide_eq_false_iff_not]; omega)) (by first | (rw [gb, decide_eq_true_eq]; omega) | (rw [gb, decide_eq_false_iff_not]; omega)) (by first | (rw [gk, decide_eq_true_eq]; omega) | (rw [gk, decide_eq_false_iff_not]; omega)), hH.ext⟩
        · -- if t13: else
          have h13 := of_decide_eq_false h13
          refine CT.seq ?_
          refine CT.seq ?_
          -- region 10: firstorder.go:29
          refine CT.region ?_
          refine Wl.q rfl rfl (OpQ.eql rfl rfl) ?_
          refine Wl.q rfl rfl (OpQ.assign rfl) ?_
          refine Wl.nil ?_
          refine PX.then_n ?_
          refine CT.cond rfl (fun h16 => ?_) (fun h16 => ?_)
          · -- if t16: then
            have h16 := of_decide_eq_true h16
            refine CT.skip ?_
            refine PX.then_n ?_
            refine CT.cond rfl (fun h16 => ?_) (fun h16 => ?_)
            · -- if t16: then
              have h16 := of_decide_eq_true h16
              refine CT.seq ?_
              -- region 12: firstorder.go:30
              refine CT.region ?_
              refine Wl.q rfl rfl (OpQ.build (cells := #[.bool false, .bool false, .bool false, .bool true, .bool true, .bool true]) pl67 rfl rfl) ?_
              refine Wl.g rfl rfl (OpG.storeV (b := b2) sz67 rfl rfl rfl rfl (by repeat (first | exact Upd.here | apply Upd.there))) ?_
              rintro _ _
              refine Wl.nil ?_
              refine PX.then_n ?_
              refine CT.ret ?_
              refine PX.block_r ?_
              refine PX.then_r ?_
              refine PX.retC rfl rfl (by repeat (first | exact Has.here | apply Has.there)) ag67 sz67 (by rfl) (fun w' hH => ?_)
              exact ⟨fd_ret (by first | (rw [gx, decide_eq_true_eq]; omega) | (rw [gx, decide_eq_false_iff_not]; omega)) (by first | (rw [gy, decide_eq_true_eq]; omega) | (rw [gy, decide_eq_false_iff_not]; omega)) (by first | (rw [gl, decide_eq_true_eq]; omega) | (rw [gl, decide_eq_false_iff_not]; omega)) (by first | (rw [ga, decide_eq_true_eq]; omega) | (rw [ga, decide_eq_false_iff_not]; omega)) (by first | (rw [gb, decide_eq_true_eq]; omega) | (rw [gb, decide_eq_false_iff_not]; omega)) (by first | (rw [gk, decide_eq_true_eq]; omega) | (rw [gk, decide_eq_false_iff_not]; omega)), hH.ext⟩
            · -- if t16: else
              have h16 := of_decide_eq_false h16
              refine CT.seq ?_
              -- region 13: firstorder.go:31
              refine CT.region ?_
              refine Wl.q rfl rfl (OpQ.eql rfl rfl) ?_
              refine Wl.q rfl rfl (OpQ.assign rfl) ?_
              refine Wl.nil ?_
              refine PX.then_n ?_
              refine CT.cond rfl (fun h20 => ?_) (fun h20 => ?_)
              · -- if t20: then
                have h20 := of_decide_eq_true h20
                refine CT.seq ?_
                -- region 14: firstorder.go:32
                refine CT.region ?_
                refine Wl.q rfl rfl (OpQ.build (cells := #[.bool true, .bool false, .bool false, .bool true, .bool false, .bool true]) pl67 rfl rfl) ?_
                refine Wl.g rfl rfl (OpG.storeV (b := b2) sz67 rfl rfl rfl rfl (by repeat (first | exact Upd.here | apply Upd.there))) ?_
                rintro _ _
                refine Wl.nil ?_
                refine PX.then_n ?_
                refine CT.ret ?_
                refine PX.block_r ?_
                refine PX.then_r ?_
                refine PX.retC rfl rfl (by repeat (first | exact Has.here | apply Has.there)) ag67 sz67 (by rfl) (fun w' hH => ?_)
                exact ⟨fd_ret (by first | (rw [gx, decide_eq_true_eq]; omega) | (rw [gx, decide_eq_false_iff_not]; omega)) (by first | (rw [gy, decide_eq_true_eq]; omega) | (rw [gy, decide_eq_false_iff_not]; omega)) (by first | (rw [gl, decide_eq_true_eq]; omega) | (rw [gl, decide_eq_false_iff_not]; omega)) (by first | (rw [ga, decide_eq_true_eq]; omega) | (rw [ga, decide_eq_false_iff_not]; omega)) (by first | (rw [gb, decide_eq_true_eq]; omega) | (rw [gb, decide_eq_false_iff_not]; omega)) (by first | (rw [gk, decide_eq_true_eq]; omega) | (rw [gk, decide_eq_false_iff_not]; omega)), hH.ext⟩
              · -- if t20: else
                have h20 := of_decide_eq_false h20
                refine CT.skip ?_
                refine PX.block_n ?_
                refine PX.then_n ?_
                refine CT.seq ?_
                -- region 15: firstorder.go:34
                refine CT.region ?_
                refine Wl.q rfl rfl (OpQ.build (cells := #[.bool false, .bool false, .bool false, .bool false, .bool false, .bool false]) pl67 rfl rfl) ?_
                refine Wl.g rfl rfl (OpG.storeV (b := b2) sz67 rfl rfl rfl rfl (by repeat (first | exact Upd.here | apply Upd.there))) ?_
                rintro _ _
                refine Wl.nil ?_
                refine PX.then_n ?_
                refine CT.ret ?_
                refine PX.retC rfl rfl (by repeat (first | exact Has.here | apply Has.there)) ag67 sz67 (by rfl) (fun w' hH => ?_)
                exact ⟨fd_ret (by first | (rw [gx, decide_eq_true_eq]; omega) | (rw [gx, decide_eq_false_iff_not]; omega)) (by first | (rw [gy, decide_eq_true_eq]; omega) | (rw [gy, decide_eq_false_iff_not]; omega)) (by first | (rw [gl, decide_eq_true_eq]; omega) | (rw [gl, decide_eq_false_iff_not]; omega)) (by first | (rw [ga, decide_eq_true_eq]; omega) | (rw [ga, decide_eq_false_iff_not]; omega)) (by first | (rw [gb, decide_eq_true_eq]; omega) | (rw [gb, decide_eq_false_iff_not]; omega)) (by first | (rw [gk, decide_eq_true_eq]; omega) | (rw [gk, decide_eq_false_iff_not]; omega)), hH.ext⟩
          · -- if t16: else
            have h16 := of_decide_eq_false h16
            -- region 11: firstorder.go:29
            refine CT.region ?_
            refine Wl.q rfl rfl (OpQ.eql rfl rfl) ?_
            refine Wl.q rfl rfl (OpQ.assign rfl) ?_
            refine Wl.nil ?_
            refine PX.then_n ?_
            refine CT.cond rfl (fun h16 => ?_) (fun h16 => ?_)
            · -- if t16: then
              have h16 := of_decide_eq_true h16
              refine CT.seq ?_
              -- region 12: firstorder.go:30
              refine CT.region ?_
              refine Wl.q rfl rfl (OpQ.build (cells := #[.bool false, .bool false, .bool false, .bool true, .bool true, .bool true]) pl67 rfl rfl) ?_
              refine Wl.g rfl rfl (OpG.storeV (b := b2) sz67 rfl rfl rfl rfl (by repeat (first | exact Upd.here | apply Upd.there))) ?_
              rintro _ _
              refine Wl.nil ?_
              refine PX.then_n ?_
              refine CT.ret ?_
              refine PX.block_r ?_
              refine PX.then_r ?_
              refine PX.retC rfl rfl (by repeat (first | exact Has.here | apply Has.there)) ag67 sz67 (by rfl) (fun w' hH => ?_)
              exact ⟨fd_ret (by first | (rw [gx, decide_eq_true_eq]; omega) | (rw [gx, decide_eq_false_iff_not]; omega)) (by first | (rw [gy, decide_eq_true_eq]; omega) | (rw [gy, decide_eq_false_iff_not]; omega)) (by first | (rw [gl, decide_eq_true_eq]; omega) | (rw [gl, decide_eq_false_iff_not]; omega)) (by first | (rw [ga, decide_eq_true_eq]; omega) | (rw [ga, decide_eq_false_iff_not]; omega)) (by first | (rw [gb, decide_eq_true_eq]; omega) | (rw [gb, decide_eq_false_iff_not]; omega)) (by first | (rw [gk, decide_eq_true_eq]; omega) | (rw [gk, decide_eq_false_iff_not]; omega)), hH.ext⟩
            · -- if t16: else
              have h16 := of_decide_eq_false h16
              refine CT.seq ?_
              -- region 13: firstorder.go:31
              refine CT.region ?_
              refine Wl.q rfl rfl (OpQ.eql rfl rfl) ?_
              refine Wl.q rfl rfl (OpQ.assign rfl) ?_
              refine Wl.nil ?_
              refine PX.then_n ?_
              refine CT.cond rfl (fun h20 => ?_) (fun h20 => ?_)
              · -- if t20: then
                have h20 := of_decide_eq_true h20
                refine CT.seq ?_
                -- region 14: firstorder.go:32
                refine CT.region ?_
                refine Wl.q rfl rfl (OpQ.build (cells := #[.bool true, .bool false, .bool false, .bool true, .bool false, .bool true]) pl67 rfl rfl) ?_
                refine Wl.g rfl rfl (OpG.storeV (b := b2) sz67 rfl rfl rfl rfl (by repeat (first | exact Upd.here | apply Upd.there))) ?_
                rintro _ _
                refine Wl.nil ?_
                refine PX.then_n ?_
                refine CT.ret ?_
                refine PX.block_r ?_
                refine PX.then_r ?_
                refine PX.retC rfl rfl (by repeat (first | exact Has.here | apply Has.there)) ag67 sz67 (by rfl) (fun w' hH => ?_)
                exact ⟨fd_ret (by first | (rw [gx, decide_eq_true_eq]; omega) | (rw [gx, decide_eq_false_iff_not]; omega)) (by first | (rw [gy, decide_eq_true_eq]; omega) | (rw [gy, decide_eq_false_iff_not]; omega)) (by first | (rw [gl, decide_eq_true_eq]; omega) | (rw [gl, decide_eq_false_iff_not]; omega)) (by first | (rw [ga, decide_eq_true_eq]; omega) | (rw [ga, decide_eq_false_iff_not]; omega)) (by first | (rw [gb, decide_eq_true_eq]; omega) | (rw [gb, decide_eq_false_iff_not]; omega)) (by first | (rw [gk, decide_eq_true_eq]; omega) | (rw [gk, decide_eq_false_iff_not]; omega)), hH.ext⟩
              · -- if t20: else
                have h20 := of_decide_eq_false h20
                refine CT.skip ?_
                refine PX.block_n ?_
                refine PX.then_n ?_
                refine CT.seq ?_
                -- region 15: firstorder.go:34
                refine CT.region ?_
                refine Wl.q rfl rfl (OpQ.build (cells := #[.bool false, .bool false, .bool false, .bool false, .bool false, .bool false]) pl67 rfl rfl) ?_
                refine Wl.g rfl rfl (OpG.storeV (b := b2) sz67 rfl rfl rfl rfl (by repeat (first | exact Upd.here | apply Upd.there))) ?_
                rintro _ _
                refine Wl.nil ?_
                refine PX.then_n ?_
                refine CT.ret ?_
                refine PX.retC rfl rfl (by repeat (first | exact Has.here | apply Has.there)) ag67 sz67 (by rfl) (fun w' hH => ?_)
                exact ⟨fd_ret (by first | (rw [gx, decide_eq_true_eq]; omega) | (rw [gx, decide_eq_false_iff_not]; omega)) (by first | (rw [gy, decide_eq_true_eq]; omega) | (rw [gy, decide_eq_false_iff_not]; omega)) (by first | (rw [gl, decide_eq_true_eq]; omega) | (rw [gl, decide_eq_false_iff_not]; omega)) (by first | (rw [ga, decide_eq_true_eq]; omega) | (rw [ga, decide_eq_false_iff_not]; omega)) (by first | (rw [gb, decide_eq_true_eq]; omega) | (rw [gb, decide_eq_false_iff_not]; omega)) (by first | (rw [gk, decide_eq_true_eq]; omega) | (rw [gk, decide_eq_false_iff_not]; omega)), hH.ext⟩

set_option maxRecDepth 100000 in
/-- semigroup/firstorder.validField -/
theorem validField_spec (w : World) (v n : Int) (need : Bool) : Calls Try.prog 50 #[.int .i64 (v), .int .i64 (n), .bool need] w (fun e w' => e = .returned (.bool (vf v n need)) ∧ Ext [] w w') := by
  refine enter (args := [.int .i64 (v), .int .i64 (n), .bool need]) [] 17 Try.func50 rfl rfl rfl ?_
  refine CT.seq ?_
  -- region 0: firstorder.go:61
  refine CT.region ?_
  refine Wl.q rfl rfl (OpQ.assign rfl) ?_
  refine Wl.nil ?_
  refine PX.then_n ?_
  refine CT.seq ?_
  refine CT.seq ?_
  -- region 1: firstorder.go:62
  refine CT.region ?_
  refine Wl.q rfl rfl (OpQ.move rfl) ?_
  refine Wl.nil ?_
  refine PX.then_n ?_
  refine CT.cond rfl (fun h7 => ?_) (fun h7 => ?_)
  · -- if t7: then
    subst h7
    rw [vf_t]
    refine CT.seq ?_
    -- region 2: firstorder.go:63
    refine CT.region ?_
    refine Wl.q rfl rfl (OpQ.move rfl) ?_
    refine Wl.q rfl rfl (OpQ.geq rfl rfl) ?_
    refine Wl.q rfl rfl (OpQ.move rfl) ?_
    refine Wl.split 10 rfl (fun hg10 => ?_) (fun hg10 => ?_)
    · -- t10 = True
      have hg10 := of_decide_eq_true hg10
      refine Wl.q rfl rfl (OpQ.move rfl) ?_
      refine Wl.q rfl rfl (OpQ.move rfl) ?_
      refine Wl.q rfl rfl (OpQ.lss rfl rfl) ?_
      refine Wl.q rfl rfl (OpQ.pickT rfl rfl) ?_
      refine Wl.q rfl rfl (OpQ.assign rfl) ?_
      refine Wl.nil ?_
      refine PX.then_n ?_
      refine CT.ret ?_
      refine PX.then_r ?_
      refine PX.ret1 rfl rfl (fun w' hH => ?_)
      exact ⟨Tl.ret_b (by rw [decide_eq_decide]; omega), hH.ext⟩
    · -- t10 = False
      have hg10 := of_decide_eq_false hg10
      refine Wl.skip rfl rfl ?_
      refine Wl.skip rfl rfl ?_
      refine Wl.skip rfl rfl ?_
      refine Wl.q rfl rfl (OpQ.pickF rfl rfl) ?_
      refine Wl.q rfl rfl (OpQ.assign rfl) ?_
      refine Wl.nil ?_
      refine PX.then_n ?_
      refine CT.ret ?_
      refine PX.then_r ?_
      refine PX.ret1 rfl rfl (fun w' hH => ?_)
      exact ⟨Tl.ret_b (by rw [eq_comm, decide_eq_false_iff_not]; omega), hH.ext⟩
  · -- if t7: else
    subst h7
    rw [vf_f]
    refine CT.skip ?_
    refine PX.then_n ?_
    refine CT.seq ?_
    -- region 3: firstorder.go:65
    refine CT.region ?_
    refine Wl.q rfl rfl (OpQ.move rfl) ?_
    refine Wl.q rfl rfl (OpQ.eql rfl rfl) ?_
    refine Wl.q rfl rfl (OpQ.assign rfl) ?_
    refine Wl.nil ?_
    refine PX.then_n ?_
    refine CT.ret ?_
    refine PX.ret1 rfl rfl (fun w' hH => ?_)
    exact ⟨rfl, hH.ext⟩

set_option maxRecDepth 100000 in
/-- semigroup/semigroupref38.refers -/
theorem refers_spec (w : World) (op : Int) : Calls Try.prog 41 #[.int .i64 (op)] w (fun e w' => e = .returned (.tuple #[.int .i64 (rn op), .bool (gx op), .bool (gy op), .bool (gl op)]) ∧ Ext [] w w') := by
  refine enter (args := [.int .i64 (op)]) [] 18 Try.func41 rfl rfl rfl ?_
  refine CT.seq ?_
  -- region 0: ref.go:10
  refine CT.region ?_
  refine Wl.q rfl rfl (OpQ.assign rfl) ?_
  refine Wl.q rfl rfl (OpQ.assign rfl) ?_
  refine Wl.q rfl rfl (OpQ.assign rfl) ?_
  refine Wl.q rfl rfl (OpQ.assign rfl) ?_
  refine Wl.nil ?_
  refine PX.then_n ?_
  refine CT.seq ?_
  refine CT.seq ?_
  -- region 1: ref.go:11
  refine CT.region ?_
  refine Wl.q rfl rfl (OpQ.move rfl) ?_
  refine Wl.nil ?_
  refine PX.then_n ?_
  refine CT.block ?_
  refine CT.seq ?_
  -- region 2: ref.go:12
  refine CT.region ?_
  refine Wl.q rfl rfl (OpQ.eql rfl rfl) ?_
  refine Wl.q rfl rfl (OpQ.assign rfl) ?_
  refine Wl.nil ?_
  refine PX.then_n ?_
  refine CT.cond rfl (fun h7 => ?_) (fun h7 => ?_)
  · -- if t7: then
    have h7 := of_decide_eq_true h7
    refine CT.seq ?_
    -- region 3: ref.go:13
    refine CT.region ?_
    refine Wl.q rfl rfl (OpQ.assign rfl) ?_
    refine Wl.q rfl rfl (OpQ.assign rfl) ?_
    refine Wl.q rfl rfl (OpQ.assign rfl) ?_
    refine Wl.q rfl rfl (OpQ.assign rfl) ?_
    refine Wl.nil ?_
    refine PX.then_n ?_
    refine CT.ret ?_
    refine PX.block_r ?_
    refine PX.then_r ?_
    refine PX.ret4 rfl rfl rfl rfl rfl (fun w' hH => ?_)
    exact ⟨rf_ret (by unfold rn; split <;> first | omega | (split <;> omega)) (by first | (rw [gx, decide_eq_true_eq]; omega) | (rw [gx, decide_eq_false_iff_not]; omega)) (by first | (rw [gy, decide_eq_true_eq]; omega) | (rw [gy, decide_eq_false_iff_not]; omega)) (by first | (rw [gl, decide_eq_true_eq]; omega) | (rw [gl, decide_eq_false_iff_not]; omega)), hH.ext⟩
  · -- if t7: else
    have h7 := of_decide_eq_false h7
    refine CT.seq ?_
    -- region 4: ref.go:14
    refine CT.region ?_
    refine Wl.q rfl rfl (OpQ.eql rfl rfl) ?_
    refine Wl.q rfl rfl (OpQ.assign rfl) ?_
    refine Wl.nil ?_
    refine PX.then_n ?_
    refine CT.cond rfl (fun h9 => ?_) (fun h9 => ?_)
    · -- if t9: then
      have h9 := of_decide_eq_true h9
      refine CT.seq ?_
      -- region 5: ref.go:15
      refine CT.region ?_
      refine Wl.q rfl rfl (OpQ.assign rfl) ?_
      refine Wl.q rfl rfl (OpQ.assign rfl) ?_
      refine Wl.q rfl rfl (OpQ.assign rfl) ?_
      refine Wl.q rfl rfl (OpQ.assign rfl) ?_
      refine Wl.nil ?_
      refine PX.then_n ?_
      refine CT.ret ?_
      refine PX.block_r ?_
      refine PX.then_r ?_
      refine PX.ret4 rfl rfl rfl rfl rfl (fun w' hH => ?_)
      exact ⟨rf_ret (by unfold rn; split <;> first | omega | (split <;> omega)) (by first | (rw [gx, decide_eq_true_eq]; omega) | (rw [gx, decide_eq_false_iff_not]; omega)) (by first | (rw [gy, decide_eq_true_eq]; omega) | (rw [gy, decide_eq_false_iff_not]; omega)) (by first | (rw [gl, decide_eq_true_eq]; omega) | (rw [gl, decide_eq_false_iff_not]; omega)), hH.ext⟩
    · -- if t9: else
      have h9 := of_decide_eq_false h9
      refine CT.seq ?_
      -- region 6: ref.go:16
      refine CT.region ?_
      refine Wl.q rfl rfl (OpQ.eql rfl rfl) ?_
      refine Wl.q rfl rfl (OpQ.assign rfl) ?_
      refine Wl.nil ?_
      refine PX.then_n ?_
      refine CT.cond rfl (fun h11 => ?_) (fun h11 => ?_)
      · -- if t11: then
        have h11 := of_decide_eq_true h11
        refine CT.seq ?_
        -- region 7: ref.go:17
        refine CT.region ?_
        refine Wl.q rfl rfl (OpQ.assign rfl) ?_
        refine Wl.q rfl rfl (OpQ.assign rfl) ?_
        refine Wl.q rfl rfl (OpQ.assign rfl) ?_
        refine Wl.q rfl rfl (OpQ.assign rfl) ?_
        refine Wl.nil ?_
        refine PX.then_n ?_
        refine CT.ret ?_
        refine PX.block_r ?_
        refine PX.then_r ?_
        refine PX.ret4 rfl rfl rfl rfl rfl (fun w' hH => ?_)
        exact ⟨rf_ret (by unfold rn; split <;> first | omega | (split <;> omega)) (by first | (rw [gx, decide_eq_true_eq]; omega) | (rw [gx, decide_eq_false_iff_not]; omega)) (by first | (rw [gy, decide_eq_true_eq]; omega) | (rw [gy, decide_eq_false_iff_not]; omega)) (by first | (rw [gl, decide_eq_true_eq]; omega) | (rw [gl, decide_eq_false_iff_not]; omega)), hH.ext⟩
      · -- if t11: else
        have h11 := of_decide_eq_false h11
        refine CT.seq ?_
        refine CT.seq ?_
        -- region 8: ref.go:18
        refine CT.region ?_
        refine Wl.q rfl rfl (OpQ.eql rfl rfl) ?_
        refine Wl.q rfl rfl (OpQ.assign rfl) ?_
        refine Wl.nil ?_
        refine PX.then_n ?_
        refine CT.cond rfl (fun h13 => ?_) (fun h13 => ?_)
        · -- if t13: then
          have h13 := of_decide_eq_true h13
          refine CT.skip ?_
          refine PX.then_n ?_
          refine CT.cond rfl (fun h13 => ?_) (fun h13 => ?_)
          · -- if t13: then
            have h13 := of_decide_eq_true h13
            refine CT.seq ?_
            -- region 10: ref.go:19
            refine CT.region ?_
            refine Wl.q rfl rfl (OpQ.assign rfl) ?_
            refine Wl.q rfl rfl (OpQ.assign rfl) ?_
            refine Wl.q rfl rfl (OpQ.assign rfl) ?_
            refine Wl.q rfl rfl (OpQ.assign rfl) ?_
            refine Wl.nil ?_
            refine PX.then_n ?_
            refine CT.ret ?_
            refine PX.block_r ?_
            refine PX.then_r ?_
            refine PX.ret4 rfl rfl rfl rfl rfl (fun w' hH => ?_)
            exact ⟨rf_ret (by unfold rn; split <;> first | omega | (split <;> omega)) (by first | (rw [gx, decide_eq_true_eq]; omega) | (rw [gx, decide_eq_false_iff_not]; omega)) (by first | (rw [gy, decide_eq_true_eq]; omega) | (rw [gy, decide_eq_false_iff_not]; omega)) (by first | (rw [gl, decide_eq_true_eq]; omega) | (rw [gl, decide_eq_false_iff_not]; omega)), hH.ext⟩
          · -- if t13: else
            have h13 := of_decide_eq_false h13
            refine CT.seq ?_
            -- region 11: ref.go:20
            refine CT.region ?_
            refine Wl.q rfl rfl (OpQ.eql rfl rfl) ?_
            refine Wl.q rfl rfl (OpQ.assign rfl) ?_
            refine Wl.nil ?_
            refine PX.then_n ?_
            refine CT.cond rfl (fun h16 => ?_) (fun h16 => ?_)
            · -- if t16: then
              have h16 := of_decide_eq_true h16
              refine CT.seq ?_
              -- region 12: ref.go:21
              refine CT.region ?_
              refine Wl.q rfl rfl (OpQ.assign rfl) ?_
              refine Wl.q rfl rfl (OpQ.assign rfl) ?_
              refine Wl.q rfl rfl (OpQ.assign rfl) ?_
              refine Wl.q rfl rfl (OpQ.assign rfl) ?_
              refine Wl.nil ?_
              refine PX.then_n ?_
              refine CT.ret ?_
              refine PX.block_r ?_
              refine PX.then_r ?_
              refine PX.ret4 rfl rfl rfl rfl rfl (fun w' hH => ?_)
              exact ⟨rf_ret (by unfold rn; split <;> first | omega | (split <;> omega)) (by first | (rw [gx, decide_eq_true_eq]; omega) | (rw [gx, decide_eq_false_iff_not]; omega)) (by first | (rw [gy, decide_eq_true_eq]; omega) | (rw [gy, decide_eq_false_iff_not]; omega)) (by first | (rw [gl, decide_eq_true_eq]; omega) | (rw [gl, decide_eq_false_iff_not]; omega)), hH.ext⟩
            · -- if t16: else
              have h16 := of_decide_eq_false h16
              refine CT.skip ?_
              refine PX.block_n ?_
              refine PX.then_n ?_
              refine CT.seq ?_
              -- region 13: ref.go:23
              refine CT.region ?_
              refine Wl.q rfl rfl (OpQ.assign rfl) ?_
              refine Wl.q rfl rfl (OpQ.assign rfl) ?_
              refine Wl.q rfl rfl (OpQ.assign rfl) ?_
              refine Wl.q rfl rfl (OpQ.assign rfl) ?_
              refine Wl.nil ?_
              refine PX.then_n ?_
              refine CT.ret ?_
              refine PX.ret4 rfl rfl rfl rfl rfl (fun w' hH => ?_)
              exact ⟨rf_ret (by unfold rn; split <;> first | omega | (split <;> omega)) (by first | (rw [gx, decide_eq_true_eq]; omega) | (rw [gx, decide_eq_false_iff_not]; omega)) (by first | (rw [gy, decide_eq_true_eq]; omega) | (rw [gy, decide_eq_false_iff_not]; omega)) (by first | (rw [gl, decide_eq_true_eq]; omega) | (rw [gl, decide_eq_false_iff_not]; omega)), hH.ext⟩
        · -- if t13: else
          have h13 := of_decide_eq_false h13
          -- region 9: ref.go:18
          refine CT.region ?_
          refine Wl.q rfl rfl (OpQ.eql rfl rfl) ?_
          refine Wl.q rfl rfl (OpQ.assign rfl) ?_
          refine Wl.nil ?_
          refine PX.then_n ?_
          refine CT.cond rfl (fun h13 => ?_) (fun h13 => ?_)
          · -- if t13: then
            have h13 := of_decide_eq_true h13
            refine CT.seq ?_
            -- region 10: ref.go:19
            refine CT.region ?_
            refine Wl.q rfl rfl (OpQ.assign rfl) ?_
            refine Wl.q rfl rfl (OpQ.assign rfl) ?_
            refine Wl.q rfl rfl (OpQ.assign rfl) ?_
            refine Wl.q rfl rfl (OpQ.assign rfl) ?_
            refine Wl.nil ?_
            refine PX.then_n ?_
            refine CT.ret ?_
            refine PX.block_r ?_
            refine PX.then_r ?_
            refine PX.ret4 rfl rfl rfl rfl rfl (fun w' hH => ?_)
            exact ⟨rf_ret (by unfold rn; split <;> first | omega | (split <;> omega)) (by first | (rw [gx, decide_eq_true_eq]; omega) | (rw [gx, decide_eq_false_iff_not]; omega)) (by first | (rw [gy, decide_eq_true_eq]; omega) | (rw [gy, decide_eq_false_iff_not]; omega)) (by first | (rw [gl, decide_eq_true_eq]; omega) | (rw [gl, decide_eq_false_iff_not]; omega)), hH.ext⟩
          · -- if t13: else
            have h13 := of_decide_eq_false h13
            refine CT.seq ?_
            -- region 11: ref.go:20
            refine CT.region ?_
            refine Wl.q rfl rfl (OpQ.eql rfl rfl) ?_
            refine Wl.q rfl rfl (OpQ.assign rfl) ?_
            refine Wl.nil ?_
            refine PX.then_n ?_
            refine CT.cond rfl (fun h16 => ?_) (fun h16 => ?_)
            · -- if t16: then
              have h16 := of_decide_eq_true h16
              refine CT.seq ?_
              -- region 12: ref.go:21
              refine CT.region ?_
              refine Wl.q rfl rfl (OpQ.assign rfl) ?_
              refine Wl.q rfl rfl (OpQ.assign rfl) ?_
              refine Wl.q rfl rfl (OpQ.assign rfl) ?_
              refine Wl.q rfl rfl (OpQ.assign rfl) ?_
              refine Wl.nil ?_
              refine PX.then_n ?_
              refine CT.ret ?_
              refine PX.block_r ?_
              refine PX.then_r ?_
              refine PX.ret4 rfl rfl rfl rfl rfl (fun w' hH => ?_)
              exact ⟨rf_ret (by unfold rn; split <;> first | omega | (split <;> omega)) (by first | (rw [gx, decide_eq_true_eq]; omega) | (rw [gx, decide_eq_false_iff_not]; omega)) (by first | (rw [gy, decide_eq_true_eq]; omega) | (rw [gy, decide_eq_false_iff_not]; omega)) (by first | (rw [gl, decide_eq_true_eq]; omega) | (rw [gl, decide_eq_false_iff_not]; omega)), hH.ext⟩
            · -- if t16: else
              have h16 := of_decide_eq_false h16
              refine CT.skip ?_
              refine PX.block_n ?_
              refine PX.then_n ?_
              refine CT.seq ?_
              -- region 13: ref.go:23
              refine CT.region ?_
              refine Wl.q rfl rfl (OpQ.assign rfl) ?_
              refine Wl.q rfl rfl (OpQ.assign rfl) ?_
              refine Wl.q rfl rfl (OpQ.assign rfl) ?_
              refine Wl.q rfl rfl (OpQ.assign rfl) ?_
              refine Wl.nil ?_
              refine PX.then_n ?_
              refine CT.ret ?_
              refine PX.ret4 rfl rfl rfl rfl rfl (fun w' hH => ?_)
              exact ⟨rf_ret (by unfold rn; split <;> first | omega | (split <;> omega)) (by first | (rw [gx, decide_eq_true_eq]; omega) | (rw [gx, decide_eq_false_iff_not]; omega)) (by first | (rw [gy, decide_eq_true_eq]; omega) | (rw [gy, decide_eq_false_iff_not]; omega)) (by first | (rw [gl, decide_eq_true_eq]; omega) | (rw [gl, decide_eq_false_iff_not]; omega)), hH.ext⟩

set_option maxRecDepth 100000 in
/-- semigroup/semigroupref38.fits -/
theorem fits_spec (w : World) (v n : Int) (need : Bool) : Calls Try.prog 42 #[.int .i64 (v), .bool need, .int .i64 (n)] w (fun e w' => e = .returned (.bool (vf v n need)) ∧ Ext [] w w') := by
  have e : vf v n need = (!need && decide (v = 0) || need && (decide (0 ≤ v) && decide (v < n))) := by cases need <;> simp [vf]
  refine enter (args := [.int .i64 (v), .bool need, .int .i64 (n)]) [] 25 Try.func42 rfl rfl rfl ?_
  refine CT.seq ?_
  -- region 0: ref.go:27
  refine CT.region ?_
  refine Wl.q rfl rfl (OpQ.assign rfl) ?_
  refine Wl.nil ?_
  refine PX.then_n ?_
  refine CT.seq ?_
  -- region 1: ref.go:27
  refine CT.region ?_
  refine Wl.q rfl rfl (OpQ.move rfl) ?_
  refine Wl.q rfl rfl (OpQ.not rfl) ?_
  refine Wl.q rfl rfl (OpQ.move rfl) ?_
  refine Wl.split 9 rfl (fun hg9 => ?_) (fun hg9 => ?_)
  · -- t9 = True
    refine Wl.q rfl rfl (OpQ.move rfl) ?_
    refine Wl.q rfl rfl (OpQ.eql rfl rfl) ?_
    refine Wl.q rfl rfl (OpQ.pickT rfl rfl) ?_
    refine Wl.q rfl rfl (OpQ.move rfl) ?_
    refine Wl.split 13 rfl (fun hg13 => ?_) (fun hg13 => ?_)
    · -- t13 = True
      refine Wl.skip rfl rfl ?_
      refine Wl.skip rfl rfl ?_
      refine Wl.skip rfl rfl ?_
      refine Wl.skip rfl rfl ?_
      refine Wl.skip rfl rfl ?_
      refine Wl.skip rfl rfl ?_
      refine Wl.skip rfl rfl ?_
      refine Wl.skip rfl rfl ?_
      refine Wl.skip rfl rfl ?_
      refine Wl.skip rfl rfl ?_
      refine Wl.q rfl rfl (OpQ.pickT rfl rfl) ?_
      refine Wl.q rfl rfl (OpQ.assign rfl) ?_
      refine Wl.nil ?_
      refine PX.then_n ?_
      refine CT.ret ?_
      refine PX.ret1 rfl rfl (fun w' hH => ?_)
      exact ⟨Tl.ret_b (by rw [e]; first | (simp_all; done) | (simp_all; omega)), hH.ext⟩
    · -- t13 = False
      refine Wl.q rfl rfl (OpQ.move rfl) ?_
      refine Wl.q rfl rfl (OpQ.move rfl) ?_
      refine Wl.split 15 rfl (fun hg15 => ?_) (fun hg15 => ?_)
      · -- t15 = True
        refine Wl.q rfl rfl (OpQ.move rfl) ?_
        refine Wl.q rfl rfl (OpQ.geq rfl rfl) ?_
        refine Wl.q rfl rfl (OpQ.pickT rfl rfl) ?_
        refine Wl.q rfl rfl (OpQ.move rfl) ?_
        refine Wl.split 19 rfl (fun hg19 => ?_) (fun hg19 => ?_)
        · -- t19 = True
          refine Wl.q rfl rfl (OpQ.move rfl) ?_
          refine Wl.q rfl rfl (OpQ.move rfl) ?_
          refine Wl.q rfl rfl (OpQ.lss rfl rfl) ?_
          refine Wl.q rfl rfl (OpQ.pickT rfl rfl) ?_
          refine Wl.q rfl rfl (OpQ.pickF rfl rfl) ?_
          refine Wl.q rfl rfl (OpQ.assign rfl) ?_
          refine Wl.nil ?_
          refine PX.then_n ?_
          refine CT.ret ?_
          refine PX.ret1 rfl rfl (fun w' hH => ?_)
          exact ⟨Tl.ret_b (by rw [e]; first | (simp_all; done) | (simp_all; omega)), hH.ext⟩
        · -- t19 = False
          refine Wl.skip rfl rfl ?_
          refine Wl.skip rfl rfl ?_
          refine Wl.skip rfl rfl ?_
          refine Wl.q rfl rfl (OpQ.pickF rfl rfl) ?_
          refine Wl.q rfl rfl (OpQ.pickF rfl rfl) ?_
          refine Wl.q rfl rfl (OpQ.assign rfl) ?_
          refine Wl.nil ?_
          refine PX.then_n ?_
          refine CT.ret ?_
          refine PX.ret1 rfl rfl (fun w' hH => ?_)
          exact ⟨Tl.ret_b (by rw [e]; first | (simp_all; done) | (simp_all; omega)), hH.ext⟩
      · -- t15 = False
        refine Wl.skip rfl rfl ?_
        refine Wl.skip rfl rfl ?_
        refine Wl.q rfl rfl (OpQ.pickF rfl rfl) ?_
        refine Wl.q rfl rfl (OpQ.move rfl) ?_
        refine Wl.skip rfl rfl ?_
        refine Wl.skip rfl rfl ?_
        refine Wl.skip rfl rfl ?_
        refine Wl.q rfl rfl (OpQ.pickF rfl rfl) ?_
        refine Wl.q rfl rfl (OpQ.pickF rfl rfl) ?_
        refine Wl.q rfl rfl (OpQ.assign rfl) ?_
        refine Wl.nil ?_
        refine PX.then_n ?_
        refine CT.ret ?_
        refine PX.ret1 rfl rfl (fun w' hH => ?_)
        exact ⟨Tl.ret_b (by rw [e]; first | (simp_all; done) | (simp_all; omega)), hH.ext⟩
  · -- t9 = False
    refine Wl.skip rfl rfl ?_
    refine Wl.skip rfl rfl ?_
    refine Wl.q rfl rfl (OpQ.pickF rfl rfl) ?_
    refine Wl.q rfl rfl (OpQ.move rfl) ?_
    refine Wl.q rfl rfl (OpQ.move rfl) ?_
    refine Wl.q rfl rfl (OpQ.move rfl) ?_
    refine Wl.split 15 rfl (fun hg15 => ?_) (fun hg15 => ?_)
    · -- t15 = True
      refine Wl.q rfl rfl (OpQ.move rfl) ?_
      refine Wl.q rfl rfl (OpQ.geq rfl rfl) ?_
      refine Wl.q rfl rfl (OpQ.pickT rfl rfl) ?_
      refine Wl.q rfl rfl (OpQ.move rfl) ?_
      refine Wl.split 19 rfl (fun hg19 => ?_) (fun hg19 => ?_)
      · -- t19 = True
        refine Wl.q rfl rfl (OpQ.move rfl) ?_
        refine Wl.q rfl rfl (OpQ.move rfl) ?_
        refine Wl.q rfl rfl (OpQ.lss rfl rfl) ?_
        refine Wl.q rfl rfl (OpQ.pickT rfl rfl) ?_
        refine Wl.q rfl rfl (OpQ.pickF rfl rfl) ?_
        refine Wl.q rfl rfl (OpQ.assign rfl) ?_
        refine Wl.nil ?_
        refine PX.then_n ?_
        refine CT.ret ?_
        refine PX.ret1 rfl rfl (fun w' hH => ?_)
        exact ⟨Tl.ret_b (by rw [e]; first | (simp_all; done) | (simp_all; omega)), hH.ext⟩
      · -- t19 = False
        refine Wl.skip rfl rfl ?_
        refine Wl.skip rfl rfl ?_
        refine Wl.skip rfl rfl ?_
        refine Wl.q rfl rfl (OpQ.pickF rfl rfl) ?_
        refine Wl.q rfl rfl (OpQ.pickF rfl rfl) ?_
        refine Wl.q rfl rfl (OpQ.assign rfl) ?_
        refine Wl.nil ?_
        refine PX.then_n ?_
        refine CT.ret ?_
        refine PX.ret1 rfl rfl (fun w' hH => ?_)
        exact ⟨Tl.ret_b (by rw [e]; first | (simp_all; done) | (simp_all; omega)), hH.ext⟩
    · -- t15 = False
      refine Wl.skip rfl rfl ?_
      refine Wl.skip rfl rfl ?_
      refine Wl.q rfl rfl (OpQ.pickF rfl rfl) ?_
      refine Wl.q rfl rfl (OpQ.move rfl) ?_
      refine Wl.skip rfl rfl ?_
      refine Wl.skip rfl rfl ?_
      refine Wl.skip rfl rfl ?_
      refine Wl.q rfl rfl (OpQ.pickF rfl rfl) ?_
      refine Wl.q rfl rfl (OpQ.pickF rfl rfl) ?_
      refine Wl.q rfl rfl (OpQ.assign rfl) ?_
      refine Wl.nil ?_
      refine PX.then_n ?_
      refine CT.ret ?_
      refine PX.ret1 rfl rfl (fun w' hH => ?_)
      exact ⟨Tl.ret_b (by rw [e]; first | (simp_all; done) | (simp_all; omega)), hH.ext⟩

theorem un26 : Try.prog.underlying 26 = some (.slice 29) := by kernel_rfl
theorem sz29 : sizeB Try.prog 29 = some 6 := by kernel_rfl
theorem ag29 : isAggB Try.prog 29 = some true := by kernel_rfl
theorem in29 : (Try.prog.info? 29).map (fun i => (i.zero, i.size, i.bytes)) = some (some (.agg #[.int .i64 0, .int .i64 0, .int .i64 0, .int .i64 0, .int .i64 0, .int .i64 0]), 6, 48) := by kernel_rfl
theorem fa29_0 : fieldB Try.prog 29 0 = some 0 := by kernel_rfl
theorem go33 : isGo Try.prog 33 = true := by kernel_rfl
theorem fa67_5 : fieldB Try.prog 67 5 = some 5 := by kernel_rfl
theorem sc4 : scalarB Try.prog 4 = some true := by kernel_rfl
theorem fa29_1 : fieldB Try.prog 29 1 = some 1 := by kernel_rfl
theorem fa67_0 : fieldB Try.prog 67 0 = some 0 := by kernel_rfl
theorem go50 : isGo Try.prog 50 = true := by kernel_rfl
theorem fa29_2 : fieldB Try.prog 29 2 = some 2 := by kernel_rfl
theorem fa67_1 : fieldB Try.prog 67 1 = some 1 := by kernel_rfl
theorem fa29_3 : fieldB Try.prog 29 3 = some 3 := by kernel_rfl
theorem fa67_2 : fieldB Try.prog 67 2 = some 2 := by kernel_rfl
theorem fa29_4 : fieldB Try.prog 29 4 = some 4 := by kernel_rfl
theorem fa67_3 : fieldB Try.prog 67 3 = some 3 := by kernel_rfl
theorem fa29_5 : fieldB Try.prog 29 5 = some 5 := by kernel_rfl
theorem fa67_4 : fieldB Try.prog 67 4 = some 4 := by kernel_rfl
set_option maxRecDepth 100000 in
/-- semigroup/firstorder.Validate -/
theorem validate_spec (w : World) (a : Option Addr) (cp : Nat) (xs : List Fm) (hr : Rd w a (xs.flatMap fv)) (hn : xs.length ≤ 9223372036854775807) (root letters : Int) : Calls Try.prog 29 #[.slice a xs.length cp, .int .i64 (root), .int .i64 (letters)] w (fun e w' => e = .returned (.int .i64 (vdF xs root letters)) ∧ Ext [] w w') := by
  have sm : 0 < xs.length → a.isSome = true := fun h => hr.isSome (j := 0) (by rw [flat_len fv_len]; omega)
  refine enter (args := [.slice a xs.length cp, .int .i64 (root), .int .i64 (letters)]) [] 84 Try.func29 rfl rfl rfl ?_
  refine CT.seq ?_
  -- region 0: firstorder.go:38
  refine CT.region ?_
  refine Wl.q rfl rfl (OpQ.assign rfl) ?_
  refine Wl.nil ?_
  refine PX.then_n ?_
  refine CT.seq ?_
  refine CT.seq ?_
  -- region 1: firstorder.go:39
  refine CT.region ?_
  refine Wl.q rfl rfl (OpQ.move rfl) ?_
  refine Wl.q rfl rfl (OpQ.lss rfl rfl) ?_
  refine Wl.q rfl rfl (OpQ.move rfl) ?_
  refine Wl.split 12 rfl (fun hg12 => ?_) (fun hg12 => ?_)
  · -- t12 = True
    have hg12 := of_decide_eq_true hg12
    refine Wl.skip rfl rfl ?_
    refine Wl.skip rfl rfl ?_
    refine Wl.q rfl rfl (OpQ.pickT rfl rfl) ?_
    refine Wl.nil ?_
    refine PX.then_n ?_
    refine CT.condT rfl ?_
    refine CT.seq ?_
    -- region 2: firstorder.go:40
    refine CT.region ?_
    refine Wl.q rfl rfl (OpQ.assign rfl) ?_
    refine Wl.nil ?_
    refine PX.then_n ?_
    refine CT.ret ?_
    refine PX.then_r ?_
    refine PX.ret1 rfl rfl (fun w' hH => ?_)
    exact ⟨Tl.ret_i (vd_may (by omega)).symm, hH.ext⟩
  · -- t12 = False
    have hg12 := of_decide_eq_false hg12
    refine Wl.q rfl rfl (OpQ.move rfl) ?_
    refine Wl.q rfl rfl (OpQ.gtr rfl rfl) ?_
    refine Wl.q rfl rfl (OpQ.pickF rfl rfl) ?_
    refine Wl.nil ?_
    refine PX.then_n ?_
    refine CT.cond rfl (fun h15 => ?_) (fun h15 => ?_)
    · -- if t15: then
      have h15 := of_decide_eq_true h15
      refine CT.seq ?_
      -- region 2: firstorder.go:40
      refine CT.region ?_
      refine Wl.q rfl rfl (OpQ.assign rfl) ?_
      refine Wl.nil ?_
      refine PX.then_n ?_
      refine CT.ret ?_
      refine PX.then_r ?_
      refine PX.ret1 rfl rfl (fun w' hH => ?_)
      exact ⟨Tl.ret_i (vd_may (by omega)).symm, hH.ext⟩
    · -- if t15: else
      have h15 := of_decide_eq_false h15
      refine CT.skip ?_
      refine PX.then_n ?_
      refine CT.seq ?_
      refine CT.seq ?_
      -- region 3: firstorder.go:42
      refine CT.region ?_
      refine Wl.q rfl rfl (OpQ.move rfl) ?_
      refine Wl.q rfl rfl (OpQ.len un26 rfl) ?_
      refine Wl.q rfl rfl (OpQ.gtr rfl rfl) ?_
      refine Wl.nil ?_
      refine PX.then_n ?_
      refine CT.cond rfl (fun h18 => ?_) (fun h18 => ?_)
      · -- if t18: then
        have h18 := of_decide_eq_true h18
        refine CT.seq ?_
        -- region 4: firstorder.go:43
        refine CT.region ?_
        refine Wl.q rfl rfl (OpQ.assign rfl) ?_
        refine Wl.nil ?_
        refine PX.then_n ?_
        refine CT.ret ?_
        refine PX.then_r ?_
        refine PX.ret1 rfl rfl (fun w' hH => ?_)
        exact ⟨Tl.ret_i (vd_long (Tl.may_in (by omega) (by omega)) (by omega)).symm, hH.ext⟩
      · -- if t18: else
        have h18 := of_decide_eq_false h18
        refine CT.skip ?_
        refine PX.then_n ?_
        refine CT.seq ?_
        refine CT.seq ?_
        -- region 5: firstorder.go:45
        refine CT.region ?_
        refine Wl.q rfl rfl (OpQ.move rfl) ?_
        refine Wl.q rfl rfl (OpQ.len un26 rfl) ?_
        refine Wl.q rfl rfl (OpQ.move rfl) ?_
        refine Wl.nil ?_
        refine PX.then_n ?_
        refine CT.block ?_
        -- the loop at region 6
        refine CT.loop (ι := Nat) (fun k => k ≤ xs.length ∧ ∀ j, j < k → okF (xs.getD j f0) j letters = true) (fun k => [(0, .slice a xs.length cp), (1, .int .i64 (root)), (2, .int .i64 (letters)), (19, .slice a xs.length cp), (20, .int .i64 (xs.length : Int)), (21, .int .i64 (k : Int))]) (fun _ => []) (fun k => xs.length - k) 0 ⟨by omega, by omega⟩ ⟨rfl, rfl, rfl, rfl, rfl, rfl, trivial⟩ (HSub.none _) (fun k ⟨hk, hall⟩ K0 hK0 => ?_)
        refine CT.seq ?_
        -- region 6: firstorder.go:45
        refine CT.region ?_
        refine Wl.q rfl rfl (OpQ.lss rfl rfl) ?_
        refine Wl.nil ?_
        refine PX.then_n ?_
        refine CT.seq ?_
        refine CT.cond rfl (fun h22 => ?_) (fun h22 => ?_)
        · -- if t22: then
          have h22 := of_decide_eq_true h22
          refine CT.skip ?_
          refine PX.then_n ?_
          refine CT.seq ?_
          refine CT.block ?_
          refine CT.seq ?_
          -- region 7: firstorder.go:45
          refine CT.region ?_
          refine Wl.q rfl rfl (OpQ.move rfl) ?_
          refine Wl.q rfl rfl (OpQ.index un26 sz29 rfl rfl (by omega) (sm (by omega))) ?_
          refine Wl.q rfl rfl (OpQ.loadAggG (cs := fv (xs.getD k f0)) ag29 sz29 rfl (fun w hH => hH.rd0 hr rfl) (flat_cells fv_len xs f0 (by omega))) ?_
          refine Wl.g rfl rfl (OpG.alloc (zs := [.int .i64 0, .int .i64 0, .int .i64 0, .int .i64 0, .int .i64 0, .int .i64 0]) in29 rfl rfl) ?_
          rintro b8 _
          refine Wl.q rfl rfl (OpQ.assign rfl) ?_
          refine Wl.g rfl rfl (OpG.storeV (b := b8) sz29 rfl rfl rfl rfl (by repeat (first | exact Upd.here | apply Upd.there))) ?_
          rintro _ _
          refine Wl.nil ?_
          refine PX.then_n ?_
          refine CT.seq ?_
          -- region 8: firstorder.go:46
          refine CT.region ?_
          refine Wl.q rfl rfl (OpQ.fieldAddr fa29_0 rfl) ?_
          refine Wl.q rfl rfl (OpQ.loadF (b := b8) sc3 rfl (by repeat (first | exact Has.here | apply Has.there)) (by rfl)) ?_
          refine Wl.g rfl rfl (OpG.callV go33 rfl (fun w hH => fieldsOf_spec w _)) ?_
          rintro _ _
          refine Wl.g rfl rfl (OpG.alloc (zs := [.bool false, .bool false, .bool false, .bool false, .bool false, .bool false]) in67 rfl rfl) ?_
          rintro b9 _
          refine Wl.g rfl rfl (OpG.storeV (b := b9) sz67 rfl rfl rfl rfl (by repeat (first | exact Upd.here | apply Upd.there))) ?_
          rintro _ _
          refine Wl.nil ?_
          refine PX.then_n ?_
          refine CT.weak (E' := [(0, _), (1, _), (2, _), (7, _), (8, _), (9, _), (19, _), (20, _), (21, _)]) (by repeat (first | exact trivial | refine ⟨rfl, ?_⟩)) (HSub.refl _) ?_
          refine CT.cutB 74 (!okF (xs.getD k f0) k letters) (fun K1 hK1 => ?_) ?_
          · -- up to the join
            -- region 9: firstorder.go:47
            refine CT.region ?_
            refine Wl.q rfl rfl (OpQ.fieldAddr fa67_5 rfl) ?_
            refine Wl.q rfl rfl (OpQ.loadF (b := b9) sc4 rfl (by repeat (first | exact Has.here | apply Has.there)) (by rfl)) ?_
            refine Wl.q rfl rfl (OpQ.not rfl) ?_
            refine Wl.q rfl rfl (OpQ.move rfl) ?_
            refine Wl.split 32 rfl (fun hg32 => ?_) (fun hg32 => ?_)
            · -- t32 = True
              refine Wl.skip rfl rfl ?_
              refine Wl.skip rfl rfl ?_
              refine Wl.skip rfl rfl ?_
              refine Wl.skip rfl rfl ?_
              refine Wl.skip rfl rfl ?_
              refine Wl.skip rfl rfl ?_
              refine Wl.q rfl rfl (OpQ.pickT rfl rfl) ?_
              refine Wl.q rfl rfl (OpQ.move rfl) ?_
              refine Wl.skip rfl rfl ?_
              refine Wl.skip rfl rfl ?_
              refine Wl.skip rfl rfl ?_
              refine Wl.skip rfl rfl ?_
              refine Wl.skip rfl rfl ?_
              refine Wl.skip rfl rfl ?_
              refine Wl.q rfl rfl (OpQ.pickT rfl rfl) ?_
              refine Wl.q rfl rfl (OpQ.move rfl) ?_
              refine Wl.skip rfl rfl ?_
              refine Wl.skip rfl rfl ?_
              refine Wl.skip rfl rfl ?_
              refine Wl.skip rfl rfl ?_
              refine Wl.skip rfl rfl ?_
              refine Wl.skip rfl rfl ?_
              refine Wl.skip rfl rfl ?_
              refine Wl.q rfl rfl (OpQ.pickT rfl rfl) ?_
              refine Wl.q rfl rfl (OpQ.move rfl) ?_
              refine Wl.skip rfl rfl ?_
              refine Wl.skip rfl rfl ?_
              refine Wl.skip rfl rfl ?_
              refine Wl.skip rfl rfl ?_
              refine Wl.skip rfl rfl ?_
              refine Wl.skip rfl rfl ?_
              refine Wl.skip rfl rfl ?_
              refine Wl.q rfl rfl (OpQ.pickT rfl rfl) ?_
              refine Wl.q rfl rfl (OpQ.move rfl) ?_
              refine Wl.skip rfl rfl ?_
              refine Wl.skip rfl rfl ?_
              refine Wl.skip rfl rfl ?_
              refine Wl.skip rfl rfl ?_
              refine Wl.skip rfl rfl ?_
              refine Wl.skip rfl rfl ?_
              refine Wl.skip rfl rfl ?_
              refine Wl.q rfl rfl (OpQ.pickT rfl rfl) ?_
              refine Wl.nil ?_
              exact PX.cutB hK1 ⟨lkV rfl (congrArg Value.bool (by first | (simp [-List.getD_eq_getElem?_getD, okF, hg32, hg40, hg48, hg57, hg66]; done) | (simp [-List.getD_eq_getElem?_getD, okF, hg32, hg40, hg48, hg57, hg66]; omega) | (simp [-List.getD_eq_getElem?_getD, okF, hg32, hg40, hg48, hg57]; done) | (simp [-List.getD_eq_getElem?_getD, okF, hg32, hg40, hg48, hg57]; omega) | (simp [-List.getD_eq_getElem?_getD, okF, hg32, hg40, hg48]; done) | (simp [-List.getD_eq_getElem?_getD, okF, hg32, hg40, hg48]; omega) | (simp [-List.getD_eq_getElem?_getD, okF, hg32, hg40]; done) | (simp [-List.getD_eq_getElem?_getD, okF, hg32, hg40]; omega) | (simp [-List.getD_eq_getElem?_getD, okF, hg32]; done) | (simp [-List.getD_eq_getElem?_getD, okF, hg32]; omega) | (simp [-List.getD_eq_getElem?_getD, okF]; done) | (simp [-List.getD_eq_getElem?_getD, okF]; omega))), (by repeat (first | exact trivial | refine ⟨rfl, ?_⟩))⟩ (HSub.refl _)
            · -- t32 = False
              refine Wl.q rfl rfl (OpQ.fieldAddr fa29_1 rfl) ?_
              refine Wl.q rfl rfl (OpQ.loadF (b := b8) sc3 rfl (by repeat (first | exact Has.here | apply Has.there)) (by rfl)) ?_
              refine Wl.q rfl rfl (OpQ.fieldAddr fa67_0 rfl) ?_
              refine Wl.q rfl rfl (OpQ.loadF (b := b9) sc4 rfl (by repeat (first | exact Has.here | apply Has.there)) (by rfl)) ?_
              refine Wl.g rfl rfl (OpG.callV go50 rfl (fun w hH => validField_spec w _ _ _)) ?_
              rintro _ _
              refine Wl.q rfl rfl (OpQ.not rfl) ?_
              refine Wl.q rfl rfl (OpQ.pickF rfl rfl) ?_
              refine Wl.q rfl rfl (OpQ.move rfl) ?_
              refine Wl.split 40 rfl (fun hg40 => ?_) (fun hg40 => ?_)
              · -- t40 = True
                refine Wl.skip rfl rfl ?_
                refine Wl.skip rfl rfl ?_
                refine Wl.skip rfl rfl ?_
                refine Wl.skip rfl rfl ?_
                refine Wl.skip rfl rfl ?_
                refine Wl.skip rfl rfl ?_
                refine Wl.q rfl rfl (OpQ.pickT rfl rfl) ?_
                refine Wl.q rfl rfl (OpQ.move rfl) ?_
                refine Wl.skip rfl rfl ?_
                refine Wl.skip rfl rfl ?_
                refine Wl.skip rfl rfl ?_
                refine Wl.skip rfl rfl ?_
                refine Wl.skip rfl rfl ?_
                refine Wl.skip rfl rfl ?_
                refine Wl.skip rfl rfl ?_
                refine Wl.q rfl rfl (OpQ.pickT rfl rfl) ?_
                refine Wl.q rfl rfl (OpQ.move rfl) ?_
                refine Wl.skip rfl rfl ?_
                refine Wl.skip rfl rfl ?_
                refine Wl.skip rfl rfl ?_
                refine Wl.skip rfl rfl ?_
                refine Wl.skip rfl rfl ?_
                refine Wl.skip rfl rfl ?_
                refine Wl.skip rfl rfl ?_
                refine Wl.q rfl rfl (OpQ.pickT rfl rfl) ?_
                refine Wl.q rfl rfl (OpQ.move rfl) ?_
                refine Wl.skip rfl rfl ?_
                refine Wl.skip rfl rfl ?_
                refine Wl.skip rfl rfl ?_
                refine Wl.skip rfl rfl ?_
                refine Wl.skip rfl rfl ?_
                refine Wl.skip rfl rfl ?_
                refine Wl.skip rfl rfl ?_
                refine Wl.q rfl rfl (OpQ.pickT rfl rfl) ?_
                refine Wl.nil ?_
                exact PX.cutB hK1 ⟨lkV rfl (congrArg Value.bool (by first | (simp [-List.getD_eq_getElem?_getD, okF, hg32, hg40, hg48, hg57, hg66]; done) | (simp [-List.getD_eq_getElem?_getD, okF, hg32, hg40, hg48, hg57, hg66]; omega) | (simp [-List.getD_eq_getElem?_getD, okF, hg32, hg40, hg48, hg57]; done) | (simp [-List.getD_eq_getElem?_getD, okF, hg32, hg40, hg48, hg57]; omega) | (simp [-List.getD_eq_getElem?_getD, okF, hg32, hg40, hg48]; done) | (simp [-List.getD_eq_getElem?_getD, okF, hg32, hg40, hg48]; omega) | (simp [-List.getD_eq_getElem?_getD, okF, hg32, hg40]; done) | (simp [-List.getD_eq_getElem?_getD, okF, hg32, hg40]; omega) | (simp [-List.getD_eq_getElem?_getD, okF, hg32]; done) | (simp [-List.getD_eq_getElem?_getD, okF, hg32]; omega) | (simp [-List.getD_eq_getElem?_getD, okF]; done) | (simp [-List.getD_eq_getElem?_getD, okF]; omega))), (by repeat (first | exact trivial | refine ⟨rfl, ?_⟩))⟩ (HSub.refl _)
              · -- t40 = False
                refine Wl.q rfl rfl (OpQ.fieldAddr fa29_2 rfl) ?_
                refine Wl.q rfl rfl (OpQ.loadF (b := b8) sc3 rfl (by repeat (first | exact Has.here | apply Has.there)) (by rfl)) ?_
                refine Wl.q rfl rfl (OpQ.fieldAddr fa67_1 rfl) ?_
                refine Wl.q rfl rfl (OpQ.loadF (b := b9) sc4 rfl (by repeat (first | exact Has.here | apply Has.there)) (by rfl)) ?_
                refine Wl.g rfl rfl (OpG.callV go50 rfl (fun w hH => validField_spec w _ _ _)) ?_
                rintro _ _
                refine Wl.q rfl rfl (OpQ.not rfl) ?_
                refine Wl.q rfl rfl (OpQ.pickF rfl rfl) ?_
                refine Wl.q rfl rfl (OpQ.move rfl) ?_
                refine Wl.split 48 rfl (fun hg48 => ?_) (fun hg48 => ?_)
                · -- t48 = True
                  refine Wl.skip rfl rfl ?_
                  refine Wl.skip rfl rfl ?_
                  refine Wl.skip rfl rfl ?_
                  refine Wl.skip rfl rfl ?_
                  refine Wl.skip rfl rfl ?_
                  refine Wl.skip rfl rfl ?_
                  refine Wl.skip rfl rfl ?_
                  refine Wl.q rfl rfl (OpQ.pickT rfl rfl) ?_
                  refine Wl.q rfl rfl (OpQ.move rfl) ?_
                  refine Wl.skip rfl rfl ?_
                  refine Wl.skip rfl rfl ?_
                  refine Wl.skip rfl rfl ?_
                  refine Wl.skip rfl rfl ?_
                  refine Wl.skip rfl rfl ?_
                  refine Wl.skip rfl rfl ?_
                  refine Wl.skip rfl rfl ?_
                  refine Wl.q rfl rfl (OpQ.pickT rfl rfl) ?_
                  refine Wl.q rfl rfl (OpQ.move rfl) ?_
                  refine Wl.skip rfl rfl ?_
                  refine Wl.skip rfl rfl ?_
                  refine Wl.skip rfl rfl ?_
                  refine Wl.skip rfl rfl ?_
                  refine Wl.skip rfl rfl ?_
                  refine Wl.skip rfl rfl ?_
                  refine Wl.skip rfl rfl ?_
                  refine Wl.q rfl rfl (OpQ.pickT rfl rfl) ?_
                  refine Wl.nil ?_
                  exact PX.cutB hK1 ⟨lkV rfl (congrArg Value.bool (by first | (simp [-List.getD_eq_getElem?_getD, okF, hg32, hg40, hg48, hg57, hg66]; done) | (simp [-List.getD_eq_getElem?_getD, okF, hg32, hg40, hg48, hg57, hg66]; omega) | (simp [-List.getD_eq_getElem?_getD, okF, hg32, hg40, hg48, hg57]; done) | (simp [-List.getD_eq_getElem?_getD, okF, hg32, hg40, hg48, hg57]; omega) | (simp [-List.getD_eq_getElem?_getD, okF, hg32, hg40, hg48]; done) | (simp [-List.getD_eq_getElem?_getD, okF, hg32, hg40, hg48]; omega) | (simp [-List.getD_eq_getElem?_getD, okF, hg32, hg40]; done) | (simp [-List.getD_eq_getElem?_getD, okF, hg32, hg40]; omega) | (simp [-List.getD_eq_getElem?_getD, okF, hg32]; done) | (simp [-List.getD_eq_getElem?_getD, okF, hg32]; omega) | (simp [-List.getD_eq_getElem?_getD, okF]; done) | (simp [-List.getD_eq_getElem?_getD, okF]; omega))), (by repeat (first | exact trivial | refine ⟨rfl, ?_⟩))⟩ (HSub.refl _)
                · -- t48 = False
                  refine Wl.q rfl rfl (OpQ.fieldAddr fa29_3 rfl) ?_
                  refine Wl.q rfl rfl (OpQ.loadF (b := b8) sc3 rfl (by repeat (first | exact Has.here | apply Has.there)) (by rfl)) ?_
                  refine Wl.q rfl rfl (OpQ.move rfl) ?_
                  refine Wl.q rfl rfl (OpQ.fieldAddr fa67_2 rfl) ?_
                  refine Wl.q rfl rfl (OpQ.loadF (b := b9) sc4 rfl (by repeat (first | exact Has.here | apply Has.there)) (by rfl)) ?_
                  refine Wl.g rfl rfl (OpG.callV go50 rfl (fun w hH => validField_spec w _ _ _)) ?_
                  rintro _ _
                  refine Wl.q rfl rfl (OpQ.not rfl) ?_
                  refine Wl.q rfl rfl (OpQ.pickF rfl rfl) ?_
                  refine Wl.q rfl rfl (OpQ.move rfl) ?_
                  refine Wl.split 57 rfl (fun hg57 => ?_) (fun hg57 => ?_)
                  · -- t57 = True
                    refine Wl.skip rfl rfl ?_
                    refine Wl.skip rfl rfl ?_
                    refine Wl.skip rfl rfl ?_
                    refine Wl.skip rfl rfl ?_
                    refine Wl.skip rfl rfl ?_
                    refine Wl.skip rfl rfl ?_
                    refine Wl.skip rfl rfl ?_
                    refine Wl.q rfl rfl (OpQ.pickT rfl rfl) ?_
                    refine Wl.q rfl rfl (OpQ.move rfl) ?_
                    refine Wl.skip rfl rfl ?_
                    refine Wl.skip rfl rfl ?_
                    refine Wl.skip rfl rfl ?_
                    refine Wl.skip rfl rfl ?_
                    refine Wl.skip rfl rfl ?_
                    refine Wl.skip rfl rfl ?_
                    refine Wl.skip rfl rfl ?_
                    refine Wl.q rfl rfl (OpQ.pickT rfl rfl) ?_
                    refine Wl.nil ?_
                    exact PX.cutB hK1 ⟨lkV rfl (congrArg Value.bool (by first | (simp [-List.getD_eq_getElem?_getD, okF, hg32, hg40, hg48, hg57, hg66]; done) | (simp [-List.getD_eq_getElem?_getD, okF, hg32, hg40, hg48, hg57, hg66]; omega) | (simp [-List.getD_eq_getElem?_getD, okF, hg32, hg40, hg48, hg57]; done) | (simp [-List.getD_eq_getElem?_getD, okF, hg32, hg40, hg48, hg57]; omega) | (simp [-List.getD_eq_getElem?_getD, okF, hg32, hg40, hg48]; done) | (simp [-List.getD_eq_getElem?_getD, okF, hg32, hg40, hg48]; omega) | (simp [-List.getD_eq_getElem?_getD, okF, hg32, hg40]; done) | (simp [-List.getD_eq_getElem?_getD, okF, hg32, hg40]; omega) | (simp [-List.getD_eq_getElem?_getD, okF, hg32]; done) | (simp [-List.getD_eq_getElem?_getD, okF, hg32]; omega) | (simp [-List.getD_eq_getElem?_getD, okF]; done) | (simp [-List.getD_eq_getElem?_getD, okF]; omega))), (by repeat (first | exact trivial | refine ⟨rfl, ?_⟩))⟩ (HSub.refl _)
                  · -- t57 = False
                    refine Wl.q rfl rfl (OpQ.fieldAddr fa29_4 rfl) ?_
                    refine Wl.q rfl rfl (OpQ.loadF (b := b8) sc3 rfl (by repeat (first | exact Has.here | apply Has.there)) (by rfl)) ?_
                    refine Wl.q rfl rfl (OpQ.move rfl) ?_
                    refine Wl.q rfl rfl (OpQ.fieldAddr fa67_3 rfl) ?_
                    refine Wl.q rfl rfl (OpQ.loadF (b := b9) sc4 rfl (by repeat (first | exact Has.here | apply Has.there)) (by rfl)) ?_
                    refine Wl.g rfl rfl (OpG.callV go50 rfl (fun w hH => validField_spec w _ _ _)) ?_
                    rintro _ _
                    refine Wl.q rfl rfl (OpQ.not rfl) ?_
                    refine Wl.q rfl rfl (OpQ.pickF rfl rfl) ?_
                    refine Wl.q rfl rfl (OpQ.move rfl) ?_
                    refine Wl.split 66 rfl (fun hg66 => ?_) (fun hg66 => ?_)
                    · -- t66 = True
                      refine Wl.skip rfl rfl ?_
                      refine Wl.skip rfl rfl ?_
                      refine Wl.skip rfl rfl ?_
                      refine Wl.skip rfl rfl ?_
                      refine Wl.skip rfl rfl ?_
                      refine Wl.skip rfl rfl ?_
                      refine Wl.skip rfl rfl ?_
                      refine Wl.q rfl rfl (OpQ.pickT rfl rfl) ?_
                      refine Wl.nil ?_
                      exact PX.cutB hK1 ⟨lkV rfl (congrArg Value.bool (by first | (simp [-List.getD_eq_getElem?_getD, okF, hg32, hg40, hg48, hg57, hg66]; done) | (simp [-List.getD_eq_getElem?_getD, okF, hg32, hg40, hg48, hg57, hg66]; omega) | (simp [-List.getD_eq_getElem?_getD, okF, hg32, hg40, hg48, hg57]; done) | (simp [-List.getD_eq_getElem?_getD, okF, hg32, hg40, hg48, hg57]; omega) | (simp [-List.getD_eq_getElem?_getD, okF, hg32, hg40, hg48]; done) | (simp [-List.getD_eq_getElem?_getD, okF, hg32, hg40, hg48]; omega) | (simp [-List.getD_eq_getElem?_getD, okF, hg32, hg40]; done) | (simp [-List.getD_eq_getElem?_getD, okF, hg32, hg40]; omega) | (simp [-List.getD_eq_getElem?_getD, okF, hg32]; done) | (simp [-List.getD_eq_getElem?_getD, okF, hg32]; omega) | (simp [-List.getD_eq_getElem?_getD, okF]; done) | (simp [-List.getD_eq_getElem?_getD, okF]; omega))), (by repeat (first | exact trivial | refine ⟨rfl, ?_⟩))⟩ (HSub.refl _)
                    · -- t66 = False
                      refine Wl.q rfl rfl (OpQ.fieldAddr fa29_5 rfl) ?_
                      refine Wl.q rfl rfl (OpQ.loadF (b := b8) sc3 rfl (by repeat (first | exact Has.here | apply Has.there)) (by rfl)) ?_
                      refine Wl.q rfl rfl (OpQ.move rfl) ?_
                      refine Wl.q rfl rfl (OpQ.fieldAddr fa67_4 rfl) ?_
                      refine Wl.q rfl rfl (OpQ.loadF (b := b9) sc4 rfl (by repeat (first | exact Has.here | apply Has.there)) (by rfl)) ?_
                      refine Wl.g rfl rfl (OpG.callV go50 rfl (fun w hH => validField_spec w _ _ _)) ?_
                      rintro _ _
                      refine Wl.q rfl rfl (OpQ.not rfl) ?_
                      refine Wl.q rfl rfl (OpQ.pickF rfl rfl) ?_
                      refine Wl.nil ?_
                      exact PX.cutB hK1 ⟨lkV rfl (congrArg Value.bool (by first | (simp [-List.getD_eq_getElem?_getD, okF, hg32, hg40, hg48, hg57, hg66]; done) | (simp [-List.getD_eq_getElem?_getD, okF, hg32, hg40, hg48, hg57, hg66]; omega) | (simp [-List.getD_eq_getElem?_getD, okF, hg32, hg40, hg48, hg57]; done) | (simp [-List.getD_eq_getElem?_getD, okF, hg32, hg40, hg48, hg57]; omega) | (simp [-List.getD_eq_getElem?_getD, okF, hg32, hg40, hg48]; done) | (simp [-List.getD_eq_getElem?_getD, okF, hg32, hg40, hg48]; omega) | (simp [-List.getD_eq_getElem?_getD, okF, hg32, hg40]; done) | (simp [-List.getD_eq_getElem?_getD, okF, hg32, hg40]; omega) | (simp [-List.getD_eq_getElem?_getD, okF, hg32]; done) | (simp [-List.getD_eq_getElem?_getD, okF, hg32]; omega) | (simp [-List.getD_eq_getElem?_getD, okF]; done) | (simp [-List.getD_eq_getElem?_getD, okF]; omega))), (by repeat (first | exact trivial | refine ⟨rfl, ?_⟩))⟩ (HSub.refl _)
          · -- from the join on
            refine CT.cond rfl (fun h74 => ?_) (fun h74 => ?_)
            · -- if t74: then
              refine CT.seq ?_
              -- region 10: firstorder.go:51
              refine CT.region ?_
              refine Wl.q rfl rfl (OpQ.assign rfl) ?_
              refine Wl.nil ?_
              refine PX.then_n ?_
              refine CT.ret ?_
              refine PX.block_r ?_
              refine PX.then_r ?_
              refine PX.then_r ?_
              refine PX.block_r ?_
              refine PX.then_r ?_
              refine PX.ret1 rfl rfl (fun w' hH => ?_)
              exact ⟨Tl.ret_i (vd_bad (Tl.may_in (by omega) (by omega)) (by omega) (okL_bad (k := k) (by omega) (by simpa [-List.getD_eq_getElem?_getD] using h74))).symm, hH.ext⟩
            · -- if t74: else
              refine CT.skip ?_
              refine PX.block_n ?_
              refine PX.then_n ?_
              -- region 11: firstorder.go:45
              refine CT.region ?_
              refine Wl.q rfl rfl (OpQ.add rfl rfl (by omega)) ?_
              refine Wl.q rfl rfl (OpQ.move rfl) ?_
              refine Wl.nil ?_
              have hall2 : ∀ j, j < k + 1 → okF (xs.getD j f0) j letters = true := fun j hj => by
                rcases Nat.lt_or_ge j k with h | h
                · exact hall j h
                · rw [show j = k by omega]; exact (by simpa [-List.getD_eq_getElem?_getD] using h74)
              exact PX.loop hK0 (k + 1) ⟨by omega, hall2⟩ (by first | omega | (dsimp only; omega)) ⟨rfl, rfl, rfl, rfl, rfl, rfl, trivial⟩ (HSub.none _)
        · -- if t22: else
          have h22 := of_decide_eq_false h22
          refine CT.exit ?_
          refine PX.then_x ?_
          refine PX.then_x ?_
          refine PX.block_x ?_
          refine PX.then_n ?_
          refine CT.seq ?_
          refine CT.seq ?_
          -- region 12: firstorder.go:54
          refine CT.region ?_
          refine Wl.q rfl rfl (OpQ.move rfl) ?_
          refine Wl.q rfl rfl (OpQ.lss rfl rfl) ?_
          refine Wl.q rfl rfl (OpQ.move rfl) ?_
          refine Wl.split 78 rfl (fun hg78 => ?_) (fun hg78 => ?_)
          · -- t78 = True
            have hg78 := of_decide_eq_true hg78
            refine Wl.skip rfl rfl ?_
            refine Wl.skip rfl rfl ?_
            refine Wl.skip rfl rfl ?_
            refine Wl.skip rfl rfl ?_
            refine Wl.q rfl rfl (OpQ.pickT rfl rfl) ?_
            refine Wl.nil ?_
            refine PX.then_n ?_
            refine CT.condT rfl ?_
            refine CT.seq ?_
            -- region 13: firstorder.go:55
            refine CT.region ?_
            refine Wl.q rfl rfl (OpQ.assign rfl) ?_
            refine Wl.nil ?_
            refine PX.then_n ?_
            refine CT.ret ?_
            refine PX.then_r ?_
            refine PX.ret1 rfl rfl (fun w' hH => ?_)
            exact ⟨Tl.ret_i (vd_root (Tl.may_in (by omega) (by omega)) (by omega) (okL_ok (fun j hj => hall j (by omega))) (by omega)).symm, hH.ext⟩
          · -- t78 = False
            have hg78 := of_decide_eq_false hg78
            refine Wl.q rfl rfl (OpQ.move rfl) ?_
            refine Wl.q rfl rfl (OpQ.move rfl) ?_
            refine Wl.q rfl rfl (OpQ.len un26 rfl) ?_
            refine Wl.q rfl rfl (OpQ.geq rfl rfl) ?_
            refine Wl.q rfl rfl (OpQ.pickF rfl rfl) ?_
            refine Wl.nil ?_
            refine PX.then_n ?_
            refine CT.cond rfl (fun h83 => ?_) (fun h83 => ?_)
            · -- if t83: then
              have h83 := of_decide_eq_true h83
              refine CT.seq ?_
              -- region 13: firstorder.go:55
              refine CT.region ?_
              refine Wl.q rfl rfl (OpQ.assign rfl) ?_
              refine Wl.nil ?_
              refine PX.then_n ?_
              refine CT.ret ?_
              refine PX.then_r ?_
              refine PX.ret1 rfl rfl (fun w' hH => ?_)
              exact ⟨Tl.ret_i (vd_root (Tl.may_in (by omega) (by omega)) (by omega) (okL_ok (fun j hj => hall j (by omega))) (by omega)).symm, hH.ext⟩
            · -- if t83: else
              have h83 := of_decide_eq_false h83
              refine CT.skip ?_
              refine PX.then_n ?_
              refine CT.seq ?_
              -- region 14: firstorder.go:57
              refine CT.region ?_
              refine Wl.q rfl rfl (OpQ.assign rfl) ?_
              refine Wl.nil ?_
              refine PX.then_n ?_
              refine CT.ret ?_
              refine PX.ret1 rfl rfl (fun w' hH => ?_)
              exact ⟨Tl.ret_i (vd_ok (Tl.may_in (by omega) (by omega)) (by omega) (okL_ok (fun j hj => hall j (by omega))) (by omega)).symm, hH.ext⟩

theorem go41 : isGo Try.prog 41 = true := by kernel_rfl
theorem go42 : isGo Try.prog 42 = true := by kernel_rfl
set_option maxRecDepth 100000 in
/-- semigroup/semigroupref38.Validate -/
theorem validateR_spec (w : World) (a : Option Addr) (cp : Nat) (xs : List Fm) (hr : Rd w a (xs.flatMap fv)) (hn : xs.length ≤ 9223372036854775807) (root letters : Int) : Calls Try.prog 19 #[.slice a xs.length cp, .int .i64 (root), .int .i64 (letters)] w (fun e w' => e = .returned (.int .i64 (vdF xs root letters)) ∧ Ext [] w w') := by
  have sm : 0 < xs.length → a.isSome = true := fun h => hr.isSome (j := 0) (by rw [flat_len fv_len]; omega)
  refine enter (args := [.slice a xs.length cp, .int .i64 (root), .int .i64 (letters)]) [] 91 Try.func19 rfl rfl rfl ?_
  refine CT.seq ?_
  -- region 0: ref.go:30
  refine CT.region ?_
  refine Wl.q rfl rfl (OpQ.assign rfl) ?_
  refine Wl.nil ?_
  refine PX.then_n ?_
  refine CT.seq ?_
  refine CT.seq ?_
  -- region 1: ref.go:31
  refine CT.region ?_
  refine Wl.q rfl rfl (OpQ.move rfl) ?_
  refine Wl.g rfl rfl (OpG.callV go40 rfl (fun w hH => may_spec w letters)) ?_
  rintro _ _
  refine Wl.q rfl rfl (OpQ.not rfl) ?_
  refine Wl.nil ?_
  refine PX.then_n ?_
  refine CT.cond rfl (fun h15 => ?_) (fun h15 => ?_)
  · -- if t15: then
    have hm : mayL letters = false := by simpa using h15
    refine CT.seq ?_
    -- region 2: ref.go:32
    refine CT.region ?_
    refine Wl.q rfl rfl (OpQ.assign rfl) ?_
    refine Wl.nil ?_
    refine PX.then_n ?_
    refine CT.ret ?_
    refine PX.then_r ?_
    refine PX.ret1 rfl rfl (fun w' hH => ?_)
    exact ⟨Tl.ret_i (vd_mayF hm).symm, hH.ext⟩
  · -- if t15: else
    have hm : mayL letters = true := by simpa using h15
    refine CT.skip ?_
    refine PX.then_n ?_
    refine CT.seq ?_
    refine CT.seq ?_
    -- region 3: ref.go:34
    refine CT.region ?_
    refine Wl.q rfl rfl (OpQ.move rfl) ?_
    refine Wl.q rfl rfl (OpQ.len un26 rfl) ?_
    refine Wl.q rfl rfl (OpQ.gtr rfl rfl) ?_
    refine Wl.nil ?_
    refine PX.then_n ?_
    refine CT.cond rfl (fun h18 => ?_) (fun h18 => ?_)
    · -- if t18: then
      have h18 := of_decide_eq_true h18
      refine CT.seq ?_
      -- region 4: ref.go:35
      refine CT.region ?_
      refine Wl.q rfl rfl (OpQ.assign rfl) ?_
      refine Wl.nil ?_
      refine PX.then_n ?_
      refine CT.ret ?_
      refine PX.then_r ?_
      refine PX.ret1 rfl rfl (fun w' hH => ?_)
      exact ⟨Tl.ret_i (vd_long hm (by omega)).symm, hH.ext⟩
    · -- if t18: else
      have h18 := of_decide_eq_false h18
      refine CT.skip ?_
      refine PX.then_n ?_
      refine CT.seq ?_
      refine CT.seq ?_
      -- region 5: ref.go:37
      refine CT.region ?_
      refine Wl.q rfl rfl (OpQ.move rfl) ?_
      refine Wl.q rfl rfl (OpQ.len un26 rfl) ?_
      refine Wl.q rfl rfl (OpQ.move rfl) ?_
      refine Wl.nil ?_
      refine PX.then_n ?_
      refine CT.block ?_
      -- the loop at region 6
      refine CT.loop (ι := Nat) (fun k => k ≤ xs.length ∧ ∀ j, j < k → okF (xs.getD j f0) j letters = true) (fun k => [(0, .slice a xs.length cp), (1, .int .i64 (root)), (2, .int .i64 (letters)), (19, .slice a xs.length cp), (20, .int .i64 (xs.length : Int)), (21, .int .i64 (k : Int))]) (fun _ => []) (fun k => xs.length - k) 0 ⟨by omega, by omega⟩ ⟨rfl, rfl, rfl, rfl, rfl, rfl, trivial⟩ (HSub.none _) (fun k ⟨hk, hall⟩ K0 hK0 => ?_)
      refine CT.seq ?_
      -- region 6: ref.go:37
      refine CT.region ?_
      refine Wl.q rfl rfl (OpQ.lss rfl rfl) ?_
      refine Wl.nil ?_
      refine PX.then_n ?_
      refine CT.seq ?_
      refine CT.cond rfl (fun h22 => ?_) (fun h22 => ?_)
      · -- if t22: then
        have h22 := of_decide_eq_true h22
        refine CT.skip ?_
        refine PX.then_n ?_
        refine CT.seq ?_
        refine CT.block ?_
        refine CT.seq ?_
        -- region 7: ref.go:37
        refine CT.region ?_
        refine Wl.q rfl rfl (OpQ.move rfl) ?_
        refine Wl.q rfl rfl (OpQ.index un26 sz29 rfl rfl (by omega) (sm (by omega))) ?_
        refine Wl.q rfl rfl (OpQ.loadAggG (cs := fv (xs.getD k f0)) ag29 sz29 rfl (fun w hH => hH.rd0 hr rfl) (flat_cells fv_len xs f0 (by omega))) ?_
        refine Wl.g rfl rfl (OpG.alloc (zs := [.int .i64 0, .int .i64 0, .int .i64 0, .int .i64 0, .int .i64 0, .int .i64 0]) in29 rfl rfl) ?_
        rintro b8 _
        refine Wl.q rfl rfl (OpQ.assign rfl) ?_
        refine Wl.g rfl rfl (OpG.storeV (b := b8) sz29 rfl rfl rfl rfl (by repeat (first | exact Upd.here | apply Upd.there))) ?_
        rintro _ _
        refine Wl.nil ?_
        refine PX.then_n ?_
        refine CT.seq ?_
        -- region 8: ref.go:38
        refine CT.region ?_
        refine Wl.q rfl rfl (OpQ.fieldAddr fa29_0 rfl) ?_
        refine Wl.q rfl rfl (OpQ.loadF (b := b8) sc3 rfl (by repeat (first | exact Has.here | apply Has.there)) (by rfl)) ?_
        refine Wl.g rfl rfl (OpG.callV go41 rfl (fun w hH => refers_spec w _)) ?_
        rintro _ _
        refine Wl.q rfl rfl (OpQ.move rfl) ?_
        refine Wl.q rfl rfl (OpQ.extract rfl rfl) ?_
        refine Wl.q rfl rfl (OpQ.extract rfl rfl) ?_
        refine Wl.q rfl rfl (OpQ.extract rfl rfl) ?_
        refine Wl.q rfl rfl (OpQ.extract rfl rfl) ?_
        refine Wl.q rfl rfl (OpQ.assign rfl) ?_
        refine Wl.q rfl rfl (OpQ.assign rfl) ?_
        refine Wl.q rfl rfl (OpQ.assign rfl) ?_
        refine Wl.q rfl rfl (OpQ.assign rfl) ?_
        refine Wl.nil ?_
        refine PX.then_n ?_
        refine CT.weak (E' := [(0, _), (1, _), (2, _), (7, _), (8, _), (9, _), (10, _), (11, _), (12, _), (19, _), (20, _), (21, _)]) (by repeat (first | exact trivial | refine ⟨rfl, ?_⟩)) (HSub.refl _) ?_
        refine CT.cutB 81 (!okF (xs.getD k f0) k letters) (fun K1 hK1 => ?_) ?_
        · -- up to the join
          -- region 9: ref.go:39
          refine CT.region ?_
          refine Wl.q rfl rfl (OpQ.fieldAddr fa29_0 rfl) ?_
          refine Wl.q rfl rfl (OpQ.loadF (b := b8) sc3 rfl (by repeat (first | exact Has.here | apply Has.there)) (by rfl)) ?_
          refine Wl.q rfl rfl (OpQ.lss rfl rfl) ?_
          refine Wl.q rfl rfl (OpQ.move rfl) ?_
          refine Wl.split 37 rfl (fun hg37 => ?_) (fun hg37 => ?_)
          · -- t37 = True
            refine Wl.skip rfl rfl ?_
            refine Wl.skip rfl rfl ?_
            refine Wl.skip rfl rfl ?_
            refine Wl.q rfl rfl (OpQ.pickT rfl rfl) ?_
            refine Wl.q rfl rfl (OpQ.move rfl) ?_
            refine Wl.skip rfl rfl ?_
            refine Wl.skip rfl rfl ?_
            refine Wl.skip rfl rfl ?_
            refine Wl.skip rfl rfl ?_
            refine Wl.skip rfl rfl ?_
            refine Wl.q rfl rfl (OpQ.pickT rfl rfl) ?_
            refine Wl.q rfl rfl (OpQ.move rfl) ?_
            refine Wl.skip rfl rfl ?_
            refine Wl.skip rfl rfl ?_
            refine Wl.skip rfl rfl ?_
            refine Wl.skip rfl rfl ?_
            refine Wl.skip rfl rfl ?_
            refine Wl.q rfl rfl (OpQ.pickT rfl rfl) ?_
            refine Wl.q rfl rfl (OpQ.move rfl) ?_
            refine Wl.skip rfl rfl ?_
            refine Wl.skip rfl rfl ?_
            refine Wl.skip rfl rfl ?_
            refine Wl.skip rfl rfl ?_
            refine Wl.skip rfl rfl ?_
            refine Wl.skip rfl rfl ?_
            refine Wl.q rfl rfl (OpQ.pickT rfl rfl) ?_
            refine Wl.q rfl rfl (OpQ.move rfl) ?_
            refine Wl.skip rfl rfl ?_
            refine Wl.skip rfl rfl ?_
            refine Wl.skip rfl rfl ?_
            refine Wl.skip rfl rfl ?_
            refine Wl.skip rfl rfl ?_
            refine Wl.skip rfl rfl ?_
            refine Wl.skip rfl rfl ?_
            refine Wl.q rfl rfl (OpQ.pickT rfl rfl) ?_
            refine Wl.q rfl rfl (OpQ.move rfl) ?_
            refine Wl.skip rfl rfl ?_
            refine Wl.skip rfl rfl ?_
            refine Wl.skip rfl rfl ?_
            refine Wl.skip rfl rfl ?_
            refine Wl.skip rfl rfl ?_
            refine Wl.skip rfl rfl ?_
            refine Wl.skip rfl rfl ?_
            refine Wl.q rfl rfl (OpQ.pickT rfl rfl) ?_
            refine Wl.nil ?_
            exact PX.cutB hK1 ⟨lkV rfl (congrArg Value.bool (by first | (rw [ok_chain]; simp only [hg37, hg42, hg49, hg56, hg64, hg73, Bool.or_true, Bool.true_or, Bool.or_false, Bool.false_or, Bool.not_true, Bool.not_false]) | (rw [ok_chain]; simp only [hg37, hg42, hg49, hg56, hg64, Bool.or_true, Bool.true_or, Bool.or_false, Bool.false_or, Bool.not_true, Bool.not_false]) | (rw [ok_chain]; simp only [hg37, hg42, hg49, hg56, Bool.or_true, Bool.true_or, Bool.or_false, Bool.false_or, Bool.not_true, Bool.not_false]) | (rw [ok_chain]; simp only [hg37, hg42, hg49, Bool.or_true, Bool.true_or, Bool.or_false, Bool.false_or, Bool.not_true, Bool.not_false]) | (rw [ok_chain]; simp only [hg37, hg42, Bool.or_true, Bool.true_or, Bool.or_false, Bool.false_or, Bool.not_true, Bool.not_false]) | (rw [ok_chain]; simp only [hg37, Bool.or_true, Bool.true_or, Bool.or_false, Bool.false_or, Bool.not_true, Bool.not_false]) | (rw [ok_chain]; simp only [Bool.or_true, Bool.true_or, Bool.or_false, Bool.false_or, Bool.not_true, Bool.not_false]))), (by repeat (first | exact trivial | refine ⟨rfl, ?_⟩))⟩ (HSub.refl _)
          · -- t37 = False
            refine Wl.q rfl rfl (OpQ.fieldAddr fa29_0 rfl) ?_
            refine Wl.q rfl rfl (OpQ.loadF (b := b8) sc3 rfl (by repeat (first | exact Has.here | apply Has.there)) (by rfl)) ?_
            refine Wl.q rfl rfl (OpQ.gtr rfl rfl) ?_
            refine Wl.q rfl rfl (OpQ.pickF rfl rfl) ?_
            refine Wl.q rfl rfl (OpQ.move rfl) ?_
            refine Wl.split 42 rfl (fun hg42 => ?_) (fun hg42 => ?_)
            · -- t42 = True
              refine Wl.skip rfl rfl ?_
              refine Wl.skip rfl rfl ?_
              refine Wl.skip rfl rfl ?_
              refine Wl.skip rfl rfl ?_
              refine Wl.skip rfl rfl ?_
              refine Wl.q rfl rfl (OpQ.pickT rfl rfl) ?_
              refine Wl.q rfl rfl (OpQ.move rfl) ?_
              refine Wl.skip rfl rfl ?_
              refine Wl.skip rfl rfl ?_
              refine Wl.skip rfl rfl ?_
              refine Wl.skip rfl rfl ?_
              refine Wl.skip rfl rfl ?_
              refine Wl.q rfl rfl (OpQ.pickT rfl rfl) ?_
              refine Wl.q rfl rfl (OpQ.move rfl) ?_
              refine Wl.skip rfl rfl ?_
              refine Wl.skip rfl rfl ?_
              refine Wl.skip rfl rfl ?_
              refine Wl.skip rfl rfl ?_
              refine Wl.skip rfl rfl ?_
              refine Wl.skip rfl rfl ?_
              refine Wl.q rfl rfl (OpQ.pickT rfl rfl) ?_
              refine Wl.q rfl rfl (OpQ.move rfl) ?_
              refine Wl.skip rfl rfl ?_
              refine Wl.skip rfl rfl ?_
              refine Wl.skip rfl rfl ?_
              refine Wl.skip rfl rfl ?_
              refine Wl.skip rfl rfl ?_
              refine Wl.skip rfl rfl ?_
              refine Wl.skip rfl rfl ?_
              refine Wl.q rfl rfl (OpQ.pickT rfl rfl) ?_
              refine Wl.q rfl rfl (OpQ.move rfl) ?_
              refine Wl.skip rfl rfl ?_
              refine Wl.skip rfl rfl ?_
              refine Wl.skip rfl rfl ?_
              refine Wl.skip rfl rfl ?_
              refine Wl.skip rfl rfl ?_
              refine Wl.skip rfl rfl ?_
              refine Wl.skip rfl rfl ?_
              refine Wl.q rfl rfl (OpQ.pickT rfl rfl) ?_
              refine Wl.nil ?_
              exact PX.cutB hK1 ⟨lkV rfl (congrArg Value.bool (by first | (rw [ok_chain]; simp only [hg37, hg42, hg49, hg56, hg64, hg73, Bool.or_true, Bool.true_or, Bool.or_false, Bool.false_or, Bool.not_true, Bool.not_false]) | (rw [ok_chain]; simp only [hg37, hg42, hg49, hg56, hg64, Bool.or_true, Bool.true_or, Bool.or_false, Bool.false_or, Bool.not_true, Bool.not_false]) | (rw [ok_chain]; simp only [hg37, hg42, hg49, hg56, Bool.or_true, Bool.true_or, Bool.or_false, Bool.false_or, Bool.not_true, Bool.not_false]) | (rw [ok_chain]; simp only [hg37, hg42, hg49, Bool.or_true, Bool.true_or, Bool.or_false, Bool.false_or, Bool.not_true, Bool.not_false]) | (rw [ok_chain]; simp only [hg37, hg42, Bool.or_true, Bool.true_or, Bool.or_false, Bool.false_or, Bool.not_true, Bool.not_false]) | (rw [ok_chain]; simp only [hg37, Bool.or_true, Bool.true_or, Bool.or_false, Bool.false_or, Bool.not_true, Bool.not_false]) | (rw [ok_chain]; simp only [Bool.or_true, Bool.true_or, Bool.or_false, Bool.false_or, Bool.not_true, Bool.not_false]))), (by repeat (first | exact trivial | refine ⟨rfl, ?_⟩))⟩ (HSub.refl _)
            · -- t42 = False
              refine Wl.q rfl rfl (OpQ.fieldAddr fa29_1 rfl) ?_
              refine Wl.q rfl rfl (OpQ.loadF (b := b8) sc3 rfl (by repeat (first | exact Has.here | apply Has.there)) (by rfl)) ?_
              refine Wl.q rfl rfl (OpQ.move rfl) ?_
              refine Wl.g rfl rfl (OpG.callV go42 rfl (fun w hH => fits_spec w _ _ _)) ?_
              rintro _ _
              refine Wl.q rfl rfl (OpQ.not rfl) ?_
              refine Wl.q rfl rfl (OpQ.pickF rfl rfl) ?_
              refine Wl.q rfl rfl (OpQ.move rfl) ?_
              refine Wl.split 49 rfl (fun hg49 => ?_) (fun hg49 => ?_)
              · -- t49 = True
                refine Wl.skip rfl rfl ?_
                refine Wl.skip rfl rfl ?_
                refine Wl.skip rfl rfl ?_
                refine Wl.skip rfl rfl ?_
                refine Wl.skip rfl rfl ?_
                refine Wl.q rfl rfl (OpQ.pickT rfl rfl) ?_
                refine Wl.q rfl rfl (OpQ.move rfl) ?_
                refine Wl.skip rfl rfl ?_
                refine Wl.skip rfl rfl ?_
                refine Wl.skip rfl rfl ?_
                refine Wl.skip rfl rfl ?_
                refine Wl.skip rfl rfl ?_
                refine Wl.skip rfl rfl ?_
                refine Wl.q rfl rfl (OpQ.pickT rfl rfl) ?_
                refine Wl.q rfl rfl (OpQ.move rfl) ?_
                refine Wl.skip rfl rfl ?_
                refine Wl.skip rfl rfl ?_
                refine Wl.skip rfl rfl ?_
                refine Wl.skip rfl rfl ?_
                refine Wl.skip rfl rfl ?_
                refine Wl.skip rfl rfl ?_
                refine Wl.skip rfl rfl ?_
                refine Wl.q rfl rfl (OpQ.pickT rfl rfl) ?_
                refine Wl.q rfl rfl (OpQ.move rfl) ?_
                refine Wl.skip rfl rfl ?_
                refine Wl.skip rfl rfl ?_
                refine Wl.skip rfl rfl ?_
                refine Wl.skip rfl rfl ?_
                refine Wl.skip rfl rfl ?_
                refine Wl.skip rfl rfl ?_
                refine Wl.skip rfl rfl ?_
                refine Wl.q rfl rfl (OpQ.pickT rfl rfl) ?_
                refine Wl.nil ?_
                exact PX.cutB hK1 ⟨lkV rfl (congrArg Value.bool (by first | (rw [ok_chain]; simp only [hg37, hg42, hg49, hg56, hg64, hg73, Bool.or_true, Bool.true_or, Bool.or_false, Bool.false_or, Bool.not_true, Bool.not_false]) | (rw [ok_chain]; simp only [hg37, hg42, hg49, hg56, hg64, Bool.or_true, Bool.true_or, Bool.or_false, Bool.false_or, Bool.not_true, Bool.not_false]) | (rw [ok_chain]; simp only [hg37, hg42, hg49, hg56, Bool.or_true, Bool.true_or, Bool.or_false, Bool.false_or, Bool.not_true, Bool.not_false]) | (rw [ok_chain]; simp only [hg37, hg42, hg49, Bool.or_true, Bool.true_or, Bool.or_false, Bool.false_or, Bool.not_true, Bool.not_false]) | (rw [ok_chain]; simp only [hg37, hg42, Bool.or_true, Bool.true_or, Bool.or_false, Bool.false_or, Bool.not_true, Bool.not_false]) | (rw [ok_chain]; simp only [hg37, Bool.or_true, Bool.true_or, Bool.or_false, Bool.false_or, Bool.not_true, Bool.not_false]) | (rw [ok_chain]; simp only [Bool.or_true, Bool.true_or, Bool.or_false, Bool.false_or, Bool.not_true, Bool.not_false]))), (by repeat (first | exact trivial | refine ⟨rfl, ?_⟩))⟩ (HSub.refl _)
              · -- t49 = False
                refine Wl.q rfl rfl (OpQ.fieldAddr fa29_2 rfl) ?_
                refine Wl.q rfl rfl (OpQ.loadF (b := b8) sc3 rfl (by repeat (first | exact Has.here | apply Has.there)) (by rfl)) ?_
                refine Wl.q rfl rfl (OpQ.move rfl) ?_
                refine Wl.g rfl rfl (OpG.callV go42 rfl (fun w hH => fits_spec w _ _ _)) ?_
                rintro _ _
                refine Wl.q rfl rfl (OpQ.not rfl) ?_
                refine Wl.q rfl rfl (OpQ.pickF rfl rfl) ?_
                refine Wl.q rfl rfl (OpQ.move rfl) ?_
                refine Wl.split 56 rfl (fun hg56 => ?_) (fun hg56 => ?_)
                · -- t56 = True
                  refine Wl.skip rfl rfl ?_
                  refine Wl.skip rfl rfl ?_
                  refine Wl.skip rfl rfl ?_
                  refine Wl.skip rfl rfl ?_
                  refine Wl.skip rfl rfl ?_
                  refine Wl.skip rfl rfl ?_
                  refine Wl.q rfl rfl (OpQ.pickT rfl rfl) ?_
                  refine Wl.q rfl rfl (OpQ.move rfl) ?_
                  refine Wl.skip rfl rfl ?_
                  refine Wl.skip rfl rfl ?_
                  refine Wl.skip rfl rfl ?_
                  refine Wl.skip rfl rfl ?_
                  refine Wl.skip rfl rfl ?_
                  refine Wl.skip rfl rfl ?_
                  refine Wl.skip rfl rfl ?_
                  refine Wl.q rfl rfl (OpQ.pickT rfl rfl) ?_
                  refine Wl.q rfl rfl (OpQ.move rfl) ?_
                  refine Wl.skip rfl rfl ?_
                  refine Wl.skip rfl rfl ?_
                  refine Wl.skip rfl rfl ?_
                  refine Wl.skip rfl rfl ?_
                  refine Wl.skip rfl rfl ?_
                  refine Wl.skip rfl rfl ?_
                  refine Wl.skip rfl rfl ?_
                  refine Wl.q rfl rfl (OpQ.pickT rfl rfl) ?_
                  refine Wl.nil ?_
                  exact PX.cutB hK1 ⟨lkV rfl (congrArg Value.bool (by first | (rw [ok_chain]; simp only [hg37, hg42, hg49, hg56, hg64, hg73, Bool.or_true, Bool.true_or, Bool.or_false, Bool.false_or, Bool.not_true, Bool.not_false]) | (rw [ok_chain]; simp only [hg37, hg42, hg49, hg56, hg64, Bool.or_true, Bool.true_or, Bool.or_false, Bool.false_or, Bool.not_true, Bool.not_false]) | (rw [ok_chain]; simp only [hg37, hg42, hg49, hg56, Bool.or_true, Bool.true_or, Bool.or_false, Bool.false_or, Bool.not_true, Bool.not_false]) | (rw [ok_chain]; simp only [hg37, hg42, hg49, Bool.or_true, Bool.true_or, Bool.or_false, Bool.false_or, Bool.not_true, Bool.not_false]) | (rw [ok_chain]; simp only [hg37, hg42, Bool.or_true, Bool.true_or, Bool.or_false, Bool.false_or, Bool.not_true, Bool.not_false]) | (rw [ok_chain]; simp only [hg37, Bool.or_true, Bool.true_or, Bool.or_false, Bool.false_or, Bool.not_true, Bool.not_false]) | (rw [ok_chain]; simp only [Bool.or_true, Bool.true_or, Bool.or_false, Bool.false_or, Bool.not_true, Bool.not_false]))), (by repeat (first | exact trivial | refine ⟨rfl, ?_⟩))⟩ (HSub.refl _)
                · -- t56 = False
                  refine Wl.q rfl rfl (OpQ.fieldAddr fa29_3 rfl) ?_
                  refine Wl.q rfl rfl (OpQ.loadF (b := b8) sc3 rfl (by repeat (first | exact Has.here | apply Has.there)) (by rfl)) ?_
                  refine Wl.q rfl rfl (OpQ.move rfl) ?_
                  refine Wl.q rfl rfl (OpQ.move rfl) ?_
                  refine Wl.g rfl rfl (OpG.callV go42 rfl (fun w hH => fits_spec w _ _ _)) ?_
                  rintro _ _
                  refine Wl.q rfl rfl (OpQ.not rfl) ?_
                  refine Wl.q rfl rfl (OpQ.pickF rfl rfl) ?_
                  refine Wl.q rfl rfl (OpQ.move rfl) ?_
                  refine Wl.split 64 rfl (fun hg64 => ?_) (fun hg64 => ?_)
                  · -- t64 = True
                    refine Wl.skip rfl rfl ?_
                    refine Wl.skip rfl rfl ?_
                    refine Wl.skip rfl rfl ?_
                    refine Wl.skip rfl rfl ?_
                    refine Wl.skip rfl rfl ?_
                    refine Wl.skip rfl rfl ?_
                    refine Wl.skip rfl rfl ?_
                    refine Wl.q rfl rfl (OpQ.pickT rfl rfl) ?_
                    refine Wl.q rfl rfl (OpQ.move rfl) ?_
                    refine Wl.skip rfl rfl ?_
                    refine Wl.skip rfl rfl ?_
                    refine Wl.skip rfl rfl ?_
                    refine Wl.skip rfl rfl ?_
                    refine Wl.skip rfl rfl ?_
                    refine Wl.skip rfl rfl ?_
                    refine Wl.skip rfl rfl ?_
                    refine Wl.q rfl rfl (OpQ.pickT rfl rfl) ?_
                    refine Wl.nil ?_
                    exact PX.cutB hK1 ⟨lkV rfl (congrArg Value.bool (by first | (rw [ok_chain]; simp only [hg37, hg42, hg49, hg56, hg64, hg73, Bool.or_true, Bool.true_or, Bool.or_false, Bool.false_or, Bool.not_true, Bool.not_false]) | (rw [ok_chain]; simp only [hg37, hg42, hg49, hg56, hg64, Bool.or_true, Bool.true_or, Bool.or_false, Bool.false_or, Bool.not_true, Bool.not_false]) | (rw [ok_chain]; simp only [hg37, hg42, hg49, hg56, Bool.or_true, Bool.true_or, Bool.or_false, Bool.false_or, Bool.not_true, Bool.not_false]) | (rw [ok_chain]; simp only [hg37, hg42, hg49, Bool.or_true, Bool.true_or, Bool.or_false, Bool.false_or, Bool.not_true, Bool.not_false]) | (rw [ok_chain]; simp only [hg37, hg42, Bool.or_true, Bool.true_or, Bool.or_false, Bool.false_or, Bool.not_true, Bool.not_false]) | (rw [ok_chain]; simp only [hg37, Bool.or_true, Bool.true_or, Bool.or_false, Bool.false_or, Bool.not_true, Bool.not_false]) | (rw [ok_chain]; simp only [Bool.or_true, Bool.true_or, Bool.or_false, Bool.false_or, Bool.not_true, Bool.not_false]))), (by repeat (first | exact trivial | refine ⟨rfl, ?_⟩))⟩ (HSub.refl _)
                  · -- t64 = False
                    refine Wl.q rfl rfl (OpQ.fieldAddr fa29_4 rfl) ?_
                    refine Wl.q rfl rfl (OpQ.loadF (b := b8) sc3 rfl (by repeat (first | exact Has.here | apply Has.there)) (by rfl)) ?_
                    refine Wl.q rfl rfl (OpQ.move rfl) ?_
                    refine Wl.q rfl rfl (OpQ.gtr rfl rfl) ?_
                    refine Wl.know 68 (v' := .bool (ga (xs.getD k f0).op)) rfl (congrArg Value.bool (rn_a _)) ?_
                    refine Wl.q rfl rfl (OpQ.move rfl) ?_
                    refine Wl.g rfl rfl (OpG.callV go42 rfl (fun w hH => fits_spec w _ _ _)) ?_
                    rintro _ _
                    refine Wl.q rfl rfl (OpQ.not rfl) ?_
                    refine Wl.q rfl rfl (OpQ.pickF rfl rfl) ?_
                    refine Wl.q rfl rfl (OpQ.move rfl) ?_
                    refine Wl.split 73 rfl (fun hg73 => ?_) (fun hg73 => ?_)
                    · -- t73 = True
                      refine Wl.skip rfl rfl ?_
                      refine Wl.skip rfl rfl ?_
                      refine Wl.skip rfl rfl ?_
                      refine Wl.skip rfl rfl ?_
                      refine Wl.skip rfl rfl ?_
                      refine Wl.skip rfl rfl ?_
                      refine Wl.skip rfl rfl ?_
                      refine Wl.q rfl rfl (OpQ.pickT rfl rfl) ?_
                      refine Wl.nil ?_
                      exact PX.cutB hK1 ⟨lkV rfl (congrArg Value.bool (by first | (rw [ok_chain]; simp only [hg37, hg42, hg49, hg56, hg64, hg73, Bool.or_true, Bool.true_or, Bool.or_false, Bool.false_or, Bool.not_true, Bool.not_false]) | (rw [ok_chain]; simp only [hg37, hg42, hg49, hg56, hg64, Bool.or_true, Bool.true_or, Bool.or_false, Bool.false_or, Bool.not_true, Bool.not_false]) | (rw [ok_chain]; simp only [hg37, hg42, hg49, hg56, Bool.or_true, Bool.true_or, Bool.or_false, Bool.false_or, Bool.not_true, Bool.not_false]) | (rw [ok_chain]; simp only [hg37, hg42, hg49, Bool.or_true, Bool.true_or, Bool.or_false, Bool.false_or, Bool.not_true, Bool.not_false]) | (rw [ok_chain]; simp only [hg37, hg42, Bool.or_true, Bool.true_or, Bool.or_false, Bool.false_or, Bool.not_true, Bool.not_false]) | (rw [ok_chain]; simp only [hg37, Bool.or_true, Bool.true_or, Bool.or_false, Bool.false_or, Bool.not_true, Bool.not_false]) | (rw [ok_chain]; simp only [Bool.or_true, Bool.true_or, Bool.or_false, Bool.false_or, Bool.not_true, Bool.not_false]))), (by repeat (first | exact trivial | refine ⟨rfl, ?_⟩))⟩ (HSub.refl _)
                    · -- t73 = False
                      refine Wl.q rfl rfl (OpQ.fieldAddr fa29_5 rfl) ?_
                      refine Wl.q rfl rfl (OpQ.loadF (b := b8) sc3 rfl (by repeat (first | exact Has.here | apply Has.there)) (by rfl)) ?_
                      refine Wl.q rfl rfl (OpQ.move rfl) ?_
                      refine Wl.q rfl rfl (OpQ.gtr rfl rfl) ?_
                      refine Wl.know 77 (v' := .bool (gb (xs.getD k f0).op)) rfl (congrArg Value.bool (rn_b _)) ?_
                      refine Wl.q rfl rfl (OpQ.move rfl) ?_
                      refine Wl.g rfl rfl (OpG.callV go42 rfl (fun w hH => fits_spec w _ _ _)) ?_
                      rintro _ _
                      refine Wl.q rfl rfl (OpQ.not rfl) ?_
                      refine Wl.q rfl rfl (OpQ.pickF rfl rfl) ?_
                      refine Wl.nil ?_
                      exact PX.cutB hK1 ⟨lkV rfl (congrArg Value.bool (by first | (rw [ok_chain]; simp only [hg37, hg42, hg49, hg56, hg64, hg73, Bool.or_true, Bool.true_or, Bool.or_false, Bool.false_or, Bool.not_true, Bool.not_false]) | (rw [ok_chain]; simp only [hg37, hg42, hg49, hg56, hg64, Bool.or_true, Bool.true_or, Bool.or_false, Bool.false_or, Bool.not_true, Bool.not_false]) | (rw [ok_chain]; simp only [hg37, hg42, hg49, hg56, Bool.or_true, Bool.true_or, Bool.or_false, Bool.false_or, Bool.not_true, Bool.not_false]) | (rw [ok_chain]; simp only [hg37, hg42, hg49, Bool.or_true, Bool.true_or, Bool.or_false, Bool.false_or, Bool.not_true, Bool.not_false]) | (rw [ok_chain]; simp only [hg37, hg42, Bool.or_true, Bool.true_or, Bool.or_false, Bool.false_or, Bool.not_true, Bool.not_false]) | (rw [ok_chain]; simp only [hg37, Bool.or_true, Bool.true_or, Bool.or_false, Bool.false_or, Bool.not_true, Bool.not_false]) | (rw [ok_chain]; simp only [Bool.or_true, Bool.true_or, Bool.or_false, Bool.false_or, Bool.not_true, Bool.not_false]))), (by repeat (first | exact trivial | refine ⟨rfl, ?_⟩))⟩ (HSub.refl _)
        · -- from the join on
          refine CT.cond rfl (fun h81 => ?_) (fun h81 => ?_)
          · -- if t81: then
            refine CT.seq ?_
            -- region 10: ref.go:40
            refine CT.region ?_
            refine Wl.q rfl rfl (OpQ.assign rfl) ?_
            refine Wl.nil ?_
            refine PX.then_n ?_
            refine CT.ret ?_
            refine PX.block_r ?_
            refine PX.then_r ?_
            refine PX.then_r ?_
            refine PX.block_r ?_
            refine PX.then_r ?_
            refine PX.ret1 rfl rfl (fun w' hH => ?_)
            exact ⟨Tl.ret_i (vd_bad hm (by omega) (okL_bad (k := k) (by omega) (by simpa [-List.getD_eq_getElem?_getD] using h81))).symm, hH.ext⟩
          · -- if t81: else
            refine CT.skip ?_
            refine PX.block_n ?_
            refine PX.then_n ?_
            -- region 11: ref.go:37
            refine CT.region ?_
            refine Wl.q rfl rfl (OpQ.add rfl rfl (by omega)) ?_
            refine Wl.q rfl rfl (OpQ.move rfl) ?_
            refine Wl.nil ?_
            have hall2 : ∀ j, j < k + 1 → okF (xs.getD j f0) j letters = true := fun j hj => by
              rcases Nat.lt_or_ge j k with h | h
              · exact hall j h
              · rw [show j = k by omega]; exact (by simpa [-List.getD_eq_getElem?_getD] using h81)
            exact PX.loop hK0 (k + 1) ⟨by omega, hall2⟩ (by first | omega | (dsimp only; omega)) ⟨rfl, rfl, rfl, rfl, rfl, rfl, trivial⟩ (HSub.none _)
      · -- if t22: else
        have h22 := of_decide_eq_false h22
        refine CT.exit ?_
        refine PX.then_x ?_
        refine PX.then_x ?_
        refine PX.block_x ?_
        refine PX.then_n ?_
        refine CT.seq ?_
        refine CT.seq ?_
        -- region 12: ref.go:43
        refine CT.region ?_
        refine Wl.q rfl rfl (OpQ.move rfl) ?_
        refine Wl.q rfl rfl (OpQ.lss rfl rfl) ?_
        refine Wl.q rfl rfl (OpQ.move rfl) ?_
        refine Wl.split 85 rfl (fun hg85 => ?_) (fun hg85 => ?_)
        · -- t85 = True
          have hg85 := of_decide_eq_true hg85
          refine Wl.skip rfl rfl ?_
          refine Wl.skip rfl rfl ?_
          refine Wl.skip rfl rfl ?_
          refine Wl.skip rfl rfl ?_
          refine Wl.q rfl rfl (OpQ.pickT rfl rfl) ?_
          refine Wl.nil ?_
          refine PX.then_n ?_
          refine CT.condT rfl ?_
          refine CT.seq ?_
          -- region 13: ref.go:44
          refine CT.region ?_
          refine Wl.q rfl rfl (OpQ.assign rfl) ?_
          refine Wl.nil ?_
          refine PX.then_n ?_
          refine CT.ret ?_
          refine PX.then_r ?_
          refine PX.ret1 rfl rfl (fun w' hH => ?_)
          exact ⟨Tl.ret_i (vd_root hm (by omega) (okL_ok (fun j hj => hall j (by omega))) (by omega)).symm, hH.ext⟩
        · -- t85 = False
          have hg85 := of_decide_eq_false hg85
          refine Wl.q rfl rfl (OpQ.move rfl) ?_
          refine Wl.q rfl rfl (OpQ.move rfl) ?_
          refine Wl.q rfl rfl (OpQ.len un26 rfl) ?_
          refine Wl.q rfl rfl (OpQ.geq rfl rfl) ?_
          refine Wl.q rfl rfl (OpQ.pickF rfl rfl) ?_
          refine Wl.nil ?_
          refine PX.then_n ?_
          refine CT.cond rfl (fun h90 => ?_) (fun h90 => ?_)
          · -- if t90: then
            have h90 := of_decide_eq_true h90
            refine CT.seq ?_
            -- region 13: ref.go:44
            refine CT.region ?_
            refine Wl.q rfl rfl (OpQ.assign rfl) ?_
            refine Wl.nil ?_
            refine PX.then_n ?_
            refine CT.ret ?_
            refine PX.then_r ?_
            refine PX.ret1 rfl rfl (fun w' hH => ?_)
            exact ⟨Tl.ret_i (vd_root hm (by omega) (okL_ok (fun j hj => hall j (by omega))) (by omega)).symm, hH.ext⟩
          · -- if t90: else
            have h90 := of_decide_eq_false h90
            refine CT.skip ?_
            refine PX.then_n ?_
            refine CT.seq ?_
            -- region 14: ref.go:46
            refine CT.region ?_
            refine Wl.q rfl rfl (OpQ.assign rfl) ?_
            refine Wl.nil ?_
            refine PX.then_n ?_
            refine CT.ret ?_
            refine PX.ret1 rfl rfl (fun w' hH => ?_)
            exact ⟨Tl.ret_i (vd_ok hm (by omega) (okL_ok (fun j hj => hall j (by omega))) (by omega)).symm, hH.ext⟩

end Go.Proofs.Ytdcjemjfliaaiaa
