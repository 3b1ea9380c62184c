/-
  What the functions of package relation and of its reference compute, each by its walk. Conditions: those that each theorem names.
-/
import Derived.Test.YtbefnlnnnpinnaaMod
import Derived.Test.YtbefnlnnnpinnaaProg
namespace Go.Proofs.Ytbefnlnnnpinnaa
open Go Go.Eng Go.Rel

set_option maxRecDepth 100000 in
/-- semigroup/relation.points -/
theorem points_spec (w : World) (m : Int) (h : 0 ≤ m) : Calls Try.prog 15 #[.int .i64 m] w (fun e w' => e = .returned (u (pts m.toNat)) ∧ Ext [] w w') := by
  refine enter (args := [.int .i64 m]) [] 6 Try.func15 rfl rfl rfl ?_
  refine CT.seq ?_
  -- region 0: relation.go:10
  refine CT.region ?_
  refine Wl.q rfl rfl (OpQ.assign rfl) ?_
  refine Wl.nil ?_
  refine PX.then_n ?_
  refine CT.seq ?_
  -- region 1: relation.go:10
  refine CT.region ?_
  refine Wl.q rfl rfl (OpQ.move rfl) ?_
  refine Wl.q rfl rfl (OpQ.ushl (p := 1#64) rfl rfl (by omega)) ?_
  refine Wl.q rfl rfl (OpQ.usub (q := 1#64) rfl rfl) ?_
  refine Wl.q rfl rfl (OpQ.assign rfl) ?_
  refine Wl.nil ?_
  refine PX.then_n ?_
  refine CT.ret ?_
  refine PX.ret1 rfl rfl (fun w' hH => ?_)
  exact ⟨rfl, hH.ext⟩

theorem un22 : Try.prog.underlying 22 = some (.slice 29) := by kernel_rfl
theorem sz29 : sizeB Try.prog 29 = some 1 := by kernel_rfl
theorem sc29 : scalarB Try.prog 29 = some true := by kernel_rfl
theorem go15 : isGo Try.prog 15 = true := by kernel_rfl
set_option maxRecDepth 100000 in
/-- semigroup/relation.Valid -/
theorem valid_spec (w : World) (a : Option Addr) (cp : Nat) (xs : List (BitVec 64)) (hr : Rd w a (xs.map u)) (hn : xs.length ≤ 9223372036854775807) : Calls Try.prog 11 #[.slice a xs.length cp] w (fun e w' => e = .returned (.bool (validB xs)) ∧ Ext [] w w') := by
  refine enter (args := [.slice a xs.length cp]) [] 21 Try.func11 rfl rfl rfl ?_
  refine CT.seq ?_
  -- region 0: relation.go:13
  refine CT.region ?_
  refine Wl.q rfl rfl (OpQ.assign rfl) ?_
  refine Wl.nil ?_
  refine PX.then_n ?_
  refine CT.seq ?_
  refine CT.seq ?_
  -- region 1: relation.go:14
  refine CT.region ?_
  refine Wl.q rfl rfl (OpQ.move rfl) ?_
  refine Wl.q rfl rfl (OpQ.len un22 rfl) ?_
  refine Wl.q rfl rfl (OpQ.gtr rfl rfl) ?_
  refine Wl.nil ?_
  refine PX.then_n ?_
  refine CT.cond rfl (fun h7 => ?_) (fun h7 => ?_)
  · -- if t7: then
    have h7 := of_decide_eq_true h7
    refine CT.seq ?_
    -- region 2: relation.go:15
    refine CT.region ?_
    refine Wl.q rfl rfl (OpQ.assign rfl) ?_
    refine Wl.nil ?_
    refine PX.then_n ?_
    refine CT.ret ?_
    refine PX.then_r ?_
    refine PX.ret1 rfl rfl (fun w' hH => ?_)
    exact ⟨by rw [validB_len (by omega)], hH.ext⟩
  · -- if t7: else
    have h7 := of_decide_eq_false h7
    refine CT.skip ?_
    refine PX.then_n ?_
    refine CT.seq ?_
    refine CT.seq ?_
    -- region 3: relation.go:17
    refine CT.region ?_
    refine Wl.q rfl rfl (OpQ.move rfl) ?_
    refine Wl.q rfl rfl (OpQ.len un22 rfl) ?_
    refine Wl.q rfl rfl (OpQ.move rfl) ?_
    refine Wl.nil ?_
    refine PX.then_n ?_
    refine CT.block ?_
    -- the loop at region 4
    refine CT.loop (ι := Nat) (fun k => k ≤ xs.length ∧ ∀ j < k, okRow xs (xs.getD j 0#64) = true) (fun k => [(0, .slice a xs.length cp), (8, .slice a xs.length cp), (9, .int .i64 (xs.length : Int)), (10, .int .i64 (k : Int))]) (fun _ => []) (fun k => xs.length - k) 0 ⟨by omega, by omega⟩ ⟨rfl, rfl, rfl, rfl, trivial⟩ (HSub.refl _) (fun k ⟨hk, hall⟩ K0 hK0 => ?_)
    refine CT.seq ?_
    -- region 4: relation.go:17
    refine CT.region ?_
    refine Wl.q rfl rfl (OpQ.lss rfl rfl) ?_
    refine Wl.nil ?_
    refine PX.then_n ?_
    refine CT.seq ?_
    refine CT.cond rfl (fun h11 => ?_) (fun h11 => ?_)
    · -- if t11: then
      have h11 := of_decide_eq_true h11
      refine CT.skip ?_
      refine PX.then_n ?_
      refine CT.seq ?_
      refine CT.block ?_
      refine CT.seq ?_
      -- region 5: relation.go:17
      refine CT.region ?_
      refine Wl.q rfl rfl (OpQ.index1 un22 sz29 rfl rfl (by omega) (hr.isSome (j := k) (by simp; omega))) ?_
      refine Wl.q rfl rfl (OpQ.loadRd sc29 rfl rfl hr (getMap u xs 0#64 (j := k) (by omega))) ?_
      refine Wl.q rfl rfl (OpQ.assign rfl) ?_
      refine Wl.nil ?_
      refine PX.then_n ?_
      refine CT.seq ?_
      -- region 6: relation.go:18
      refine CT.region ?_
      refine Wl.q rfl rfl (OpQ.move rfl) ?_
      refine Wl.q rfl rfl (OpQ.move rfl) ?_
      refine Wl.q rfl rfl (OpQ.len un22 rfl) ?_
      refine Wl.g rfl rfl (OpG.callV go15 rfl (fun w hH => points_spec w _ (by omega))) ?_
      rintro _ _
      refine Wl.q rfl rfl (OpQ.uandNot rfl rfl) ?_
      refine Wl.q rfl rfl (OpQ.uneq (q := 0#64) rfl rfl) ?_
      refine Wl.nil ?_
      refine PX.then_n ?_
      refine CT.cond rfl (fun h19 => ?_) (fun h19 => ?_)
      · -- if t19: then
        refine CT.seq ?_
        -- region 7: relation.go:19
        refine CT.region ?_
        refine Wl.q rfl rfl (OpQ.assign rfl) ?_
        refine Wl.nil ?_
        refine PX.then_n ?_
        refine CT.ret ?_
        refine PX.block_r ?_
        refine PX.then_r ?_
        refine PX.then_r ?_
        refine PX.block_r ?_
        refine PX.then_r ?_
        refine PX.ret1 rfl rfl (fun w' hH => ?_)
        exact ⟨by rw [validB_bad (k := k) (by omega) (by simpa [okRow] using h19)], hH.ext⟩
      · -- if t19: else
        refine CT.skip ?_
        refine PX.block_n ?_
        refine PX.then_n ?_
        -- region 8: relation.go:17
        refine CT.region ?_
        refine Wl.q rfl rfl (OpQ.add rfl rfl (by omega)) ?_
        refine Wl.q rfl rfl (OpQ.move rfl) ?_
        refine Wl.nil ?_
        have hall2 : ∀ j < k + 1, okRow xs (xs.getD j 0#64) = true := fun j hj => by
          rcases Nat.lt_or_ge j k with h | h
          · exact hall j h
          · rw [show j = k by omega]; simpa [okRow] using h19
        exact PX.loop hK0 (k + 1) ⟨by omega, hall2⟩ (by first | omega | (dsimp only; omega)) ⟨rfl, rfl, rfl, rfl, trivial⟩ (HSub.refl _)
    · -- if t11: else
      have h11 := of_decide_eq_false h11
      refine CT.exit ?_
      refine PX.then_x ?_
      refine PX.then_x ?_
      refine PX.block_x ?_
      refine PX.then_n ?_
      refine CT.seq ?_
      -- region 9: relation.go:22
      refine CT.region ?_
      refine Wl.q rfl rfl (OpQ.assign rfl) ?_
      refine Wl.nil ?_
      refine PX.then_n ?_
      refine CT.ret ?_
      refine PX.ret1 rfl rfl (fun w' hH => ?_)
      exact ⟨by rw [validB_ok (by omega) (fun j hj => hall j (by omega))], hH.ext⟩

theorem un3 : Try.prog.underlying 3 = some (.int .i64) := by kernel_rfl
theorem un30 : Try.prog.underlying 30 = some (.int .u64) := by kernel_rfl
set_option maxRecDepth 100000 in
/-- semigroup/semigroupref02.Valid -/
theorem validR_spec (w : World) (a : Option Addr) (cp : Nat) (xs : List (BitVec 64)) (hr : Rd w a (xs.map u)) (hn : xs.length ≤ 9223372036854775807) : Calls Try.prog 6 #[.slice a xs.length cp] w (fun e w' => e = .returned (.bool (validB xs)) ∧ Ext [] w w') := by
  refine enter (args := [.slice a xs.length cp]) [] 26 Try.func6 rfl rfl rfl ?_
  refine CT.seq ?_
  -- region 0: ref.go:5
  refine CT.region ?_
  refine Wl.q rfl rfl (OpQ.assign rfl) ?_
  refine Wl.nil ?_
  refine PX.then_n ?_
  refine CT.seq ?_
  refine CT.seq ?_
  -- region 1: ref.go:6
  refine CT.region ?_
  refine Wl.q rfl rfl (OpQ.move rfl) ?_
  refine Wl.q rfl rfl (OpQ.len un22 rfl) ?_
  refine Wl.q rfl rfl (OpQ.gtr rfl rfl) ?_
  refine Wl.nil ?_
  refine PX.then_n ?_
  refine CT.cond rfl (fun h7 => ?_) (fun h7 => ?_)
  · -- if t7: then
    have h7 := of_decide_eq_true h7
    refine CT.seq ?_
    -- region 2: ref.go:7
    refine CT.region ?_
    refine Wl.q rfl rfl (OpQ.assign rfl) ?_
    refine Wl.nil ?_
    refine PX.then_n ?_
    refine CT.ret ?_
    refine PX.then_r ?_
    refine PX.ret1 rfl rfl (fun w' hH => ?_)
    exact ⟨by rw [validB_len (by omega)], hH.ext⟩
  · -- if t7: else
    have h7 := of_decide_eq_false h7
    refine CT.skip ?_
    refine PX.then_n ?_
    refine CT.seq ?_
    refine CT.seq ?_
    -- region 3: ref.go:9
    refine CT.region ?_
    refine Wl.q rfl rfl (OpQ.move rfl) ?_
    refine Wl.q rfl rfl (OpQ.len un22 rfl) ?_
    refine Wl.q rfl rfl (OpQ.move rfl) ?_
    refine Wl.nil ?_
    refine PX.then_n ?_
    refine CT.block ?_
    -- the loop at region 4
    refine CT.loop (ι := Nat) (fun k => k ≤ xs.length ∧ ∀ j < k, okRef xs (xs.getD j 0#64) = true) (fun k => [(0, .slice a xs.length cp), (8, .slice a xs.length cp), (9, .int .i64 (xs.length : Int)), (10, .int .i64 (k : Int))]) (fun _ => []) (fun k => xs.length - k) 0 ⟨by omega, by omega⟩ ⟨rfl, rfl, rfl, rfl, trivial⟩ (HSub.refl _) (fun k ⟨hk, hall⟩ K0 hK0 => ?_)
    refine CT.seq ?_
    -- region 4: ref.go:9
    refine CT.region ?_
    refine Wl.q rfl rfl (OpQ.lss rfl rfl) ?_
    refine Wl.nil ?_
    refine PX.then_n ?_
    refine CT.seq ?_
    refine CT.cond rfl (fun h11 => ?_) (fun h11 => ?_)
    · -- if t11: then
      have h11 := of_decide_eq_true h11
      refine CT.skip ?_
      refine PX.then_n ?_
      refine CT.seq ?_
      refine CT.block ?_
      refine CT.seq ?_
      -- region 5: ref.go:9
      refine CT.region ?_
      refine Wl.q rfl rfl (OpQ.index1 un22 sz29 rfl rfl (by omega) (hr.isSome (j := k) (by simp; omega))) ?_
      refine Wl.q rfl rfl (OpQ.loadRd sc29 rfl rfl hr (getMap u xs 0#64 (j := k) (by omega))) ?_
      refine Wl.q rfl rfl (OpQ.assign rfl) ?_
      refine Wl.nil ?_
      refine PX.then_n ?_
      refine CT.seq ?_
      -- region 6: ref.go:10
      refine CT.region ?_
      refine Wl.q rfl rfl (OpQ.move rfl) ?_
      refine Wl.q rfl rfl (OpQ.len un22 rfl) ?_
      refine Wl.q rfl rfl (OpQ.lss rfl rfl) ?_
      refine Wl.q rfl rfl (OpQ.move rfl) ?_
      refine Wl.split 17 rfl (fun hg17 => ?_) (fun hg17 => ?_)
      · -- t17 = True
        have hg17 := of_decide_eq_true hg17
        refine Wl.q rfl rfl (OpQ.move rfl) ?_
        refine Wl.q rfl rfl (OpQ.move rfl) ?_
        refine Wl.q rfl rfl (OpQ.len un22 rfl) ?_
        refine Wl.q rfl rfl (OpQ.conv rfl (conv_i64_u64 un3 un30 _ (by omega))) ?_
        refine Wl.q rfl rfl (OpQ.ushr rfl rfl (by omega)) ?_
        refine Wl.q rfl rfl (OpQ.uneq (q := 0#64) rfl rfl) ?_
        refine Wl.q rfl rfl (OpQ.pickT rfl rfl) ?_
        refine Wl.nil ?_
        refine PX.then_n ?_
        refine CT.cond rfl (fun h24 => ?_) (fun h24 => ?_)
        · -- if t24: then
          refine CT.seq ?_
          -- region 7: ref.go:11
          refine CT.region ?_
          refine Wl.q rfl rfl (OpQ.assign rfl) ?_
          refine Wl.nil ?_
          refine PX.then_n ?_
          refine CT.ret ?_
          refine PX.block_r ?_
          refine PX.then_r ?_
          refine PX.then_r ?_
          refine PX.block_r ?_
          refine PX.then_r ?_
          refine PX.ret1 rfl rfl (fun w' hH => ?_)
          exact ⟨by rw [okRef_bad (k := k) (by omega) (by omega) (by simp [okRef]; exact ⟨by omega, by simpa using h24⟩)], hH.ext⟩
        · -- if t24: else
          refine CT.skip ?_
          refine PX.block_n ?_
          refine PX.then_n ?_
          -- region 8: ref.go:9
          refine CT.region ?_
          refine Wl.q rfl rfl (OpQ.add rfl rfl (by omega)) ?_
          refine Wl.q rfl rfl (OpQ.move rfl) ?_
          refine Wl.nil ?_
          have hall2 : ∀ j < k + 1, okRef xs (xs.getD j 0#64) = true := fun j hj => by
            rcases Nat.lt_or_ge j k with h | h
            · exact hall j h
            · rw [show j = k by omega]; simp [okRef]; first | (left; omega) | (right; simpa using h24)
          exact PX.loop hK0 (k + 1) ⟨by omega, hall2⟩ (by first | omega | (dsimp only; omega)) ⟨rfl, rfl, rfl, rfl, trivial⟩ (HSub.refl _)
      · -- t17 = False
        have hg17 := of_decide_eq_false hg17
        refine Wl.skip rfl rfl ?_
        refine Wl.skip rfl rfl ?_
        refine Wl.skip rfl rfl ?_
        refine Wl.skip rfl rfl ?_
        refine Wl.skip rfl rfl ?_
        refine Wl.skip rfl rfl ?_
        refine Wl.q rfl rfl (OpQ.pickF rfl rfl) ?_
        refine Wl.nil ?_
        refine PX.then_n ?_
        refine CT.condF rfl ?_
        refine CT.skip ?_
        refine PX.block_n ?_
        refine PX.then_n ?_
        -- region 8: ref.go:9
        refine CT.region ?_
        refine Wl.q rfl rfl (OpQ.add rfl rfl (by omega)) ?_
        refine Wl.q rfl rfl (OpQ.move rfl) ?_
        refine Wl.nil ?_
        have hall2 : ∀ j < k + 1, okRef xs (xs.getD j 0#64) = true := fun j hj => by
          rcases Nat.lt_or_ge j k with h | h
          · exact hall j h
          · rw [show j = k by omega]; simp [okRef]; first | (left; omega) | (right; simpa using h24)
        exact PX.loop hK0 (k + 1) ⟨by omega, hall2⟩ (by first | omega | (dsimp only; omega)) ⟨rfl, rfl, rfl, rfl, trivial⟩ (HSub.refl _)
    · -- if t11: else
      have h11 := of_decide_eq_false h11
      refine CT.exit ?_
      refine PX.then_x ?_
      refine PX.then_x ?_
      refine PX.block_x ?_
      refine PX.then_n ?_
      refine CT.seq ?_
      -- region 9: ref.go:14
      refine CT.region ?_
      refine Wl.q rfl rfl (OpQ.assign rfl) ?_
      refine Wl.nil ?_
      refine PX.then_n ?_
      refine CT.ret ?_
      refine PX.ret1 rfl rfl (fun w' hH => ?_)
      exact ⟨by rw [okRef_ok (by omega) (fun j hj => hall j (by omega))], hH.ext⟩

set_option maxRecDepth 100000 in
/-- semigroup/semigroupref02.Bit -/
theorem bit_spec (w : World) (j : Int) (h : 0 ≤ j ∧ j ≤ 9223372036854775807) : Calls Try.prog 13 #[.int .i64 j] w (fun e w' => e = .returned (u (1#64 <<< j.toNat)) ∧ Ext [] w w') := by
  refine enter (args := [.int .i64 j]) [] 6 Try.func13 rfl rfl rfl ?_
  refine CT.seq ?_
  -- region 0: ref.go:21
  refine CT.region ?_
  refine Wl.q rfl rfl (OpQ.assign rfl) ?_
  refine Wl.nil ?_
  refine PX.then_n ?_
  refine CT.seq ?_
  -- region 1: ref.go:21
  refine CT.region ?_
  refine Wl.q rfl rfl (OpQ.move rfl) ?_
  refine Wl.q rfl rfl (OpQ.conv rfl (conv_i64_u64 un3 un30 _ (by omega))) ?_
  refine Wl.q rfl rfl (OpQ.ushl (p := 1#64) rfl rfl (by omega)) ?_
  refine Wl.q rfl rfl (OpQ.assign rfl) ?_
  refine Wl.nil ?_
  refine PX.then_n ?_
  refine CT.ret ?_
  refine PX.ret1 rfl rfl (fun w' hH => ?_)
  exact ⟨rfl, hH.ext⟩

set_option maxRecDepth 100000 in
/-- semigroup/semigroupref02.Has -/
theorem has_spec (w : World) (s : BitVec 64) (j : Int) (h : 0 ≤ j ∧ j ≤ 9223372036854775807) : Calls Try.prog 14 #[u s, .int .i64 j] w (fun e w' => e = .returned (.bool (bitB s j.toNat)) ∧ Ext [] w w') := by
  refine enter (args := [u s, .int .i64 j]) [] 11 Try.func14 rfl rfl rfl ?_
  refine CT.seq ?_
  -- region 0: ref.go:18
  refine CT.region ?_
  refine Wl.q rfl rfl (OpQ.assign rfl) ?_
  refine Wl.nil ?_
  refine PX.then_n ?_
  refine CT.seq ?_
  -- region 1: ref.go:18
  refine CT.region ?_
  refine Wl.q rfl rfl (OpQ.move rfl) ?_
  refine Wl.q rfl rfl (OpQ.move rfl) ?_
  refine Wl.q rfl rfl (OpQ.conv rfl (conv_i64_u64 un3 un30 _ (by omega))) ?_
  refine Wl.q rfl rfl (OpQ.ushr rfl rfl (by omega)) ?_
  refine Wl.q rfl rfl (OpQ.uand (q := 1#64) rfl rfl) ?_
  refine Wl.q rfl rfl (OpQ.ueql (q := 1#64) rfl rfl) ?_
  refine Wl.q rfl rfl (OpQ.assign rfl) ?_
  refine Wl.nil ?_
  refine PX.then_n ?_
  refine CT.ret ?_
  refine PX.ret1 rfl rfl (fun w' hH => ?_)
  exact ⟨rfl, hH.ext⟩

theorem mixed : Try.prog.follows .mixedOrders = true := by kernel_rfl
set_option maxRecDepth 100000 in
/-- semigroup/semigroupref02.Same -/
theorem same_spec (w : World) (a : Option Addr) (cp : Nat) (xs : List (BitVec 64)) (hr : Rd w a (xs.map u)) (a2 : Option Addr) (cp2 : Nat) (ys : List (BitVec 64)) (hr2 : Rd w a2 (ys.map u)) (hn : xs.length ≤ 9223372036854775807) : Calls Try.prog 8 #[.slice a xs.length cp, .slice a2 ys.length cp2] w (fun e w' => e = .returned (.bool (xs == ys)) ∧ Ext [] w w') := by
  refine enter (args := [.slice a xs.length cp, .slice a2 ys.length cp2]) [] 26 Try.func8 rfl rfl rfl ?_
  refine CT.seq ?_
  -- region 0: ref.go:167
  refine CT.region ?_
  refine Wl.q rfl rfl (OpQ.assign rfl) ?_
  refine Wl.nil ?_
  refine PX.then_n ?_
  refine CT.seq ?_
  refine CT.seq ?_
  -- region 1: ref.go:168
  refine CT.region ?_
  refine Wl.q rfl rfl (OpQ.move rfl) ?_
  refine Wl.q rfl rfl (OpQ.len un22 rfl) ?_
  refine Wl.q rfl rfl (OpQ.move rfl) ?_
  refine Wl.q rfl rfl (OpQ.len un22 rfl) ?_
  refine Wl.q rfl rfl (OpQ.neq rfl rfl) ?_
  refine Wl.nil ?_
  refine PX.then_n ?_
  refine CT.cond rfl (fun h10 => ?_) (fun h10 => ?_)
  · -- if t10: then
    have h10 : ¬ (xs.length : Int) = ys.length := by simpa using h10
    refine CT.seq ?_
    -- region 2: ref.go:169
    refine CT.region ?_
    refine Wl.q rfl rfl (OpQ.assign rfl) ?_
    refine Wl.nil ?_
    refine PX.then_n ?_
    refine CT.ret ?_
    refine PX.then_r ?_
    refine PX.ret1 rfl rfl (fun w' hH => ?_)
    exact ⟨by rw [beqSame_len (by omega)], hH.ext⟩
  · -- if t10: else
    have h10 : (xs.length : Int) = ys.length := by simpa using h10
    refine CT.skip ?_
    refine PX.then_n ?_
    refine CT.seq ?_
    refine CT.seq ?_
    -- region 3: ref.go:171
    refine CT.region ?_
    refine Wl.q rfl rfl (OpQ.move rfl) ?_
    refine Wl.q rfl rfl (OpQ.len un22 rfl) ?_
    refine Wl.q rfl rfl (OpQ.move rfl) ?_
    refine Wl.nil ?_
    refine PX.then_n ?_
    refine CT.block ?_
    -- the loop at region 4
    refine CT.loop (ι := Nat) (fun k => k ≤ xs.length ∧ ∀ j < k, (xs.getD j 0#64 != ys.getD j 0#64) = false) (fun k => [(0, .slice a xs.length cp), (1, .slice a2 ys.length cp2), (12, .int .i64 (xs.length : Int)), (13, .int .i64 (k : Int))]) (fun _ => []) (fun k => xs.length - k) 0 ⟨by omega, by omega⟩ ⟨rfl, rfl, rfl, rfl, trivial⟩ (HSub.refl _) (fun k ⟨hk, hall⟩ K0 hK0 => ?_)
    refine CT.seq ?_
    -- region 4: ref.go:171
    refine CT.region ?_
    refine Wl.q rfl rfl (OpQ.lss rfl rfl) ?_
    refine Wl.nil ?_
    refine PX.then_n ?_
    refine CT.seq ?_
    refine CT.cond rfl (fun h14 => ?_) (fun h14 => ?_)
    · -- if t14: then
      have h14 := of_decide_eq_true h14
      refine CT.skip ?_
      refine PX.then_n ?_
      refine CT.seq ?_
      refine CT.block ?_
      refine CT.seq ?_
      -- region 5: ref.go:171
      refine CT.region ?_
      refine Wl.q rfl rfl (OpQ.move rfl) ?_
      refine Wl.q rfl rfl (OpQ.assign rfl) ?_
      refine Wl.nil ?_
      refine PX.then_n ?_
      refine CT.seq ?_
      -- region 6, drawn: ref.go:172
      refine CT.draw 9 mixed ?_
      refine RA.q 0 (by kernel_rfl) rfl rfl rfl (.refl _) (OpQ.move rfl) ?_
      refine RA.q 1 (by kernel_rfl) rfl rfl rfl (.refl _) (OpQ.move rfl) ?_
      refine RA.q 2 (by kernel_rfl) rfl rfl rfl (.refl _) (OpQ.index1 un22 sz29 rfl rfl (by omega) (hr.isSome (j := k) (by simp; omega))) ?_
      refine RA.q 3 (by kernel_rfl) rfl rfl rfl (.refl _) (OpQ.loadRd sc29 rfl rfl hr (getMap u xs 0#64 (j := k) (by omega))) ?_
      refine RA.q 4 (by kernel_rfl) rfl rfl rfl (.refl _) (OpQ.move rfl) ?_
      refine RA.q 5 (by kernel_rfl) rfl rfl rfl (.refl _) (OpQ.move rfl) ?_
      refine RA.q 6 (by kernel_rfl) rfl rfl rfl (.refl _) (OpQ.index1 un22 sz29 rfl rfl (by omega) (hr2.isSome (j := k) (by simp; omega))) ?_
      refine RA.q 7 (by kernel_rfl) rfl rfl rfl (.refl _) (OpQ.loadRd sc29 rfl rfl hr2 (getMap u ys 0#64 (j := k) (by omega))) ?_
      refine RA.q 8 (by kernel_rfl) rfl rfl rfl (.refl _) (OpQ.uneq rfl rfl) ?_
      refine RA.tail ?_
      refine RT.done (by kernel_rfl) ?_
      refine PX.then_n ?_
      refine CT.cond rfl (fun h24 => ?_) (fun h24 => ?_)
      · -- if t24: then
        refine CT.seq ?_
        -- region 7: ref.go:173
        refine CT.region ?_
        refine Wl.q rfl rfl (OpQ.assign rfl) ?_
        refine Wl.nil ?_
        refine PX.then_n ?_
        refine CT.ret ?_
        refine PX.block_r ?_
        refine PX.then_r ?_
        refine PX.then_r ?_
        refine PX.block_r ?_
        refine PX.then_r ?_
        refine PX.ret1 rfl rfl (fun w' hH => ?_)
        exact ⟨by rw [beqSame (k := k) h24], hH.ext⟩
      · -- if t24: else
        refine CT.skip ?_
        refine PX.block_n ?_
        refine PX.then_n ?_
        -- region 8: ref.go:171
        refine CT.region ?_
        refine Wl.q rfl rfl (OpQ.add rfl rfl (by omega)) ?_
        refine Wl.q rfl rfl (OpQ.move rfl) ?_
        refine Wl.nil ?_
        have hall2 : ∀ j < k + 1, (xs.getD j 0#64 != ys.getD j 0#64) = false := fun j hj => by
          rcases Nat.lt_or_ge j k with h | h
          · exact hall j h
          · rw [show j = k by omega]; exact h24
        exact PX.loop hK0 (k + 1) ⟨by omega, hall2⟩ (by first | omega | (dsimp only; omega)) ⟨rfl, rfl, rfl, rfl, trivial⟩ (HSub.refl _)
    · -- if t14: else
      have h14 := of_decide_eq_false h14
      refine CT.exit ?_
      refine PX.then_x ?_
      refine PX.then_x ?_
      refine PX.block_x ?_
      refine PX.then_n ?_
      refine CT.seq ?_
      -- region 9: ref.go:176
      refine CT.region ?_
      refine Wl.q rfl rfl (OpQ.assign rfl) ?_
      refine Wl.nil ?_
      refine PX.then_n ?_
      refine CT.ret ?_
      refine PX.ret1 rfl rfl (fun w' hH => ?_)
      exact ⟨by rw [beqSame_ok (by omega) (fun j hj => hall j (by omega))], hH.ext⟩

theorem in29 : (Try.prog.info? 29).map (fun i => (i.zero, i.size, i.bytes)) = some (some (.int .u64 0), 1, 8) := by kernel_rfl
set_option maxRecDepth 100000 in
/-- semigroup/relation.Identity -/
theorem ident_spec (w : World) (m : Int) : Calls Try.prog 10 #[.int .i64 m] w (fun e w' => New 29 1 w w' e (idR m).length ((idR m).map u)) := by
  refine enter (args := [.int .i64 m]) [] 24 Try.func10 rfl rfl rfl ?_
  refine CT.seq ?_
  -- region 0: relation.go:31
  refine CT.region ?_
  refine Wl.q rfl rfl (OpQ.assign rfl) ?_
  refine Wl.nil ?_
  refine PX.then_n ?_
  refine CT.seq ?_
  refine CT.seq ?_
  -- region 1: relation.go:32
  refine CT.region ?_
  refine Wl.q rfl rfl (OpQ.move rfl) ?_
  refine Wl.q rfl rfl (OpQ.lss rfl rfl) ?_
  refine Wl.q rfl rfl (OpQ.move rfl) ?_
  refine Wl.split 7 rfl (fun hg7 => ?_) (fun hg7 => ?_)
  · -- t7 = True
    have hg7 := of_decide_eq_true hg7
    refine Wl.skip rfl rfl ?_
    refine Wl.skip rfl rfl ?_
    refine Wl.q rfl rfl (OpQ.pickT rfl rfl) ?_
    refine Wl.nil ?_
    refine PX.then_n ?_
    refine CT.condT rfl ?_
    refine CT.seq ?_
    -- region 2: relation.go:33
    refine CT.region ?_
    refine Wl.q rfl rfl (OpQ.assign rfl) ?_
    refine Wl.nil ?_
    refine PX.then_n ?_
    refine CT.ret ?_
    refine PX.then_r ?_
    refine PX.ret1 rfl rfl (fun w' hH => ?_)
    rw [idR_out (by omega)]; exact newNil hH.ext
  · -- t7 = False
    have hg7 := of_decide_eq_false hg7
    refine Wl.q rfl rfl (OpQ.move rfl) ?_
    refine Wl.q rfl rfl (OpQ.gtr rfl rfl) ?_
    refine Wl.q rfl rfl (OpQ.pickF rfl rfl) ?_
    refine Wl.nil ?_
    refine PX.then_n ?_
    refine CT.cond rfl (fun h10 => ?_) (fun h10 => ?_)
    · -- if t10: then
      have h10 := of_decide_eq_true h10
      refine CT.seq ?_
      -- region 2: relation.go:33
      refine CT.region ?_
      refine Wl.q rfl rfl (OpQ.assign rfl) ?_
      refine Wl.nil ?_
      refine PX.then_n ?_
      refine CT.ret ?_
      refine PX.then_r ?_
      refine PX.ret1 rfl rfl (fun w' hH => ?_)
      rw [idR_out (by omega)]; exact newNil hH.ext
    · -- if t10: else
      have h10 := of_decide_eq_false h10
      obtain ⟨n, rfl⟩ := Int.eq_ofNat_of_zero_le (by omega : 0 ≤ m)
      refine CT.skip ?_
      refine PX.then_n ?_
      refine CT.seq ?_
      -- region 3: relation.go:35
      refine CT.region ?_
      refine Wl.q rfl rfl (OpQ.move rfl) ?_
      refine Wl.g rfl rfl (OpG.make1 un22 in29 rfl rfl rfl rfl (by omega) (by omega)) ?_
      rintro b _
      refine Wl.q rfl rfl (OpQ.assign rfl) ?_
      refine Wl.nil ?_
      refine PX.then_n ?_
      refine CT.seq ?_
      refine CT.seq ?_
      -- region 4: relation.go:36
      refine CT.region ?_
      refine Wl.q rfl rfl (OpQ.move rfl) ?_
      refine Wl.q rfl rfl (OpQ.move rfl) ?_
      refine Wl.nil ?_
      refine PX.then_n ?_
      refine CT.block ?_
      -- the loop at region 5
      refine CT.loop (ι := Nat) (fun k => k ≤ n) (fun k => [(3, .slice (some ⟨b, 0, none⟩) n n), (13, .int .i64 (n : Int)), (14, .int .i64 (k : Int))]) (fun k => [.row 29 1 (.slice (some ⟨b, 0, none⟩) n n) n ((idL n k).map u)]) (fun k => n - k) 0 (by omega) ⟨rfl, rfl, rfl, trivial⟩ (.keep (row_eq (by simp [idL])) .nil) (fun k hk K0 hK0 => ?_)
      refine CT.seq ?_
      -- region 5: relation.go:36
      refine CT.region ?_
      refine Wl.q rfl rfl (OpQ.lss rfl rfl) ?_
      refine Wl.nil ?_
      refine PX.then_n ?_
      refine CT.seq ?_
      refine CT.cond rfl (fun h15 => ?_) (fun h15 => ?_)
      · -- if t15: then
        have h15 := of_decide_eq_true h15
        refine CT.skip ?_
        refine PX.then_n ?_
        refine CT.seq ?_
        refine CT.block ?_
        refine CT.seq ?_
        -- region 6: relation.go:36
        refine CT.region ?_
        refine Wl.q rfl rfl (OpQ.move rfl) ?_
        refine Wl.q rfl rfl (OpQ.assign rfl) ?_
        refine Wl.nil ?_
        refine PX.then_n ?_
        -- region 7: relation.go:37
        refine CT.region ?_
        refine Wl.q rfl rfl (OpQ.move rfl) ?_
        refine Wl.q rfl rfl (OpQ.move rfl) ?_
        refine Wl.q rfl rfl (OpQ.move rfl) ?_
        refine Wl.q rfl rfl (OpQ.ushl (p := 1#64) rfl rfl (by omega)) ?_
        refine Wl.q rfl rfl (OpQ.index1 un22 sz29 rfl rfl (by omega) rfl) ?_
        refine Wl.g rfl rfl (OpG.storeRow sz29 rfl rfl rfl .here (by simp [idL_len]; omega)) ?_
        rintro _ _
        refine Wl.nil ?_
        refine PX.block_n ?_
        refine PX.then_n ?_
        -- region 8: relation.go:36
        refine CT.region ?_
        refine Wl.q rfl rfl (OpQ.add rfl rfl (by omega)) ?_
        refine Wl.q rfl rfl (OpQ.move rfl) ?_
        refine Wl.nil ?_
        exact PX.loop hK0 (k + 1) (by omega) (by first | omega | (dsimp only; omega)) ⟨rfl, rfl, rfl, trivial⟩ (.keep (row_eq (mapSet u _ _ _)) .nil)
      · -- if t15: else
        have h15 := of_decide_eq_false h15
        refine CT.exit ?_
        refine PX.then_x ?_
        refine PX.then_x ?_
        refine PX.block_x ?_
        refine PX.then_n ?_
        refine CT.seq ?_
        -- region 9: relation.go:39
        refine CT.region ?_
        refine Wl.q rfl rfl (OpQ.move rfl) ?_
        refine Wl.q rfl rfl (OpQ.assign rfl) ?_
        refine Wl.nil ?_
        refine PX.then_n ?_
        refine CT.ret ?_
        refine PX.ret1 rfl rfl (fun w' hH => ?_)
        obtain rfl : k = n := by omega
        rw [idR_in (by omega)]; simp only [idL_len]; exact hH.newRow .here

theorem go13 : isGo Try.prog 13 = true := by kernel_rfl
set_option maxRecDepth 100000 in
/-- semigroup/semigroupref02.Identity -/
theorem identR_spec (w : World) (n : Nat) (h : n ≤ 64) : Calls Try.prog 12 #[.int .i64 (n : Int)] w (fun e w' => New 29 1 w w' e (idL n n).length ((idL n n).map u)) := by
  refine enter (args := [.int .i64 (n : Int)]) [] 19 Try.func12 rfl rfl rfl ?_
  refine CT.seq ?_
  -- region 0: ref.go:32
  refine CT.region ?_
  refine Wl.q rfl rfl (OpQ.assign rfl) ?_
  refine Wl.nil ?_
  refine PX.then_n ?_
  refine CT.seq ?_
  -- region 1: ref.go:33
  refine CT.region ?_
  refine Wl.q rfl rfl (OpQ.move rfl) ?_
  refine Wl.g rfl rfl (OpG.make1 un22 in29 rfl rfl rfl rfl (by omega) (by omega)) ?_
  rintro b _
  refine Wl.q rfl rfl (OpQ.assign rfl) ?_
  refine Wl.nil ?_
  refine PX.then_n ?_
  refine CT.seq ?_
  refine CT.seq ?_
  -- region 2: ref.go:34
  refine CT.region ?_
  refine Wl.q rfl rfl (OpQ.move rfl) ?_
  refine Wl.q rfl rfl (OpQ.len un22 rfl) ?_
  refine Wl.q rfl rfl (OpQ.move rfl) ?_
  refine Wl.nil ?_
  refine PX.then_n ?_
  refine CT.block ?_
  -- the loop at region 3
  refine CT.loop (ι := Nat) (fun k => k ≤ n) (fun k => [(3, .slice (some ⟨b, 0, none⟩) n n), (8, .int .i64 (n : Int)), (9, .int .i64 (k : Int))]) (fun k => [.row 29 1 (.slice (some ⟨b, 0, none⟩) n n) n ((idL n k).map u)]) (fun k => n - k) 0 (by omega) ⟨rfl, rfl, rfl, trivial⟩ (.keep (row_eq (by simp [idL])) .nil) (fun k hk K0 hK0 => ?_)
  refine CT.seq ?_
  -- region 3: ref.go:34
  refine CT.region ?_
  refine Wl.q rfl rfl (OpQ.lss rfl rfl) ?_
  refine Wl.nil ?_
  refine PX.then_n ?_
  refine CT.seq ?_
  refine CT.cond rfl (fun h10 => ?_) (fun h10 => ?_)
  · -- if t10: then
    have h10 := of_decide_eq_true h10
    refine CT.skip ?_
    refine PX.then_n ?_
    refine CT.seq ?_
    refine CT.block ?_
    refine CT.seq ?_
    -- region 4: ref.go:34
    refine CT.region ?_
    refine Wl.q rfl rfl (OpQ.move rfl) ?_
    refine Wl.q rfl rfl (OpQ.assign rfl) ?_
    refine Wl.nil ?_
    refine PX.then_n ?_
    -- region 5: ref.go:35
    refine CT.region ?_
    refine Wl.q rfl rfl (OpQ.move rfl) ?_
    refine Wl.q rfl rfl (OpQ.move rfl) ?_
    refine Wl.q rfl rfl (OpQ.move rfl) ?_
    refine Wl.g rfl rfl (OpG.callV go13 rfl (fun w hH => bit_spec w _ (by omega))) ?_
    rintro _ _
    refine Wl.q rfl rfl (OpQ.index1 un22 sz29 rfl rfl (by omega) rfl) ?_
    refine Wl.g rfl rfl (OpG.storeRow sz29 rfl rfl rfl .here (by simp [idL_len]; omega)) ?_
    rintro _ _
    refine Wl.nil ?_
    refine PX.block_n ?_
    refine PX.then_n ?_
    -- region 6: ref.go:34
    refine CT.region ?_
    refine Wl.q rfl rfl (OpQ.add rfl rfl (by omega)) ?_
    refine Wl.q rfl rfl (OpQ.move rfl) ?_
    refine Wl.nil ?_
    exact PX.loop hK0 (k + 1) (by omega) (by first | omega | (dsimp only; omega)) ⟨rfl, rfl, rfl, trivial⟩ (.keep (row_eq (mapSet u _ _ _)) .nil)
  · -- if t10: else
    have h10 := of_decide_eq_false h10
    refine CT.exit ?_
    refine PX.then_x ?_
    refine PX.then_x ?_
    refine PX.block_x ?_
    refine PX.then_n ?_
    refine CT.seq ?_
    -- region 7: ref.go:37
    refine CT.region ?_
    refine Wl.q rfl rfl (OpQ.move rfl) ?_
    refine Wl.q rfl rfl (OpQ.assign rfl) ?_
    refine Wl.nil ?_
    refine PX.then_n ?_
    refine CT.ret ?_
    refine PX.ret1 rfl rfl (fun w' hH => ?_)
    obtain rfl : k = n := by omega
    simp only [idL_len]; exact hH.newRow .here

theorem go11 : isGo Try.prog 11 = true := by kernel_rfl
set_option maxRecDepth 100000 in
/-- semigroup/relation.Closure -/
theorem closure_spec (w : World) (a : Option Addr) (cp : Nat) (xs : List (BitVec 64)) (hr : Rd w a (xs.map u)) (hn : xs.length ≤ 9223372036854775807) : Calls Try.prog 5 #[.slice a xs.length cp] w (fun e w' => New 29 1 w w' e (closR xs).length ((closR xs).map u)) := by
  refine enter (args := [.slice a xs.length cp]) [] 60 Try.func5 rfl rfl rfl ?_
  refine CT.seq ?_
  -- region 0: relation.go:93
  refine CT.region ?_
  refine Wl.q rfl rfl (OpQ.assign rfl) ?_
  refine Wl.nil ?_
  refine PX.then_n ?_
  refine CT.seq ?_
  refine CT.seq ?_
  -- region 1: relation.go:94
  refine CT.region ?_
  refine Wl.q rfl rfl (OpQ.move rfl) ?_
  refine Wl.g rfl rfl (OpG.callV go11 rfl (fun w hH => valid_spec w a cp xs (hH.rd0 hr rfl) hn)) ?_
  rintro _ _
  refine Wl.q rfl rfl (OpQ.not rfl) ?_
  refine Wl.nil ?_
  refine PX.then_n ?_
  refine CT.cond rfl (fun h10 => ?_) (fun h10 => ?_)
  · -- if t10: then
    refine CT.seq ?_
    -- region 2: relation.go:95
    refine CT.region ?_
    refine Wl.q rfl rfl (OpQ.assign rfl) ?_
    refine Wl.nil ?_
    refine PX.then_n ?_
    refine CT.ret ?_
    refine PX.then_r ?_
    refine PX.ret1 rfl rfl (fun w' hH => ?_)
    have hv : validB xs = false := by simpa using h10
    rw [closR_no hv]; exact newNil hH.ext
  · -- if t10: else
    have hv : validB xs = true := by simpa using h10
    have hl := validB_le hv
    refine CT.skip ?_
    refine PX.then_n ?_
    refine CT.seq ?_
    -- region 3: relation.go:97
    refine CT.region ?_
    refine Wl.q rfl rfl (OpQ.move rfl) ?_
    refine Wl.q rfl rfl (OpQ.len un22 rfl) ?_
    refine Wl.g rfl rfl (OpG.make1 un22 in29 rfl rfl rfl rfl (by omega) (by omega)) ?_
    rintro b _
    refine Wl.q rfl rfl (OpQ.assign rfl) ?_
    refine Wl.nil ?_
    refine PX.then_n ?_
    refine CT.seq ?_
    refine CT.seq ?_
    -- region 4: relation.go:98
    refine CT.region ?_
    refine Wl.q rfl rfl (OpQ.move rfl) ?_
    refine Wl.q rfl rfl (OpQ.len un22 rfl) ?_
    refine Wl.q rfl rfl (OpQ.move rfl) ?_
    refine Wl.nil ?_
    refine PX.then_n ?_
    refine CT.block ?_
    -- the loop at region 5
    refine CT.loop (ι := Nat) (fun k => k ≤ xs.length) (fun k => [(3, .slice (some ⟨b, 0, none⟩) xs.length xs.length), (14, .slice a xs.length cp), (15, .int .i64 (xs.length : Int)), (16, .int .i64 (k : Int))]) (fun k => [.row 29 1 (.slice (some ⟨b, 0, none⟩) xs.length xs.length) xs.length ((cl0 xs k).map u)]) (fun k => xs.length - k) 0 (by omega) ⟨rfl, rfl, rfl, rfl, trivial⟩ (.keep (row_eq (by simp [cl0])) .nil) (fun k hk K0 hK0 => ?_)
    refine CT.seq ?_
    -- region 5: relation.go:98
    refine CT.region ?_
    refine Wl.q rfl rfl (OpQ.lss rfl rfl) ?_
    refine Wl.nil ?_
    refine PX.then_n ?_
    refine CT.seq ?_
    refine CT.cond rfl (fun h17 => ?_) (fun h17 => ?_)
    · -- if t17: then
      have h17 := of_decide_eq_true h17
      refine CT.skip ?_
      refine PX.then_n ?_
      refine CT.seq ?_
      refine CT.block ?_
      refine CT.seq ?_
      -- region 6: relation.go:98
      refine CT.region ?_
      refine Wl.q rfl rfl (OpQ.move rfl) ?_
      refine Wl.q rfl rfl (OpQ.index1 un22 sz29 rfl rfl (by omega) (hr.isSome (j := k) (by simp; omega))) ?_
      refine Wl.q rfl rfl (OpQ.loadRd sc29 rfl rfl hr (getMap u xs 0#64 (j := k) (by omega))) ?_
      refine Wl.q rfl rfl (OpQ.assign rfl) ?_
      refine Wl.q rfl rfl (OpQ.assign rfl) ?_
      refine Wl.nil ?_
      refine PX.then_n ?_
      -- region 7: relation.go:99
      refine CT.region ?_
      refine Wl.q rfl rfl (OpQ.move rfl) ?_
      refine Wl.q rfl rfl (OpQ.move rfl) ?_
      refine Wl.q rfl rfl (OpQ.move rfl) ?_
      refine Wl.q rfl rfl (OpQ.move rfl) ?_
      refine Wl.q rfl rfl (OpQ.ushl (p := 1#64) rfl rfl (by omega)) ?_
      refine Wl.q rfl rfl (OpQ.uor rfl rfl) ?_
      refine Wl.q rfl rfl (OpQ.index1 un22 sz29 rfl rfl (by omega) rfl) ?_
      refine Wl.g rfl rfl (OpG.storeRow sz29 rfl rfl rfl .here (by simp [cl0_len]; omega)) ?_
      rintro _ _
      refine Wl.nil ?_
      refine PX.block_n ?_
      refine PX.then_n ?_
      -- region 8: relation.go:98
      refine CT.region ?_
      refine Wl.q rfl rfl (OpQ.add rfl rfl (by omega)) ?_
      refine Wl.q rfl rfl (OpQ.move rfl) ?_
      refine Wl.nil ?_
      exact PX.loop hK0 (k + 1) (by omega) (by first | omega | (dsimp only; omega)) ⟨rfl, rfl, rfl, rfl, trivial⟩ (.keep (row_eq (mapSet u _ _ _)) .nil)
    · -- if t17: else
      have h17 := of_decide_eq_false h17
      refine CT.exit ?_
      refine PX.then_x ?_
      refine PX.then_x ?_
      refine PX.block_x ?_
      refine PX.then_n ?_
      refine CT.seq ?_
      refine CT.seq ?_
      -- region 9: relation.go:101
      refine CT.region ?_
      refine Wl.q rfl rfl (OpQ.move rfl) ?_
      refine Wl.q rfl rfl (OpQ.len un22 rfl) ?_
      refine Wl.q rfl rfl (OpQ.move rfl) ?_
      refine Wl.nil ?_
      refine PX.then_n ?_
      refine CT.block ?_
      -- the loop at region 10
      obtain rfl : k = xs.length := by omega
      refine CT.loop (ι := Nat) (fun k => k ≤ xs.length) (fun k => [(3, .slice (some ⟨b, 0, none⟩) xs.length xs.length), (30, .int .i64 (xs.length : Int)), (31, .int .i64 (k : Int))]) (fun k => [.row 29 1 (.slice (some ⟨b, 0, none⟩) xs.length xs.length) xs.length ((clOut (cl0 xs xs.length) k).map u)]) (fun k => xs.length - k) 0 (by omega) ⟨rfl, rfl, rfl, trivial⟩ (HSub.refl _) (fun k hk K1 hK1 => ?_)
      refine CT.seq ?_
      -- region 10: relation.go:101
      refine CT.region ?_
      refine Wl.q rfl rfl (OpQ.lss rfl rfl) ?_
      refine Wl.nil ?_
      refine PX.then_n ?_
      refine CT.seq ?_
      refine CT.cond rfl (fun h32 => ?_) (fun h32 => ?_)
      · -- if t32: then
        have h32 := of_decide_eq_true h32
        refine CT.skip ?_
        refine PX.then_n ?_
        refine CT.seq ?_
        refine CT.block ?_
        refine CT.seq ?_
        -- region 11: relation.go:101
        refine CT.region ?_
        refine Wl.q rfl rfl (OpQ.move rfl) ?_
        refine Wl.q rfl rfl (OpQ.assign rfl) ?_
        refine Wl.nil ?_
        refine PX.then_n ?_
        refine CT.seq ?_
        -- region 12: relation.go:102
        refine CT.region ?_
        refine Wl.q rfl rfl (OpQ.move rfl) ?_
        refine Wl.q rfl rfl (OpQ.len un22 rfl) ?_
        refine Wl.q rfl rfl (OpQ.move rfl) ?_
        refine Wl.nil ?_
        refine PX.then_n ?_
        refine CT.block ?_
        -- the loop at region 13
        refine CT.loop (ι := Nat) (fun i => i ≤ xs.length) (fun i => [(3, .slice (some ⟨b, 0, none⟩) xs.length xs.length), (6, .int .i64 (k : Int)), (30, .int .i64 (xs.length : Int)), (31, .int .i64 (k : Int)), (35, .int .i64 (xs.length : Int)), (36, .int .i64 (i : Int))]) (fun i => [.row 29 1 (.slice (some ⟨b, 0, none⟩) xs.length xs.length) xs.length ((clIn k (clOut (cl0 xs xs.length) k) i).map u)]) (fun i => xs.length - i) 0 (by omega) ⟨rfl, rfl, rfl, rfl, rfl, rfl, trivial⟩ (HSub.refl _) (fun i hi K2 hK2 => ?_)
        have hL : ∀ i, (clIn k (clOut (cl0 xs xs.length) k) i).length = xs.length := fun i => by rw [clIn_len, clOut_len, cl0_len]
        refine CT.seq ?_
        -- region 13: relation.go:102
        refine CT.region ?_
        refine Wl.q rfl rfl (OpQ.lss rfl rfl) ?_
        refine Wl.nil ?_
        refine PX.then_n ?_
        refine CT.seq ?_
        refine CT.cond rfl (fun h37 => ?_) (fun h37 => ?_)
        · -- if t37: then
          have h37 := of_decide_eq_true h37
          refine CT.skip ?_
          refine PX.then_n ?_
          refine CT.seq ?_
          refine CT.block ?_
          refine CT.seq ?_
          -- region 14: relation.go:102
          refine CT.region ?_
          refine Wl.q rfl rfl (OpQ.move rfl) ?_
          refine Wl.q rfl rfl (OpQ.assign rfl) ?_
          refine Wl.nil ?_
          refine PX.then_n ?_
          refine CT.seq ?_
          -- region 15: relation.go:103
          refine CT.region ?_
          refine Wl.q rfl rfl (OpQ.move rfl) ?_
          refine Wl.q rfl rfl (OpQ.move rfl) ?_
          refine Wl.q rfl rfl (OpQ.index1 un22 sz29 rfl rfl (by omega) rfl) ?_
          refine Wl.q rfl rfl (OpQ.loadRow sc29 rfl .here (getMap u _ 0#64 (j := i) (by rw [hL]; omega))) ?_
          refine Wl.q rfl rfl (OpQ.move rfl) ?_
          refine Wl.q rfl rfl (OpQ.ushr rfl rfl (by omega)) ?_
          refine Wl.q rfl rfl (OpQ.uand (q := 1#64) rfl rfl) ?_
          refine Wl.q rfl rfl (OpQ.ueql (q := 1#64) rfl rfl) ?_
          refine Wl.nil ?_
          refine PX.then_n ?_
          refine CT.cond rfl (fun h46 => ?_) (fun h46 => ?_)
          · -- if t46: then
            -- region 16, drawn: relation.go:104
            refine CT.draw 10 mixed ?_
            refine RA.q 0 (by kernel_rfl) rfl rfl rfl (.refl _) (OpQ.move rfl) ?_
            refine RA.q 1 (by kernel_rfl) rfl rfl rfl (.refl _) (OpQ.move rfl) ?_
            refine RA.q 2 (by kernel_rfl) rfl rfl rfl (.refl _) (OpQ.index1 un22 sz29 rfl rfl (by omega) rfl) ?_
            refine RA.q 3 (by kernel_rfl) rfl rfl rfl (.refl _) (OpQ.loadRow sc29 rfl .here (getMap u _ 0#64 (j := i) (by rw [hL]; omega))) ?_
            refine RA.q 4 (by kernel_rfl) rfl rfl rfl (.refl _) (OpQ.move rfl) ?_
            refine RA.q 5 (by kernel_rfl) rfl rfl rfl (.refl _) (OpQ.move rfl) ?_
            refine RA.q 6 (by kernel_rfl) rfl rfl rfl (.refl _) (OpQ.index1 un22 sz29 rfl rfl (by omega) rfl) ?_
            refine RA.q 7 (by kernel_rfl) rfl rfl rfl (.refl _) (OpQ.loadRow sc29 rfl .here (getMap u _ 0#64 (j := k) (by rw [hL]; omega))) ?_
            refine RA.q 8 (by kernel_rfl) rfl rfl rfl (.refl _) (OpQ.uor rfl rfl) ?_
            refine RA.q 9 (by kernel_rfl) rfl rfl rfl (.refl _) (OpQ.index1 un22 sz29 rfl rfl (by omega) rfl) ?_
            refine RA.tail ?_
            refine RT.f 10 (by kernel_rfl) rfl rfl rfl (OpG.storeRow sz29 rfl rfl rfl .here (by simp [hL]; omega)) ?_
            rintro _ _
            refine RT.done (by kernel_rfl) ?_
            refine PX.block_n ?_
            refine PX.then_n ?_
            -- region 17: relation.go:102
            refine CT.region ?_
            refine Wl.q rfl rfl (OpQ.add rfl rfl (by omega)) ?_
            refine Wl.q rfl rfl (OpQ.move rfl) ?_
            refine Wl.nil ?_
            exact PX.loop hK2 (i + 1) (by omega) (by first | omega | (dsimp only; omega)) ⟨rfl, rfl, rfl, rfl, rfl, rfl, trivial⟩ (.keep (row_eq (by rw [clIn_hit h46]; exact mapSet u _ _ _)) .nil)
          · -- if t46: else
            refine CT.skip ?_
            refine PX.block_n ?_
            refine PX.then_n ?_
            -- region 17: relation.go:102
            refine CT.region ?_
            refine Wl.q rfl rfl (OpQ.add rfl rfl (by omega)) ?_
            refine Wl.q rfl rfl (OpQ.move rfl) ?_
            refine Wl.nil ?_
            exact PX.loop hK2 (i + 1) (by omega) (by first | omega | (dsimp only; omega)) ⟨rfl, rfl, rfl, rfl, rfl, rfl, trivial⟩ (.keep (row_eq (by rw [clIn_miss h46])) .nil)
        · -- if t37: else
          have h37 := of_decide_eq_false h37
          refine CT.exit ?_
          refine PX.then_x ?_
          refine PX.then_x ?_
          refine PX.block_x ?_
          refine PX.block_n ?_
          refine PX.then_n ?_
          -- region 18: relation.go:101
          refine CT.region ?_
          refine Wl.q rfl rfl (OpQ.add rfl rfl (by omega)) ?_
          refine Wl.q rfl rfl (OpQ.move rfl) ?_
          refine Wl.nil ?_
          obtain rfl : i = xs.length := by omega
          exact PX.loop hK1 (k + 1) (by omega) (by first | omega | (dsimp only; omega)) ⟨rfl, rfl, rfl, trivial⟩ (.keep (row_eq (by simp only [clOut, cl0_len])) .nil)
      · -- if t32: else
        have h32 := of_decide_eq_false h32
        refine CT.exit ?_
        refine PX.then_x ?_
        refine PX.then_x ?_
        refine PX.block_x ?_
        refine PX.then_n ?_
        refine CT.seq ?_
        -- region 19: relation.go:108
        refine CT.region ?_
        refine Wl.q rfl rfl (OpQ.move rfl) ?_
        refine Wl.q rfl rfl (OpQ.assign rfl) ?_
        refine Wl.nil ?_
        refine PX.then_n ?_
        refine CT.ret ?_
        refine PX.ret1 rfl rfl (fun w' hH => ?_)
        obtain rfl : k = xs.length := by omega
        have := hH.newRow .here
        rw [closR_yes hv, closM_len]; exact this

theorem go14 : isGo Try.prog 14 = true := by kernel_rfl
set_option maxRecDepth 100000 in
/-- semigroup/semigroupref02.Closure -/
theorem closureR_spec (w : World) (a : Option Addr) (cp : Nat) (xs : List (BitVec 64)) (hr : Rd w a (xs.map u)) (hn : xs.length ≤ 64) : Calls Try.prog 9 #[.slice a xs.length cp] w (fun e w' => New 29 1 w w' e (closM xs).length ((closM xs).map u)) := by
  refine enter (args := [.slice a xs.length cp]) [] 57 Try.func9 rfl rfl rfl ?_
  refine CT.seq ?_
  -- region 0: ref.go:69
  refine CT.region ?_
  refine Wl.q rfl rfl (OpQ.assign rfl) ?_
  refine Wl.nil ?_
  refine PX.then_n ?_
  refine CT.seq ?_
  -- region 1: ref.go:70
  refine CT.region ?_
  refine Wl.g rfl rfl (OpG.lit0 un22 in29 rfl) ?_
  rintro b7 _
  refine Wl.q rfl rfl (OpQ.move rfl) ?_
  refine Wl.g rfl rfl (OpG.append un22 in29 (by rfl) (by decide) rfl rfl (p := 0) rfl (fun w hH => hH.rd0 hr rfl) ⟨by simp, ones_map (fun _ => rfl) xs, by omega, by omega⟩ (nm := xs.length) (by omega) (all := (clr xs 0).map u) (by simp [clr])) ?_
  rintro ⟨a9, c9⟩ h9
  have h9 : ∀ k : Nat, k < xs.length → a9.isSome = true := fun k hk => h9 (by omega)
  refine Wl.q rfl rfl (OpQ.assign rfl) ?_
  refine Wl.nil ?_
  refine PX.then_n ?_
  refine CT.seq ?_
  refine CT.seq ?_
  -- region 2: ref.go:71
  refine CT.region ?_
  refine Wl.q rfl rfl (OpQ.move rfl) ?_
  refine Wl.q rfl rfl (OpQ.len un22 rfl) ?_
  refine Wl.q rfl rfl (OpQ.move rfl) ?_
  refine Wl.nil ?_
  refine PX.then_n ?_
  refine CT.block ?_
  -- the loop at region 3
  refine CT.loop (ι := Nat) (fun k => k ≤ xs.length) (fun k => [(3, .slice a9 xs.length c9), (11, .int .i64 (xs.length : Int)), (12, .int .i64 (k : Int))]) (fun k => [.row 29 1 (.slice a9 xs.length c9) xs.length ((clr xs k).map u)]) (fun k => xs.length - k) 0 (by omega) ⟨rfl, rfl, rfl, trivial⟩ (HSub.refl _) (fun k hk K0 hK0 => ?_)
  refine CT.seq ?_
  -- region 3: ref.go:71
  refine CT.region ?_
  refine Wl.q rfl rfl (OpQ.lss rfl rfl) ?_
  refine Wl.nil ?_
  refine PX.then_n ?_
  refine CT.seq ?_
  refine CT.cond rfl (fun h13 => ?_) (fun h13 => ?_)
  · -- if t13: then
    have h13 := of_decide_eq_true h13
    refine CT.skip ?_
    refine PX.then_n ?_
    refine CT.seq ?_
    refine CT.block ?_
    refine CT.seq ?_
    -- region 4: ref.go:71
    refine CT.region ?_
    refine Wl.q rfl rfl (OpQ.move rfl) ?_
    refine Wl.q rfl rfl (OpQ.assign rfl) ?_
    refine Wl.nil ?_
    refine PX.then_n ?_
    -- region 5, drawn: ref.go:72
    refine CT.draw 10 mixed ?_
    refine RA.q 0 (by kernel_rfl) rfl rfl rfl (.refl _) (OpQ.move rfl) ?_
    refine RA.q 1 (by kernel_rfl) rfl rfl rfl (.refl _) (OpQ.move rfl) ?_
    refine RA.q 2 (by kernel_rfl) rfl rfl rfl (.refl _) (OpQ.move rfl) ?_
    refine RA.q 3 (by kernel_rfl) rfl rfl rfl (.refl _) (OpQ.move rfl) ?_
    refine RA.q 4 (by kernel_rfl) rfl rfl rfl (.refl _) (OpQ.index1 un22 sz29 rfl rfl (by omega) (h9 k (by omega))) ?_
    refine RA.q 5 (by kernel_rfl) rfl rfl rfl (.refl _) (OpQ.loadRow sc29 rfl .here (getMap u _ 0#64 (j := k) (by rw [clr_len]; omega))) ?_
    refine RA.q 6 (by kernel_rfl) rfl rfl rfl (.refl _) (OpQ.move rfl) ?_
    refine RA.f 7 (by kernel_rfl) rfl rfl rfl (OpG.callV go13 rfl (fun w hH => bit_spec w _ (by omega))) (fun _ _ => (.refl _)) ?_
    rintro _ _
    refine RA.q 8 (by kernel_rfl) rfl rfl rfl (.refl _) (OpQ.uor rfl rfl) ?_
    refine RA.q 9 (by kernel_rfl) rfl rfl rfl (.refl _) (OpQ.index1 un22 sz29 rfl rfl (by omega) (h9 k (by omega))) ?_
    refine RA.tail ?_
    refine RT.f 10 (by kernel_rfl) rfl rfl rfl (OpG.storeRow sz29 rfl rfl rfl .here (by simp [clr_len]; omega)) ?_
    rintro _ _
    refine RT.done (by kernel_rfl) ?_
    refine PX.block_n ?_
    refine PX.then_n ?_
    -- region 6: ref.go:71
    refine CT.region ?_
    refine Wl.q rfl rfl (OpQ.add rfl rfl (by omega)) ?_
    refine Wl.q rfl rfl (OpQ.move rfl) ?_
    refine Wl.nil ?_
    exact PX.loop hK0 (k + 1) (by omega) (by first | omega | (dsimp only; omega)) ⟨rfl, rfl, rfl, trivial⟩ (.keep (row_eq (mapSet u _ _ _)) .nil)
  · -- if t13: else
    have h13 := of_decide_eq_false h13
    refine CT.exit ?_
    refine PX.then_x ?_
    refine PX.then_x ?_
    refine PX.block_x ?_
    refine PX.then_n ?_
    refine CT.seq ?_
    refine CT.seq ?_
    -- region 7: ref.go:74
    refine CT.region ?_
    refine Wl.q rfl rfl (OpQ.move rfl) ?_
    refine Wl.q rfl rfl (OpQ.len un22 rfl) ?_
    refine Wl.q rfl rfl (OpQ.move rfl) ?_
    refine Wl.nil ?_
    refine PX.then_n ?_
    refine CT.block ?_
    -- the loop at region 8
    obtain rfl : k = xs.length := by omega
    refine CT.loop (ι := Nat) (fun k => k ≤ xs.length) (fun k => [(3, .slice a9 xs.length c9), (27, .int .i64 (xs.length : Int)), (28, .int .i64 (k : Int))]) (fun k => [.row 29 1 (.slice a9 xs.length c9) xs.length ((clOut (clr xs xs.length) k).map u)]) (fun k => xs.length - k) 0 (by omega) ⟨rfl, rfl, rfl, trivial⟩ (HSub.refl _) (fun k hk K1 hK1 => ?_)
    refine CT.seq ?_
    -- region 8: ref.go:74
    refine CT.region ?_
    refine Wl.q rfl rfl (OpQ.lss rfl rfl) ?_
    refine Wl.nil ?_
    refine PX.then_n ?_
    refine CT.seq ?_
    refine CT.cond rfl (fun h29 => ?_) (fun h29 => ?_)
    · -- if t29: then
      have h29 := of_decide_eq_true h29
      refine CT.skip ?_
      refine PX.then_n ?_
      refine CT.seq ?_
      refine CT.block ?_
      refine CT.seq ?_
      -- region 9: ref.go:74
      refine CT.region ?_
      refine Wl.q rfl rfl (OpQ.move rfl) ?_
      refine Wl.q rfl rfl (OpQ.assign rfl) ?_
      refine Wl.nil ?_
      refine PX.then_n ?_
      refine CT.seq ?_
      -- region 10: ref.go:75
      refine CT.region ?_
      refine Wl.q rfl rfl (OpQ.move rfl) ?_
      refine Wl.q rfl rfl (OpQ.len un22 rfl) ?_
      refine Wl.q rfl rfl (OpQ.move rfl) ?_
      refine Wl.nil ?_
      refine PX.then_n ?_
      refine CT.block ?_
      -- the loop at region 11
      refine CT.loop (ι := Nat) (fun i => i ≤ xs.length) (fun i => [(3, .slice a9 xs.length c9), (5, .int .i64 (k : Int)), (27, .int .i64 (xs.length : Int)), (28, .int .i64 (k : Int)), (32, .int .i64 (xs.length : Int)), (33, .int .i64 (i : Int))]) (fun i => [.row 29 1 (.slice a9 xs.length c9) xs.length ((clIn k (clOut (clr xs xs.length) k) i).map u)]) (fun i => xs.length - i) 0 (by omega) ⟨rfl, rfl, rfl, rfl, rfl, rfl, trivial⟩ (HSub.refl _) (fun i hi K2 hK2 => ?_)
      have hL : ∀ i, (clIn k (clOut (clr xs xs.length) k) i).length = xs.length := fun i => by rw [clIn_len, clOut_len, clr_len]
      refine CT.seq ?_
      -- region 11: ref.go:75
      refine CT.region ?_
      refine Wl.q rfl rfl (OpQ.lss rfl rfl) ?_
      refine Wl.nil ?_
      refine PX.then_n ?_
      refine CT.seq ?_
      refine CT.cond rfl (fun h34 => ?_) (fun h34 => ?_)
      · -- if t34: then
        have h34 := of_decide_eq_true h34
        refine CT.skip ?_
        refine PX.then_n ?_
        refine CT.seq ?_
        refine CT.block ?_
        refine CT.seq ?_
        -- region 12: ref.go:75
        refine CT.region ?_
        refine Wl.q rfl rfl (OpQ.move rfl) ?_
        refine Wl.q rfl rfl (OpQ.assign rfl) ?_
        refine Wl.nil ?_
        refine PX.then_n ?_
        refine CT.seq ?_
        -- region 13: ref.go:76
        refine CT.region ?_
        refine Wl.q rfl rfl (OpQ.move rfl) ?_
        refine Wl.q rfl rfl (OpQ.move rfl) ?_
        refine Wl.q rfl rfl (OpQ.index1 un22 sz29 rfl rfl (by omega) (h9 i (by omega))) ?_
        refine Wl.q rfl rfl (OpQ.loadRow sc29 rfl .here (getMap u _ 0#64 (j := i) (by rw [hL]; omega))) ?_
        refine Wl.q rfl rfl (OpQ.move rfl) ?_
        refine Wl.g rfl rfl (OpG.callV go14 rfl (fun w hH => has_spec w _ _ (by omega))) ?_
        rintro _ _
        refine Wl.nil ?_
        refine PX.then_n ?_
        refine CT.cond rfl (fun h41 => ?_) (fun h41 => ?_)
        · -- if t41: then
          -- region 14, drawn: ref.go:77
          refine CT.draw 12 mixed ?_
          refine RA.q 0 (by kernel_rfl) rfl rfl rfl (.refl _) (OpQ.move rfl) ?_
          refine RA.q 1 (by kernel_rfl) rfl rfl rfl (.refl _) (OpQ.move rfl) ?_
          refine RA.q 2 (by kernel_rfl) rfl rfl rfl (.refl _) (OpQ.move rfl) ?_
          refine RA.q 3 (by kernel_rfl) rfl rfl rfl (.refl _) (OpQ.move rfl) ?_
          refine RA.q 4 (by kernel_rfl) rfl rfl rfl (.refl _) (OpQ.index1 un22 sz29 rfl rfl (by omega) (h9 i (by omega))) ?_
          refine RA.q 5 (by kernel_rfl) rfl rfl rfl (.refl _) (OpQ.loadRow sc29 rfl .here (getMap u _ 0#64 (j := i) (by rw [hL]; omega))) ?_
          refine RA.q 6 (by kernel_rfl) rfl rfl rfl (.refl _) (OpQ.move rfl) ?_
          refine RA.q 7 (by kernel_rfl) rfl rfl rfl (.refl _) (OpQ.move rfl) ?_
          refine RA.q 8 (by kernel_rfl) rfl rfl rfl (.refl _) (OpQ.index1 un22 sz29 rfl rfl (by omega) (h9 k (by omega))) ?_
          refine RA.q 9 (by kernel_rfl) rfl rfl rfl (.refl _) (OpQ.loadRow sc29 rfl .here (getMap u _ 0#64 (j := k) (by rw [hL]; omega))) ?_
          refine RA.q 10 (by kernel_rfl) rfl rfl rfl (.refl _) (OpQ.uor rfl rfl) ?_
          refine RA.q 11 (by kernel_rfl) rfl rfl rfl (.refl _) (OpQ.index1 un22 sz29 rfl rfl (by omega) (h9 i (by omega))) ?_
          refine RA.tail ?_
          refine RT.f 12 (by kernel_rfl) rfl rfl rfl (OpG.storeRow sz29 rfl rfl rfl .here (by simp [hL]; omega)) ?_
          rintro _ _
          refine RT.done (by kernel_rfl) ?_
          refine PX.block_n ?_
          refine PX.then_n ?_
          -- region 15: ref.go:75
          refine CT.region ?_
          refine Wl.q rfl rfl (OpQ.add rfl rfl (by omega)) ?_
          refine Wl.q rfl rfl (OpQ.move rfl) ?_
          refine Wl.nil ?_
          exact PX.loop hK2 (i + 1) (by omega) (by first | omega | (dsimp only; omega)) ⟨rfl, rfl, rfl, rfl, rfl, rfl, trivial⟩ (.keep (row_eq (by rw [clIn_hit h41]; exact mapSet u _ _ _)) .nil)
        · -- if t41: else
          refine CT.skip ?_
          refine PX.block_n ?_
          refine PX.then_n ?_
          -- region 15: ref.go:75
          refine CT.region ?_
          refine Wl.q rfl rfl (OpQ.add rfl rfl (by omega)) ?_
          refine Wl.q rfl rfl (OpQ.move rfl) ?_
          refine Wl.nil ?_
          exact PX.loop hK2 (i + 1) (by omega) (by first | omega | (dsimp only; omega)) ⟨rfl, rfl, rfl, rfl, rfl, rfl, trivial⟩ (.keep (row_eq (by rw [clIn_miss h41])) .nil)
      · -- if t34: else
        have h34 := of_decide_eq_false h34
        refine CT.exit ?_
        refine PX.then_x ?_
        refine PX.then_x ?_
        refine PX.block_x ?_
        refine PX.block_n ?_
        refine PX.then_n ?_
        -- region 16: ref.go:74
        refine CT.region ?_
        refine Wl.q rfl rfl (OpQ.add rfl rfl (by omega)) ?_
        refine Wl.q rfl rfl (OpQ.move rfl) ?_
        refine Wl.nil ?_
        obtain rfl : i = xs.length := by omega
        exact PX.loop hK1 (k + 1) (by omega) (by first | omega | (dsimp only; omega)) ⟨rfl, rfl, rfl, trivial⟩ (.keep (row_eq (by simp only [clOut, clr_len])) .nil)
    · -- if t29: else
      have h29 := of_decide_eq_false h29
      refine CT.exit ?_
      refine PX.then_x ?_
      refine PX.then_x ?_
      refine PX.block_x ?_
      refine PX.then_n ?_
      refine CT.seq ?_
      -- region 17: ref.go:81
      refine CT.region ?_
      refine Wl.q rfl rfl (OpQ.move rfl) ?_
      refine Wl.q rfl rfl (OpQ.assign rfl) ?_
      refine Wl.nil ?_
      refine PX.then_n ?_
      refine CT.ret ?_
      refine PX.ret1 rfl rfl (fun w' hH => ?_)
      obtain rfl : k = xs.length := by omega
      have := hH.newRow .here
      rw [closM_len, closM, cl0_eq_clr]; exact this

theorem go5 : isGo Try.prog 5 = true := by kernel_rfl
theorem go8 : isGo Try.prog 8 = true := by kernel_rfl
set_option maxRecDepth 100000 in
/-- semigroup/semigrouplaw02.awake -/
theorem awake_spec (w : World)  : Calls Try.prog 7 #[] w (fun e w' => e = .returned (.bool true) ∧ Ext [] w w') := by
  refine enter (args := []) [] 5 Try.func7 rfl rfl rfl ?_
  refine CT.seq ?_
  -- region 0: law.go:10
  refine CT.region ?_
  refine Wl.q rfl rfl (OpQ.assign rfl) ?_
  refine Wl.nil ?_
  refine PX.then_n ?_
  refine CT.seq ?_
  -- region 1: law.go:10
  refine CT.region ?_
  refine Wl.g rfl rfl (OpG.lit2 un22 in29 rfl rfl rfl rfl rfl) ?_
  rintro b1 _
  refine Wl.g rfl rfl (OpG.callR go5 rfl (fun w hH => closure_spec w _ _ [2#64, 0#64] (hH.rd .here) (by decide))) ?_
  rintro ⟨a2, c2⟩ h2
  refine Wl.g rfl rfl (OpG.lit2 un22 in29 rfl rfl rfl rfl rfl) ?_
  rintro b3 _
  refine Wl.g rfl rfl (OpG.callV go8 rfl (fun w hH => same_spec w _ _ (closR [2#64, 0#64]) (hH.rd (.there .here)) _ _ [3#64, 2#64] (hH.rd .here) (by decide))) ?_
  rintro _ _
  refine Wl.q rfl rfl (OpQ.assign rfl) ?_
  refine Wl.nil ?_
  refine PX.then_n ?_
  refine CT.ret ?_
  refine PX.ret1 rfl rfl (fun w' hH => ?_)
  exact ⟨by rw [show (closR [2#64, 0#64] == [3#64, 2#64]) = true by decide], hH.ext⟩

end Go.Proofs.Ytbefnlnnnpinnaa
