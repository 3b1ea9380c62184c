/-
  What the functions of package relation and of its reference compute, each by its walk. Conditions: those that each theorem names.
-/
import Derived.Test.YtbefnlnnnpinnaaDoorMod
import Derived.Test.YtbefnlnnnpinnaaDoorProg
namespace Go.Proofs.YtbefnlnnnpinnaaDoor
open Go Go.Eng Go.Rel

theorem sc5 : scalarB Tryd.prog 5 = some true := by kernel_rfl
theorem un5 : Tryd.prog.underlying 5 = some (.int .u8) := by kernel_rfl
theorem un3 : Tryd.prog.underlying 3 = some (.int .i64) := by kernel_rfl
set_option maxRecDepth 100000 in
/-- semigroup/relation.points -/
theorem points_spec (w : World) (m : Nat) : Calls Tryd.prog 40 #[.int .i64 (m : Int)] w (fun e w' => e = .returned (u (pts m)) ∧ Ext [] w w') := by
  refine enter (args := [.int .i64 (m : Int)]) [] 6 Tryd.func40 rfl rfl rfl ?_
  refine CT.seq ?_
  -- region 0: relation.go:10
  refine CT.region ?_
  refine Wl.q rfl rfl (OpQ.assign rfl) ?_
  refine Wl.nil ?_
  refine PX.then_n ?_
  refine CT.seq ?_
  -- region 1: relation.go:10
  refine CT.region ?_
  refine Wl.q rfl rfl (OpQ.move rfl) ?_
  refine Wl.q rfl rfl (OpQ.ushlN (p := 1#64) rfl rfl) ?_
  refine Wl.q rfl rfl (OpQ.usub (q := 1#64) rfl rfl) ?_
  refine Wl.q rfl rfl (OpQ.assign rfl) ?_
  refine Wl.nil ?_
  refine PX.then_n ?_
  refine CT.ret ?_
  refine PX.ret1 rfl rfl (fun w' hH => ?_)
  exact ⟨rfl, hH.ext⟩

theorem un22 : Tryd.prog.underlying 22 = some (.slice 23) := by kernel_rfl
theorem sz23 : sizeB Tryd.prog 23 = some 1 := by kernel_rfl
theorem sc23 : scalarB Tryd.prog 23 = some true := by kernel_rfl
theorem go40 : isGo Tryd.prog 40 = true := by kernel_rfl
set_option maxRecDepth 100000 in
/-- semigroup/relation.Valid -/
theorem valid_spec (w : World) (a : Option Addr) (cp : Nat) (xs : List (BitVec 64)) (hr : Rd w a (xs.map u)) (hn : xs.length ≤ 9223372036854775807) : Calls Tryd.prog 37 #[.slice a xs.length cp] w (fun e w' => e = .returned (.bool (validB xs)) ∧ Ext [] w w') := by
  refine enter (args := [.slice a xs.length cp]) [] 21 Tryd.func37 rfl rfl rfl ?_
  refine CT.seq ?_
  -- region 0: relation.go:13
  refine CT.region ?_
  refine Wl.q rfl rfl (OpQ.assign rfl) ?_
  refine Wl.nil ?_
  refine PX.then_n ?_
  refine CT.seq ?_
  refine CT.seq ?_
  -- region 1: relation.go:14
  refine CT.region ?_
  refine Wl.q rfl rfl (OpQ.move rfl) ?_
  refine Wl.q rfl rfl (OpQ.len un22 rfl) ?_
  refine Wl.q rfl rfl (OpQ.gtr rfl rfl) ?_
  refine Wl.nil ?_
  refine PX.then_n ?_
  refine CT.cond rfl (fun h7 => ?_) (fun h7 => ?_)
  · -- if t7: then
    have h7 := of_decide_eq_true h7
    refine CT.seq ?_
    -- region 2: relation.go:15
    refine CT.region ?_
    refine Wl.q rfl rfl (OpQ.assign rfl) ?_
    refine Wl.nil ?_
    refine PX.then_n ?_
    refine CT.ret ?_
    refine PX.then_r ?_
    refine PX.ret1 rfl rfl (fun w' hH => ?_)
    exact ⟨by rw [validB_len (by omega)], hH.ext⟩
  · -- if t7: else
    have h7 := of_decide_eq_false h7
    refine CT.skip ?_
    refine PX.then_n ?_
    refine CT.seq ?_
    refine CT.seq ?_
    -- region 3: relation.go:17
    refine CT.region ?_
    refine Wl.q rfl rfl (OpQ.move rfl) ?_
    refine Wl.q rfl rfl (OpQ.len un22 rfl) ?_
    refine Wl.q rfl rfl (OpQ.move rfl) ?_
    refine Wl.nil ?_
    refine PX.then_n ?_
    refine CT.block ?_
    -- the loop at region 4
    refine CT.loop (ι := Nat) (fun k => k ≤ xs.length ∧ ∀ j < k, okRow xs (xs.getD j 0#64) = true) (fun k => [(0, .slice a xs.length cp), (8, .slice a xs.length cp), (9, .int .i64 (xs.length : Int)), (10, .int .i64 (k : Int))]) (fun _ => []) (fun k => xs.length - k) 0 ⟨by omega, by omega⟩ ⟨rfl, rfl, rfl, rfl, trivial⟩ (HSub.refl _) (fun k ⟨hk, hall⟩ K0 hK0 => ?_)
    refine CT.seq ?_
    -- region 4: relation.go:17
    refine CT.region ?_
    refine Wl.q rfl rfl (OpQ.lss rfl rfl) ?_
    refine Wl.nil ?_
    refine PX.then_n ?_
    refine CT.seq ?_
    refine CT.cond rfl (fun h11 => ?_) (fun h11 => ?_)
    · -- if t11: then
      have h11 := of_decide_eq_true h11
      refine CT.skip ?_
      refine PX.then_n ?_
      refine CT.seq ?_
      refine CT.block ?_
      refine CT.seq ?_
      -- region 5: relation.go:17
      refine CT.region ?_
      refine Wl.q rfl rfl (OpQ.index1 un22 sz23 rfl rfl (by omega) (hr.isSome (j := k) (by simp; omega))) ?_
      refine Wl.q rfl rfl (OpQ.loadRd sc23 rfl rfl hr (getMap u xs 0#64 (j := k) (by omega))) ?_
      refine Wl.q rfl rfl (OpQ.assign rfl) ?_
      refine Wl.nil ?_
      refine PX.then_n ?_
      refine CT.seq ?_
      -- region 6: relation.go:18
      refine CT.region ?_
      refine Wl.q rfl rfl (OpQ.move rfl) ?_
      refine Wl.q rfl rfl (OpQ.move rfl) ?_
      refine Wl.q rfl rfl (OpQ.len un22 rfl) ?_
      refine Wl.g rfl rfl (OpG.callV go40 rfl (fun w hH => points_spec w _)) ?_
      rintro _ _
      refine Wl.q rfl rfl (OpQ.uandNot rfl rfl) ?_
      refine Wl.q rfl rfl (OpQ.uneq (q := 0#64) rfl rfl) ?_
      refine Wl.nil ?_
      refine PX.then_n ?_
      refine CT.cond rfl (fun h19 => ?_) (fun h19 => ?_)
      · -- if t19: then
        refine CT.seq ?_
        -- region 7: relation.go:19
        refine CT.region ?_
        refine Wl.q rfl rfl (OpQ.assign rfl) ?_
        refine Wl.nil ?_
        refine PX.then_n ?_
        refine CT.ret ?_
        refine PX.block_r ?_
        refine PX.then_r ?_
        refine PX.then_r ?_
        refine PX.block_r ?_
        refine PX.then_r ?_
        refine PX.ret1 rfl rfl (fun w' hH => ?_)
        exact ⟨by rw [validB_bad (k := k) (by omega) (by simpa [okRow] using h19)], hH.ext⟩
      · -- if t19: else
        refine CT.skip ?_
        refine PX.block_n ?_
        refine PX.then_n ?_
        -- region 8: relation.go:17
        refine CT.region ?_
        refine Wl.q rfl rfl (OpQ.add rfl rfl (by omega)) ?_
        refine Wl.q rfl rfl (OpQ.move rfl) ?_
        refine Wl.nil ?_
        have hall2 : ∀ j < k + 1, okRow xs (xs.getD j 0#64) = true := fun j hj => by
          rcases Nat.lt_or_ge j k with h | h
          · exact hall j h
          · rw [show j = k by omega]; simpa [okRow] using h19
        exact PX.loop hK0 (k + 1) ⟨by omega, hall2⟩ (by first | omega | (dsimp only; omega)) ⟨rfl, rfl, rfl, rfl, trivial⟩ (HSub.refl _)
    · -- if t11: else
      have h11 := of_decide_eq_false h11
      refine CT.exit ?_
      refine PX.then_x ?_
      refine PX.then_x ?_
      refine PX.block_x ?_
      refine PX.then_n ?_
      refine CT.seq ?_
      -- region 9: relation.go:22
      refine CT.region ?_
      refine Wl.q rfl rfl (OpQ.assign rfl) ?_
      refine Wl.nil ?_
      refine PX.then_n ?_
      refine CT.ret ?_
      refine PX.ret1 rfl rfl (fun w' hH => ?_)
      exact ⟨by rw [validB_ok (by omega) (fun j hj => hall j (by omega))], hH.ext⟩

theorem un43 : Tryd.prog.underlying 43 = some (.int .u64) := by kernel_rfl
set_option maxRecDepth 100000 in
/-- semigroup/semigroupref02.Valid -/
theorem validR_spec (w : World) (a : Option Addr) (cp : Nat) (xs : List (BitVec 64)) (hr : Rd w a (xs.map u)) (hn : xs.length ≤ 9223372036854775807) : Calls Tryd.prog 18 #[.slice a xs.length cp] w (fun e w' => e = .returned (.bool (validB xs)) ∧ Ext [] w w') := by
  refine enter (args := [.slice a xs.length cp]) [] 26 Tryd.func18 rfl rfl rfl ?_
  refine CT.seq ?_
  -- region 0: ref.go:5
  refine CT.region ?_
  refine Wl.q rfl rfl (OpQ.assign rfl) ?_
  refine Wl.nil ?_
  refine PX.then_n ?_
  refine CT.seq ?_
  refine CT.seq ?_
  -- region 1: ref.go:6
  refine CT.region ?_
  refine Wl.q rfl rfl (OpQ.move rfl) ?_
  refine Wl.q rfl rfl (OpQ.len un22 rfl) ?_
  refine Wl.q rfl rfl (OpQ.gtr rfl rfl) ?_
  refine Wl.nil ?_
  refine PX.then_n ?_
  refine CT.cond rfl (fun h7 => ?_) (fun h7 => ?_)
  · -- if t7: then
    have h7 := of_decide_eq_true h7
    refine CT.seq ?_
    -- region 2: ref.go:7
    refine CT.region ?_
    refine Wl.q rfl rfl (OpQ.assign rfl) ?_
    refine Wl.nil ?_
    refine PX.then_n ?_
    refine CT.ret ?_
    refine PX.then_r ?_
    refine PX.ret1 rfl rfl (fun w' hH => ?_)
    exact ⟨by rw [validB_len (by omega)], hH.ext⟩
  · -- if t7: else
    have h7 := of_decide_eq_false h7
    refine CT.skip ?_
    refine PX.then_n ?_
    refine CT.seq ?_
    refine CT.seq ?_
    -- region 3: ref.go:9
    refine CT.region ?_
    refine Wl.q rfl rfl (OpQ.move rfl) ?_
    refine Wl.q rfl rfl (OpQ.len un22 rfl) ?_
    refine Wl.q rfl rfl (OpQ.move rfl) ?_
    refine Wl.nil ?_
    refine PX.then_n ?_
    refine CT.block ?_
    -- the loop at region 4
    refine CT.loop (ι := Nat) (fun k => k ≤ xs.length ∧ ∀ j < k, okRef xs (xs.getD j 0#64) = true) (fun k => [(0, .slice a xs.length cp), (8, .slice a xs.length cp), (9, .int .i64 (xs.length : Int)), (10, .int .i64 (k : Int))]) (fun _ => []) (fun k => xs.length - k) 0 ⟨by omega, by omega⟩ ⟨rfl, rfl, rfl, rfl, trivial⟩ (HSub.refl _) (fun k ⟨hk, hall⟩ K0 hK0 => ?_)
    refine CT.seq ?_
    -- region 4: ref.go:9
    refine CT.region ?_
    refine Wl.q rfl rfl (OpQ.lss rfl rfl) ?_
    refine Wl.nil ?_
    refine PX.then_n ?_
    refine CT.seq ?_
    refine CT.cond rfl (fun h11 => ?_) (fun h11 => ?_)
    · -- if t11: then
      have h11 := of_decide_eq_true h11
      refine CT.skip ?_
      refine PX.then_n ?_
      refine CT.seq ?_
      refine CT.block ?_
      refine CT.seq ?_
      -- region 5: ref.go:9
      refine CT.region ?_
      refine Wl.q rfl rfl (OpQ.index1 un22 sz23 rfl rfl (by omega) (hr.isSome (j := k) (by simp; omega))) ?_
      refine Wl.q rfl rfl (OpQ.loadRd sc23 rfl rfl hr (getMap u xs 0#64 (j := k) (by omega))) ?_
      refine Wl.q rfl rfl (OpQ.assign rfl) ?_
      refine Wl.nil ?_
      refine PX.then_n ?_
      refine CT.seq ?_
      -- region 6: ref.go:10
      refine CT.region ?_
      refine Wl.q rfl rfl (OpQ.move rfl) ?_
      refine Wl.q rfl rfl (OpQ.len un22 rfl) ?_
      refine Wl.q rfl rfl (OpQ.lss rfl rfl) ?_
      refine Wl.q rfl rfl (OpQ.move rfl) ?_
      refine Wl.split 17 rfl (fun hg17 => ?_) (fun hg17 => ?_)
      · -- t17 = True
        have hg17 := of_decide_eq_true hg17
        refine Wl.q rfl rfl (OpQ.move rfl) ?_
        refine Wl.q rfl rfl (OpQ.move rfl) ?_
        refine Wl.q rfl rfl (OpQ.len un22 rfl) ?_
        refine Wl.q rfl rfl (OpQ.conv rfl (conv_i64_u64 un3 un43 _ (by omega))) ?_
        refine Wl.q rfl rfl (OpQ.ushrN rfl rfl) ?_
        refine Wl.q rfl rfl (OpQ.uneq (q := 0#64) rfl rfl) ?_
        refine Wl.q rfl rfl (OpQ.pickT rfl rfl) ?_
        refine Wl.nil ?_
        refine PX.then_n ?_
        refine CT.cond rfl (fun h24 => ?_) (fun h24 => ?_)
        · -- if t24: then
          refine CT.seq ?_
          -- region 7: ref.go:11
          refine CT.region ?_
          refine Wl.q rfl rfl (OpQ.assign rfl) ?_
          refine Wl.nil ?_
          refine PX.then_n ?_
          refine CT.ret ?_
          refine PX.block_r ?_
          refine PX.then_r ?_
          refine PX.then_r ?_
          refine PX.block_r ?_
          refine PX.then_r ?_
          refine PX.ret1 rfl rfl (fun w' hH => ?_)
          exact ⟨by rw [okRef_bad (k := k) (by omega) (by omega) (by simp [okRef]; exact ⟨by omega, by simpa using h24⟩)], hH.ext⟩
        · -- if t24: else
          refine CT.skip ?_
          refine PX.block_n ?_
          refine PX.then_n ?_
          -- region 8: ref.go:9
          refine CT.region ?_
          refine Wl.q rfl rfl (OpQ.add rfl rfl (by omega)) ?_
          refine Wl.q rfl rfl (OpQ.move rfl) ?_
          refine Wl.nil ?_
          have hall2 : ∀ j < k + 1, okRef xs (xs.getD j 0#64) = true := fun j hj => by
            rcases Nat.lt_or_ge j k with h | h
            · exact hall j h
            · rw [show j = k by omega]; simp [okRef]; first | (left; omega) | (right; simpa using h24)
          exact PX.loop hK0 (k + 1) ⟨by omega, hall2⟩ (by first | omega | (dsimp only; omega)) ⟨rfl, rfl, rfl, rfl, trivial⟩ (HSub.refl _)
      · -- t17 = False
        have hg17 := of_decide_eq_false hg17
        refine Wl.skip rfl rfl ?_
        refine Wl.skip rfl rfl ?_
        refine Wl.skip rfl rfl ?_
        refine Wl.skip rfl rfl ?_
        refine Wl.skip rfl rfl ?_
        refine Wl.skip rfl rfl ?_
        refine Wl.q rfl rfl (OpQ.pickF rfl rfl) ?_
        refine Wl.nil ?_
        refine PX.then_n ?_
        refine CT.condF rfl ?_
        refine CT.skip ?_
        refine PX.block_n ?_
        refine PX.then_n ?_
        -- region 8: ref.go:9
        refine CT.region ?_
        refine Wl.q rfl rfl (OpQ.add rfl rfl (by omega)) ?_
        refine Wl.q rfl rfl (OpQ.move rfl) ?_
        refine Wl.nil ?_
        have hall2 : ∀ j < k + 1, okRef xs (xs.getD j 0#64) = true := fun j hj => by
          rcases Nat.lt_or_ge j k with h | h
          · exact hall j h
          · rw [show j = k by omega]; simp [okRef]; first | (left; omega) | (right; simpa using h24)
        exact PX.loop hK0 (k + 1) ⟨by omega, hall2⟩ (by first | omega | (dsimp only; omega)) ⟨rfl, rfl, rfl, rfl, trivial⟩ (HSub.refl _)
    · -- if t11: else
      have h11 := of_decide_eq_false h11
      refine CT.exit ?_
      refine PX.then_x ?_
      refine PX.then_x ?_
      refine PX.block_x ?_
      refine PX.then_n ?_
      refine CT.seq ?_
      -- region 9: ref.go:14
      refine CT.region ?_
      refine Wl.q rfl rfl (OpQ.assign rfl) ?_
      refine Wl.nil ?_
      refine PX.then_n ?_
      refine CT.ret ?_
      refine PX.ret1 rfl rfl (fun w' hH => ?_)
      exact ⟨by rw [okRef_ok (by omega) (fun j hj => hall j (by omega))], hH.ext⟩

set_option maxRecDepth 100000 in
/-- semigroup/semigroupref02.Bit -/
theorem bit_spec (w : World) (j : Nat) (h : j ≤ 9223372036854775807) : Calls Tryd.prog 42 #[.int .i64 (j : Int)] w (fun e w' => e = .returned (u (1#64 <<< j)) ∧ Ext [] w w') := by
  refine enter (args := [.int .i64 (j : Int)]) [] 6 Tryd.func42 rfl rfl rfl ?_
  refine CT.seq ?_
  -- region 0: ref.go:21
  refine CT.region ?_
  refine Wl.q rfl rfl (OpQ.assign rfl) ?_
  refine Wl.nil ?_
  refine PX.then_n ?_
  refine CT.seq ?_
  -- region 1: ref.go:21
  refine CT.region ?_
  refine Wl.q rfl rfl (OpQ.move rfl) ?_
  refine Wl.q rfl rfl (OpQ.conv rfl (conv_i64_u64 un3 un43 _ (by omega))) ?_
  refine Wl.q rfl rfl (OpQ.ushlN (p := 1#64) rfl rfl) ?_
  refine Wl.q rfl rfl (OpQ.assign rfl) ?_
  refine Wl.nil ?_
  refine PX.then_n ?_
  refine CT.ret ?_
  refine PX.ret1 rfl rfl (fun w' hH => ?_)
  exact ⟨rfl, hH.ext⟩

set_option maxRecDepth 100000 in
/-- semigroup/semigroupref02.Has -/
theorem has_spec (w : World) (s : BitVec 64) (j : Nat) (h : j ≤ 9223372036854775807) : Calls Tryd.prog 39 #[u s, .int .i64 (j : Int)] w (fun e w' => e = .returned (.bool (bitB s j)) ∧ Ext [] w w') := by
  refine enter (args := [u s, .int .i64 (j : Int)]) [] 11 Tryd.func39 rfl rfl rfl ?_
  refine CT.seq ?_
  -- region 0: ref.go:18
  refine CT.region ?_
  refine Wl.q rfl rfl (OpQ.assign rfl) ?_
  refine Wl.nil ?_
  refine PX.then_n ?_
  refine CT.seq ?_
  -- region 1: ref.go:18
  refine CT.region ?_
  refine Wl.q rfl rfl (OpQ.move rfl) ?_
  refine Wl.q rfl rfl (OpQ.move rfl) ?_
  refine Wl.q rfl rfl (OpQ.conv rfl (conv_i64_u64 un3 un43 _ (by omega))) ?_
  refine Wl.q rfl rfl (OpQ.ushrN rfl rfl) ?_
  refine Wl.q rfl rfl (OpQ.uand (q := 1#64) rfl rfl) ?_
  refine Wl.q rfl rfl (OpQ.ueql (q := 1#64) rfl rfl) ?_
  refine Wl.q rfl rfl (OpQ.assign rfl) ?_
  refine Wl.nil ?_
  refine PX.then_n ?_
  refine CT.ret ?_
  refine PX.ret1 rfl rfl (fun w' hH => ?_)
  exact ⟨rfl, hH.ext⟩

theorem mixed : Tryd.prog.follows .mixedOrders = true := by kernel_rfl
set_option maxRecDepth 100000 in
/-- semigroup/semigroupref02.Same -/
theorem same_spec (w : World) (a : Option Addr) (cp : Nat) (xs : List (BitVec 64)) (hr : Rd w a (xs.map u)) (a2 : Option Addr) (cp2 : Nat) (ys : List (BitVec 64)) (hr2 : Rd w a2 (ys.map u)) (hn : xs.length ≤ 9223372036854775807) : Calls Tryd.prog 23 #[.slice a xs.length cp, .slice a2 ys.length cp2] w (fun e w' => e = .returned (.bool (xs == ys)) ∧ Ext [] w w') := by
  refine enter (args := [.slice a xs.length cp, .slice a2 ys.length cp2]) [] 26 Tryd.func23 rfl rfl rfl ?_
  refine CT.seq ?_
  -- region 0: ref.go:167
  refine CT.region ?_
  refine Wl.q rfl rfl (OpQ.assign rfl) ?_
  refine Wl.nil ?_
  refine PX.then_n ?_
  refine CT.seq ?_
  refine CT.seq ?_
  -- region 1: ref.go:168
  refine CT.region ?_
  refine Wl.q rfl rfl (OpQ.move rfl) ?_
  refine Wl.q rfl rfl (OpQ.len un22 rfl) ?_
  refine Wl.q rfl rfl (OpQ.move rfl) ?_
  refine Wl.q rfl rfl (OpQ.len un22 rfl) ?_
  refine Wl.q rfl rfl (OpQ.neq rfl rfl) ?_
  refine Wl.nil ?_
  refine PX.then_n ?_
  refine CT.cond rfl (fun h10 => ?_) (fun h10 => ?_)
  · -- if t10: then
    have h10 : ¬ (xs.length : Int) = ys.length := by simpa using h10
    refine CT.seq ?_
    -- region 2: ref.go:169
    refine CT.region ?_
    refine Wl.q rfl rfl (OpQ.assign rfl) ?_
    refine Wl.nil ?_
    refine PX.then_n ?_
    refine CT.ret ?_
    refine PX.then_r ?_
    refine PX.ret1 rfl rfl (fun w' hH => ?_)
    exact ⟨by rw [beqSame_len (by omega)], hH.ext⟩
  · -- if t10: else
    have h10 : (xs.length : Int) = ys.length := by simpa using h10
    refine CT.skip ?_
    refine PX.then_n ?_
    refine CT.seq ?_
    refine CT.seq ?_
    -- region 3: ref.go:171
    refine CT.region ?_
    refine Wl.q rfl rfl (OpQ.move rfl) ?_
    refine Wl.q rfl rfl (OpQ.len un22 rfl) ?_
    refine Wl.q rfl rfl (OpQ.move rfl) ?_
    refine Wl.nil ?_
    refine PX.then_n ?_
    refine CT.block ?_
    -- the loop at region 4
    refine CT.loop (ι := Nat) (fun k => k ≤ xs.length ∧ ∀ j < k, (xs.getD j 0#64 != ys.getD j 0#64) = false) (fun k => [(0, .slice a xs.length cp), (1, .slice a2 ys.length cp2), (12, .int .i64 (xs.length : Int)), (13, .int .i64 (k : Int))]) (fun _ => []) (fun k => xs.length - k) 0 ⟨by omega, by omega⟩ ⟨rfl, rfl, rfl, rfl, trivial⟩ (HSub.refl _) (fun k ⟨hk, hall⟩ K0 hK0 => ?_)
    refine CT.seq ?_
    -- region 4: ref.go:171
    refine CT.region ?_
    refine Wl.q rfl rfl (OpQ.lss rfl rfl) ?_
    refine Wl.nil ?_
    refine PX.then_n ?_
    refine CT.seq ?_
    refine CT.cond rfl (fun h14 => ?_) (fun h14 => ?_)
    · -- if t14: then
      have h14 := of_decide_eq_true h14
      refine CT.skip ?_
      refine PX.then_n ?_
      refine CT.seq ?_
      refine CT.block ?_
      refine CT.seq ?_
      -- region 5: ref.go:171
      refine CT.region ?_
      refine Wl.q rfl rfl (OpQ.move rfl) ?_
      refine Wl.q rfl rfl (OpQ.assign rfl) ?_
      refine Wl.nil ?_
      refine PX.then_n ?_
      refine CT.seq ?_
      -- region 6, drawn: ref.go:172
      refine CT.draw 9 mixed ?_
      refine RA.q 0 (by kernel_rfl) rfl rfl rfl (.refl _) (OpQ.move rfl) ?_
      refine RA.q 1 (by kernel_rfl) rfl rfl rfl (.refl _) (OpQ.move rfl) ?_
      refine RA.q 2 (by kernel_rfl) rfl rfl rfl (.refl _) (OpQ.index1 un22 sz23 rfl rfl (by omega) (hr.isSome (j := k) (by simp; omega))) ?_
      refine RA.q 3 (by kernel_rfl) rfl rfl rfl (.refl _) (OpQ.loadRd sc23 rfl rfl hr (getMap u xs 0#64 (j := k) (by omega))) ?_
      refine RA.q 4 (by kernel_rfl) rfl rfl rfl (.refl _) (OpQ.move rfl) ?_
      refine RA.q 5 (by kernel_rfl) rfl rfl rfl (.refl _) (OpQ.move rfl) ?_
      refine RA.q 6 (by kernel_rfl) rfl rfl rfl (.refl _) (OpQ.index1 un22 sz23 rfl rfl (by omega) (hr2.isSome (j := k) (by simp; omega))) ?_
      refine RA.q 7 (by kernel_rfl) rfl rfl rfl (.refl _) (OpQ.loadRd sc23 rfl rfl hr2 (getMap u ys 0#64 (j := k) (by omega))) ?_
      refine RA.q 8 (by kernel_rfl) rfl rfl rfl (.refl _) (OpQ.uneq rfl rfl) ?_
      refine RA.tail ?_
      refine RT.done (by kernel_rfl) ?_
      refine PX.then_n ?_
      refine CT.cond rfl (fun h24 => ?_) (fun h24 => ?_)
      · -- if t24: then
        refine CT.seq ?_
        -- region 7: ref.go:173
        refine CT.region ?_
        refine Wl.q rfl rfl (OpQ.assign rfl) ?_
        refine Wl.nil ?_
        refine PX.then_n ?_
        refine CT.ret ?_
        refine PX.block_r ?_
        refine PX.then_r ?_
        refine PX.then_r ?_
        refine PX.block_r ?_
        refine PX.then_r ?_
        refine PX.ret1 rfl rfl (fun w' hH => ?_)
        exact ⟨by rw [beqSame (k := k) h24], hH.ext⟩
      · -- if t24: else
        refine CT.skip ?_
        refine PX.block_n ?_
        refine PX.then_n ?_
        -- region 8: ref.go:171
        refine CT.region ?_
        refine Wl.q rfl rfl (OpQ.add rfl rfl (by omega)) ?_
        refine Wl.q rfl rfl (OpQ.move rfl) ?_
        refine Wl.nil ?_
        have hall2 : ∀ j < k + 1, (xs.getD j 0#64 != ys.getD j 0#64) = false := fun j hj => by
          rcases Nat.lt_or_ge j k with h | h
          · exact hall j h
          · rw [show j = k by omega]; exact h24
        exact PX.loop hK0 (k + 1) ⟨by omega, hall2⟩ (by first | omega | (dsimp only; omega)) ⟨rfl, rfl, rfl, rfl, trivial⟩ (HSub.refl _)
    · -- if t14: else
      have h14 := of_decide_eq_false h14
      refine CT.exit ?_
      refine PX.then_x ?_
      refine PX.then_x ?_
      refine PX.block_x ?_
      refine PX.then_n ?_
      refine CT.seq ?_
      -- region 9: ref.go:176
      refine CT.region ?_
      refine Wl.q rfl rfl (OpQ.assign rfl) ?_
      refine Wl.nil ?_
      refine PX.then_n ?_
      refine CT.ret ?_
      refine PX.ret1 rfl rfl (fun w' hH => ?_)
      exact ⟨by rw [beqSame_ok (by omega) (fun j hj => hall j (by omega))], hH.ext⟩

theorem in23 : (Tryd.prog.info? 23).map (fun i => (i.zero, i.size, i.bytes)) = some (some (.int .u64 0), 1, 8) := by kernel_rfl
set_option maxRecDepth 100000 in
/-- semigroup/relation.Identity -/
theorem ident_spec (w : World) (m : Int) : Calls Tryd.prog 32 #[.int .i64 m] w (fun e w' => New 23 1 w w' e (idR m).length ((idR m).map u)) := by
  refine enter (args := [.int .i64 m]) [] 24 Tryd.func32 rfl rfl rfl ?_
  refine CT.seq ?_
  -- region 0: relation.go:31
  refine CT.region ?_
  refine Wl.q rfl rfl (OpQ.assign rfl) ?_
  refine Wl.nil ?_
  refine PX.then_n ?_
  refine CT.seq ?_
  refine CT.seq ?_
  -- region 1: relation.go:32
  refine CT.region ?_
  refine Wl.q rfl rfl (OpQ.move rfl) ?_
  refine Wl.q rfl rfl (OpQ.lss rfl rfl) ?_
  refine Wl.q rfl rfl (OpQ.move rfl) ?_
  refine Wl.split 7 rfl (fun hg7 => ?_) (fun hg7 => ?_)
  · -- t7 = True
    have hg7 := of_decide_eq_true hg7
    refine Wl.skip rfl rfl ?_
    refine Wl.skip rfl rfl ?_
    refine Wl.q rfl rfl (OpQ.pickT rfl rfl) ?_
    refine Wl.nil ?_
    refine PX.then_n ?_
    refine CT.condT rfl ?_
    refine CT.seq ?_
    -- region 2: relation.go:33
    refine CT.region ?_
    refine Wl.q rfl rfl (OpQ.assign rfl) ?_
    refine Wl.nil ?_
    refine PX.then_n ?_
    refine CT.ret ?_
    refine PX.then_r ?_
    refine PX.ret1 rfl rfl (fun w' hH => ?_)
    rw [idR_out (by omega)]; exact newNil hH.ext
  · -- t7 = False
    have hg7 := of_decide_eq_false hg7
    refine Wl.q rfl rfl (OpQ.move rfl) ?_
    refine Wl.q rfl rfl (OpQ.gtr rfl rfl) ?_
    refine Wl.q rfl rfl (OpQ.pickF rfl rfl) ?_
    refine Wl.nil ?_
    refine PX.then_n ?_
    refine CT.cond rfl (fun h10 => ?_) (fun h10 => ?_)
    · -- if t10: then
      have h10 := of_decide_eq_true h10
      refine CT.seq ?_
      -- region 2: relation.go:33
      refine CT.region ?_
      refine Wl.q rfl rfl (OpQ.assign rfl) ?_
      refine Wl.nil ?_
      refine PX.then_n ?_
      refine CT.ret ?_
      refine PX.then_r ?_
      refine PX.ret1 rfl rfl (fun w' hH => ?_)
      rw [idR_out (by omega)]; exact newNil hH.ext
    · -- if t10: else
      have h10 := of_decide_eq_false h10
      obtain ⟨n, rfl⟩ := Int.eq_ofNat_of_zero_le (by omega : 0 ≤ m)
      refine CT.skip ?_
      refine PX.then_n ?_
      refine CT.seq ?_
      -- region 3: relation.go:35
      refine CT.region ?_
      refine Wl.q rfl rfl (OpQ.move rfl) ?_
      refine Wl.g rfl rfl (OpG.make1 un22 in23 rfl rfl rfl rfl (by omega) (by omega)) ?_
      rintro b _
      refine Wl.q rfl rfl (OpQ.assign rfl) ?_
      refine Wl.nil ?_
      refine PX.then_n ?_
      refine CT.seq ?_
      refine CT.seq ?_
      -- region 4: relation.go:36
      refine CT.region ?_
      refine Wl.q rfl rfl (OpQ.move rfl) ?_
      refine Wl.q rfl rfl (OpQ.move rfl) ?_
      refine Wl.nil ?_
      refine PX.then_n ?_
      refine CT.block ?_
      -- the loop at region 5
      refine CT.loop (ι := Nat) (fun k => k ≤ n) (fun k => [(3, .slice (some ⟨b, 0, none⟩) n n), (13, .int .i64 (n : Int)), (14, .int .i64 (k : Int))]) (fun k => [.row 23 1 (.slice (some ⟨b, 0, none⟩) n n) n ((idL n k).map u)]) (fun k => n - k) 0 (by omega) ⟨rfl, rfl, rfl, trivial⟩ (.keep (row_eq (by simp [idL])) .nil) (fun k hk K0 hK0 => ?_)
      refine CT.seq ?_
      -- region 5: relation.go:36
      refine CT.region ?_
      refine Wl.q rfl rfl (OpQ.lss rfl rfl) ?_
      refine Wl.nil ?_
      refine PX.then_n ?_
      refine CT.seq ?_
      refine CT.cond rfl (fun h15 => ?_) (fun h15 => ?_)
      · -- if t15: then
        have h15 := of_decide_eq_true h15
        refine CT.skip ?_
        refine PX.then_n ?_
        refine CT.seq ?_
        refine CT.block ?_
        refine CT.seq ?_
        -- region 6: relation.go:36
        refine CT.region ?_
        refine Wl.q rfl rfl (OpQ.move rfl) ?_
        refine Wl.q rfl rfl (OpQ.assign rfl) ?_
        refine Wl.nil ?_
        refine PX.then_n ?_
        -- region 7: relation.go:37
        refine CT.region ?_
        refine Wl.q rfl rfl (OpQ.move rfl) ?_
        refine Wl.q rfl rfl (OpQ.move rfl) ?_
        refine Wl.q rfl rfl (OpQ.move rfl) ?_
        refine Wl.q rfl rfl (OpQ.ushlN (p := 1#64) rfl rfl) ?_
        refine Wl.q rfl rfl (OpQ.index1 un22 sz23 rfl rfl (by omega) rfl) ?_
        refine Wl.g rfl rfl (OpG.storeRow sz23 rfl rfl rfl .here (by simp [idL_len]; omega)) ?_
        rintro _ _
        refine Wl.nil ?_
        refine PX.block_n ?_
        refine PX.then_n ?_
        -- region 8: relation.go:36
        refine CT.region ?_
        refine Wl.q rfl rfl (OpQ.add rfl rfl (by omega)) ?_
        refine Wl.q rfl rfl (OpQ.move rfl) ?_
        refine Wl.nil ?_
        exact PX.loop hK0 (k + 1) (by omega) (by first | omega | (dsimp only; omega)) ⟨rfl, rfl, rfl, trivial⟩ (.keep (row_eq (mapSet u _ _ _)) .nil)
      · -- if t15: else
        have h15 := of_decide_eq_false h15
        refine CT.exit ?_
        refine PX.then_x ?_
        refine PX.then_x ?_
        refine PX.block_x ?_
        refine PX.then_n ?_
        refine CT.seq ?_
        -- region 9: relation.go:39
        refine CT.region ?_
        refine Wl.q rfl rfl (OpQ.move rfl) ?_
        refine Wl.q rfl rfl (OpQ.assign rfl) ?_
        refine Wl.nil ?_
        refine PX.then_n ?_
        refine CT.ret ?_
        refine PX.ret1 rfl rfl (fun w' hH => ?_)
        obtain rfl : k = n := by omega
        rw [idR_in (by omega)]; simp only [idL_len]; exact hH.newRow .here

theorem go37 : isGo Tryd.prog 37 = true := by kernel_rfl
set_option maxRecDepth 100000 in
/-- semigroup/relation.Closure -/
theorem closure_spec (w : World) (a : Option Addr) (cp : Nat) (xs : List (BitVec 64)) (hr : Rd w a (xs.map u)) (hn : xs.length ≤ 9223372036854775807) : Calls Tryd.prog 31 #[.slice a xs.length cp] w (fun e w' => New 23 1 w w' e (closR xs).length ((closR xs).map u)) := by
  refine enter (args := [.slice a xs.length cp]) [] 60 Tryd.func31 rfl rfl rfl ?_
  refine CT.seq ?_
  -- region 0: relation.go:93
  refine CT.region ?_
  refine Wl.q rfl rfl (OpQ.assign rfl) ?_
  refine Wl.nil ?_
  refine PX.then_n ?_
  refine CT.seq ?_
  refine CT.seq ?_
  -- region 1: relation.go:94
  refine CT.region ?_
  refine Wl.q rfl rfl (OpQ.move rfl) ?_
  refine Wl.g rfl rfl (OpG.callV go37 rfl (fun w hH => valid_spec w a cp xs (hH.rd0 hr rfl) hn)) ?_
  rintro _ _
  refine Wl.q rfl rfl (OpQ.not rfl) ?_
  refine Wl.nil ?_
  refine PX.then_n ?_
  refine CT.cond rfl (fun h10 => ?_) (fun h10 => ?_)
  · -- if t10: then
    refine CT.seq ?_
    -- region 2: relation.go:95
    refine CT.region ?_
    refine Wl.q rfl rfl (OpQ.assign rfl) ?_
    refine Wl.nil ?_
    refine PX.then_n ?_
    refine CT.ret ?_
    refine PX.then_r ?_
    refine PX.ret1 rfl rfl (fun w' hH => ?_)
    have hv : validB xs = false := by simpa using h10
    rw [closR_no hv]; exact newNil hH.ext
  · -- if t10: else
    have hv : validB xs = true := by simpa using h10
    have hl := validB_le hv
    refine CT.skip ?_
    refine PX.then_n ?_
    refine CT.seq ?_
    -- region 3: relation.go:97
    refine CT.region ?_
    refine Wl.q rfl rfl (OpQ.move rfl) ?_
    refine Wl.q rfl rfl (OpQ.len un22 rfl) ?_
    refine Wl.g rfl rfl (OpG.make1 un22 in23 rfl rfl rfl rfl (by omega) (by omega)) ?_
    rintro b _
    refine Wl.q rfl rfl (OpQ.assign rfl) ?_
    refine Wl.nil ?_
    refine PX.then_n ?_
    refine CT.seq ?_
    refine CT.seq ?_
    -- region 4: relation.go:98
    refine CT.region ?_
    refine Wl.q rfl rfl (OpQ.move rfl) ?_
    refine Wl.q rfl rfl (OpQ.len un22 rfl) ?_
    refine Wl.q rfl rfl (OpQ.move rfl) ?_
    refine Wl.nil ?_
    refine PX.then_n ?_
    refine CT.block ?_
    -- the loop at region 5
    refine CT.loop (ι := Nat) (fun k => k ≤ xs.length) (fun k => [(3, .slice (some ⟨b, 0, none⟩) xs.length xs.length), (14, .slice a xs.length cp), (15, .int .i64 (xs.length : Int)), (16, .int .i64 (k : Int))]) (fun k => [.row 23 1 (.slice (some ⟨b, 0, none⟩) xs.length xs.length) xs.length ((cl0 xs k).map u)]) (fun k => xs.length - k) 0 (by omega) ⟨rfl, rfl, rfl, rfl, trivial⟩ (.keep (row_eq (by simp [cl0])) .nil) (fun k hk K0 hK0 => ?_)
    refine CT.seq ?_
    -- region 5: relation.go:98
    refine CT.region ?_
    refine Wl.q rfl rfl (OpQ.lss rfl rfl) ?_
    refine Wl.nil ?_
    refine PX.then_n ?_
    refine CT.seq ?_
    refine CT.cond rfl (fun h17 => ?_) (fun h17 => ?_)
    · -- if t17: then
      have h17 := of_decide_eq_true h17
      refine CT.skip ?_
      refine PX.then_n ?_
      refine CT.seq ?_
      refine CT.block ?_
      refine CT.seq ?_
      -- region 6: relation.go:98
      refine CT.region ?_
      refine Wl.q rfl rfl (OpQ.move rfl) ?_
      refine Wl.q rfl rfl (OpQ.index1 un22 sz23 rfl rfl (by omega) (hr.isSome (j := k) (by simp; omega))) ?_
      refine Wl.q rfl rfl (OpQ.loadRd sc23 rfl rfl hr (getMap u xs 0#64 (j := k) (by omega))) ?_
      refine Wl.q rfl rfl (OpQ.assign rfl) ?_
      refine Wl.q rfl rfl (OpQ.assign rfl) ?_
      refine Wl.nil ?_
      refine PX.then_n ?_
      -- region 7: relation.go:99
      refine CT.region ?_
      refine Wl.q rfl rfl (OpQ.move rfl) ?_
      refine Wl.q rfl rfl (OpQ.move rfl) ?_
      refine Wl.q rfl rfl (OpQ.move rfl) ?_
      refine Wl.q rfl rfl (OpQ.move rfl) ?_
      refine Wl.q rfl rfl (OpQ.ushlN (p := 1#64) rfl rfl) ?_
      refine Wl.q rfl rfl (OpQ.uor rfl rfl) ?_
      refine Wl.q rfl rfl (OpQ.index1 un22 sz23 rfl rfl (by omega) rfl) ?_
      refine Wl.g rfl rfl (OpG.storeRow sz23 rfl rfl rfl .here (by simp [cl0_len]; omega)) ?_
      rintro _ _
      refine Wl.nil ?_
      refine PX.block_n ?_
      refine PX.then_n ?_
      -- region 8: relation.go:98
      refine CT.region ?_
      refine Wl.q rfl rfl (OpQ.add rfl rfl (by omega)) ?_
      refine Wl.q rfl rfl (OpQ.move rfl) ?_
      refine Wl.nil ?_
      exact PX.loop hK0 (k + 1) (by omega) (by first | omega | (dsimp only; omega)) ⟨rfl, rfl, rfl, rfl, trivial⟩ (.keep (row_eq (mapSet u _ _ _)) .nil)
    · -- if t17: else
      have h17 := of_decide_eq_false h17
      refine CT.exit ?_
      refine PX.then_x ?_
      refine PX.then_x ?_
      refine PX.block_x ?_
      refine PX.then_n ?_
      refine CT.seq ?_
      refine CT.seq ?_
      -- region 9: relation.go:101
      refine CT.region ?_
      refine Wl.q rfl rfl (OpQ.move rfl) ?_
      refine Wl.q rfl rfl (OpQ.len un22 rfl) ?_
      refine Wl.q rfl rfl (OpQ.move rfl) ?_
      refine Wl.nil ?_
      refine PX.then_n ?_
      refine CT.block ?_
      -- the loop at region 10
      obtain rfl : k = xs.length := by omega
      refine CT.loop (ι := Nat) (fun k => k ≤ xs.length) (fun k => [(3, .slice (some ⟨b, 0, none⟩) xs.length xs.length), (30, .int .i64 (xs.length : Int)), (31, .int .i64 (k : Int))]) (fun k => [.row 23 1 (.slice (some ⟨b, 0, none⟩) xs.length xs.length) xs.length ((clOut (cl0 xs xs.length) k).map u)]) (fun k => xs.length - k) 0 (by omega) ⟨rfl, rfl, rfl, trivial⟩ (HSub.refl _) (fun k hk K1 hK1 => ?_)
      refine CT.seq ?_
      -- region 10: relation.go:101
      refine CT.region ?_
      refine Wl.q rfl rfl (OpQ.lss rfl rfl) ?_
      refine Wl.nil ?_
      refine PX.then_n ?_
      refine CT.seq ?_
      refine CT.cond rfl (fun h32 => ?_) (fun h32 => ?_)
      · -- if t32: then
        have h32 := of_decide_eq_true h32
        refine CT.skip ?_
        refine PX.then_n ?_
        refine CT.seq ?_
        refine CT.block ?_
        refine CT.seq ?_
        -- region 11: relation.go:101
        refine CT.region ?_
        refine Wl.q rfl rfl (OpQ.move rfl) ?_
        refine Wl.q rfl rfl (OpQ.assign rfl) ?_
        refine Wl.nil ?_
        refine PX.then_n ?_
        refine CT.seq ?_
        -- region 12: relation.go:102
        refine CT.region ?_
        refine Wl.q rfl rfl (OpQ.move rfl) ?_
        refine Wl.q rfl rfl (OpQ.len un22 rfl) ?_
        refine Wl.q rfl rfl (OpQ.move rfl) ?_
        refine Wl.nil ?_
        refine PX.then_n ?_
        refine CT.block ?_
        -- the loop at region 13
        refine CT.loop (ι := Nat) (fun i => i ≤ xs.length) (fun i => [(3, .slice (some ⟨b, 0, none⟩) xs.length xs.length), (6, .int .i64 (k : Int)), (30, .int .i64 (xs.length : Int)), (31, .int .i64 (k : Int)), (35, .int .i64 (xs.length : Int)), (36, .int .i64 (i : Int))]) (fun i => [.row 23 1 (.slice (some ⟨b, 0, none⟩) xs.length xs.length) xs.length ((clIn k (clOut (cl0 xs xs.length) k) i).map u)]) (fun i => xs.length - i) 0 (by omega) ⟨rfl, rfl, rfl, rfl, rfl, rfl, trivial⟩ (HSub.refl _) (fun i hi K2 hK2 => ?_)
        have hL : ∀ i, (clIn k (clOut (cl0 xs xs.length) k) i).length = xs.length := fun i => by rw [clIn_len, clOut_len, cl0_len]
        refine CT.seq ?_
        -- region 13: relation.go:102
        refine CT.region ?_
        refine Wl.q rfl rfl (OpQ.lss rfl rfl) ?_
        refine Wl.nil ?_
        refine PX.then_n ?_
        refine CT.seq ?_
        refine CT.cond rfl (fun h37 => ?_) (fun h37 => ?_)
        · -- if t37: then
          have h37 := of_decide_eq_true h37
          refine CT.skip ?_
          refine PX.then_n ?_
          refine CT.seq ?_
          refine CT.block ?_
          refine CT.seq ?_
          -- region 14: relation.go:102
          refine CT.region ?_
          refine Wl.q rfl rfl (OpQ.move rfl) ?_
          refine Wl.q rfl rfl (OpQ.assign rfl) ?_
          refine Wl.nil ?_
          refine PX.then_n ?_
          refine CT.seq ?_
          -- region 15: relation.go:103
          refine CT.region ?_
          refine Wl.q rfl rfl (OpQ.move rfl) ?_
          refine Wl.q rfl rfl (OpQ.move rfl) ?_
          refine Wl.q rfl rfl (OpQ.index1 un22 sz23 rfl rfl (by omega) rfl) ?_
          refine Wl.q rfl rfl (OpQ.loadRow sc23 rfl .here (getMap u _ 0#64 (j := i) (by rw [hL]; omega))) ?_
          refine Wl.q rfl rfl (OpQ.move rfl) ?_
          refine Wl.q rfl rfl (OpQ.ushrN rfl rfl) ?_
          refine Wl.q rfl rfl (OpQ.uand (q := 1#64) rfl rfl) ?_
          refine Wl.q rfl rfl (OpQ.ueql (q := 1#64) rfl rfl) ?_
          refine Wl.nil ?_
          refine PX.then_n ?_
          refine CT.cond rfl (fun h46 => ?_) (fun h46 => ?_)
          · -- if t46: then
            -- region 16, drawn: relation.go:104
            refine CT.draw 10 mixed ?_
            refine RA.q 0 (by kernel_rfl) rfl rfl rfl (.refl _) (OpQ.move rfl) ?_
            refine RA.q 1 (by kernel_rfl) rfl rfl rfl (.refl _) (OpQ.move rfl) ?_
            refine RA.q 2 (by kernel_rfl) rfl rfl rfl (.refl _) (OpQ.index1 un22 sz23 rfl rfl (by omega) rfl) ?_
            refine RA.q 3 (by kernel_rfl) rfl rfl rfl (.refl _) (OpQ.loadRow sc23 rfl .here (getMap u _ 0#64 (j := i) (by rw [hL]; omega))) ?_
            refine RA.q 4 (by kernel_rfl) rfl rfl rfl (.refl _) (OpQ.move rfl) ?_
            refine RA.q 5 (by kernel_rfl) rfl rfl rfl (.refl _) (OpQ.move rfl) ?_
            refine RA.q 6 (by kernel_rfl) rfl rfl rfl (.refl _) (OpQ.index1 un22 sz23 rfl rfl (by omega) rfl) ?_
            refine RA.q 7 (by kernel_rfl) rfl rfl rfl (.refl _) (OpQ.loadRow sc23 rfl .here (getMap u _ 0#64 (j := k) (by rw [hL]; omega))) ?_
            refine RA.q 8 (by kernel_rfl) rfl rfl rfl (.refl _) (OpQ.uor rfl rfl) ?_
            refine RA.q 9 (by kernel_rfl) rfl rfl rfl (.refl _) (OpQ.index1 un22 sz23 rfl rfl (by omega) rfl) ?_
            refine RA.tail ?_
            refine RT.f 10 (by kernel_rfl) rfl rfl rfl (OpG.storeRow sz23 rfl rfl rfl .here (by simp [hL]; omega)) ?_
            rintro _ _
            refine RT.done (by kernel_rfl) ?_
            refine PX.block_n ?_
            refine PX.then_n ?_
            -- region 17: relation.go:102
            refine CT.region ?_
            refine Wl.q rfl rfl (OpQ.add rfl rfl (by omega)) ?_
            refine Wl.q rfl rfl (OpQ.move rfl) ?_
            refine Wl.nil ?_
            exact PX.loop hK2 (i + 1) (by omega) (by first | omega | (dsimp only; omega)) ⟨rfl, rfl, rfl, rfl, rfl, rfl, trivial⟩ (.keep (row_eq (by rw [clIn_hit h46]; exact mapSet u _ _ _)) .nil)
          · -- if t46: else
            refine CT.skip ?_
            refine PX.block_n ?_
            refine PX.then_n ?_
            -- region 17: relation.go:102
            refine CT.region ?_
            refine Wl.q rfl rfl (OpQ.add rfl rfl (by omega)) ?_
            refine Wl.q rfl rfl (OpQ.move rfl) ?_
            refine Wl.nil ?_
            exact PX.loop hK2 (i + 1) (by omega) (by first | omega | (dsimp only; omega)) ⟨rfl, rfl, rfl, rfl, rfl, rfl, trivial⟩ (.keep (row_eq (by rw [clIn_miss h46])) .nil)
        · -- if t37: else
          have h37 := of_decide_eq_false h37
          refine CT.exit ?_
          refine PX.then_x ?_
          refine PX.then_x ?_
          refine PX.block_x ?_
          refine PX.block_n ?_
          refine PX.then_n ?_
          -- region 18: relation.go:101
          refine CT.region ?_
          refine Wl.q rfl rfl (OpQ.add rfl rfl (by omega)) ?_
          refine Wl.q rfl rfl (OpQ.move rfl) ?_
          refine Wl.nil ?_
          obtain rfl : i = xs.length := by omega
          exact PX.loop hK1 (k + 1) (by omega) (by first | omega | (dsimp only; omega)) ⟨rfl, rfl, rfl, trivial⟩ (.keep (row_eq (by simp only [clOut, cl0_len])) .nil)
      · -- if t32: else
        have h32 := of_decide_eq_false h32
        refine CT.exit ?_
        refine PX.then_x ?_
        refine PX.then_x ?_
        refine PX.block_x ?_
        refine PX.then_n ?_
        refine CT.seq ?_
        -- region 19: relation.go:108
        refine CT.region ?_
        refine Wl.q rfl rfl (OpQ.move rfl) ?_
        refine Wl.q rfl rfl (OpQ.assign rfl) ?_
        refine Wl.nil ?_
        refine PX.then_n ?_
        refine CT.ret ?_
        refine PX.ret1 rfl rfl (fun w' hH => ?_)
        obtain rfl : k = xs.length := by omega
        have := hH.newRow .here
        rw [closR_yes hv, closM_len]; exact this

theorem go42 : isGo Tryd.prog 42 = true := by kernel_rfl
theorem go39 : isGo Tryd.prog 39 = true := by kernel_rfl
set_option maxRecDepth 100000 in
/-- semigroup/semigroupref02.Closure -/
theorem closureR_spec (w : World) (a : Option Addr) (cp : Nat) (xs : List (BitVec 64)) (hr : Rd w a (xs.map u)) (hn : xs.length ≤ 64) : Calls Tryd.prog 43 #[.slice a xs.length cp] w (fun e w' => New 23 1 w w' e (closM xs).length ((closM xs).map u)) := by
  refine enter (args := [.slice a xs.length cp]) [] 57 Tryd.func43 rfl rfl rfl ?_
  refine CT.seq ?_
  -- region 0: ref.go:69
  refine CT.region ?_
  refine Wl.q rfl rfl (OpQ.assign rfl) ?_
  refine Wl.nil ?_
  refine PX.then_n ?_
  refine CT.seq ?_
  -- region 1: ref.go:70
  refine CT.region ?_
  refine Wl.g rfl rfl (OpG.lit0 un22 in23 rfl) ?_
  rintro b7 _
  refine Wl.q rfl rfl (OpQ.move rfl) ?_
  refine Wl.g rfl rfl (OpG.append un22 in23 (by rfl) (by decide) rfl rfl (p := 0) rfl (fun w hH => hH.rd0 hr rfl) ⟨by simp, ones_map (fun _ => rfl) xs, by omega, by omega⟩ (nm := xs.length) (by omega) (all := (clr xs 0).map u) (by simp [clr])) ?_
  rintro ⟨a9, c9⟩ h9
  have h9 : ∀ k : Nat, k < xs.length → a9.isSome = true := fun k hk => h9 (by omega)
  refine Wl.q rfl rfl (OpQ.assign rfl) ?_
  refine Wl.nil ?_
  refine PX.then_n ?_
  refine CT.seq ?_
  refine CT.seq ?_
  -- region 2: ref.go:71
  refine CT.region ?_
  refine Wl.q rfl rfl (OpQ.move rfl) ?_
  refine Wl.q rfl rfl (OpQ.len un22 rfl) ?_
  refine Wl.q rfl rfl (OpQ.move rfl) ?_
  refine Wl.nil ?_
  refine PX.then_n ?_
  refine CT.block ?_
  -- the loop at region 3
  refine CT.loop (ι := Nat) (fun k => k ≤ xs.length) (fun k => [(3, .slice a9 xs.length c9), (11, .int .i64 (xs.length : Int)), (12, .int .i64 (k : Int))]) (fun k => [.row 23 1 (.slice a9 xs.length c9) xs.length ((clr xs k).map u)]) (fun k => xs.length - k) 0 (by omega) ⟨rfl, rfl, rfl, trivial⟩ (HSub.refl _) (fun k hk K0 hK0 => ?_)
  refine CT.seq ?_
  -- region 3: ref.go:71
  refine CT.region ?_
  refine Wl.q rfl rfl (OpQ.lss rfl rfl) ?_
  refine Wl.nil ?_
  refine PX.then_n ?_
  refine CT.seq ?_
  refine CT.cond rfl (fun h13 => ?_) (fun h13 => ?_)
  · -- if t13: then
    have h13 := of_decide_eq_true h13
    refine CT.skip ?_
    refine PX.then_n ?_
    refine CT.seq ?_
    refine CT.block ?_
    refine CT.seq ?_
    -- region 4: ref.go:71
    refine CT.region ?_
    refine Wl.q rfl rfl (OpQ.move rfl) ?_
    refine Wl.q rfl rfl (OpQ.assign rfl) ?_
    refine Wl.nil ?_
    refine PX.then_n ?_
    -- region 5, drawn: ref.go:72
    refine CT.draw 10 mixed ?_
    refine RA.q 0 (by kernel_rfl) rfl rfl rfl (.refl _) (OpQ.move rfl) ?_
    refine RA.q 1 (by kernel_rfl) rfl rfl rfl (.refl _) (OpQ.move rfl) ?_
    refine RA.q 2 (by kernel_rfl) rfl rfl rfl (.refl _) (OpQ.move rfl) ?_
    refine RA.q 3 (by kernel_rfl) rfl rfl rfl (.refl _) (OpQ.move rfl) ?_
    refine RA.q 4 (by kernel_rfl) rfl rfl rfl (.refl _) (OpQ.index1 un22 sz23 rfl rfl (by omega) (h9 k (by omega))) ?_
    refine RA.q 5 (by kernel_rfl) rfl rfl rfl (.refl _) (OpQ.loadRow sc23 rfl .here (getMap u _ 0#64 (j := k) (by rw [clr_len]; omega))) ?_
    refine RA.q 6 (by kernel_rfl) rfl rfl rfl (.refl _) (OpQ.move rfl) ?_
    refine RA.f 7 (by kernel_rfl) rfl rfl rfl (OpG.callV go42 rfl (fun w hH => bit_spec w _ (by omega))) (fun _ _ => (.refl _)) ?_
    rintro _ _
    refine RA.q 8 (by kernel_rfl) rfl rfl rfl (.refl _) (OpQ.uor rfl rfl) ?_
    refine RA.q 9 (by kernel_rfl) rfl rfl rfl (.refl _) (OpQ.index1 un22 sz23 rfl rfl (by omega) (h9 k (by omega))) ?_
    refine RA.tail ?_
    refine RT.f 10 (by kernel_rfl) rfl rfl rfl (OpG.storeRow sz23 rfl rfl rfl .here (by simp [clr_len]; omega)) ?_
    rintro _ _
    refine RT.done (by kernel_rfl) ?_
    refine PX.block_n ?_
    refine PX.then_n ?_
    -- region 6: ref.go:71
    refine CT.region ?_
    refine Wl.q rfl rfl (OpQ.add rfl rfl (by omega)) ?_
    refine Wl.q rfl rfl (OpQ.move rfl) ?_
    refine Wl.nil ?_
    exact PX.loop hK0 (k + 1) (by omega) (by first | omega | (dsimp only; omega)) ⟨rfl, rfl, rfl, trivial⟩ (.keep (row_eq (mapSet u _ _ _)) .nil)
  · -- if t13: else
    have h13 := of_decide_eq_false h13
    refine CT.exit ?_
    refine PX.then_x ?_
    refine PX.then_x ?_
    refine PX.block_x ?_
    refine PX.then_n ?_
    refine CT.seq ?_
    refine CT.seq ?_
    -- region 7: ref.go:74
    refine CT.region ?_
    refine Wl.q rfl rfl (OpQ.move rfl) ?_
    refine Wl.q rfl rfl (OpQ.len un22 rfl) ?_
    refine Wl.q rfl rfl (OpQ.move rfl) ?_
    refine Wl.nil ?_
    refine PX.then_n ?_
    refine CT.block ?_
    -- the loop at region 8
    obtain rfl : k = xs.length := by omega
    refine CT.loop (ι := Nat) (fun k => k ≤ xs.length) (fun k => [(3, .slice a9 xs.length c9), (27, .int .i64 (xs.length : Int)), (28, .int .i64 (k : Int))]) (fun k => [.row 23 1 (.slice a9 xs.length c9) xs.length ((clOut (clr xs xs.length) k).map u)]) (fun k => xs.length - k) 0 (by omega) ⟨rfl, rfl, rfl, trivial⟩ (HSub.refl _) (fun k hk K1 hK1 => ?_)
    refine CT.seq ?_
    -- region 8: ref.go:74
    refine CT.region ?_
    refine Wl.q rfl rfl (OpQ.lss rfl rfl) ?_
    refine Wl.nil ?_
    refine PX.then_n ?_
    refine CT.seq ?_
    refine CT.cond rfl (fun h29 => ?_) (fun h29 => ?_)
    · -- if t29: then
      have h29 := of_decide_eq_true h29
      refine CT.skip ?_
      refine PX.then_n ?_
      refine CT.seq ?_
      refine CT.block ?_
      refine CT.seq ?_
      -- region 9: ref.go:74
      refine CT.region ?_
      refine Wl.q rfl rfl (OpQ.move rfl) ?_
      refine Wl.q rfl rfl (OpQ.assign rfl) ?_
      refine Wl.nil ?_
      refine PX.then_n ?_
      refine CT.seq ?_
      -- region 10: ref.go:75
      refine CT.region ?_
      refine Wl.q rfl rfl (OpQ.move rfl) ?_
      refine Wl.q rfl rfl (OpQ.len un22 rfl) ?_
      refine Wl.q rfl rfl (OpQ.move rfl) ?_
      refine Wl.nil ?_
      refine PX.then_n ?_
      refine CT.block ?_
      -- the loop at region 11
      refine CT.loop (ι := Nat) (fun i => i ≤ xs.length) (fun i => [(3, .slice a9 xs.length c9), (5, .int .i64 (k : Int)), (27, .int .i64 (xs.length : Int)), (28, .int .i64 (k : Int)), (32, .int .i64 (xs.length : Int)), (33, .int .i64 (i : Int))]) (fun i => [.row 23 1 (.slice a9 xs.length c9) xs.length ((clIn k (clOut (clr xs xs.length) k) i).map u)]) (fun i => xs.length - i) 0 (by omega) ⟨rfl, rfl, rfl, rfl, rfl, rfl, trivial⟩ (HSub.refl _) (fun i hi K2 hK2 => ?_)
      have hL : ∀ i, (clIn k (clOut (clr xs xs.length) k) i).length = xs.length := fun i => by rw [clIn_len, clOut_len, clr_len]
      refine CT.seq ?_
      -- region 11: ref.go:75
      refine CT.region ?_
      refine Wl.q rfl rfl (OpQ.lss rfl rfl) ?_
      refine Wl.nil ?_
      refine PX.then_n ?_
      refine CT.seq ?_
      refine CT.cond rfl (fun h34 => ?_) (fun h34 => ?_)
      · -- if t34: then
        have h34 := of_decide_eq_true h34
        refine CT.skip ?_
        refine PX.then_n ?_
        refine CT.seq ?_
        refine CT.block ?_
        refine CT.seq ?_
        -- region 12: ref.go:75
        refine CT.region ?_
        refine Wl.q rfl rfl (OpQ.move rfl) ?_
        refine Wl.q rfl rfl (OpQ.assign rfl) ?_
        refine Wl.nil ?_
        refine PX.then_n ?_
        refine CT.seq ?_
        -- region 13: ref.go:76
        refine CT.region ?_
        refine Wl.q rfl rfl (OpQ.move rfl) ?_
        refine Wl.q rfl rfl (OpQ.move rfl) ?_
        refine Wl.q rfl rfl (OpQ.index1 un22 sz23 rfl rfl (by omega) (h9 i (by omega))) ?_
        refine Wl.q rfl rfl (OpQ.loadRow sc23 rfl .here (getMap u _ 0#64 (j := i) (by rw [hL]; omega))) ?_
        refine Wl.q rfl rfl (OpQ.move rfl) ?_
        refine Wl.g rfl rfl (OpG.callV go39 rfl (fun w hH => has_spec w _ _ (by omega))) ?_
        rintro _ _
        refine Wl.nil ?_
        refine PX.then_n ?_
        refine CT.cond rfl (fun h41 => ?_) (fun h41 => ?_)
        · -- if t41: then
          -- region 14, drawn: ref.go:77
          refine CT.draw 12 mixed ?_
          refine RA.q 0 (by kernel_rfl) rfl rfl rfl (.refl _) (OpQ.move rfl) ?_
          refine RA.q 1 (by kernel_rfl) rfl rfl rfl (.refl _) (OpQ.move rfl) ?_
          refine RA.q 2 (by kernel_rfl) rfl rfl rfl (.refl _) (OpQ.move rfl) ?_
          refine RA.q 3 (by kernel_rfl) rfl rfl rfl (.refl _) (OpQ.move rfl) ?_
          refine RA.q 4 (by kernel_rfl) rfl rfl rfl (.refl _) (OpQ.index1 un22 sz23 rfl rfl (by omega) (h9 i (by omega))) ?_
          refine RA.q 5 (by kernel_rfl) rfl rfl rfl (.refl _) (OpQ.loadRow sc23 rfl .here (getMap u _ 0#64 (j := i) (by rw [hL]; omega))) ?_
          refine RA.q 6 (by kernel_rfl) rfl rfl rfl (.refl _) (OpQ.move rfl) ?_
          refine RA.q 7 (by kernel_rfl) rfl rfl rfl (.refl _) (OpQ.move rfl) ?_
          refine RA.q 8 (by kernel_rfl) rfl rfl rfl (.refl _) (OpQ.index1 un22 sz23 rfl rfl (by omega) (h9 k (by omega))) ?_
          refine RA.q 9 (by kernel_rfl) rfl rfl rfl (.refl _) (OpQ.loadRow sc23 rfl .here (getMap u _ 0#64 (j := k) (by rw [hL]; omega))) ?_
          refine RA.q 10 (by kernel_rfl) rfl rfl rfl (.refl _) (OpQ.uor rfl rfl) ?_
          refine RA.q 11 (by kernel_rfl) rfl rfl rfl (.refl _) (OpQ.index1 un22 sz23 rfl rfl (by omega) (h9 i (by omega))) ?_
          refine RA.tail ?_
          refine RT.f 12 (by kernel_rfl) rfl rfl rfl (OpG.storeRow sz23 rfl rfl rfl .here (by simp [hL]; omega)) ?_
          rintro _ _
          refine RT.done (by kernel_rfl) ?_
          refine PX.block_n ?_
          refine PX.then_n ?_
          -- region 15: ref.go:75
          refine CT.region ?_
          refine Wl.q rfl rfl (OpQ.add rfl rfl (by omega)) ?_
          refine Wl.q rfl rfl (OpQ.move rfl) ?_
          refine Wl.nil ?_
          exact PX.loop hK2 (i + 1) (by omega) (by first | omega | (dsimp only; omega)) ⟨rfl, rfl, rfl, rfl, rfl, rfl, trivial⟩ (.keep (row_eq (by rw [clIn_hit h41]; exact mapSet u _ _ _)) .nil)
        · -- if t41: else
          refine CT.skip ?_
          refine PX.block_n ?_
          refine PX.then_n ?_
          -- region 15: ref.go:75
          refine CT.region ?_
          refine Wl.q rfl rfl (OpQ.add rfl rfl (by omega)) ?_
          refine Wl.q rfl rfl (OpQ.move rfl) ?_
          refine Wl.nil ?_
          exact PX.loop hK2 (i + 1) (by omega) (by first | omega | (dsimp only; omega)) ⟨rfl, rfl, rfl, rfl, rfl, rfl, trivial⟩ (.keep (row_eq (by rw [clIn_miss h41])) .nil)
      · -- if t34: else
        have h34 := of_decide_eq_false h34
        refine CT.exit ?_
        refine PX.then_x ?_
        refine PX.then_x ?_
        refine PX.block_x ?_
        refine PX.block_n ?_
        refine PX.then_n ?_
        -- region 16: ref.go:74
        refine CT.region ?_
        refine Wl.q rfl rfl (OpQ.add rfl rfl (by omega)) ?_
        refine Wl.q rfl rfl (OpQ.move rfl) ?_
        refine Wl.nil ?_
        obtain rfl : i = xs.length := by omega
        exact PX.loop hK1 (k + 1) (by omega) (by first | omega | (dsimp only; omega)) ⟨rfl, rfl, rfl, trivial⟩ (.keep (row_eq (by simp only [clOut, clr_len])) .nil)
    · -- if t29: else
      have h29 := of_decide_eq_false h29
      refine CT.exit ?_
      refine PX.then_x ?_
      refine PX.then_x ?_
      refine PX.block_x ?_
      refine PX.then_n ?_
      refine CT.seq ?_
      -- region 17: ref.go:81
      refine CT.region ?_
      refine Wl.q rfl rfl (OpQ.move rfl) ?_
      refine Wl.q rfl rfl (OpQ.assign rfl) ?_
      refine Wl.nil ?_
      refine PX.then_n ?_
      refine CT.ret ?_
      refine PX.ret1 rfl rfl (fun w' hH => ?_)
      obtain rfl : k = xs.length := by omega
      have := hH.newRow .here
      rw [closM_len, closM, cl0_eq_clr]; exact this

theorem go31 : isGo Tryd.prog 31 = true := by kernel_rfl
theorem go23 : isGo Tryd.prog 23 = true := by kernel_rfl
set_option maxRecDepth 100000 in
/-- semigroup/semigrouplaw02.awake -/
theorem awake_spec (w : World)  : Calls Tryd.prog 19 #[] w (fun e w' => e = .returned (.bool true) ∧ Ext [] w w') := by
  refine enter (args := []) [] 5 Tryd.func19 rfl rfl rfl ?_
  refine CT.seq ?_
  -- region 0: law.go:10
  refine CT.region ?_
  refine Wl.q rfl rfl (OpQ.assign rfl) ?_
  refine Wl.nil ?_
  refine PX.then_n ?_
  refine CT.seq ?_
  -- region 1: law.go:10
  refine CT.region ?_
  refine Wl.g rfl rfl (OpG.lit2 un22 in23 rfl rfl rfl rfl rfl) ?_
  rintro b1 _
  refine Wl.g rfl rfl (OpG.callR go31 rfl (fun w hH => closure_spec w _ _ [2#64, 0#64] (hH.rd .here) (by decide))) ?_
  rintro ⟨a2, c2⟩ h2
  refine Wl.g rfl rfl (OpG.lit2 un22 in23 rfl rfl rfl rfl rfl) ?_
  rintro b3 _
  refine Wl.g rfl rfl (OpG.callV go23 rfl (fun w hH => same_spec w _ _ (closR [2#64, 0#64]) (hH.rd (.there .here)) _ _ [3#64, 2#64] (hH.rd .here) (by decide))) ?_
  rintro _ _
  refine Wl.q rfl rfl (OpQ.assign rfl) ?_
  refine Wl.nil ?_
  refine PX.then_n ?_
  refine CT.ret ?_
  refine PX.ret1 rfl rfl (fun w' hH => ?_)
  exact ⟨by rw [show (closR [2#64, 0#64] == [3#64, 2#64]) = true by decide], hH.ext⟩

theorem un44 : Tryd.prog.underlying 44 = some (.array 64 5) := by kernel_rfl
theorem sz5 : sizeB Tryd.prog 5 = some 1 := by kernel_rfl
set_option maxRecDepth 100000 in
/-- math/bits.TrailingZeros64 -/
theorem tz_spec (w : World) (s : BitVec 64) (hT : Tab w) : Calls Tryd.prog 38 #[u s] w (fun e w' => e = .returned (.int .i64 (tz s : Int)) ∧ Ext [] w w') := by
  refine enter (args := [u s]) [] 14 Tryd.func38 rfl rfl rfl ?_
  refine CT.seq ?_
  -- region 0: bits.go:90
  refine CT.region ?_
  refine Wl.q rfl rfl (OpQ.assign rfl) ?_
  refine Wl.nil ?_
  refine PX.then_n ?_
  refine CT.seq ?_
  refine CT.seq ?_
  -- region 1: bits.go:91
  refine CT.region ?_
  refine Wl.q rfl rfl (OpQ.move rfl) ?_
  refine Wl.q rfl rfl (OpQ.ueql (q := 0#64) rfl rfl) ?_
  refine Wl.nil ?_
  refine PX.then_n ?_
  refine CT.cond rfl (fun h4 => ?_) (fun h4 => ?_)
  · -- if t4: then
    obtain rfl : s = 0#64 := by simpa using h4
    refine CT.seq ?_
    -- region 2: bits.go:92
    refine CT.region ?_
    refine Wl.q rfl rfl (OpQ.assign rfl) ?_
    refine Wl.nil ?_
    refine PX.then_n ?_
    refine CT.ret ?_
    refine PX.then_r ?_
    refine PX.ret1 rfl rfl (fun w' hH => ?_)
    exact ⟨rfl, hH.ext⟩
  · -- if t4: else
    have hs : s ≠ 0#64 := by simpa using h4
    refine CT.skip ?_
    refine PX.then_n ?_
    refine CT.seq ?_
    -- region 3: bits.go:105
    refine CT.region ?_
    refine Wl.q rfl rfl (OpQ.move rfl) ?_
    refine Wl.q rfl rfl (OpQ.move rfl) ?_
    refine Wl.q rfl rfl (OpQ.uneg rfl) ?_
    refine Wl.q rfl rfl (OpQ.uand rfl rfl) ?_
    refine Wl.q rfl rfl (OpQ.umul (q := 285870213051353865#64) rfl rfl) ?_
    refine Wl.q rfl rfl (OpQ.ushrN (n := 58) rfl rfl) ?_
    refine Wl.q rfl rfl (OpQ.indexArr1 un44 sz5 rfl rfl (tz_bound hs)) ?_
    refine Wl.q rfl rfl (OpQ.loadRd (a := some ⟨0, 0, none⟩) sc5 rfl rfl hT (tz_load hs)) ?_
    refine Wl.q rfl rfl (OpQ.conv rfl (conv_u8_i64 un5 un3 _ (by have := tz_lt hs; omega))) ?_
    refine Wl.q rfl rfl (OpQ.assign rfl) ?_
    refine Wl.nil ?_
    refine PX.then_n ?_
    refine CT.ret ?_
    refine PX.ret1 rfl rfl (fun w' hH => ?_)
    exact ⟨rfl, hH.ext⟩

theorem go38 : isGo Tryd.prog 38 = true := by kernel_rfl
theorem un25 : Tryd.prog.underlying 25 = some (.slice 3) := by kernel_rfl
theorem in3 : (Tryd.prog.info? 3).map (fun i => (i.zero, i.size, i.bytes)) = some (some (.int .i64 0), 1, 8) := by kernel_rfl
set_option maxRecDepth 100000 in
/-- semigroup/relation.Members -/
theorem members_spec (w : World) (s : BitVec 64) (hT : Tab w) : Calls Tryd.prog 15 #[u s] w (fun e w' => New 3 1 w w' e (memM s).length ((memM s).map iv)) := by
  refine enter (args := [u s]) [] 16 Tryd.func15 rfl rfl rfl ?_
  refine CT.seq ?_
  -- region 0: relation.go:124
  refine CT.region ?_
  refine Wl.q rfl rfl (OpQ.assign rfl) ?_
  refine Wl.nil ?_
  refine PX.then_n ?_
  refine CT.seq ?_
  -- region 1: relation.go:125
  refine CT.region ?_
  refine Wl.q rfl rfl (OpQ.assign rfl) ?_
  refine Wl.nil ?_
  refine PX.then_n ?_
  refine CT.seq ?_
  refine CT.block ?_
  -- the loop at region 2
  refine CT.nilrow 3 1 ?_
  refine CT.loop (ι := W64 × List Nat × Option Addr × Nat) (fun (r, l, a, c) => l ++ memM r = memM s) (fun (r, l, a, c) => [(0, u r), (3, .slice a l.length c)]) (fun (r, l, a, c) => [.row 3 1 (.slice a l.length c) l.length (l.map iv)]) (fun (r, l, a, c) => (memM r).length) (s, [], none, 0) rfl ⟨rfl, rfl, trivial⟩ (HSub.refl _) (fun ⟨r, l, a, c⟩ hl K0 hK0 => ?_)
  dsimp only
  have hlen := memM_len s
  have hll : l.length + (memM r).length = (memM s).length := by rw [← hl, List.length_append]
  refine CT.seq ?_
  refine CT.seq ?_
  -- region 2: relation.go:126
  refine CT.region ?_
  refine Wl.q rfl rfl (OpQ.move rfl) ?_
  refine Wl.q rfl rfl (OpQ.uneq (q := 0#64) rfl rfl) ?_
  refine Wl.nil ?_
  refine PX.then_n ?_
  refine CT.cond rfl (fun h5 => ?_) (fun h5 => ?_)
  · -- if t5: then
    have hr0 : r ≠ 0#64 := by simpa using h5
    refine CT.skip ?_
    refine PX.then_n ?_
    refine CT.seq ?_
    refine CT.block ?_
    -- region 4: relation.go:127
    refine CT.region ?_
    refine Wl.q rfl rfl (OpQ.move rfl) ?_
    refine Wl.q rfl rfl (OpQ.move rfl) ?_
    refine Wl.g rfl rfl (OpG.callV go38 rfl (fun w hH => tz_spec w r (hH.rd0 hT rfl))) ?_
    rintro _ _
    refine Wl.g rfl rfl (OpG.lit1 un25 in3 rfl rfl rfl) ?_
    rintro b13 _
    refine Wl.g rfl rfl (OpG.append un25 in3 (by rfl) (by decide) rfl rfl (p := 1) rfl (fun w hH => hH.rd .here) ⟨rfl, (by simp [Value.oneCell']), (by omega), (by omega)⟩ (nm := l.length + 1) (by omega) (all := (l ++ [tz r]).map iv) (by simp [iv])) ?_
    rintro ⟨a14, c14⟩ h14
    refine Wl.q rfl rfl (OpQ.assign rfl) ?_
    refine Wl.nil ?_
    refine PX.block_n ?_
    refine PX.then_n ?_
    -- region 3: relation.go:126
    refine CT.region ?_
    refine Wl.q rfl rfl (OpQ.move rfl) ?_
    refine Wl.q rfl rfl (OpQ.move rfl) ?_
    refine Wl.q rfl rfl (OpQ.usub (q := 1#64) rfl rfl) ?_
    refine Wl.q rfl rfl (OpQ.uand rfl rfl) ?_
    refine Wl.q rfl rfl (OpQ.assign rfl) ?_
    refine Wl.nil ?_
    exact PX.loop hK0 (r &&& (r - 1#64), l ++ [tz r], a14, c14) (show (l ++ [tz r]) ++ memM (r &&& (r - 1#64)) = memM s by rw [List.append_assoc, List.singleton_append, ← memM_cons hr0]; exact hl) (drop_lt hr0) ⟨rfl, (lkV rfl (by simp)), trivial⟩ (.drop (.keep (by simp) .nil))
  · -- if t5: else
    have hr0 : r = 0#64 := by simpa using h5
    refine CT.exit ?_
    refine PX.then_x ?_
    refine PX.then_x ?_
    refine PX.block_x ?_
    refine PX.then_n ?_
    refine CT.seq ?_
    -- region 5: relation.go:129
    refine CT.region ?_
    refine Wl.q rfl rfl (OpQ.move rfl) ?_
    refine Wl.q rfl rfl (OpQ.assign rfl) ?_
    refine Wl.nil ?_
    refine PX.then_n ?_
    refine CT.ret ?_
    refine PX.ret1 rfl rfl (fun w' hH => ?_)
    have hlm : l = memM s := by rw [← hl, hr0, memM_zero, List.append_nil]
    rw [← hlm]; exact hH.newRow .here

set_option maxRecDepth 100000 in
/-- semigroup/semigroupref02.Members -/
theorem membersR_spec (w : World) (s : BitVec 64) : Calls Tryd.prog 16 #[u s] w (fun e w' => New 3 1 w w' e (memM s).length ((memM s).map iv)) := by
  refine enter (args := [u s]) [] 17 Tryd.func16 rfl rfl rfl ?_
  refine CT.seq ?_
  -- region 0: ref.go:96
  refine CT.region ?_
  refine Wl.q rfl rfl (OpQ.assign rfl) ?_
  refine Wl.nil ?_
  refine PX.then_n ?_
  refine CT.seq ?_
  -- region 1: ref.go:97
  refine CT.region ?_
  refine Wl.q rfl rfl (OpQ.assign rfl) ?_
  refine Wl.nil ?_
  refine PX.then_n ?_
  refine CT.seq ?_
  refine CT.seq ?_
  -- region 2: ref.go:98
  refine CT.region ?_
  refine Wl.q rfl rfl (OpQ.assign rfl) ?_
  refine Wl.nil ?_
  refine PX.then_n ?_
  refine CT.block ?_
  -- the loop at region 3
  refine CT.nilrow 3 1 ?_
  refine CT.loop (ι := Nat × List Nat × Option Addr × Nat) (fun (k, l, a, c) => k ≤ 64 ∧ l = (List.range k).filter (fun j => s.getLsbD j)) (fun (k, l, a, c) => [(0, u s), (3, .slice a l.length c), (4, .int .i64 (k : Int))]) (fun (k, l, a, c) => [.row 3 1 (.slice a l.length c) l.length (l.map iv)]) (fun (k, l, a, c) => 64 - k) (0, [], none, 0) ⟨by omega, rfl⟩ ⟨rfl, rfl, rfl, trivial⟩ (HSub.refl _) (fun ⟨k, l, a, c⟩ ⟨hk, hl⟩ K0 hK0 => ?_)
  dsimp only
  have hll : l.length ≤ 64 := by have := List.length_filter_le (fun j => s.getLsbD j) (List.range k); rw [← hl] at this; simp at this; omega
  refine CT.seq ?_
  refine CT.seq ?_
  -- region 3: ref.go:98
  refine CT.region ?_
  refine Wl.q rfl rfl (OpQ.move rfl) ?_
  refine Wl.q rfl rfl (OpQ.lss rfl rfl) ?_
  refine Wl.nil ?_
  refine PX.then_n ?_
  refine CT.cond rfl (fun h6 => ?_) (fun h6 => ?_)
  · -- if t6: then
    have h6 := of_decide_eq_true h6
    refine CT.skip ?_
    refine PX.then_n ?_
    refine CT.seq ?_
    refine CT.block ?_
    refine CT.seq ?_
    -- region 5: ref.go:99
    refine CT.region ?_
    refine Wl.q rfl rfl (OpQ.move rfl) ?_
    refine Wl.q rfl rfl (OpQ.move rfl) ?_
    refine Wl.g rfl rfl (OpG.callV go39 rfl (fun w hH => has_spec w s _ (by omega))) ?_
    rintro _ _
    refine Wl.nil ?_
    refine PX.then_n ?_
    refine CT.cond rfl (fun h11 => ?_) (fun h11 => ?_)
    · -- if t11: then
      -- region 6: ref.go:100
      refine CT.region ?_
      refine Wl.q rfl rfl (OpQ.move rfl) ?_
      refine Wl.q rfl rfl (OpQ.move rfl) ?_
      refine Wl.g rfl rfl (OpG.lit1 un25 in3 rfl rfl rfl) ?_
      rintro b14 _
      refine Wl.g rfl rfl (OpG.append un25 in3 (by rfl) (by decide) rfl rfl (p := 1) rfl (fun w hH => hH.rd .here) ⟨rfl, (by simp [Value.oneCell']), (by omega), (by omega)⟩ (nm := l.length + 1) (by omega) (all := (l ++ [k]).map iv) (by simp [iv])) ?_
      rintro ⟨a15, c15⟩ h15
      refine Wl.q rfl rfl (OpQ.assign rfl) ?_
      refine Wl.nil ?_
      refine PX.block_n ?_
      refine PX.then_n ?_
      -- region 4: ref.go:98
      refine CT.region ?_
      refine Wl.q rfl rfl (OpQ.move rfl) ?_
      refine Wl.q rfl rfl (OpQ.add rfl rfl (by omega)) ?_
      refine Wl.q rfl rfl (OpQ.assign rfl) ?_
      refine Wl.nil ?_
      have hb := bitB_eq s k
      have h11 : s.getLsbD k = true := by rw [← hb]; exact h11
      have e : l ++ [k] = (List.range (k + 1)).filter (fun j => s.getLsbD j) := by rw [List.range_succ, List.filter_append, ← hl]; simp [h11]
      exact PX.loop hK0 (k + 1, l ++ [k], a15, c15) ⟨by omega, e⟩ (by first | omega | (dsimp only; omega)) ⟨rfl, (lkV rfl (by simp)), rfl, trivial⟩ (.drop (.keep (by simp) .nil))
    · -- if t11: else
      refine CT.skip ?_
      refine PX.block_n ?_
      refine PX.then_n ?_
      -- region 4: ref.go:98
      refine CT.region ?_
      refine Wl.q rfl rfl (OpQ.move rfl) ?_
      refine Wl.q rfl rfl (OpQ.add rfl rfl (by omega)) ?_
      refine Wl.q rfl rfl (OpQ.assign rfl) ?_
      refine Wl.nil ?_
      have hb := bitB_eq s k
      have h11 : s.getLsbD k = false := by rw [← hb]; exact h11
      have e : l = (List.range (k + 1)).filter (fun j => s.getLsbD j) := by rw [List.range_succ, List.filter_append, ← hl]; simp [h11]
      exact PX.loop hK0 (k + 1, l, a, c) ⟨by omega, e⟩ (by first | omega | (dsimp only; omega)) ⟨rfl, rfl, rfl, trivial⟩ (HSub.refl _)
  · -- if t6: else
    have h6 := of_decide_eq_false h6
    refine CT.exit ?_
    refine PX.then_x ?_
    refine PX.then_x ?_
    refine PX.block_x ?_
    refine PX.then_n ?_
    refine CT.seq ?_
    -- region 7: ref.go:103
    refine CT.region ?_
    refine Wl.q rfl rfl (OpQ.move rfl) ?_
    refine Wl.q rfl rfl (OpQ.assign rfl) ?_
    refine Wl.nil ?_
    refine PX.then_n ?_
    refine CT.ret ?_
    refine PX.ret1 rfl rfl (fun w' hH => ?_)
    obtain rfl : k = 64 := by omega
    have := hH.newRow .here
    subst hl; exact this

theorem go15 : isGo Tryd.prog 15 = true := by kernel_rfl
theorem sz3 : sizeB Tryd.prog 3 = some 1 := by kernel_rfl
theorem sc3 : scalarB Tryd.prog 3 = some true := by kernel_rfl
set_option maxRecDepth 100000 in
/-- semigroup/relation.Image -/
theorem image_spec (w : World) (a : Option Addr) (cp : Nat) (xs : List (BitVec 64)) (hr : Rd w a (xs.map u)) (hn : xs.length ≤ 9223372036854775807) (s : BitVec 64) (hT : Tab w) : Calls Tryd.prog 17 #[.slice a xs.length cp, u s] w (fun e w' => e = .returned (u (imgR xs s)) ∧ Ext [] w w') := by
  have sm : 0 < xs.length → a.isSome = true := fun h => hr.isSome (j := 0) (by simpa using h)
  refine enter (args := [.slice a xs.length cp, u s]) [] 30 Tryd.func17 rfl rfl rfl ?_
  refine CT.seq ?_
  -- region 0: relation.go:112
  refine CT.region ?_
  refine Wl.q rfl rfl (OpQ.assign rfl) ?_
  refine Wl.nil ?_
  refine PX.then_n ?_
  refine CT.seq ?_
  refine CT.seq ?_
  -- region 1: relation.go:113
  refine CT.region ?_
  refine Wl.q rfl rfl (OpQ.move rfl) ?_
  refine Wl.g rfl rfl (OpG.callV go37 rfl (fun w hH => valid_spec w a cp xs (hH.rd0 hr rfl) hn)) ?_
  rintro _ _
  refine Wl.q rfl rfl (OpQ.not rfl) ?_
  refine Wl.nil ?_
  refine PX.then_n ?_
  refine CT.cond rfl (fun h10 => ?_) (fun h10 => ?_)
  · -- if t10: then
    have hv : validB xs = false := by simpa using h10
    refine CT.seq ?_
    -- region 2: relation.go:114
    refine CT.region ?_
    refine Wl.q rfl rfl (OpQ.assign rfl) ?_
    refine Wl.nil ?_
    refine PX.then_n ?_
    refine CT.ret ?_
    refine PX.then_r ?_
    refine PX.ret1 rfl rfl (fun w' hH => ?_)
    exact ⟨by rw [imgR_no hv]; rfl, hH.ext⟩
  · -- if t10: else
    have hv : validB xs = true := by simpa using h10
    have hl := validB_le hv
    refine CT.skip ?_
    refine PX.then_n ?_
    refine CT.seq ?_
    -- region 3: relation.go:116
    refine CT.region ?_
    refine Wl.q rfl rfl (OpQ.assign rfl) ?_
    refine Wl.nil ?_
    refine PX.then_n ?_
    refine CT.seq ?_
    refine CT.seq ?_
    -- region 4: relation.go:117
    refine CT.region ?_
    refine Wl.q rfl rfl (OpQ.move rfl) ?_
    refine Wl.q rfl rfl (OpQ.move rfl) ?_
    refine Wl.q rfl rfl (OpQ.len un22 rfl) ?_
    refine Wl.g rfl rfl (OpG.callV go40 rfl (fun w hH => points_spec w _)) ?_
    rintro _ _
    refine Wl.q rfl rfl (OpQ.uand rfl rfl) ?_
    refine Wl.g rfl rfl (OpG.callR go15 rfl (fun w hH => members_spec w _ (hH.rd0 hT rfl))) ?_
    rintro ⟨a16, c16⟩ h16
    have hml := memM_len (s &&& pts xs.length)
    refine Wl.q rfl rfl (OpQ.len un25 rfl) ?_
    refine Wl.q rfl rfl (OpQ.move rfl) ?_
    refine Wl.nil ?_
    refine PX.then_n ?_
    refine CT.block ?_
    -- the loop at region 5
    refine CT.loop (ι := Nat) (fun k => k ≤ (memM (s &&& pts xs.length)).length) (fun k => [(0, .slice a xs.length cp), (5, u (imgF xs (memM (s &&& pts xs.length)) k)), (16, .slice a16 (memM (s &&& pts xs.length)).length c16), (17, .int .i64 ((memM (s &&& pts xs.length)).length : Int)), (18, .int .i64 (k : Int))]) (fun _ => [.row 3 1 (.slice a16 (memM (s &&& pts xs.length)).length c16) (memM (s &&& pts xs.length)).length ((memM (s &&& pts xs.length)).map iv)]) (fun k => (memM (s &&& pts xs.length)).length - k) 0 (by omega) ⟨rfl, rfl, rfl, rfl, rfl, trivial⟩ (HSub.refl _) (fun k hk K0 hK0 => ?_)
    refine CT.seq ?_
    -- region 5: relation.go:117
    refine CT.region ?_
    refine Wl.q rfl rfl (OpQ.lss rfl rfl) ?_
    refine Wl.nil ?_
    refine PX.then_n ?_
    refine CT.seq ?_
    refine CT.cond rfl (fun h19 => ?_) (fun h19 => ?_)
    · -- if t19: then
      have h19 := of_decide_eq_true h19
      refine CT.skip ?_
      refine PX.then_n ?_
      refine CT.seq ?_
      refine CT.block ?_
      refine CT.seq ?_
      -- region 6: relation.go:117
      refine CT.region ?_
      refine Wl.q rfl rfl (OpQ.index1 un25 sz3 rfl rfl (by omega) (h16 (by omega))) ?_
      refine Wl.q rfl rfl (OpQ.loadRow sc3 rfl .here (getMap iv _ 0 (j := k) (by omega))) ?_
      have hm := mem_pts (s := s) hl (k := k) (by omega)
      refine Wl.q rfl rfl (OpQ.assign rfl) ?_
      refine Wl.nil ?_
      refine PX.then_n ?_
      -- region 7: relation.go:118
      refine CT.region ?_
      refine Wl.q rfl rfl (OpQ.move rfl) ?_
      refine Wl.q rfl rfl (OpQ.move rfl) ?_
      refine Wl.q rfl rfl (OpQ.move rfl) ?_
      refine Wl.q rfl rfl (OpQ.index1 un22 sz23 rfl rfl ⟨Int.natCast_nonneg _, by omega⟩ (sm (by omega))) ?_
      refine Wl.q rfl rfl (OpQ.loadRd sc23 rfl rfl hr (getMap u xs 0#64 (j := (memM (s &&& pts xs.length)).getD k 0) (by omega))) ?_
      refine Wl.q rfl rfl (OpQ.uor rfl rfl) ?_
      refine Wl.q rfl rfl (OpQ.assign rfl) ?_
      refine Wl.nil ?_
      refine PX.block_n ?_
      refine PX.then_n ?_
      -- region 8: relation.go:117
      refine CT.region ?_
      refine Wl.q rfl rfl (OpQ.add rfl rfl (by omega)) ?_
      refine Wl.q rfl rfl (OpQ.move rfl) ?_
      refine Wl.nil ?_
      exact PX.loop hK0 (k + 1) (by omega) (by first | omega | (dsimp only; omega)) ⟨rfl, rfl, rfl, rfl, rfl, trivial⟩ (HSub.refl _)
    · -- if t19: else
      have h19 := of_decide_eq_false h19
      refine CT.exit ?_
      refine PX.then_x ?_
      refine PX.then_x ?_
      refine PX.block_x ?_
      refine PX.then_n ?_
      refine CT.seq ?_
      -- region 9: relation.go:120
      refine CT.region ?_
      refine Wl.q rfl rfl (OpQ.move rfl) ?_
      refine Wl.q rfl rfl (OpQ.assign rfl) ?_
      refine Wl.nil ?_
      refine PX.then_n ?_
      refine CT.ret ?_
      refine PX.ret1 rfl rfl (fun w' hH => ?_)
      obtain rfl : k = (memM (s &&& pts xs.length)).length := by omega
      exact ⟨by rw [imgR_yes hv]; rfl, hH.ext⟩

set_option maxRecDepth 100000 in
/-- semigroup/semigroupref02.Image -/
theorem imageR_spec (w : World) (a : Option Addr) (cp : Nat) (xs : List (BitVec 64)) (hr : Rd w a (xs.map u)) (hn : xs.length ≤ 9223372036854775807) (s : BitVec 64) : Calls Tryd.prog 20 #[.slice a xs.length cp, u s] w (fun e w' => e = .returned (u (imgE xs s xs.length)) ∧ Ext [] w w') := by
  have sm : 0 < xs.length → a.isSome = true := fun h => hr.isSome (j := 0) (by simpa using h)
  refine enter (args := [.slice a xs.length cp, u s]) [] 23 Tryd.func20 rfl rfl rfl ?_
  refine CT.seq ?_
  -- region 0: ref.go:85
  refine CT.region ?_
  refine Wl.q rfl rfl (OpQ.assign rfl) ?_
  refine Wl.nil ?_
  refine PX.then_n ?_
  refine CT.seq ?_
  -- region 1: ref.go:86
  refine CT.region ?_
  refine Wl.q rfl rfl (OpQ.assign rfl) ?_
  refine Wl.nil ?_
  refine PX.then_n ?_
  refine CT.seq ?_
  refine CT.seq ?_
  -- region 2: ref.go:87
  refine CT.region ?_
  refine Wl.q rfl rfl (OpQ.move rfl) ?_
  refine Wl.q rfl rfl (OpQ.len un22 rfl) ?_
  refine Wl.q rfl rfl (OpQ.move rfl) ?_
  refine Wl.nil ?_
  refine PX.then_n ?_
  refine CT.block ?_
  -- the loop at region 3
  refine CT.loop (ι := Nat) (fun k => k ≤ xs.length) (fun k => [(0, .slice a xs.length cp), (1, u s), (5, u (imgE xs s k)), (8, .int .i64 (xs.length : Int)), (9, .int .i64 (k : Int))]) (fun _ => []) (fun k => xs.length - k) 0 (by omega) ⟨rfl, rfl, rfl, rfl, rfl, trivial⟩ (HSub.refl _) (fun k hk K0 hK0 => ?_)
  refine CT.seq ?_
  -- region 3: ref.go:87
  refine CT.region ?_
  refine Wl.q rfl rfl (OpQ.lss rfl rfl) ?_
  refine Wl.nil ?_
  refine PX.then_n ?_
  refine CT.seq ?_
  refine CT.cond rfl (fun h10 => ?_) (fun h10 => ?_)
  · -- if t10: then
    have h10 := of_decide_eq_true h10
    refine CT.skip ?_
    refine PX.then_n ?_
    refine CT.seq ?_
    refine CT.block ?_
    refine CT.seq ?_
    -- region 4: ref.go:87
    refine CT.region ?_
    refine Wl.q rfl rfl (OpQ.move rfl) ?_
    refine Wl.q rfl rfl (OpQ.assign rfl) ?_
    refine Wl.nil ?_
    refine PX.then_n ?_
    refine CT.seq ?_
    -- region 5: ref.go:88
    refine CT.region ?_
    refine Wl.q rfl rfl (OpQ.move rfl) ?_
    refine Wl.q rfl rfl (OpQ.move rfl) ?_
    refine Wl.g rfl rfl (OpG.callV go39 rfl (fun w hH => has_spec w s _ (by omega))) ?_
    rintro _ _
    refine Wl.nil ?_
    refine PX.then_n ?_
    refine CT.cond rfl (fun h14 => ?_) (fun h14 => ?_)
    · -- if t14: then
      -- region 6: ref.go:89
      refine CT.region ?_
      refine Wl.q rfl rfl (OpQ.move rfl) ?_
      refine Wl.q rfl rfl (OpQ.move rfl) ?_
      refine Wl.q rfl rfl (OpQ.move rfl) ?_
      refine Wl.q rfl rfl (OpQ.index1 un22 sz23 rfl rfl (by omega) (sm (by omega))) ?_
      refine Wl.q rfl rfl (OpQ.loadRd sc23 rfl rfl hr (getMap u xs 0#64 (j := k) (by omega))) ?_
      refine Wl.q rfl rfl (OpQ.uor rfl rfl) ?_
      refine Wl.q rfl rfl (OpQ.assign rfl) ?_
      refine Wl.nil ?_
      refine PX.block_n ?_
      refine PX.then_n ?_
      -- region 7: ref.go:87
      refine CT.region ?_
      refine Wl.q rfl rfl (OpQ.add rfl rfl (by omega)) ?_
      refine Wl.q rfl rfl (OpQ.move rfl) ?_
      refine Wl.nil ?_
      exact PX.loop hK0 (k + 1) (by omega) (by first | omega | (dsimp only; omega)) ⟨rfl, rfl, (lkV rfl (by rw [imgE_hit h14])), rfl, rfl, trivial⟩ (HSub.refl _)
    · -- if t14: else
      refine CT.skip ?_
      refine PX.block_n ?_
      refine PX.then_n ?_
      -- region 7: ref.go:87
      refine CT.region ?_
      refine Wl.q rfl rfl (OpQ.add rfl rfl (by omega)) ?_
      refine Wl.q rfl rfl (OpQ.move rfl) ?_
      refine Wl.nil ?_
      exact PX.loop hK0 (k + 1) (by omega) (by first | omega | (dsimp only; omega)) ⟨rfl, rfl, (lkV rfl (by rw [imgE_miss h14])), rfl, rfl, trivial⟩ (HSub.refl _)
  · -- if t10: else
    have h10 := of_decide_eq_false h10
    refine CT.exit ?_
    refine PX.then_x ?_
    refine PX.then_x ?_
    refine PX.block_x ?_
    refine PX.then_n ?_
    refine CT.seq ?_
    -- region 8: ref.go:92
    refine CT.region ?_
    refine Wl.q rfl rfl (OpQ.move rfl) ?_
    refine Wl.q rfl rfl (OpQ.assign rfl) ?_
    refine Wl.nil ?_
    refine PX.then_n ?_
    refine CT.ret ?_
    refine PX.ret1 rfl rfl (fun w' hH => ?_)
    obtain rfl : k = xs.length := by omega
    exact ⟨rfl, hH.ext⟩

set_option maxRecDepth 100000 in
/-- semigroup/relation.matching -/
theorem match_spec (w : World) (a : Option Addr) (cp : Nat) (xs : List (BitVec 64)) (hr : Rd w a (xs.map u)) (a2 : Option Addr) (cp2 : Nat) (ys : List (BitVec 64)) (hr2 : Rd w a2 (ys.map u)) (hn : xs.length ≤ 9223372036854775807) (hn2 : ys.length ≤ 9223372036854775807) : Calls Tryd.prog 41 #[.slice a xs.length cp, .slice a2 ys.length cp2] w (fun e w' => e = .returned (.bool (matchB xs ys)) ∧ Ext [] w w') := by
  refine enter (args := [.slice a xs.length cp, .slice a2 ys.length cp2]) [] 18 Tryd.func41 rfl rfl rfl ?_
  refine CT.seq ?_
  -- region 0: relation.go:26
  refine CT.region ?_
  refine Wl.q rfl rfl (OpQ.assign rfl) ?_
  refine Wl.nil ?_
  refine PX.then_n ?_
  refine CT.seq ?_
  -- region 1: relation.go:27
  refine CT.region ?_
  refine Wl.q rfl rfl (OpQ.move rfl) ?_
  refine Wl.q rfl rfl (OpQ.len un22 rfl) ?_
  refine Wl.q rfl rfl (OpQ.move rfl) ?_
  refine Wl.q rfl rfl (OpQ.len un22 rfl) ?_
  refine Wl.q rfl rfl (OpQ.eql rfl rfl) ?_
  refine Wl.q rfl rfl (OpQ.move rfl) ?_
  refine Wl.split 10 rfl (fun hg10 => ?_) (fun hg10 => ?_)
  · -- t10 = True
    have hg10 := of_decide_eq_true hg10
    refine Wl.q rfl rfl (OpQ.move rfl) ?_
    refine Wl.g rfl rfl (OpG.callV go37 rfl (fun w hH => valid_spec w a cp xs (hH.rd0 hr rfl) hn)) ?_
    rintro _ _
    refine Wl.q rfl rfl (OpQ.pickT rfl rfl) ?_
    refine Wl.q rfl rfl (OpQ.move rfl) ?_
    refine Wl.split 14 rfl (fun hg14 => ?_) (fun hg14 => ?_)
    · -- t14 = True
      refine Wl.q rfl rfl (OpQ.move rfl) ?_
      refine Wl.g rfl rfl (OpG.callV go37 rfl (fun w hH => valid_spec w a2 cp2 ys (hH.rd0 hr2 rfl) hn2)) ?_
      rintro _ _
      refine Wl.q rfl rfl (OpQ.pickT rfl rfl) ?_
      refine Wl.q rfl rfl (OpQ.assign rfl) ?_
      refine Wl.nil ?_
      refine PX.then_n ?_
      refine CT.ret ?_
      refine PX.ret1 rfl rfl (fun w' hH => ?_)
      exact ⟨by rw [show matchB xs ys = validB ys by simp [matchB, hg14]; omega], hH.ext⟩
    · -- t14 = False
      refine Wl.skip rfl rfl ?_
      refine Wl.skip rfl rfl ?_
      refine Wl.q rfl rfl (OpQ.pickF rfl rfl) ?_
      refine Wl.q rfl rfl (OpQ.assign rfl) ?_
      refine Wl.nil ?_
      refine PX.then_n ?_
      refine CT.ret ?_
      refine PX.ret1 rfl rfl (fun w' hH => ?_)
      exact ⟨by rw [show matchB xs ys = false by simp [matchB, hg14]], hH.ext⟩
  · -- t10 = False
    have hg10 := of_decide_eq_false hg10
    refine Wl.skip rfl rfl ?_
    refine Wl.skip rfl rfl ?_
    refine Wl.q rfl rfl (OpQ.pickF rfl rfl) ?_
    refine Wl.q rfl rfl (OpQ.move rfl) ?_
    refine Wl.skip rfl rfl ?_
    refine Wl.skip rfl rfl ?_
    refine Wl.q rfl rfl (OpQ.pickF rfl rfl) ?_
    refine Wl.q rfl rfl (OpQ.assign rfl) ?_
    refine Wl.nil ?_
    refine PX.then_n ?_
    refine CT.ret ?_
    refine PX.ret1 rfl rfl (fun w' hH => ?_)
    exact ⟨by rw [show matchB xs ys = false by simp [matchB]; omega], hH.ext⟩

theorem go18 : isGo Tryd.prog 18 = true := by kernel_rfl
set_option maxRecDepth 100000 in
/-- semigroup/semigrouplaw02.pair -/
theorem pair_spec (w : World) (a : Option Addr) (cp : Nat) (xs : List (BitVec 64)) (hr : Rd w a (xs.map u)) (a2 : Option Addr) (cp2 : Nat) (ys : List (BitVec 64)) (hr2 : Rd w a2 (ys.map u)) (hn : xs.length ≤ 9223372036854775807) (hn2 : ys.length ≤ 9223372036854775807) : Calls Tryd.prog 22 #[.slice a xs.length cp, .slice a2 ys.length cp2] w (fun e w' => e = .returned (.bool (matchB xs ys)) ∧ Ext [] w w') := by
  refine enter (args := [.slice a xs.length cp, .slice a2 ys.length cp2]) [] 18 Tryd.func22 rfl rfl rfl ?_
  refine CT.seq ?_
  -- region 0: law.go:26
  refine CT.region ?_
  refine Wl.q rfl rfl (OpQ.assign rfl) ?_
  refine Wl.nil ?_
  refine PX.then_n ?_
  refine CT.seq ?_
  -- region 1: law.go:26
  refine CT.region ?_
  refine Wl.q rfl rfl (OpQ.move rfl) ?_
  refine Wl.g rfl rfl (OpG.callV go18 rfl (fun w hH => validR_spec w a cp xs (hH.rd0 hr rfl) hn)) ?_
  rintro _ _
  refine Wl.q rfl rfl (OpQ.move rfl) ?_
  refine Wl.split 7 rfl (fun hg7 => ?_) (fun hg7 => ?_)
  · -- t7 = True
    refine Wl.q rfl rfl (OpQ.move rfl) ?_
    refine Wl.g rfl rfl (OpG.callV go18 rfl (fun w hH => validR_spec w a2 cp2 ys (hH.rd0 hr2 rfl) hn2)) ?_
    rintro _ _
    refine Wl.q rfl rfl (OpQ.pickT rfl rfl) ?_
    refine Wl.q rfl rfl (OpQ.move rfl) ?_
    refine Wl.split 11 rfl (fun hg11 => ?_) (fun hg11 => ?_)
    · -- t11 = True
      refine Wl.q rfl rfl (OpQ.move rfl) ?_
      refine Wl.q rfl rfl (OpQ.len un22 rfl) ?_
      refine Wl.q rfl rfl (OpQ.move rfl) ?_
      refine Wl.q rfl rfl (OpQ.len un22 rfl) ?_
      refine Wl.q rfl rfl (OpQ.eql rfl rfl) ?_
      refine Wl.q rfl rfl (OpQ.pickT rfl rfl) ?_
      refine Wl.q rfl rfl (OpQ.assign rfl) ?_
      refine Wl.nil ?_
      refine PX.then_n ?_
      refine CT.ret ?_
      refine PX.ret1 rfl rfl (fun w' hH => ?_)
      exact ⟨by rw [show matchB xs ys = decide ((xs.length : Int) = ys.length) by simp [matchB, hg7, hg11]; omega], hH.ext⟩
    · -- t11 = False
      refine Wl.skip rfl rfl ?_
      refine Wl.skip rfl rfl ?_
      refine Wl.skip rfl rfl ?_
      refine Wl.skip rfl rfl ?_
      refine Wl.skip rfl rfl ?_
      refine Wl.q rfl rfl (OpQ.pickF rfl rfl) ?_
      refine Wl.q rfl rfl (OpQ.assign rfl) ?_
      refine Wl.nil ?_
      refine PX.then_n ?_
      refine CT.ret ?_
      refine PX.ret1 rfl rfl (fun w' hH => ?_)
      exact ⟨by rw [show matchB xs ys = false by simp [matchB, hg11]], hH.ext⟩
  · -- t7 = False
    refine Wl.skip rfl rfl ?_
    refine Wl.skip rfl rfl ?_
    refine Wl.q rfl rfl (OpQ.pickF rfl rfl) ?_
    refine Wl.q rfl rfl (OpQ.move rfl) ?_
    refine Wl.skip rfl rfl ?_
    refine Wl.skip rfl rfl ?_
    refine Wl.skip rfl rfl ?_
    refine Wl.skip rfl rfl ?_
    refine Wl.skip rfl rfl ?_
    refine Wl.q rfl rfl (OpQ.pickF rfl rfl) ?_
    refine Wl.q rfl rfl (OpQ.assign rfl) ?_
    refine Wl.nil ?_
    refine PX.then_n ?_
    refine CT.ret ?_
    refine PX.ret1 rfl rfl (fun w' hH => ?_)
    exact ⟨by rw [show matchB xs ys = false by simp [matchB, hg7]], hH.ext⟩

theorem go41 : isGo Tryd.prog 41 = true := by kernel_rfl
theorem go17 : isGo Tryd.prog 17 = true := by kernel_rfl
set_option maxRecDepth 100000 in
/-- semigroup/relation.Compose -/
theorem compose_spec (w : World) (a : Option Addr) (cp : Nat) (xs : List (BitVec 64)) (hr : Rd w a (xs.map u)) (a2 : Option Addr) (cp2 : Nat) (ys : List (BitVec 64)) (hr2 : Rd w a2 (ys.map u)) (hn : xs.length ≤ 9223372036854775807) (hn2 : ys.length ≤ 9223372036854775807) (hT : Tab w) : Calls Tryd.prog 21 #[.slice a xs.length cp, .slice a2 ys.length cp2] w (fun e w' => New 23 1 w w' e (compR xs ys).length ((compR xs ys).map u)) := by
  have sm : 0 < xs.length → a.isSome = true := fun h => hr.isSome (j := 0) (by simpa using h)
  have sm2 : 0 < ys.length → a2.isSome = true := fun h => hr2.isSome (j := 0) (by simpa using h)
  refine enter (args := [.slice a xs.length cp, .slice a2 ys.length cp2]) [] 30 Tryd.func21 rfl rfl rfl ?_
  refine CT.seq ?_
  -- region 0: relation.go:43
  refine CT.region ?_
  refine Wl.q rfl rfl (OpQ.assign rfl) ?_
  refine Wl.nil ?_
  refine PX.then_n ?_
  refine CT.seq ?_
  refine CT.seq ?_
  -- region 1: relation.go:44
  refine CT.region ?_
  refine Wl.q rfl rfl (OpQ.move rfl) ?_
  refine Wl.q rfl rfl (OpQ.move rfl) ?_
  refine Wl.g rfl rfl (OpG.callV go41 rfl (fun w hH => match_spec w a cp xs (hH.rd0 hr rfl) a2 cp2 ys (hH.rd0 hr2 rfl) hn hn2)) ?_
  rintro _ _
  refine Wl.q rfl rfl (OpQ.not rfl) ?_
  refine Wl.nil ?_
  refine PX.then_n ?_
  refine CT.cond rfl (fun h11 => ?_) (fun h11 => ?_)
  · -- if t11: then
    have hm : matchB xs ys = false := by simpa using h11
    refine CT.seq ?_
    -- region 2: relation.go:45
    refine CT.region ?_
    refine Wl.q rfl rfl (OpQ.assign rfl) ?_
    refine Wl.nil ?_
    refine PX.then_n ?_
    refine CT.ret ?_
    refine PX.then_r ?_
    refine PX.ret1 rfl rfl (fun w' hH => ?_)
    rw [compR, if_no hm]; exact newNil hH.ext
  · -- if t11: else
    have hm : matchB xs ys = true := by simpa using h11
    obtain ⟨hl2, hvx, hvy⟩ := matchB_spec hm
    have hl := validB_le hvx
    refine CT.skip ?_
    refine PX.then_n ?_
    refine CT.seq ?_
    -- region 3: relation.go:47
    refine CT.region ?_
    refine Wl.q rfl rfl (OpQ.move rfl) ?_
    refine Wl.q rfl rfl (OpQ.len un22 rfl) ?_
    refine Wl.g rfl rfl (OpG.make1 un22 in23 rfl rfl rfl rfl (by omega) (by omega)) ?_
    rintro b _
    refine Wl.q rfl rfl (OpQ.assign rfl) ?_
    refine Wl.nil ?_
    refine PX.then_n ?_
    refine CT.seq ?_
    refine CT.seq ?_
    -- region 4: relation.go:48
    refine CT.region ?_
    refine Wl.q rfl rfl (OpQ.move rfl) ?_
    refine Wl.q rfl rfl (OpQ.len un22 rfl) ?_
    refine Wl.q rfl rfl (OpQ.move rfl) ?_
    refine Wl.nil ?_
    refine PX.then_n ?_
    refine CT.block ?_
    -- the loop at region 5
    refine CT.loop (ι := Nat) (fun k => k ≤ xs.length) (fun k => [(1, .slice a2 ys.length cp2), (5, .slice (some ⟨b, 0, none⟩) xs.length xs.length), (15, .slice a xs.length cp), (16, .int .i64 (xs.length : Int)), (17, .int .i64 (k : Int))]) (fun k => [.row 23 1 (.slice (some ⟨b, 0, none⟩) xs.length xs.length) xs.length ((cpL xs ys k).map u)]) (fun k => xs.length - k) 0 (by omega) ⟨rfl, rfl, rfl, rfl, rfl, trivial⟩ (.keep (row_eq (by simp [cpL])) .nil) (fun k hk K0 hK0 => ?_)
    refine CT.seq ?_
    -- region 5: relation.go:48
    refine CT.region ?_
    refine Wl.q rfl rfl (OpQ.lss rfl rfl) ?_
    refine Wl.nil ?_
    refine PX.then_n ?_
    refine CT.seq ?_
    refine CT.cond rfl (fun h18 => ?_) (fun h18 => ?_)
    · -- if t18: then
      have h18 := of_decide_eq_true h18
      refine CT.skip ?_
      refine PX.then_n ?_
      refine CT.seq ?_
      refine CT.block ?_
      refine CT.seq ?_
      -- region 6: relation.go:48
      refine CT.region ?_
      refine Wl.q rfl rfl (OpQ.move rfl) ?_
      refine Wl.q rfl rfl (OpQ.index1 un22 sz23 rfl rfl (by omega) (sm (by omega))) ?_
      refine Wl.q rfl rfl (OpQ.loadRd sc23 rfl rfl hr (getMap u xs 0#64 (j := k) (by omega))) ?_
      refine Wl.q rfl rfl (OpQ.assign rfl) ?_
      refine Wl.q rfl rfl (OpQ.assign rfl) ?_
      refine Wl.nil ?_
      refine PX.then_n ?_
      -- region 7: relation.go:49
      refine CT.region ?_
      refine Wl.q rfl rfl (OpQ.move rfl) ?_
      refine Wl.q rfl rfl (OpQ.move rfl) ?_
      refine Wl.q rfl rfl (OpQ.move rfl) ?_
      refine Wl.q rfl rfl (OpQ.move rfl) ?_
      refine Wl.g rfl rfl (OpG.callV go17 rfl (fun w hH => image_spec w a2 cp2 ys (hH.rd0 hr2 rfl) hn2 _ (hH.rd0 hT rfl))) ?_
      rintro _ _
      refine Wl.know 26 (v' := u (imgM ys (xs.getD k 0#64))) rfl (by rw [imgR_yes hvy]) ?_
      refine Wl.q rfl rfl (OpQ.index1 un22 sz23 rfl rfl (by omega) rfl) ?_
      refine Wl.g rfl rfl (OpG.storeRow sz23 rfl rfl rfl .here (by simp [cpL_len]; omega)) ?_
      rintro _ _
      refine Wl.nil ?_
      refine PX.block_n ?_
      refine PX.then_n ?_
      -- region 8: relation.go:48
      refine CT.region ?_
      refine Wl.q rfl rfl (OpQ.add rfl rfl (by omega)) ?_
      refine Wl.q rfl rfl (OpQ.move rfl) ?_
      refine Wl.nil ?_
      exact PX.loop hK0 (k + 1) (by omega) (by first | omega | (dsimp only; omega)) ⟨rfl, rfl, rfl, rfl, rfl, trivial⟩ (.keep (row_eq (mapSet u _ _ _)) .nil)
    · -- if t18: else
      have h18 := of_decide_eq_false h18
      refine CT.exit ?_
      refine PX.then_x ?_
      refine PX.then_x ?_
      refine PX.block_x ?_
      refine PX.then_n ?_
      refine CT.seq ?_
      -- region 9: relation.go:51
      refine CT.region ?_
      refine Wl.q rfl rfl (OpQ.move rfl) ?_
      refine Wl.q rfl rfl (OpQ.assign rfl) ?_
      refine Wl.nil ?_
      refine PX.then_n ?_
      refine CT.ret ?_
      refine PX.ret1 rfl rfl (fun w' hH => ?_)
      obtain rfl : k = xs.length := by omega
      rw [compR, if_yes hm, cpL_len]; exact hH.newRow .here

set_option maxRecDepth 100000 in
/-- semigroup/relation.Union -/
theorem union_spec (w : World) (a : Option Addr) (cp : Nat) (xs : List (BitVec 64)) (hr : Rd w a (xs.map u)) (a2 : Option Addr) (cp2 : Nat) (ys : List (BitVec 64)) (hr2 : Rd w a2 (ys.map u)) (hn : xs.length ≤ 9223372036854775807) (hn2 : ys.length ≤ 9223372036854775807) : Calls Tryd.prog 25 #[.slice a xs.length cp, .slice a2 ys.length cp2] w (fun e w' => New 23 1 w w' e (zipR (· ||| ·) xs ys).length ((zipR (· ||| ·) xs ys).map u)) := by
  have sm : 0 < xs.length → a.isSome = true := fun h => hr.isSome (j := 0) (by simpa using h)
  have sm2 : 0 < ys.length → a2.isSome = true := fun h => hr2.isSome (j := 0) (by simpa using h)
  refine enter (args := [.slice a xs.length cp, .slice a2 ys.length cp2]) [] 33 Tryd.func25 rfl rfl rfl ?_
  refine CT.seq ?_
  -- region 0: relation.go:55
  refine CT.region ?_
  refine Wl.q rfl rfl (OpQ.assign rfl) ?_
  refine Wl.nil ?_
  refine PX.then_n ?_
  refine CT.seq ?_
  refine CT.seq ?_
  -- region 1: relation.go:56
  refine CT.region ?_
  refine Wl.q rfl rfl (OpQ.move rfl) ?_
  refine Wl.q rfl rfl (OpQ.move rfl) ?_
  refine Wl.g rfl rfl (OpG.callV go41 rfl (fun w hH => match_spec w a cp xs (hH.rd0 hr rfl) a2 cp2 ys (hH.rd0 hr2 rfl) hn hn2)) ?_
  rintro _ _
  refine Wl.q rfl rfl (OpQ.not rfl) ?_
  refine Wl.nil ?_
  refine PX.then_n ?_
  refine CT.cond rfl (fun h10 => ?_) (fun h10 => ?_)
  · -- if t10: then
    have hm : matchB xs ys = false := by simpa using h10
    refine CT.seq ?_
    -- region 2: relation.go:57
    refine CT.region ?_
    refine Wl.q rfl rfl (OpQ.assign rfl) ?_
    refine Wl.nil ?_
    refine PX.then_n ?_
    refine CT.ret ?_
    refine PX.then_r ?_
    refine PX.ret1 rfl rfl (fun w' hH => ?_)
    rw [zipR, if_no hm]; exact newNil hH.ext
  · -- if t10: else
    have hm : matchB xs ys = true := by simpa using h10
    obtain ⟨hl2, hvx, hvy⟩ := matchB_spec hm
    have hl := validB_le hvx
    refine CT.skip ?_
    refine PX.then_n ?_
    refine CT.seq ?_
    -- region 3: relation.go:59
    refine CT.region ?_
    refine Wl.q rfl rfl (OpQ.move rfl) ?_
    refine Wl.q rfl rfl (OpQ.len un22 rfl) ?_
    refine Wl.g rfl rfl (OpG.make1 un22 in23 rfl rfl rfl rfl (by omega) (by omega)) ?_
    rintro b _
    refine Wl.q rfl rfl (OpQ.assign rfl) ?_
    refine Wl.nil ?_
    refine PX.then_n ?_
    refine CT.seq ?_
    refine CT.seq ?_
    -- region 4: relation.go:60
    refine CT.region ?_
    refine Wl.q rfl rfl (OpQ.move rfl) ?_
    refine Wl.q rfl rfl (OpQ.len un22 rfl) ?_
    refine Wl.q rfl rfl (OpQ.move rfl) ?_
    refine Wl.nil ?_
    refine PX.then_n ?_
    refine CT.block ?_
    -- the loop at region 5
    refine CT.loop (ι := Nat) (fun k => k ≤ xs.length) (fun k => [(0, .slice a xs.length cp), (1, .slice a2 ys.length cp2), (5, .slice (some ⟨b, 0, none⟩) xs.length xs.length), (15, .int .i64 (xs.length : Int)), (16, .int .i64 (k : Int))]) (fun k => [.row 23 1 (.slice (some ⟨b, 0, none⟩) xs.length xs.length) xs.length ((zpL (· ||| ·) xs ys k).map u)]) (fun k => xs.length - k) 0 (by omega) ⟨rfl, rfl, rfl, rfl, rfl, trivial⟩ (.keep (row_eq (by simp [zpL])) .nil) (fun k hk K0 hK0 => ?_)
    refine CT.seq ?_
    -- region 5: relation.go:60
    refine CT.region ?_
    refine Wl.q rfl rfl (OpQ.lss rfl rfl) ?_
    refine Wl.nil ?_
    refine PX.then_n ?_
    refine CT.seq ?_
    refine CT.cond rfl (fun h17 => ?_) (fun h17 => ?_)
    · -- if t17: then
      have h17 := of_decide_eq_true h17
      refine CT.skip ?_
      refine PX.then_n ?_
      refine CT.seq ?_
      refine CT.block ?_
      refine CT.seq ?_
      -- region 6: relation.go:60
      refine CT.region ?_
      refine Wl.q rfl rfl (OpQ.move rfl) ?_
      refine Wl.q rfl rfl (OpQ.assign rfl) ?_
      refine Wl.nil ?_
      refine PX.then_n ?_
      -- region 7, drawn: relation.go:61
      refine CT.draw 12 mixed ?_
      refine RA.q 0 (by kernel_rfl) rfl rfl rfl (.refl _) (OpQ.move rfl) ?_
      refine RA.q 1 (by kernel_rfl) rfl rfl rfl (.refl _) (OpQ.move rfl) ?_
      refine RA.q 2 (by kernel_rfl) rfl rfl rfl (.refl _) (OpQ.move rfl) ?_
      refine RA.q 3 (by kernel_rfl) rfl rfl rfl (.refl _) (OpQ.move rfl) ?_
      refine RA.q 4 (by kernel_rfl) rfl rfl rfl (.refl _) (OpQ.index1 un22 sz23 rfl rfl (by omega) (sm (by omega))) ?_
      refine RA.q 5 (by kernel_rfl) rfl rfl rfl (.refl _) (OpQ.loadRd sc23 rfl rfl hr (getMap u xs 0#64 (j := k) (by omega))) ?_
      refine RA.q 6 (by kernel_rfl) rfl rfl rfl (.refl _) (OpQ.move rfl) ?_
      refine RA.q 7 (by kernel_rfl) rfl rfl rfl (.refl _) (OpQ.move rfl) ?_
      refine RA.q 8 (by kernel_rfl) rfl rfl rfl (.refl _) (OpQ.index1 un22 sz23 rfl rfl (by omega) (sm2 (by omega))) ?_
      refine RA.q 9 (by kernel_rfl) rfl rfl rfl (.refl _) (OpQ.loadRd sc23 rfl rfl hr2 (getMap u ys 0#64 (j := k) (by omega))) ?_
      refine RA.q 10 (by kernel_rfl) rfl rfl rfl (.refl _) (OpQ.uor rfl rfl) ?_
      refine RA.q 11 (by kernel_rfl) rfl rfl rfl (.refl _) (OpQ.index1 un22 sz23 rfl rfl (by omega) rfl) ?_
      refine RA.tail ?_
      refine RT.f 12 (by kernel_rfl) rfl rfl rfl (OpG.storeRow sz23 rfl rfl rfl .here (by simp [zpL_len]; omega)) ?_
      rintro _ _
      refine RT.done (by kernel_rfl) ?_
      refine PX.block_n ?_
      refine PX.then_n ?_
      -- region 8: relation.go:60
      refine CT.region ?_
      refine Wl.q rfl rfl (OpQ.add rfl rfl (by omega)) ?_
      refine Wl.q rfl rfl (OpQ.move rfl) ?_
      refine Wl.nil ?_
      exact PX.loop hK0 (k + 1) (by omega) (by first | omega | (dsimp only; omega)) ⟨rfl, rfl, rfl, rfl, rfl, trivial⟩ (.keep (row_eq (mapSet u _ _ _)) .nil)
    · -- if t17: else
      have h17 := of_decide_eq_false h17
      refine CT.exit ?_
      refine PX.then_x ?_
      refine PX.then_x ?_
      refine PX.block_x ?_
      refine PX.then_n ?_
      refine CT.seq ?_
      -- region 9: relation.go:63
      refine CT.region ?_
      refine Wl.q rfl rfl (OpQ.move rfl) ?_
      refine Wl.q rfl rfl (OpQ.assign rfl) ?_
      refine Wl.nil ?_
      refine PX.then_n ?_
      refine CT.ret ?_
      refine PX.ret1 rfl rfl (fun w' hH => ?_)
      obtain rfl : k = xs.length := by omega
      rw [zipR, if_yes hm, zpL_len]; exact hH.newRow .here

set_option maxRecDepth 100000 in
/-- semigroup/relation.Meet -/
theorem meet_spec (w : World) (a : Option Addr) (cp : Nat) (xs : List (BitVec 64)) (hr : Rd w a (xs.map u)) (a2 : Option Addr) (cp2 : Nat) (ys : List (BitVec 64)) (hr2 : Rd w a2 (ys.map u)) (hn : xs.length ≤ 9223372036854775807) (hn2 : ys.length ≤ 9223372036854775807) : Calls Tryd.prog 26 #[.slice a xs.length cp, .slice a2 ys.length cp2] w (fun e w' => New 23 1 w w' e (zipR (· &&& ·) xs ys).length ((zipR (· &&& ·) xs ys).map u)) := by
  have sm : 0 < xs.length → a.isSome = true := fun h => hr.isSome (j := 0) (by simpa using h)
  have sm2 : 0 < ys.length → a2.isSome = true := fun h => hr2.isSome (j := 0) (by simpa using h)
  refine enter (args := [.slice a xs.length cp, .slice a2 ys.length cp2]) [] 33 Tryd.func26 rfl rfl rfl ?_
  refine CT.seq ?_
  -- region 0: relation.go:67
  refine CT.region ?_
  refine Wl.q rfl rfl (OpQ.assign rfl) ?_
  refine Wl.nil ?_
  refine PX.then_n ?_
  refine CT.seq ?_
  refine CT.seq ?_
  -- region 1: relation.go:68
  refine CT.region ?_
  refine Wl.q rfl rfl (OpQ.move rfl) ?_
  refine Wl.q rfl rfl (OpQ.move rfl) ?_
  refine Wl.g rfl rfl (OpG.callV go41 rfl (fun w hH => match_spec w a cp xs (hH.rd0 hr rfl) a2 cp2 ys (hH.rd0 hr2 rfl) hn hn2)) ?_
  rintro _ _
  refine Wl.q rfl rfl (OpQ.not rfl) ?_
  refine Wl.nil ?_
  refine PX.then_n ?_
  refine CT.cond rfl (fun h10 => ?_) (fun h10 => ?_)
  · -- if t10: then
    have hm : matchB xs ys = false := by simpa using h10
    refine CT.seq ?_
    -- region 2: relation.go:69
    refine CT.region ?_
    refine Wl.q rfl rfl (OpQ.assign rfl) ?_
    refine Wl.nil ?_
    refine PX.then_n ?_
    refine CT.ret ?_
    refine PX.then_r ?_
    refine PX.ret1 rfl rfl (fun w' hH => ?_)
    rw [zipR, if_no hm]; exact newNil hH.ext
  · -- if t10: else
    have hm : matchB xs ys = true := by simpa using h10
    obtain ⟨hl2, hvx, hvy⟩ := matchB_spec hm
    have hl := validB_le hvx
    refine CT.skip ?_
    refine PX.then_n ?_
    refine CT.seq ?_
    -- region 3: relation.go:71
    refine CT.region ?_
    refine Wl.q rfl rfl (OpQ.move rfl) ?_
    refine Wl.q rfl rfl (OpQ.len un22 rfl) ?_
    refine Wl.g rfl rfl (OpG.make1 un22 in23 rfl rfl rfl rfl (by omega) (by omega)) ?_
    rintro b _
    refine Wl.q rfl rfl (OpQ.assign rfl) ?_
    refine Wl.nil ?_
    refine PX.then_n ?_
    refine CT.seq ?_
    refine CT.seq ?_
    -- region 4: relation.go:72
    refine CT.region ?_
    refine Wl.q rfl rfl (OpQ.move rfl) ?_
    refine Wl.q rfl rfl (OpQ.len un22 rfl) ?_
    refine Wl.q rfl rfl (OpQ.move rfl) ?_
    refine Wl.nil ?_
    refine PX.then_n ?_
    refine CT.block ?_
    -- the loop at region 5
    refine CT.loop (ι := Nat) (fun k => k ≤ xs.length) (fun k => [(0, .slice a xs.length cp), (1, .slice a2 ys.length cp2), (5, .slice (some ⟨b, 0, none⟩) xs.length xs.length), (15, .int .i64 (xs.length : Int)), (16, .int .i64 (k : Int))]) (fun k => [.row 23 1 (.slice (some ⟨b, 0, none⟩) xs.length xs.length) xs.length ((zpL (· &&& ·) xs ys k).map u)]) (fun k => xs.length - k) 0 (by omega) ⟨rfl, rfl, rfl, rfl, rfl, trivial⟩ (.keep (row_eq (by simp [zpL])) .nil) (fun k hk K0 hK0 => ?_)
    refine CT.seq ?_
    -- region 5: relation.go:72
    refine CT.region ?_
    refine Wl.q rfl rfl (OpQ.lss rfl rfl) ?_
    refine Wl.nil ?_
    refine PX.then_n ?_
    refine CT.seq ?_
    refine CT.cond rfl (fun h17 => ?_) (fun h17 => ?_)
    · -- if t17: then
      have h17 := of_decide_eq_true h17
      refine CT.skip ?_
      refine PX.then_n ?_
      refine CT.seq ?_
      refine CT.block ?_
      refine CT.seq ?_
      -- region 6: relation.go:72
      refine CT.region ?_
      refine Wl.q rfl rfl (OpQ.move rfl) ?_
      refine Wl.q rfl rfl (OpQ.assign rfl) ?_
      refine Wl.nil ?_
      refine PX.then_n ?_
      -- region 7, drawn: relation.go:73
      refine CT.draw 12 mixed ?_
      refine RA.q 0 (by kernel_rfl) rfl rfl rfl (.refl _) (OpQ.move rfl) ?_
      refine RA.q 1 (by kernel_rfl) rfl rfl rfl (.refl _) (OpQ.move rfl) ?_
      refine RA.q 2 (by kernel_rfl) rfl rfl rfl (.refl _) (OpQ.move rfl) ?_
      refine RA.q 3 (by kernel_rfl) rfl rfl rfl (.refl _) (OpQ.move rfl) ?_
      refine RA.q 4 (by kernel_rfl) rfl rfl rfl (.refl _) (OpQ.index1 un22 sz23 rfl rfl (by omega) (sm (by omega))) ?_
      refine RA.q 5 (by kernel_rfl) rfl rfl rfl (.refl _) (OpQ.loadRd sc23 rfl rfl hr (getMap u xs 0#64 (j := k) (by omega))) ?_
      refine RA.q 6 (by kernel_rfl) rfl rfl rfl (.refl _) (OpQ.move rfl) ?_
      refine RA.q 7 (by kernel_rfl) rfl rfl rfl (.refl _) (OpQ.move rfl) ?_
      refine RA.q 8 (by kernel_rfl) rfl rfl rfl (.refl _) (OpQ.index1 un22 sz23 rfl rfl (by omega) (sm2 (by omega))) ?_
      refine RA.q 9 (by kernel_rfl) rfl rfl rfl (.refl _) (OpQ.loadRd sc23 rfl rfl hr2 (getMap u ys 0#64 (j := k) (by omega))) ?_
      refine RA.q 10 (by kernel_rfl) rfl rfl rfl (.refl _) (OpQ.uand rfl rfl) ?_
      refine RA.q 11 (by kernel_rfl) rfl rfl rfl (.refl _) (OpQ.index1 un22 sz23 rfl rfl (by omega) rfl) ?_
      refine RA.tail ?_
      refine RT.f 12 (by kernel_rfl) rfl rfl rfl (OpG.storeRow sz23 rfl rfl rfl .here (by simp [zpL_len]; omega)) ?_
      rintro _ _
      refine RT.done (by kernel_rfl) ?_
      refine PX.block_n ?_
      refine PX.then_n ?_
      -- region 8: relation.go:72
      refine CT.region ?_
      refine Wl.q rfl rfl (OpQ.add rfl rfl (by omega)) ?_
      refine Wl.q rfl rfl (OpQ.move rfl) ?_
      refine Wl.nil ?_
      exact PX.loop hK0 (k + 1) (by omega) (by first | omega | (dsimp only; omega)) ⟨rfl, rfl, rfl, rfl, rfl, trivial⟩ (.keep (row_eq (mapSet u _ _ _)) .nil)
    · -- if t17: else
      have h17 := of_decide_eq_false h17
      refine CT.exit ?_
      refine PX.then_x ?_
      refine PX.then_x ?_
      refine PX.block_x ?_
      refine PX.then_n ?_
      refine CT.seq ?_
      -- region 9: relation.go:75
      refine CT.region ?_
      refine Wl.q rfl rfl (OpQ.move rfl) ?_
      refine Wl.q rfl rfl (OpQ.assign rfl) ?_
      refine Wl.nil ?_
      refine PX.then_n ?_
      refine CT.ret ?_
      refine PX.ret1 rfl rfl (fun w' hH => ?_)
      obtain rfl : k = xs.length := by omega
      rw [zipR, if_yes hm, zpL_len]; exact hH.newRow .here

set_option maxRecDepth 100000 in
/-- semigroup/semigroupref02.Compose -/
theorem composeR_spec (w : World) (a : Option Addr) (cp : Nat) (xs : List (BitVec 64)) (hr : Rd w a (xs.map u)) (a2 : Option Addr) (cp2 : Nat) (ys : List (BitVec 64)) (hr2 : Rd w a2 (ys.map u)) (hn : xs.length ≤ 64) (hl2 : ys.length = xs.length) : Calls Tryd.prog 24 #[.slice a xs.length cp, .slice a2 ys.length cp2] w (fun e w' => New 23 1 w w' e (rc1 xs ys xs.length).length ((rc1 xs ys xs.length).map u)) := by
  have sm : 0 < xs.length → a.isSome = true := fun h => hr.isSome (j := 0) (by simpa using h)
  have sm2 : 0 < ys.length → a2.isSome = true := fun h => hr2.isSome (j := 0) (by simpa using h)
  refine enter (args := [.slice a xs.length cp, .slice a2 ys.length cp2]) [] 55 Tryd.func24 rfl rfl rfl ?_
  refine CT.seq ?_
  -- region 0: ref.go:41
  refine CT.region ?_
  refine Wl.q rfl rfl (OpQ.assign rfl) ?_
  refine Wl.nil ?_
  refine PX.then_n ?_
  refine CT.seq ?_
  -- region 1: ref.go:42
  refine CT.region ?_
  refine Wl.q rfl rfl (OpQ.move rfl) ?_
  refine Wl.q rfl rfl (OpQ.len un22 rfl) ?_
  refine Wl.g rfl rfl (OpG.make1 un22 in23 rfl rfl rfl rfl (by omega) (by omega)) ?_
  rintro b _
  refine Wl.q rfl rfl (OpQ.assign rfl) ?_
  refine Wl.nil ?_
  refine PX.then_n ?_
  refine CT.seq ?_
  refine CT.seq ?_
  -- region 2: ref.go:43
  refine CT.region ?_
  refine Wl.q rfl rfl (OpQ.move rfl) ?_
  refine Wl.q rfl rfl (OpQ.len un22 rfl) ?_
  refine Wl.q rfl rfl (OpQ.move rfl) ?_
  refine Wl.nil ?_
  refine PX.then_n ?_
  refine CT.block ?_
  -- the loop at region 3
  refine CT.loop (ι := Nat) (fun i => i ≤ xs.length) (fun i => [(0, .slice a xs.length cp), (1, .slice a2 ys.length cp2), (5, .slice (some ⟨b, 0, none⟩) xs.length xs.length), (13, .int .i64 (xs.length : Int)), (14, .int .i64 (i : Int))]) (fun i => [.row 23 1 (.slice (some ⟨b, 0, none⟩) xs.length xs.length) xs.length ((rc1 xs ys i).map u)]) (fun i => xs.length - i) 0 (by omega) ⟨rfl, rfl, rfl, rfl, rfl, trivial⟩ (.keep (row_eq (by simp [rc1])) .nil) (fun i hi K0 hK0 => ?_)
  refine CT.seq ?_
  -- region 3: ref.go:43
  refine CT.region ?_
  refine Wl.q rfl rfl (OpQ.lss rfl rfl) ?_
  refine Wl.nil ?_
  refine PX.then_n ?_
  refine CT.seq ?_
  refine CT.cond rfl (fun h15 => ?_) (fun h15 => ?_)
  · -- if t15: then
    have h15 := of_decide_eq_true h15
    refine CT.skip ?_
    refine PX.then_n ?_
    refine CT.seq ?_
    refine CT.block ?_
    refine CT.seq ?_
    -- region 4: ref.go:43
    refine CT.region ?_
    refine Wl.q rfl rfl (OpQ.move rfl) ?_
    refine Wl.q rfl rfl (OpQ.assign rfl) ?_
    refine Wl.nil ?_
    refine PX.then_n ?_
    refine CT.seq ?_
    -- region 5: ref.go:44
    refine CT.region ?_
    refine Wl.q rfl rfl (OpQ.move rfl) ?_
    refine Wl.q rfl rfl (OpQ.len un22 rfl) ?_
    refine Wl.q rfl rfl (OpQ.move rfl) ?_
    refine Wl.nil ?_
    refine PX.then_n ?_
    refine CT.block ?_
    -- the loop at region 6
    refine CT.loop (ι := Nat) (fun j => j ≤ xs.length) (fun j => [(0, .slice a xs.length cp), (1, .slice a2 ys.length cp2), (5, .slice (some ⟨b, 0, none⟩) xs.length xs.length), (6, .int .i64 (i : Int)), (13, .int .i64 (xs.length : Int)), (14, .int .i64 (i : Int)), (18, .int .i64 (xs.length : Int)), (19, .int .i64 (j : Int))]) (fun j => [.row 23 1 (.slice (some ⟨b, 0, none⟩) xs.length xs.length) xs.length ((rc2 xs ys i (rc1 xs ys i) j).map u)]) (fun j => xs.length - j) 0 (by omega) ⟨rfl, rfl, rfl, rfl, rfl, rfl, rfl, rfl, trivial⟩ (HSub.refl _) (fun j hj K1 hK1 => ?_)
    refine CT.seq ?_
    -- region 6: ref.go:44
    refine CT.region ?_
    refine Wl.q rfl rfl (OpQ.lss rfl rfl) ?_
    refine Wl.nil ?_
    refine PX.then_n ?_
    refine CT.seq ?_
    refine CT.cond rfl (fun h20 => ?_) (fun h20 => ?_)
    · -- if t20: then
      have h20 := of_decide_eq_true h20
      refine CT.skip ?_
      refine PX.then_n ?_
      refine CT.seq ?_
      refine CT.block ?_
      refine CT.seq ?_
      -- region 7: ref.go:44
      refine CT.region ?_
      refine Wl.q rfl rfl (OpQ.move rfl) ?_
      refine Wl.q rfl rfl (OpQ.assign rfl) ?_
      refine Wl.nil ?_
      refine PX.then_n ?_
      refine CT.seq ?_
      -- region 8: ref.go:45
      refine CT.region ?_
      refine Wl.q rfl rfl (OpQ.move rfl) ?_
      refine Wl.q rfl rfl (OpQ.len un22 rfl) ?_
      refine Wl.q rfl rfl (OpQ.move rfl) ?_
      refine Wl.nil ?_
      refine PX.then_n ?_
      refine CT.block ?_
      -- the loop at region 9
      refine CT.loop (ι := Nat) (fun k => k ≤ xs.length) (fun k => [(0, .slice a xs.length cp), (1, .slice a2 ys.length cp2), (5, .slice (some ⟨b, 0, none⟩) xs.length xs.length), (6, .int .i64 (i : Int)), (7, .int .i64 (j : Int)), (13, .int .i64 (xs.length : Int)), (14, .int .i64 (i : Int)), (18, .int .i64 (xs.length : Int)), (19, .int .i64 (j : Int)), (23, .int .i64 (xs.length : Int)), (24, .int .i64 (k : Int))]) (fun k => [.row 23 1 (.slice (some ⟨b, 0, none⟩) xs.length xs.length) xs.length ((rc3 xs ys i j (rc2 xs ys i (rc1 xs ys i) j) k).map u)]) (fun k => xs.length - k) 0 (by omega) ⟨rfl, rfl, rfl, rfl, rfl, rfl, rfl, rfl, rfl, rfl, rfl, trivial⟩ (HSub.refl _) (fun k hk K2 hK2 => ?_)
      have hL : ∀ k, (rc3 xs ys i j (rc2 xs ys i (rc1 xs ys i) j) k).length = xs.length := fun k => by rw [rc3_len, rc2_len, rc1_len]
      refine CT.seq ?_
      -- region 9: ref.go:45
      refine CT.region ?_
      refine Wl.q rfl rfl (OpQ.lss rfl rfl) ?_
      refine Wl.nil ?_
      refine PX.then_n ?_
      refine CT.seq ?_
      refine CT.cond rfl (fun h25 => ?_) (fun h25 => ?_)
      · -- if t25: then
        have h25 := of_decide_eq_true h25
        refine CT.skip ?_
        refine PX.then_n ?_
        refine CT.seq ?_
        refine CT.block ?_
        refine CT.seq ?_
        -- region 10: ref.go:45
        refine CT.region ?_
        refine Wl.q rfl rfl (OpQ.move rfl) ?_
        refine Wl.q rfl rfl (OpQ.assign rfl) ?_
        refine Wl.nil ?_
        refine PX.then_n ?_
        refine CT.seq ?_
        -- region 11: ref.go:46
        refine CT.region ?_
        refine Wl.q rfl rfl (OpQ.move rfl) ?_
        refine Wl.q rfl rfl (OpQ.move rfl) ?_
        refine Wl.q rfl rfl (OpQ.index1 un22 sz23 rfl rfl (by omega) (sm (by omega))) ?_
        refine Wl.q rfl rfl (OpQ.loadRd sc23 rfl rfl hr (getMap u xs 0#64 (j := i) (by omega))) ?_
        refine Wl.q rfl rfl (OpQ.move rfl) ?_
        refine Wl.g rfl rfl (OpG.callV go39 rfl (fun w hH => has_spec w _ _ (by omega))) ?_
        rintro _ _
        refine Wl.q rfl rfl (OpQ.move rfl) ?_
        refine Wl.split 33 rfl (fun hg33 => ?_) (fun hg33 => ?_)
        · -- t33 = True
          refine Wl.q rfl rfl (OpQ.move rfl) ?_
          refine Wl.q rfl rfl (OpQ.move rfl) ?_
          refine Wl.q rfl rfl (OpQ.index1 un22 sz23 rfl rfl (by omega) (sm2 (by omega))) ?_
          refine Wl.q rfl rfl (OpQ.loadRd sc23 rfl rfl hr2 (getMap u ys 0#64 (j := j) (by omega))) ?_
          refine Wl.q rfl rfl (OpQ.move rfl) ?_
          refine Wl.g rfl rfl (OpG.callV go39 rfl (fun w hH => has_spec w _ _ (by omega))) ?_
          rintro _ _
          refine Wl.q rfl rfl (OpQ.pickT rfl rfl) ?_
          refine Wl.nil ?_
          refine PX.then_n ?_
          refine CT.cond rfl (fun h40 => ?_) (fun h40 => ?_)
          · -- if t40: then
            -- region 12, drawn: ref.go:47
            refine CT.draw 10 mixed ?_
            refine RA.q 0 (by kernel_rfl) rfl rfl rfl (.refl _) (OpQ.move rfl) ?_
            refine RA.q 1 (by kernel_rfl) rfl rfl rfl (.refl _) (OpQ.move rfl) ?_
            refine RA.q 2 (by kernel_rfl) rfl rfl rfl (.refl _) (OpQ.move rfl) ?_
            refine RA.q 3 (by kernel_rfl) rfl rfl rfl (.refl _) (OpQ.move rfl) ?_
            refine RA.q 4 (by kernel_rfl) rfl rfl rfl (.refl _) (OpQ.index1 un22 sz23 rfl rfl (by omega) rfl) ?_
            refine RA.q 5 (by kernel_rfl) rfl rfl rfl (.refl _) (OpQ.loadRow sc23 rfl .here (getMap u _ 0#64 (j := i) (by rw [hL]; omega))) ?_
            refine RA.q 6 (by kernel_rfl) rfl rfl rfl (.refl _) (OpQ.move rfl) ?_
            refine RA.f 7 (by kernel_rfl) rfl rfl rfl (OpG.callV go42 rfl (fun w hH => bit_spec w _ (by omega))) (fun _ _ => (.refl _)) ?_
            rintro _ _
            refine RA.q 8 (by kernel_rfl) rfl rfl rfl (.refl _) (OpQ.uor rfl rfl) ?_
            refine RA.q 9 (by kernel_rfl) rfl rfl rfl (.refl _) (OpQ.index1 un22 sz23 rfl rfl (by omega) rfl) ?_
            refine RA.tail ?_
            refine RT.f 10 (by kernel_rfl) rfl rfl rfl (OpG.storeRow sz23 rfl rfl rfl .here (by simp [hL]; omega)) ?_
            rintro _ _
            refine RT.done (by kernel_rfl) ?_
            refine PX.block_n ?_
            refine PX.then_n ?_
            -- region 13: ref.go:45
            refine CT.region ?_
            refine Wl.q rfl rfl (OpQ.add rfl rfl (by omega)) ?_
            refine Wl.q rfl rfl (OpQ.move rfl) ?_
            refine Wl.nil ?_
            exact PX.loop hK2 (k + 1) (by omega) (by first | omega | (dsimp only; omega)) ⟨rfl, rfl, rfl, rfl, rfl, rfl, rfl, rfl, rfl, rfl, rfl, trivial⟩ (.keep (row_eq (by rw [rc3_hit hg33 h40]; exact mapSet u _ _ _)) .nil)
          · -- if t40: else
            refine CT.skip ?_
            refine PX.block_n ?_
            refine PX.then_n ?_
            -- region 13: ref.go:45
            refine CT.region ?_
            refine Wl.q rfl rfl (OpQ.add rfl rfl (by omega)) ?_
            refine Wl.q rfl rfl (OpQ.move rfl) ?_
            refine Wl.nil ?_
            exact PX.loop hK2 (k + 1) (by omega) (by first | omega | (dsimp only; omega)) ⟨rfl, rfl, rfl, rfl, rfl, rfl, rfl, rfl, rfl, rfl, rfl, trivial⟩ (.keep (row_eq (by rw [rc3_miss2 h40])) .nil)
        · -- t33 = False
          refine Wl.skip rfl rfl ?_
          refine Wl.skip rfl rfl ?_
          refine Wl.skip rfl rfl ?_
          refine Wl.skip rfl rfl ?_
          refine Wl.skip rfl rfl ?_
          refine Wl.skip rfl rfl ?_
          refine Wl.q rfl rfl (OpQ.pickF rfl rfl) ?_
          refine Wl.nil ?_
          refine PX.then_n ?_
          refine CT.condF rfl ?_
          refine CT.skip ?_
          refine PX.block_n ?_
          refine PX.then_n ?_
          -- region 13: ref.go:45
          refine CT.region ?_
          refine Wl.q rfl rfl (OpQ.add rfl rfl (by omega)) ?_
          refine Wl.q rfl rfl (OpQ.move rfl) ?_
          refine Wl.nil ?_
          exact PX.loop hK2 (k + 1) (by omega) (by first | omega | (dsimp only; omega)) ⟨rfl, rfl, rfl, rfl, rfl, rfl, rfl, rfl, rfl, rfl, rfl, trivial⟩ (.keep (row_eq (by rw [rc3_miss1 hg33])) .nil)
      · -- if t25: else
        have h25 := of_decide_eq_false h25
        refine CT.exit ?_
        refine PX.then_x ?_
        refine PX.then_x ?_
        refine PX.block_x ?_
        refine PX.block_n ?_
        refine PX.then_n ?_
        -- region 14: ref.go:44
        refine CT.region ?_
        refine Wl.q rfl rfl (OpQ.add rfl rfl (by omega)) ?_
        refine Wl.q rfl rfl (OpQ.move rfl) ?_
        refine Wl.nil ?_
        obtain rfl : k = xs.length := by omega
        exact PX.loop hK1 (j + 1) (by omega) (by first | omega | (dsimp only; omega)) ⟨rfl, rfl, rfl, rfl, rfl, rfl, rfl, rfl, trivial⟩ (.keep (row_eq (by simp only [rc2])) .nil)
    · -- if t20: else
      have h20 := of_decide_eq_false h20
      refine CT.exit ?_
      refine PX.then_x ?_
      refine PX.then_x ?_
      refine PX.block_x ?_
      refine PX.block_n ?_
      refine PX.then_n ?_
      -- region 15: ref.go:43
      refine CT.region ?_
      refine Wl.q rfl rfl (OpQ.add rfl rfl (by omega)) ?_
      refine Wl.q rfl rfl (OpQ.move rfl) ?_
      refine Wl.nil ?_
      obtain rfl : j = xs.length := by omega
      exact PX.loop hK0 (i + 1) (by omega) (by first | omega | (dsimp only; omega)) ⟨rfl, rfl, rfl, rfl, rfl, trivial⟩ (.keep (row_eq (by simp only [rc1])) .nil)
  · -- if t15: else
    have h15 := of_decide_eq_false h15
    refine CT.exit ?_
    refine PX.then_x ?_
    refine PX.then_x ?_
    refine PX.block_x ?_
    refine PX.then_n ?_
    refine CT.seq ?_
    -- region 16: ref.go:52
    refine CT.region ?_
    refine Wl.q rfl rfl (OpQ.move rfl) ?_
    refine Wl.q rfl rfl (OpQ.assign rfl) ?_
    refine Wl.nil ?_
    refine PX.then_n ?_
    refine CT.ret ?_
    refine PX.ret1 rfl rfl (fun w' hH => ?_)
    obtain rfl : i = xs.length := by omega
    rw [rc1_len]; exact hH.newRow .here

set_option maxRecDepth 100000 in
/-- semigroup/relation.Transpose -/
theorem trans_spec (w : World) (a : Option Addr) (cp : Nat) (xs : List (BitVec 64)) (hr : Rd w a (xs.map u)) (hn : xs.length ≤ 9223372036854775807) (hT : Tab w) : Calls Tryd.prog 27 #[.slice a xs.length cp] w (fun e w' => New 23 1 w w' e (transR xs).length ((transR xs).map u)) := by
  have sm : 0 < xs.length → a.isSome = true := fun h => hr.isSome (j := 0) (by simpa using h)
  refine enter (args := [.slice a xs.length cp]) [] 39 Tryd.func27 rfl rfl rfl ?_
  refine CT.seq ?_
  -- region 0: relation.go:79
  refine CT.region ?_
  refine Wl.q rfl rfl (OpQ.assign rfl) ?_
  refine Wl.nil ?_
  refine PX.then_n ?_
  refine CT.seq ?_
  refine CT.seq ?_
  -- region 1: relation.go:80
  refine CT.region ?_
  refine Wl.q rfl rfl (OpQ.move rfl) ?_
  refine Wl.g rfl rfl (OpG.callV go37 rfl (fun w hH => valid_spec w a cp xs (hH.rd0 hr rfl) hn)) ?_
  rintro _ _
  refine Wl.q rfl rfl (OpQ.not rfl) ?_
  refine Wl.nil ?_
  refine PX.then_n ?_
  refine CT.cond rfl (fun h10 => ?_) (fun h10 => ?_)
  · -- if t10: then
    have hv : validB xs = false := by simpa using h10
    refine CT.seq ?_
    -- region 2: relation.go:81
    refine CT.region ?_
    refine Wl.q rfl rfl (OpQ.assign rfl) ?_
    refine Wl.nil ?_
    refine PX.then_n ?_
    refine CT.ret ?_
    refine PX.then_r ?_
    refine PX.ret1 rfl rfl (fun w' hH => ?_)
    rw [transR, if_no hv]; exact newNil hH.ext
  · -- if t10: else
    have hv : validB xs = true := by simpa using h10
    have hl := validB_le hv
    refine CT.skip ?_
    refine PX.then_n ?_
    refine CT.seq ?_
    -- region 3: relation.go:83
    refine CT.region ?_
    refine Wl.q rfl rfl (OpQ.move rfl) ?_
    refine Wl.q rfl rfl (OpQ.len un22 rfl) ?_
    refine Wl.g rfl rfl (OpG.make1 un22 in23 rfl rfl rfl rfl (by omega) (by omega)) ?_
    rintro b _
    refine Wl.q rfl rfl (OpQ.assign rfl) ?_
    refine Wl.nil ?_
    refine PX.then_n ?_
    refine CT.seq ?_
    refine CT.seq ?_
    -- region 4: relation.go:84
    refine CT.region ?_
    refine Wl.q rfl rfl (OpQ.move rfl) ?_
    refine Wl.q rfl rfl (OpQ.len un22 rfl) ?_
    refine Wl.q rfl rfl (OpQ.move rfl) ?_
    refine Wl.nil ?_
    refine PX.then_n ?_
    refine CT.block ?_
    -- the loop at region 5
    refine CT.loop (ι := Nat) (fun i => i ≤ xs.length) (fun i => [(3, .slice (some ⟨b, 0, none⟩) xs.length xs.length), (14, .slice a xs.length cp), (15, .int .i64 (xs.length : Int)), (16, .int .i64 (i : Int))]) (fun i => [.row 23 1 (.slice (some ⟨b, 0, none⟩) xs.length xs.length) xs.length ((tOut xs i).map u)]) (fun i => xs.length - i) 0 (by omega) ⟨rfl, rfl, rfl, rfl, trivial⟩ (.keep (row_eq (by simp [tOut])) .nil) (fun i hi K0 hK0 => ?_)
    refine CT.seq ?_
    -- region 5: relation.go:84
    refine CT.region ?_
    refine Wl.q rfl rfl (OpQ.lss rfl rfl) ?_
    refine Wl.nil ?_
    refine PX.then_n ?_
    refine CT.seq ?_
    refine CT.cond rfl (fun h17 => ?_) (fun h17 => ?_)
    · -- if t17: then
      have h17 := of_decide_eq_true h17
      refine CT.skip ?_
      refine PX.then_n ?_
      refine CT.seq ?_
      refine CT.block ?_
      refine CT.seq ?_
      -- region 6: relation.go:84
      refine CT.region ?_
      refine Wl.q rfl rfl (OpQ.move rfl) ?_
      refine Wl.q rfl rfl (OpQ.index1 un22 sz23 rfl rfl (by omega) (sm (by omega))) ?_
      refine Wl.q rfl rfl (OpQ.loadRd sc23 rfl rfl hr (getMap u xs 0#64 (j := i) (by omega))) ?_
      refine Wl.q rfl rfl (OpQ.assign rfl) ?_
      refine Wl.q rfl rfl (OpQ.assign rfl) ?_
      refine Wl.nil ?_
      refine PX.then_n ?_
      refine CT.seq ?_
      -- region 7: relation.go:85
      refine CT.region ?_
      refine Wl.q rfl rfl (OpQ.move rfl) ?_
      refine Wl.g rfl rfl (OpG.callR go15 rfl (fun w hH => members_spec w _ (hH.rd0 hT rfl))) ?_
      rintro ⟨a22, c22⟩ h22
      have hml := memM_len (xs.getD i 0#64)
      refine Wl.q rfl rfl (OpQ.len un25 rfl) ?_
      refine Wl.q rfl rfl (OpQ.move rfl) ?_
      refine Wl.nil ?_
      refine PX.then_n ?_
      refine CT.block ?_
      -- the loop at region 8
      refine CT.loop (ι := Nat) (fun k => k ≤ (memM (xs.getD i 0#64)).length) (fun k => [(3, .slice (some ⟨b, 0, none⟩) xs.length xs.length), (4, .int .i64 (i : Int)), (14, .slice a xs.length cp), (15, .int .i64 (xs.length : Int)), (16, .int .i64 (i : Int)), (22, .slice a22 (memM (xs.getD i 0#64)).length c22), (23, .int .i64 ((memM (xs.getD i 0#64)).length : Int)), (24, .int .i64 (k : Int))]) (fun k => [.row 3 1 (.slice a22 (memM (xs.getD i 0#64)).length c22) (memM (xs.getD i 0#64)).length ((memM (xs.getD i 0#64)).map iv), .row 23 1 (.slice (some ⟨b, 0, none⟩) xs.length xs.length) xs.length ((tIn i (memM (xs.getD i 0#64)) (tOut xs i) k).map u)]) (fun k => (memM (xs.getD i 0#64)).length - k) 0 (by omega) ⟨rfl, rfl, rfl, rfl, rfl, rfl, rfl, rfl, trivial⟩ (HSub.refl _) (fun k hk K1 hK1 => ?_)
      have hL : ∀ k, (tIn i (memM (xs.getD i 0#64)) (tOut xs i) k).length = xs.length := fun k => by rw [tIn_len, tOut_len]
      refine CT.seq ?_
      -- region 8: relation.go:85
      refine CT.region ?_
      refine Wl.q rfl rfl (OpQ.lss rfl rfl) ?_
      refine Wl.nil ?_
      refine PX.then_n ?_
      refine CT.seq ?_
      refine CT.cond rfl (fun h25 => ?_) (fun h25 => ?_)
      · -- if t25: then
        have h25 := of_decide_eq_true h25
        refine CT.skip ?_
        refine PX.then_n ?_
        refine CT.seq ?_
        refine CT.block ?_
        refine CT.seq ?_
        -- region 9: relation.go:85
        refine CT.region ?_
        refine Wl.q rfl rfl (OpQ.index1 un25 sz3 rfl rfl (by omega) (h22 (by omega))) ?_
        refine Wl.q rfl rfl (OpQ.loadRow sc3 rfl .here (getMap iv _ 0 (j := k) (by omega))) ?_
        have hmk := valid_mem hv (i := i) (k := k) (by omega) (by omega)
        refine Wl.q rfl rfl (OpQ.assign rfl) ?_
        refine Wl.nil ?_
        refine PX.then_n ?_
        -- region 10, drawn: relation.go:86
        refine CT.draw 8 mixed ?_
        refine RA.q 0 (by kernel_rfl) rfl rfl rfl (.refl _) (OpQ.move rfl) ?_
        refine RA.q 1 (by kernel_rfl) rfl rfl rfl (.refl _) (OpQ.move rfl) ?_
        refine RA.q 2 (by kernel_rfl) rfl rfl rfl (.refl _) (OpQ.index1 un22 sz23 rfl rfl ⟨Int.natCast_nonneg _, by omega⟩ rfl) ?_
        refine RA.q 3 (by kernel_rfl) rfl rfl rfl (.refl _) (OpQ.loadRow sc23 rfl (.there .here) (getMap u _ 0#64 (j := (memM (xs.getD i 0#64)).getD k 0) (by rw [hL]; omega))) ?_
        refine RA.q 4 (by kernel_rfl) rfl rfl rfl (.refl _) (OpQ.move rfl) ?_
        refine RA.q 5 (by kernel_rfl) rfl rfl rfl (.refl _) (OpQ.ushlN (p := 1#64) rfl rfl) ?_
        refine RA.q 6 (by kernel_rfl) rfl rfl rfl (.refl _) (OpQ.uor rfl rfl) ?_
        refine RA.q 7 (by kernel_rfl) rfl rfl rfl (.refl _) (OpQ.index1 un22 sz23 rfl rfl ⟨Int.natCast_nonneg _, by omega⟩ rfl) ?_
        refine RA.tail ?_
        refine RT.f 8 (by kernel_rfl) rfl rfl rfl (OpG.storeRow sz23 rfl rfl rfl (.there .here) (by simp only [List.length_map, hL]; exact hmk)) ?_
        rintro _ _
        refine RT.done (by kernel_rfl) ?_
        refine PX.block_n ?_
        refine PX.then_n ?_
        -- region 11: relation.go:85
        refine CT.region ?_
        refine Wl.q rfl rfl (OpQ.add rfl rfl (by omega)) ?_
        refine Wl.q rfl rfl (OpQ.move rfl) ?_
        refine Wl.nil ?_
        exact PX.loop hK1 (k + 1) (by omega) (by first | omega | (dsimp only; omega)) ⟨rfl, rfl, rfl, rfl, rfl, rfl, rfl, rfl, trivial⟩ (.keep rfl (.keep (row_eq (mapSet u _ _ _)) .nil))
      · -- if t25: else
        have h25 := of_decide_eq_false h25
        refine CT.exit ?_
        refine PX.then_x ?_
        refine PX.then_x ?_
        refine PX.block_x ?_
        refine PX.block_n ?_
        refine PX.then_n ?_
        -- region 12: relation.go:84
        refine CT.region ?_
        refine Wl.q rfl rfl (OpQ.add rfl rfl (by omega)) ?_
        refine Wl.q rfl rfl (OpQ.move rfl) ?_
        refine Wl.nil ?_
        obtain rfl : k = (memM (xs.getD i 0#64)).length := by omega
        exact PX.loop hK0 (i + 1) (by omega) (by first | omega | (dsimp only; omega)) ⟨rfl, rfl, rfl, rfl, trivial⟩ (.drop (.keep (row_eq (by simp only [tOut])) .nil))
    · -- if t17: else
      have h17 := of_decide_eq_false h17
      refine CT.exit ?_
      refine PX.then_x ?_
      refine PX.then_x ?_
      refine PX.block_x ?_
      refine PX.then_n ?_
      refine CT.seq ?_
      -- region 13: relation.go:89
      refine CT.region ?_
      refine Wl.q rfl rfl (OpQ.move rfl) ?_
      refine Wl.q rfl rfl (OpQ.assign rfl) ?_
      refine Wl.nil ?_
      refine PX.then_n ?_
      refine CT.ret ?_
      refine PX.ret1 rfl rfl (fun w' hH => ?_)
      obtain rfl : i = xs.length := by omega
      rw [transR, if_yes hv, tOut_len]; exact hH.newRow .here

set_option maxRecDepth 100000 in
/-- semigroup/semigroupref02.Transpose -/
theorem transRef_spec (w : World) (a : Option Addr) (cp : Nat) (xs : List (BitVec 64)) (hr : Rd w a (xs.map u)) (hn : xs.length ≤ 64) : Calls Tryd.prog 28 #[.slice a xs.length cp] w (fun e w' => New 23 1 w w' e (rt0 xs xs.length).length ((rt0 xs xs.length).map u)) := by
  have sm : 0 < xs.length → a.isSome = true := fun h => hr.isSome (j := 0) (by simpa using h)
  refine enter (args := [.slice a xs.length cp]) [] 38 Tryd.func28 rfl rfl rfl ?_
  refine CT.seq ?_
  -- region 0: ref.go:56
  refine CT.region ?_
  refine Wl.q rfl rfl (OpQ.assign rfl) ?_
  refine Wl.nil ?_
  refine PX.then_n ?_
  refine CT.seq ?_
  -- region 1: ref.go:57
  refine CT.region ?_
  refine Wl.q rfl rfl (OpQ.move rfl) ?_
  refine Wl.q rfl rfl (OpQ.len un22 rfl) ?_
  refine Wl.g rfl rfl (OpG.make1 un22 in23 rfl rfl rfl rfl (by omega) (by omega)) ?_
  rintro b _
  refine Wl.q rfl rfl (OpQ.assign rfl) ?_
  refine Wl.nil ?_
  refine PX.then_n ?_
  refine CT.seq ?_
  refine CT.seq ?_
  -- region 2: ref.go:58
  refine CT.region ?_
  refine Wl.q rfl rfl (OpQ.move rfl) ?_
  refine Wl.q rfl rfl (OpQ.len un22 rfl) ?_
  refine Wl.q rfl rfl (OpQ.move rfl) ?_
  refine Wl.nil ?_
  refine PX.then_n ?_
  refine CT.block ?_
  -- the loop at region 3
  refine CT.loop (ι := Nat) (fun i => i ≤ xs.length) (fun i => [(0, .slice a xs.length cp), (3, .slice (some ⟨b, 0, none⟩) xs.length xs.length), (10, .int .i64 (xs.length : Int)), (11, .int .i64 (i : Int))]) (fun i => [.row 23 1 (.slice (some ⟨b, 0, none⟩) xs.length xs.length) xs.length ((rt0 xs i).map u)]) (fun i => xs.length - i) 0 (by omega) ⟨rfl, rfl, rfl, rfl, trivial⟩ (.keep (row_eq (by simp [rt0])) .nil) (fun i hi K0 hK0 => ?_)
  refine CT.seq ?_
  -- region 3: ref.go:58
  refine CT.region ?_
  refine Wl.q rfl rfl (OpQ.lss rfl rfl) ?_
  refine Wl.nil ?_
  refine PX.then_n ?_
  refine CT.seq ?_
  refine CT.cond rfl (fun h12 => ?_) (fun h12 => ?_)
  · -- if t12: then
    have h12 := of_decide_eq_true h12
    refine CT.skip ?_
    refine PX.then_n ?_
    refine CT.seq ?_
    refine CT.block ?_
    refine CT.seq ?_
    -- region 4: ref.go:58
    refine CT.region ?_
    refine Wl.q rfl rfl (OpQ.move rfl) ?_
    refine Wl.q rfl rfl (OpQ.assign rfl) ?_
    refine Wl.nil ?_
    refine PX.then_n ?_
    refine CT.seq ?_
    -- region 5: ref.go:59
    refine CT.region ?_
    refine Wl.q rfl rfl (OpQ.move rfl) ?_
    refine Wl.q rfl rfl (OpQ.len un22 rfl) ?_
    refine Wl.q rfl rfl (OpQ.move rfl) ?_
    refine Wl.nil ?_
    refine PX.then_n ?_
    refine CT.block ?_
    -- the loop at region 6
    refine CT.loop (ι := Nat) (fun j => j ≤ xs.length) (fun j => [(0, .slice a xs.length cp), (3, .slice (some ⟨b, 0, none⟩) xs.length xs.length), (4, .int .i64 (i : Int)), (10, .int .i64 (xs.length : Int)), (11, .int .i64 (i : Int)), (15, .int .i64 (xs.length : Int)), (16, .int .i64 (j : Int))]) (fun j => [.row 23 1 (.slice (some ⟨b, 0, none⟩) xs.length xs.length) xs.length ((rt1 xs i (rt0 xs i) j).map u)]) (fun j => xs.length - j) 0 (by omega) ⟨rfl, rfl, rfl, rfl, rfl, rfl, rfl, trivial⟩ (HSub.refl _) (fun j hj K1 hK1 => ?_)
    have hL : ∀ j, (rt1 xs i (rt0 xs i) j).length = xs.length := fun j => by rw [rt1_len, rt0_len]
    refine CT.seq ?_
    -- region 6: ref.go:59
    refine CT.region ?_
    refine Wl.q rfl rfl (OpQ.lss rfl rfl) ?_
    refine Wl.nil ?_
    refine PX.then_n ?_
    refine CT.seq ?_
    refine CT.cond rfl (fun h17 => ?_) (fun h17 => ?_)
    · -- if t17: then
      have h17 := of_decide_eq_true h17
      refine CT.skip ?_
      refine PX.then_n ?_
      refine CT.seq ?_
      refine CT.block ?_
      refine CT.seq ?_
      -- region 7: ref.go:59
      refine CT.region ?_
      refine Wl.q rfl rfl (OpQ.move rfl) ?_
      refine Wl.q rfl rfl (OpQ.assign rfl) ?_
      refine Wl.nil ?_
      refine PX.then_n ?_
      refine CT.seq ?_
      -- region 8: ref.go:60
      refine CT.region ?_
      refine Wl.q rfl rfl (OpQ.move rfl) ?_
      refine Wl.q rfl rfl (OpQ.move rfl) ?_
      refine Wl.q rfl rfl (OpQ.index1 un22 sz23 rfl rfl (by omega) (sm (by omega))) ?_
      refine Wl.q rfl rfl (OpQ.loadRd sc23 rfl rfl hr (getMap u xs 0#64 (j := j) (by omega))) ?_
      refine Wl.q rfl rfl (OpQ.move rfl) ?_
      refine Wl.g rfl rfl (OpG.callV go39 rfl (fun w hH => has_spec w _ _ (by omega))) ?_
      rintro _ _
      refine Wl.nil ?_
      refine PX.then_n ?_
      refine CT.cond rfl (fun h24 => ?_) (fun h24 => ?_)
      · -- if t24: then
        -- region 9, drawn: ref.go:61
        refine CT.draw 10 mixed ?_
        refine RA.q 0 (by kernel_rfl) rfl rfl rfl (.refl _) (OpQ.move rfl) ?_
        refine RA.q 1 (by kernel_rfl) rfl rfl rfl (.refl _) (OpQ.move rfl) ?_
        refine RA.q 2 (by kernel_rfl) rfl rfl rfl (.refl _) (OpQ.move rfl) ?_
        refine RA.q 3 (by kernel_rfl) rfl rfl rfl (.refl _) (OpQ.move rfl) ?_
        refine RA.q 4 (by kernel_rfl) rfl rfl rfl (.refl _) (OpQ.index1 un22 sz23 rfl rfl (by omega) rfl) ?_
        refine RA.q 5 (by kernel_rfl) rfl rfl rfl (.refl _) (OpQ.loadRow sc23 rfl .here (getMap u _ 0#64 (j := i) (by rw [hL]; omega))) ?_
        refine RA.q 6 (by kernel_rfl) rfl rfl rfl (.refl _) (OpQ.move rfl) ?_
        refine RA.f 7 (by kernel_rfl) rfl rfl rfl (OpG.callV go42 rfl (fun w hH => bit_spec w _ (by omega))) (fun _ _ => (.refl _)) ?_
        rintro _ _
        refine RA.q 8 (by kernel_rfl) rfl rfl rfl (.refl _) (OpQ.uor rfl rfl) ?_
        refine RA.q 9 (by kernel_rfl) rfl rfl rfl (.refl _) (OpQ.index1 un22 sz23 rfl rfl (by omega) rfl) ?_
        refine RA.tail ?_
        refine RT.f 10 (by kernel_rfl) rfl rfl rfl (OpG.storeRow sz23 rfl rfl rfl .here (by simp [hL]; omega)) ?_
        rintro _ _
        refine RT.done (by kernel_rfl) ?_
        refine PX.block_n ?_
        refine PX.then_n ?_
        -- region 10: ref.go:59
        refine CT.region ?_
        refine Wl.q rfl rfl (OpQ.add rfl rfl (by omega)) ?_
        refine Wl.q rfl rfl (OpQ.move rfl) ?_
        refine Wl.nil ?_
        exact PX.loop hK1 (j + 1) (by omega) (by first | omega | (dsimp only; omega)) ⟨rfl, rfl, rfl, rfl, rfl, rfl, rfl, trivial⟩ (.keep (row_eq (by rw [rt1_hit h24]; exact mapSet u _ _ _)) .nil)
      · -- if t24: else
        refine CT.skip ?_
        refine PX.block_n ?_
        refine PX.then_n ?_
        -- region 10: ref.go:59
        refine CT.region ?_
        refine Wl.q rfl rfl (OpQ.add rfl rfl (by omega)) ?_
        refine Wl.q rfl rfl (OpQ.move rfl) ?_
        refine Wl.nil ?_
        exact PX.loop hK1 (j + 1) (by omega) (by first | omega | (dsimp only; omega)) ⟨rfl, rfl, rfl, rfl, rfl, rfl, rfl, trivial⟩ (.keep (row_eq (by rw [rt1_miss h24])) .nil)
    · -- if t17: else
      have h17 := of_decide_eq_false h17
      refine CT.exit ?_
      refine PX.then_x ?_
      refine PX.then_x ?_
      refine PX.block_x ?_
      refine PX.block_n ?_
      refine PX.then_n ?_
      -- region 11: ref.go:58
      refine CT.region ?_
      refine Wl.q rfl rfl (OpQ.add rfl rfl (by omega)) ?_
      refine Wl.q rfl rfl (OpQ.move rfl) ?_
      refine Wl.nil ?_
      obtain rfl : j = xs.length := by omega
      exact PX.loop hK0 (i + 1) (by omega) (by first | omega | (dsimp only; omega)) ⟨rfl, rfl, rfl, rfl, trivial⟩ (.keep (row_eq (by simp only [rt0])) .nil)
  · -- if t12: else
    have h12 := of_decide_eq_false h12
    refine CT.exit ?_
    refine PX.then_x ?_
    refine PX.then_x ?_
    refine PX.block_x ?_
    refine PX.then_n ?_
    refine CT.seq ?_
    -- region 12: ref.go:65
    refine CT.region ?_
    refine Wl.q rfl rfl (OpQ.move rfl) ?_
    refine Wl.q rfl rfl (OpQ.assign rfl) ?_
    refine Wl.nil ?_
    refine PX.then_n ?_
    refine CT.ret ?_
    refine PX.ret1 rfl rfl (fun w' hH => ?_)
    obtain rfl : i = xs.length := by omega
    rw [rt0_len]; exact hH.newRow .here

set_option maxRecDepth 100000 in
/-- semigroup/semigrouplaw02.same -/
theorem sameI_spec (w : World) (a : Option Addr) (cp : Nat) (xs : List Nat) (hr : Rd w a (xs.map iv)) (a2 : Option Addr) (cp2 : Nat) (ys : List Nat) (hr2 : Rd w a2 (ys.map iv)) (hn : xs.length ≤ 9223372036854775807) : Calls Tryd.prog 14 #[.slice a xs.length cp, .slice a2 ys.length cp2] w (fun e w' => e = .returned (.bool (xs == ys)) ∧ Ext [] w w') := by
  have sm : 0 < xs.length → a.isSome = true := fun h => hr.isSome (j := 0) (by simpa using h)
  have sm2 : 0 < ys.length → a2.isSome = true := fun h => hr2.isSome (j := 0) (by simpa using h)
  refine enter (args := [.slice a xs.length cp, .slice a2 ys.length cp2]) [] 26 Tryd.func14 rfl rfl rfl ?_
  refine CT.seq ?_
  -- region 0: law.go:13
  refine CT.region ?_
  refine Wl.q rfl rfl (OpQ.assign rfl) ?_
  refine Wl.nil ?_
  refine PX.then_n ?_
  refine CT.seq ?_
  refine CT.seq ?_
  -- region 1: law.go:14
  refine CT.region ?_
  refine Wl.q rfl rfl (OpQ.move rfl) ?_
  refine Wl.q rfl rfl (OpQ.len un25 rfl) ?_
  refine Wl.q rfl rfl (OpQ.move rfl) ?_
  refine Wl.q rfl rfl (OpQ.len un25 rfl) ?_
  refine Wl.q rfl rfl (OpQ.neq rfl rfl) ?_
  refine Wl.nil ?_
  refine PX.then_n ?_
  refine CT.cond rfl (fun h10 => ?_) (fun h10 => ?_)
  · -- if t10: then
    have h10 : ¬ (xs.length : Int) = ys.length := by simpa using h10
    refine CT.seq ?_
    -- region 2: law.go:15
    refine CT.region ?_
    refine Wl.q rfl rfl (OpQ.assign rfl) ?_
    refine Wl.nil ?_
    refine PX.then_n ?_
    refine CT.ret ?_
    refine PX.then_r ?_
    refine PX.ret1 rfl rfl (fun w' hH => ?_)
    exact ⟨by rw [beqSame_len (by omega)], hH.ext⟩
  · -- if t10: else
    have h10 : (xs.length : Int) = ys.length := by simpa using h10
    refine CT.skip ?_
    refine PX.then_n ?_
    refine CT.seq ?_
    refine CT.seq ?_
    -- region 3: law.go:17
    refine CT.region ?_
    refine Wl.q rfl rfl (OpQ.move rfl) ?_
    refine Wl.q rfl rfl (OpQ.len un25 rfl) ?_
    refine Wl.q rfl rfl (OpQ.move rfl) ?_
    refine Wl.nil ?_
    refine PX.then_n ?_
    refine CT.block ?_
    -- the loop at region 4
    refine CT.loop (ι := Nat) (fun k => k ≤ xs.length ∧ ∀ j < k, xs.getD j 0 = ys.getD j 0) (fun k => [(0, .slice a xs.length cp), (1, .slice a2 ys.length cp2), (12, .int .i64 (xs.length : Int)), (13, .int .i64 (k : Int))]) (fun _ => []) (fun k => xs.length - k) 0 ⟨by omega, by omega⟩ ⟨rfl, rfl, rfl, rfl, trivial⟩ (HSub.refl _) (fun k ⟨hk, hall⟩ K0 hK0 => ?_)
    refine CT.seq ?_
    -- region 4: law.go:17
    refine CT.region ?_
    refine Wl.q rfl rfl (OpQ.lss rfl rfl) ?_
    refine Wl.nil ?_
    refine PX.then_n ?_
    refine CT.seq ?_
    refine CT.cond rfl (fun h14 => ?_) (fun h14 => ?_)
    · -- if t14: then
      have h14 := of_decide_eq_true h14
      refine CT.skip ?_
      refine PX.then_n ?_
      refine CT.seq ?_
      refine CT.block ?_
      refine CT.seq ?_
      -- region 5: law.go:17
      refine CT.region ?_
      refine Wl.q rfl rfl (OpQ.move rfl) ?_
      refine Wl.q rfl rfl (OpQ.assign rfl) ?_
      refine Wl.nil ?_
      refine PX.then_n ?_
      refine CT.seq ?_
      -- region 6, drawn: law.go:18
      refine CT.draw 9 mixed ?_
      refine RA.q 0 (by kernel_rfl) rfl rfl rfl (.refl _) (OpQ.move rfl) ?_
      refine RA.q 1 (by kernel_rfl) rfl rfl rfl (.refl _) (OpQ.move rfl) ?_
      refine RA.q 2 (by kernel_rfl) rfl rfl rfl (.refl _) (OpQ.index1 un25 sz3 rfl rfl (by omega) (sm (by omega))) ?_
      refine RA.q 3 (by kernel_rfl) rfl rfl rfl (.refl _) (OpQ.loadRd sc3 rfl rfl hr (getMap iv xs 0 (j := k) (by omega))) ?_
      refine RA.q 4 (by kernel_rfl) rfl rfl rfl (.refl _) (OpQ.move rfl) ?_
      refine RA.q 5 (by kernel_rfl) rfl rfl rfl (.refl _) (OpQ.move rfl) ?_
      refine RA.q 6 (by kernel_rfl) rfl rfl rfl (.refl _) (OpQ.index1 un25 sz3 rfl rfl (by omega) (sm2 (by omega))) ?_
      refine RA.q 7 (by kernel_rfl) rfl rfl rfl (.refl _) (OpQ.loadRd sc3 rfl rfl hr2 (getMap iv ys 0 (j := k) (by omega))) ?_
      refine RA.q 8 (by kernel_rfl) rfl rfl rfl (.refl _) (OpQ.neq rfl rfl) ?_
      refine RA.tail ?_
      refine RT.done (by kernel_rfl) ?_
      refine PX.then_n ?_
      refine CT.cond rfl (fun h24 => ?_) (fun h24 => ?_)
      · -- if t24: then
        have h24 : ¬ xs.getD k 0 = ys.getD k 0 := by simp at h24; simp only [List.getD_eq_getElem?_getD]; omega
        refine CT.seq ?_
        -- region 7: law.go:19
        refine CT.region ?_
        refine Wl.q rfl rfl (OpQ.assign rfl) ?_
        refine Wl.nil ?_
        refine PX.then_n ?_
        refine CT.ret ?_
        refine PX.block_r ?_
        refine PX.then_r ?_
        refine PX.then_r ?_
        refine PX.block_r ?_
        refine PX.then_r ?_
        refine PX.ret1 rfl rfl (fun w' hH => ?_)
        exact ⟨by rw [show (xs == ys) = false by rw [beq_eq_false_iff_ne]; rintro rfl; exact h24 rfl], hH.ext⟩
      · -- if t24: else
        have h24 : xs.getD k 0 = ys.getD k 0 := by simp at h24; simp only [List.getD_eq_getElem?_getD]; omega
        refine CT.skip ?_
        refine PX.block_n ?_
        refine PX.then_n ?_
        -- region 8: law.go:17
        refine CT.region ?_
        refine Wl.q rfl rfl (OpQ.add rfl rfl (by omega)) ?_
        refine Wl.q rfl rfl (OpQ.move rfl) ?_
        refine Wl.nil ?_
        have hall2 : ∀ j < k + 1, xs.getD j 0 = ys.getD j 0 := fun j hj => by
          rcases Nat.lt_or_ge j k with h | h
          · exact hall j h
          · rw [show j = k by omega]; exact h24
        exact PX.loop hK0 (k + 1) ⟨by omega, hall2⟩ (by first | omega | (dsimp only; omega)) ⟨rfl, rfl, rfl, rfl, trivial⟩ (HSub.refl _)
    · -- if t14: else
      have h14 := of_decide_eq_false h14
      refine CT.exit ?_
      refine PX.then_x ?_
      refine PX.then_x ?_
      refine PX.block_x ?_
      refine PX.then_n ?_
      refine CT.seq ?_
      -- region 9: law.go:22
      refine CT.region ?_
      refine Wl.q rfl rfl (OpQ.assign rfl) ?_
      refine Wl.nil ?_
      refine PX.then_n ?_
      refine CT.ret ?_
      refine PX.ret1 rfl rfl (fun w' hH => ?_)
      exact ⟨by rw [show (xs == ys) = true by rw [beq_iff_eq]; exact ext_getD 0 (by omega) (fun j hj => hall j (by omega))], hH.ext⟩

end Go.Proofs.YtbefnlnnnpinnaaDoor
