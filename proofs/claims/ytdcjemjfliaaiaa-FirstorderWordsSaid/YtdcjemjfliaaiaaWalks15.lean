/-
  What functions of the packages firstorder, semigroupref38 and semigroupmade compute, each by its walk. Conditions: those that each theorem names.
-/
import Derived.Test.YtdcjemjfliaaiaaMod
import Derived.Test.YtdcjemjfliaaiaaLaws4
set_option linter.unusedSimpArgs false
namespace Go.Proofs.Ytdcjemjfliaaiaa
open Go Go.Eng Go.Fo Go.Sf
open Go.Tp (zi)
open Go.Tl (vf mayL Wd okW okB vf_t vf_f bo)

theorem AC_un105 : Try.prog.underlying 105 = some (.array 2 69) := by kernel_rfl
theorem AC_sz69 : sizeB Try.prog 69 = some 1 := by kernel_rfl
theorem AC_sc69 : scalarB Try.prog 69 = some true := by kernel_rfl
set_option maxRecDepth 100000 in
/-- (semigroup/starfree.cuts).has -/
theorem chas_spec (w : World) (c : C2) (j : Nat) (hj : j < 128) : Calls Try.prog 48 #[.agg (cv c).toArray, .int .i64 (j : Int)] w (fun e w' => e = .returned (.bool (hb c j)) ∧ Ext [] w w') := by
  refine enter (args := [.agg (cv c).toArray, .int .i64 (j : Int)]) [] 14 Try.func48 rfl rfl rfl ?_
  refine CT.seq ?_
  -- region 0: table.go:14
  refine CT.region ?_
  refine Wl.g rfl rfl (OpG.box (size := 2) rfl rfl rfl) ?_
  rintro b2 _
  refine Wl.q rfl rfl (OpQ.assign rfl) ?_
  refine Wl.nil ?_
  refine PX.then_n ?_
  refine CT.seq ?_
  -- region 1: table.go:15
  refine CT.region ?_
  refine Wl.q rfl rfl (OpQ.move rfl) ?_
  refine Wl.q rfl rfl (OpQ.quo rfl rfl (by rw [quo64]; omega)) ?_
  refine Wl.know 6 (v' := .int .i64 (((j / 64 : Nat) : Int))) rfl (congrArg (Value.int .i64) (quo64 j)) ?_
  refine Wl.q rfl rfl (OpQ.indexArr1 AC_un105 AC_sz69 rfl rfl (by omega)) ?_
  refine Wl.q rfl rfl (OpQ.loadF (b := b2) AC_sc69 rfl (by repeat (first | exact Has.here | apply Has.there)) (c2_get hj)) ?_
  refine Wl.q rfl rfl (OpQ.move rfl) ?_
  refine Wl.q rfl rfl (OpQ.rem rfl rfl (by omega)) ?_
  refine Wl.know 10 (v' := .int .i64 (((j % 64 : Nat) : Int))) rfl (congrArg (Value.int .i64) (rem64 j)) ?_
  refine Wl.q rfl rfl (OpQ.ushrN rfl rfl) ?_
  refine Wl.q rfl rfl (OpQ.uand (q := 1#64) rfl rfl) ?_
  refine Wl.q rfl rfl (OpQ.ueql (q := 1#64) rfl rfl) ?_
  refine Wl.know 13 (v' := .bool (hb c j)) rfl rfl ?_
  refine Wl.q rfl rfl (OpQ.assign rfl) ?_
  refine Wl.nil ?_
  refine PX.then_n ?_
  refine CT.ret ?_
  refine PX.ret1 rfl rfl (fun w' hH => ?_)
  exact ⟨rfl, hH.ext⟩

theorem AC_in105 : (Try.prog.info? 105).map (fun i => (i.zero, i.size, i.bytes)) = some (some (.agg #[.int .u64 0, .int .u64 0]), 2, 16) := by kernel_rfl
theorem AC_mixed : Try.prog.follows .mixedOrders = true := by kernel_rfl
theorem AC_ag105 : isAggB Try.prog 105 = some true := by kernel_rfl
theorem AC_sz105 : sizeB Try.prog 105 = some 2 := by kernel_rfl
set_option maxRecDepth 100000 in
/-- (semigroup/starfree.cuts).with -/
theorem cwith_spec (w : World) (c : C2) (j : Nat) (hj : j < 128) : Calls Try.prog 60 #[.agg (cv c).toArray, .int .i64 (j : Int)] w (fun e w' => e = .returned (.agg (cv (wc c j)).toArray) ∧ Ext [] w w') := by
  refine enter (args := [.agg (cv c).toArray, .int .i64 (j : Int)]) [] 15 Try.func60 rfl rfl rfl ?_
  refine CT.seq ?_
  -- region 0: table.go:9
  refine CT.region ?_
  refine Wl.g rfl rfl (OpG.box (size := 2) rfl rfl rfl) ?_
  rintro b2 _
  refine Wl.g rfl rfl (OpG.alloc (zs := [.int .u64 0, .int .u64 0]) AC_in105 rfl rfl) ?_
  rintro b4 _
  refine Wl.nil ?_
  refine PX.then_n ?_
  refine CT.seq ?_
  -- region 1, drawn: table.go:10
  refine CT.draw 9 AC_mixed ?_
  refine RA.q 0 (by kernel_rfl) rfl rfl rfl (.refl _) (OpQ.move rfl) ?_
  refine RA.q 1 (by kernel_rfl) rfl rfl rfl (.refl _) (OpQ.quo rfl rfl (by rw [quo64]; omega)) ?_
  refine RA.know 6 (v' := .int .i64 (((j / 64 : Nat) : Int))) rfl (congrArg (Value.int .i64) (quo64 j)) ?_
  refine RA.q 2 (by kernel_rfl) rfl rfl rfl (.refl _) (OpQ.indexArr1 AC_un105 AC_sz69 rfl rfl (by omega)) ?_
  refine RA.q 3 (by kernel_rfl) rfl rfl rfl (.refl _) (OpQ.loadF (b := b2) AC_sc69 rfl (by repeat (first | exact Has.here | apply Has.there)) (c2_get hj)) ?_
  refine RA.q 4 (by kernel_rfl) rfl rfl rfl (.refl _) (OpQ.move rfl) ?_
  refine RA.q 5 (by kernel_rfl) rfl rfl rfl (.refl _) (OpQ.rem rfl rfl (by omega)) ?_
  refine RA.know 10 (v' := .int .i64 (((j % 64 : Nat) : Int))) rfl (congrArg (Value.int .i64) (rem64 j)) ?_
  refine RA.q 6 (by kernel_rfl) rfl rfl rfl (.refl _) (OpQ.ushlN (p := 1#64) rfl rfl) ?_
  refine RA.q 7 (by kernel_rfl) rfl rfl rfl (.refl _) (OpQ.uor rfl rfl) ?_
  refine RA.q 8 (by kernel_rfl) rfl rfl rfl (.refl _) (OpQ.indexArr1 AC_un105 AC_sz69 rfl rfl (by omega)) ?_
  refine RA.tail ?_
  refine RT.f 9 (by kernel_rfl) rfl rfl rfl (OpG.storeRow (a := some ⟨b2, 0, none⟩) AC_sz69 rfl rfl rfl (by repeat (first | exact Upd.here | apply Upd.there)) (by show j / 64 < 2; omega)) ?_
  rintro _ _
  refine RT.done (by kernel_rfl) ?_
  refine PX.then_n ?_
  refine CT.seq ?_
  -- region 2: table.go:11
  refine CT.region ?_
  refine Wl.mem (.keep rfl (.keep (row_eq (c2_put hj)) .nil)) ?_
  refine Wl.q rfl rfl (OpQ.loadV (b := b2) AC_ag105 AC_sz105 rfl (by repeat (first | exact Has.here | apply Has.there)) (by rfl)) ?_
  refine Wl.g rfl rfl (OpG.storeV (b := b4) AC_sz105 rfl rfl rfl rfl (by repeat (first | exact Upd.here | apply Upd.there))) ?_
  rintro _ _
  refine Wl.nil ?_
  refine PX.then_n ?_
  refine CT.ret ?_
  refine PX.retC rfl rfl (by repeat (first | exact Has.here | apply Has.there)) AC_ag105 AC_sz105 (by rfl) (fun w' hH => ?_)
  exact ⟨rfl, hH.ext⟩

set_option maxRecDepth 100000 in
/-- (semigroup/starfree.cuts).union -/
theorem cunion_spec (w : World) (c d : C2) : Calls Try.prog 62 #[.agg (cv c).toArray, .agg (cv d).toArray] w (fun e w' => e = .returned (.agg (cv (c2or c d)).toArray) ∧ Ext [] w w') := by
  refine enter (args := [.agg (cv c).toArray, .agg (cv d).toArray]) [] 16 Try.func62 rfl rfl rfl ?_
  refine CT.seq ?_
  -- region 0: table.go:18
  refine CT.region ?_
  refine Wl.g rfl rfl (OpG.box (size := 2) rfl rfl rfl) ?_
  rintro b2 _
  refine Wl.g rfl rfl (OpG.box (size := 2) rfl rfl rfl) ?_
  rintro b3 _
  refine Wl.g rfl rfl (OpG.alloc (zs := [.int .u64 0, .int .u64 0]) AC_in105 rfl rfl) ?_
  rintro b4 _
  refine Wl.nil ?_
  refine PX.then_n ?_
  refine CT.seq ?_
  -- region 1: table.go:19
  refine CT.region ?_
  refine Wl.q rfl rfl (OpQ.indexArr1 AC_un105 AC_sz69 rfl rfl (by decide)) ?_
  refine Wl.q rfl rfl (OpQ.loadF (b := b2) AC_sc69 rfl (by repeat (first | exact Has.here | apply Has.there)) (by rfl)) ?_
  refine Wl.q rfl rfl (OpQ.indexArr1 AC_un105 AC_sz69 rfl rfl (by decide)) ?_
  refine Wl.q rfl rfl (OpQ.loadF (b := b3) AC_sc69 rfl (by repeat (first | exact Has.here | apply Has.there)) (by rfl)) ?_
  refine Wl.q rfl rfl (OpQ.uor rfl rfl) ?_
  refine Wl.q rfl rfl (OpQ.indexArr1 AC_un105 AC_sz69 rfl rfl (by decide)) ?_
  refine Wl.q rfl rfl (OpQ.loadF (b := b2) AC_sc69 rfl (by repeat (first | exact Has.here | apply Has.there)) (by rfl)) ?_
  refine Wl.q rfl rfl (OpQ.indexArr1 AC_un105 AC_sz69 rfl rfl (by decide)) ?_
  refine Wl.q rfl rfl (OpQ.loadF (b := b3) AC_sc69 rfl (by repeat (first | exact Has.here | apply Has.there)) (by rfl)) ?_
  refine Wl.q rfl rfl (OpQ.uor rfl rfl) ?_
  refine Wl.q rfl rfl (OpQ.buildArr (cells := #[u (c.lo ||| d.lo), u (c.hi ||| d.hi)]) AC_un105 AC_sz69 AC_in105 rfl rfl) ?_
  refine Wl.g rfl rfl (OpG.storeV (b := b4) AC_sz105 rfl rfl rfl rfl (by repeat (first | exact Upd.here | apply Upd.there))) ?_
  rintro _ _
  refine Wl.nil ?_
  refine PX.then_n ?_
  refine CT.ret ?_
  refine PX.retC rfl rfl (by repeat (first | exact Has.here | apply Has.there)) AC_ag105 AC_sz105 (by rfl) (fun w' hH => ?_)
  exact ⟨rfl, hH.ext⟩

set_option maxRecDepth 100000 in
/-- (semigroup/starfree.cuts).meet -/
theorem cmeet_spec (w : World) (c d : C2) : Calls Try.prog 63 #[.agg (cv c).toArray, .agg (cv d).toArray] w (fun e w' => e = .returned (.agg (cv (c2and c d)).toArray) ∧ Ext [] w w') := by
  refine enter (args := [.agg (cv c).toArray, .agg (cv d).toArray]) [] 16 Try.func63 rfl rfl rfl ?_
  refine CT.seq ?_
  -- region 0: table.go:22
  refine CT.region ?_
  refine Wl.g rfl rfl (OpG.box (size := 2) rfl rfl rfl) ?_
  rintro b2 _
  refine Wl.g rfl rfl (OpG.box (size := 2) rfl rfl rfl) ?_
  rintro b3 _
  refine Wl.g rfl rfl (OpG.alloc (zs := [.int .u64 0, .int .u64 0]) AC_in105 rfl rfl) ?_
  rintro b4 _
  refine Wl.nil ?_
  refine PX.then_n ?_
  refine CT.seq ?_
  -- region 1: table.go:23
  refine CT.region ?_
  refine Wl.q rfl rfl (OpQ.indexArr1 AC_un105 AC_sz69 rfl rfl (by decide)) ?_
  refine Wl.q rfl rfl (OpQ.loadF (b := b2) AC_sc69 rfl (by repeat (first | exact Has.here | apply Has.there)) (by rfl)) ?_
  refine Wl.q rfl rfl (OpQ.indexArr1 AC_un105 AC_sz69 rfl rfl (by decide)) ?_
  refine Wl.q rfl rfl (OpQ.loadF (b := b3) AC_sc69 rfl (by repeat (first | exact Has.here | apply Has.there)) (by rfl)) ?_
  refine Wl.q rfl rfl (OpQ.uand rfl rfl) ?_
  refine Wl.q rfl rfl (OpQ.indexArr1 AC_un105 AC_sz69 rfl rfl (by decide)) ?_
  refine Wl.q rfl rfl (OpQ.loadF (b := b2) AC_sc69 rfl (by repeat (first | exact Has.here | apply Has.there)) (by rfl)) ?_
  refine Wl.q rfl rfl (OpQ.indexArr1 AC_un105 AC_sz69 rfl rfl (by decide)) ?_
  refine Wl.q rfl rfl (OpQ.loadF (b := b3) AC_sc69 rfl (by repeat (first | exact Has.here | apply Has.there)) (by rfl)) ?_
  refine Wl.q rfl rfl (OpQ.uand rfl rfl) ?_
  refine Wl.q rfl rfl (OpQ.buildArr (cells := #[u (c.lo &&& d.lo), u (c.hi &&& d.hi)]) AC_un105 AC_sz69 AC_in105 rfl rfl) ?_
  refine Wl.g rfl rfl (OpG.storeV (b := b4) AC_sz105 rfl rfl rfl rfl (by repeat (first | exact Upd.here | apply Upd.there))) ?_
  rintro _ _
  refine Wl.nil ?_
  refine PX.then_n ?_
  refine CT.ret ?_
  refine PX.retC rfl rfl (by repeat (first | exact Has.here | apply Has.there)) AC_ag105 AC_sz105 (by rfl) (fun w' hH => ?_)
  exact ⟨rfl, hH.ext⟩

set_option maxRecDepth 100000 in
/-- (semigroup/starfree.cuts).without -/
theorem cwithout_spec (w : World) (c d : C2) : Calls Try.prog 64 #[.agg (cv c).toArray, .agg (cv d).toArray] w (fun e w' => e = .returned (.agg (cv (c2no c d)).toArray) ∧ Ext [] w w') := by
  refine enter (args := [.agg (cv c).toArray, .agg (cv d).toArray]) [] 16 Try.func64 rfl rfl rfl ?_
  refine CT.seq ?_
  -- region 0: table.go:26
  refine CT.region ?_
  refine Wl.g rfl rfl (OpG.box (size := 2) rfl rfl rfl) ?_
  rintro b2 _
  refine Wl.g rfl rfl (OpG.box (size := 2) rfl rfl rfl) ?_
  rintro b3 _
  refine Wl.g rfl rfl (OpG.alloc (zs := [.int .u64 0, .int .u64 0]) AC_in105 rfl rfl) ?_
  rintro b4 _
  refine Wl.nil ?_
  refine PX.then_n ?_
  refine CT.seq ?_
  -- region 1: table.go:27
  refine CT.region ?_
  refine Wl.q rfl rfl (OpQ.indexArr1 AC_un105 AC_sz69 rfl rfl (by decide)) ?_
  refine Wl.q rfl rfl (OpQ.loadF (b := b2) AC_sc69 rfl (by repeat (first | exact Has.here | apply Has.there)) (by rfl)) ?_
  refine Wl.q rfl rfl (OpQ.indexArr1 AC_un105 AC_sz69 rfl rfl (by decide)) ?_
  refine Wl.q rfl rfl (OpQ.loadF (b := b3) AC_sc69 rfl (by repeat (first | exact Has.here | apply Has.there)) (by rfl)) ?_
  refine Wl.q rfl rfl (OpQ.uandNot rfl rfl) ?_
  refine Wl.q rfl rfl (OpQ.indexArr1 AC_un105 AC_sz69 rfl rfl (by decide)) ?_
  refine Wl.q rfl rfl (OpQ.loadF (b := b2) AC_sc69 rfl (by repeat (first | exact Has.here | apply Has.there)) (by rfl)) ?_
  refine Wl.q rfl rfl (OpQ.indexArr1 AC_un105 AC_sz69 rfl rfl (by decide)) ?_
  refine Wl.q rfl rfl (OpQ.loadF (b := b3) AC_sc69 rfl (by repeat (first | exact Has.here | apply Has.there)) (by rfl)) ?_
  refine Wl.q rfl rfl (OpQ.uandNot rfl rfl) ?_
  refine Wl.q rfl rfl (OpQ.buildArr (cells := #[u (c.lo &&& ~~~d.lo), u (c.hi &&& ~~~d.hi)]) AC_un105 AC_sz69 AC_in105 rfl rfl) ?_
  refine Wl.g rfl rfl (OpG.storeV (b := b4) AC_sz105 rfl rfl rfl rfl (by repeat (first | exact Upd.here | apply Upd.there))) ?_
  rintro _ _
  refine Wl.nil ?_
  refine PX.then_n ?_
  refine CT.ret ?_
  refine PX.retC rfl rfl (by repeat (first | exact Has.here | apply Has.there)) AC_ag105 AC_sz105 (by rfl) (fun w' hH => ?_)
  exact ⟨rfl, hH.ext⟩

theorem AC_go60 : isGo Try.prog 60 = true := by kernel_rfl
set_option maxRecDepth 100000 in
/-- semigroup/starfree.between -/
theorem between_spec (w : World) (p n : Nat) (hn : n < 127) : Calls Try.prog 61 #[.int .i64 (p : Int), .int .i64 (n : Int)] w (fun e w' => ∃ c : C2, (∀ q, q < 128 → hb c q = (decide (p ≤ q) && decide (q ≤ n))) ∧ e = .returned (.agg (cv c).toArray) ∧ Ext [] w w') := by
  refine enter (args := [.int .i64 (p : Int), .int .i64 (n : Int)]) [] 17 Try.func61 rfl rfl rfl ?_
  refine CT.seq ?_
  -- region 0: table.go:31
  refine CT.region ?_
  refine Wl.g rfl rfl (OpG.alloc (zs := [.int .u64 0, .int .u64 0]) AC_in105 rfl rfl) ?_
  rintro b4 _
  refine Wl.nil ?_
  refine PX.then_n ?_
  refine CT.seq ?_
  -- region 1: table.go:32
  refine CT.region ?_
  refine Wl.g rfl rfl (OpG.alloc (zs := [.int .u64 0, .int .u64 0]) AC_in105 rfl rfl) ?_
  rintro b5 _
  refine Wl.nil ?_
  refine PX.then_n ?_
  refine CT.seq ?_
  refine CT.seq ?_
  -- region 2: table.go:33
  refine CT.region ?_
  refine Wl.q rfl rfl (OpQ.move rfl) ?_
  refine Wl.q rfl rfl (OpQ.assign rfl) ?_
  refine Wl.nil ?_
  refine PX.then_n ?_
  refine CT.block ?_
  -- the loop at region 3
  refine CT.loop (ι := Nat × C2) (fun (j, c) => p ≤ j ∧ (j ≤ n + 1 ∨ j = p) ∧ ∀ q, q < 128 → hb c q = (decide (p ≤ q) && decide (q < j))) (fun (j, c) => [(1, .int .i64 (n : Int)), (4, .pointer (some ⟨b4, 0, none⟩)), (5, .pointer (some ⟨b5, 0, none⟩)), (6, .int .i64 (j : Int))]) (fun (j, c) => [.row 105 2 (vb b5) 1 (cv c), .row 105 2 (vb b4) 1 (cv c20)]) (fun (j, c) => n + 1 - j) (p, c20) ⟨Nat.le_refl _, .inr rfl, fun q _ => by rw [hb_zero, Bool.eq_iff_iff]; simp⟩ ⟨rfl, rfl, rfl, rfl, trivial⟩ (HSub.refl _) (fun ⟨j, c⟩ ⟨hpj, hjn, hc⟩ K0 hK0 => ?_)
  dsimp only
  refine CT.seq ?_
  refine CT.seq ?_
  -- region 3: table.go:33
  refine CT.region ?_
  refine Wl.q rfl rfl (OpQ.move rfl) ?_
  refine Wl.q rfl rfl (OpQ.move rfl) ?_
  refine Wl.q rfl rfl (OpQ.leq rfl rfl) ?_
  refine Wl.nil ?_
  refine PX.then_n ?_
  refine CT.cond rfl (fun h10 => ?_) (fun h10 => ?_)
  · -- if t10: then
    have h10 := of_decide_eq_true h10
    refine CT.skip ?_
    refine PX.then_n ?_
    refine CT.seq ?_
    refine CT.block ?_
    -- region 5: table.go:34
    refine CT.region ?_
    refine Wl.q rfl rfl (OpQ.loadV (b := b5) AC_ag105 AC_sz105 rfl (by repeat (first | exact Has.here | apply Has.there)) (by rfl)) ?_
    refine Wl.q rfl rfl (OpQ.move rfl) ?_
    refine Wl.g rfl rfl (OpG.callV AC_go60 rfl (fun w hH => cwith_spec w c j (by omega))) ?_
    rintro _ _
    refine Wl.g rfl rfl (OpG.storeV (b := b5) AC_sz105 rfl rfl rfl rfl (by repeat (first | exact Upd.here | apply Upd.there))) ?_
    rintro _ _
    refine Wl.nil ?_
    refine PX.block_n ?_
    refine PX.then_n ?_
    -- region 4: table.go:33
    refine CT.region ?_
    refine Wl.q rfl rfl (OpQ.move rfl) ?_
    refine Wl.q rfl rfl (OpQ.add rfl rfl (by omega)) ?_
    refine Wl.q rfl rfl (OpQ.assign rfl) ?_
    refine Wl.nil ?_
    exact PX.loop hK0 (j + 1, wc c j) ⟨by omega, .inl (by omega), fun q hq => by rw [hb_wc (by omega) hq, hc q hq, Bool.eq_iff_iff]; simp; omega⟩ (show n + 1 - (j + 1) < n + 1 - j by omega) ⟨rfl, rfl, rfl, rfl, trivial⟩ (HSub.refl _)
  · -- if t10: else
    have h10 := of_decide_eq_false h10
    refine CT.exit ?_
    refine PX.then_x ?_
    refine PX.then_x ?_
    refine PX.block_x ?_
    refine PX.then_n ?_
    refine CT.seq ?_
    -- region 6: table.go:36
    refine CT.region ?_
    refine Wl.q rfl rfl (OpQ.loadV (b := b5) AC_ag105 AC_sz105 rfl (by repeat (first | exact Has.here | apply Has.there)) (by rfl)) ?_
    refine Wl.g rfl rfl (OpG.storeV (b := b4) AC_sz105 rfl rfl rfl rfl (by repeat (first | exact Upd.here | apply Upd.there))) ?_
    rintro _ _
    refine Wl.nil ?_
    refine PX.then_n ?_
    refine CT.ret ?_
    refine PX.retC rfl rfl (by repeat (first | exact Has.here | apply Has.there)) AC_ag105 AC_sz105 (by rfl) (fun w' hH => ?_)
    exact ⟨c, fun q hq => by rw [hc q hq, Bool.eq_iff_iff]; simp; omega, rfl, hH.ext⟩

theorem AC_fa40_0 : fieldB Try.prog 40 0 = some 0 := by kernel_rfl
theorem AC_sc38 : scalarB Try.prog 38 = some true := by kernel_rfl
theorem AC_un38 : Try.prog.underlying 38 = some (.slice 72) := by kernel_rfl
theorem AC_un95 : Try.prog.underlying 95 = some (.slice 4) := by kernel_rfl
theorem AC_in4 : (Try.prog.info? 4).map (fun i => (i.zero, i.size, i.bytes)) = some (some (.bool false), 1, 1) := by kernel_rfl
theorem AC_fa40_1 : fieldB Try.prog 40 1 = some 1 := by kernel_rfl
theorem AC_sc3 : scalarB Try.prog 3 = some true := by kernel_rfl
theorem AC_sz4 : sizeB Try.prog 4 = some 1 := by kernel_rfl
theorem AC_sc4 : scalarB Try.prog 4 = some true := by kernel_rfl
theorem AC_sz72 : sizeB Try.prog 72 = some 4 := by kernel_rfl
theorem AC_ag72 : isAggB Try.prog 72 = some true := by kernel_rfl
theorem AC_in72 : (Try.prog.info? 72).map (fun i => (i.zero, i.size, i.bytes)) = some (some (.agg #[.int .i64 0, .int .i64 0, .int .i64 0, .int .i64 0]), 4, 32) := by kernel_rfl
theorem AC_fa72_0 : fieldB Try.prog 72 0 = some 0 := by kernel_rfl
theorem AC_go49 : isGo Try.prog 49 = true := by kernel_rfl
theorem AC_fa72_2 : fieldB Try.prog 72 2 = some 2 := by kernel_rfl
theorem AC_fa72_3 : fieldB Try.prog 72 3 = some 3 := by kernel_rfl
set_option maxRecDepth 100000 in
/-- semigroup/starfree.reached -/
theorem reached_spec (w : World) (a : Option Addr) (cp : Nat) (xs : List Nd) (hr : Rd w a (xs.flatMap nv)) (hn : xs.length ≤ 20000) (rt : Nat) (hrt : rt < xs.length) (hG : okG xs 6 = true) : Calls Try.prog 46 #[.agg #[.slice a xs.length cp, .int .i64 ((rt : Nat) : Int)]] w (fun e w' => ∃ i : List Bool × Option Addr × Nat, (NG xs rt 0 i.1 ∧ i.2.1.isSome = true) ∧ e = .returned (.slice i.2.1 xs.length i.2.2) ∧ Post [] [.row 4 1 (.slice i.2.1 xs.length i.2.2) xs.length (i.1.map bo)] w w') := by
  have sm : 0 < xs.length → a.isSome = true := fun h => hr.isSome (j := 0) (by rw [flat_len nv_len]; omega)
  refine enter (args := [.agg #[.slice a xs.length cp, .int .i64 ((rt : Nat) : Int)]]) [] 47 Try.func46 rfl rfl rfl ?_
  refine CT.seq ?_
  -- region 0: starfree.go:66
  refine CT.region ?_
  refine Wl.g rfl rfl (OpG.box (size := 2) rfl rfl rfl) ?_
  rintro b1 _
  refine Wl.q rfl rfl (OpQ.assign rfl) ?_
  refine Wl.nil ?_
  refine PX.then_n ?_
  refine CT.seq ?_
  -- region 1: starfree.go:67
  refine CT.region ?_
  refine Wl.q rfl rfl (OpQ.fieldAddr AC_fa40_0 rfl) ?_
  refine Wl.q rfl rfl (OpQ.loadF (b := b1) AC_sc38 rfl (by repeat (first | exact Has.here | apply Has.there)) (by rfl)) ?_
  refine Wl.q rfl rfl (OpQ.len AC_un38 rfl) ?_
  refine Wl.g rfl rfl (OpG.make1 AC_un95 AC_in4 rfl rfl rfl rfl (by omega) (by omega)) ?_
  rintro b9 _
  refine Wl.q rfl rfl (OpQ.assign rfl) ?_
  refine Wl.nil ?_
  refine PX.then_n ?_
  refine CT.seq ?_
  -- region 2: starfree.go:68
  refine CT.region ?_
  refine Wl.q rfl rfl (OpQ.move rfl) ?_
  refine Wl.q rfl rfl (OpQ.fieldAddr AC_fa40_1 rfl) ?_
  refine Wl.q rfl rfl (OpQ.loadF (b := b1) AC_sc3 rfl (by repeat (first | exact Has.here | apply Has.there)) (by rfl)) ?_
  refine Wl.q rfl rfl (OpQ.index1 AC_un95 AC_sz4 rfl rfl (by omega) rfl) ?_
  refine Wl.g rfl rfl (OpG.storeRow AC_sz4 rfl rfl rfl .here (by simp; omega)) ?_
  rintro _ _
  refine Wl.nil ?_
  refine PX.then_n ?_
  refine CT.seq ?_
  refine CT.seq ?_
  -- region 3: starfree.go:69
  refine CT.region ?_
  refine Wl.q rfl rfl (OpQ.fieldAddr AC_fa40_1 rfl) ?_
  refine Wl.q rfl rfl (OpQ.loadF (b := b1) AC_sc3 rfl (by repeat (first | exact Has.here | apply Has.there)) (by rfl)) ?_
  refine Wl.q rfl rfl (OpQ.assign rfl) ?_
  refine Wl.nil ?_
  refine PX.then_n ?_
  refine CT.block ?_
  -- the loop at region 4
  refine CT.loop (ι := Nat × List Bool) (fun (n, nd) => n ≤ rt + 1 ∧ NG xs rt n nd) (fun (n, nd) => [(1, .pointer (some ⟨b1, 0, none⟩)), (3, .slice (some ⟨b9, 0, none⟩) xs.length xs.length), (4, .int .i64 ((n : Int) - 1))]) (fun (n, nd) => [.row 4 1 (.slice (some ⟨b9, 0, none⟩) xs.length xs.length) xs.length ((nd).map bo), .row 40 2 (vb b1) 1 [.slice a xs.length cp, .int .i64 ((rt : Nat) : Int)]]) (fun (n, nd) => n) (rt + 1, (List.replicate xs.length false).set rt true) ⟨by omega, NG_start hrt⟩ ⟨rfl, rfl, (lkV rfl (congrArg (Value.int .i64) (by omega))), trivial⟩ (.keep (row_eq (by rw [List.map_set]; simp)) (.keep rfl .nil)) (fun ⟨n, nd⟩ ⟨hn1, hnd⟩ K0 hK0 => ?_)
  dsimp only
  refine CT.seq ?_
  refine CT.seq ?_
  -- region 4: starfree.go:69
  refine CT.region ?_
  refine Wl.q rfl rfl (OpQ.move rfl) ?_
  refine Wl.q rfl rfl (OpQ.geq rfl rfl) ?_
  refine Wl.nil ?_
  refine PX.then_n ?_
  refine CT.cond rfl (fun h17 => ?_) (fun h17 => ?_)
  · -- if t17: then
    have h17 := of_decide_eq_true h17
    obtain ⟨i, rfl⟩ : ∃ i, n = i + 1 := ⟨n - 1, by omega⟩
    refine CT.know 4 (v' := .int .i64 (i : Int)) rfl (congrArg (Value.int .i64) (by omega)) ?_
    obtain ⟨ho, _, pa, pb⟩ := okN_parts (okG_get hG (j := i) (by omega))
    have hndl := hnd.len
    refine CT.skip ?_
    refine PX.then_n ?_
    refine CT.seq ?_
    refine CT.block ?_
    refine CT.seq ?_
    refine CT.seq ?_
    -- region 6: starfree.go:70
    refine CT.region ?_
    refine Wl.q rfl rfl (OpQ.move rfl) ?_
    refine Wl.q rfl rfl (OpQ.move rfl) ?_
    refine Wl.q rfl rfl (OpQ.index1 AC_un95 AC_sz4 rfl rfl (by omega) rfl) ?_
    refine Wl.q rfl rfl (OpQ.loadRow AC_sc4 rfl .here (getMap bo nd false (j := i) (by omega))) ?_
    refine Wl.q rfl rfl (OpQ.not rfl) ?_
    refine Wl.nil ?_
    refine PX.then_n ?_
    refine CT.cond rfl (fun h24 => ?_) (fun h24 => ?_)
    · -- if t24: then
      have h24 : nd.getD i false = false := by simpa [-List.getD_eq_getElem?_getD] using h24
      refine CT.exit ?_
      refine PX.then_x ?_
      refine PX.block_x ?_
      refine PX.then_n ?_
      -- region 5: starfree.go:69
      refine CT.region ?_
      refine Wl.q rfl rfl (OpQ.move rfl) ?_
      refine Wl.q rfl rfl (OpQ.sub rfl rfl (by omega)) ?_
      refine Wl.q rfl rfl (OpQ.assign rfl) ?_
      refine Wl.nil ?_
      exact PX.loop hK0 (i, nd) ⟨by omega, NG_end hnd (fun h => absurd h (by rw [h24]; decide))⟩ (show i < i + 1 by omega) ⟨rfl, rfl, rfl, trivial⟩ (HSub.refl _)
    · -- if t24: else
      have h24 : nd.getD i false = true := by simpa [-List.getD_eq_getElem?_getD] using h24
      refine CT.skip ?_
      refine PX.then_n ?_
      refine CT.seq ?_
      -- region 7: starfree.go:73
      refine CT.region ?_
      refine Wl.q rfl rfl (OpQ.fieldAddr AC_fa40_0 rfl) ?_
      refine Wl.q rfl rfl (OpQ.loadF (b := b1) AC_sc38 rfl (by repeat (first | exact Has.here | apply Has.there)) (by rfl)) ?_
      refine Wl.q rfl rfl (OpQ.move rfl) ?_
      refine Wl.q rfl rfl (OpQ.index AC_un38 AC_sz72 rfl rfl (by omega) (sm (by omega))) ?_
      refine Wl.q rfl rfl (OpQ.loadAggG (cs := nv (xs.getD i n0)) AC_ag72 AC_sz72 rfl (fun w hH => hH.rd0 hr rfl) (flat_cells nv_len xs n0 (by omega))) ?_
      refine Wl.g rfl rfl (OpG.alloc (zs := [.int .i64 0, .int .i64 0, .int .i64 0, .int .i64 0]) AC_in72 rfl rfl) ?_
      rintro b5 _
      refine Wl.g rfl rfl (OpG.storeV (b := b5) AC_sz72 rfl rfl rfl rfl (by repeat (first | exact Upd.here | apply Upd.there))) ?_
      rintro _ _
      refine Wl.nil ?_
      refine PX.then_n ?_
      refine CT.cut (ι := List Bool) (Φ := fun nd2 => NG xs rt (i + 1) nd2 ∧ (hA (xs.getD i n0).op = true → nd2.getD (xs.getD i n0).a.toNat false = true)) (E' := fun _ => [(1, .pointer (some ⟨b1, 0, none⟩)), (3, .slice (some ⟨b9, 0, none⟩) xs.length xs.length), (4, .int .i64 (i : Int)), (5, .pointer (some ⟨b5, 0, none⟩))]) (H' := fun nd2 => [.row 72 4 (vb b5) 1 (nv (xs.getD i n0)), .row 4 1 (.slice (some ⟨b9, 0, none⟩) xs.length xs.length) xs.length ((nd2).map bo), .row 40 2 (vb b1) 1 [.slice a xs.length cp, .int .i64 ((rt : Nat) : Int)]]) (fun K1 hK1 => ?_) (fun nd2 ⟨hnd2, hua⟩ => ?_)
      · -- up to the join
        refine CT.seq ?_
        -- region 8: starfree.go:74
        refine CT.region ?_
        refine Wl.q rfl rfl (OpQ.fieldAddr AC_fa72_0 rfl) ?_
        refine Wl.q rfl rfl (OpQ.loadF (b := b5) AC_sc3 rfl (by repeat (first | exact Has.here | apply Has.there)) (by rfl)) ?_
        refine Wl.g rfl rfl (OpG.callV AC_go49 rfl (fun w hH => parts_spec w (xs.getD i n0).op)) ?_
        rintro _ _
        refine Wl.q rfl rfl (OpQ.geq rfl rfl) ?_
        refine Wl.nil ?_
        refine PX.then_n ?_
        refine CT.cond rfl (fun h33 => ?_) (fun h33 => ?_)
        · -- if t33: then
          have h33 := of_decide_eq_true h33
          have hha : hA (xs.getD i n0).op = true := by rw [← pt_a, decide_eq_true_eq]; exact h33
          have pa := pa (by rw [hA, decide_eq_true_eq] at hha; omega)
          -- region 9: starfree.go:75
          refine CT.region ?_
          refine Wl.q rfl rfl (OpQ.move rfl) ?_
          refine Wl.q rfl rfl (OpQ.fieldAddr AC_fa72_2 rfl) ?_
          refine Wl.q rfl rfl (OpQ.loadF (b := b5) AC_sc3 rfl (by repeat (first | exact Has.here | apply Has.there)) (by rfl)) ?_
          refine Wl.q rfl rfl (OpQ.index1 AC_un95 AC_sz4 rfl rfl (by omega) rfl) ?_
          refine Wl.g rfl rfl (OpG.storeRow AC_sz4 rfl rfl rfl (.there .here) (by rw [List.length_map, hndl]; show (xs.getD i n0).a.toNat < _; omega)) ?_
          rintro _ _
          refine Wl.nil ?_
          exact PX.cut hK1 (nd.set (xs.getD i n0).a.toNat true) ⟨NG_set hnd (by omega) (by omega), fun _ => by rw [gset_b, if_pos ⟨rfl, by omega⟩]⟩ ⟨rfl, rfl, rfl, rfl, trivial⟩ (.keep rfl (.keep (row_eq (by rw [List.map_set])) (.keep rfl .nil)))
        · -- if t33: else
          have h33 := of_decide_eq_false h33
          refine CT.skip ?_
          exact PX.cut hK1 nd ⟨hnd, fun ha => by rw [← pt_a, decide_eq_true_eq] at ha; exact absurd ha h33⟩ ⟨rfl, rfl, rfl, rfl, trivial⟩ (HSub.refl _)
      · -- from the join on
        have hndl2 := hnd2.len
        refine CT.seq ?_
        -- region 10: starfree.go:77
        refine CT.region ?_
        refine Wl.q rfl rfl (OpQ.fieldAddr AC_fa72_0 rfl) ?_
        refine Wl.q rfl rfl (OpQ.loadF (b := b5) AC_sc3 rfl (by repeat (first | exact Has.here | apply Has.there)) (by rfl)) ?_
        refine Wl.g rfl rfl (OpG.callV AC_go49 rfl (fun w hH => parts_spec w (xs.getD i n0).op)) ?_
        rintro _ _
        refine Wl.q rfl rfl (OpQ.eql rfl rfl) ?_
        refine Wl.nil ?_
        refine PX.then_n ?_
        refine CT.cond rfl (fun h41 => ?_) (fun h41 => ?_)
        · -- if t41: then
          have h41 := of_decide_eq_true h41
          have hhb : hB (xs.getD i n0).op = true := by rw [← pt_b, decide_eq_true_eq]; exact h41
          have pb := pb (by rw [hB, decide_eq_true_eq] at hhb; omega)
          -- region 11: starfree.go:78
          refine CT.region ?_
          refine Wl.q rfl rfl (OpQ.move rfl) ?_
          refine Wl.q rfl rfl (OpQ.fieldAddr AC_fa72_3 rfl) ?_
          refine Wl.q rfl rfl (OpQ.loadF (b := b5) AC_sc3 rfl (by repeat (first | exact Has.here | apply Has.there)) (by rfl)) ?_
          refine Wl.q rfl rfl (OpQ.index1 AC_un95 AC_sz4 rfl rfl (by omega) rfl) ?_
          refine Wl.g rfl rfl (OpG.storeRow AC_sz4 rfl rfl rfl (.there .here) (by rw [List.length_map, hndl2]; show (xs.getD i n0).b.toNat < _; omega)) ?_
          rintro _ _
          refine Wl.nil ?_
          refine PX.block_n ?_
          refine PX.then_n ?_
          -- region 5: starfree.go:69
          refine CT.region ?_
          refine Wl.q rfl rfl (OpQ.move rfl) ?_
          refine Wl.q rfl rfl (OpQ.sub rfl rfl (by omega)) ?_
          refine Wl.q rfl rfl (OpQ.assign rfl) ?_
          refine Wl.nil ?_
          exact PX.loop hK0 (i, nd2.set (xs.getD i n0).b.toNat true) ⟨by omega, NG_end (NG_set hnd2 (by omega) (by omega)) (fun h => ⟨fun ha => by rw [gset_b]; split <;> first | rfl | exact hua ha, fun _ => by rw [gset_b, if_pos ⟨rfl, by rw [hnd2.len]; omega⟩]⟩)⟩ (show i < i + 1 by omega) ⟨rfl, rfl, rfl, trivial⟩ (.drop (.keep (row_eq (by rw [List.map_set])) (.keep rfl .nil)))
        · -- if t41: else
          have h41 := of_decide_eq_false h41
          refine CT.skip ?_
          refine PX.block_n ?_
          refine PX.then_n ?_
          -- region 5: starfree.go:69
          refine CT.region ?_
          refine Wl.q rfl rfl (OpQ.move rfl) ?_
          refine Wl.q rfl rfl (OpQ.sub rfl rfl (by omega)) ?_
          refine Wl.q rfl rfl (OpQ.assign rfl) ?_
          refine Wl.nil ?_
          exact PX.loop hK0 (i, nd2) ⟨by omega, NG_end hnd2 (fun h => ⟨hua, fun hb => by rw [← pt_b, decide_eq_true_eq] at hb; exact absurd hb h41⟩)⟩ (show i < i + 1 by omega) ⟨rfl, rfl, rfl, trivial⟩ (.drop (HSub.refl _))
  · -- if t17: else
    have h17 := of_decide_eq_false h17
    obtain rfl : n = 0 := by omega
    refine CT.exit ?_
    refine PX.then_x ?_
    refine PX.then_x ?_
    refine PX.block_x ?_
    refine PX.then_n ?_
    refine CT.seq ?_
    -- region 12: starfree.go:81
    refine CT.region ?_
    refine Wl.q rfl rfl (OpQ.move rfl) ?_
    refine Wl.q rfl rfl (OpQ.assign rfl) ?_
    refine Wl.nil ?_
    refine PX.then_n ?_
    refine CT.ret ?_
    refine PX.ret1 rfl rfl (fun w' hH => ?_)
    exact ⟨(nd, some ⟨b9, 0, none⟩, _), ⟨hnd, rfl⟩, rfl, hH.post.sub (.keep rfl (.drop .nil))⟩

end Go.Proofs.Ytdcjemjfliaaiaa
