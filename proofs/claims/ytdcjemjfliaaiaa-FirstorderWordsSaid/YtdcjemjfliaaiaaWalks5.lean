/-
  What functions of the packages firstorder, semigroupref38 and semigroupmade compute, each by its walk. Conditions: those that each theorem names.
-/
import Derived.Test.YtdcjemjfliaaiaaMod
import Derived.Test.YtdcjemjfliaaiaaWalks4
set_option linter.unusedSimpArgs false
namespace Go.Proofs.Ytdcjemjfliaaiaa
open Go Go.Eng Go.Fo
open Go.Tp (zi)
open Go.Tl (vf mayL Wd okW okB ret_b ret_i bo)

theorem H_un26 : Try.prog.underlying 26 = some (.slice 29) := by kernel_rfl
theorem H_sz29 : sizeB Try.prog 29 = some 6 := by kernel_rfl
theorem H_un22 : Try.prog.underlying 22 = some (.slice 3) := by kernel_rfl
theorem H_in3 : (Try.prog.info? 3).map (fun i => (i.zero, i.size, i.bytes)) = some (some (.int .i64 0), 1, 8) := by kernel_rfl
theorem H_sz3 : sizeB Try.prog 3 = some 1 := by kernel_rfl
theorem H_sc3 : scalarB Try.prog 3 = some true := by kernel_rfl
theorem H_fa29_0 : fieldB Try.prog 29 0 = some 0 := by kernel_rfl
theorem H_go33 : isGo Try.prog 33 = true := by kernel_rfl
theorem H_in67 : (Try.prog.info? 67).map (fun i => (i.zero, i.size, i.bytes)) = some (some (.agg #[.bool false, .bool false, .bool false, .bool false, .bool false, .bool false]), 6, 6) := by kernel_rfl
theorem H_sz67 : sizeB Try.prog 67 = some 6 := by kernel_rfl
theorem H_fa67_3 : fieldB Try.prog 67 3 = some 3 := by kernel_rfl
theorem H_sc4 : scalarB Try.prog 4 = some true := by kernel_rfl
theorem H_mixed : Try.prog.follows .mixedOrders = true := by kernel_rfl
theorem H_fa29_4 : fieldB Try.prog 29 4 = some 4 := by kernel_rfl
theorem H_fa67_4 : fieldB Try.prog 67 4 = some 4 := by kernel_rfl
theorem H_fa29_5 : fieldB Try.prog 29 5 = some 5 := by kernel_rfl
set_option maxRecDepth 100000 in
/-- semigroup/firstorder.lastUsers -/
theorem lastUsers_spec (w : World) (a : Option Addr) (cp : Nat) (xs : List Fm) (hr : Rd w a (xs.flatMap fv)) (hn : xs.length ≤ 200000) (root : Nat) (hroot : root < xs.length) (hok : okL xs 6 = true) : Calls Try.prog 31 #[.slice a xs.length cp, .int .i64 (root : Int)] w (fun e w' => ∃ i : List Int × Option Addr × Nat, (LU xs root 0 i.1 ∧ i.2.1.isSome = true) ∧ e = .returned (.slice i.2.1 (root + 1) i.2.2) ∧ Post [] [.row 3 1 (.slice i.2.1 (root + 1) i.2.2) (root + 1) (i.1.map zi)] w w') := by
  have sm : 0 < xs.length → a.isSome = true := fun h => hr.isSome (j := 0) (by rw [flat_len fv_len]; omega)
  refine enter (args := [.slice a xs.length cp, .int .i64 (root : Int)]) [] 80 Try.func31 rfl rfl rfl ?_
  refine CT.seq ?_
  -- region 0: firstorder.go:92
  refine CT.region ?_
  refine Wl.q rfl rfl (OpQ.assign rfl) ?_
  refine Wl.nil ?_
  refine PX.then_n ?_
  refine CT.seq ?_
  -- region 1: firstorder.go:93
  refine CT.region ?_
  refine Wl.q rfl rfl (OpQ.move rfl) ?_
  refine Wl.q rfl rfl (OpQ.add rfl rfl (by omega)) ?_
  refine Wl.g rfl rfl (OpG.make1 H_un22 H_in3 rfl rfl rfl (show (root : Int) + 1 = ((root + 1 : Nat) : Int) by omega) (by omega) (by omega)) ?_
  rintro b11 _
  refine Wl.q rfl rfl (OpQ.assign rfl) ?_
  refine Wl.nil ?_
  refine PX.then_n ?_
  refine CT.seq ?_
  refine CT.seq ?_
  -- region 2: firstorder.go:94
  refine CT.region ?_
  refine Wl.q rfl rfl (OpQ.move rfl) ?_
  refine Wl.q rfl rfl (OpQ.len H_un22 rfl) ?_
  refine Wl.q rfl rfl (OpQ.move rfl) ?_
  refine Wl.nil ?_
  refine PX.then_n ?_
  refine CT.block ?_
  -- the loop at region 3
  refine CT.loop (ι := Nat × List Int) (fun (k, us) => k ≤ root + 1 ∧ us.length = root + 1) (fun (k, us) => [(0, .slice a xs.length cp), (1, .int .i64 (root : Int)), (5, .slice (some ⟨b11, 0, none⟩) (root + 1) (root + 1)), (13, .int .i64 ((root + 1 : Nat) : Int)), (14, .int .i64 (k : Int))]) (fun (k, us) => [.row 3 1 (.slice (some ⟨b11, 0, none⟩) (root + 1) (root + 1)) (root + 1) ((us).map zi)]) (fun (k, us) => root + 1 - k) (0, List.replicate (root + 1) 0) ⟨by omega, by simp⟩ ⟨rfl, rfl, rfl, rfl, rfl, trivial⟩ (.keep (row_eq (by simp)) .nil) (fun ⟨k, us⟩ ⟨hk, hus⟩ K0 hK0 => ?_)
  dsimp only
  refine CT.seq ?_
  -- region 3: firstorder.go:94
  refine CT.region ?_
  refine Wl.q rfl rfl (OpQ.lss rfl rfl) ?_
  refine Wl.nil ?_
  refine PX.then_n ?_
  refine CT.seq ?_
  refine CT.cond rfl (fun h15 => ?_) (fun h15 => ?_)
  · -- if t15: then
    have h15 := of_decide_eq_true h15
    refine CT.skip ?_
    refine PX.then_n ?_
    refine CT.seq ?_
    refine CT.block ?_
    refine CT.seq ?_
    -- region 4: firstorder.go:94
    refine CT.region ?_
    refine Wl.q rfl rfl (OpQ.move rfl) ?_
    refine Wl.q rfl rfl (OpQ.assign rfl) ?_
    refine Wl.nil ?_
    refine PX.then_n ?_
    -- region 5: firstorder.go:95
    refine CT.region ?_
    refine Wl.q rfl rfl (OpQ.move rfl) ?_
    refine Wl.q rfl rfl (OpQ.move rfl) ?_
    refine Wl.q rfl rfl (OpQ.index1 H_un22 H_sz3 rfl rfl (by omega) rfl) ?_
    refine Wl.g rfl rfl (OpG.storeRow H_sz3 rfl rfl rfl .here (by rw [List.length_map, hus]; show k < root + 1; omega)) ?_
    rintro _ _
    refine Wl.nil ?_
    refine PX.block_n ?_
    refine PX.then_n ?_
    -- region 6: firstorder.go:94
    refine CT.region ?_
    refine Wl.q rfl rfl (OpQ.add rfl rfl (by omega)) ?_
    refine Wl.q rfl rfl (OpQ.move rfl) ?_
    refine Wl.nil ?_
    exact PX.loop hK0 (k + 1, us.set k (-1)) ⟨by omega, by rw [List.length_set]; exact hus⟩ (show root + 1 - (k + 1) < root + 1 - k by omega) ⟨rfl, rfl, rfl, rfl, rfl, trivial⟩ (.keep (row_eq (by rw [zset]; rfl)) .nil)
  · -- if t15: else
    have h15 := of_decide_eq_false h15
    refine CT.exit ?_
    refine PX.then_x ?_
    refine PX.then_x ?_
    refine PX.block_x ?_
    refine PX.then_n ?_
    refine CT.seq ?_
    -- region 7: firstorder.go:97
    refine CT.region ?_
    refine Wl.q rfl rfl (OpQ.move rfl) ?_
    refine Wl.q rfl rfl (OpQ.move rfl) ?_
    refine Wl.q rfl rfl (OpQ.move rfl) ?_
    refine Wl.q rfl rfl (OpQ.index1 H_un22 H_sz3 rfl rfl (by omega) rfl) ?_
    refine Wl.g rfl rfl (OpG.storeRow H_sz3 rfl rfl rfl .here (by rw [List.length_map, hus]; show root < root + 1; omega)) ?_
    rintro _ _
    refine Wl.nil ?_
    refine PX.then_n ?_
    refine CT.seq ?_
    refine CT.seq ?_
    -- region 8: firstorder.go:98
    refine CT.region ?_
    refine Wl.q rfl rfl (OpQ.move rfl) ?_
    refine Wl.q rfl rfl (OpQ.assign rfl) ?_
    refine Wl.nil ?_
    refine PX.then_n ?_
    refine CT.block ?_
    -- the loop at region 9
    refine CT.loop (ι := Nat × List Int) (fun (m, us) => m ≤ root + 1 ∧ LU xs root m us) (fun (m, us) => [(0, .slice a xs.length cp), (1, .int .i64 (root : Int)), (5, .slice (some ⟨b11, 0, none⟩) (root + 1) (root + 1)), (7, .int .i64 ((m : Int) - 1))]) (fun (m, us) => [.row 3 1 (.slice (some ⟨b11, 0, none⟩) (root + 1) (root + 1)) (root + 1) ((us).map zi)]) (fun (m, us) => m) (root + 1, us.set root root) ⟨by omega, LU_start hus⟩ ⟨rfl, rfl, rfl, (lkV rfl (congrArg (Value.int .i64) (by omega))), trivial⟩ (.keep (row_eq (by rw [zset]; rfl)) .nil) (fun ⟨m, us⟩ ⟨hm, hlu⟩ K1 hK1 => ?_)
    dsimp only
    refine CT.seq ?_
    refine CT.seq ?_
    -- region 9: firstorder.go:98
    refine CT.region ?_
    refine Wl.q rfl rfl (OpQ.move rfl) ?_
    refine Wl.q rfl rfl (OpQ.geq rfl rfl) ?_
    refine Wl.nil ?_
    refine PX.then_n ?_
    refine CT.cond rfl (fun h27 => ?_) (fun h27 => ?_)
    · -- if t27: then
      have h27 := of_decide_eq_true h27
      obtain ⟨i, rfl⟩ : ∃ i, m = i + 1 := ⟨m - 1, by omega⟩
      refine CT.know 7 (v' := .int .i64 (i : Int)) rfl (congrArg (Value.int .i64) (by omega)) ?_
      have hokk := okL_get hok (j := i) (by omega)
      obtain ⟨_, _, _, _, pa, pb⟩ := ok_parts hokk
      have hul := hlu.len
      refine CT.skip ?_
      refine PX.then_n ?_
      refine CT.seq ?_
      refine CT.block ?_
      refine CT.seq ?_
      refine CT.seq ?_
      -- region 11: firstorder.go:99
      refine CT.region ?_
      refine Wl.q rfl rfl (OpQ.move rfl) ?_
      refine Wl.q rfl rfl (OpQ.move rfl) ?_
      refine Wl.q rfl rfl (OpQ.index1 H_un22 H_sz3 rfl rfl (by omega) rfl) ?_
      refine Wl.q rfl rfl (OpQ.loadRow H_sc3 rfl .here (getMap zi us 0 (j := i) (by omega))) ?_
      refine Wl.q rfl rfl (OpQ.lss rfl rfl) ?_
      refine Wl.nil ?_
      refine PX.then_n ?_
      refine CT.cond rfl (fun h34 => ?_) (fun h34 => ?_)
      · -- if t34: then
        have h34 := of_decide_eq_true h34
        refine CT.exit ?_
        refine PX.then_x ?_
        refine PX.block_x ?_
        refine PX.then_n ?_
        -- region 10: firstorder.go:98
        refine CT.region ?_
        refine Wl.q rfl rfl (OpQ.move rfl) ?_
        refine Wl.q rfl rfl (OpQ.sub rfl rfl (by omega)) ?_
        refine Wl.q rfl rfl (OpQ.assign rfl) ?_
        refine Wl.nil ?_
        exact PX.loop hK1 (i, us) ⟨by omega, LU_skip hlu h34⟩ (show i < i + 1 by omega) ⟨rfl, rfl, rfl, rfl, trivial⟩ (HSub.refl _)
      · -- if t34: else
        have h34 := of_decide_eq_false h34
        refine CT.skip ?_
        refine PX.then_n ?_
        refine CT.seq ?_
        -- region 12: firstorder.go:102
        refine CT.region ?_
        refine Wl.q rfl rfl (OpQ.move rfl) ?_
        refine Wl.q rfl rfl (OpQ.move rfl) ?_
        refine Wl.q rfl rfl (OpQ.index H_un26 H_sz29 rfl rfl (by omega) (sm (by omega))) ?_
        refine Wl.q rfl rfl (OpQ.fieldAddr H_fa29_0 rfl) ?_
        refine Wl.q rfl rfl (OpQ.loadGF H_sc3 rfl (fun w hH => hH.rd0 hr rfl) (flat_cells fv_len xs f0 (j := i) (by omega) 0 _ rfl)) ?_
        refine Wl.g rfl rfl (OpG.callV H_go33 rfl (fun w hH => fieldsOf_spec w _)) ?_
        rintro _ _
        refine Wl.g rfl rfl (OpG.alloc (zs := [.bool false, .bool false, .bool false, .bool false, .bool false, .bool false]) H_in67 rfl rfl) ?_
        rintro b8 _
        refine Wl.g rfl rfl (OpG.storeV (b := b8) H_sz67 rfl rfl rfl rfl (by repeat (first | exact Upd.here | apply Upd.there))) ?_
        rintro _ _
        refine Wl.nil ?_
        refine PX.then_n ?_
        refine CT.cut (ι := List Int) (Φ := fun us2 => LU xs root (i + 1) us2 ∧ (ga (xs.getD i f0).op = true → (i : Int) ≤ us2.getD (xs.getD i f0).a.toNat 0)) (E' := fun _ => [(0, .slice a xs.length cp), (1, .int .i64 (root : Int)), (5, .slice (some ⟨b11, 0, none⟩) (root + 1) (root + 1)), (7, .int .i64 (i : Int)), (8, .pointer (some ⟨b8, 0, none⟩))]) (H' := fun us2 => [.row 67 6 (vb b8) 1 [.bool (gx (xs.getD i f0).op), .bool (gy (xs.getD i f0).op), .bool (gl (xs.getD i f0).op), .bool (ga (xs.getD i f0).op), .bool (gb (xs.getD i f0).op), .bool (gk (xs.getD i f0).op)], .row 3 1 (.slice (some ⟨b11, 0, none⟩) (root + 1) (root + 1)) (root + 1) ((us2).map zi)]) (fun K2 hK2 => ?_) (fun us2 ⟨hlu2, hua⟩ => ?_)
        · -- up to the join
          refine CT.seq ?_
          -- region 13: firstorder.go:103
          refine CT.region ?_
          refine Wl.q rfl rfl (OpQ.fieldAddr H_fa67_3 rfl) ?_
          refine Wl.q rfl rfl (OpQ.loadF (b := b8) H_sc4 rfl (by repeat (first | exact Has.here | apply Has.there)) (by rfl)) ?_
          refine Wl.nil ?_
          refine PX.then_n ?_
          refine CT.cond rfl (fun h42 => ?_) (fun h42 => ?_)
          · -- if t42: then
            have ha := pa h42
            -- region 14, drawn: firstorder.go:104
            refine CT.draw 17 H_mixed ?_
            refine RA.q 0 (by kernel_rfl) rfl rfl rfl (.refl _) (OpQ.move rfl) ?_
            refine RA.q 1 (by kernel_rfl) rfl rfl rfl (.refl _) (OpQ.move rfl) ?_
            refine RA.q 2 (by kernel_rfl) rfl rfl rfl (.refl _) (OpQ.move rfl) ?_
            refine RA.q 3 (by kernel_rfl) rfl rfl rfl (.refl _) (OpQ.index H_un26 H_sz29 rfl rfl (by omega) (sm (by omega))) ?_
            refine RA.q 4 (by kernel_rfl) rfl rfl rfl (.refl _) (OpQ.fieldAddr H_fa29_4 rfl) ?_
            refine RA.q 5 (by kernel_rfl) rfl rfl rfl (.refl _) (OpQ.loadGF H_sc3 rfl (fun w hH => hH.rd0 hr rfl) (flat_cells fv_len xs f0 (j := i) (by omega) 4 _ rfl)) ?_
            refine RA.q 6 (by kernel_rfl) rfl rfl rfl (.refl _) (OpQ.move rfl) ?_
            refine RA.q 7 (by kernel_rfl) rfl rfl rfl (.refl _) (OpQ.move rfl) ?_
            refine RA.q 8 (by kernel_rfl) rfl rfl rfl (.refl _) (OpQ.move rfl) ?_
            refine RA.q 9 (by kernel_rfl) rfl rfl rfl (.refl _) (OpQ.index H_un26 H_sz29 rfl rfl (by omega) (sm (by omega))) ?_
            refine RA.q 10 (by kernel_rfl) rfl rfl rfl (.refl _) (OpQ.fieldAddr H_fa29_4 rfl) ?_
            refine RA.q 11 (by kernel_rfl) rfl rfl rfl (.refl _) (OpQ.loadGF H_sc3 rfl (fun w hH => hH.rd0 hr rfl) (flat_cells fv_len xs f0 (j := i) (by omega) 4 _ rfl)) ?_
            refine RA.q 12 (by kernel_rfl) rfl rfl rfl (.refl _) (OpQ.index1 H_un22 H_sz3 rfl rfl ⟨ha.1, by omega⟩ rfl) ?_
            refine RA.q 13 (by kernel_rfl) rfl rfl rfl (.refl _) (OpQ.loadRow H_sc3 rfl (.there .here) (getMap zi us 0 (j := (xs.getD i f0).a.toNat) (by omega))) ?_
            refine RA.q 14 (by kernel_rfl) rfl rfl rfl (.refl _) (OpQ.move rfl) ?_
            refine RA.q 15 (by kernel_rfl) rfl rfl rfl (.refl _) (OpQ.max rfl rfl) ?_
            refine RA.q 16 (by kernel_rfl) rfl rfl rfl (.refl _) (OpQ.index1 H_un22 H_sz3 rfl rfl ⟨ha.1, by omega⟩ rfl) ?_
            refine RA.tail ?_
            refine RT.f 17 (by kernel_rfl) rfl rfl rfl (OpG.storeRow H_sz3 rfl rfl rfl (.there .here) (by rw [List.length_map, hul]; show (xs.getD i f0).a.toNat < _; omega)) ?_
            rintro _ _
            refine RT.done (by kernel_rfl) ?_
            exact PX.cut hK2 (us.set (xs.getD i f0).a.toNat (mx (us.getD (xs.getD i f0).a.toNat 0) (i : Int))) ⟨LU_set hlu (by omega) (by omega) rfl, fun _ => set_ge (by rw [hul]; omega) rfl⟩ ⟨rfl, rfl, rfl, rfl, rfl, trivial⟩ (.keep rfl (.keep (row_eq (by rw [zset])) .nil))
          · -- if t42: else
            refine CT.skip ?_
            exact PX.cut hK2 us ⟨hlu, fun h => by rw [h42] at h; cases h⟩ ⟨rfl, rfl, rfl, rfl, rfl, trivial⟩ (HSub.refl _)
        · -- from the join on
          refine CT.seq ?_
          -- region 15: firstorder.go:106
          refine CT.region ?_
          refine Wl.q rfl rfl (OpQ.fieldAddr H_fa67_4 rfl) ?_
          refine Wl.q rfl rfl (OpQ.loadF (b := b8) H_sc4 rfl (by repeat (first | exact Has.here | apply Has.there)) (by rfl)) ?_
          refine Wl.nil ?_
          refine PX.then_n ?_
          refine CT.cond rfl (fun h61 => ?_) (fun h61 => ?_)
          · -- if t61: then
            have hb := pb h61
            have hul2 := hlu2.len
            -- region 16, drawn: firstorder.go:107
            refine CT.draw 17 H_mixed ?_
            refine RA.q 0 (by kernel_rfl) rfl rfl rfl (.refl _) (OpQ.move rfl) ?_
            refine RA.q 1 (by kernel_rfl) rfl rfl rfl (.refl _) (OpQ.move rfl) ?_
            refine RA.q 2 (by kernel_rfl) rfl rfl rfl (.refl _) (OpQ.move rfl) ?_
            refine RA.q 3 (by kernel_rfl) rfl rfl rfl (.refl _) (OpQ.index H_un26 H_sz29 rfl rfl (by omega) (sm (by omega))) ?_
            refine RA.q 4 (by kernel_rfl) rfl rfl rfl (.refl _) (OpQ.fieldAddr H_fa29_5 rfl) ?_
            refine RA.q 5 (by kernel_rfl) rfl rfl rfl (.refl _) (OpQ.loadGF H_sc3 rfl (fun w hH => hH.rd0 hr rfl) (flat_cells fv_len xs f0 (j := i) (by omega) 5 _ rfl)) ?_
            refine RA.q 6 (by kernel_rfl) rfl rfl rfl (.refl _) (OpQ.move rfl) ?_
            refine RA.q 7 (by kernel_rfl) rfl rfl rfl (.refl _) (OpQ.move rfl) ?_
            refine RA.q 8 (by kernel_rfl) rfl rfl rfl (.refl _) (OpQ.move rfl) ?_
            refine RA.q 9 (by kernel_rfl) rfl rfl rfl (.refl _) (OpQ.index H_un26 H_sz29 rfl rfl (by omega) (sm (by omega))) ?_
            refine RA.q 10 (by kernel_rfl) rfl rfl rfl (.refl _) (OpQ.fieldAddr H_fa29_5 rfl) ?_
            refine RA.q 11 (by kernel_rfl) rfl rfl rfl (.refl _) (OpQ.loadGF H_sc3 rfl (fun w hH => hH.rd0 hr rfl) (flat_cells fv_len xs f0 (j := i) (by omega) 5 _ rfl)) ?_
            refine RA.q 12 (by kernel_rfl) rfl rfl rfl (.refl _) (OpQ.index1 H_un22 H_sz3 rfl rfl ⟨hb.1, by omega⟩ rfl) ?_
            refine RA.q 13 (by kernel_rfl) rfl rfl rfl (.refl _) (OpQ.loadRow H_sc3 rfl (.there .here) (getMap zi us2 0 (j := (xs.getD i f0).b.toNat) (by omega))) ?_
            refine RA.q 14 (by kernel_rfl) rfl rfl rfl (.refl _) (OpQ.move rfl) ?_
            refine RA.q 15 (by kernel_rfl) rfl rfl rfl (.refl _) (OpQ.max rfl rfl) ?_
            refine RA.q 16 (by kernel_rfl) rfl rfl rfl (.refl _) (OpQ.index1 H_un22 H_sz3 rfl rfl ⟨hb.1, by omega⟩ rfl) ?_
            refine RA.tail ?_
            refine RT.f 17 (by kernel_rfl) rfl rfl rfl (OpG.storeRow H_sz3 rfl rfl rfl (.there .here) (by rw [List.length_map, hul2]; show (xs.getD i f0).b.toNat < _; omega)) ?_
            rintro _ _
            refine RT.done (by kernel_rfl) ?_
            refine PX.block_n ?_
            refine PX.then_n ?_
            -- region 10: firstorder.go:98
            refine CT.region ?_
            refine Wl.q rfl rfl (OpQ.move rfl) ?_
            refine Wl.q rfl rfl (OpQ.sub rfl rfl (by omega)) ?_
            refine Wl.q rfl rfl (OpQ.assign rfl) ?_
            refine Wl.nil ?_
            exact PX.loop hK1 (i, us2.set (xs.getD i f0).b.toNat (mx (us2.getD (xs.getD i f0).b.toNat 0) (i : Int))) ⟨by omega, LU_end (LU_set hlu2 (by omega) (by omega) rfl) (fun h => set_ge' (hua h) rfl) (fun _ => set_ge (by rw [hlu2.len]; omega) rfl)⟩ (show i < i + 1 by omega) ⟨rfl, rfl, rfl, rfl, trivial⟩ (.drop (.keep (row_eq (by rw [zset])) .nil))
          · -- if t61: else
            refine CT.skip ?_
            refine PX.block_n ?_
            refine PX.then_n ?_
            -- region 10: firstorder.go:98
            refine CT.region ?_
            refine Wl.q rfl rfl (OpQ.move rfl) ?_
            refine Wl.q rfl rfl (OpQ.sub rfl rfl (by omega)) ?_
            refine Wl.q rfl rfl (OpQ.assign rfl) ?_
            refine Wl.nil ?_
            exact PX.loop hK1 (i, us2) ⟨by omega, LU_end hlu2 hua (fun h => by rw [h61] at h; cases h)⟩ (show i < i + 1 by omega) ⟨rfl, rfl, rfl, rfl, trivial⟩ (.drop (.keep rfl .nil))
    · -- if t27: else
      have h27 := of_decide_eq_false h27
      obtain rfl : m = 0 := by omega
      refine CT.exit ?_
      refine PX.then_x ?_
      refine PX.then_x ?_
      refine PX.block_x ?_
      refine PX.then_n ?_
      refine CT.seq ?_
      -- region 17: firstorder.go:110
      refine CT.region ?_
      refine Wl.q rfl rfl (OpQ.move rfl) ?_
      refine Wl.q rfl rfl (OpQ.assign rfl) ?_
      refine Wl.nil ?_
      refine PX.then_n ?_
      refine CT.ret ?_
      refine PX.ret1 rfl rfl (fun w' hH => ?_)
      exact ⟨(us, some ⟨b11, 0, none⟩, _), ⟨hlu, rfl⟩, rfl, hH.post⟩

theorem H_go29 : isGo Try.prog 29 = true := by kernel_rfl
theorem H_ag29 : isAggB Try.prog 29 = some true := by kernel_rfl
theorem H_in29 : (Try.prog.info? 29).map (fun i => (i.zero, i.size, i.bytes)) = some (some (.agg #[.int .i64 0, .int .i64 0, .int .i64 0, .int .i64 0, .int .i64 0, .int .i64 0]), 6, 48) := by kernel_rfl
set_option maxRecDepth 100000 in
/-- semigroup/firstorder.Depth -/
theorem depth_spec (w : World) (a : Option Addr) (cp : Nat) (xs : List Fm) (hr : Rd w a (xs.flatMap fv)) (hn : xs.length ≤ 9223372036854775807) (hcp : xs.length ≤ cp) (root : Int) : Calls Try.prog 27 #[.slice a xs.length cp, .int .i64 (root)] w (fun e w' => e = .returned (.int .i64 (depB xs root)) ∧ Ext [] w w') := by
  have sm : 0 < xs.length → a.isSome = true := fun h => hr.isSome (j := 0) (by rw [flat_len fv_len]; omega)
  refine enter (args := [.slice a xs.length cp, .int .i64 (root)]) [] 68 Try.func27 rfl rfl rfl ?_
  refine CT.seq ?_
  -- region 0: firstorder.go:114
  refine CT.region ?_
  refine Wl.q rfl rfl (OpQ.assign rfl) ?_
  refine Wl.nil ?_
  refine PX.then_n ?_
  refine CT.seq ?_
  refine CT.seq ?_
  -- region 1: firstorder.go:115
  refine CT.region ?_
  refine Wl.q rfl rfl (OpQ.move rfl) ?_
  refine Wl.q rfl rfl (OpQ.move rfl) ?_
  refine Wl.g rfl rfl (OpG.callV H_go29 rfl (fun w hH => validate_spec w a cp xs (hH.rd0 hr rfl) hn root 6)) ?_
  rintro _ _
  refine Wl.q rfl rfl (OpQ.neq rfl rfl) ?_
  refine Wl.nil ?_
  refine PX.then_n ?_
  refine CT.cond rfl (fun h12 => ?_) (fun h12 => ?_)
  · -- if t12: then
    have hv : ¬ vdF xs root 6 = 0 := by simpa using h12
    refine CT.seq ?_
    -- region 2: firstorder.go:116
    refine CT.region ?_
    refine Wl.q rfl rfl (OpQ.assign rfl) ?_
    refine Wl.nil ?_
    refine PX.then_n ?_
    refine CT.ret ?_
    refine PX.then_r ?_
    refine PX.ret1 rfl rfl (fun w' hH => ?_)
    exact ⟨ret_i (by rw [depB, if_neg hv]), hH.ext⟩
  · -- if t12: else
    have hv : vdF xs root 6 = 0 := by simpa using h12
    obtain ⟨hl, hok, hr0, hr1⟩ := vd_zero hv
    obtain ⟨rt, rfl⟩ := Int.eq_ofNat_of_zero_le hr0
    have hrt : rt < xs.length := by omega
    refine CT.skip ?_
    refine PX.then_n ?_
    refine CT.seq ?_
    -- region 3: firstorder.go:118
    refine CT.region ?_
    refine Wl.q rfl rfl (OpQ.move rfl) ?_
    refine Wl.q rfl rfl (OpQ.add rfl rfl (by omega)) ?_
    refine Wl.g rfl rfl (OpG.make1 H_un22 H_in3 rfl rfl rfl (show (rt : Int) + 1 = ((rt + 1 : Nat) : Int) by omega) (by omega) (by omega)) ?_
    rintro b15 _
    refine Wl.q rfl rfl (OpQ.assign rfl) ?_
    refine Wl.nil ?_
    refine PX.then_n ?_
    refine CT.seq ?_
    refine CT.seq ?_
    -- region 4: firstorder.go:119
    refine CT.region ?_
    refine Wl.q rfl rfl (OpQ.move rfl) ?_
    refine Wl.q rfl rfl (OpQ.move rfl) ?_
    refine Wl.q rfl rfl (OpQ.add rfl rfl (by omega)) ?_
    refine Wl.q rfl rfl (OpQ.sliceToN H_un26 H_sz29 rfl rfl (show (rt : Int) + 1 = ((rt + 1 : Nat) : Int) by omega) (by omega)) ?_
    refine Wl.q rfl rfl (OpQ.len H_un26 rfl) ?_
    refine Wl.q rfl rfl (OpQ.move rfl) ?_
    refine Wl.nil ?_
    refine PX.then_n ?_
    refine CT.block ?_
    -- the loop at region 5
    refine CT.loop (ι := Nat × List Int) (fun (i, dv) => i ≤ rt + 1 ∧ DJ xs (rt + 1) i 0 dv) (fun (i, dv) => [(1, .int .i64 (rt : Int)), (5, .slice (some ⟨b15, 0, none⟩) (rt + 1) (rt + 1)), (19, .slice a (rt + 1) cp), (20, .int .i64 ((rt + 1 : Nat) : Int)), (21, .int .i64 (i : Int))]) (fun (i, dv) => [.row 3 1 (.slice (some ⟨b15, 0, none⟩) (rt + 1) (rt + 1)) (rt + 1) ((dv).map zi)]) (fun (i, dv) => rt + 1 - i) (0, List.replicate (rt + 1) 0) ⟨by omega, DJ_0 _ _⟩ ⟨rfl, rfl, rfl, rfl, rfl, trivial⟩ (.keep (row_eq (by simp)) .nil) (fun ⟨i, dv⟩ ⟨hi, hdi⟩ K0 hK0 => ?_)
    dsimp only
    refine CT.seq ?_
    -- region 5: firstorder.go:119
    refine CT.region ?_
    refine Wl.q rfl rfl (OpQ.lss rfl rfl) ?_
    refine Wl.nil ?_
    refine PX.then_n ?_
    refine CT.seq ?_
    refine CT.cond rfl (fun h22 => ?_) (fun h22 => ?_)
    · -- if t22: then
      have h22 := of_decide_eq_true h22
      have hokk := okL_get hok (j := i) (by omega)
      obtain ⟨_, _, _, _, pa, pb⟩ := ok_parts hokk
      have hde := dp_eq hok (i := i) (by omega)
      refine CT.skip ?_
      refine PX.then_n ?_
      refine CT.seq ?_
      refine CT.block ?_
      refine CT.seq ?_
      -- region 6: firstorder.go:119
      refine CT.region ?_
      refine Wl.q rfl rfl (OpQ.move rfl) ?_
      refine Wl.q rfl rfl (OpQ.index H_un26 H_sz29 rfl rfl (by omega) (sm (by omega))) ?_
      refine Wl.q rfl rfl (OpQ.loadAggG (cs := fv (xs.getD i f0)) H_ag29 H_sz29 rfl (fun w hH => hH.rd0 hr rfl) (flat_cells fv_len xs f0 (by omega))) ?_
      refine Wl.g rfl rfl (OpG.alloc (zs := [.int .i64 0, .int .i64 0, .int .i64 0, .int .i64 0, .int .i64 0, .int .i64 0]) H_in29 rfl rfl) ?_
      rintro b7 _
      refine Wl.q rfl rfl (OpQ.assign rfl) ?_
      refine Wl.g rfl rfl (OpG.storeV (b := b7) H_sz29 rfl rfl rfl rfl (by repeat (first | exact Upd.here | apply Upd.there))) ?_
      rintro _ _
      refine Wl.nil ?_
      refine PX.then_n ?_
      refine CT.seq ?_
      -- region 7: firstorder.go:120
      refine CT.region ?_
      refine Wl.q rfl rfl (OpQ.fieldAddr H_fa29_0 rfl) ?_
      refine Wl.q rfl rfl (OpQ.loadF (b := b7) H_sc3 rfl (by repeat (first | exact Has.here | apply Has.there)) (by rfl)) ?_
      refine Wl.g rfl rfl (OpG.callV H_go33 rfl (fun w hH => fieldsOf_spec w _)) ?_
      rintro _ _
      refine Wl.g rfl rfl (OpG.alloc (zs := [.bool false, .bool false, .bool false, .bool false, .bool false, .bool false]) H_in67 rfl rfl) ?_
      rintro b8 _
      refine Wl.g rfl rfl (OpG.storeV (b := b8) H_sz67 rfl rfl rfl rfl (by repeat (first | exact Upd.here | apply Upd.there))) ?_
      rintro _ _
      refine Wl.nil ?_
      refine PX.then_n ?_
      refine CT.cut (ι := List Int) (Φ := fun dv => DJ xs (rt + 1) i (if ga (xs.getD i f0).op then (dp xs (xs.getD i f0).a.toNat) else 0) dv) (E' := fun _ => [(1, .int .i64 (rt : Int)), (5, .slice (some ⟨b15, 0, none⟩) (rt + 1) (rt + 1)), (19, .slice a (rt + 1) cp), (20, .int .i64 ((rt + 1 : Nat) : Int)), (6, .int .i64 (i : Int)), (7, .pointer (some ⟨b7, 0, none⟩)), (8, .pointer (some ⟨b8, 0, none⟩)), (21, .int .i64 (i : Int))]) (H' := fun dv => [.row 67 6 (vb b8) 1 [.bool (gx (xs.getD i f0).op), .bool (gy (xs.getD i f0).op), .bool (gl (xs.getD i f0).op), .bool (ga (xs.getD i f0).op), .bool (gb (xs.getD i f0).op), .bool (gk (xs.getD i f0).op)], .row 29 6 (vb b7) 1 (fv (xs.getD i f0)), .row 3 1 (.slice (some ⟨b15, 0, none⟩) (rt + 1) (rt + 1)) (rt + 1) ((dv).map zi)]) (fun K1 hK1 => ?_) (fun dv hdj => ?_)
      · -- up to the join
        refine CT.seq ?_
        -- region 8: firstorder.go:121
        refine CT.region ?_
        refine Wl.q rfl rfl (OpQ.fieldAddr H_fa67_3 rfl) ?_
        refine Wl.q rfl rfl (OpQ.loadF (b := b8) H_sc4 rfl (by repeat (first | exact Has.here | apply Has.there)) (by rfl)) ?_
        refine Wl.nil ?_
        refine PX.then_n ?_
        refine CT.cond rfl (fun h30 => ?_) (fun h30 => ?_)
        · -- if t30: then
          have ha := pa h30
          have hdl := hdi.len
          -- region 9: firstorder.go:122
          refine CT.region ?_
          refine Wl.q rfl rfl (OpQ.move rfl) ?_
          refine Wl.q rfl rfl (OpQ.move rfl) ?_
          refine Wl.q rfl rfl (OpQ.move rfl) ?_
          refine Wl.q rfl rfl (OpQ.fieldAddr H_fa29_4 rfl) ?_
          refine Wl.q rfl rfl (OpQ.loadF (b := b7) H_sc3 rfl (by repeat (first | exact Has.here | apply Has.there)) (by rfl)) ?_
          refine Wl.q rfl rfl (OpQ.index1 H_un22 H_sz3 rfl rfl ⟨ha.1, by omega⟩ rfl) ?_
          refine Wl.q rfl rfl (OpQ.loadRow H_sc3 rfl (.there (.there .here)) (getMap zi dv 0 (j := (xs.getD i f0).a.toNat) (by omega))) ?_
          refine Wl.know 37 (v' := .int .i64 (dp xs (xs.getD i f0).a.toNat)) rfl (congrArg (Value.int .i64) (hdi.lt _ (by omega))) ?_
          refine Wl.q rfl rfl (OpQ.index1 H_un22 H_sz3 rfl rfl (by omega) rfl) ?_
          refine Wl.g rfl rfl (OpG.storeRow H_sz3 rfl rfl rfl (.there (.there .here)) (by rw [List.length_map, hdl]; show i < _; omega)) ?_
          rintro _ _
          refine Wl.nil ?_
          exact PX.cut hK1 (dv.set i (dp xs (xs.getD i f0).a.toNat)) (by rw [if_pos h30]; exact DJ_set hdi (by omega)) ⟨rfl, rfl, rfl, rfl, rfl, rfl, rfl, rfl, trivial⟩ (.keep rfl (.keep rfl (.keep (row_eq (by rw [zset]; rfl)) .nil)))
        · -- if t30: else
          refine CT.skip ?_
          exact PX.cut hK1 dv (by rw [h30]; exact hdi) ⟨rfl, rfl, rfl, rfl, rfl, rfl, rfl, rfl, trivial⟩ (HSub.refl _)
      · -- from the join on
        refine CT.cut (ι := List Int) (Φ := fun dv => DJ xs (rt + 1) i (if gb (xs.getD i f0).op then mx (if ga (xs.getD i f0).op then (dp xs (xs.getD i f0).a.toNat) else 0) (dp xs (xs.getD i f0).b.toNat) else (if ga (xs.getD i f0).op then (dp xs (xs.getD i f0).a.toNat) else 0)) dv) (E' := fun _ => [(1, .int .i64 (rt : Int)), (5, .slice (some ⟨b15, 0, none⟩) (rt + 1) (rt + 1)), (19, .slice a (rt + 1) cp), (20, .int .i64 ((rt + 1 : Nat) : Int)), (6, .int .i64 (i : Int)), (7, .pointer (some ⟨b7, 0, none⟩)), (8, .pointer (some ⟨b8, 0, none⟩)), (21, .int .i64 (i : Int))]) (H' := fun dv => [.row 67 6 (vb b8) 1 [.bool (gx (xs.getD i f0).op), .bool (gy (xs.getD i f0).op), .bool (gl (xs.getD i f0).op), .bool (ga (xs.getD i f0).op), .bool (gb (xs.getD i f0).op), .bool (gk (xs.getD i f0).op)], .row 29 6 (vb b7) 1 (fv (xs.getD i f0)), .row 3 1 (.slice (some ⟨b15, 0, none⟩) (rt + 1) (rt + 1)) (rt + 1) ((dv).map zi)]) (fun K2 hK2 => ?_) (fun dv hdj => ?_)
        · -- up to the join
          refine CT.seq ?_
          -- region 10: firstorder.go:124
          refine CT.region ?_
          refine Wl.q rfl rfl (OpQ.fieldAddr H_fa67_4 rfl) ?_
          refine Wl.q rfl rfl (OpQ.loadF (b := b8) H_sc4 rfl (by repeat (first | exact Has.here | apply Has.there)) (by rfl)) ?_
          refine Wl.nil ?_
          refine PX.then_n ?_
          refine CT.cond rfl (fun h40 => ?_) (fun h40 => ?_)
          · -- if t40: then
            have hb := pb h40
            have hdl := hdj.len
            -- region 11, drawn: firstorder.go:125
            refine CT.draw 13 H_mixed ?_
            refine RA.q 0 (by kernel_rfl) rfl rfl rfl (.refl _) (OpQ.move rfl) ?_
            refine RA.q 1 (by kernel_rfl) rfl rfl rfl (.refl _) (OpQ.move rfl) ?_
            refine RA.q 2 (by kernel_rfl) rfl rfl rfl (.refl _) (OpQ.move rfl) ?_
            refine RA.q 3 (by kernel_rfl) rfl rfl rfl (.refl _) (OpQ.move rfl) ?_
            refine RA.q 4 (by kernel_rfl) rfl rfl rfl (.refl _) (OpQ.index1 H_un22 H_sz3 rfl rfl (by omega) rfl) ?_
            refine RA.q 5 (by kernel_rfl) rfl rfl rfl (.refl _) (OpQ.loadRow H_sc3 rfl (.there (.there .here)) (getMap zi dv 0 (j := i) (by omega))) ?_
            refine RA.know 46 (v' := .int .i64 (if ga (xs.getD i f0).op then (dp xs (xs.getD i f0).a.toNat) else 0)) rfl (congrArg (Value.int .i64) hdj.at_) ?_
            refine RA.q 6 (by kernel_rfl) rfl rfl rfl (.refl _) (OpQ.move rfl) ?_
            refine RA.q 7 (by kernel_rfl) rfl rfl rfl (.refl _) (OpQ.fieldAddr H_fa29_5 rfl) ?_
            refine RA.q 8 (by kernel_rfl) rfl rfl rfl (.refl _) (OpQ.loadF (b := b7) H_sc3 rfl (by repeat (first | exact Has.here | apply Has.there)) (by rfl)) ?_
            refine RA.q 9 (by kernel_rfl) rfl rfl rfl (.refl _) (OpQ.index1 H_un22 H_sz3 rfl rfl ⟨hb.1, by omega⟩ rfl) ?_
            refine RA.q 10 (by kernel_rfl) rfl rfl rfl (.refl _) (OpQ.loadRow H_sc3 rfl (.there (.there .here)) (getMap zi dv 0 (j := (xs.getD i f0).b.toNat) (by omega))) ?_
            refine RA.know 51 (v' := .int .i64 (dp xs (xs.getD i f0).b.toNat)) rfl (congrArg (Value.int .i64) (hdj.lt _ (by omega))) ?_
            refine RA.q 11 (by kernel_rfl) rfl rfl rfl (.refl _) (OpQ.max rfl rfl) ?_
            refine RA.q 12 (by kernel_rfl) rfl rfl rfl (.refl _) (OpQ.index1 H_un22 H_sz3 rfl rfl (by omega) rfl) ?_
            refine RA.tail ?_
            refine RT.f 13 (by kernel_rfl) rfl rfl rfl (OpG.storeRow H_sz3 rfl rfl rfl (.there (.there .here)) (by rw [List.length_map, hdl]; show i < _; omega)) ?_
            rintro _ _
            refine RT.done (by kernel_rfl) ?_
            exact PX.cut hK2 (dv.set i (mx (if ga (xs.getD i f0).op then (dp xs (xs.getD i f0).a.toNat) else 0) (dp xs (xs.getD i f0).b.toNat))) (by rw [if_pos h40]; exact DJ_set hdj (by omega)) ⟨rfl, rfl, rfl, rfl, rfl, rfl, rfl, rfl, trivial⟩ (.keep rfl (.keep rfl (.keep (row_eq (by rw [zset]; rfl)) .nil)))
          · -- if t40: else
            refine CT.skip ?_
            exact PX.cut hK2 dv (by rw [if_neg (by rw [h40]; decide)]; exact hdj) ⟨rfl, rfl, rfl, rfl, rfl, rfl, rfl, rfl, trivial⟩ (HSub.refl _)
        · -- from the join on
          refine CT.seq ?_
          -- region 12: firstorder.go:127
          refine CT.region ?_
          refine Wl.q rfl rfl (OpQ.fieldAddr H_fa29_0 rfl) ?_
          refine Wl.q rfl rfl (OpQ.loadF (b := b7) H_sc3 rfl (by repeat (first | exact Has.here | apply Has.there)) (by rfl)) ?_
          refine Wl.q rfl rfl (OpQ.eql rfl rfl) ?_
          refine Wl.nil ?_
          refine PX.then_n ?_
          refine CT.cond rfl (fun h56 => ?_) (fun h56 => ?_)
          · -- if t56: then
            have h56 := of_decide_eq_true h56
            have hdl := hdj.len
            have hlim : 0 ≤ (if gb (xs.getD i f0).op then mx (if ga (xs.getD i f0).op then (dp xs (xs.getD i f0).a.toNat) else 0) (dp xs (xs.getD i f0).b.toNat) else (if ga (xs.getD i f0).op then (dp xs (xs.getD i f0).a.toNat) else 0)) ∧ (if gb (xs.getD i f0).op then mx (if ga (xs.getD i f0).op then (dp xs (xs.getD i f0).a.toNat) else 0) (dp xs (xs.getD i f0).b.toNat) else (if ga (xs.getD i f0).op then (dp xs (xs.getD i f0).a.toNat) else 0)) ≤ 200000 := by
              have h1 := dp_le hok (i := i) (by omega)
              have h2 := (dstep_of (f := (xs.getD i f0)) (da := (dp xs (xs.getD i f0).a.toNat)) (db := (dp xs (xs.getD i f0).b.toNat)) rfl rfl).1 h56
              rw [← hde] at h2
              have h3 := dstep2_nn (f := (xs.getD i f0)) (fun h => (dp_le hok (i := (xs.getD i f0).a.toNat) (by have := pa h; omega)).1) (fun h => (dp_le hok (i := (xs.getD i f0).b.toNat) (by have := pb h; omega)).1)
              omega
            -- region 13: firstorder.go:128
            refine CT.region ?_
            refine Wl.q rfl rfl (OpQ.move rfl) ?_
            refine Wl.q rfl rfl (OpQ.move rfl) ?_
            refine Wl.q rfl rfl (OpQ.index1 H_un22 H_sz3 rfl rfl (by omega) rfl) ?_
            refine Wl.q rfl rfl (OpQ.loadRow H_sc3 rfl (.there (.there .here)) (getMap zi dv 0 (j := i) (by omega))) ?_
            refine Wl.know 60 (v' := .int .i64 (if gb (xs.getD i f0).op then mx (if ga (xs.getD i f0).op then (dp xs (xs.getD i f0).a.toNat) else 0) (dp xs (xs.getD i f0).b.toNat) else (if ga (xs.getD i f0).op then (dp xs (xs.getD i f0).a.toNat) else 0))) rfl (congrArg (Value.int .i64) hdj.at_) ?_
            refine Wl.q rfl rfl (OpQ.add rfl rfl (by omega)) ?_
            refine Wl.q rfl rfl (OpQ.index1 H_un22 H_sz3 rfl rfl (by omega) rfl) ?_
            refine Wl.g rfl rfl (OpG.storeRow H_sz3 rfl rfl rfl (.there (.there .here)) (by rw [List.length_map, hdl]; show i < _; omega)) ?_
            rintro _ _
            refine Wl.nil ?_
            refine PX.block_n ?_
            refine PX.then_n ?_
            -- region 14: firstorder.go:119
            refine CT.region ?_
            refine Wl.q rfl rfl (OpQ.add rfl rfl (by omega)) ?_
            refine Wl.q rfl rfl (OpQ.move rfl) ?_
            refine Wl.nil ?_
            exact PX.loop hK0 (i + 1, dv.set i ((if gb (xs.getD i f0).op then mx (if ga (xs.getD i f0).op then (dp xs (xs.getD i f0).a.toNat) else 0) (dp xs (xs.getD i f0).b.toNat) else (if ga (xs.getD i f0).op then (dp xs (xs.getD i f0).a.toNat) else 0)) + 1)) ⟨by omega, DJ_next (DJ_set hdj (by omega)) (by rw [hde]; exact (dstep_of rfl rfl).1 h56)⟩ (show rt + 1 - (i + 1) < rt + 1 - i by omega) ⟨rfl, rfl, rfl, rfl, rfl, trivial⟩ (.drop (.drop (.keep (row_eq (by rw [zset]; rfl)) .nil)))
          · -- if t56: else
            have h56 := of_decide_eq_false h56
            refine CT.skip ?_
            refine PX.block_n ?_
            refine PX.then_n ?_
            -- region 14: firstorder.go:119
            refine CT.region ?_
            refine Wl.q rfl rfl (OpQ.add rfl rfl (by omega)) ?_
            refine Wl.q rfl rfl (OpQ.move rfl) ?_
            refine Wl.nil ?_
            exact PX.loop hK0 (i + 1, dv) ⟨by omega, DJ_next hdj (by rw [hde]; exact (dstep_of rfl rfl).2 h56)⟩ (show rt + 1 - (i + 1) < rt + 1 - i by omega) ⟨rfl, rfl, rfl, rfl, rfl, trivial⟩ (.drop (.drop (.keep rfl .nil)))
    · -- if t22: else
      have h22 := of_decide_eq_false h22
      refine CT.exit ?_
      refine PX.then_x ?_
      refine PX.then_x ?_
      refine PX.block_x ?_
      refine PX.then_n ?_
      refine CT.seq ?_
      -- region 15: firstorder.go:131
      refine CT.region ?_
      refine Wl.q rfl rfl (OpQ.move rfl) ?_
      refine Wl.q rfl rfl (OpQ.move rfl) ?_
      refine Wl.q rfl rfl (OpQ.index1 H_un22 H_sz3 rfl rfl (by omega) rfl) ?_
      refine Wl.q rfl rfl (OpQ.loadRow H_sc3 rfl .here (getMap zi dv 0 (j := rt) (by have := hdi.len; omega))) ?_
      refine Wl.q rfl rfl (OpQ.assign rfl) ?_
      refine Wl.nil ?_
      refine PX.then_n ?_
      refine CT.ret ?_
      refine PX.ret1 rfl rfl (fun w' hH => ?_)
      obtain rfl : i = rt + 1 := by omega
      exact ⟨ret_i (by rw [depB, if_pos hv]; exact hdi.lt rt (by omega)), hH.ext⟩

end Go.Proofs.Ytdcjemjfliaaiaa
