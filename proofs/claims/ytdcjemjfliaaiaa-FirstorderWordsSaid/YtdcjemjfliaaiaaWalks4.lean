/-
  What functions of the packages firstorder, semigroupref38 and semigroupmade compute, each by its walk. Conditions: those that each theorem names.
-/
import Derived.Test.YtdcjemjfliaaiaaMod
import Derived.Test.YtdcjemjfliaaiaaWalks3
set_option linter.unusedSimpArgs false
namespace Go.Proofs.Ytdcjemjfliaaiaa
open Go Go.Eng Go.Fo
open Go.Tp (zi)
open Go.Tl (vf mayL Wd okW okB ret_b ret_i bo)

theorem D_in64 : (Try.prog.info? 64).map (fun i => (i.zero, i.size, i.bytes)) = some (some (.agg #[.bool false, .bool false, .bool false, .int .i64 0, .int .i64 0, .slice none 0 0]), 6, 48) := by kernel_rfl
theorem D_ag29 : isAggB Try.prog 29 = some true := by kernel_rfl
theorem D_sz29 : sizeB Try.prog 29 = some 6 := by kernel_rfl
theorem D_go51 : isGo Try.prog 51 = true := by kernel_rfl
theorem D_pl64 : placesB Try.prog 64 = some (#[.bool false, .bool false, .bool false, .int .i64 0, .int .i64 0, .slice none 0 0], [(0, 3), (3, 2), (5, 1)]) := by kernel_rfl
theorem D_sz64 : sizeB Try.prog 64 = some 6 := by kernel_rfl
theorem D_un9 : Try.prog.underlying 9 = some .string := by kernel_rfl
theorem D_un61 : Try.prog.underlying 61 = some (.array 2 3) := by kernel_rfl
theorem D_sz3 : sizeB Try.prog 3 = some 1 := by kernel_rfl
theorem D_in61 : (Try.prog.info? 61).map (fun i => (i.zero, i.size, i.bytes)) = some (some (.agg #[.int .i64 0, .int .i64 0]), 2, 16) := by kernel_rfl
theorem D_sz61 : sizeB Try.prog 61 = some 2 := by kernel_rfl
theorem D_fa64_0 : fieldB Try.prog 64 0 = some 0 := by kernel_rfl
theorem D_un60 : Try.prog.underlying 60 = some (.array 3 4) := by kernel_rfl
theorem D_sz4 : sizeB Try.prog 4 = some 1 := by kernel_rfl
theorem D_sc4 : scalarB Try.prog 4 = some true := by kernel_rfl
theorem D_fa64_1 : fieldB Try.prog 64 1 = some 3 := by kernel_rfl
theorem D_sc3 : scalarB Try.prog 3 = some true := by kernel_rfl
theorem D_un62 : Try.prog.underlying 62 = some (.slice 69) := by kernel_rfl
theorem D_in69 : (Try.prog.info? 69).map (fun i => (i.zero, i.size, i.bytes)) = some (some (.int .u64 0), 1, 8) := by kernel_rfl
theorem D_fa64_2 : fieldB Try.prog 64 2 = some 5 := by kernel_rfl
theorem D_sz62 : sizeB Try.prog 62 = some 1 := by kernel_rfl
theorem D_fa29_0 : fieldB Try.prog 29 0 = some 0 := by kernel_rfl
theorem D_go52 : isGo Try.prog 52 = true := by kernel_rfl
theorem D_fa29_4 : fieldB Try.prog 29 4 = some 4 := by kernel_rfl
theorem D_un59 : Try.prog.underlying 59 = some (.slice 64) := by kernel_rfl
theorem D_go34 : isGo Try.prog 34 = true := by kernel_rfl
theorem D_mixed : Try.prog.follows .mixedOrders = true := by kernel_rfl
theorem D_fa29_5 : fieldB Try.prog 29 5 = some 5 := by kernel_rfl
theorem D_fa29_1 : fieldB Try.prog 29 1 = some 1 := by kernel_rfl
theorem D_go53 : isGo Try.prog 53 = true := by kernel_rfl
theorem D_sc62 : scalarB Try.prog 62 = some true := by kernel_rfl
theorem D_ag64 : isAggB Try.prog 64 = some true := by kernel_rfl
set_option maxRecDepth 100000 in
/-- semigroup/firstorder.evaluate -/
theorem evaluate_spec (w : World) (f : Fm) (ta : Option Addr) (tc : Nat) (ts : List Tb) (hts : Rd w ta (ts.flatMap tbv)) (ws : Wd) (hws : ws.length ≤ 62) (hwk : okW ws 6 = true) (i : Nat) (l : Int) (hok : okF f i l = true) (sa sb : V3 → Bool) (hA : ga f.op = true → f.a.toNat < ts.length ∧ TabOK (ws.length + 1) sa (ts.getD f.a.toNat tb0) ∧ Rd w (ts.getD f.a.toNat tb0).a ((ts.getD f.a.toNat tb0).rows.map u)) (hB : gb f.op = true → f.b.toNat < ts.length ∧ TabOK (ws.length + 1) sb (ts.getD f.b.toNat tb0) ∧ Rd w (ts.getD f.b.toNat tb0).a ((ts.getD f.b.toNat tb0).rows.map u)) : Calls Try.prog 32 #[.agg (fv f).toArray, .slice ta ts.length tc, sv ws] w (fun e w' => ∃ i : Option Addr × Nat, True ∧ e = .returned (.agg (tbv (evT f ws (ts.getD f.a.toNat tb0) (ts.getD f.b.toNat tb0) i.1 i.2)).toArray) ∧ Post [] [.row 69 1 (.slice i.1 (evT f ws (ts.getD f.a.toNat tb0) (ts.getD f.b.toNat tb0) i.1 i.2).rows.length i.2) (evT f ws (ts.getD f.a.toNat tb0) (ts.getD f.b.toNat tb0) i.1 i.2).rows.length ((evT f ws (ts.getD f.a.toNat tb0) (ts.getD f.b.toNat tb0) i.1 i.2).rows.map u)] w w') := by
  obtain ⟨ho, px, py, _, pa, pb⟩ := ok_parts hok
  have st : 0 < ts.length → ta.isSome = true := fun h => hts.isSome (j := 0) (by rw [flat_len tbv_len]; omega)
  have hc0 := cnt_le (d := (depL f (ts.getD f.a.toNat tb0).dep (ts.getD f.b.toNat tb0).dep)) (k := 0) (m := (ws.length + 1)) (by omega)
  have hc1 := cnt_le (d := (depL f (ts.getD f.a.toNat tb0).dep (ts.getD f.b.toNat tb0).dep)) (k := 1) (m := (ws.length + 1)) (by omega)
  have hcc : (cnt (depL f (ts.getD f.a.toNat tb0).dep (ts.getD f.b.toNat tb0).dep) 0 (ws.length + 1)) * (cnt (depL f (ts.getD f.a.toNat tb0).dep (ts.getD f.b.toNat tb0).dep) 1 (ws.length + 1)) ≤ 63 * 63 := Nat.mul_le_mul (by omega) (by omega)
  refine enter (args := [.agg (fv f).toArray, .slice ta ts.length tc, sv ws]) [] 137 Try.func32 rfl rfl rfl ?_
  refine CT.seq ?_
  -- region 0: table.go:17
  refine CT.region ?_
  refine Wl.g rfl rfl (OpG.box (size := 6) rfl rfl rfl) ?_
  rintro b3 _
  refine Wl.g rfl rfl (OpG.alloc (zs := [.bool false, .bool false, .bool false, .int .i64 0, .int .i64 0, .slice none 0 0]) D_in64 rfl rfl) ?_
  rintro b6 _
  refine Wl.nil ?_
  refine PX.then_n ?_
  refine CT.seq ?_
  -- region 1: table.go:18
  refine CT.region ?_
  refine Wl.q rfl rfl (OpQ.loadV (b := b3) D_ag29 D_sz29 rfl (by repeat (first | exact Has.here | apply Has.there)) (by rfl)) ?_
  refine Wl.q rfl rfl (OpQ.move rfl) ?_
  refine Wl.g rfl rfl (OpG.callV D_go51 rfl (fun w hH => dependence_spec w f ta tc ts (hH.rd0 hts rfl) i l hok (fun h => ⟨(hA h).1, (hA h).2.1.len⟩) (fun h => ⟨(hB h).1, (hB h).2.1.len⟩))) ?_
  rintro _ _
  refine Wl.q rfl rfl (OpQ.build (cells := #[.bool ((depL f (ts.getD f.a.toNat tb0).dep (ts.getD f.b.toNat tb0).dep).getD 0 false), .bool ((depL f (ts.getD f.a.toNat tb0).dep (ts.getD f.b.toNat tb0).dep).getD 1 false), .bool ((depL f (ts.getD f.a.toNat tb0).dep (ts.getD f.b.toNat tb0).dep).getD 2 false), .int .i64 0, .int .i64 0, .slice none 0 0]) D_pl64 rfl (by kernel_rfl)) ?_
  refine Wl.g rfl rfl (OpG.alloc (zs := [.bool false, .bool false, .bool false, .int .i64 0, .int .i64 0, .slice none 0 0]) D_in64 rfl rfl) ?_
  rintro b7 _
  refine Wl.g rfl rfl (OpG.storeV (b := b7) D_sz64 rfl rfl rfl rfl (by repeat (first | exact Upd.here | apply Upd.there))) ?_
  rintro _ _
  refine Wl.nil ?_
  refine PX.then_n ?_
  refine CT.seq ?_
  -- region 2: table.go:19
  refine CT.region ?_
  refine Wl.q rfl rfl (OpQ.move rfl) ?_
  refine Wl.q rfl rfl (OpQ.lenSv D_un9 rfl) ?_
  refine Wl.q rfl rfl (OpQ.add rfl rfl (by omega)) ?_
  refine Wl.know 20 (v' := .int .i64 (((ws.length + 1) : Nat) : Int)) rfl (congrArg (Value.int .i64) (by omega)) ?_
  refine Wl.q rfl rfl (OpQ.assign rfl) ?_
  refine Wl.nil ?_
  refine PX.then_n ?_
  refine CT.seq ?_
  -- region 3: table.go:20
  refine CT.region ?_
  refine Wl.q rfl rfl (OpQ.buildArr (cells := #[.int .i64 1, .int .i64 1]) D_un61 D_sz3 D_in61 rfl rfl) ?_
  refine Wl.g rfl rfl (OpG.alloc (zs := [.int .i64 0, .int .i64 0]) D_in61 rfl rfl) ?_
  rintro b9 _
  refine Wl.g rfl rfl (OpG.storeV (b := b9) D_sz61 rfl rfl rfl rfl (by repeat (first | exact Upd.here | apply Upd.there))) ?_
  rintro _ _
  refine Wl.nil ?_
  refine PX.then_n ?_
  refine CT.cut (ι := Unit) (Φ := fun _ => True) (E' := fun _ => [(1, .slice ta ts.length tc), (2, sv ws), (3, .pointer (some ⟨b3, 0, none⟩)), (6, .pointer (some ⟨b6, 0, none⟩)), (7, .pointer (some ⟨b7, 0, none⟩)), (8, .int .i64 (((ws.length + 1) : Nat) : Int)), (9, .pointer (some ⟨b9, 0, none⟩))]) (H' := fun _ => [.row 61 2 (vb b9) 1 [.int .i64 ((1 : Nat) : Int), .int .i64 (((cnt (depL f (ts.getD f.a.toNat tb0).dep (ts.getD f.b.toNat tb0).dep) 1 (ws.length + 1)) : Nat) : Int)], .row 64 6 (vb b7) 1 [.bool ((depL f (ts.getD f.a.toNat tb0).dep (ts.getD f.b.toNat tb0).dep).getD 0 false), .bool ((depL f (ts.getD f.a.toNat tb0).dep (ts.getD f.b.toNat tb0).dep).getD 1 false), .bool ((depL f (ts.getD f.a.toNat tb0).dep (ts.getD f.b.toNat tb0).dep).getD 2 false), .int .i64 ((0 : Nat) : Int), .int .i64 (((s1D (depL f (ts.getD f.a.toNat tb0).dep (ts.getD f.b.toNat tb0).dep)) : Nat) : Int), .slice none 0 0], .row 64 6 (vb b6) 1 [.bool false, .bool false, .bool false, .int .i64 0, .int .i64 0, .slice none 0 0], .row 29 6 (vb b3) 1 (fv f)]) (fun K0 hK0 => ?_) (fun _ _ => ?_)
  · -- up to the join
    refine CT.seq ?_
    -- region 4: table.go:21
    refine CT.region ?_
    refine Wl.q rfl rfl (OpQ.fieldAddr D_fa64_0 rfl) ?_
    refine Wl.q rfl rfl (OpQ.indexArr1 D_un60 D_sz4 rfl rfl (by omega)) ?_
    refine Wl.know 23 rfl (add_ptr _ _ _) ?_
    refine Wl.q rfl rfl (OpQ.loadF (b := b7) D_sc4 rfl (by repeat (first | exact Has.here | apply Has.there)) (by rfl)) ?_
    refine Wl.nil ?_
    refine PX.then_n ?_
    refine CT.cond rfl (fun h24 => ?_) (fun h24 => ?_)
    · -- if t24: then
      refine CT.seq ?_
      -- region 5: table.go:22
      refine CT.region ?_
      refine Wl.q rfl rfl (OpQ.fieldAddr D_fa64_1 rfl) ?_
      refine Wl.q rfl rfl (OpQ.indexArr1 D_un61 D_sz3 rfl rfl (by omega)) ?_
      refine Wl.know 26 rfl (add_ptr _ _ _) ?_
      refine Wl.g rfl rfl (OpG.storeRow (a := some ⟨b7, 0, none⟩) D_sz3 rfl rfl rfl (by repeat (first | exact Upd.here | apply Upd.there)) (by simp)) ?_
      rintro _ _
      refine Wl.nil ?_
      refine PX.then_n ?_
      -- region 6: table.go:23
      refine CT.region ?_
      refine Wl.q rfl rfl (OpQ.move rfl) ?_
      refine Wl.q rfl rfl (OpQ.indexArr1 D_un61 D_sz3 rfl rfl (by omega)) ?_
      refine Wl.g rfl rfl (OpG.storeRow (a := some ⟨b9, 0, none⟩) D_sz3 rfl rfl rfl (by repeat (first | exact Upd.here | apply Upd.there)) (by simp)) ?_
      rintro _ _
      refine Wl.nil ?_
      exact PX.cut hK0 () trivial ⟨rfl, rfl, rfl, rfl, rfl, rfl, rfl, trivial⟩ (.keep (row_eq (by rw [cnt_t h24]; rfl)) (.keep (row_eq (by rw [s1_t h24]; rfl)) (.keep rfl (.keep rfl .nil))))
    · -- if t24: else
      refine CT.skip ?_
      exact PX.cut hK0 () trivial ⟨rfl, rfl, rfl, rfl, rfl, rfl, rfl, trivial⟩ (.keep (row_eq (by rw [cnt_f h24]; rfl)) (.keep (row_eq (by rw [s1_f h24]; rfl)) (.keep rfl (.keep rfl .nil))))
  · -- from the join on
    refine CT.cut (ι := Unit) (Φ := fun _ => True) (E' := fun _ => [(1, .slice ta ts.length tc), (2, sv ws), (3, .pointer (some ⟨b3, 0, none⟩)), (6, .pointer (some ⟨b6, 0, none⟩)), (7, .pointer (some ⟨b7, 0, none⟩)), (8, .int .i64 (((ws.length + 1) : Nat) : Int)), (9, .pointer (some ⟨b9, 0, none⟩))]) (H' := fun _ => [.row 61 2 (vb b9) 1 [.int .i64 (((cnt (depL f (ts.getD f.a.toNat tb0).dep (ts.getD f.b.toNat tb0).dep) 0 (ws.length + 1)) : Nat) : Int), .int .i64 (((cnt (depL f (ts.getD f.a.toNat tb0).dep (ts.getD f.b.toNat tb0).dep) 1 (ws.length + 1)) : Nat) : Int)], .row 64 6 (vb b7) 1 [.bool ((depL f (ts.getD f.a.toNat tb0).dep (ts.getD f.b.toNat tb0).dep).getD 0 false), .bool ((depL f (ts.getD f.a.toNat tb0).dep (ts.getD f.b.toNat tb0).dep).getD 1 false), .bool ((depL f (ts.getD f.a.toNat tb0).dep (ts.getD f.b.toNat tb0).dep).getD 2 false), .int .i64 (((s0D (depL f (ts.getD f.a.toNat tb0).dep (ts.getD f.b.toNat tb0).dep) (ws.length + 1)) : Nat) : Int), .int .i64 (((s1D (depL f (ts.getD f.a.toNat tb0).dep (ts.getD f.b.toNat tb0).dep)) : Nat) : Int), .slice none 0 0], .row 64 6 (vb b6) 1 [.bool false, .bool false, .bool false, .int .i64 0, .int .i64 0, .slice none 0 0], .row 29 6 (vb b3) 1 (fv f)]) (fun K1 hK1 => ?_) (fun _ _ => ?_)
    · -- up to the join
      refine CT.seq ?_
      -- region 7: table.go:25
      refine CT.region ?_
      refine Wl.q rfl rfl (OpQ.fieldAddr D_fa64_0 rfl) ?_
      refine Wl.q rfl rfl (OpQ.indexArr1 D_un60 D_sz4 rfl rfl (by omega)) ?_
      refine Wl.know 30 rfl (add_ptr _ _ _) ?_
      refine Wl.q rfl rfl (OpQ.loadF (b := b7) D_sc4 rfl (by repeat (first | exact Has.here | apply Has.there)) (by rfl)) ?_
      refine Wl.nil ?_
      refine PX.then_n ?_
      refine CT.cond rfl (fun h31 => ?_) (fun h31 => ?_)
      · -- if t31: then
        refine CT.seq ?_
        -- region 8: table.go:26
        refine CT.region ?_
        refine Wl.q rfl rfl (OpQ.indexArr1 D_un61 D_sz3 rfl rfl (by omega)) ?_
        refine Wl.q rfl rfl (OpQ.loadF (b := b9) D_sc3 rfl (by repeat (first | exact Has.here | apply Has.there)) (by rfl)) ?_
        refine Wl.q rfl rfl (OpQ.fieldAddr D_fa64_1 rfl) ?_
        refine Wl.q rfl rfl (OpQ.indexArr1 D_un61 D_sz3 rfl rfl (by omega)) ?_
        refine Wl.know 35 rfl (add_ptr _ _ _) ?_
        refine Wl.g rfl rfl (OpG.storeRow (a := some ⟨b7, 0, none⟩) D_sz3 rfl rfl rfl (by repeat (first | exact Upd.here | apply Upd.there)) (by simp)) ?_
        rintro _ _
        refine Wl.nil ?_
        refine PX.then_n ?_
        -- region 9: table.go:27
        refine CT.region ?_
        refine Wl.q rfl rfl (OpQ.move rfl) ?_
        refine Wl.q rfl rfl (OpQ.indexArr1 D_un61 D_sz3 rfl rfl (by omega)) ?_
        refine Wl.g rfl rfl (OpG.storeRow (a := some ⟨b9, 0, none⟩) D_sz3 rfl rfl rfl (by repeat (first | exact Upd.here | apply Upd.there)) (by simp)) ?_
        rintro _ _
        refine Wl.nil ?_
        exact PX.cut hK1 () trivial ⟨rfl, rfl, rfl, rfl, rfl, rfl, rfl, trivial⟩ (.keep (row_eq (by rw [cnt_t h31]; rfl)) (.keep (row_eq (by rw [s0_t h31]; rfl)) (.keep rfl (.keep rfl .nil))))
      · -- if t31: else
        refine CT.skip ?_
        exact PX.cut hK1 () trivial ⟨rfl, rfl, rfl, rfl, rfl, rfl, rfl, trivial⟩ (.keep (row_eq (by rw [cnt_f h31])) (.keep (row_eq (by rw [s0_f h31])) (.keep rfl (.keep rfl .nil))))
    · -- from the join on
      refine CT.seq ?_
      -- region 10: table.go:29
      refine CT.region ?_
      refine Wl.q rfl rfl (OpQ.move rfl) ?_
      refine Wl.q rfl rfl (OpQ.ushlN (p := 1#64) rfl rfl) ?_
      refine Wl.know 39 (v' := u (1#64 <<< (ws.length + 1))) rfl rfl ?_
      refine Wl.q rfl rfl (OpQ.usub (q := 1#64) rfl rfl) ?_
      refine Wl.q rfl rfl (OpQ.assign rfl) ?_
      refine Wl.nil ?_
      refine PX.then_n ?_
      refine CT.seq ?_
      -- region 11: table.go:30
      refine CT.region ?_
      refine Wl.q rfl rfl (OpQ.indexArr1 D_un61 D_sz3 rfl rfl (by omega)) ?_
      refine Wl.q rfl rfl (OpQ.loadF (b := b9) D_sc3 rfl (by repeat (first | exact Has.here | apply Has.there)) (by rfl)) ?_
      refine Wl.q rfl rfl (OpQ.indexArr1 D_un61 D_sz3 rfl rfl (by omega)) ?_
      refine Wl.q rfl rfl (OpQ.loadF (b := b9) D_sc3 rfl (by repeat (first | exact Has.here | apply Has.there)) (by rfl)) ?_
      refine Wl.q rfl rfl (OpQ.mul rfl rfl (by omega)) ?_
      refine Wl.g rfl rfl (OpG.makeCap1 D_un62 D_in69 rfl rfl (show (((cnt (depL f (ts.getD f.a.toNat tb0).dep (ts.getD f.b.toNat tb0).dep) 0 (ws.length + 1)) : Nat) : Int) * (((cnt (depL f (ts.getD f.a.toNat tb0).dep (ts.getD f.b.toNat tb0).dep) 1 (ws.length + 1)) : Nat) : Int) = (((cnt (depL f (ts.getD f.a.toNat tb0).dep (ts.getD f.b.toNat tb0).dep) 0 (ws.length + 1)) * (cnt (depL f (ts.getD f.a.toNat tb0).dep (ts.getD f.b.toNat tb0).dep) 1 (ws.length + 1)) : Nat) : Int) by push_cast; rfl) (by omega) (by omega)) ?_
      rintro b46 _
      refine Wl.q rfl rfl (OpQ.fieldAddr D_fa64_2 rfl) ?_
      refine Wl.g rfl rfl (OpG.storeRow (a := some ⟨b7, 0, none⟩) D_sz62 rfl rfl rfl (by repeat (first | exact Upd.here | apply Upd.there)) (by simp)) ?_
      rintro _ _
      refine Wl.nil ?_
      refine PX.then_n ?_
      refine CT.seq ?_
      refine CT.seq ?_
      -- region 12: table.go:31
      refine CT.region ?_
      refine Wl.q rfl rfl (OpQ.indexArr1 D_un61 D_sz3 rfl rfl (by omega)) ?_
      refine Wl.q rfl rfl (OpQ.loadF (b := b9) D_sc3 rfl (by repeat (first | exact Has.here | apply Has.there)) (by rfl)) ?_
      refine Wl.q rfl rfl (OpQ.move rfl) ?_
      refine Wl.nil ?_
      refine PX.then_n ?_
      refine CT.block ?_
      -- the loop at region 13
      refine CT.loop (ι := Nat × Option Addr × Nat) (fun (x, a', c') => x ≤ (cnt (depL f (ts.getD f.a.toNat tb0).dep (ts.getD f.b.toNat tb0).dep) 0 (ws.length + 1))) (fun (x, a', c') => [(1, .slice ta ts.length tc), (2, sv ws), (3, .pointer (some ⟨b3, 0, none⟩)), (6, .pointer (some ⟨b6, 0, none⟩)), (7, .pointer (some ⟨b7, 0, none⟩)), (8, .int .i64 (((ws.length + 1) : Nat) : Int)), (9, .pointer (some ⟨b9, 0, none⟩)), (10, u (fullB (ws.length + 1))), (49, .int .i64 (((cnt (depL f (ts.getD f.a.toNat tb0).dep (ts.getD f.b.toNat tb0).dep) 0 (ws.length + 1)) : Nat) : Int)), (50, .int .i64 (x : Int))]) (fun (x, a', c') => [.row 69 1 (.slice a' (rowsTo (evRow f ws (ts.getD f.a.toNat tb0) (ts.getD f.b.toNat tb0)) (cnt (depL f (ts.getD f.a.toNat tb0).dep (ts.getD f.b.toNat tb0).dep) 1 (ws.length + 1)) x 0).length c') (rowsTo (evRow f ws (ts.getD f.a.toNat tb0) (ts.getD f.b.toNat tb0)) (cnt (depL f (ts.getD f.a.toNat tb0).dep (ts.getD f.b.toNat tb0).dep) 1 (ws.length + 1)) x 0).length ((rowsTo (evRow f ws (ts.getD f.a.toNat tb0) (ts.getD f.b.toNat tb0)) (cnt (depL f (ts.getD f.a.toNat tb0).dep (ts.getD f.b.toNat tb0).dep) 1 (ws.length + 1)) x 0).map u), .row 61 2 (vb b9) 1 [.int .i64 (((cnt (depL f (ts.getD f.a.toNat tb0).dep (ts.getD f.b.toNat tb0).dep) 0 (ws.length + 1)) : Nat) : Int), .int .i64 (((cnt (depL f (ts.getD f.a.toNat tb0).dep (ts.getD f.b.toNat tb0).dep) 1 (ws.length + 1)) : Nat) : Int)], .row 64 6 (vb b7) 1 [.bool ((depL f (ts.getD f.a.toNat tb0).dep (ts.getD f.b.toNat tb0).dep).getD 0 false), .bool ((depL f (ts.getD f.a.toNat tb0).dep (ts.getD f.b.toNat tb0).dep).getD 1 false), .bool ((depL f (ts.getD f.a.toNat tb0).dep (ts.getD f.b.toNat tb0).dep).getD 2 false), .int .i64 (((s0D (depL f (ts.getD f.a.toNat tb0).dep (ts.getD f.b.toNat tb0).dep) (ws.length + 1)) : Nat) : Int), .int .i64 (((s1D (depL f (ts.getD f.a.toNat tb0).dep (ts.getD f.b.toNat tb0).dep)) : Nat) : Int), .slice a' (rowsTo (evRow f ws (ts.getD f.a.toNat tb0) (ts.getD f.b.toNat tb0)) (cnt (depL f (ts.getD f.a.toNat tb0).dep (ts.getD f.b.toNat tb0).dep) 1 (ws.length + 1)) x 0).length c'], .row 64 6 (vb b6) 1 [.bool false, .bool false, .bool false, .int .i64 0, .int .i64 0, .slice none 0 0], .row 29 6 (vb b3) 1 (fv f)]) (fun (x, a', c') => (cnt (depL f (ts.getD f.a.toNat tb0).dep (ts.getD f.b.toNat tb0).dep) 0 (ws.length + 1)) - x) (0, some ⟨b46, 0, none⟩, _) (Nat.zero_le _) ⟨rfl, rfl, rfl, rfl, rfl, rfl, rfl, rfl, rfl, rfl, trivial⟩ (HSub.refl _) (fun ⟨x, a', c'⟩ hx K2 hK2 => ?_)
      dsimp only
      refine CT.seq ?_
      -- region 13: table.go:31
      refine CT.region ?_
      refine Wl.q rfl rfl (OpQ.lss rfl rfl) ?_
      refine Wl.nil ?_
      refine PX.then_n ?_
      refine CT.seq ?_
      refine CT.cond rfl (fun h51 => ?_) (fun h51 => ?_)
      · -- if t51: then
        have h51 := of_decide_eq_true h51
        refine CT.skip ?_
        refine PX.then_n ?_
        refine CT.seq ?_
        refine CT.block ?_
        refine CT.seq ?_
        -- region 14: table.go:31
        refine CT.region ?_
        refine Wl.q rfl rfl (OpQ.move rfl) ?_
        refine Wl.q rfl rfl (OpQ.assign rfl) ?_
        refine Wl.nil ?_
        refine PX.then_n ?_
        refine CT.seq ?_
        -- region 15: table.go:32
        refine CT.region ?_
        refine Wl.q rfl rfl (OpQ.indexArr1 D_un61 D_sz3 rfl rfl (by omega)) ?_
        refine Wl.q rfl rfl (OpQ.loadF (b := b9) D_sc3 rfl (by repeat (first | exact Has.here | apply Has.there)) (by rfl)) ?_
        refine Wl.q rfl rfl (OpQ.move rfl) ?_
        refine Wl.nil ?_
        refine PX.then_n ?_
        refine CT.block ?_
        -- the loop at region 16
        refine CT.loop (ι := Nat × Option Addr × Nat) (fun (y, a', c') => y ≤ (cnt (depL f (ts.getD f.a.toNat tb0).dep (ts.getD f.b.toNat tb0).dep) 1 (ws.length + 1))) (fun (y, a', c') => [(1, .slice ta ts.length tc), (2, sv ws), (3, .pointer (some ⟨b3, 0, none⟩)), (6, .pointer (some ⟨b6, 0, none⟩)), (7, .pointer (some ⟨b7, 0, none⟩)), (8, .int .i64 (((ws.length + 1) : Nat) : Int)), (9, .pointer (some ⟨b9, 0, none⟩)), (10, u (fullB (ws.length + 1))), (11, .int .i64 (x : Int)), (49, .int .i64 (((cnt (depL f (ts.getD f.a.toNat tb0).dep (ts.getD f.b.toNat tb0).dep) 0 (ws.length + 1)) : Nat) : Int)), (50, .int .i64 (x : Int)), (54, .int .i64 (((cnt (depL f (ts.getD f.a.toNat tb0).dep (ts.getD f.b.toNat tb0).dep) 1 (ws.length + 1)) : Nat) : Int)), (55, .int .i64 (y : Int))]) (fun (y, a', c') => [.row 69 1 (.slice a' (rowsTo (evRow f ws (ts.getD f.a.toNat tb0) (ts.getD f.b.toNat tb0)) (cnt (depL f (ts.getD f.a.toNat tb0).dep (ts.getD f.b.toNat tb0).dep) 1 (ws.length + 1)) x y).length c') (rowsTo (evRow f ws (ts.getD f.a.toNat tb0) (ts.getD f.b.toNat tb0)) (cnt (depL f (ts.getD f.a.toNat tb0).dep (ts.getD f.b.toNat tb0).dep) 1 (ws.length + 1)) x y).length ((rowsTo (evRow f ws (ts.getD f.a.toNat tb0) (ts.getD f.b.toNat tb0)) (cnt (depL f (ts.getD f.a.toNat tb0).dep (ts.getD f.b.toNat tb0).dep) 1 (ws.length + 1)) x y).map u), .row 61 2 (vb b9) 1 [.int .i64 (((cnt (depL f (ts.getD f.a.toNat tb0).dep (ts.getD f.b.toNat tb0).dep) 0 (ws.length + 1)) : Nat) : Int), .int .i64 (((cnt (depL f (ts.getD f.a.toNat tb0).dep (ts.getD f.b.toNat tb0).dep) 1 (ws.length + 1)) : Nat) : Int)], .row 64 6 (vb b7) 1 [.bool ((depL f (ts.getD f.a.toNat tb0).dep (ts.getD f.b.toNat tb0).dep).getD 0 false), .bool ((depL f (ts.getD f.a.toNat tb0).dep (ts.getD f.b.toNat tb0).dep).getD 1 false), .bool ((depL f (ts.getD f.a.toNat tb0).dep (ts.getD f.b.toNat tb0).dep).getD 2 false), .int .i64 (((s0D (depL f (ts.getD f.a.toNat tb0).dep (ts.getD f.b.toNat tb0).dep) (ws.length + 1)) : Nat) : Int), .int .i64 (((s1D (depL f (ts.getD f.a.toNat tb0).dep (ts.getD f.b.toNat tb0).dep)) : Nat) : Int), .slice a' (rowsTo (evRow f ws (ts.getD f.a.toNat tb0) (ts.getD f.b.toNat tb0)) (cnt (depL f (ts.getD f.a.toNat tb0).dep (ts.getD f.b.toNat tb0).dep) 1 (ws.length + 1)) x y).length c'], .row 64 6 (vb b6) 1 [.bool false, .bool false, .bool false, .int .i64 0, .int .i64 0, .slice none 0 0], .row 29 6 (vb b3) 1 (fv f)]) (fun (y, a', c') => (cnt (depL f (ts.getD f.a.toNat tb0).dep (ts.getD f.b.toNat tb0).dep) 1 (ws.length + 1)) - y) (0, a', c') (Nat.zero_le _) ⟨rfl, rfl, rfl, rfl, rfl, rfl, rfl, rfl, rfl, rfl, rfl, rfl, rfl, trivial⟩ (HSub.refl _) (fun ⟨y, a', c'⟩ hy K3 hK3 => ?_)
        dsimp only
        refine CT.seq ?_
        -- region 16: table.go:32
        refine CT.region ?_
        refine Wl.q rfl rfl (OpQ.lss rfl rfl) ?_
        refine Wl.nil ?_
        refine PX.then_n ?_
        refine CT.seq ?_
        refine CT.cond rfl (fun h56 => ?_) (fun h56 => ?_)
        · -- if t56: then
          have h56 := of_decide_eq_true h56
          refine CT.skip ?_
          refine PX.then_n ?_
          refine CT.seq ?_
          refine CT.block ?_
          refine CT.seq ?_
          -- region 17: table.go:32
          refine CT.region ?_
          refine Wl.q rfl rfl (OpQ.move rfl) ?_
          refine Wl.q rfl rfl (OpQ.assign rfl) ?_
          refine Wl.nil ?_
          refine PX.then_n ?_
          refine CT.seq ?_
          -- region 18: table.go:33
          refine CT.region ?_
          refine Wl.q rfl rfl (OpQ.assign rfl) ?_
          refine Wl.nil ?_
          refine PX.then_n ?_
          refine CT.cut (ι := Unit) (Φ := fun _ => True) (E' := fun _ => [(1, .slice ta ts.length tc), (2, sv ws), (3, .pointer (some ⟨b3, 0, none⟩)), (6, .pointer (some ⟨b6, 0, none⟩)), (7, .pointer (some ⟨b7, 0, none⟩)), (8, .int .i64 (((ws.length + 1) : Nat) : Int)), (9, .pointer (some ⟨b9, 0, none⟩)), (10, u (fullB (ws.length + 1))), (11, .int .i64 (x : Int)), (49, .int .i64 (((cnt (depL f (ts.getD f.a.toNat tb0).dep (ts.getD f.b.toNat tb0).dep) 0 (ws.length + 1)) : Nat) : Int)), (50, .int .i64 (x : Int)), (54, .int .i64 (((cnt (depL f (ts.getD f.a.toNat tb0).dep (ts.getD f.b.toNat tb0).dep) 1 (ws.length + 1)) : Nat) : Int)), (12, .int .i64 (y : Int)), (55, .int .i64 (y : Int)), (13, u ((evRow f ws (ts.getD f.a.toNat tb0) (ts.getD f.b.toNat tb0)) x y))]) (H' := fun _ => [.row 69 1 (.slice a' (rowsTo (evRow f ws (ts.getD f.a.toNat tb0) (ts.getD f.b.toNat tb0)) (cnt (depL f (ts.getD f.a.toNat tb0).dep (ts.getD f.b.toNat tb0).dep) 1 (ws.length + 1)) x y).length c') (rowsTo (evRow f ws (ts.getD f.a.toNat tb0) (ts.getD f.b.toNat tb0)) (cnt (depL f (ts.getD f.a.toNat tb0).dep (ts.getD f.b.toNat tb0).dep) 1 (ws.length + 1)) x y).length ((rowsTo (evRow f ws (ts.getD f.a.toNat tb0) (ts.getD f.b.toNat tb0)) (cnt (depL f (ts.getD f.a.toNat tb0).dep (ts.getD f.b.toNat tb0).dep) 1 (ws.length + 1)) x y).map u), .row 61 2 (vb b9) 1 [.int .i64 (((cnt (depL f (ts.getD f.a.toNat tb0).dep (ts.getD f.b.toNat tb0).dep) 0 (ws.length + 1)) : Nat) : Int), .int .i64 (((cnt (depL f (ts.getD f.a.toNat tb0).dep (ts.getD f.b.toNat tb0).dep) 1 (ws.length + 1)) : Nat) : Int)], .row 64 6 (vb b7) 1 [.bool ((depL f (ts.getD f.a.toNat tb0).dep (ts.getD f.b.toNat tb0).dep).getD 0 false), .bool ((depL f (ts.getD f.a.toNat tb0).dep (ts.getD f.b.toNat tb0).dep).getD 1 false), .bool ((depL f (ts.getD f.a.toNat tb0).dep (ts.getD f.b.toNat tb0).dep).getD 2 false), .int .i64 (((s0D (depL f (ts.getD f.a.toNat tb0).dep (ts.getD f.b.toNat tb0).dep) (ws.length + 1)) : Nat) : Int), .int .i64 (((s1D (depL f (ts.getD f.a.toNat tb0).dep (ts.getD f.b.toNat tb0).dep)) : Nat) : Int), .slice a' (rowsTo (evRow f ws (ts.getD f.a.toNat tb0) (ts.getD f.b.toNat tb0)) (cnt (depL f (ts.getD f.a.toNat tb0).dep (ts.getD f.b.toNat tb0).dep) 1 (ws.length + 1)) x y).length c'], .row 64 6 (vb b6) 1 [.bool false, .bool false, .bool false, .int .i64 0, .int .i64 0, .slice none 0 0], .row 29 6 (vb b3) 1 (fv f)]) (fun K4 hK4 => ?_) (fun _ _ => ?_)
          · -- up to the join
            refine CT.seq ?_
            -- region 19: table.go:34
            refine CT.region ?_
            refine Wl.q rfl rfl (OpQ.fieldAddr D_fa29_0 rfl) ?_
            refine Wl.q rfl rfl (OpQ.loadF (b := b3) D_sc3 rfl (by repeat (first | exact Has.here | apply Has.there)) (by rfl)) ?_
            refine Wl.nil ?_
            refine PX.then_n ?_
            refine CT.block ?_
            refine CT.seq ?_
            -- region 20: table.go:35
            refine CT.region ?_
            refine Wl.q rfl rfl (OpQ.eql rfl rfl) ?_
            refine Wl.q rfl rfl (OpQ.assign rfl) ?_
            refine Wl.nil ?_
            refine PX.then_n ?_
            refine CT.cond rfl (fun h60 => ?_) (fun h60 => ?_)
            · -- if t60: then
              have h60 := of_decide_eq_true h60
              -- region 21: table.go:36
              refine CT.region ?_
              refine Wl.q rfl rfl (OpQ.move rfl) ?_
              refine Wl.q rfl rfl (OpQ.assign rfl) ?_
              refine Wl.nil ?_
              refine PX.block_n ?_
              exact PX.cut hK4 () trivial ⟨rfl, rfl, rfl, rfl, rfl, rfl, rfl, rfl, rfl, rfl, rfl, rfl, rfl, rfl, (lkV rfl (congrArg (fun z => u z) (ev1 h60).symm)), trivial⟩ (HSub.refl _)
            · -- if t60: else
              have h60 := of_decide_eq_false h60
              refine CT.cut (ι := Unit) (Φ := fun _ => True) (E' := fun _ => [(1, .slice ta ts.length tc), (2, sv ws), (3, .pointer (some ⟨b3, 0, none⟩)), (6, .pointer (some ⟨b6, 0, none⟩)), (7, .pointer (some ⟨b7, 0, none⟩)), (8, .int .i64 (((ws.length + 1) : Nat) : Int)), (9, .pointer (some ⟨b9, 0, none⟩)), (10, u (fullB (ws.length + 1))), (11, .int .i64 (x : Int)), (49, .int .i64 (((cnt (depL f (ts.getD f.a.toNat tb0).dep (ts.getD f.b.toNat tb0).dep) 0 (ws.length + 1)) : Nat) : Int)), (50, .int .i64 (x : Int)), (54, .int .i64 (((cnt (depL f (ts.getD f.a.toNat tb0).dep (ts.getD f.b.toNat tb0).dep) 1 (ws.length + 1)) : Nat) : Int)), (12, .int .i64 (y : Int)), (55, .int .i64 (y : Int)), (59, .int .i64 (f.op)), (63, .bool (decide (f.op = 2 ∨ f.op = 3)))]) (H' := fun _ => [.row 69 1 (.slice a' (rowsTo (evRow f ws (ts.getD f.a.toNat tb0) (ts.getD f.b.toNat tb0)) (cnt (depL f (ts.getD f.a.toNat tb0).dep (ts.getD f.b.toNat tb0).dep) 1 (ws.length + 1)) x y).length c') (rowsTo (evRow f ws (ts.getD f.a.toNat tb0) (ts.getD f.b.toNat tb0)) (cnt (depL f (ts.getD f.a.toNat tb0).dep (ts.getD f.b.toNat tb0).dep) 1 (ws.length + 1)) x y).length ((rowsTo (evRow f ws (ts.getD f.a.toNat tb0) (ts.getD f.b.toNat tb0)) (cnt (depL f (ts.getD f.a.toNat tb0).dep (ts.getD f.b.toNat tb0).dep) 1 (ws.length + 1)) x y).map u), .row 61 2 (vb b9) 1 [.int .i64 (((cnt (depL f (ts.getD f.a.toNat tb0).dep (ts.getD f.b.toNat tb0).dep) 0 (ws.length + 1)) : Nat) : Int), .int .i64 (((cnt (depL f (ts.getD f.a.toNat tb0).dep (ts.getD f.b.toNat tb0).dep) 1 (ws.length + 1)) : Nat) : Int)], .row 64 6 (vb b7) 1 [.bool ((depL f (ts.getD f.a.toNat tb0).dep (ts.getD f.b.toNat tb0).dep).getD 0 false), .bool ((depL f (ts.getD f.a.toNat tb0).dep (ts.getD f.b.toNat tb0).dep).getD 1 false), .bool ((depL f (ts.getD f.a.toNat tb0).dep (ts.getD f.b.toNat tb0).dep).getD 2 false), .int .i64 (((s0D (depL f (ts.getD f.a.toNat tb0).dep (ts.getD f.b.toNat tb0).dep) (ws.length + 1)) : Nat) : Int), .int .i64 (((s1D (depL f (ts.getD f.a.toNat tb0).dep (ts.getD f.b.toNat tb0).dep)) : Nat) : Int), .slice a' (rowsTo (evRow f ws (ts.getD f.a.toNat tb0) (ts.getD f.b.toNat tb0)) (cnt (depL f (ts.getD f.a.toNat tb0).dep (ts.getD f.b.toNat tb0).dep) 1 (ws.length + 1)) x y).length c'], .row 64 6 (vb b6) 1 [.bool false, .bool false, .bool false, .int .i64 0, .int .i64 0, .slice none 0 0], .row 29 6 (vb b3) 1 (fv f)]) (fun K5 hK5 => ?_) (fun _ _ => ?_)
              · -- up to the join
                refine CT.seq ?_
                -- region 22: table.go:37
                refine CT.region ?_
                refine Wl.q rfl rfl (OpQ.eql rfl rfl) ?_
                refine Wl.q rfl rfl (OpQ.assign rfl) ?_
                refine Wl.nil ?_
                refine PX.then_n ?_
                refine CT.cond rfl (fun h63 => ?_) (fun h63 => ?_)
                · -- if t63: then
                  have h63 := of_decide_eq_true h63
                  refine CT.skip ?_
                  exact PX.cut hK5 () trivial ⟨rfl, rfl, rfl, rfl, rfl, rfl, rfl, rfl, rfl, rfl, rfl, rfl, rfl, rfl, rfl, (lkV rfl (congrArg Value.bool (by rw [decide_eq_decide]; omega))), trivial⟩ (HSub.refl _)
                · -- if t63: else
                  have h63 := of_decide_eq_false h63
                  -- region 23: table.go:37
                  refine CT.region ?_
                  refine Wl.q rfl rfl (OpQ.eql rfl rfl) ?_
                  refine Wl.q rfl rfl (OpQ.assign rfl) ?_
                  refine Wl.nil ?_
                  exact PX.cut hK5 () trivial ⟨rfl, rfl, rfl, rfl, rfl, rfl, rfl, rfl, rfl, rfl, rfl, rfl, rfl, rfl, rfl, (lkV rfl (congrArg Value.bool (by rw [decide_eq_decide]; omega))), trivial⟩ (HSub.refl _)
              · -- from the join on
                refine CT.cond rfl (fun h63 => ?_) (fun h63 => ?_)
                · -- if t63: then
                  have h63 := of_decide_eq_true h63
                  -- region 24: table.go:38
                  refine CT.region ?_
                  refine Wl.q rfl rfl (OpQ.loadV (b := b3) D_ag29 D_sz29 rfl (by repeat (first | exact Has.here | apply Has.there)) (by rfl)) ?_
                  refine Wl.q rfl rfl (OpQ.move rfl) ?_
                  refine Wl.q rfl rfl (OpQ.move rfl) ?_
                  refine Wl.q rfl rfl (OpQ.move rfl) ?_
                  refine Wl.g rfl rfl (OpG.callV D_go52 rfl (fun w hH => compare_spec w f (px (gx_op.2 (by omega))) (py (gy_op.2 (by omega))) x y ws hws hwk (by omega) (by omega))) ?_
                  rintro _ _
                  refine Wl.q rfl rfl (OpQ.assign rfl) ?_
                  refine Wl.nil ?_
                  refine PX.block_n ?_
                  exact PX.cut hK4 () trivial ⟨rfl, rfl, rfl, rfl, rfl, rfl, rfl, rfl, rfl, rfl, rfl, rfl, rfl, rfl, (lkV rfl (congrArg (fun z => u z) (ev2 h63).symm)), trivial⟩ (HSub.refl _)
                · -- if t63: else
                  have h63 := of_decide_eq_false h63
                  refine CT.seq ?_
                  -- region 25: table.go:39
                  refine CT.region ?_
                  refine Wl.q rfl rfl (OpQ.eql rfl rfl) ?_
                  refine Wl.q rfl rfl (OpQ.assign rfl) ?_
                  refine Wl.nil ?_
                  refine PX.then_n ?_
                  refine CT.cond rfl (fun h71 => ?_) (fun h71 => ?_)
                  · -- if t71: then
                    have h71 := of_decide_eq_true h71
                    obtain ⟨ha1, ha2, ha3⟩ := hA (ga_op.2 (by omega))
                    have hpa := pa (ga_op.2 (by omega))
                    -- region 26: table.go:40
                    refine CT.region ?_
                    refine Wl.q rfl rfl (OpQ.move rfl) ?_
                    refine Wl.q rfl rfl (OpQ.move rfl) ?_
                    refine Wl.q rfl rfl (OpQ.fieldAddr D_fa29_4 rfl) ?_
                    refine Wl.q rfl rfl (OpQ.loadF (b := b3) D_sc3 rfl (by repeat (first | exact Has.here | apply Has.there)) (by rfl)) ?_
                    refine Wl.q rfl rfl (OpQ.index D_un59 D_sz64 rfl rfl ⟨hpa.1, by omega⟩ (st (by omega))) ?_
                    refine Wl.q rfl rfl (OpQ.move rfl) ?_
                    refine Wl.q rfl rfl (OpQ.move rfl) ?_
                    refine Wl.g rfl rfl (OpG.callV D_go34 rfl (fun w hH => row_spec w _ (ts.getD f.a.toNat tb0) ((hH.rd0 hts rfl).at (flat_cells tbv_len ts tb0 ha1)) (hH.rd0 ha3 rfl) x y (by omega) (by omega) ⟨by have := ha2.s0; omega, by have := ha2.s1; omega⟩ (ha2.inn x y (by omega) (by omega)))) ?_
                    rintro _ _
                    refine Wl.q rfl rfl (OpQ.uandNot rfl rfl) ?_
                    refine Wl.q rfl rfl (OpQ.assign rfl) ?_
                    refine Wl.nil ?_
                    refine PX.block_n ?_
                    exact PX.cut hK4 () trivial ⟨rfl, rfl, rfl, rfl, rfl, rfl, rfl, rfl, rfl, rfl, rfl, rfl, rfl, rfl, (lkV rfl (congrArg (fun z => u z) (ev4 h71).symm)), trivial⟩ (HSub.refl _)
                  · -- if t71: else
                    have h71 := of_decide_eq_false h71
                    refine CT.seq ?_
                    -- region 27: table.go:41
                    refine CT.region ?_
                    refine Wl.q rfl rfl (OpQ.eql rfl rfl) ?_
                    refine Wl.q rfl rfl (OpQ.assign rfl) ?_
                    refine Wl.nil ?_
                    refine PX.then_n ?_
                    refine CT.cond rfl (fun h82 => ?_) (fun h82 => ?_)
                    · -- if t82: then
                      have h82 := of_decide_eq_true h82
                      obtain ⟨ha1, ha2, ha3⟩ := hA (ga_op.2 (by omega))
                      have hpa := pa (ga_op.2 (by omega))
                      obtain ⟨hb1, hb2, hb3⟩ := hB (gb_op.2 (by omega))
                      have hpb := pb (gb_op.2 (by omega))
                      -- region 28, drawn: table.go:42
                      refine CT.draw 16 D_mixed ?_
                      refine RA.q 0 (by kernel_rfl) rfl rfl rfl (.refl _) (OpQ.move rfl) ?_
                      refine RA.q 1 (by kernel_rfl) rfl rfl rfl (.refl _) (OpQ.fieldAddr D_fa29_4 rfl) ?_
                      refine RA.q 2 (by kernel_rfl) rfl rfl rfl (.refl _) (OpQ.loadF (b := b3) D_sc3 rfl (by repeat (first | exact Has.here | apply Has.there)) (by rfl)) ?_
                      refine RA.q 3 (by kernel_rfl) rfl rfl rfl (.refl _) (OpQ.index D_un59 D_sz64 rfl rfl ⟨hpa.1, by omega⟩ (st (by omega))) ?_
                      refine RA.q 4 (by kernel_rfl) rfl rfl rfl (.refl _) (OpQ.move rfl) ?_
                      refine RA.q 5 (by kernel_rfl) rfl rfl rfl (.refl _) (OpQ.move rfl) ?_
                      refine RA.q 7 (by kernel_rfl) rfl rfl rfl (.refl _) (OpQ.move rfl) ?_
                      refine RA.q 8 (by kernel_rfl) rfl rfl rfl (.refl _) (OpQ.fieldAddr D_fa29_5 rfl) ?_
                      refine RA.q 9 (by kernel_rfl) rfl rfl rfl (.refl _) (OpQ.loadF (b := b3) D_sc3 rfl (by repeat (first | exact Has.here | apply Has.there)) (by rfl)) ?_
                      refine RA.q 10 (by kernel_rfl) rfl rfl rfl (.refl _) (OpQ.index D_un59 D_sz64 rfl rfl ⟨hpb.1, by omega⟩ (st (by omega))) ?_
                      refine RA.q 11 (by kernel_rfl) rfl rfl rfl (.refl _) (OpQ.move rfl) ?_
                      refine RA.q 12 (by kernel_rfl) rfl rfl rfl (.refl _) (OpQ.move rfl) ?_
                      refine RA.f 6 (by kernel_rfl) rfl rfl rfl (OpG.callV D_go34 rfl (fun w hH => row_spec w _ (ts.getD f.a.toNat tb0) ((hH.rd0 hts rfl).at (flat_cells tbv_len ts tb0 ha1)) (hH.rd0 ha3 rfl) x y (by omega) (by omega) ⟨by have := ha2.s0; omega, by have := ha2.s1; omega⟩ (ha2.inn x y (by omega) (by omega)))) (fun _ _ => (.refl _)) ?_
                      rintro _ _
                      refine RA.f 13 (by kernel_rfl) rfl rfl rfl (OpG.callV D_go34 rfl (fun w hH => row_spec w _ (ts.getD f.b.toNat tb0) ((hH.rd0 hts rfl).at (flat_cells tbv_len ts tb0 hb1)) (hH.rd0 hb3 rfl) x y (by omega) (by omega) ⟨by have := hb2.s0; omega, by have := hb2.s1; omega⟩ (hb2.inn x y (by omega) (by omega)))) (fun _ _ => (.refl _)) ?_
                      rintro _ _
                      refine RA.q 14 (by kernel_rfl) rfl rfl rfl (.refl _) (OpQ.uand rfl rfl) ?_
                      refine RA.q 15 (by kernel_rfl) rfl rfl rfl (.refl _) (OpQ.assign rfl) ?_
                      refine RA.tail ?_
                      refine RT.done (by kernel_rfl) ?_
                      refine PX.block_n ?_
                      exact PX.cut hK4 () trivial ⟨rfl, rfl, rfl, rfl, rfl, rfl, rfl, rfl, rfl, rfl, rfl, rfl, rfl, rfl, (lkV rfl (congrArg (fun z => u z) (ev5 h82).symm)), trivial⟩ (HSub.refl _)
                    · -- if t82: else
                      have h82 := of_decide_eq_false h82
                      refine CT.seq ?_
                      -- region 29: table.go:43
                      refine CT.region ?_
                      refine Wl.q rfl rfl (OpQ.eql rfl rfl) ?_
                      refine Wl.q rfl rfl (OpQ.assign rfl) ?_
                      refine Wl.nil ?_
                      refine PX.then_n ?_
                      refine CT.cond rfl (fun h99 => ?_) (fun h99 => ?_)
                      · -- if t99: then
                        have h99 := of_decide_eq_true h99
                        obtain ⟨ha1, ha2, ha3⟩ := hA (ga_op.2 (by omega))
                        have hpa := pa (ga_op.2 (by omega))
                        obtain ⟨hb1, hb2, hb3⟩ := hB (gb_op.2 (by omega))
                        have hpb := pb (gb_op.2 (by omega))
                        -- region 30, drawn: table.go:44
                        refine CT.draw 16 D_mixed ?_
                        refine RA.q 0 (by kernel_rfl) rfl rfl rfl (.refl _) (OpQ.move rfl) ?_
                        refine RA.q 1 (by kernel_rfl) rfl rfl rfl (.refl _) (OpQ.fieldAddr D_fa29_4 rfl) ?_
                        refine RA.q 2 (by kernel_rfl) rfl rfl rfl (.refl _) (OpQ.loadF (b := b3) D_sc3 rfl (by repeat (first | exact Has.here | apply Has.there)) (by rfl)) ?_
                        refine RA.q 3 (by kernel_rfl) rfl rfl rfl (.refl _) (OpQ.index D_un59 D_sz64 rfl rfl ⟨hpa.1, by omega⟩ (st (by omega))) ?_
                        refine RA.q 4 (by kernel_rfl) rfl rfl rfl (.refl _) (OpQ.move rfl) ?_
                        refine RA.q 5 (by kernel_rfl) rfl rfl rfl (.refl _) (OpQ.move rfl) ?_
                        refine RA.q 7 (by kernel_rfl) rfl rfl rfl (.refl _) (OpQ.move rfl) ?_
                        refine RA.q 8 (by kernel_rfl) rfl rfl rfl (.refl _) (OpQ.fieldAddr D_fa29_5 rfl) ?_
                        refine RA.q 9 (by kernel_rfl) rfl rfl rfl (.refl _) (OpQ.loadF (b := b3) D_sc3 rfl (by repeat (first | exact Has.here | apply Has.there)) (by rfl)) ?_
                        refine RA.q 10 (by kernel_rfl) rfl rfl rfl (.refl _) (OpQ.index D_un59 D_sz64 rfl rfl ⟨hpb.1, by omega⟩ (st (by omega))) ?_
                        refine RA.q 11 (by kernel_rfl) rfl rfl rfl (.refl _) (OpQ.move rfl) ?_
                        refine RA.q 12 (by kernel_rfl) rfl rfl rfl (.refl _) (OpQ.move rfl) ?_
                        refine RA.f 6 (by kernel_rfl) rfl rfl rfl (OpG.callV D_go34 rfl (fun w hH => row_spec w _ (ts.getD f.a.toNat tb0) ((hH.rd0 hts rfl).at (flat_cells tbv_len ts tb0 ha1)) (hH.rd0 ha3 rfl) x y (by omega) (by omega) ⟨by have := ha2.s0; omega, by have := ha2.s1; omega⟩ (ha2.inn x y (by omega) (by omega)))) (fun _ _ => (.refl _)) ?_
                        rintro _ _
                        refine RA.f 13 (by kernel_rfl) rfl rfl rfl (OpG.callV D_go34 rfl (fun w hH => row_spec w _ (ts.getD f.b.toNat tb0) ((hH.rd0 hts rfl).at (flat_cells tbv_len ts tb0 hb1)) (hH.rd0 hb3 rfl) x y (by omega) (by omega) ⟨by have := hb2.s0; omega, by have := hb2.s1; omega⟩ (hb2.inn x y (by omega) (by omega)))) (fun _ _ => (.refl _)) ?_
                        rintro _ _
                        refine RA.q 14 (by kernel_rfl) rfl rfl rfl (.refl _) (OpQ.uor rfl rfl) ?_
                        refine RA.q 15 (by kernel_rfl) rfl rfl rfl (.refl _) (OpQ.assign rfl) ?_
                        refine RA.tail ?_
                        refine RT.done (by kernel_rfl) ?_
                        refine PX.block_n ?_
                        exact PX.cut hK4 () trivial ⟨rfl, rfl, rfl, rfl, rfl, rfl, rfl, rfl, rfl, rfl, rfl, rfl, rfl, rfl, (lkV rfl (congrArg (fun z => u z) (ev6 h99).symm)), trivial⟩ (HSub.refl _)
                      · -- if t99: else
                        have h99 := of_decide_eq_false h99
                        refine CT.seq ?_
                        -- region 31: table.go:45
                        refine CT.region ?_
                        refine Wl.q rfl rfl (OpQ.eql rfl rfl) ?_
                        refine Wl.q rfl rfl (OpQ.assign rfl) ?_
                        refine Wl.nil ?_
                        refine PX.then_n ?_
                        refine CT.cond rfl (fun h116 => ?_) (fun h116 => ?_)
                        · -- if t116: then
                          have h116 := of_decide_eq_true h116
                          obtain ⟨ha1, ha2, ha3⟩ := hA (ga_op.2 (by omega))
                          have hpa := pa (ga_op.2 (by omega))
                          have hpx := px (gx_op.2 (by omega))
                          -- region 32, drawn: table.go:46
                          refine CT.draw 11 D_mixed ?_
                          refine RA.q 0 (by kernel_rfl) rfl rfl rfl (.refl _) (OpQ.fieldAddr D_fa29_1 rfl) ?_
                          refine RA.q 1 (by kernel_rfl) rfl rfl rfl (.refl _) (OpQ.loadF (b := b3) D_sc3 rfl (by repeat (first | exact Has.here | apply Has.there)) (by rfl)) ?_
                          refine RA.q 2 (by kernel_rfl) rfl rfl rfl (.refl _) (OpQ.move rfl) ?_
                          refine RA.q 3 (by kernel_rfl) rfl rfl rfl (.refl _) (OpQ.fieldAddr D_fa29_4 rfl) ?_
                          refine RA.q 4 (by kernel_rfl) rfl rfl rfl (.refl _) (OpQ.loadF (b := b3) D_sc3 rfl (by repeat (first | exact Has.here | apply Has.there)) (by rfl)) ?_
                          refine RA.q 5 (by kernel_rfl) rfl rfl rfl (.refl _) (OpQ.index D_un59 D_sz64 rfl rfl ⟨hpa.1, by omega⟩ (st (by omega))) ?_
                          refine RA.q 6 (by kernel_rfl) rfl rfl rfl (.refl _) (OpQ.move rfl) ?_
                          refine RA.q 7 (by kernel_rfl) rfl rfl rfl (.refl _) (OpQ.move rfl) ?_
                          refine RA.q 8 (by kernel_rfl) rfl rfl rfl (.refl _) (OpQ.move rfl) ?_
                          refine RA.f 9 (by kernel_rfl) rfl rfl rfl (OpG.callV D_go53 rfl (fun w hH => exists_spec w f.x _ (ts.getD f.a.toNat tb0) ((hH.rd0 hts rfl).at (flat_cells tbv_len ts tb0 ha1)) (hH.rd0 ha3 rfl) x y (ws.length + 1) (by omega) (by omega) (by omega) ⟨by have := ha2.s0; omega, by have := ha2.s1; omega⟩ ha2.inn)) (fun _ _ => (.refl _)) ?_
                          rintro _ _
                          refine RA.q 10 (by kernel_rfl) rfl rfl rfl (.refl _) (OpQ.assign rfl) ?_
                          refine RA.tail ?_
                          refine RT.done (by kernel_rfl) ?_
                          refine PX.block_n ?_
                          exact PX.cut hK4 () trivial ⟨rfl, rfl, rfl, rfl, rfl, rfl, rfl, rfl, rfl, rfl, rfl, rfl, rfl, rfl, (lkV rfl (congrArg (fun z => u z) (ev7 h116).symm)), trivial⟩ (HSub.refl _)
                        · -- if t116: else
                          have h116 := of_decide_eq_false h116
                          exact absurd ho (by omega)
          · -- from the join on
            -- region 33: table.go:48
            refine CT.region ?_
            refine Wl.q rfl rfl (OpQ.fieldAddr D_fa64_2 rfl) ?_
            have rlen : x * (cnt (depL f (ts.getD f.a.toNat tb0).dep (ts.getD f.b.toNat tb0).dep) 1 (ws.length + 1)) ≤ 63 * 63 := Nat.mul_le_mul (by omega) (by omega)
            refine Wl.q rfl rfl (OpQ.loadF (b := b7) D_sc62 rfl (by repeat (first | exact Has.here | apply Has.there)) (by rfl)) ?_
            refine Wl.q rfl rfl (OpQ.move rfl) ?_
            refine Wl.g rfl rfl (OpG.lit1 D_un62 D_in69 rfl rfl rfl) ?_
            rintro b131 _
            refine Wl.g rfl rfl (OpG.append D_un62 D_in69 (by rfl) (by decide) rfl rfl (p := 1) rfl (fun w hH => hH.rd .here) ⟨rfl, (by simp [Value.oneCell']), (by rw [rows_len]; omega), (by rw [rows_len]; omega)⟩ (nm := (rowsTo (evRow f ws (ts.getD f.a.toNat tb0) (ts.getD f.b.toNat tb0)) (cnt (depL f (ts.getD f.a.toNat tb0).dep (ts.getD f.b.toNat tb0).dep) 1 (ws.length + 1)) x y).length + 1) rfl (all := ((rowsTo (evRow f ws (ts.getD f.a.toNat tb0) (ts.getD f.b.toNat tb0)) (cnt (depL f (ts.getD f.a.toNat tb0).dep (ts.getD f.b.toNat tb0).dep) 1 (ws.length + 1)) x y) ++ [(evRow f ws (ts.getD f.a.toNat tb0) (ts.getD f.b.toNat tb0)) x y]).map u) (by simp)) ?_
            rintro ⟨a132, c132⟩ h132
            refine Wl.q rfl rfl (OpQ.fieldAddr D_fa64_2 rfl) ?_
            refine Wl.g rfl rfl (OpG.storeRow (a := some ⟨b7, 0, none⟩) D_sz62 rfl rfl rfl (by repeat (first | exact Upd.here | apply Upd.there)) (by simp)) ?_
            rintro _ _
            refine Wl.nil ?_
            refine PX.block_n ?_
            refine PX.then_n ?_
            -- region 34: table.go:32
            refine CT.region ?_
            refine Wl.q rfl rfl (OpQ.add rfl rfl (by omega)) ?_
            refine Wl.q rfl rfl (OpQ.move rfl) ?_
            refine Wl.nil ?_
            refine PX.as (fun _ h => h.take (.cons (.there .here) (.cons (.there .here) (.cons (.there .here) (.cons (.there .here) (.cons (.there .here) .nil)))))) ?_
            exact PX.loop hK3 (y + 1, a132, c132) (show y + 1 ≤ (cnt (depL f (ts.getD f.a.toNat tb0).dep (ts.getD f.b.toNat tb0).dep) 1 (ws.length + 1)) by omega) (show (cnt (depL f (ts.getD f.a.toNat tb0).dep (ts.getD f.b.toNat tb0).dep) 1 (ws.length + 1)) - (y + 1) < (cnt (depL f (ts.getD f.a.toNat tb0).dep (ts.getD f.b.toNat tb0).dep) 1 (ws.length + 1)) - y by omega) ⟨rfl, rfl, rfl, rfl, rfl, rfl, rfl, rfl, rfl, rfl, rfl, rfl, rfl, trivial⟩ (by dsimp only; rw [rows_y, List.length_append]; exact HSub.refl _)
        · -- if t56: else
          have h56 := of_decide_eq_false h56
          refine CT.exit ?_
          refine PX.then_x ?_
          refine PX.then_x ?_
          refine PX.block_x ?_
          refine PX.block_n ?_
          refine PX.then_n ?_
          -- region 35: table.go:31
          refine CT.region ?_
          refine Wl.q rfl rfl (OpQ.add rfl rfl (by omega)) ?_
          refine Wl.q rfl rfl (OpQ.move rfl) ?_
          refine Wl.nil ?_
          obtain rfl : y = (cnt (depL f (ts.getD f.a.toNat tb0).dep (ts.getD f.b.toNat tb0).dep) 1 (ws.length + 1)) := by omega
          exact PX.loop hK2 (x + 1, a', c') (show x + 1 ≤ (cnt (depL f (ts.getD f.a.toNat tb0).dep (ts.getD f.b.toNat tb0).dep) 0 (ws.length + 1)) by omega) (show (cnt (depL f (ts.getD f.a.toNat tb0).dep (ts.getD f.b.toNat tb0).dep) 0 (ws.length + 1)) - (x + 1) < (cnt (depL f (ts.getD f.a.toNat tb0).dep (ts.getD f.b.toNat tb0).dep) 0 (ws.length + 1)) - x by omega) ⟨rfl, rfl, rfl, rfl, rfl, rfl, rfl, rfl, rfl, rfl, trivial⟩ (by dsimp only; rw [rows_x]; exact HSub.refl _)
      · -- if t51: else
        have h51 := of_decide_eq_false h51
        refine CT.exit ?_
        refine PX.then_x ?_
        refine PX.then_x ?_
        refine PX.block_x ?_
        refine PX.then_n ?_
        refine CT.seq ?_
        -- region 36: table.go:51
        refine CT.region ?_
        refine Wl.q rfl rfl (OpQ.loadV (b := b7) D_ag64 D_sz64 rfl (by repeat (first | exact Has.here | apply Has.there)) (by rfl)) ?_
        refine Wl.g rfl rfl (OpG.storeV (b := b6) D_sz64 rfl rfl rfl rfl (by repeat (first | exact Upd.here | apply Upd.there))) ?_
        rintro _ _
        refine Wl.nil ?_
        refine PX.then_n ?_
        refine CT.ret ?_
        refine PX.retC rfl rfl (by repeat (first | exact Has.here | apply Has.there)) D_ag64 D_sz64 (by rfl) (fun w' hH => ?_)
        obtain rfl : x = (cnt (depL f (ts.getD f.a.toNat tb0).dep (ts.getD f.b.toNat tb0).dep) 0 (ws.length + 1)) := by omega
        exact ⟨(a', c'), trivial, rfl, (hH.take (.cons .here .nil)).post⟩

end Go.Proofs.Ytdcjemjfliaaiaa
