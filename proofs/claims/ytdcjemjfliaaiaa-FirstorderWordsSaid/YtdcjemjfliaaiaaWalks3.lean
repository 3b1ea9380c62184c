/-
  What functions of the packages firstorder, semigroupref38 and semigroupmade compute, each by its walk. Conditions: those that each theorem names.
-/
import Derived.Test.YtdcjemjfliaaiaaMod
import Derived.Test.YtdcjemjfliaaiaaWalks2
set_option linter.unusedSimpArgs false
namespace Go.Proofs.Ytdcjemjfliaaiaa
open Go Go.Eng Go.Fo
open Go.Tp (zi)
open Go.Tl (vf mayL Wd okW okB ret_b ret_i bo)

theorem C_ag60 : isAggB Try.prog 60 = some true := by kernel_rfl
theorem C_sz60 : sizeB Try.prog 60 = some 3 := by kernel_rfl
theorem C_in60 : (Try.prog.info? 60).map (fun i => (i.zero, i.size, i.bytes)) = some (some (.agg #[.bool false, .bool false, .bool false]), 3, 3) := by kernel_rfl
theorem C_fa29_0 : fieldB Try.prog 29 0 = some 0 := by kernel_rfl
theorem C_sc3 : scalarB Try.prog 3 = some true := by kernel_rfl
theorem C_go33 : isGo Try.prog 33 = true := by kernel_rfl
theorem C_in67 : (Try.prog.info? 67).map (fun i => (i.zero, i.size, i.bytes)) = some (some (.agg #[.bool false, .bool false, .bool false, .bool false, .bool false, .bool false]), 6, 6) := by kernel_rfl
theorem C_sz67 : sizeB Try.prog 67 = some 6 := by kernel_rfl
theorem C_fa67_3 : fieldB Try.prog 67 3 = some 3 := by kernel_rfl
theorem C_sc4 : scalarB Try.prog 4 = some true := by kernel_rfl
theorem C_fa29_4 : fieldB Try.prog 29 4 = some 4 := by kernel_rfl
theorem C_un59 : Try.prog.underlying 59 = some (.slice 64) := by kernel_rfl
theorem C_sz64 : sizeB Try.prog 64 = some 6 := by kernel_rfl
theorem C_fa64_0 : fieldB Try.prog 64 0 = some 0 := by kernel_rfl
theorem C_fa67_4 : fieldB Try.prog 67 4 = some 4 := by kernel_rfl
theorem C_fa29_5 : fieldB Try.prog 29 5 = some 5 := by kernel_rfl
theorem C_un60 : Try.prog.underlying 60 = some (.array 3 4) := by kernel_rfl
theorem C_sz4 : sizeB Try.prog 4 = some 1 := by kernel_rfl
theorem C_fa29_1 : fieldB Try.prog 29 1 = some 1 := by kernel_rfl
theorem C_fa67_0 : fieldB Try.prog 67 0 = some 0 := by kernel_rfl
theorem C_mixed : Try.prog.follows .mixedOrders = true := by kernel_rfl
theorem C_fa29_2 : fieldB Try.prog 29 2 = some 2 := by kernel_rfl
set_option maxRecDepth 100000 in
/-- semigroup/firstorder.dependence -/
theorem dependence_spec (w : World) (f : Fm) (ta : Option Addr) (tc : Nat) (ts : List Tb) (hts : Rd w ta (ts.flatMap tbv)) (i : Nat) (l : Int) (hok : okF f i l = true) (hA : ga f.op = true → f.a.toNat < ts.length ∧ (ts.getD f.a.toNat tb0).dep.length = 3) (hB : gb f.op = true → f.b.toNat < ts.length ∧ (ts.getD f.b.toNat tb0).dep.length = 3) : Calls Try.prog 51 #[.agg (fv f).toArray, .slice ta ts.length tc] w (fun e w' => e = .returned (.agg (l3 ((depL f (ts.getD f.a.toNat tb0).dep (ts.getD f.b.toNat tb0).dep))).toArray) ∧ Ext [] w w') := by
  obtain ⟨ho, px, py, _, pa, pb⟩ := ok_parts hok
  have st : 0 < ts.length → ta.isSome = true := fun h => hts.isSome (j := 0) (by rw [flat_len tbv_len]; omega)
  have hl1 := dep1_len (f := f) (d := (ts.getD f.a.toNat tb0).dep) (fun h => (hA h).2)
  have hl2 := dep2_len (f := f) (da := (ts.getD f.a.toNat tb0).dep) (db := (ts.getD f.b.toNat tb0).dep) (fun h => (hA h).2)
  refine enter (args := [.agg (fv f).toArray, .slice ta ts.length tc]) [] 56 Try.func51 rfl rfl rfl ?_
  refine CT.seq ?_
  -- region 0: table.go:55
  refine CT.region ?_
  refine Wl.g rfl rfl (OpG.box (size := 6) rfl rfl rfl) ?_
  rintro b2 _
  refine Wl.g rfl rfl (OpG.alloc (zs := [.bool false, .bool false, .bool false]) C_in60 rfl rfl) ?_
  rintro b4 _
  refine Wl.nil ?_
  refine PX.then_n ?_
  refine CT.seq ?_
  -- region 1: table.go:56
  refine CT.region ?_
  refine Wl.g rfl rfl (OpG.alloc (zs := [.bool false, .bool false, .bool false]) C_in60 rfl rfl) ?_
  rintro b5 _
  refine Wl.nil ?_
  refine PX.then_n ?_
  refine CT.seq ?_
  -- region 2: table.go:57
  refine CT.region ?_
  refine Wl.q rfl rfl (OpQ.fieldAddr C_fa29_0 rfl) ?_
  refine Wl.q rfl rfl (OpQ.loadF (b := b2) C_sc3 rfl (by repeat (first | exact Has.here | apply Has.there)) (by rfl)) ?_
  refine Wl.g rfl rfl (OpG.callV C_go33 rfl (fun w hH => fieldsOf_spec w _)) ?_
  rintro _ _
  refine Wl.g rfl rfl (OpG.alloc (zs := [.bool false, .bool false, .bool false, .bool false, .bool false, .bool false]) C_in67 rfl rfl) ?_
  rintro b6 _
  refine Wl.g rfl rfl (OpG.storeV (b := b6) C_sz67 rfl rfl rfl rfl (by repeat (first | exact Upd.here | apply Upd.there))) ?_
  rintro _ _
  refine Wl.nil ?_
  refine PX.then_n ?_
  refine CT.cut (ι := Unit) (Φ := fun _ => True) (E' := fun _ => [(1, .slice ta ts.length tc), (2, .pointer (some ⟨b2, 0, none⟩)), (4, .pointer (some ⟨b4, 0, none⟩)), (5, .pointer (some ⟨b5, 0, none⟩)), (6, .pointer (some ⟨b6, 0, none⟩))]) (H' := fun _ => [.row 67 6 (vb b6) 1 [.bool (gx f.op), .bool (gy f.op), .bool (gl f.op), .bool (ga f.op), .bool (gb f.op), .bool (gk f.op)], .row 60 3 (vb b5) 1 (l3 (dep1 f (ts.getD f.a.toNat tb0).dep)), .row 60 3 (vb b4) 1 [.bool false, .bool false, .bool false], .row 29 6 (vb b2) 1 (fv f)]) (fun K0 hK0 => ?_) (fun _ _ => ?_)
  · -- up to the join
    refine CT.seq ?_
    -- region 3: table.go:58
    refine CT.region ?_
    refine Wl.q rfl rfl (OpQ.fieldAddr C_fa67_3 rfl) ?_
    refine Wl.q rfl rfl (OpQ.loadF (b := b6) C_sc4 rfl (by repeat (first | exact Has.here | apply Has.there)) (by rfl)) ?_
    refine Wl.nil ?_
    refine PX.then_n ?_
    refine CT.cond rfl (fun h13 => ?_) (fun h13 => ?_)
    · -- if t13: then
      obtain ⟨ha1, ha2⟩ := hA h13
      have hpa := pa h13
      -- region 4: table.go:59
      refine CT.region ?_
      refine Wl.q rfl rfl (OpQ.move rfl) ?_
      refine Wl.q rfl rfl (OpQ.fieldAddr C_fa29_4 rfl) ?_
      refine Wl.q rfl rfl (OpQ.loadF (b := b2) C_sc3 rfl (by repeat (first | exact Has.here | apply Has.there)) (by rfl)) ?_
      refine Wl.q rfl rfl (OpQ.index C_un59 C_sz64 rfl rfl ⟨hpa.1, by omega⟩ (st (by omega))) ?_
      refine Wl.q rfl rfl (OpQ.fieldAddr C_fa64_0 rfl) ?_
      refine Wl.q rfl rfl (OpQ.loadAggGF (cs := l3 (ts.getD f.a.toNat tb0).dep) C_ag60 C_sz60 rfl (fun w hH => hH.rd0 hts rfl) (tb_dep ha1)) ?_
      refine Wl.g rfl rfl (OpG.storeV (b := b5) C_sz60 rfl rfl rfl rfl (by repeat (first | exact Upd.here | apply Upd.there))) ?_
      rintro _ _
      refine Wl.nil ?_
      exact PX.cut hK0 () trivial ⟨rfl, rfl, rfl, rfl, rfl, trivial⟩ (.keep rfl (.keep (row_eq (by rw [dep1_t h13])) (.keep rfl (.keep rfl .nil))))
    · -- if t13: else
      refine CT.skip ?_
      exact PX.cut hK0 () trivial ⟨rfl, rfl, rfl, rfl, rfl, trivial⟩ (.keep rfl (.keep (row_eq (by rw [dep1_f h13]; rfl)) (.keep rfl (.keep rfl .nil))))
  · -- from the join on
    refine CT.cut (ι := Unit) (Φ := fun _ => True) (E' := fun _ => [(1, .slice ta ts.length tc), (2, .pointer (some ⟨b2, 0, none⟩)), (4, .pointer (some ⟨b4, 0, none⟩)), (5, .pointer (some ⟨b5, 0, none⟩)), (6, .pointer (some ⟨b6, 0, none⟩))]) (H' := fun _ => [.row 67 6 (vb b6) 1 [.bool (gx f.op), .bool (gy f.op), .bool (gl f.op), .bool (ga f.op), .bool (gb f.op), .bool (gk f.op)], .row 60 3 (vb b5) 1 (l3 (dep2 f (ts.getD f.a.toNat tb0).dep (ts.getD f.b.toNat tb0).dep)), .row 60 3 (vb b4) 1 [.bool false, .bool false, .bool false], .row 29 6 (vb b2) 1 (fv f)]) (fun K1 hK1 => ?_) (fun _ _ => ?_)
    · -- up to the join
      refine CT.seq ?_
      -- region 5: table.go:61
      refine CT.region ?_
      refine Wl.q rfl rfl (OpQ.fieldAddr C_fa67_4 rfl) ?_
      refine Wl.q rfl rfl (OpQ.loadF (b := b6) C_sc4 rfl (by repeat (first | exact Has.here | apply Has.there)) (by rfl)) ?_
      refine Wl.nil ?_
      refine PX.then_n ?_
      refine CT.cond rfl (fun h21 => ?_) (fun h21 => ?_)
      · -- if t21: then
        obtain ⟨hb1, hb2⟩ := hB h21
        have hpb := pb h21
        refine CT.seq ?_
        -- region 6: table.go:62
        refine CT.region ?_
        refine Wl.q rfl rfl (OpQ.move rfl) ?_
        refine Wl.q rfl rfl (OpQ.fieldAddr C_fa29_5 rfl) ?_
        refine Wl.q rfl rfl (OpQ.loadF (b := b2) C_sc3 rfl (by repeat (first | exact Has.here | apply Has.there)) (by rfl)) ?_
        refine Wl.q rfl rfl (OpQ.index C_un59 C_sz64 rfl rfl ⟨hpb.1, by omega⟩ (st (by omega))) ?_
        refine Wl.q rfl rfl (OpQ.fieldAddr C_fa64_0 rfl) ?_
        refine Wl.q rfl rfl (OpQ.loadAggGF (cs := l3 (ts.getD f.b.toNat tb0).dep) C_ag60 C_sz60 rfl (fun w hH => hH.rd0 hts rfl) (tb_dep hb1)) ?_
        refine Wl.q rfl rfl (OpQ.move rfl) ?_
        refine Wl.nil ?_
        refine PX.then_n ?_
        refine CT.block ?_
        -- the loop at region 7
        refine CT.loop (ι := Nat) (fun k => k ≤ 3) (fun k => [(1, .slice ta ts.length tc), (2, .pointer (some ⟨b2, 0, none⟩)), (4, .pointer (some ⟨b4, 0, none⟩)), (5, .pointer (some ⟨b5, 0, none⟩)), (6, .pointer (some ⟨b6, 0, none⟩)), (27, .agg (l3 ((ts.getD f.b.toNat tb0).dep)).toArray), (28, .int .i64 (k : Int))]) (fun k => [.row 67 6 (vb b6) 1 [.bool (gx f.op), .bool (gy f.op), .bool (gl f.op), .bool (ga f.op), .bool (gb f.op), .bool (gk f.op)], .row 60 3 (vb b5) 1 (l3 (depOr (dep1 f (ts.getD f.a.toNat tb0).dep) (ts.getD f.b.toNat tb0).dep k)), .row 60 3 (vb b4) 1 [.bool false, .bool false, .bool false], .row 29 6 (vb b2) 1 (fv f)]) (fun k => 3 - k) 0 (by omega) ⟨rfl, rfl, rfl, rfl, rfl, rfl, rfl, trivial⟩ (.keep rfl (.keep (row_eq (rfl)) (.keep rfl (.keep rfl .nil)))) (fun k hk K2 hK2 => ?_)
        have hlo : (depOr (dep1 f (ts.getD f.a.toNat tb0).dep) (ts.getD f.b.toNat tb0).dep k).length = 3 := by rw [depOr_len, hl1]
        refine CT.seq ?_
        -- region 7: table.go:62
        refine CT.region ?_
        refine Wl.q rfl rfl (OpQ.lss rfl rfl) ?_
        refine Wl.nil ?_
        refine PX.then_n ?_
        refine CT.seq ?_
        refine CT.cond rfl (fun h29 => ?_) (fun h29 => ?_)
        · -- if t29: then
          have h29 := of_decide_eq_true h29
          refine CT.skip ?_
          refine PX.then_n ?_
          refine CT.seq ?_
          refine CT.block ?_
          refine CT.seq ?_
          -- region 8: table.go:62
          refine CT.region ?_
          refine Wl.q rfl rfl (OpQ.move rfl) ?_
          refine Wl.q rfl rfl (OpQ.indexAgg1 C_un60 C_sc4 C_sz4 rfl rfl (by omega) (l3_arr (by omega))) ?_
          refine Wl.q rfl rfl (OpQ.assign rfl) ?_
          refine Wl.q rfl rfl (OpQ.assign rfl) ?_
          refine Wl.nil ?_
          refine PX.then_n ?_
          -- region 9: table.go:63
          refine CT.region ?_
          refine Wl.q rfl rfl (OpQ.move rfl) ?_
          refine Wl.q rfl rfl (OpQ.move rfl) ?_
          refine Wl.q rfl rfl (OpQ.indexArr1 C_un60 C_sz4 rfl rfl (by omega)) ?_
          refine Wl.q rfl rfl (OpQ.loadF (b := b5) C_sc4 rfl (by repeat (first | exact Has.here | apply Has.there)) (l3_get (by omega))) ?_
          refine Wl.q rfl rfl (OpQ.move rfl) ?_
          refine Wl.split 36 rfl (fun hg36 => ?_) (fun hg36 => ?_)
          · -- t36 = True
            rw [Int.toNat_natCast] at hg36
            refine Wl.skip rfl rfl ?_
            refine Wl.q rfl rfl (OpQ.pickT rfl rfl) ?_
            refine Wl.q rfl rfl (OpQ.indexArr1 C_un60 C_sz4 rfl rfl (by omega)) ?_
            refine Wl.g rfl rfl (OpG.storeRow (a := some ⟨b5, 0, none⟩) C_sz4 rfl rfl rfl (by repeat (first | exact Upd.here | apply Upd.there)) (by show k < 3; omega)) ?_
            rintro _ _
            refine Wl.nil ?_
            refine PX.block_n ?_
            refine PX.then_n ?_
            -- region 10: table.go:62
            refine CT.region ?_
            refine Wl.q rfl rfl (OpQ.add rfl rfl (by omega)) ?_
            refine Wl.q rfl rfl (OpQ.move rfl) ?_
            refine Wl.nil ?_
            exact PX.loop hK2 (k + 1) (by omega) (by first | omega | (dsimp only; omega)) ⟨rfl, rfl, rfl, rfl, rfl, rfl, rfl, trivial⟩ (.keep rfl (.keep (row_eq (by rw [depOr, hg36, Bool.true_or, l3_set hlo (by omega)]; rfl)) (.keep rfl (.keep rfl .nil))))
          · -- t36 = False
            rw [Int.toNat_natCast] at hg36
            refine Wl.q rfl rfl (OpQ.move rfl) ?_
            refine Wl.q rfl rfl (OpQ.pickF rfl rfl) ?_
            refine Wl.q rfl rfl (OpQ.indexArr1 C_un60 C_sz4 rfl rfl (by omega)) ?_
            refine Wl.g rfl rfl (OpG.storeRow (a := some ⟨b5, 0, none⟩) C_sz4 rfl rfl rfl (by repeat (first | exact Upd.here | apply Upd.there)) (by show k < 3; omega)) ?_
            rintro _ _
            refine Wl.nil ?_
            refine PX.block_n ?_
            refine PX.then_n ?_
            -- region 10: table.go:62
            refine CT.region ?_
            refine Wl.q rfl rfl (OpQ.add rfl rfl (by omega)) ?_
            refine Wl.q rfl rfl (OpQ.move rfl) ?_
            refine Wl.nil ?_
            exact PX.loop hK2 (k + 1) (by omega) (by first | omega | (dsimp only; omega)) ⟨rfl, rfl, rfl, rfl, rfl, rfl, rfl, trivial⟩ (.keep rfl (.keep (row_eq (by rw [depOr, hg36, Bool.false_or, l3_set hlo (by omega)]; rfl)) (.keep rfl (.keep rfl .nil))))
        · -- if t29: else
          have h29 := of_decide_eq_false h29
          refine CT.exit ?_
          refine PX.then_x ?_
          refine PX.then_x ?_
          refine PX.block_x ?_
          obtain rfl : k = 3 := by omega
          exact PX.cut hK1 () trivial ⟨rfl, rfl, rfl, rfl, rfl, trivial⟩ (.keep rfl (.keep (row_eq (by rw [dep2_t h21])) (.keep rfl (.keep rfl .nil))))
      · -- if t21: else
        refine CT.skip ?_
        exact PX.cut hK1 () trivial ⟨rfl, rfl, rfl, rfl, rfl, trivial⟩ (.keep rfl (.keep (row_eq (by rw [dep2_f h21])) (.keep rfl (.keep rfl .nil))))
    · -- from the join on
      refine CT.cut (ι := Unit) (Φ := fun _ => True) (E' := fun _ => [(2, .pointer (some ⟨b2, 0, none⟩)), (4, .pointer (some ⟨b4, 0, none⟩)), (5, .pointer (some ⟨b5, 0, none⟩)), (6, .pointer (some ⟨b6, 0, none⟩))]) (H' := fun _ => [.row 67 6 (vb b6) 1 [.bool (gx f.op), .bool (gy f.op), .bool (gl f.op), .bool (ga f.op), .bool (gb f.op), .bool (gk f.op)], .row 60 3 (vb b5) 1 (l3 ((depL f (ts.getD f.a.toNat tb0).dep (ts.getD f.b.toNat tb0).dep))), .row 60 3 (vb b4) 1 [.bool false, .bool false, .bool false], .row 29 6 (vb b2) 1 (fv f)]) (fun K3 hK3 => ?_) (fun _ _ => ?_)
      · -- up to the join
        refine CT.seq ?_
        -- region 11: table.go:66
        refine CT.region ?_
        refine Wl.q rfl rfl (OpQ.fieldAddr C_fa29_0 rfl) ?_
        refine Wl.q rfl rfl (OpQ.loadF (b := b2) C_sc3 rfl (by repeat (first | exact Has.here | apply Has.there)) (by rfl)) ?_
        refine Wl.q rfl rfl (OpQ.eql rfl rfl) ?_
        refine Wl.nil ?_
        refine PX.then_n ?_
        refine CT.cond rfl (fun h43 => ?_) (fun h43 => ?_)
        · -- if t43: then
          have h43 := of_decide_eq_true h43
          have hx := px (by rw [gx_op]; omega)
          -- region 12: table.go:67
          refine CT.region ?_
          refine Wl.q rfl rfl (OpQ.fieldAddr C_fa29_1 rfl) ?_
          refine Wl.q rfl rfl (OpQ.loadF (b := b2) C_sc3 rfl (by repeat (first | exact Has.here | apply Has.there)) (by rfl)) ?_
          refine Wl.q rfl rfl (OpQ.indexArr1 C_un60 C_sz4 rfl rfl (by omega)) ?_
          refine Wl.g rfl rfl (OpG.storeRow (a := some ⟨b5, 0, none⟩) C_sz4 rfl rfl rfl (by repeat (first | exact Upd.here | apply Upd.there)) (by show f.x.toNat < 3; omega)) ?_
          rintro _ _
          refine Wl.nil ?_
          exact PX.cut hK3 () trivial ⟨rfl, rfl, rfl, rfl, trivial⟩ (.keep rfl (.keep (row_eq (by rw [depL_7 h43, l3_set hl2 (by omega)])) (.keep rfl (.keep rfl .nil))))
        · -- if t43: else
          have h43 := of_decide_eq_false h43
          refine CT.seq ?_
          -- region 13: table.go:68
          refine CT.region ?_
          refine Wl.q rfl rfl (OpQ.fieldAddr C_fa67_0 rfl) ?_
          refine Wl.q rfl rfl (OpQ.loadF (b := b6) C_sc4 rfl (by repeat (first | exact Has.here | apply Has.there)) (by rfl)) ?_
          refine Wl.nil ?_
          refine PX.then_n ?_
          refine CT.cond rfl (fun h48 => ?_) (fun h48 => ?_)
          · -- if t48: then
            have hx := px h48
            have hy := py (gx_y h48 h43)
            -- region 14, drawn: table.go:69
            refine CT.draw' (Hc := [.row 29 6 (vb b2) 1 (fv f)]) 7 C_mixed ?_
            refine RA.q 0 (by kernel_rfl) rfl rfl rfl (.cons _ (.cons _ (.cons _ (.cons_cons _ (.refl _))))) (OpQ.fieldAddr C_fa29_1 rfl) ?_
            refine RA.q 1 (by kernel_rfl) rfl rfl rfl (.cons _ (.cons _ (.cons _ (.cons_cons _ (.refl _))))) (OpQ.loadF (b := b2) C_sc3 rfl (by repeat (first | exact Has.here | apply Has.there)) (by rfl)) ?_
            refine RA.q 2 (by kernel_rfl) rfl rfl rfl (.cons _ (.cons _ (.cons _ (.cons_cons _ (.refl _))))) (OpQ.fieldAddr C_fa29_2 rfl) ?_
            refine RA.q 3 (by kernel_rfl) rfl rfl rfl (.cons _ (.cons _ (.cons _ (.cons_cons _ (.refl _))))) (OpQ.loadF (b := b2) C_sc3 rfl (by repeat (first | exact Has.here | apply Has.there)) (by rfl)) ?_
            refine RA.q 4 (by kernel_rfl) rfl rfl rfl (.cons _ (.cons _ (.cons _ (.cons_cons _ (.refl _))))) (OpQ.indexArr1 C_un60 C_sz4 rfl rfl (by omega)) ?_
            refine RA.f 5 (by kernel_rfl) rfl rfl rfl (OpG.storeRow (a := some ⟨b5, 0, none⟩) C_sz4 rfl rfl rfl (by repeat (first | exact Upd.here | apply Upd.there)) (by show f.x.toNat < 3; omega)) (fun _ _ => (.cons _ (.cons _ (.cons _ (.cons_cons _ (.refl _)))))) ?_
            rintro _ _
            refine RA.q 6 (by kernel_rfl) rfl rfl rfl (.cons _ (.cons _ (.cons _ (.cons_cons _ (.refl _))))) (OpQ.indexArr1 C_un60 C_sz4 rfl rfl (by omega)) ?_
            refine RA.tail ?_
            refine RT.f 7 (by kernel_rfl) rfl rfl rfl (OpG.storeRow (a := some ⟨b5, 0, none⟩) C_sz4 rfl rfl rfl (by repeat (first | exact Upd.here | apply Upd.there)) (by rw [List.length_set]; show f.y.toNat < 3; omega)) ?_
            rintro _ _
            refine RT.done (by kernel_rfl) ?_
            exact PX.cut hK3 () trivial ⟨rfl, rfl, rfl, rfl, trivial⟩ (.keep rfl (.keep (row_eq (by rw [depL_x h43 h48, l3_set (by rw [List.length_set, hl2]) (by omega), l3_set hl2 (by omega)])) (.keep rfl (.keep rfl .nil))))
          · -- if t48: else
            refine CT.skip ?_
            exact PX.cut hK3 () trivial ⟨rfl, rfl, rfl, rfl, trivial⟩ (.keep rfl (.keep (row_eq (by rw [depL_n h43 h48])) (.keep rfl (.keep rfl .nil))))
      · -- from the join on
        refine CT.seq ?_
        -- region 15: table.go:71
        refine CT.region ?_
        refine Wl.q rfl rfl (OpQ.loadV (b := b5) C_ag60 C_sz60 rfl (by repeat (first | exact Has.here | apply Has.there)) (by rfl)) ?_
        refine Wl.g rfl rfl (OpG.storeV (b := b4) C_sz60 rfl rfl rfl rfl (by repeat (first | exact Upd.here | apply Upd.there))) ?_
        rintro _ _
        refine Wl.nil ?_
        refine PX.then_n ?_
        refine CT.ret ?_
        refine PX.retC rfl rfl (by repeat (first | exact Has.here | apply Has.there)) C_ag60 C_sz60 (by rfl) (fun w' hH => ?_)
        exact ⟨rfl, hH.ext⟩

end Go.Proofs.Ytdcjemjfliaaiaa
