/-
  What functions of the packages firstorder, semigroupref38 and semigroupmade compute, each by its walk. Conditions: those that each theorem names.
-/
import Derived.Test.YtdcjemjfliaaiaaMod
import Derived.Test.YtdcjemjfliaaiaaWalks6
set_option linter.unusedSimpArgs false
namespace Go.Proofs.Ytdcjemjfliaaiaa
open Go Go.Eng Go.Fo
open Go.Tp (zi)
open Go.Tl (vf mayL Wd okW okB ret_b ret_i bo)

theorem L_un22 : Try.prog.underlying 22 = some (.slice 3) := by kernel_rfl
theorem L_in3 : (Try.prog.info? 3).map (fun i => (i.zero, i.size, i.bytes)) = some (some (.int .i64 0), 1, 8) := by kernel_rfl
theorem L_go19 : isGo Try.prog 19 = true := by kernel_rfl
theorem L_un26 : Try.prog.underlying 26 = some (.slice 29) := by kernel_rfl
theorem L_sz29 : sizeB Try.prog 29 = some 6 := by kernel_rfl
theorem L_ag29 : isAggB Try.prog 29 = some true := by kernel_rfl
theorem L_in29 : (Try.prog.info? 29).map (fun i => (i.zero, i.size, i.bytes)) = some (some (.agg #[.int .i64 0, .int .i64 0, .int .i64 0, .int .i64 0, .int .i64 0, .int .i64 0]), 6, 48) := by kernel_rfl
theorem L_fa29_0 : fieldB Try.prog 29 0 = some 0 := by kernel_rfl
theorem L_sc3 : scalarB Try.prog 3 = some true := by kernel_rfl
theorem L_go41 : isGo Try.prog 41 = true := by kernel_rfl
theorem L_fa29_4 : fieldB Try.prog 29 4 = some 4 := by kernel_rfl
theorem L_sz3 : sizeB Try.prog 3 = some 1 := by kernel_rfl
theorem L_mixed : Try.prog.follows .mixedOrders = true := by kernel_rfl
theorem L_fa29_5 : fieldB Try.prog 29 5 = some 5 := by kernel_rfl
set_option maxRecDepth 100000 in
/-- semigroup/semigroupref38.Depth -/
theorem depthR_spec (w : World) (a : Option Addr) (cp : Nat) (xs : List Fm) (hr : Rd w a (xs.flatMap fv)) (hn : xs.length ≤ 9223372036854775807) (root : Int) : Calls Try.prog 20 #[.slice a xs.length cp, .int .i64 (root)] w (fun e w' => e = .returned (.int .i64 (depB xs root)) ∧ Ext [] w w') := by
  have sm : 0 < xs.length → a.isSome = true := fun h => hr.isSome (j := 0) (by rw [flat_len fv_len]; omega)
  refine enter (args := [.slice a xs.length cp, .int .i64 (root)]) [] 73 Try.func20 rfl rfl rfl ?_
  refine CT.seq ?_
  -- region 0: ref.go:106
  refine CT.region ?_
  refine Wl.q rfl rfl (OpQ.assign rfl) ?_
  refine Wl.nil ?_
  refine PX.then_n ?_
  refine CT.seq ?_
  refine CT.seq ?_
  -- region 1: ref.go:107
  refine CT.region ?_
  refine Wl.q rfl rfl (OpQ.move rfl) ?_
  refine Wl.q rfl rfl (OpQ.move rfl) ?_
  refine Wl.g rfl rfl (OpG.callV L_go19 rfl (fun w hH => validateR_spec w a cp xs (hH.rd0 hr rfl) hn root 6)) ?_
  rintro _ _
  refine Wl.q rfl rfl (OpQ.neq rfl rfl) ?_
  refine Wl.nil ?_
  refine PX.then_n ?_
  refine CT.cond rfl (fun h15 => ?_) (fun h15 => ?_)
  · -- if t15: then
    have hv : ¬ vdF xs root 6 = 0 := by simpa using h15
    refine CT.seq ?_
    -- region 2: ref.go:108
    refine CT.region ?_
    refine Wl.q rfl rfl (OpQ.assign rfl) ?_
    refine Wl.nil ?_
    refine PX.then_n ?_
    refine CT.ret ?_
    refine PX.then_r ?_
    refine PX.ret1 rfl rfl (fun w' hH => ?_)
    exact ⟨ret_i (by rw [depB, if_neg hv]), hH.ext⟩
  · -- if t15: else
    have hv : vdF xs root 6 = 0 := by simpa using h15
    obtain ⟨hl, hok, hr0, hr1⟩ := vd_zero hv
    obtain ⟨rt, rfl⟩ := Int.eq_ofNat_of_zero_le hr0
    have hrt : rt < xs.length := by omega
    refine CT.skip ?_
    refine PX.then_n ?_
    refine CT.seq ?_
    -- region 3: ref.go:110
    refine CT.region ?_
    refine Wl.q rfl rfl (OpQ.move rfl) ?_
    refine Wl.q rfl rfl (OpQ.len L_un26 rfl) ?_
    refine Wl.g rfl rfl (OpG.make1 L_un22 L_in3 rfl rfl rfl rfl (by omega) (by omega)) ?_
    rintro b18 _
    refine Wl.q rfl rfl (OpQ.assign rfl) ?_
    refine Wl.nil ?_
    refine PX.then_n ?_
    refine CT.seq ?_
    refine CT.seq ?_
    -- region 4: ref.go:111
    refine CT.region ?_
    refine Wl.q rfl rfl (OpQ.move rfl) ?_
    refine Wl.q rfl rfl (OpQ.len L_un26 rfl) ?_
    refine Wl.q rfl rfl (OpQ.move rfl) ?_
    refine Wl.nil ?_
    refine PX.then_n ?_
    refine CT.block ?_
    -- the loop at region 5
    refine CT.loop (ι := Nat × List Int) (fun (i, dv) => i ≤ xs.length ∧ DJ xs xs.length i 0 dv) (fun (i, dv) => [(1, .int .i64 (rt : Int)), (5, .slice (some ⟨b18, 0, none⟩) xs.length xs.length), (19, .slice a xs.length cp), (20, .int .i64 (xs.length : Int)), (21, .int .i64 (i : Int))]) (fun (i, dv) => [.row 3 1 (.slice (some ⟨b18, 0, none⟩) xs.length xs.length) xs.length ((dv).map zi)]) (fun (i, dv) => xs.length - i) (0, List.replicate xs.length 0) ⟨by omega, DJ_0 _ _⟩ ⟨rfl, rfl, rfl, rfl, rfl, trivial⟩ (.keep (row_eq (by simp)) .nil) (fun ⟨i, dv⟩ ⟨hi, hdi⟩ K0 hK0 => ?_)
    dsimp only
    refine CT.seq ?_
    -- region 5: ref.go:111
    refine CT.region ?_
    refine Wl.q rfl rfl (OpQ.lss rfl rfl) ?_
    refine Wl.nil ?_
    refine PX.then_n ?_
    refine CT.seq ?_
    refine CT.cond rfl (fun h22 => ?_) (fun h22 => ?_)
    · -- if t22: then
      have h22 := of_decide_eq_true h22
      have hokk := okL_get hok (j := i) (by omega)
      obtain ⟨_, _, _, _, pa, pb⟩ := ok_parts hokk
      have hde := dp_eq hok (i := i) (by omega)
      refine CT.skip ?_
      refine PX.then_n ?_
      refine CT.seq ?_
      refine CT.block ?_
      refine CT.seq ?_
      -- region 6: ref.go:111
      refine CT.region ?_
      refine Wl.q rfl rfl (OpQ.move rfl) ?_
      refine Wl.q rfl rfl (OpQ.index L_un26 L_sz29 rfl rfl (by omega) (sm (by omega))) ?_
      refine Wl.q rfl rfl (OpQ.loadAggG (cs := fv (xs.getD i f0)) L_ag29 L_sz29 rfl (fun w hH => hH.rd0 hr rfl) (flat_cells fv_len xs f0 (by omega))) ?_
      refine Wl.g rfl rfl (OpG.alloc (zs := [.int .i64 0, .int .i64 0, .int .i64 0, .int .i64 0, .int .i64 0, .int .i64 0]) L_in29 rfl rfl) ?_
      rintro b7 _
      refine Wl.q rfl rfl (OpQ.assign rfl) ?_
      refine Wl.g rfl rfl (OpG.storeV (b := b7) L_sz29 rfl rfl rfl rfl (by repeat (first | exact Upd.here | apply Upd.there))) ?_
      rintro _ _
      refine Wl.nil ?_
      refine PX.then_n ?_
      refine CT.seq ?_
      -- region 7: ref.go:112
      refine CT.region ?_
      refine Wl.q rfl rfl (OpQ.fieldAddr L_fa29_0 rfl) ?_
      refine Wl.q rfl rfl (OpQ.loadF (b := b7) L_sc3 rfl (by repeat (first | exact Has.here | apply Has.there)) (by rfl)) ?_
      refine Wl.g rfl rfl (OpG.callV L_go41 rfl (fun w hH => refers_spec w _)) ?_
      rintro _ _
      refine Wl.q rfl rfl (OpQ.move rfl) ?_
      refine Wl.q rfl rfl (OpQ.extract rfl rfl) ?_
      refine Wl.q rfl rfl (OpQ.extract rfl rfl) ?_
      refine Wl.q rfl rfl (OpQ.extract rfl rfl) ?_
      refine Wl.q rfl rfl (OpQ.extract rfl rfl) ?_
      refine Wl.q rfl rfl (OpQ.assign rfl) ?_
      refine Wl.q rfl rfl (OpQ.assign rfl) ?_
      refine Wl.q rfl rfl (OpQ.assign rfl) ?_
      refine Wl.q rfl rfl (OpQ.assign rfl) ?_
      refine Wl.nil ?_
      refine PX.then_n ?_
      refine CT.cut (ι := List Int) (Φ := fun dv => DJ xs xs.length i (if ga (xs.getD i f0).op then (dp xs (xs.getD i f0).a.toNat) else 0) dv) (E' := fun _ => [(1, .int .i64 (rt : Int)), (5, .slice (some ⟨b18, 0, none⟩) xs.length xs.length), (19, .slice a xs.length cp), (20, .int .i64 (xs.length : Int)), (6, .int .i64 (i : Int)), (7, .pointer (some ⟨b7, 0, none⟩)), (8, .int .i64 (rn (xs.getD i f0).op)), (21, .int .i64 (i : Int))]) (H' := fun dv => [.row 29 6 (vb b7) 1 (fv (xs.getD i f0)), .row 3 1 (.slice (some ⟨b18, 0, none⟩) xs.length xs.length) xs.length ((dv).map zi)]) (fun K1 hK1 => ?_) (fun dv hdj => ?_)
      · -- up to the join
        refine CT.seq ?_
        -- region 8: ref.go:113
        refine CT.region ?_
        refine Wl.q rfl rfl (OpQ.move rfl) ?_
        refine Wl.q rfl rfl (OpQ.gtr rfl rfl) ?_
        refine Wl.know 35 (v' := .bool (ga (xs.getD i f0).op)) rfl (congrArg Value.bool (rn_a _)) ?_
        refine Wl.nil ?_
        refine PX.then_n ?_
        refine CT.cond rfl (fun h35 => ?_) (fun h35 => ?_)
        · -- if t35: then
          have ha := pa h35
          have hdl := hdi.len
          -- region 9: ref.go:114
          refine CT.region ?_
          refine Wl.q rfl rfl (OpQ.move rfl) ?_
          refine Wl.q rfl rfl (OpQ.move rfl) ?_
          refine Wl.q rfl rfl (OpQ.move rfl) ?_
          refine Wl.q rfl rfl (OpQ.fieldAddr L_fa29_4 rfl) ?_
          refine Wl.q rfl rfl (OpQ.loadF (b := b7) L_sc3 rfl (by repeat (first | exact Has.here | apply Has.there)) (by rfl)) ?_
          refine Wl.q rfl rfl (OpQ.index1 L_un22 L_sz3 rfl rfl ⟨ha.1, by omega⟩ rfl) ?_
          refine Wl.q rfl rfl (OpQ.loadRow L_sc3 rfl (.there .here) (getMap zi dv 0 (j := (xs.getD i f0).a.toNat) (by omega))) ?_
          refine Wl.know 42 (v' := .int .i64 (dp xs (xs.getD i f0).a.toNat)) rfl (congrArg (Value.int .i64) (hdi.lt _ (by omega))) ?_
          refine Wl.q rfl rfl (OpQ.index1 L_un22 L_sz3 rfl rfl (by omega) rfl) ?_
          refine Wl.g rfl rfl (OpG.storeRow L_sz3 rfl rfl rfl (.there .here) (by rw [List.length_map, hdl]; show i < _; omega)) ?_
          rintro _ _
          refine Wl.nil ?_
          exact PX.cut hK1 (dv.set i (dp xs (xs.getD i f0).a.toNat)) (by rw [if_pos h35]; exact DJ_set hdi (by omega)) ⟨rfl, rfl, rfl, rfl, rfl, rfl, rfl, rfl, trivial⟩ (.keep rfl (.keep (row_eq (by rw [zset]; rfl)) .nil))
        · -- if t35: else
          refine CT.skip ?_
          exact PX.cut hK1 dv (by rw [h35]; exact hdi) ⟨rfl, rfl, rfl, rfl, rfl, rfl, rfl, rfl, trivial⟩ (HSub.refl _)
      · -- from the join on
        refine CT.cut (ι := List Int) (Φ := fun dv => DJ xs xs.length i (if gb (xs.getD i f0).op then mx (if ga (xs.getD i f0).op then (dp xs (xs.getD i f0).a.toNat) else 0) (dp xs (xs.getD i f0).b.toNat) else (if ga (xs.getD i f0).op then (dp xs (xs.getD i f0).a.toNat) else 0)) dv) (E' := fun _ => [(1, .int .i64 (rt : Int)), (5, .slice (some ⟨b18, 0, none⟩) xs.length xs.length), (19, .slice a xs.length cp), (20, .int .i64 (xs.length : Int)), (6, .int .i64 (i : Int)), (7, .pointer (some ⟨b7, 0, none⟩)), (8, .int .i64 (rn (xs.getD i f0).op)), (21, .int .i64 (i : Int))]) (H' := fun dv => [.row 29 6 (vb b7) 1 (fv (xs.getD i f0)), .row 3 1 (.slice (some ⟨b18, 0, none⟩) xs.length xs.length) xs.length ((dv).map zi)]) (fun K2 hK2 => ?_) (fun dv hdj => ?_)
        · -- up to the join
          refine CT.seq ?_
          -- region 10: ref.go:116
          refine CT.region ?_
          refine Wl.q rfl rfl (OpQ.move rfl) ?_
          refine Wl.q rfl rfl (OpQ.gtr rfl rfl) ?_
          refine Wl.know 45 (v' := .bool (gb (xs.getD i f0).op)) rfl (congrArg Value.bool (rn_b _)) ?_
          refine Wl.nil ?_
          refine PX.then_n ?_
          refine CT.cond rfl (fun h45 => ?_) (fun h45 => ?_)
          · -- if t45: then
            have hb := pb h45
            have hdl := hdj.len
            -- region 11, drawn: ref.go:117
            refine CT.draw 13 L_mixed ?_
            refine RA.q 0 (by kernel_rfl) rfl rfl rfl (.refl _) (OpQ.move rfl) ?_
            refine RA.q 1 (by kernel_rfl) rfl rfl rfl (.refl _) (OpQ.move rfl) ?_
            refine RA.q 2 (by kernel_rfl) rfl rfl rfl (.refl _) (OpQ.move rfl) ?_
            refine RA.q 3 (by kernel_rfl) rfl rfl rfl (.refl _) (OpQ.move rfl) ?_
            refine RA.q 4 (by kernel_rfl) rfl rfl rfl (.refl _) (OpQ.index1 L_un22 L_sz3 rfl rfl (by omega) rfl) ?_
            refine RA.q 5 (by kernel_rfl) rfl rfl rfl (.refl _) (OpQ.loadRow L_sc3 rfl (.there .here) (getMap zi dv 0 (j := i) (by omega))) ?_
            refine RA.know 51 (v' := .int .i64 (if ga (xs.getD i f0).op then (dp xs (xs.getD i f0).a.toNat) else 0)) rfl (congrArg (Value.int .i64) hdj.at_) ?_
            refine RA.q 6 (by kernel_rfl) rfl rfl rfl (.refl _) (OpQ.move rfl) ?_
            refine RA.q 7 (by kernel_rfl) rfl rfl rfl (.refl _) (OpQ.fieldAddr L_fa29_5 rfl) ?_
            refine RA.q 8 (by kernel_rfl) rfl rfl rfl (.refl _) (OpQ.loadF (b := b7) L_sc3 rfl (by repeat (first | exact Has.here | apply Has.there)) (by rfl)) ?_
            refine RA.q 9 (by kernel_rfl) rfl rfl rfl (.refl _) (OpQ.index1 L_un22 L_sz3 rfl rfl ⟨hb.1, by omega⟩ rfl) ?_
            refine RA.q 10 (by kernel_rfl) rfl rfl rfl (.refl _) (OpQ.loadRow L_sc3 rfl (.there .here) (getMap zi dv 0 (j := (xs.getD i f0).b.toNat) (by omega))) ?_
            refine RA.know 56 (v' := .int .i64 (dp xs (xs.getD i f0).b.toNat)) rfl (congrArg (Value.int .i64) (hdj.lt _ (by omega))) ?_
            refine RA.q 11 (by kernel_rfl) rfl rfl rfl (.refl _) (OpQ.max rfl rfl) ?_
            refine RA.q 12 (by kernel_rfl) rfl rfl rfl (.refl _) (OpQ.index1 L_un22 L_sz3 rfl rfl (by omega) rfl) ?_
            refine RA.tail ?_
            refine RT.f 13 (by kernel_rfl) rfl rfl rfl (OpG.storeRow L_sz3 rfl rfl rfl (.there .here) (by rw [List.length_map, hdl]; show i < _; omega)) ?_
            rintro _ _
            refine RT.done (by kernel_rfl) ?_
            exact PX.cut hK2 (dv.set i (mx (if ga (xs.getD i f0).op then (dp xs (xs.getD i f0).a.toNat) else 0) (dp xs (xs.getD i f0).b.toNat))) (by rw [if_pos h45]; exact DJ_set hdj (by omega)) ⟨rfl, rfl, rfl, rfl, rfl, rfl, rfl, rfl, trivial⟩ (.keep rfl (.keep (row_eq (by rw [zset]; rfl)) .nil))
          · -- if t45: else
            refine CT.skip ?_
            exact PX.cut hK2 dv (by rw [if_neg (by rw [h45]; decide)]; exact hdj) ⟨rfl, rfl, rfl, rfl, rfl, rfl, rfl, rfl, trivial⟩ (HSub.refl _)
        · -- from the join on
          refine CT.seq ?_
          -- region 12: ref.go:119
          refine CT.region ?_
          refine Wl.q rfl rfl (OpQ.fieldAddr L_fa29_0 rfl) ?_
          refine Wl.q rfl rfl (OpQ.loadF (b := b7) L_sc3 rfl (by repeat (first | exact Has.here | apply Has.there)) (by rfl)) ?_
          refine Wl.q rfl rfl (OpQ.eql rfl rfl) ?_
          refine Wl.nil ?_
          refine PX.then_n ?_
          refine CT.cond rfl (fun h61 => ?_) (fun h61 => ?_)
          · -- if t61: then
            have h61 := of_decide_eq_true h61
            have hdl := hdj.len
            have hlim : 0 ≤ (if gb (xs.getD i f0).op then mx (if ga (xs.getD i f0).op then (dp xs (xs.getD i f0).a.toNat) else 0) (dp xs (xs.getD i f0).b.toNat) else (if ga (xs.getD i f0).op then (dp xs (xs.getD i f0).a.toNat) else 0)) ∧ (if gb (xs.getD i f0).op then mx (if ga (xs.getD i f0).op then (dp xs (xs.getD i f0).a.toNat) else 0) (dp xs (xs.getD i f0).b.toNat) else (if ga (xs.getD i f0).op then (dp xs (xs.getD i f0).a.toNat) else 0)) ≤ 200000 := by
              have h1 := dp_le hok (i := i) (by omega)
              have h2 := (dstep_of (f := (xs.getD i f0)) (da := (dp xs (xs.getD i f0).a.toNat)) (db := (dp xs (xs.getD i f0).b.toNat)) rfl rfl).1 h61
              rw [← hde] at h2
              have h3 := dstep2_nn (f := (xs.getD i f0)) (fun h => (dp_le hok (i := (xs.getD i f0).a.toNat) (by have := pa h; omega)).1) (fun h => (dp_le hok (i := (xs.getD i f0).b.toNat) (by have := pb h; omega)).1)
              omega
            -- region 13: ref.go:120
            refine CT.region ?_
            refine Wl.q rfl rfl (OpQ.move rfl) ?_
            refine Wl.q rfl rfl (OpQ.move rfl) ?_
            refine Wl.q rfl rfl (OpQ.index1 L_un22 L_sz3 rfl rfl (by omega) rfl) ?_
            refine Wl.q rfl rfl (OpQ.loadRow L_sc3 rfl (.there .here) (getMap zi dv 0 (j := i) (by omega))) ?_
            refine Wl.know 65 (v' := .int .i64 (if gb (xs.getD i f0).op then mx (if ga (xs.getD i f0).op then (dp xs (xs.getD i f0).a.toNat) else 0) (dp xs (xs.getD i f0).b.toNat) else (if ga (xs.getD i f0).op then (dp xs (xs.getD i f0).a.toNat) else 0))) rfl (congrArg (Value.int .i64) hdj.at_) ?_
            refine Wl.q rfl rfl (OpQ.add rfl rfl (by omega)) ?_
            refine Wl.q rfl rfl (OpQ.index1 L_un22 L_sz3 rfl rfl (by omega) rfl) ?_
            refine Wl.g rfl rfl (OpG.storeRow L_sz3 rfl rfl rfl (.there .here) (by rw [List.length_map, hdl]; show i < _; omega)) ?_
            rintro _ _
            refine Wl.nil ?_
            refine PX.block_n ?_
            refine PX.then_n ?_
            -- region 14: ref.go:111
            refine CT.region ?_
            refine Wl.q rfl rfl (OpQ.add rfl rfl (by omega)) ?_
            refine Wl.q rfl rfl (OpQ.move rfl) ?_
            refine Wl.nil ?_
            exact PX.loop hK0 (i + 1, dv.set i ((if gb (xs.getD i f0).op then mx (if ga (xs.getD i f0).op then (dp xs (xs.getD i f0).a.toNat) else 0) (dp xs (xs.getD i f0).b.toNat) else (if ga (xs.getD i f0).op then (dp xs (xs.getD i f0).a.toNat) else 0)) + 1)) ⟨by omega, DJ_next (DJ_set hdj (by omega)) (by rw [hde]; exact (dstep_of rfl rfl).1 h61)⟩ (show xs.length - (i + 1) < xs.length - i by omega) ⟨rfl, rfl, rfl, rfl, rfl, trivial⟩ (.drop (.keep (row_eq (by rw [zset]; rfl)) .nil))
          · -- if t61: else
            have h61 := of_decide_eq_false h61
            refine CT.skip ?_
            refine PX.block_n ?_
            refine PX.then_n ?_
            -- region 14: ref.go:111
            refine CT.region ?_
            refine Wl.q rfl rfl (OpQ.add rfl rfl (by omega)) ?_
            refine Wl.q rfl rfl (OpQ.move rfl) ?_
            refine Wl.nil ?_
            exact PX.loop hK0 (i + 1, dv) ⟨by omega, DJ_next hdj (by rw [hde]; exact (dstep_of rfl rfl).2 h61)⟩ (show xs.length - (i + 1) < xs.length - i by omega) ⟨rfl, rfl, rfl, rfl, rfl, trivial⟩ (.drop (.keep rfl .nil))
    · -- if t22: else
      have h22 := of_decide_eq_false h22
      refine CT.exit ?_
      refine PX.then_x ?_
      refine PX.then_x ?_
      refine PX.block_x ?_
      refine PX.then_n ?_
      refine CT.seq ?_
      -- region 15: ref.go:123
      refine CT.region ?_
      refine Wl.q rfl rfl (OpQ.move rfl) ?_
      refine Wl.q rfl rfl (OpQ.move rfl) ?_
      refine Wl.q rfl rfl (OpQ.index1 L_un22 L_sz3 rfl rfl (by omega) rfl) ?_
      refine Wl.q rfl rfl (OpQ.loadRow L_sc3 rfl .here (getMap zi dv 0 (j := rt) (by have := hdi.len; omega))) ?_
      refine Wl.q rfl rfl (OpQ.assign rfl) ?_
      refine Wl.nil ?_
      refine PX.then_n ?_
      refine CT.ret ?_
      refine PX.ret1 rfl rfl (fun w' hH => ?_)
      obtain rfl : i = xs.length := by omega
      exact ⟨ret_i (by rw [depB, if_pos hv]; exact hdi.lt rt (by omega)), hH.ext⟩

theorem L_un9 : Try.prog.underlying 9 = some .string := by kernel_rfl
theorem L_un95 : Try.prog.underlying 95 = some (.slice 4) := by kernel_rfl
theorem L_in4 : (Try.prog.info? 4).map (fun i => (i.zero, i.size, i.bytes)) = some (some (.bool false), 1, 1) := by kernel_rfl
theorem L_sz4 : sizeB Try.prog 4 = some 1 := by kernel_rfl
theorem L_sc4 : scalarB Try.prog 4 = some true := by kernel_rfl
theorem L_un96 : Try.prog.underlying 96 = some (.slice 95) := by kernel_rfl
theorem L_in95 : (Try.prog.info? 95).map (fun i => (i.zero, i.size, i.bytes)) = some (some (.slice none 0 0), 1, 24) := by kernel_rfl
theorem L_sz95 : sizeB Try.prog 95 = some 1 := by kernel_rfl
theorem L_sc95 : scalarB Try.prog 95 = some true := by kernel_rfl
theorem L_fa29_2 : fieldB Try.prog 29 2 = some 2 := by kernel_rfl
theorem L_fa29_1 : fieldB Try.prog 29 1 = some 1 := by kernel_rfl
theorem L_un5 : Try.prog.underlying 5 = some (.int .u8) := by kernel_rfl
theorem L_un3 : Try.prog.underlying 3 = some (.int .i64) := by kernel_rfl
theorem L_fa29_3 : fieldB Try.prog 29 3 = some 3 := by kernel_rfl
set_option maxRecDepth 100000 in
/-- semigroup/semigroupref38.Values -/
theorem values_spec (w : World) (a : Option Addr) (cp : Nat) (xs : List Fm) (hr : Rd w a (xs.flatMap fv)) (hn : xs.length ≤ 200000) (rt : Nat) (hrt : rt < xs.length) (hok : okL xs 6 = true) (ws : Wd) (hws : ws.length ≤ 40) (hwk : okW ws 6 = true) : Calls Try.prog 44 #[.slice a xs.length cp, .int .i64 (rt : Int), sv ws] w (fun e w' => ∃ i : List Ob × List Nat × Option Addr × Nat, (i.2.2.1.isSome = true ∧ i.1.length = rt + 1 ∧ (i.1.getD rt ob0).a.isSome = true ∧ (i.1.getD rt ob0).vs = valT (sat xs ws rt) (ws.length + 1) ((ws.length + 1) * (ws.length + 1) * (ws.length + 1))) ∧ e = .returned (.slice i.2.2.1 (rt + 1) i.2.2.2) ∧ Post [] [.frag i.2.1 (obs i.1), .row 95 1 (.slice i.2.2.1 (rt + 1) i.2.2.2) (rt + 1) (i.1.map obv)] w w') := by
  have sm : 0 < xs.length → a.isSome = true := fun h => hr.isSome (j := 0) (by rw [flat_len fv_len]; omega)
  have hm2 : ((ws.length + 1) * (ws.length + 1)) ≤ 41 * 41 := Nat.mul_le_mul (by omega) (by omega)
  have hm3 : ((ws.length + 1) * (ws.length + 1) * (ws.length + 1)) ≤ 41 * 41 * 41 := Nat.mul_le_mul hm2 (by omega)
  have hm20 : 1 ≤ ((ws.length + 1) * (ws.length + 1)) := Nat.mul_le_mul (show 1 ≤ (ws.length + 1) by omega) (show 1 ≤ (ws.length + 1) by omega)
  refine enter (args := [.slice a xs.length cp, .int .i64 (rt : Int), sv ws]) [] 315 Try.func44 rfl rfl rfl ?_
  refine CT.seq ?_
  -- region 0: ref.go:50
  refine CT.region ?_
  refine Wl.q rfl rfl (OpQ.assign rfl) ?_
  refine Wl.nil ?_
  refine PX.then_n ?_
  refine CT.seq ?_
  -- region 1: ref.go:51
  refine CT.region ?_
  refine Wl.q rfl rfl (OpQ.move rfl) ?_
  refine Wl.q rfl rfl (OpQ.lenSv L_un9 rfl) ?_
  refine Wl.q rfl rfl (OpQ.add rfl rfl (by omega)) ?_
  refine Wl.know 24 (v' := .int .i64 (((ws.length + 1) : Nat) : Int)) rfl (congrArg (Value.int .i64) (by omega)) ?_
  refine Wl.q rfl rfl (OpQ.assign rfl) ?_
  refine Wl.nil ?_
  refine PX.then_n ?_
  refine CT.seq ?_
  -- region 2: ref.go:52
  refine CT.region ?_
  refine Wl.q rfl rfl (OpQ.move rfl) ?_
  refine Wl.q rfl rfl (OpQ.add rfl rfl (by omega)) ?_
  refine Wl.g rfl rfl (OpG.make1 L_un95 L_in4 rfl rfl rfl (show (rt : Int) + 1 = ((rt + 1 : Nat) : Int) by omega) (by omega) (by omega)) ?_
  rintro b27 _
  refine Wl.q rfl rfl (OpQ.assign rfl) ?_
  refine Wl.nil ?_
  refine PX.then_n ?_
  refine CT.seq ?_
  -- region 3: ref.go:53
  refine CT.region ?_
  refine Wl.q rfl rfl (OpQ.move rfl) ?_
  refine Wl.q rfl rfl (OpQ.move rfl) ?_
  refine Wl.q rfl rfl (OpQ.index1 L_un95 L_sz4 rfl rfl (by omega) rfl) ?_
  refine Wl.g rfl rfl (OpG.storeRow L_sz4 rfl rfl rfl .here (by simp)) ?_
  rintro _ _
  refine Wl.nil ?_
  refine PX.then_n ?_
  refine CT.seq ?_
  refine CT.seq ?_
  -- region 4: ref.go:54
  refine CT.region ?_
  refine Wl.q rfl rfl (OpQ.move rfl) ?_
  refine Wl.q rfl rfl (OpQ.assign rfl) ?_
  refine Wl.nil ?_
  refine PX.then_n ?_
  refine CT.block ?_
  -- the loop at region 5
  refine CT.loop (ι := Nat × List Bool) (fun (n, nd) => n ≤ rt + 1 ∧ ND xs rt n nd) (fun (n, nd) => [(0, .slice a xs.length cp), (1, .int .i64 (rt : Int)), (2, sv ws), (7, .int .i64 (((ws.length + 1) : Nat) : Int)), (8, .slice (some ⟨b27, 0, none⟩) (rt + 1) (rt + 1)), (9, .int .i64 ((n : Int) - 1))]) (fun (n, nd) => [.row 4 1 (.slice (some ⟨b27, 0, none⟩) (rt + 1) (rt + 1)) (rt + 1) ((nd).map bo)]) (fun (n, nd) => n) (rt + 1, (List.replicate (rt + 1) false).set rt true) ⟨by omega, ND_start⟩ ⟨rfl, rfl, rfl, rfl, rfl, (lkV rfl (congrArg (Value.int .i64) (by omega))), trivial⟩ (.keep (row_eq (by rw [List.map_set]; simp)) .nil) (fun ⟨n, nd⟩ ⟨hn1, hnd⟩ K0 hK0 => ?_)
  dsimp only
  refine CT.seq ?_
  refine CT.seq ?_
  -- region 5: ref.go:54
  refine CT.region ?_
  refine Wl.q rfl rfl (OpQ.move rfl) ?_
  refine Wl.q rfl rfl (OpQ.geq rfl rfl) ?_
  refine Wl.nil ?_
  refine PX.then_n ?_
  refine CT.cond rfl (fun h33 => ?_) (fun h33 => ?_)
  · -- if t33: then
    have h33 := of_decide_eq_true h33
    obtain ⟨i, rfl⟩ : ∃ i, n = i + 1 := ⟨n - 1, by omega⟩
    refine CT.know 9 (v' := .int .i64 (i : Int)) rfl (congrArg (Value.int .i64) (by omega)) ?_
    have hokk := okL_get hok (j := i) (by omega)
    obtain ⟨ho, px, py, _, pa, pb⟩ := ok_parts hokk
    have hndl := hnd.len
    refine CT.skip ?_
    refine PX.then_n ?_
    refine CT.seq ?_
    refine CT.block ?_
    refine CT.seq ?_
    -- region 7: ref.go:55
    refine CT.region ?_
    refine Wl.q rfl rfl (OpQ.move rfl) ?_
    refine Wl.q rfl rfl (OpQ.move rfl) ?_
    refine Wl.q rfl rfl (OpQ.index L_un26 L_sz29 rfl rfl (by omega) (sm (by omega))) ?_
    refine Wl.q rfl rfl (OpQ.fieldAddr L_fa29_0 rfl) ?_
    refine Wl.q rfl rfl (OpQ.loadGF L_sc3 rfl (fun w hH => hH.rd0 hr rfl) (flat_cells fv_len xs f0 (j := i) (by omega) 0 _ rfl)) ?_
    refine Wl.g rfl rfl (OpG.callV L_go41 rfl (fun w hH => refers_spec w _)) ?_
    rintro _ _
    refine Wl.q rfl rfl (OpQ.move rfl) ?_
    refine Wl.q rfl rfl (OpQ.extract rfl rfl) ?_
    refine Wl.q rfl rfl (OpQ.extract rfl rfl) ?_
    refine Wl.q rfl rfl (OpQ.extract rfl rfl) ?_
    refine Wl.q rfl rfl (OpQ.extract rfl rfl) ?_
    refine Wl.q rfl rfl (OpQ.assign rfl) ?_
    refine Wl.q rfl rfl (OpQ.assign rfl) ?_
    refine Wl.q rfl rfl (OpQ.assign rfl) ?_
    refine Wl.q rfl rfl (OpQ.assign rfl) ?_
    refine Wl.nil ?_
    refine PX.then_n ?_
    refine CT.cut (ι := List Bool) (Φ := fun nd2 => ND xs rt (i + 1) nd2 ∧ (ga (xs.getD i f0).op = true → nd2.getD i false = true → nd2.getD (xs.getD i f0).a.toNat false = true)) (E' := fun _ => [(0, .slice a xs.length cp), (1, .int .i64 (rt : Int)), (2, sv ws), (7, .int .i64 (((ws.length + 1) : Nat) : Int)), (8, .slice (some ⟨b27, 0, none⟩) (rt + 1) (rt + 1)), (9, .int .i64 (i : Int)), (10, .int .i64 (rn (xs.getD i f0).op))]) (H' := fun nd2 => [.row 4 1 (.slice (some ⟨b27, 0, none⟩) (rt + 1) (rt + 1)) (rt + 1) ((nd2).map bo)]) (fun K1 hK1 => ?_) (fun nd2 ⟨hnd2, hua⟩ => ?_)
    · -- up to the join
      refine CT.weak (E' := [(0, _), (1, _), (2, _), (7, _), (8, _), (9, _), (10, _)]) (by repeat (first | exact trivial | refine ⟨rfl, ?_⟩)) (HSub.refl _) ?_
      refine CT.cutB 54 (nd.getD i false && ga (xs.getD i f0).op) (fun K2 hK2 => ?_) ?_
      · -- up to the join
        -- region 8: ref.go:56
        refine CT.region ?_
        refine Wl.q rfl rfl (OpQ.move rfl) ?_
        refine Wl.q rfl rfl (OpQ.move rfl) ?_
        refine Wl.q rfl rfl (OpQ.index1 L_un95 L_sz4 rfl rfl (by omega) rfl) ?_
        refine Wl.q rfl rfl (OpQ.loadRow L_sc4 rfl .here (getMap bo nd false (j := i) (by omega))) ?_
        refine Wl.q rfl rfl (OpQ.move rfl) ?_
        refine Wl.split 51 rfl (fun hg51 => ?_) (fun hg51 => ?_)
        · -- t51 = True
          refine Wl.q rfl rfl (OpQ.move rfl) ?_
          refine Wl.q rfl rfl (OpQ.gtr rfl rfl) ?_
          refine Wl.know 53 (v' := .bool (ga (xs.getD i f0).op)) rfl (congrArg Value.bool (rn_a _)) ?_
          refine Wl.q rfl rfl (OpQ.pickT rfl rfl) ?_
          refine Wl.nil ?_
          exact PX.cutB hK2 ⟨lkV rfl (congrArg Value.bool (by rw [hg51]; rfl)), (by repeat (first | exact trivial | refine ⟨rfl, ?_⟩))⟩ (HSub.refl _)
        · -- t51 = False
          refine Wl.skip rfl rfl ?_
          refine Wl.skip rfl rfl ?_
          refine Wl.q rfl rfl (OpQ.pickF rfl rfl) ?_
          refine Wl.nil ?_
          exact PX.cutB hK2 ⟨lkV rfl (congrArg Value.bool (by rw [hg51]; rfl)), (by repeat (first | exact trivial | refine ⟨rfl, ?_⟩))⟩ (HSub.refl _)
      · -- from the join on
        refine CT.cond rfl (fun h54 => ?_) (fun h54 => ?_)
        · -- if t54: then
          rw [Bool.and_eq_true] at h54
          have ha := pa h54.2
          -- region 9: ref.go:57
          refine CT.region ?_
          refine Wl.q rfl rfl (OpQ.move rfl) ?_
          refine Wl.q rfl rfl (OpQ.move rfl) ?_
          refine Wl.q rfl rfl (OpQ.move rfl) ?_
          refine Wl.q rfl rfl (OpQ.index L_un26 L_sz29 rfl rfl (by omega) (sm (by omega))) ?_
          refine Wl.q rfl rfl (OpQ.fieldAddr L_fa29_4 rfl) ?_
          refine Wl.q rfl rfl (OpQ.loadGF L_sc3 rfl (fun w hH => hH.rd0 hr rfl) (flat_cells fv_len xs f0 (j := i) (by omega) 4 _ rfl)) ?_
          refine Wl.q rfl rfl (OpQ.index1 L_un95 L_sz4 rfl rfl ⟨ha.1, by omega⟩ rfl) ?_
          refine Wl.g rfl rfl (OpG.storeRow L_sz4 rfl rfl rfl .here (by rw [List.length_map, hndl]; show (xs.getD i f0).a.toNat < _; omega)) ?_
          rintro _ _
          refine Wl.nil ?_
          exact PX.cut hK1 (nd.set (xs.getD i f0).a.toNat true) ⟨ND_set hnd (by omega), fun _ _ => by rw [gset_b, if_pos ⟨rfl, by omega⟩]⟩ ⟨rfl, rfl, rfl, rfl, rfl, rfl, rfl, trivial⟩ (.keep (row_eq (by rw [List.map_set])) .nil)
        · -- if t54: else
          refine CT.skip ?_
          exact PX.cut hK1 nd ⟨hnd, fun ha hi => by rw [hi, ha] at h54; cases h54⟩ ⟨rfl, rfl, rfl, rfl, rfl, rfl, rfl, trivial⟩ (HSub.refl _)
    · -- from the join on
      have hndl2 := hnd2.len
      refine CT.weak (E' := [(0, _), (1, _), (2, _), (7, _), (8, _), (9, _), (10, _)]) (by repeat (first | exact trivial | refine ⟨rfl, ?_⟩)) (HSub.refl _) ?_
      refine CT.cutB 69 (nd2.getD i false && gb (xs.getD i f0).op) (fun K3 hK3 => ?_) ?_
      · -- up to the join
        -- region 10: ref.go:59
        refine CT.region ?_
        refine Wl.q rfl rfl (OpQ.move rfl) ?_
        refine Wl.q rfl rfl (OpQ.move rfl) ?_
        refine Wl.q rfl rfl (OpQ.index1 L_un95 L_sz4 rfl rfl (by omega) rfl) ?_
        refine Wl.q rfl rfl (OpQ.loadRow L_sc4 rfl .here (getMap bo nd2 false (j := i) (by omega))) ?_
        refine Wl.q rfl rfl (OpQ.move rfl) ?_
        refine Wl.split 66 rfl (fun hg66 => ?_) (fun hg66 => ?_)
        · -- t66 = True
          refine Wl.q rfl rfl (OpQ.move rfl) ?_
          refine Wl.q rfl rfl (OpQ.gtr rfl rfl) ?_
          refine Wl.know 68 (v' := .bool (gb (xs.getD i f0).op)) rfl (congrArg Value.bool (rn_b _)) ?_
          refine Wl.q rfl rfl (OpQ.pickT rfl rfl) ?_
          refine Wl.nil ?_
          exact PX.cutB hK3 ⟨lkV rfl (congrArg Value.bool (by rw [hg66]; rfl)), (by repeat (first | exact trivial | refine ⟨rfl, ?_⟩))⟩ (HSub.refl _)
        · -- t66 = False
          refine Wl.skip rfl rfl ?_
          refine Wl.skip rfl rfl ?_
          refine Wl.q rfl rfl (OpQ.pickF rfl rfl) ?_
          refine Wl.nil ?_
          exact PX.cutB hK3 ⟨lkV rfl (congrArg Value.bool (by rw [hg66]; rfl)), (by repeat (first | exact trivial | refine ⟨rfl, ?_⟩))⟩ (HSub.refl _)
      · -- from the join on
        refine CT.cond rfl (fun h69 => ?_) (fun h69 => ?_)
        · -- if t69: then
          rw [Bool.and_eq_true] at h69
          have hb := pb h69.2
          -- region 11: ref.go:60
          refine CT.region ?_
          refine Wl.q rfl rfl (OpQ.move rfl) ?_
          refine Wl.q rfl rfl (OpQ.move rfl) ?_
          refine Wl.q rfl rfl (OpQ.move rfl) ?_
          refine Wl.q rfl rfl (OpQ.index L_un26 L_sz29 rfl rfl (by omega) (sm (by omega))) ?_
          refine Wl.q rfl rfl (OpQ.fieldAddr L_fa29_5 rfl) ?_
          refine Wl.q rfl rfl (OpQ.loadGF L_sc3 rfl (fun w hH => hH.rd0 hr rfl) (flat_cells fv_len xs f0 (j := i) (by omega) 5 _ rfl)) ?_
          refine Wl.q rfl rfl (OpQ.index1 L_un95 L_sz4 rfl rfl ⟨hb.1, by omega⟩ rfl) ?_
          refine Wl.g rfl rfl (OpG.storeRow L_sz4 rfl rfl rfl .here (by rw [List.length_map, hndl2]; show (xs.getD i f0).b.toNat < _; omega)) ?_
          rintro _ _
          refine Wl.nil ?_
          refine PX.block_n ?_
          refine PX.then_n ?_
          -- region 6: ref.go:54
          refine CT.region ?_
          refine Wl.q rfl rfl (OpQ.move rfl) ?_
          refine Wl.q rfl rfl (OpQ.sub rfl rfl (by omega)) ?_
          refine Wl.q rfl rfl (OpQ.assign rfl) ?_
          refine Wl.nil ?_
          exact PX.loop hK0 (i, (nd2.set (xs.getD i f0).b.toNat true)) ⟨by omega, ND_end (ND_set hnd2 (by omega)) (fun h => ⟨fun ha => by rw [gset_b]; split <;> first | rfl | exact hua ha (by rw [gset_b, if_neg (by omega)] at h; exact h), fun _ => by rw [gset_b, if_pos ⟨rfl, by rw [hnd2.len]; omega⟩]⟩)⟩ (show i < i + 1 by omega) ⟨rfl, rfl, rfl, rfl, rfl, rfl, trivial⟩ (.keep (row_eq (by rw [List.map_set])) .nil)
        · -- if t69: else
          refine CT.skip ?_
          refine PX.block_n ?_
          refine PX.then_n ?_
          -- region 6: ref.go:54
          refine CT.region ?_
          refine Wl.q rfl rfl (OpQ.move rfl) ?_
          refine Wl.q rfl rfl (OpQ.sub rfl rfl (by omega)) ?_
          refine Wl.q rfl rfl (OpQ.assign rfl) ?_
          refine Wl.nil ?_
          exact PX.loop hK0 (i, nd2) ⟨by omega, ND_end hnd2 (fun h => ⟨fun ha => hua ha h, fun hb => by rw [h, hb] at h69; cases h69⟩)⟩ (show i < i + 1 by omega) ⟨rfl, rfl, rfl, rfl, rfl, rfl, trivial⟩ (HSub.refl _)
  · -- if t33: else
    have h33 := of_decide_eq_false h33
    obtain rfl : n = 0 := by omega
    refine CT.exit ?_
    refine PX.then_x ?_
    refine PX.then_x ?_
    refine PX.block_x ?_
    refine PX.then_n ?_
    refine CT.seq ?_
    -- region 12: ref.go:63
    refine CT.region ?_
    refine Wl.q rfl rfl (OpQ.move rfl) ?_
    refine Wl.q rfl rfl (OpQ.add rfl rfl (by omega)) ?_
    refine Wl.g rfl rfl (OpG.make1 L_un96 L_in95 rfl rfl rfl (show (rt : Int) + 1 = ((rt + 1 : Nat) : Int) by omega) (by omega) (by omega)) ?_
    rintro b79 _
    refine Wl.q rfl rfl (OpQ.assign rfl) ?_
    refine Wl.nil ?_
    refine PX.then_n ?_
    refine CT.seq ?_
    -- region 13: ref.go:64
    refine CT.region ?_
    refine Wl.q rfl rfl (OpQ.move rfl) ?_
    refine Wl.q rfl rfl (OpQ.move rfl) ?_
    refine Wl.q rfl rfl (OpQ.mul rfl rfl (by omega)) ?_
    refine Wl.know 82 (v' := .int .i64 ((((ws.length + 1) * (ws.length + 1)) : Nat) : Int)) rfl (congrArg (Value.int .i64) (by push_cast; rfl)) ?_
    refine Wl.q rfl rfl (OpQ.move rfl) ?_
    refine Wl.g rfl rfl (OpG.litS (vs := [.int .i64 ((((ws.length + 1) * (ws.length + 1)) : Nat) : Int), .int .i64 (((ws.length + 1) : Nat) : Int), .int .i64 1]) L_un22 L_in3 rfl (by decide) (by kernel_rfl) rfl) ?_
    rintro b84 _
    refine Wl.q rfl rfl (OpQ.assign rfl) ?_
    refine Wl.nil ?_
    refine PX.then_n ?_
    refine CT.seq ?_
    refine CT.seq ?_
    -- region 14: ref.go:65
    refine CT.region ?_
    refine Wl.q rfl rfl (OpQ.assign rfl) ?_
    refine Wl.nil ?_
    refine PX.then_n ?_
    refine CT.block ?_
    -- the loop at region 15
    refine CT.as (fun _ h => h.bind0 (p := obs (List.replicate (rt + 1) ob0)) (obs_rep _)) ?_
    refine CT.as (fun _ h => h.take (.cons .here (.cons (.there .here) (.cons .here (.cons .here .nil))))) ?_
    refine CT.loop (ι := Nat × List Ob × List Nat) (fun (i, os, bs) => i ≤ rt + 1 ∧ INR xs ws rt nd i os) (fun (i, os, bs) => [(0, .slice a xs.length cp), (1, .int .i64 (rt : Int)), (2, sv ws), (7, .int .i64 (((ws.length + 1) : Nat) : Int)), (8, .slice (some ⟨b27, 0, none⟩) (rt + 1) (rt + 1)), (14, .slice (some ⟨b79, 0, none⟩) (rt + 1) (rt + 1)), (15, .slice (some ⟨b84, 0, none⟩) 3 3), (16, .int .i64 (i : Int))]) (fun (i, os, bs) => [.frag bs (obs os), .row 95 1 (.slice (some ⟨b79, 0, none⟩) (rt + 1) (rt + 1)) (rt + 1) (os.map obv), .row 3 1 (.slice (some ⟨b84, 0, none⟩) 3 3) 3 [.int .i64 ((((ws.length + 1) * (ws.length + 1)) : Nat) : Int), .int .i64 (((ws.length + 1) : Nat) : Int), .int .i64 1], .row 4 1 (.slice (some ⟨b27, 0, none⟩) (rt + 1) (rt + 1)) (rt + 1) ((nd).map bo)]) (fun (i, os, bs) => rt + 1 - i) (0, List.replicate (rt + 1) ob0, []) ⟨by omega, by simp, fun j hj => by omega⟩ ⟨rfl, rfl, rfl, rfl, rfl, rfl, rfl, rfl, trivial⟩ (.keep rfl (.keep (row_eq (by simp [ob0])) (.keep rfl (.keep rfl .nil)))) (fun ⟨i, os, bs⟩ ⟨hi, hin⟩ K4 hK4 => ?_)
    dsimp only
    refine CT.seq ?_
    refine CT.seq ?_
    -- region 15: ref.go:65
    refine CT.region ?_
    refine Wl.q rfl rfl (OpQ.move rfl) ?_
    refine Wl.q rfl rfl (OpQ.move rfl) ?_
    refine Wl.q rfl rfl (OpQ.leq rfl rfl) ?_
    refine Wl.nil ?_
    refine PX.then_n ?_
    refine CT.cond rfl (fun h87 => ?_) (fun h87 => ?_)
    · -- if t87: then
      have h87 := of_decide_eq_true h87
      have hokk := okL_get hok (j := i) (by omega)
      obtain ⟨ho, px, py, _, pa, pb⟩ := ok_parts hokk
      have hol := hin.len
      have hndl := hnd.len
      refine CT.skip ?_
      refine PX.then_n ?_
      refine CT.seq ?_
      refine CT.block ?_
      refine CT.seq ?_
      refine CT.seq ?_
      -- region 17: ref.go:66
      refine CT.region ?_
      refine Wl.q rfl rfl (OpQ.move rfl) ?_
      refine Wl.q rfl rfl (OpQ.move rfl) ?_
      refine Wl.q rfl rfl (OpQ.index1 L_un95 L_sz4 rfl rfl (by omega) rfl) ?_
      refine Wl.q rfl rfl (OpQ.loadRow L_sc4 rfl (.there (.there (.there .here))) (getMap bo nd false (j := i) (by omega))) ?_
      refine Wl.q rfl rfl (OpQ.not rfl) ?_
      refine Wl.nil ?_
      refine PX.then_n ?_
      refine CT.cond rfl (fun h94 => ?_) (fun h94 => ?_)
      · -- if t94: then
        have hni : nd.getD i false = false := by simpa [-List.getD_eq_getElem?_getD] using h94
        refine CT.exit ?_
        refine PX.then_x ?_
        refine PX.block_x ?_
        refine PX.then_n ?_
        -- region 16: ref.go:65
        refine CT.region ?_
        refine Wl.q rfl rfl (OpQ.move rfl) ?_
        refine Wl.q rfl rfl (OpQ.add rfl rfl (by omega)) ?_
        refine Wl.q rfl rfl (OpQ.assign rfl) ?_
        refine Wl.nil ?_
        exact PX.loop hK4 (i + 1, os, bs) ⟨by omega, INR_skip hin hni⟩ (show rt + 1 - (i + 1) < rt + 1 - i by omega) ⟨rfl, rfl, rfl, rfl, rfl, rfl, rfl, rfl, trivial⟩ (HSub.refl _)
      · -- if t94: else
        have hni : nd.getD i false = true := by simpa [-List.getD_eq_getElem?_getD] using h94
        refine CT.skip ?_
        refine PX.then_n ?_
        refine CT.seq ?_
        -- region 18: ref.go:69
        refine CT.region ?_
        refine Wl.q rfl rfl (OpQ.move rfl) ?_
        refine Wl.q rfl rfl (OpQ.move rfl) ?_
        refine Wl.q rfl rfl (OpQ.index L_un26 L_sz29 rfl rfl (by omega) (sm (by omega))) ?_
        refine Wl.q rfl rfl (OpQ.loadAggG (cs := fv (xs.getD i f0)) L_ag29 L_sz29 rfl (fun w hH => hH.rd0 hr rfl) (flat_cells fv_len xs f0 (by omega))) ?_
        refine Wl.g rfl rfl (OpG.alloc (zs := [.int .i64 0, .int .i64 0, .int .i64 0, .int .i64 0, .int .i64 0, .int .i64 0]) L_in29 rfl rfl) ?_
        rintro b17 _
        refine Wl.g rfl rfl (OpG.storeV (b := b17) L_sz29 rfl rfl rfl rfl (by repeat (first | exact Upd.here | apply Upd.there))) ?_
        rintro _ _
        refine Wl.nil ?_
        refine PX.then_n ?_
        refine CT.seq ?_
        -- region 19: ref.go:70
        refine CT.region ?_
        refine Wl.q rfl rfl (OpQ.move rfl) ?_
        refine Wl.q rfl rfl (OpQ.move rfl) ?_
        refine Wl.q rfl rfl (OpQ.move rfl) ?_
        refine Wl.q rfl rfl (OpQ.move rfl) ?_
        refine Wl.q rfl rfl (OpQ.mul rfl rfl (by omega)) ?_
        refine Wl.know 103 (v' := .int .i64 ((((ws.length + 1) * (ws.length + 1)) : Nat) : Int)) rfl (congrArg (Value.int .i64) (by push_cast; rfl)) ?_
        refine Wl.q rfl rfl (OpQ.move rfl) ?_
        refine Wl.q rfl rfl (OpQ.mul rfl rfl (by omega)) ?_
        refine Wl.know 105 (v' := .int .i64 ((((ws.length + 1) * (ws.length + 1) * (ws.length + 1)) : Nat) : Int)) rfl (congrArg (Value.int .i64) (by push_cast; rfl)) ?_
        refine Wl.g rfl rfl (OpG.make1 L_un95 L_in4 rfl rfl rfl rfl (by omega) (by omega)) ?_
        rintro b106 _
        refine Wl.q rfl rfl (OpQ.index1 L_un96 L_sz95 rfl rfl (by omega) rfl) ?_
        refine Wl.g rfl rfl (OpG.storeRow L_sz95 rfl rfl rfl (.there (.there (.there .here))) (by rw [List.length_map, hol]; show i < _; omega)) ?_
        rintro _ _
        refine Wl.nil ?_
        refine PX.then_n ?_
        refine CT.seq ?_
        -- region 20: ref.go:71
        refine CT.region ?_
        refine Wl.q rfl rfl (OpQ.move rfl) ?_
        refine Wl.q rfl rfl (OpQ.move rfl) ?_
        refine Wl.q rfl rfl (OpQ.index1 L_un96 L_sz95 rfl rfl (by omega) rfl) ?_
        refine Wl.q rfl rfl (OpQ.loadRow L_sc95 rfl (.there (.there (.there .here))) (set_same (by rw [List.length_map, hol]; omega))) ?_
        refine Wl.q rfl rfl (OpQ.len L_un95 rfl) ?_
        refine Wl.q rfl rfl (OpQ.move rfl) ?_
        refine Wl.nil ?_
        refine PX.then_n ?_
        refine CT.block ?_
        -- the loop at region 21
        refine CT.loop (ι := Nat) (fun k => k ≤ ((ws.length + 1) * (ws.length + 1) * (ws.length + 1))) (fun k => [(0, .slice a xs.length cp), (1, .int .i64 (rt : Int)), (2, sv ws), (7, .int .i64 (((ws.length + 1) : Nat) : Int)), (8, .slice (some ⟨b27, 0, none⟩) (rt + 1) (rt + 1)), (14, .slice (some ⟨b79, 0, none⟩) (rt + 1) (rt + 1)), (15, .slice (some ⟨b84, 0, none⟩) 3 3), (16, .int .i64 (i : Int)), (17, .pointer (some ⟨b17, 0, none⟩)), (112, .int .i64 ((((ws.length + 1) * (ws.length + 1) * (ws.length + 1)) : Nat) : Int)), (113, .int .i64 (k : Int))]) (fun k => [.row 4 1 (.slice (some ⟨b106, 0, none⟩) ((ws.length + 1) * (ws.length + 1) * (ws.length + 1)) ((ws.length + 1) * (ws.length + 1) * (ws.length + 1))) ((ws.length + 1) * (ws.length + 1) * (ws.length + 1)) ((valT (sat xs ws i) (ws.length + 1) k).map bo), .row 29 6 (vb b17) 1 (fv (xs.getD i f0)), .frag bs (obs os), .row 95 1 (.slice (some ⟨b79, 0, none⟩) (rt + 1) (rt + 1)) (rt + 1) (((os.map obv).set i (.slice (some ⟨b106, 0, none⟩) ((ws.length + 1) * (ws.length + 1) * (ws.length + 1)) ((ws.length + 1) * (ws.length + 1) * (ws.length + 1))))), .row 3 1 (.slice (some ⟨b84, 0, none⟩) 3 3) 3 [.int .i64 ((((ws.length + 1) * (ws.length + 1)) : Nat) : Int), .int .i64 (((ws.length + 1) : Nat) : Int), .int .i64 1], .row 4 1 (.slice (some ⟨b27, 0, none⟩) (rt + 1) (rt + 1)) (rt + 1) ((nd).map bo)]) (fun k => ((ws.length + 1) * (ws.length + 1) * (ws.length + 1)) - k) 0 (Nat.zero_le _) ⟨rfl, rfl, rfl, rfl, rfl, rfl, rfl, rfl, rfl, rfl, rfl, trivial⟩ (.keep (row_eq (valT_0 _ _)) (HSub.refl _)) (fun k hk K5 hK5 => ?_)
        refine CT.seq ?_
        -- region 21: ref.go:71
        refine CT.region ?_
        refine Wl.q rfl rfl (OpQ.lss rfl rfl) ?_
        refine Wl.nil ?_
        refine PX.then_n ?_
        refine CT.seq ?_
        refine CT.cond rfl (fun h114 => ?_) (fun h114 => ?_)
        · -- if t114: then
          have h114 := of_decide_eq_true h114
          have hsat := congrFun (sat_eq hok (ws := ws) (i := i) (by omega)) (d3 (ws.length + 1) k)
          have hd3 := d3_lt (m := (ws.length + 1)) (k := k) (by omega)
          refine CT.skip ?_
          refine PX.then_n ?_
          refine CT.seq ?_
          refine CT.block ?_
          refine CT.seq ?_
          -- region 22: ref.go:71
          refine CT.region ?_
          refine Wl.q rfl rfl (OpQ.move rfl) ?_
          refine Wl.q rfl rfl (OpQ.assign rfl) ?_
          refine Wl.nil ?_
          refine PX.then_n ?_
          refine CT.seq ?_
          -- region 23, drawn: ref.go:72
          refine CT.draw 15 L_mixed ?_
          refine RA.q 0 (by kernel_rfl) rfl rfl rfl (.refl _) (OpQ.move rfl) ?_
          refine RA.q 1 (by kernel_rfl) rfl rfl rfl (.refl _) (OpQ.move rfl) ?_
          refine RA.q 2 (by kernel_rfl) rfl rfl rfl (.refl _) (OpQ.move rfl) ?_
          refine RA.q 3 (by kernel_rfl) rfl rfl rfl (.refl _) (OpQ.mul rfl rfl (by omega)) ?_
          refine RA.know 119 (v' := .int .i64 ((((ws.length + 1) * (ws.length + 1)) : Nat) : Int)) rfl (congrArg (Value.int .i64) (by push_cast; rfl)) ?_
          refine RA.q 4 (by kernel_rfl) rfl rfl rfl (.refl _) (OpQ.quo rfl rfl (quo_b (by omega) (by omega))) ?_
          refine RA.know 120 (v' := .int .i64 (((d3 (ws.length + 1) k).1 : Nat) : Int)) rfl rfl ?_
          refine RA.q 5 (by kernel_rfl) rfl rfl rfl (.refl _) (OpQ.move rfl) ?_
          refine RA.q 6 (by kernel_rfl) rfl rfl rfl (.refl _) (OpQ.move rfl) ?_
          refine RA.q 7 (by kernel_rfl) rfl rfl rfl (.refl _) (OpQ.quo rfl rfl (quo_b (n := (ws.length + 1)) (by omega) (by omega))) ?_
          refine RA.know 123 (v' := .int .i64 ((k / (ws.length + 1) : Nat) : Int)) rfl rfl ?_
          refine RA.q 8 (by kernel_rfl) rfl rfl rfl (.refl _) (OpQ.move rfl) ?_
          refine RA.q 9 (by kernel_rfl) rfl rfl rfl (.refl _) (OpQ.rem rfl rfl (by omega)) ?_
          refine RA.know 125 (v' := .int .i64 (((d3 (ws.length + 1) k).2.1 : Nat) : Int)) rfl rfl ?_
          refine RA.q 10 (by kernel_rfl) rfl rfl rfl (.refl _) (OpQ.move rfl) ?_
          refine RA.q 11 (by kernel_rfl) rfl rfl rfl (.refl _) (OpQ.move rfl) ?_
          refine RA.q 12 (by kernel_rfl) rfl rfl rfl (.refl _) (OpQ.rem rfl rfl (by omega)) ?_
          refine RA.know 128 (v' := .int .i64 (((d3 (ws.length + 1) k).2.2 : Nat) : Int)) rfl rfl ?_
          refine RA.f 13 (by kernel_rfl) rfl rfl rfl (OpG.litS (vs := [.int .i64 (((d3 (ws.length + 1) k).1 : Nat) : Int), .int .i64 (((d3 (ws.length + 1) k).2.1 : Nat) : Int), .int .i64 (((d3 (ws.length + 1) k).2.2 : Nat) : Int)]) L_un22 L_in3 rfl (by decide) (by kernel_rfl) rfl) (fun _ _ => (.cons _ (.refl _))) ?_
          rintro b129 _
          refine RA.q 14 (by kernel_rfl) rfl rfl rfl (.cons _ (.refl _)) (OpQ.assign rfl) ?_
          refine RA.tail ?_
          refine RT.done (by kernel_rfl) ?_
          refine PX.then_n ?_
          refine CT.seq ?_
          -- region 24: ref.go:73
          refine CT.region ?_
          refine Wl.q rfl rfl (OpQ.fieldAddr L_fa29_0 rfl) ?_
          refine Wl.q rfl rfl (OpQ.loadF (b := b17) L_sc3 rfl (by repeat (first | exact Has.here | apply Has.there)) (by rfl)) ?_
          refine Wl.nil ?_
          refine PX.then_n ?_
          refine CT.block ?_
          refine CT.seq ?_
          -- region 25: ref.go:74
          refine CT.region ?_
          refine Wl.q rfl rfl (OpQ.eql rfl rfl) ?_
          refine Wl.q rfl rfl (OpQ.assign rfl) ?_
          refine Wl.nil ?_
          refine PX.then_n ?_
          refine CT.cond rfl (fun h132 => ?_) (fun h132 => ?_)
          · -- if t132: then
            have h132 := of_decide_eq_true h132
            -- region 26: ref.go:75
            refine CT.region ?_
            refine Wl.q rfl rfl (OpQ.move rfl) ?_
            refine Wl.q rfl rfl (OpQ.move rfl) ?_
            refine Wl.q rfl rfl (OpQ.index1 L_un96 L_sz95 rfl rfl (by omega) rfl) ?_
            refine Wl.q rfl rfl (OpQ.loadRow L_sc95 rfl (.there (.there (.there (.there .here)))) (set_same (by rw [List.length_map, hol]; omega))) ?_
            refine Wl.q rfl rfl (OpQ.move rfl) ?_
            refine Wl.q rfl rfl (OpQ.index1 L_un95 L_sz4 rfl rfl (by omega) rfl) ?_
            refine Wl.g rfl rfl (OpG.storeRow L_sz4 rfl rfl rfl (.there .here) (by rw [List.length_map, valT_len]; show k < _; omega)) ?_
            rintro _ _
            refine Wl.nil ?_
            refine PX.block_n ?_
            refine PX.block_n ?_
            refine PX.then_n ?_
            -- region 43: ref.go:71
            refine CT.region ?_
            refine Wl.q rfl rfl (OpQ.add rfl rfl (by omega)) ?_
            refine Wl.q rfl rfl (OpQ.move rfl) ?_
            refine Wl.nil ?_
            refine PX.as (fun _ h => h.take (.cons (.there .here) (.cons (.there .here) (.cons (.there .here) (.cons (.there .here) (.cons (.there .here) (.cons (.there .here) .nil))))))) ?_
            exact PX.loop hK5 (k + 1) (by omega) (by first | omega | (dsimp only; omega)) ⟨rfl, rfl, rfl, rfl, rfl, rfl, rfl, rfl, rfl, rfl, rfl, trivial⟩ (.keep (row_eq (valT_put (by rw [hsat, st1 h132]))) (HSub.refl _))
          · -- if t132: else
            have h132 := of_decide_eq_false h132
            refine CT.seq ?_
            -- region 27: ref.go:76
            refine CT.region ?_
            refine Wl.q rfl rfl (OpQ.eql rfl rfl) ?_
            refine Wl.q rfl rfl (OpQ.assign rfl) ?_
            refine Wl.nil ?_
            refine PX.then_n ?_
            refine CT.cond rfl (fun h140 => ?_) (fun h140 => ?_)
            · -- if t140: then
              have h140 := of_decide_eq_true h140
              have hx3 := px (gx_op.2 (by omega))
              have hy3 := py (gy_op.2 (by omega))
              have gx1 := gv_lt hx3 hd3
              have gy1 := gv_lt hy3 hd3
              -- region 28, drawn: ref.go:77
              refine CT.draw 32 L_mixed ?_
              refine RA.q 0 (by kernel_rfl) rfl rfl rfl (.refl _) (OpQ.move rfl) ?_
              refine RA.q 1 (by kernel_rfl) rfl rfl rfl (.refl _) (OpQ.move rfl) ?_
              refine RA.q 2 (by kernel_rfl) rfl rfl rfl (.refl _) (OpQ.index1 L_un96 L_sz95 rfl rfl (by omega) rfl) ?_
              refine RA.q 3 (by kernel_rfl) rfl rfl rfl (.refl _) (OpQ.loadRow L_sc95 rfl (.there (.there (.there (.there .here)))) (set_same (by rw [List.length_map, hol]; omega))) ?_
              refine RA.q 4 (by kernel_rfl) rfl rfl rfl (.refl _) (OpQ.move rfl) ?_
              refine RA.q 5 (by kernel_rfl) rfl rfl rfl (.refl _) (OpQ.move rfl) ?_
              refine RA.q 6 (by kernel_rfl) rfl rfl rfl (.refl _) (OpQ.fieldAddr L_fa29_2 rfl) ?_
              refine RA.q 7 (by kernel_rfl) rfl rfl rfl (.refl _) (OpQ.loadF (b := b17) L_sc3 rfl (by repeat (first | exact Has.here | apply Has.there)) (by rfl)) ?_
              refine RA.q 8 (by kernel_rfl) rfl rfl rfl (.refl _) (OpQ.index1 L_un22 L_sz3 rfl rfl (by omega) rfl) ?_
              refine RA.q 9 (by kernel_rfl) rfl rfl rfl (.refl _) (OpQ.loadRow L_sc3 rfl .here (g3z hy3)) ?_
              refine RA.q 10 (by kernel_rfl) rfl rfl rfl (.refl _) (OpQ.move rfl) ?_
              refine RA.q 11 (by kernel_rfl) rfl rfl rfl (.refl _) (OpQ.fieldAddr L_fa29_1 rfl) ?_
              refine RA.q 12 (by kernel_rfl) rfl rfl rfl (.refl _) (OpQ.loadF (b := b17) L_sc3 rfl (by repeat (first | exact Has.here | apply Has.there)) (by rfl)) ?_
              refine RA.q 13 (by kernel_rfl) rfl rfl rfl (.refl _) (OpQ.index1 L_un22 L_sz3 rfl rfl (by omega) rfl) ?_
              refine RA.q 14 (by kernel_rfl) rfl rfl rfl (.refl _) (OpQ.loadRow L_sc3 rfl .here (g3z hx3)) ?_
              refine RA.q 15 (by kernel_rfl) rfl rfl rfl (.refl _) (OpQ.add rfl rfl (by omega)) ?_
              refine RA.q 16 (by kernel_rfl) rfl rfl rfl (.refl _) (OpQ.eql rfl rfl) ?_
              refine RA.q 17 (by kernel_rfl) rfl rfl rfl (.refl _) (OpQ.move rfl) ?_
              refine RA.split 159 rfl (fun hg159 => ?_) (fun hg159 => ?_)
              · -- t159 = True
                have hg159 := of_decide_eq_true hg159
                have hg159 : gv (d3 (ws.length + 1) k) (xs.getD i f0).y = gv (d3 (ws.length + 1) k) (xs.getD i f0).x + 1 := by omega
                have hu := Tl.okW_get hwk (j := gv (d3 (ws.length + 1) k) (xs.getD i f0).x) (by omega)
                refine RA.q 18 (by kernel_rfl) rfl rfl rfl (.refl _) (OpQ.move rfl) ?_
                refine RA.q 19 (by kernel_rfl) rfl rfl rfl (.refl _) (OpQ.move rfl) ?_
                refine RA.q 20 (by kernel_rfl) rfl rfl rfl (.refl _) (OpQ.fieldAddr L_fa29_1 rfl) ?_
                refine RA.q 21 (by kernel_rfl) rfl rfl rfl (.refl _) (OpQ.loadF (b := b17) L_sc3 rfl (by repeat (first | exact Has.here | apply Has.there)) (by rfl)) ?_
                refine RA.q 22 (by kernel_rfl) rfl rfl rfl (.refl _) (OpQ.index1 L_un22 L_sz3 rfl rfl (by omega) rfl) ?_
                refine RA.q 23 (by kernel_rfl) rfl rfl rfl (.refl _) (OpQ.loadRow L_sc3 rfl .here (g3z hx3)) ?_
                refine RA.q 24 (by kernel_rfl) rfl rfl rfl (.refl _) (OpQ.indexSvN L_un9 rfl rfl (by omega)) ?_
                refine RA.q 25 (by kernel_rfl) rfl rfl rfl (.refl _) (OpQ.sub8 rfl rfl (by omega)) ?_
                refine RA.q 26 (by kernel_rfl) rfl rfl rfl (.refl _) (OpQ.conv rfl (conv_u8_i64 L_un5 L_un3 _ (by omega))) ?_
                refine RA.q 27 (by kernel_rfl) rfl rfl rfl (.refl _) (OpQ.fieldAddr L_fa29_3 rfl) ?_
                refine RA.q 28 (by kernel_rfl) rfl rfl rfl (.refl _) (OpQ.loadF (b := b17) L_sc3 rfl (by repeat (first | exact Has.here | apply Has.there)) (by rfl)) ?_
                refine RA.q 29 (by kernel_rfl) rfl rfl rfl (.refl _) (OpQ.eql rfl rfl) ?_
                refine RA.q 30 (by kernel_rfl) rfl rfl rfl (.refl _) (OpQ.pickT rfl rfl) ?_
                refine RA.q 31 (by kernel_rfl) rfl rfl rfl (.refl _) (OpQ.index1 L_un95 L_sz4 rfl rfl (by omega) rfl) ?_
                refine RA.tail ?_
                refine RT.f 32 (by kernel_rfl) rfl rfl rfl (OpG.storeRow L_sz4 rfl rfl rfl (.there .here) (by rw [List.length_map, valT_len]; show k < _; omega)) ?_
                rintro _ _
                refine RT.done (by kernel_rfl) ?_
                refine PX.block_n ?_
                refine PX.block_n ?_
                refine PX.then_n ?_
                -- region 43: ref.go:71
                refine CT.region ?_
                refine Wl.q rfl rfl (OpQ.add rfl rfl (by omega)) ?_
                refine Wl.q rfl rfl (OpQ.move rfl) ?_
                refine Wl.nil ?_
                refine PX.as (fun _ h => h.take (.cons (.there .here) (.cons (.there .here) (.cons (.there .here) (.cons (.there .here) (.cons (.there .here) (.cons (.there .here) .nil))))))) ?_
                exact PX.loop hK5 (k + 1) (by omega) (by first | omega | (dsimp only; omega)) ⟨rfl, rfl, rfl, rfl, rfl, rfl, rfl, rfl, rfl, rfl, rfl, trivial⟩ (.keep (row_eq (valT_put (by rw [hsat, st2 h140, decide_eq_true hg159]; rfl))) (HSub.refl _))
              · -- t159 = False
                have hg159 := of_decide_eq_false hg159
                have hg159 : ¬ gv (d3 (ws.length + 1) k) (xs.getD i f0).y = gv (d3 (ws.length + 1) k) (xs.getD i f0).x + 1 := by omega
                refine RA.skip 18 (by kernel_rfl) rfl rfl rfl (.refl _) ?_
                refine RA.skip 19 (by kernel_rfl) rfl rfl rfl (.refl _) ?_
                refine RA.skip 20 (by kernel_rfl) rfl rfl rfl (.refl _) ?_
                refine RA.skip 21 (by kernel_rfl) rfl rfl rfl (.refl _) ?_
                refine RA.skip 22 (by kernel_rfl) rfl rfl rfl (.refl _) ?_
                refine RA.skip 23 (by kernel_rfl) rfl rfl rfl (.refl _) ?_
                refine RA.skip 24 (by kernel_rfl) rfl rfl rfl (.refl _) ?_
                refine RA.skip 25 (by kernel_rfl) rfl rfl rfl (.refl _) ?_
                refine RA.skip 26 (by kernel_rfl) rfl rfl rfl (.refl _) ?_
                refine RA.skip 27 (by kernel_rfl) rfl rfl rfl (.refl _) ?_
                refine RA.skip 28 (by kernel_rfl) rfl rfl rfl (.refl _) ?_
                refine RA.skip 29 (by kernel_rfl) rfl rfl rfl (.refl _) ?_
                refine RA.q 30 (by kernel_rfl) rfl rfl rfl (.refl _) (OpQ.pickF rfl rfl) ?_
                refine RA.q 31 (by kernel_rfl) rfl rfl rfl (.refl _) (OpQ.index1 L_un95 L_sz4 rfl rfl (by omega) rfl) ?_
                refine RA.tail ?_
                refine RT.f 32 (by kernel_rfl) rfl rfl rfl (OpG.storeRow L_sz4 rfl rfl rfl (.there .here) (by rw [List.length_map, valT_len]; show k < _; omega)) ?_
                rintro _ _
                refine RT.done (by kernel_rfl) ?_
                refine PX.block_n ?_
                refine PX.block_n ?_
                refine PX.then_n ?_
                -- region 43: ref.go:71
                refine CT.region ?_
                refine Wl.q rfl rfl (OpQ.add rfl rfl (by omega)) ?_
                refine Wl.q rfl rfl (OpQ.move rfl) ?_
                refine Wl.nil ?_
                refine PX.as (fun _ h => h.take (.cons (.there .here) (.cons (.there .here) (.cons (.there .here) (.cons (.there .here) (.cons (.there .here) (.cons (.there .here) .nil))))))) ?_
                exact PX.loop hK5 (k + 1) (by omega) (by first | omega | (dsimp only; omega)) ⟨rfl, rfl, rfl, rfl, rfl, rfl, rfl, rfl, rfl, rfl, rfl, trivial⟩ (.keep (row_eq (valT_put (by rw [hsat, st2 h140, decide_eq_false hg159]; rfl))) (HSub.refl _))
            · -- if t140: else
              have h140 := of_decide_eq_false h140
              refine CT.seq ?_
              -- region 29: ref.go:78
              refine CT.region ?_
              refine Wl.q rfl rfl (OpQ.eql rfl rfl) ?_
              refine Wl.q rfl rfl (OpQ.assign rfl) ?_
              refine Wl.nil ?_
              refine PX.then_n ?_
              refine CT.cond rfl (fun h174 => ?_) (fun h174 => ?_)
              · -- if t174: then
                have h174 := of_decide_eq_true h174
                have hx3 := px (gx_op.2 (by omega))
                have hy3 := py (gy_op.2 (by omega))
                -- region 30, drawn: ref.go:79
                refine CT.draw 17 L_mixed ?_
                refine RA.q 0 (by kernel_rfl) rfl rfl rfl (.refl _) (OpQ.move rfl) ?_
                refine RA.q 1 (by kernel_rfl) rfl rfl rfl (.refl _) (OpQ.move rfl) ?_
                refine RA.q 2 (by kernel_rfl) rfl rfl rfl (.refl _) (OpQ.index1 L_un96 L_sz95 rfl rfl (by omega) rfl) ?_
                refine RA.q 3 (by kernel_rfl) rfl rfl rfl (.refl _) (OpQ.loadRow L_sc95 rfl (.there (.there (.there (.there .here)))) (set_same (by rw [List.length_map, hol]; omega))) ?_
                refine RA.q 4 (by kernel_rfl) rfl rfl rfl (.refl _) (OpQ.move rfl) ?_
                refine RA.q 5 (by kernel_rfl) rfl rfl rfl (.refl _) (OpQ.move rfl) ?_
                refine RA.q 6 (by kernel_rfl) rfl rfl rfl (.refl _) (OpQ.fieldAddr L_fa29_1 rfl) ?_
                refine RA.q 7 (by kernel_rfl) rfl rfl rfl (.refl _) (OpQ.loadF (b := b17) L_sc3 rfl (by repeat (first | exact Has.here | apply Has.there)) (by rfl)) ?_
                refine RA.q 8 (by kernel_rfl) rfl rfl rfl (.refl _) (OpQ.index1 L_un22 L_sz3 rfl rfl (by omega) rfl) ?_
                refine RA.q 9 (by kernel_rfl) rfl rfl rfl (.refl _) (OpQ.loadRow L_sc3 rfl .here (g3z hx3)) ?_
                refine RA.q 10 (by kernel_rfl) rfl rfl rfl (.refl _) (OpQ.move rfl) ?_
                refine RA.q 11 (by kernel_rfl) rfl rfl rfl (.refl _) (OpQ.fieldAddr L_fa29_2 rfl) ?_
                refine RA.q 12 (by kernel_rfl) rfl rfl rfl (.refl _) (OpQ.loadF (b := b17) L_sc3 rfl (by repeat (first | exact Has.here | apply Has.there)) (by rfl)) ?_
                refine RA.q 13 (by kernel_rfl) rfl rfl rfl (.refl _) (OpQ.index1 L_un22 L_sz3 rfl rfl (by omega) rfl) ?_
                refine RA.q 14 (by kernel_rfl) rfl rfl rfl (.refl _) (OpQ.loadRow L_sc3 rfl .here (g3z hy3)) ?_
                refine RA.q 15 (by kernel_rfl) rfl rfl rfl (.refl _) (OpQ.leq rfl rfl) ?_
                refine RA.q 16 (by kernel_rfl) rfl rfl rfl (.refl _) (OpQ.index1 L_un95 L_sz4 rfl rfl (by omega) rfl) ?_
                refine RA.tail ?_
                refine RT.f 17 (by kernel_rfl) rfl rfl rfl (OpG.storeRow L_sz4 rfl rfl rfl (.there .here) (by rw [List.length_map, valT_len]; show k < _; omega)) ?_
                rintro _ _
                refine RT.done (by kernel_rfl) ?_
                refine PX.block_n ?_
                refine PX.block_n ?_
                refine PX.then_n ?_
                -- region 43: ref.go:71
                refine CT.region ?_
                refine Wl.q rfl rfl (OpQ.add rfl rfl (by omega)) ?_
                refine Wl.q rfl rfl (OpQ.move rfl) ?_
                refine Wl.nil ?_
                refine PX.as (fun _ h => h.take (.cons (.there .here) (.cons (.there .here) (.cons (.there .here) (.cons (.there .here) (.cons (.there .here) (.cons (.there .here) .nil))))))) ?_
                exact PX.loop hK5 (k + 1) (by omega) (by first | omega | (dsimp only; omega)) ⟨rfl, rfl, rfl, rfl, rfl, rfl, rfl, rfl, rfl, rfl, rfl, trivial⟩ (.keep (row_eq (valT_put (by rw [hsat, st3 h174, decide_eq_decide]; omega))) (HSub.refl _))
              · -- if t174: else
                have h174 := of_decide_eq_false h174
                refine CT.seq ?_
                -- region 31: ref.go:80
                refine CT.region ?_
                refine Wl.q rfl rfl (OpQ.eql rfl rfl) ?_
                refine Wl.q rfl rfl (OpQ.assign rfl) ?_
                refine Wl.nil ?_
                refine PX.then_n ?_
                refine CT.cond rfl (fun h193 => ?_) (fun h193 => ?_)
                · -- if t193: then
                  have h193 := of_decide_eq_true h193
                  have pa1 := pa (ga_op.2 (by omega))
                  obtain ⟨qa1, qa2⟩ := hin.tab (xs.getD i f0).a.toNat (by omega) (by omega) ((hnd.use i (by omega) (by omega) hni).1 (ga_op.2 (by omega)))
                  have qal : (os.getD (xs.getD i f0).a.toNat ob0).vs.length = ((ws.length + 1) * (ws.length + 1) * (ws.length + 1)) := by rw [qa2, valT_len]
                  -- region 32, drawn: ref.go:81
                  refine CT.draw 15 L_mixed ?_
                  refine RA.q 0 (by kernel_rfl) rfl rfl rfl (.refl _) (OpQ.move rfl) ?_
                  refine RA.q 1 (by kernel_rfl) rfl rfl rfl (.refl _) (OpQ.move rfl) ?_
                  refine RA.q 2 (by kernel_rfl) rfl rfl rfl (.refl _) (OpQ.index1 L_un96 L_sz95 rfl rfl (by omega) rfl) ?_
                  refine RA.q 3 (by kernel_rfl) rfl rfl rfl (.refl _) (OpQ.loadRow L_sc95 rfl (.there (.there (.there (.there .here)))) (set_same (by rw [List.length_map, hol]; omega))) ?_
                  refine RA.q 4 (by kernel_rfl) rfl rfl rfl (.refl _) (OpQ.move rfl) ?_
                  refine RA.q 5 (by kernel_rfl) rfl rfl rfl (.refl _) (OpQ.move rfl) ?_
                  refine RA.q 6 (by kernel_rfl) rfl rfl rfl (.refl _) (OpQ.fieldAddr L_fa29_4 rfl) ?_
                  refine RA.q 7 (by kernel_rfl) rfl rfl rfl (.refl _) (OpQ.loadF (b := b17) L_sc3 rfl (by repeat (first | exact Has.here | apply Has.there)) (by rfl)) ?_
                  refine RA.q 8 (by kernel_rfl) rfl rfl rfl (.refl _) (OpQ.index1 L_un96 L_sz95 rfl rfl (by omega) rfl) ?_
                  refine RA.q 9 (by kernel_rfl) rfl rfl rfl (.refl _) (OpQ.loadRow L_sc95 rfl (.there (.there (.there (.there .here)))) (set_other (by have := pa (ga_op.2 (by omega)); omega) (by have := pa (ga_op.2 (by omega)); omega))) ?_
                  refine RA.q 10 (by kernel_rfl) rfl rfl rfl (.refl _) (OpQ.move rfl) ?_
                  refine RA.q 11 (by kernel_rfl) rfl rfl rfl (.refl _) (OpQ.index1 L_un95 L_sz4 rfl rfl ⟨by omega, by rw [qal]; omega⟩ qa1) ?_
                  refine RA.q 12 (by kernel_rfl) rfl rfl rfl (.refl _) (OpQ.loadG L_sc4 rfl (fun w hH => hH.fragp (.there (.there (.there .here))) _ (getD_mem (by omega))) (getMap bo (os.getD (xs.getD i f0).a.toNat ob0).vs false (j := k) (by omega))) ?_
                  refine RA.know 207 (v' := .bool (sat xs ws (xs.getD i f0).a.toNat (d3 (ws.length + 1) k))) rfl (congrArg Value.bool (by rw [qa2]; exact valT_k (by omega))) ?_
                  refine RA.q 13 (by kernel_rfl) rfl rfl rfl (.refl _) (OpQ.not rfl) ?_
                  refine RA.q 14 (by kernel_rfl) rfl rfl rfl (.refl _) (OpQ.index1 L_un95 L_sz4 rfl rfl (by omega) rfl) ?_
                  refine RA.tail ?_
                  refine RT.f 15 (by kernel_rfl) rfl rfl rfl (OpG.storeRow L_sz4 rfl rfl rfl (.there .here) (by rw [List.length_map, valT_len]; show k < _; omega)) ?_
                  rintro _ _
                  refine RT.done (by kernel_rfl) ?_
                  refine PX.block_n ?_
                  refine PX.block_n ?_
                  refine PX.then_n ?_
                  -- region 43: ref.go:71
                  refine CT.region ?_
                  refine Wl.q rfl rfl (OpQ.add rfl rfl (by omega)) ?_
                  refine Wl.q rfl rfl (OpQ.move rfl) ?_
                  refine Wl.nil ?_
                  refine PX.as (fun _ h => h.take (.cons (.there .here) (.cons (.there .here) (.cons (.there .here) (.cons (.there .here) (.cons (.there .here) (.cons (.there .here) .nil))))))) ?_
                  exact PX.loop hK5 (k + 1) (by omega) (by first | omega | (dsimp only; omega)) ⟨rfl, rfl, rfl, rfl, rfl, rfl, rfl, rfl, rfl, rfl, rfl, trivial⟩ (.keep (row_eq (valT_put (by rw [hsat, st4 h193]))) (HSub.refl _))
                · -- if t193: else
                  have h193 := of_decide_eq_false h193
                  refine CT.seq ?_
                  -- region 33: ref.go:82
                  refine CT.region ?_
                  refine Wl.q rfl rfl (OpQ.eql rfl rfl) ?_
                  refine Wl.q rfl rfl (OpQ.assign rfl) ?_
                  refine Wl.nil ?_
                  refine PX.then_n ?_
                  refine CT.cond rfl (fun h210 => ?_) (fun h210 => ?_)
                  · -- if t210: then
                    have h210 := of_decide_eq_true h210
                    have pa1 := pa (ga_op.2 (by omega))
                    obtain ⟨qa1, qa2⟩ := hin.tab (xs.getD i f0).a.toNat (by omega) (by omega) ((hnd.use i (by omega) (by omega) hni).1 (ga_op.2 (by omega)))
                    have qal : (os.getD (xs.getD i f0).a.toNat ob0).vs.length = ((ws.length + 1) * (ws.length + 1) * (ws.length + 1)) := by rw [qa2, valT_len]
                    have pb1 := pb (gb_op.2 (by omega))
                    obtain ⟨qb1, qb2⟩ := hin.tab (xs.getD i f0).b.toNat (by omega) (by omega) ((hnd.use i (by omega) (by omega) hni).2 (gb_op.2 (by omega)))
                    have qbl : (os.getD (xs.getD i f0).b.toNat ob0).vs.length = ((ws.length + 1) * (ws.length + 1) * (ws.length + 1)) := by rw [qb2, valT_len]
                    -- region 34, drawn: ref.go:83
                    refine CT.draw 24 L_mixed ?_
                    refine RA.q 0 (by kernel_rfl) rfl rfl rfl (.refl _) (OpQ.move rfl) ?_
                    refine RA.q 1 (by kernel_rfl) rfl rfl rfl (.refl _) (OpQ.move rfl) ?_
                    refine RA.q 2 (by kernel_rfl) rfl rfl rfl (.refl _) (OpQ.index1 L_un96 L_sz95 rfl rfl (by omega) rfl) ?_
                    refine RA.q 3 (by kernel_rfl) rfl rfl rfl (.refl _) (OpQ.loadRow L_sc95 rfl (.there (.there (.there (.there .here)))) (set_same (by rw [List.length_map, hol]; omega))) ?_
                    refine RA.q 4 (by kernel_rfl) rfl rfl rfl (.refl _) (OpQ.move rfl) ?_
                    refine RA.q 5 (by kernel_rfl) rfl rfl rfl (.refl _) (OpQ.move rfl) ?_
                    refine RA.q 6 (by kernel_rfl) rfl rfl rfl (.refl _) (OpQ.fieldAddr L_fa29_4 rfl) ?_
                    refine RA.q 7 (by kernel_rfl) rfl rfl rfl (.refl _) (OpQ.loadF (b := b17) L_sc3 rfl (by repeat (first | exact Has.here | apply Has.there)) (by rfl)) ?_
                    refine RA.q 8 (by kernel_rfl) rfl rfl rfl (.refl _) (OpQ.index1 L_un96 L_sz95 rfl rfl (by omega) rfl) ?_
                    refine RA.q 9 (by kernel_rfl) rfl rfl rfl (.refl _) (OpQ.loadRow L_sc95 rfl (.there (.there (.there (.there .here)))) (set_other (by have := pa (ga_op.2 (by omega)); omega) (by have := pa (ga_op.2 (by omega)); omega))) ?_
                    refine RA.q 10 (by kernel_rfl) rfl rfl rfl (.refl _) (OpQ.move rfl) ?_
                    refine RA.q 11 (by kernel_rfl) rfl rfl rfl (.refl _) (OpQ.index1 L_un95 L_sz4 rfl rfl ⟨by omega, by rw [qal]; omega⟩ qa1) ?_
                    refine RA.q 12 (by kernel_rfl) rfl rfl rfl (.refl _) (OpQ.loadG L_sc4 rfl (fun w hH => hH.fragp (.there (.there (.there .here))) _ (getD_mem (by omega))) (getMap bo (os.getD (xs.getD i f0).a.toNat ob0).vs false (j := k) (by omega))) ?_
                    refine RA.know 224 (v' := .bool (sat xs ws (xs.getD i f0).a.toNat (d3 (ws.length + 1) k))) rfl (congrArg Value.bool (by rw [qa2]; exact valT_k (by omega))) ?_
                    refine RA.q 13 (by kernel_rfl) rfl rfl rfl (.refl _) (OpQ.move rfl) ?_
                    refine RA.split 225 rfl (fun hg225 => ?_) (fun hg225 => ?_)
                    · -- t225 = True
                      refine RA.q 14 (by kernel_rfl) rfl rfl rfl (.refl _) (OpQ.move rfl) ?_
                      refine RA.q 15 (by kernel_rfl) rfl rfl rfl (.refl _) (OpQ.fieldAddr L_fa29_5 rfl) ?_
                      refine RA.q 16 (by kernel_rfl) rfl rfl rfl (.refl _) (OpQ.loadF (b := b17) L_sc3 rfl (by repeat (first | exact Has.here | apply Has.there)) (by rfl)) ?_
                      refine RA.q 17 (by kernel_rfl) rfl rfl rfl (.refl _) (OpQ.index1 L_un96 L_sz95 rfl rfl (by omega) rfl) ?_
                      refine RA.q 18 (by kernel_rfl) rfl rfl rfl (.refl _) (OpQ.loadRow L_sc95 rfl (.there (.there (.there (.there .here)))) (set_other (by have := pb (gb_op.2 (by omega)); omega) (by have := pb (gb_op.2 (by omega)); omega))) ?_
                      refine RA.q 19 (by kernel_rfl) rfl rfl rfl (.refl _) (OpQ.move rfl) ?_
                      refine RA.q 20 (by kernel_rfl) rfl rfl rfl (.refl _) (OpQ.index1 L_un95 L_sz4 rfl rfl ⟨by omega, by rw [qbl]; omega⟩ qb1) ?_
                      refine RA.q 21 (by kernel_rfl) rfl rfl rfl (.refl _) (OpQ.loadG L_sc4 rfl (fun w hH => hH.fragp (.there (.there (.there .here))) _ (getD_mem (by omega))) (getMap bo (os.getD (xs.getD i f0).b.toNat ob0).vs false (j := k) (by omega))) ?_
                      refine RA.know 233 (v' := .bool (sat xs ws (xs.getD i f0).b.toNat (d3 (ws.length + 1) k))) rfl (congrArg Value.bool (by rw [qb2]; exact valT_k (by omega))) ?_
                      refine RA.q 22 (by kernel_rfl) rfl rfl rfl (.refl _) (OpQ.pickT rfl rfl) ?_
                      refine RA.q 23 (by kernel_rfl) rfl rfl rfl (.refl _) (OpQ.index1 L_un95 L_sz4 rfl rfl (by omega) rfl) ?_
                      refine RA.tail ?_
                      refine RT.f 24 (by kernel_rfl) rfl rfl rfl (OpG.storeRow L_sz4 rfl rfl rfl (.there .here) (by rw [List.length_map, valT_len]; show k < _; omega)) ?_
                      rintro _ _
                      refine RT.done (by kernel_rfl) ?_
                      refine PX.block_n ?_
                      refine PX.block_n ?_
                      refine PX.then_n ?_
                      -- region 43: ref.go:71
                      refine CT.region ?_
                      refine Wl.q rfl rfl (OpQ.add rfl rfl (by omega)) ?_
                      refine Wl.q rfl rfl (OpQ.move rfl) ?_
                      refine Wl.nil ?_
                      refine PX.as (fun _ h => h.take (.cons (.there .here) (.cons (.there .here) (.cons (.there .here) (.cons (.there .here) (.cons (.there .here) (.cons (.there .here) .nil))))))) ?_
                      exact PX.loop hK5 (k + 1) (by omega) (by first | omega | (dsimp only; omega)) ⟨rfl, rfl, rfl, rfl, rfl, rfl, rfl, rfl, rfl, rfl, rfl, trivial⟩ (.keep (row_eq (valT_put (by rw [hsat, st5 h210, hg225]; rfl))) (HSub.refl _))
                    · -- t225 = False
                      refine RA.skip 14 (by kernel_rfl) rfl rfl rfl (.refl _) ?_
                      refine RA.skip 15 (by kernel_rfl) rfl rfl rfl (.refl _) ?_
                      refine RA.skip 16 (by kernel_rfl) rfl rfl rfl (.refl _) ?_
                      refine RA.skip 17 (by kernel_rfl) rfl rfl rfl (.refl _) ?_
                      refine RA.skip 18 (by kernel_rfl) rfl rfl rfl (.refl _) ?_
                      refine RA.skip 19 (by kernel_rfl) rfl rfl rfl (.refl _) ?_
                      refine RA.skip 20 (by kernel_rfl) rfl rfl rfl (.refl _) ?_
                      refine RA.skip 21 (by kernel_rfl) rfl rfl rfl (.refl _) ?_
                      refine RA.q 22 (by kernel_rfl) rfl rfl rfl (.refl _) (OpQ.pickF rfl rfl) ?_
                      refine RA.q 23 (by kernel_rfl) rfl rfl rfl (.refl _) (OpQ.index1 L_un95 L_sz4 rfl rfl (by omega) rfl) ?_
                      refine RA.tail ?_
                      refine RT.f 24 (by kernel_rfl) rfl rfl rfl (OpG.storeRow L_sz4 rfl rfl rfl (.there .here) (by rw [List.length_map, valT_len]; show k < _; omega)) ?_
                      rintro _ _
                      refine RT.done (by kernel_rfl) ?_
                      refine PX.block_n ?_
                      refine PX.block_n ?_
                      refine PX.then_n ?_
                      -- region 43: ref.go:71
                      refine CT.region ?_
                      refine Wl.q rfl rfl (OpQ.add rfl rfl (by omega)) ?_
                      refine Wl.q rfl rfl (OpQ.move rfl) ?_
                      refine Wl.nil ?_
                      refine PX.as (fun _ h => h.take (.cons (.there .here) (.cons (.there .here) (.cons (.there .here) (.cons (.there .here) (.cons (.there .here) (.cons (.there .here) .nil))))))) ?_
                      exact PX.loop hK5 (k + 1) (by omega) (by first | omega | (dsimp only; omega)) ⟨rfl, rfl, rfl, rfl, rfl, rfl, rfl, rfl, rfl, rfl, rfl, trivial⟩ (.keep (row_eq (valT_put (by rw [hsat, st5 h210, hg225]; rfl))) (HSub.refl _))
                  · -- if t210: else
                    have h210 := of_decide_eq_false h210
                    refine CT.seq ?_
                    -- region 35: ref.go:84
                    refine CT.region ?_
                    refine Wl.q rfl rfl (OpQ.eql rfl rfl) ?_
                    refine Wl.q rfl rfl (OpQ.assign rfl) ?_
                    refine Wl.nil ?_
                    refine PX.then_n ?_
                    refine CT.cond rfl (fun h236 => ?_) (fun h236 => ?_)
                    · -- if t236: then
                      have h236 := of_decide_eq_true h236
                      have pa1 := pa (ga_op.2 (by omega))
                      obtain ⟨qa1, qa2⟩ := hin.tab (xs.getD i f0).a.toNat (by omega) (by omega) ((hnd.use i (by omega) (by omega) hni).1 (ga_op.2 (by omega)))
                      have qal : (os.getD (xs.getD i f0).a.toNat ob0).vs.length = ((ws.length + 1) * (ws.length + 1) * (ws.length + 1)) := by rw [qa2, valT_len]
                      have pb1 := pb (gb_op.2 (by omega))
                      obtain ⟨qb1, qb2⟩ := hin.tab (xs.getD i f0).b.toNat (by omega) (by omega) ((hnd.use i (by omega) (by omega) hni).2 (gb_op.2 (by omega)))
                      have qbl : (os.getD (xs.getD i f0).b.toNat ob0).vs.length = ((ws.length + 1) * (ws.length + 1) * (ws.length + 1)) := by rw [qb2, valT_len]
                      -- region 36, drawn: ref.go:85
                      refine CT.draw 24 L_mixed ?_
                      refine RA.q 0 (by kernel_rfl) rfl rfl rfl (.refl _) (OpQ.move rfl) ?_
                      refine RA.q 1 (by kernel_rfl) rfl rfl rfl (.refl _) (OpQ.move rfl) ?_
                      refine RA.q 2 (by kernel_rfl) rfl rfl rfl (.refl _) (OpQ.index1 L_un96 L_sz95 rfl rfl (by omega) rfl) ?_
                      refine RA.q 3 (by kernel_rfl) rfl rfl rfl (.refl _) (OpQ.loadRow L_sc95 rfl (.there (.there (.there (.there .here)))) (set_same (by rw [List.length_map, hol]; omega))) ?_
                      refine RA.q 4 (by kernel_rfl) rfl rfl rfl (.refl _) (OpQ.move rfl) ?_
                      refine RA.q 5 (by kernel_rfl) rfl rfl rfl (.refl _) (OpQ.move rfl) ?_
                      refine RA.q 6 (by kernel_rfl) rfl rfl rfl (.refl _) (OpQ.fieldAddr L_fa29_4 rfl) ?_
                      refine RA.q 7 (by kernel_rfl) rfl rfl rfl (.refl _) (OpQ.loadF (b := b17) L_sc3 rfl (by repeat (first | exact Has.here | apply Has.there)) (by rfl)) ?_
                      refine RA.q 8 (by kernel_rfl) rfl rfl rfl (.refl _) (OpQ.index1 L_un96 L_sz95 rfl rfl (by omega) rfl) ?_
                      refine RA.q 9 (by kernel_rfl) rfl rfl rfl (.refl _) (OpQ.loadRow L_sc95 rfl (.there (.there (.there (.there .here)))) (set_other (by have := pa (ga_op.2 (by omega)); omega) (by have := pa (ga_op.2 (by omega)); omega))) ?_
                      refine RA.q 10 (by kernel_rfl) rfl rfl rfl (.refl _) (OpQ.move rfl) ?_
                      refine RA.q 11 (by kernel_rfl) rfl rfl rfl (.refl _) (OpQ.index1 L_un95 L_sz4 rfl rfl ⟨by omega, by rw [qal]; omega⟩ qa1) ?_
                      refine RA.q 12 (by kernel_rfl) rfl rfl rfl (.refl _) (OpQ.loadG L_sc4 rfl (fun w hH => hH.fragp (.there (.there (.there .here))) _ (getD_mem (by omega))) (getMap bo (os.getD (xs.getD i f0).a.toNat ob0).vs false (j := k) (by omega))) ?_
                      refine RA.know 250 (v' := .bool (sat xs ws (xs.getD i f0).a.toNat (d3 (ws.length + 1) k))) rfl (congrArg Value.bool (by rw [qa2]; exact valT_k (by omega))) ?_
                      refine RA.q 13 (by kernel_rfl) rfl rfl rfl (.refl _) (OpQ.move rfl) ?_
                      refine RA.split 251 rfl (fun hg251 => ?_) (fun hg251 => ?_)
                      · -- t251 = True
                        refine RA.skip 14 (by kernel_rfl) rfl rfl rfl (.refl _) ?_
                        refine RA.skip 15 (by kernel_rfl) rfl rfl rfl (.refl _) ?_
                        refine RA.skip 16 (by kernel_rfl) rfl rfl rfl (.refl _) ?_
                        refine RA.skip 17 (by kernel_rfl) rfl rfl rfl (.refl _) ?_
                        refine RA.skip 18 (by kernel_rfl) rfl rfl rfl (.refl _) ?_
                        refine RA.skip 19 (by kernel_rfl) rfl rfl rfl (.refl _) ?_
                        refine RA.skip 20 (by kernel_rfl) rfl rfl rfl (.refl _) ?_
                        refine RA.skip 21 (by kernel_rfl) rfl rfl rfl (.refl _) ?_
                        refine RA.q 22 (by kernel_rfl) rfl rfl rfl (.refl _) (OpQ.pickT rfl rfl) ?_
                        refine RA.q 23 (by kernel_rfl) rfl rfl rfl (.refl _) (OpQ.index1 L_un95 L_sz4 rfl rfl (by omega) rfl) ?_
                        refine RA.tail ?_
                        refine RT.f 24 (by kernel_rfl) rfl rfl rfl (OpG.storeRow L_sz4 rfl rfl rfl (.there .here) (by rw [List.length_map, valT_len]; show k < _; omega)) ?_
                        rintro _ _
                        refine RT.done (by kernel_rfl) ?_
                        refine PX.block_n ?_
                        refine PX.block_n ?_
                        refine PX.then_n ?_
                        -- region 43: ref.go:71
                        refine CT.region ?_
                        refine Wl.q rfl rfl (OpQ.add rfl rfl (by omega)) ?_
                        refine Wl.q rfl rfl (OpQ.move rfl) ?_
                        refine Wl.nil ?_
                        refine PX.as (fun _ h => h.take (.cons (.there .here) (.cons (.there .here) (.cons (.there .here) (.cons (.there .here) (.cons (.there .here) (.cons (.there .here) .nil))))))) ?_
                        exact PX.loop hK5 (k + 1) (by omega) (by first | omega | (dsimp only; omega)) ⟨rfl, rfl, rfl, rfl, rfl, rfl, rfl, rfl, rfl, rfl, rfl, trivial⟩ (.keep (row_eq (valT_put (by rw [hsat, st6 h236, hg251]; rfl))) (HSub.refl _))
                      · -- t251 = False
                        refine RA.q 14 (by kernel_rfl) rfl rfl rfl (.refl _) (OpQ.move rfl) ?_
                        refine RA.q 15 (by kernel_rfl) rfl rfl rfl (.refl _) (OpQ.fieldAddr L_fa29_5 rfl) ?_
                        refine RA.q 16 (by kernel_rfl) rfl rfl rfl (.refl _) (OpQ.loadF (b := b17) L_sc3 rfl (by repeat (first | exact Has.here | apply Has.there)) (by rfl)) ?_
                        refine RA.q 17 (by kernel_rfl) rfl rfl rfl (.refl _) (OpQ.index1 L_un96 L_sz95 rfl rfl (by omega) rfl) ?_
                        refine RA.q 18 (by kernel_rfl) rfl rfl rfl (.refl _) (OpQ.loadRow L_sc95 rfl (.there (.there (.there (.there .here)))) (set_other (by have := pb (gb_op.2 (by omega)); omega) (by have := pb (gb_op.2 (by omega)); omega))) ?_
                        refine RA.q 19 (by kernel_rfl) rfl rfl rfl (.refl _) (OpQ.move rfl) ?_
                        refine RA.q 20 (by kernel_rfl) rfl rfl rfl (.refl _) (OpQ.index1 L_un95 L_sz4 rfl rfl ⟨by omega, by rw [qbl]; omega⟩ qb1) ?_
                        refine RA.q 21 (by kernel_rfl) rfl rfl rfl (.refl _) (OpQ.loadG L_sc4 rfl (fun w hH => hH.fragp (.there (.there (.there .here))) _ (getD_mem (by omega))) (getMap bo (os.getD (xs.getD i f0).b.toNat ob0).vs false (j := k) (by omega))) ?_
                        refine RA.know 259 (v' := .bool (sat xs ws (xs.getD i f0).b.toNat (d3 (ws.length + 1) k))) rfl (congrArg Value.bool (by rw [qb2]; exact valT_k (by omega))) ?_
                        refine RA.q 22 (by kernel_rfl) rfl rfl rfl (.refl _) (OpQ.pickF rfl rfl) ?_
                        refine RA.q 23 (by kernel_rfl) rfl rfl rfl (.refl _) (OpQ.index1 L_un95 L_sz4 rfl rfl (by omega) rfl) ?_
                        refine RA.tail ?_
                        refine RT.f 24 (by kernel_rfl) rfl rfl rfl (OpG.storeRow L_sz4 rfl rfl rfl (.there .here) (by rw [List.length_map, valT_len]; show k < _; omega)) ?_
                        rintro _ _
                        refine RT.done (by kernel_rfl) ?_
                        refine PX.block_n ?_
                        refine PX.block_n ?_
                        refine PX.then_n ?_
                        -- region 43: ref.go:71
                        refine CT.region ?_
                        refine Wl.q rfl rfl (OpQ.add rfl rfl (by omega)) ?_
                        refine Wl.q rfl rfl (OpQ.move rfl) ?_
                        refine Wl.nil ?_
                        refine PX.as (fun _ h => h.take (.cons (.there .here) (.cons (.there .here) (.cons (.there .here) (.cons (.there .here) (.cons (.there .here) (.cons (.there .here) .nil))))))) ?_
                        exact PX.loop hK5 (k + 1) (by omega) (by first | omega | (dsimp only; omega)) ⟨rfl, rfl, rfl, rfl, rfl, rfl, rfl, rfl, rfl, rfl, rfl, trivial⟩ (.keep (row_eq (valT_put (by rw [hsat, st6 h236, hg251]; rfl))) (HSub.refl _))
                    · -- if t236: else
                      have h236 := of_decide_eq_false h236
                      refine CT.seq ?_
                      -- region 37: ref.go:86
                      refine CT.region ?_
                      refine Wl.q rfl rfl (OpQ.eql rfl rfl) ?_
                      refine Wl.q rfl rfl (OpQ.assign rfl) ?_
                      refine Wl.nil ?_
                      refine PX.then_n ?_
                      refine CT.cond rfl (fun h262 => ?_) (fun h262 => ?_)
                      · -- if t262: then
                        have h262 := of_decide_eq_true h262
                        have pa1 := pa (ga_op.2 (by omega))
                        obtain ⟨qa1, qa2⟩ := hin.tab (xs.getD i f0).a.toNat (by omega) (by omega) ((hnd.use i (by omega) (by omega) hni).1 (ga_op.2 (by omega)))
                        have qal : (os.getD (xs.getD i f0).a.toNat ob0).vs.length = ((ws.length + 1) * (ws.length + 1) * (ws.length + 1)) := by rw [qa2, valT_len]
                        have hx3 := px (gx_op.2 (by omega))
                        have gx1 := gv_lt hx3 hd3
                        have gs1 := stv_le (m := (ws.length + 1)) hx3 (by omega)
                        have gp1 : gv (d3 (ws.length + 1) k) (xs.getD i f0).x * stv (ws.length + 1) (xs.getD i f0).x ≤ 41 * (41 * 41) := Nat.mul_le_mul (by omega) (by omega)
                        have gk1 := gv_le_e3 (m := (ws.length + 1)) (v := (d3 (ws.length + 1) k)) hx3
                        rw [e3_d3] at gk1
                        refine CT.seq ?_
                        -- region 38, drawn: ref.go:87
                        refine CT.draw 14 L_mixed ?_
                        refine RA.q 0 (by kernel_rfl) rfl rfl rfl (.refl _) (OpQ.move rfl) ?_
                        refine RA.q 1 (by kernel_rfl) rfl rfl rfl (.refl _) (OpQ.move rfl) ?_
                        refine RA.q 2 (by kernel_rfl) rfl rfl rfl (.refl _) (OpQ.fieldAddr L_fa29_1 rfl) ?_
                        refine RA.q 3 (by kernel_rfl) rfl rfl rfl (.refl _) (OpQ.loadF (b := b17) L_sc3 rfl (by repeat (first | exact Has.here | apply Has.there)) (by rfl)) ?_
                        refine RA.q 4 (by kernel_rfl) rfl rfl rfl (.refl _) (OpQ.index1 L_un22 L_sz3 rfl rfl (by omega) rfl) ?_
                        refine RA.q 5 (by kernel_rfl) rfl rfl rfl (.refl _) (OpQ.loadRow L_sc3 rfl .here (g3z hx3)) ?_
                        refine RA.q 6 (by kernel_rfl) rfl rfl rfl (.refl _) (OpQ.move rfl) ?_
                        refine RA.q 7 (by kernel_rfl) rfl rfl rfl (.refl _) (OpQ.fieldAddr L_fa29_1 rfl) ?_
                        refine RA.q 8 (by kernel_rfl) rfl rfl rfl (.refl _) (OpQ.loadF (b := b17) L_sc3 rfl (by repeat (first | exact Has.here | apply Has.there)) (by rfl)) ?_
                        refine RA.q 9 (by kernel_rfl) rfl rfl rfl (.refl _) (OpQ.index1 L_un22 L_sz3 rfl rfl (by omega) rfl) ?_
                        refine RA.q 10 (by kernel_rfl) rfl rfl rfl (.refl _) (OpQ.loadRow L_sc3 rfl (.there (.there (.there (.there (.there .here))))) (st3z hx3)) ?_
                        refine RA.q 11 (by kernel_rfl) rfl rfl rfl (.refl _) (OpQ.mul rfl rfl (by omega)) ?_
                        refine RA.q 12 (by kernel_rfl) rfl rfl rfl (.refl _) (OpQ.sub rfl rfl (by omega)) ?_
                        refine RA.q 13 (by kernel_rfl) rfl rfl rfl (.refl _) (OpQ.assign rfl) ?_
                        refine RA.tail ?_
                        refine RT.done (by kernel_rfl) ?_
                        refine PX.then_n ?_
                        refine CT.seq ?_
                        -- region 39: ref.go:88
                        refine CT.region ?_
                        refine Wl.q rfl rfl (OpQ.assign rfl) ?_
                        refine Wl.nil ?_
                        refine PX.then_n ?_
                        refine CT.block ?_
                        -- the loop at region 40
                        refine CT.loop (ι := Nat) (fun c => c ≤ (ws.length + 1)) (fun c => [(0, .slice a xs.length cp), (1, .int .i64 (rt : Int)), (2, sv ws), (7, .int .i64 (((ws.length + 1) : Nat) : Int)), (8, .slice (some ⟨b27, 0, none⟩) (rt + 1) (rt + 1)), (14, .slice (some ⟨b79, 0, none⟩) (rt + 1) (rt + 1)), (15, .slice (some ⟨b84, 0, none⟩) 3 3), (16, .int .i64 (i : Int)), (17, .pointer (some ⟨b17, 0, none⟩)), (112, .int .i64 ((((ws.length + 1) * (ws.length + 1) * (ws.length + 1)) : Nat) : Int)), (113, .int .i64 (k : Int)), (18, .int .i64 (k : Int)), (20, .int .i64 ((k : Int) - ((gv (d3 (ws.length + 1) k) (xs.getD i f0).x : Nat) : Int) * ((stv (ws.length + 1) (xs.getD i f0).x : Nat) : Int))), (21, .int .i64 (c : Int))]) (fun c => [.row 3 1 (.slice (some ⟨b129, 0, none⟩) 3 3) 3 [.int .i64 (((d3 (ws.length + 1) k).1 : Nat) : Int), .int .i64 (((d3 (ws.length + 1) k).2.1 : Nat) : Int), .int .i64 (((d3 (ws.length + 1) k).2.2 : Nat) : Int)], .row 4 1 (.slice (some ⟨b106, 0, none⟩) ((ws.length + 1) * (ws.length + 1) * (ws.length + 1)) ((ws.length + 1) * (ws.length + 1) * (ws.length + 1))) ((ws.length + 1) * (ws.length + 1) * (ws.length + 1)) (((valT (sat xs ws i) (ws.length + 1) k).map bo).set k (.bool (anyT (sat xs ws (xs.getD i f0).a.toNat) (d3 (ws.length + 1) k) (xs.getD i f0).x c))), .row 29 6 (vb b17) 1 (fv (xs.getD i f0)), .frag bs (obs os), .row 95 1 (.slice (some ⟨b79, 0, none⟩) (rt + 1) (rt + 1)) (rt + 1) (((os.map obv).set i (.slice (some ⟨b106, 0, none⟩) ((ws.length + 1) * (ws.length + 1) * (ws.length + 1)) ((ws.length + 1) * (ws.length + 1) * (ws.length + 1))))), .row 3 1 (.slice (some ⟨b84, 0, none⟩) 3 3) 3 [.int .i64 ((((ws.length + 1) * (ws.length + 1)) : Nat) : Int), .int .i64 (((ws.length + 1) : Nat) : Int), .int .i64 1], .row 4 1 (.slice (some ⟨b27, 0, none⟩) (rt + 1) (rt + 1)) (rt + 1) ((nd).map bo)]) (fun c => (ws.length + 1) - c) 0 (Nat.zero_le _) ⟨rfl, rfl, rfl, rfl, rfl, rfl, rfl, rfl, rfl, rfl, rfl, rfl, rfl, rfl, trivial⟩ (.keep rfl (.keep (row_eq (set_id (by rw [valT_len]; omega) (by rw [valT_get (by omega)]; simp [anyT]))) (HSub.refl _))) (fun c hc K6 hK6 => ?_)
                        refine CT.seq ?_
                        refine CT.seq ?_
                        -- region 40: ref.go:88
                        refine CT.region ?_
                        refine Wl.q rfl rfl (OpQ.move rfl) ?_
                        refine Wl.q rfl rfl (OpQ.move rfl) ?_
                        refine Wl.q rfl rfl (OpQ.lss rfl rfl) ?_
                        refine Wl.nil ?_
                        refine PX.then_n ?_
                        refine CT.cond rfl (fun h279 => ?_) (fun h279 => ?_)
                        · -- if t279: then
                          have h279 := of_decide_eq_true h279
                          have gc1 : c * stv (ws.length + 1) (xs.getD i f0).x ≤ 41 * (41 * 41) := Nat.mul_le_mul (by omega) (by omega)
                          have ges := e3_sv (m := (ws.length + 1)) (v := (d3 (ws.length + 1) k)) hx3 c
                          rw [e3_d3] at ges
                          have gsl := sv_lt (k := (xs.getD i f0).x) hd3 (show c < (ws.length + 1) by omega)
                          have gel := e3_lt gsl.1 gsl.2.1 gsl.2.2
                          refine CT.skip ?_
                          refine PX.then_n ?_
                          refine CT.seq ?_
                          refine CT.block ?_
                          -- region 42, drawn: ref.go:89
                          refine CT.draw 31 L_mixed ?_
                          refine RA.q 0 (by kernel_rfl) rfl rfl rfl (.refl _) (OpQ.move rfl) ?_
                          refine RA.q 1 (by kernel_rfl) rfl rfl rfl (.refl _) (OpQ.move rfl) ?_
                          refine RA.q 2 (by kernel_rfl) rfl rfl rfl (.refl _) (OpQ.index1 L_un96 L_sz95 rfl rfl (by omega) rfl) ?_
                          refine RA.q 3 (by kernel_rfl) rfl rfl rfl (.refl _) (OpQ.loadRow L_sc95 rfl (.there (.there (.there (.there .here)))) (set_same (by rw [List.length_map, hol]; omega))) ?_
                          refine RA.q 4 (by kernel_rfl) rfl rfl rfl (.refl _) (OpQ.move rfl) ?_
                          refine RA.q 5 (by kernel_rfl) rfl rfl rfl (.refl _) (OpQ.move rfl) ?_
                          refine RA.q 6 (by kernel_rfl) rfl rfl rfl (.refl _) (OpQ.move rfl) ?_
                          refine RA.q 7 (by kernel_rfl) rfl rfl rfl (.refl _) (OpQ.index1 L_un96 L_sz95 rfl rfl (by omega) rfl) ?_
                          refine RA.q 8 (by kernel_rfl) rfl rfl rfl (.refl _) (OpQ.loadRow L_sc95 rfl (.there (.there (.there (.there .here)))) (set_same (by rw [List.length_map, hol]; omega))) ?_
                          refine RA.q 9 (by kernel_rfl) rfl rfl rfl (.refl _) (OpQ.move rfl) ?_
                          refine RA.q 10 (by kernel_rfl) rfl rfl rfl (.refl _) (OpQ.index1 L_un95 L_sz4 rfl rfl (by omega) rfl) ?_
                          refine RA.q 11 (by kernel_rfl) rfl rfl rfl (.refl _) (OpQ.loadRow L_sc4 rfl (.there .here) (set_same (by rw [List.length_map, valT_len]; show k < _; omega))) ?_
                          refine RA.q 12 (by kernel_rfl) rfl rfl rfl (.refl _) (OpQ.move rfl) ?_
                          refine RA.split 294 rfl (fun hg294 => ?_) (fun hg294 => ?_)
                          · -- t294 = True
                            refine RA.skip 13 (by kernel_rfl) rfl rfl rfl (.refl _) ?_
                            refine RA.skip 14 (by kernel_rfl) rfl rfl rfl (.refl _) ?_
                            refine RA.skip 15 (by kernel_rfl) rfl rfl rfl (.refl _) ?_
                            refine RA.skip 16 (by kernel_rfl) rfl rfl rfl (.refl _) ?_
                            refine RA.skip 17 (by kernel_rfl) rfl rfl rfl (.refl _) ?_
                            refine RA.skip 18 (by kernel_rfl) rfl rfl rfl (.refl _) ?_
                            refine RA.skip 19 (by kernel_rfl) rfl rfl rfl (.refl _) ?_
                            refine RA.skip 20 (by kernel_rfl) rfl rfl rfl (.refl _) ?_
                            refine RA.skip 21 (by kernel_rfl) rfl rfl rfl (.refl _) ?_
                            refine RA.skip 22 (by kernel_rfl) rfl rfl rfl (.refl _) ?_
                            refine RA.skip 23 (by kernel_rfl) rfl rfl rfl (.refl _) ?_
                            refine RA.skip 24 (by kernel_rfl) rfl rfl rfl (.refl _) ?_
                            refine RA.skip 25 (by kernel_rfl) rfl rfl rfl (.refl _) ?_
                            refine RA.skip 26 (by kernel_rfl) rfl rfl rfl (.refl _) ?_
                            refine RA.skip 27 (by kernel_rfl) rfl rfl rfl (.refl _) ?_
                            refine RA.skip 28 (by kernel_rfl) rfl rfl rfl (.refl _) ?_
                            refine RA.q 29 (by kernel_rfl) rfl rfl rfl (.refl _) (OpQ.pickT rfl rfl) ?_
                            refine RA.q 30 (by kernel_rfl) rfl rfl rfl (.refl _) (OpQ.index1 L_un95 L_sz4 rfl rfl (by omega) rfl) ?_
                            refine RA.tail ?_
                            refine RT.f 31 (by kernel_rfl) rfl rfl rfl (OpG.storeRow L_sz4 rfl rfl rfl (.there .here) (by rw [List.length_set, List.length_map, valT_len]; show k < _; omega)) ?_
                            rintro _ _
                            refine RT.done (by kernel_rfl) ?_
                            refine PX.block_n ?_
                            refine PX.then_n ?_
                            -- region 41: ref.go:88
                            refine CT.region ?_
                            refine Wl.q rfl rfl (OpQ.move rfl) ?_
                            refine Wl.q rfl rfl (OpQ.add rfl rfl (by omega)) ?_
                            refine Wl.q rfl rfl (OpQ.assign rfl) ?_
                            refine Wl.nil ?_
                            exact PX.loop hK6 (c + 1) (by omega) (by first | omega | (dsimp only; omega)) ⟨rfl, rfl, rfl, rfl, rfl, rfl, rfl, rfl, rfl, rfl, rfl, rfl, rfl, rfl, trivial⟩ (.keep rfl (.keep (row_eq (by rw [anyT_s, hg294, Bool.true_or]; exact (set_set' _ _ _ _).symm)) (HSub.refl _)))
                          · -- t294 = False
                            refine RA.q 13 (by kernel_rfl) rfl rfl rfl (.refl _) (OpQ.move rfl) ?_
                            refine RA.q 14 (by kernel_rfl) rfl rfl rfl (.refl _) (OpQ.fieldAddr L_fa29_4 rfl) ?_
                            refine RA.q 15 (by kernel_rfl) rfl rfl rfl (.refl _) (OpQ.loadF (b := b17) L_sc3 rfl (by repeat (first | exact Has.here | apply Has.there)) (by rfl)) ?_
                            refine RA.q 16 (by kernel_rfl) rfl rfl rfl (.refl _) (OpQ.index1 L_un96 L_sz95 rfl rfl (by omega) rfl) ?_
                            refine RA.q 17 (by kernel_rfl) rfl rfl rfl (.refl _) (OpQ.loadRow L_sc95 rfl (.there (.there (.there (.there .here)))) (set_other (by have := pa (ga_op.2 (by omega)); omega) (by have := pa (ga_op.2 (by omega)); omega))) ?_
                            refine RA.q 18 (by kernel_rfl) rfl rfl rfl (.refl _) (OpQ.move rfl) ?_
                            refine RA.q 19 (by kernel_rfl) rfl rfl rfl (.refl _) (OpQ.move rfl) ?_
                            refine RA.q 20 (by kernel_rfl) rfl rfl rfl (.refl _) (OpQ.move rfl) ?_
                            refine RA.q 21 (by kernel_rfl) rfl rfl rfl (.refl _) (OpQ.fieldAddr L_fa29_1 rfl) ?_
                            refine RA.q 22 (by kernel_rfl) rfl rfl rfl (.refl _) (OpQ.loadF (b := b17) L_sc3 rfl (by repeat (first | exact Has.here | apply Has.there)) (by rfl)) ?_
                            refine RA.q 23 (by kernel_rfl) rfl rfl rfl (.refl _) (OpQ.index1 L_un22 L_sz3 rfl rfl (by omega) rfl) ?_
                            refine RA.q 24 (by kernel_rfl) rfl rfl rfl (.refl _) (OpQ.loadRow L_sc3 rfl (.there (.there (.there (.there (.there .here))))) (st3z hx3)) ?_
                            refine RA.q 25 (by kernel_rfl) rfl rfl rfl (.refl _) (OpQ.mul rfl rfl (by omega)) ?_
                            refine RA.q 26 (by kernel_rfl) rfl rfl rfl (.refl _) (OpQ.add rfl rfl (by omega)) ?_
                            refine RA.know 308 (v' := .int .i64 ((e3 (ws.length + 1) (sv3 (d3 (ws.length + 1) k) (xs.getD i f0).x c) : Nat) : Int)) rfl (congrArg (Value.int .i64) (by omega)) ?_
                            refine RA.q 27 (by kernel_rfl) rfl rfl rfl (.refl _) (OpQ.index1 L_un95 L_sz4 rfl rfl ⟨by omega, by rw [qal]; omega⟩ qa1) ?_
                            refine RA.q 28 (by kernel_rfl) rfl rfl rfl (.refl _) (OpQ.loadG L_sc4 rfl (fun w hH => hH.fragp (.there (.there (.there .here))) _ (getD_mem (by omega))) (getMap bo (os.getD (xs.getD i f0).a.toNat ob0).vs false (j := e3 (ws.length + 1) (sv3 (d3 (ws.length + 1) k) (xs.getD i f0).x c)) (by omega))) ?_
                            refine RA.know 310 (v' := .bool (sat xs ws (xs.getD i f0).a.toNat (sv3 (d3 (ws.length + 1) k) (xs.getD i f0).x c))) rfl (congrArg Value.bool (by rw [qa2]; exact valT_all gsl.1 gsl.2.1 gsl.2.2)) ?_
                            refine RA.q 29 (by kernel_rfl) rfl rfl rfl (.refl _) (OpQ.pickF rfl rfl) ?_
                            refine RA.q 30 (by kernel_rfl) rfl rfl rfl (.refl _) (OpQ.index1 L_un95 L_sz4 rfl rfl (by omega) rfl) ?_
                            refine RA.tail ?_
                            refine RT.f 31 (by kernel_rfl) rfl rfl rfl (OpG.storeRow L_sz4 rfl rfl rfl (.there .here) (by rw [List.length_set, List.length_map, valT_len]; show k < _; omega)) ?_
                            rintro _ _
                            refine RT.done (by kernel_rfl) ?_
                            refine PX.block_n ?_
                            refine PX.then_n ?_
                            -- region 41: ref.go:88
                            refine CT.region ?_
                            refine Wl.q rfl rfl (OpQ.move rfl) ?_
                            refine Wl.q rfl rfl (OpQ.add rfl rfl (by omega)) ?_
                            refine Wl.q rfl rfl (OpQ.assign rfl) ?_
                            refine Wl.nil ?_
                            exact PX.loop hK6 (c + 1) (by omega) (by first | omega | (dsimp only; omega)) ⟨rfl, rfl, rfl, rfl, rfl, rfl, rfl, rfl, rfl, rfl, rfl, rfl, rfl, rfl, trivial⟩ (.keep rfl (.keep (row_eq (by rw [anyT_s, hg294, Bool.false_or]; exact (set_set' _ _ _ _).symm)) (HSub.refl _)))
                        · -- if t279: else
                          have h279 := of_decide_eq_false h279
                          refine CT.exit ?_
                          refine PX.then_x ?_
                          refine PX.then_x ?_
                          refine PX.block_x ?_
                          refine PX.block_n ?_
                          refine PX.block_n ?_
                          refine PX.then_n ?_
                          -- region 43: ref.go:71
                          refine CT.region ?_
                          refine Wl.q rfl rfl (OpQ.add rfl rfl (by omega)) ?_
                          refine Wl.q rfl rfl (OpQ.move rfl) ?_
                          refine Wl.nil ?_
                          obtain rfl : c = (ws.length + 1) := by omega
                          refine PX.as (fun _ h => h.take (.cons (.there .here) (.cons (.there .here) (.cons (.there .here) (.cons (.there .here) (.cons (.there .here) (.cons (.there .here) .nil))))))) ?_
                          exact PX.loop hK5 (k + 1) (by omega) (by first | omega | (dsimp only; omega)) ⟨rfl, rfl, rfl, rfl, rfl, rfl, rfl, rfl, rfl, rfl, rfl, trivial⟩ (.keep (row_eq (valT_put (by rw [hsat, st7 h262]))) (HSub.refl _))
                      · -- if t262: else
                        have h262 := of_decide_eq_false h262
                        exact absurd ho (by omega)
        · -- if t114: else
          have h114 := of_decide_eq_false h114
          refine CT.exit ?_
          refine PX.then_x ?_
          refine PX.then_x ?_
          refine PX.block_x ?_
          refine PX.block_n ?_
          refine PX.then_n ?_
          -- region 16: ref.go:65
          refine CT.region ?_
          refine Wl.q rfl rfl (OpQ.move rfl) ?_
          refine Wl.q rfl rfl (OpQ.add rfl rfl (by omega)) ?_
          refine Wl.q rfl rfl (OpQ.assign rfl) ?_
          refine Wl.nil ?_
          obtain rfl : k = ((ws.length + 1) * (ws.length + 1) * (ws.length + 1)) := by omega
          refine PX.as (fun _ h => h.bind (L := [.frag bs (obs os), .row 4 1 (.slice (some ⟨b106, 0, none⟩) ((ws.length + 1) * (ws.length + 1) * (ws.length + 1)) ((ws.length + 1) * (ws.length + 1) * (ws.length + 1))) ((ws.length + 1) * (ws.length + 1) * (ws.length + 1)) ((valT (sat xs ws i) (ws.length + 1) ((ws.length + 1) * (ws.length + 1) * (ws.length + 1))).map bo)]) (p := obs (os.set i ⟨some ⟨b106, 0, none⟩, ((ws.length + 1) * (ws.length + 1) * (ws.length + 1)), valT (sat xs ws i) (ws.length + 1) ((ws.length + 1) * (ws.length + 1) * (ws.length + 1))⟩)) (.cons (.there (.there .here)) (.cons .here .nil)) (fun w hk => obs_set (o := ⟨some ⟨b106, 0, none⟩, ((ws.length + 1) * (ws.length + 1) * (ws.length + 1)), valT (sat xs ws i) (ws.length + 1) ((ws.length + 1) * (ws.length + 1) * (ws.length + 1))⟩) ((hk _ List.mem_cons_self).2 w (fun _ _ => rfl)) (Rd.of_owns (hk _ (List.mem_cons_of_mem _ List.mem_cons_self))) i)) ?_
          refine PX.as (fun _ h => h.take (.cons .here (.cons (.there .here) (.cons (.there .here) (.cons (.there .here) .nil))))) ?_
          exact PX.loop hK4 (i + 1, os.set i ⟨some ⟨b106, 0, none⟩, ((ws.length + 1) * (ws.length + 1) * (ws.length + 1)), valT (sat xs ws i) (ws.length + 1) ((ws.length + 1) * (ws.length + 1) * (ws.length + 1))⟩, _) ⟨by omega, INR_put hin⟩ (show rt + 1 - (i + 1) < rt + 1 - i by omega) ⟨rfl, rfl, rfl, rfl, rfl, rfl, rfl, rfl, trivial⟩ (.keep rfl (.keep (row_eq obv_set) (.keep rfl (.keep rfl .nil))))
    · -- if t87: else
      have h87 := of_decide_eq_false h87
      refine CT.exit ?_
      refine PX.then_x ?_
      refine PX.then_x ?_
      refine PX.block_x ?_
      refine PX.then_n ?_
      refine CT.seq ?_
      -- region 44: ref.go:94
      refine CT.region ?_
      refine Wl.q rfl rfl (OpQ.move rfl) ?_
      refine Wl.q rfl rfl (OpQ.assign rfl) ?_
      refine Wl.nil ?_
      refine PX.then_n ?_
      refine CT.ret ?_
      refine PX.ret1 rfl rfl (fun w' hH => ?_)
      obtain rfl : i = rt + 1 := by omega
      obtain ⟨t1, t2⟩ := hin.tab rt (by omega) (by omega) hnd.top
      exact ⟨(os, bs, some ⟨b79, 0, none⟩, _), ⟨rfl, hin.len, t1, t2⟩, rfl, (hH.take (.cons .here (.cons .here .nil))).post⟩

end Go.Proofs.Ytdcjemjfliaaiaa
