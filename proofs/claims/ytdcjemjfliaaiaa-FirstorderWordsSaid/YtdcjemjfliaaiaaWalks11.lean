/-
  What functions of the packages firstorder, semigroupref38 and semigroupmade compute, each by its walk. Conditions: those that each theorem names.
-/
import Derived.Test.YtdcjemjfliaaiaaMod
import Derived.Test.YtdcjemjfliaaiaaWalks10
set_option linter.unusedSimpArgs false
namespace Go.Proofs.Ytdcjemjfliaaiaa
open Go Go.Eng Go.Fo Go.Sf
open Go.Tp (zi)
open Go.Tl (vf mayL Wd okW okB vf_t vf_f bo)

theorem VA_un82 : Try.prog.underlying 82 = some (.slice 85) := by kernel_rfl
theorem VA_in85 : (Try.prog.info? 85).map (fun i => (i.zero, i.size, i.bytes)) = some (some (.agg #[.bool false, .bool false, .bool false, .bool false, .bool false, .bool false, .bool false, .bool false, .bool false]), 9, 9) := by kernel_rfl
theorem VA_sz4 : sizeB Try.prog 4 = some 1 := by kernel_rfl
theorem VA_fa40_0 : fieldB Try.prog 40 0 = some 0 := by kernel_rfl
theorem VA_sc38 : scalarB Try.prog 38 = some true := by kernel_rfl
theorem VA_un38 : Try.prog.underlying 38 = some (.slice 72) := by kernel_rfl
theorem VA_mixed : Try.prog.follows .mixedOrders = true := by kernel_rfl
theorem VA_fa40_1 : fieldB Try.prog 40 1 = some 1 := by kernel_rfl
theorem VA_sc3 : scalarB Try.prog 3 = some true := by kernel_rfl
theorem VA_ag81 : isAggB Try.prog 81 = some true := by kernel_rfl
theorem VA_sz81 : sizeB Try.prog 81 = some 2 := by kernel_rfl
theorem VA_sz85 : sizeB Try.prog 85 = some 9 := by kernel_rfl
theorem VA_go39 : isGo Try.prog 39 = true := by kernel_rfl
theorem VA_un85 : Try.prog.underlying 85 = some (.array 9 4) := by kernel_rfl
theorem VA_sz72 : sizeB Try.prog 72 = some 4 := by kernel_rfl
theorem VA_ag72 : isAggB Try.prog 72 = some true := by kernel_rfl
theorem VA_in72 : (Try.prog.info? 72).map (fun i => (i.zero, i.size, i.bytes)) = some (some (.agg #[.int .i64 0, .int .i64 0, .int .i64 0, .int .i64 0]), 4, 32) := by kernel_rfl
theorem VA_ag85 : isAggB Try.prog 85 = some true := by kernel_rfl
theorem VA_sc4 : scalarB Try.prog 4 = some true := by kernel_rfl
theorem VA_go38 : isGo Try.prog 38 = true := by kernel_rfl
theorem VA_in81 : (Try.prog.info? 81).map (fun i => (i.zero, i.size, i.bytes)) = some (some (.agg #[.int .i64 0, .int .i64 0]), 2, 16) := by kernel_rfl
theorem VA_fa72_0 : fieldB Try.prog 72 0 = some 0 := by kernel_rfl
theorem VA_fa72_2 : fieldB Try.prog 72 2 = some 2 := by kernel_rfl
theorem VA_fa72_3 : fieldB Try.prog 72 3 = some 3 := by kernel_rfl
theorem VA_fa81_0 : fieldB Try.prog 81 0 = some 0 := by kernel_rfl
theorem VA_go55 : isGo Try.prog 55 = true := by kernel_rfl
theorem VA_pl81 : placesB Try.prog 81 = some (#[.int .i64 0, .int .i64 0], [(0, 1), (1, 1)]) := by kernel_rfl
theorem VA_fa81_1 : fieldB Try.prog 81 1 = some 1 := by kernel_rfl
set_option maxRecDepth 100000 in
/-- semigroup/firstorder.needs -/
theorem needs_spec (w : World) (a : Option Addr) (cp : Nat) (xs : List Nd) (hr : Rd w a (xs.flatMap nv)) (L : Int) (hG : okG xs L = true) (hn : xs.length ≤ 20000) (root : Nat) (hroot : root < xs.length) : Calls Try.prog 36 #[.agg #[.slice a xs.length cp, .int .i64 ((root : Nat) : Int)], .agg #[.int .i64 ((0 : Nat) : Int), .int .i64 ((1 : Nat) : Int)]] w (fun e w' => ∃ i : List Bool × Option Addr × Nat, Nds i.1 xs root 0 ∧ e = .returned (.slice i.2.1 xs.length i.2.2) ∧ Post [] [.row 85 9 (.slice i.2.1 xs.length i.2.2) xs.length (i.1.map bo)] w w') := by
  have sm : 0 < xs.length → a.isSome = true := fun h => hr.isSome (j := 0) (by rw [flat_len nv_len]; omega)
  refine enter (args := [.agg #[.slice a xs.length cp, .int .i64 ((root : Nat) : Int)], .agg #[.int .i64 ((0 : Nat) : Int), .int .i64 ((1 : Nat) : Int)]]) [] 96 Try.func36 rfl rfl rfl ?_
  refine CT.seq ?_
  -- region 0: translate.go:82
  refine CT.region ?_
  refine Wl.g rfl rfl (OpG.box (size := 2) rfl rfl rfl) ?_
  rintro b2 _
  refine Wl.g rfl rfl (OpG.box (size := 2) rfl rfl rfl) ?_
  rintro b3 _
  refine Wl.q rfl rfl (OpQ.assign rfl) ?_
  refine Wl.nil ?_
  refine PX.then_n ?_
  refine CT.seq ?_
  -- region 1: translate.go:83
  refine CT.region ?_
  refine Wl.q rfl rfl (OpQ.fieldAddr VA_fa40_0 rfl) ?_
  refine Wl.q rfl rfl (OpQ.loadF (b := b2) VA_sc38 rfl (by repeat (first | exact Has.here | apply Has.there)) (by rfl)) ?_
  refine Wl.q rfl rfl (OpQ.len VA_un38 rfl) ?_
  refine Wl.g rfl rfl (OpG.makeN VA_un82 VA_in85 rfl rfl (by decide) rfl rfl rfl (by omega) (by omega)) ?_
  rintro b14 _
  refine Wl.q rfl rfl (OpQ.assign rfl) ?_
  refine Wl.nil ?_
  refine PX.then_n ?_
  refine CT.seq ?_
  -- region 2, drawn: translate.go:84
  refine CT.draw 7 VA_mixed ?_
  refine RA.q 0 (by kernel_rfl) rfl rfl rfl (.refl _) (OpQ.move rfl) ?_
  refine RA.q 1 (by kernel_rfl) rfl rfl rfl (.refl _) (OpQ.fieldAddr VA_fa40_1 rfl) ?_
  refine RA.q 2 (by kernel_rfl) rfl rfl rfl (.refl _) (OpQ.loadF (b := b2) VA_sc3 rfl (by repeat (first | exact Has.here | apply Has.there)) (by rfl)) ?_
  refine RA.q 3 (by kernel_rfl) rfl rfl rfl (.refl _) (OpQ.loadV (b := b3) VA_ag81 VA_sz81 rfl (by repeat (first | exact Has.here | apply Has.there)) (by rfl)) ?_
  refine RA.q 5 (by kernel_rfl) rfl rfl rfl (.refl _) (OpQ.index VA_un82 VA_sz85 rfl rfl (by omega) rfl) ?_
  refine RA.f 4 (by kernel_rfl) rfl rfl rfl (OpG.callV VA_go39 rfl (fun w hH => slot_spec w 0 1 (by omega) (by omega))) (fun _ _ => (.refl _)) ?_
  rintro _ _
  refine RA.q 6 (by kernel_rfl) rfl rfl rfl (.refl _) (OpQ.indexArr1 VA_un85 VA_sz4 rfl rfl (by omega)) ?_
  refine RA.tail ?_
  refine RT.f 7 (by kernel_rfl) rfl rfl rfl (OpG.storeRowF (i := root * 9) (j := 1) VA_sz4 rfl rfl rfl (by repeat (first | exact Upd.here | apply Upd.there)) (by simp; omega)) ?_
  rintro _ _
  refine RT.done (by kernel_rfl) ?_
  refine PX.then_n ?_
  refine CT.seq ?_
  refine CT.seq ?_
  -- region 3: translate.go:85
  refine CT.region ?_
  refine Wl.q rfl rfl (OpQ.fieldAddr VA_fa40_1 rfl) ?_
  refine Wl.q rfl rfl (OpQ.loadF (b := b2) VA_sc3 rfl (by repeat (first | exact Has.here | apply Has.there)) (by rfl)) ?_
  refine Wl.q rfl rfl (OpQ.assign rfl) ?_
  refine Wl.nil ?_
  refine PX.then_n ?_
  refine CT.block ?_
  -- the loop at region 4
  refine CT.loop (ι := Nat × List Bool) (fun (m, nd) => m ≤ root + 1 ∧ Nds nd xs root m) (fun (m, nd) => [(2, .pointer (some ⟨b2, 0, none⟩)), (5, .slice (some ⟨b14, 0, none⟩) xs.length xs.length), (6, .int .i64 ((m : Int) - 1))]) (fun (m, nd) => [.row 85 9 (.slice (some ⟨b14, 0, none⟩) xs.length xs.length) xs.length (nd.map bo), .row 40 2 (vb b2) 1 [.slice a xs.length cp, .int .i64 ((root : Nat) : Int)]]) (fun (m, nd) => m) (root + 1, (List.replicate (xs.length * 9) false).set (root * 9 + 1) true) ⟨Nat.le_refl _, nds_start hroot⟩ ⟨rfl, rfl, (lkV rfl (congrArg (Value.int .i64) (by omega))), trivial⟩ (.keep (row_eq (by rw [List.map_set, ← rep9]; rfl)) (.drop (.keep rfl .nil))) (fun ⟨m, nd⟩ ⟨hm, hN⟩ K0 hK0 => ?_)
  dsimp only
  refine CT.seq ?_
  refine CT.seq ?_
  -- region 4: translate.go:85
  refine CT.region ?_
  refine Wl.q rfl rfl (OpQ.move rfl) ?_
  refine Wl.q rfl rfl (OpQ.geq rfl rfl) ?_
  refine Wl.nil ?_
  refine PX.then_n ?_
  refine CT.cond rfl (fun h25 => ?_) (fun h25 => ?_)
  · -- if t25: then
    have h25 := of_decide_eq_true h25
    obtain ⟨i, rfl⟩ : ∃ i, m = i + 1 := ⟨m - 1, by omega⟩
    refine CT.know 6 (v' := .int .i64 (i : Int)) rfl (congrArg (Value.int .i64) (by omega)) ?_
    obtain ⟨hop, _, hpa, hpb⟩ := okN_parts (okG_get hG (show i < xs.length by omega))
    have hnl := hN.len
    refine CT.skip ?_
    refine PX.then_n ?_
    refine CT.seq ?_
    refine CT.block ?_
    refine CT.seq ?_
    -- region 6: translate.go:86
    refine CT.region ?_
    refine Wl.q rfl rfl (OpQ.fieldAddr VA_fa40_0 rfl) ?_
    refine Wl.q rfl rfl (OpQ.loadF (b := b2) VA_sc38 rfl (by repeat (first | exact Has.here | apply Has.there)) (by rfl)) ?_
    refine Wl.q rfl rfl (OpQ.move rfl) ?_
    refine Wl.q rfl rfl (OpQ.index VA_un38 VA_sz72 rfl rfl (by omega) (sm (by omega))) ?_
    refine Wl.q rfl rfl (OpQ.loadAggG (cs := nv (xs.getD i n0)) VA_ag72 VA_sz72 rfl (fun w hH => hH.rd0 hr rfl) (flat_cells nv_len xs n0 (by omega))) ?_
    refine Wl.g rfl rfl (OpG.alloc (zs := [.int .i64 0, .int .i64 0, .int .i64 0, .int .i64 0]) VA_in72 rfl rfl) ?_
    rintro b7 _
    refine Wl.g rfl rfl (OpG.storeV (b := b7) VA_sz72 rfl rfl rfl rfl (by repeat (first | exact Upd.here | apply Upd.there))) ?_
    rintro _ _
    refine Wl.nil ?_
    refine PX.then_n ?_
    refine CT.seq ?_
    -- region 7: translate.go:87
    refine CT.region ?_
    refine Wl.q rfl rfl (OpQ.move rfl) ?_
    refine Wl.q rfl rfl (OpQ.move rfl) ?_
    refine Wl.q rfl rfl (OpQ.index VA_un82 VA_sz85 rfl rfl (by omega) rfl) ?_
    refine Wl.q rfl rfl (OpQ.loadAggG (cs := (rowB nd i)) VA_ag85 VA_sz85 rfl (fun w hH => hH.rd (.there .here)) (rowB_at (by omega))) ?_
    refine Wl.q rfl rfl (OpQ.move rfl) ?_
    refine Wl.nil ?_
    refine PX.then_n ?_
    refine CT.block ?_
    -- the loop at region 8
    refine CT.loop (ι := Nat × List Bool) (fun (s, md) => s ≤ 9 ∧ Le nd md i ∧ Off md ∧ ∀ t, t < s → ng md (i * 9 + t) = true → Clo md (xs.getD i n0) t) (fun (s, md) => [(2, .pointer (some ⟨b2, 0, none⟩)), (5, .slice (some ⟨b14, 0, none⟩) xs.length xs.length), (6, .int .i64 (i : Int)), (7, .pointer (some ⟨b7, 0, none⟩)), (36, .agg (rowB nd i).toArray), (37, .int .i64 (s : Int))]) (fun (s, md) => [.row 72 4 (vb b7) 1 (nv (xs.getD i n0)), .row 85 9 (.slice (some ⟨b14, 0, none⟩) xs.length xs.length) xs.length (md.map bo), .row 40 2 (vb b2) 1 [.slice a xs.length cp, .int .i64 ((root : Nat) : Int)]]) (fun (s, md) => 9 - s) (0, nd) ⟨Nat.zero_le _, Le.refl _ _, hN.off, fun t ht => by omega⟩ ⟨rfl, rfl, rfl, rfl, rfl, rfl, trivial⟩ (HSub.refl _) (fun ⟨s, md⟩ ⟨hs, hle, hof, hro2⟩ K1 hK1 => ?_)
    dsimp only
    refine CT.seq ?_
    -- region 8: translate.go:87
    refine CT.region ?_
    refine Wl.q rfl rfl (OpQ.lss rfl rfl) ?_
    refine Wl.nil ?_
    refine PX.then_n ?_
    refine CT.seq ?_
    refine CT.cond rfl (fun h38 => ?_) (fun h38 => ?_)
    · -- if t38: then
      have h38 := of_decide_eq_true h38
      refine CT.skip ?_
      refine PX.then_n ?_
      refine CT.seq ?_
      refine CT.block ?_
      refine CT.seq ?_
      -- region 9: translate.go:87
      refine CT.region ?_
      refine Wl.q rfl rfl (OpQ.move rfl) ?_
      refine Wl.q rfl rfl (OpQ.indexAgg1 VA_un85 VA_sc4 VA_sz4 rfl rfl (by omega) (rowB_get nd i (by omega))) ?_
      refine Wl.know 40 (v' := .bool (ng nd (i * 9 + s))) rfl rfl ?_
      refine Wl.q rfl rfl (OpQ.assign rfl) ?_
      refine Wl.q rfl rfl (OpQ.assign rfl) ?_
      refine Wl.nil ?_
      refine PX.then_n ?_
      refine CT.seq ?_
      refine CT.seq ?_
      -- region 10: translate.go:88
      refine CT.region ?_
      refine Wl.q rfl rfl (OpQ.move rfl) ?_
      refine Wl.q rfl rfl (OpQ.not rfl) ?_
      refine Wl.nil ?_
      refine PX.then_n ?_
      refine CT.cond rfl (fun h42 => ?_) (fun h42 => ?_)
      · -- if t42: then
        refine CT.exit ?_
        refine PX.then_x ?_
        refine PX.block_x ?_
        refine PX.then_n ?_
        -- region 22: translate.go:87
        refine CT.region ?_
        refine Wl.q rfl rfl (OpQ.add rfl rfl (by omega)) ?_
        refine Wl.q rfl rfl (OpQ.move rfl) ?_
        refine Wl.nil ?_
        exact PX.loop hK1 (s + 1, md) ⟨by omega, hle, hof, row_next hro2 (Le.refl md i) (fun h => by rw [hle.2.2 _ (by omega)] at h; rw [h] at h42; cases h42)⟩ (show 9 - (s + 1) < 9 - s by omega) ⟨rfl, rfl, rfl, rfl, rfl, rfl, trivial⟩ (HSub.refl _)
      · -- if t42: else
        have hnd : ng nd (i * 9 + s) = true := by simpa using h42
        have hdg : s / 3 ≠ s % 3 := by have h9 := hN.off _ hnd; rwa [show (i * 9 + s) % 9 = s by omega] at h9
        have hdl := diag hdg (by omega)
        have hml := hle.1
        refine CT.skip ?_
        refine PX.then_n ?_
        refine CT.seq ?_
        -- region 11: translate.go:91
        refine CT.region ?_
        refine Wl.q rfl rfl (OpQ.move rfl) ?_
        refine Wl.g rfl rfl (OpG.callV VA_go38 rfl (fun w hH => pairOf_spec w s (by omega))) ?_
        rintro _ _
        refine Wl.know 44 (v' := .agg #[.int .i64 ((s / 3 : Nat) : Int), .int .i64 ((s % 3 : Nat) : Int)]) rfl rfl ?_
        refine Wl.g rfl rfl (OpG.alloc (zs := [.int .i64 0, .int .i64 0]) VA_in81 rfl rfl) ?_
        rintro b10 _
        refine Wl.g rfl rfl (OpG.storeV (b := b10) VA_sz81 rfl rfl rfl rfl (by repeat (first | exact Upd.here | apply Upd.there))) ?_
        rintro _ _
        refine Wl.nil ?_
        refine PX.then_n ?_
        refine CT.seq ?_
        -- region 12: translate.go:92
        refine CT.region ?_
        refine Wl.q rfl rfl (OpQ.fieldAddr VA_fa72_0 rfl) ?_
        refine Wl.q rfl rfl (OpQ.loadF (b := b7) VA_sc3 rfl (by repeat (first | exact Has.here | apply Has.there)) (by rfl)) ?_
        refine Wl.nil ?_
        refine PX.then_n ?_
        refine CT.block ?_
        refine CT.seq ?_
        refine CT.seq ?_
        -- region 13: translate.go:93
        refine CT.region ?_
        refine Wl.q rfl rfl (OpQ.eql rfl rfl) ?_
        refine Wl.q rfl rfl (OpQ.assign rfl) ?_
        refine Wl.nil ?_
        refine PX.then_n ?_
        refine CT.cond rfl (fun h47 => ?_) (fun h47 => ?_)
        · -- if t47: then
          have h47 := of_decide_eq_true h47
          refine CT.skip ?_
          refine PX.then_n ?_
          refine CT.cond rfl (fun h47 => ?_) (fun h47 => ?_)
          · -- if t47: then
            have h47 := of_decide_eq_true h47
            refine CT.seq ?_
            -- region 15: translate.go:94
            refine CT.region ?_
            refine Wl.q rfl rfl (OpQ.move rfl) ?_
            refine Wl.q rfl rfl (OpQ.fieldAddr VA_fa72_2 rfl) ?_
            refine Wl.q rfl rfl (OpQ.loadF (b := b7) VA_sc3 rfl (by repeat (first | exact Has.here | apply Has.there)) (by rfl)) ?_
            refine Wl.q rfl rfl (OpQ.move rfl) ?_
            refine Wl.q rfl rfl (OpQ.index VA_un82 VA_sz85 rfl rfl (by omega) rfl) ?_
            refine Wl.q rfl rfl (OpQ.indexArr1 VA_un85 VA_sz4 rfl rfl (by omega)) ?_
            refine Wl.g rfl rfl (OpG.storeRowF (i := (xs.getD i n0).a.toNat * 9) (j := s) VA_sz4 rfl rfl rfl (by repeat (first | exact Upd.here | apply Upd.there)) (by simp only [List.length_set, List.length_map]; omega)) ?_
            rintro _ _
            refine Wl.nil ?_
            refine PX.then_n ?_
            -- region 16: translate.go:95
            refine CT.region ?_
            refine Wl.q rfl rfl (OpQ.move rfl) ?_
            refine Wl.q rfl rfl (OpQ.fieldAddr VA_fa72_3 rfl) ?_
            refine Wl.q rfl rfl (OpQ.loadF (b := b7) VA_sc3 rfl (by repeat (first | exact Has.here | apply Has.there)) (by rfl)) ?_
            refine Wl.q rfl rfl (OpQ.move rfl) ?_
            refine Wl.q rfl rfl (OpQ.index VA_un82 VA_sz85 rfl rfl (by omega) rfl) ?_
            refine Wl.q rfl rfl (OpQ.indexArr1 VA_un85 VA_sz4 rfl rfl (by omega)) ?_
            refine Wl.g rfl rfl (OpG.storeRowF (i := (xs.getD i n0).b.toNat * 9) (j := s) VA_sz4 rfl rfl rfl (by repeat (first | exact Upd.here | apply Upd.there)) (by simp only [List.length_set, List.length_map]; omega)) ?_
            rintro _ _
            refine Wl.nil ?_
            refine PX.block_n ?_
            refine PX.block_n ?_
            refine PX.then_n ?_
            -- region 22: translate.go:87
            refine CT.region ?_
            refine Wl.q rfl rfl (OpQ.add rfl rfl (by omega)) ?_
            refine Wl.q rfl rfl (OpQ.move rfl) ?_
            refine Wl.nil ?_
            exact PX.loop hK1 (s + 1, ((md.set ((xs.getD i n0).a.toNat * 9 + s) true).set ((xs.getD i n0).b.toNat * 9 + s) true)) ⟨by omega, ((hle.trans (Le.set (slot_lt2 (by omega) (by omega)))).trans (Le.set (slot_lt2 (by omega) (by omega)))), ((hof.set (slot_off2 hdg (by omega))).set (slot_off2 hdg (by omega))), row_next hro2 (((Le.refl md i).trans (Le.set (slot_lt2 (by omega) (by omega)))).trans (Le.set (slot_lt2 (by omega) (by omega)))) (fun _ => ⟨hdg, fun _ => ⟨ng_keep (ng_at (by omega)), ng_at (by rw [List.length_set]; omega)⟩, (fun h => absurd h (by omega)), (fun h => absurd h (by omega))⟩)⟩ (show 9 - (s + 1) < 9 - s by omega) ⟨rfl, rfl, rfl, rfl, rfl, rfl, trivial⟩ (.drop (.keep rfl (.keep (row_eq (by simp only [List.map_set] <;> rfl)) (.keep rfl .nil))))
          · -- if t47: else
            have h47 := of_decide_eq_false h47
            refine CT.seq ?_
            -- region 17: translate.go:96
            refine CT.region ?_
            refine Wl.q rfl rfl (OpQ.eql rfl rfl) ?_
            refine Wl.q rfl rfl (OpQ.assign rfl) ?_
            refine Wl.nil ?_
            refine PX.then_n ?_
            refine CT.cond rfl (fun h62 => ?_) (fun h62 => ?_)
            · -- if t62: then
              have h62 := of_decide_eq_true h62
              -- region 18: translate.go:97
              refine CT.region ?_
              refine Wl.q rfl rfl (OpQ.move rfl) ?_
              refine Wl.q rfl rfl (OpQ.fieldAddr VA_fa72_2 rfl) ?_
              refine Wl.q rfl rfl (OpQ.loadF (b := b7) VA_sc3 rfl (by repeat (first | exact Has.here | apply Has.there)) (by rfl)) ?_
              refine Wl.q rfl rfl (OpQ.move rfl) ?_
              refine Wl.q rfl rfl (OpQ.index VA_un82 VA_sz85 rfl rfl (by omega) rfl) ?_
              refine Wl.q rfl rfl (OpQ.indexArr1 VA_un85 VA_sz4 rfl rfl (by omega)) ?_
              refine Wl.g rfl rfl (OpG.storeRowF (i := (xs.getD i n0).a.toNat * 9) (j := s) VA_sz4 rfl rfl rfl (by repeat (first | exact Upd.here | apply Upd.there)) (by simp only [List.length_set, List.length_map]; omega)) ?_
              rintro _ _
              refine Wl.nil ?_
              refine PX.block_n ?_
              refine PX.block_n ?_
              refine PX.then_n ?_
              -- region 22: translate.go:87
              refine CT.region ?_
              refine Wl.q rfl rfl (OpQ.add rfl rfl (by omega)) ?_
              refine Wl.q rfl rfl (OpQ.move rfl) ?_
              refine Wl.nil ?_
              exact PX.loop hK1 (s + 1, (md.set ((xs.getD i n0).a.toNat * 9 + s) true)) ⟨by omega, (hle.trans (Le.set (slot_lt2 (by omega) (by omega)))), (hof.set (slot_off2 hdg (by omega))), row_next hro2 ((Le.refl md i).trans (Le.set (slot_lt2 (by omega) (by omega)))) (fun _ => ⟨hdg, (fun h => absurd h (by omega)), fun _ => ng_at (by omega), (fun h => absurd h (by omega))⟩)⟩ (show 9 - (s + 1) < 9 - s by omega) ⟨rfl, rfl, rfl, rfl, rfl, rfl, trivial⟩ (.drop (.keep rfl (.keep (row_eq (by simp only [List.map_set] <;> rfl)) (.keep rfl .nil))))
            · -- if t62: else
              have h62 := of_decide_eq_false h62
              refine CT.seq ?_
              -- region 19: translate.go:98
              refine CT.region ?_
              refine Wl.q rfl rfl (OpQ.eql rfl rfl) ?_
              refine Wl.q rfl rfl (OpQ.assign rfl) ?_
              refine Wl.nil ?_
              refine PX.then_n ?_
              refine CT.cond rfl (fun h70 => ?_) (fun h70 => ?_)
              · -- if t70: then
                have h70 := of_decide_eq_true h70
                refine CT.seq ?_
                -- region 20, drawn: translate.go:99
                refine CT.draw 11 VA_mixed ?_
                refine RA.q 0 (by kernel_rfl) rfl rfl rfl (.refl _) (OpQ.move rfl) ?_
                refine RA.q 1 (by kernel_rfl) rfl rfl rfl (.refl _) (OpQ.fieldAddr VA_fa72_2 rfl) ?_
                refine RA.q 2 (by kernel_rfl) rfl rfl rfl (.refl _) (OpQ.loadF (b := b7) VA_sc3 rfl (by repeat (first | exact Has.here | apply Has.there)) (by rfl)) ?_
                refine RA.q 3 (by kernel_rfl) rfl rfl rfl (.refl _) (OpQ.fieldAddr VA_fa81_0 rfl) ?_
                refine RA.q 4 (by kernel_rfl) rfl rfl rfl (.refl _) (OpQ.loadF (b := b10) VA_sc3 rfl (by repeat (first | exact Has.here | apply Has.there)) (by rfl)) ?_
                refine RA.q 5 (by kernel_rfl) rfl rfl rfl (.refl _) (OpQ.loadV (b := b10) VA_ag81 VA_sz81 rfl (by repeat (first | exact Has.here | apply Has.there)) (by rfl)) ?_
                refine RA.q 9 (by kernel_rfl) rfl rfl rfl (.refl _) (OpQ.index VA_un82 VA_sz85 rfl rfl (by omega) rfl) ?_
                refine RA.f 6 (by kernel_rfl) rfl rfl rfl (OpG.callV VA_go55 rfl (fun w hH => third_spec w (s / 3) (s % 3) (by omega))) (fun _ _ => (.refl _)) ?_
                rintro _ _
                refine RA.q 7 (by kernel_rfl) rfl rfl rfl (.refl _) (OpQ.build (cells := #[.int .i64 ((s / 3 : Nat) : Int), .int .i64 ((3 - s / 3 - s % 3 : Nat) : Int)]) VA_pl81 rfl rfl) ?_
                refine RA.f 8 (by kernel_rfl) rfl rfl rfl (OpG.callV VA_go39 rfl (fun w hH => slot_spec w (s / 3) (3 - s / 3 - s % 3) (by omega) (by omega))) (fun _ _ => (.refl _)) ?_
                rintro _ _
                refine RA.q 10 (by kernel_rfl) rfl rfl rfl (.refl _) (OpQ.indexArr1 VA_un85 VA_sz4 rfl rfl (by omega)) ?_
                refine RA.tail ?_
                refine RT.f 11 (by kernel_rfl) rfl rfl rfl (OpG.storeRowF (i := (xs.getD i n0).a.toNat * 9) (j := (s / 3 * 3 + (3 - s / 3 - s % 3))) VA_sz4 rfl rfl rfl (by repeat (first | exact Upd.here | apply Upd.there)) (by simp only [List.length_set, List.length_map]; omega)) ?_
                rintro _ _
                refine RT.done (by kernel_rfl) ?_
                refine PX.then_n ?_
                -- region 21, drawn: translate.go:100
                refine CT.draw 11 VA_mixed ?_
                refine RA.q 0 (by kernel_rfl) rfl rfl rfl (.refl _) (OpQ.move rfl) ?_
                refine RA.q 1 (by kernel_rfl) rfl rfl rfl (.refl _) (OpQ.fieldAddr VA_fa72_3 rfl) ?_
                refine RA.q 2 (by kernel_rfl) rfl rfl rfl (.refl _) (OpQ.loadF (b := b7) VA_sc3 rfl (by repeat (first | exact Has.here | apply Has.there)) (by rfl)) ?_
                refine RA.q 3 (by kernel_rfl) rfl rfl rfl (.refl _) (OpQ.loadV (b := b10) VA_ag81 VA_sz81 rfl (by repeat (first | exact Has.here | apply Has.there)) (by rfl)) ?_
                refine RA.q 5 (by kernel_rfl) rfl rfl rfl (.refl _) (OpQ.fieldAddr VA_fa81_1 rfl) ?_
                refine RA.q 6 (by kernel_rfl) rfl rfl rfl (.refl _) (OpQ.loadF (b := b10) VA_sc3 rfl (by repeat (first | exact Has.here | apply Has.there)) (by rfl)) ?_
                refine RA.q 9 (by kernel_rfl) rfl rfl rfl (.refl _) (OpQ.index VA_un82 VA_sz85 rfl rfl (by omega) rfl) ?_
                refine RA.f 4 (by kernel_rfl) rfl rfl rfl (OpG.callV VA_go55 rfl (fun w hH => third_spec w (s / 3) (s % 3) (by omega))) (fun _ _ => (.refl _)) ?_
                rintro _ _
                refine RA.q 7 (by kernel_rfl) rfl rfl rfl (.refl _) (OpQ.build (cells := #[.int .i64 ((3 - s / 3 - s % 3 : Nat) : Int), .int .i64 ((s % 3 : Nat) : Int)]) VA_pl81 rfl rfl) ?_
                refine RA.f 8 (by kernel_rfl) rfl rfl rfl (OpG.callV VA_go39 rfl (fun w hH => slot_spec w (3 - s / 3 - s % 3) (s % 3) (by omega) (by omega))) (fun _ _ => (.refl _)) ?_
                rintro _ _
                refine RA.q 10 (by kernel_rfl) rfl rfl rfl (.refl _) (OpQ.indexArr1 VA_un85 VA_sz4 rfl rfl (by omega)) ?_
                refine RA.tail ?_
                refine RT.f 11 (by kernel_rfl) rfl rfl rfl (OpG.storeRowF (i := (xs.getD i n0).b.toNat * 9) (j := ((3 - s / 3 - s % 3) * 3 + s % 3)) VA_sz4 rfl rfl rfl (by repeat (first | exact Upd.here | apply Upd.there)) (by simp only [List.length_set, List.length_map]; omega)) ?_
                rintro _ _
                refine RT.done (by kernel_rfl) ?_
                refine PX.block_n ?_
                refine PX.block_n ?_
                refine PX.then_n ?_
                -- region 22: translate.go:87
                refine CT.region ?_
                refine Wl.q rfl rfl (OpQ.add rfl rfl (by omega)) ?_
                refine Wl.q rfl rfl (OpQ.move rfl) ?_
                refine Wl.nil ?_
                exact PX.loop hK1 (s + 1, ((md.set ((xs.getD i n0).a.toNat * 9 + (s / 3 * 3 + (3 - s / 3 - s % 3))) true).set ((xs.getD i n0).b.toNat * 9 + ((3 - s / 3 - s % 3) * 3 + s % 3)) true)) ⟨by omega, ((hle.trans (Le.set (slot_lt (by omega) hdl.1 hdl.2.2.2.1))).trans (Le.set (slot_lt (by omega) hdl.2.2.2.1 hdl.2.1))), ((hof.set (slot_off hdl.1 hdl.2.2.2.1 hdl.2.2.2.2.1)).set (slot_off hdl.2.2.2.1 hdl.2.1 hdl.2.2.2.2.2)), row_next hro2 (((Le.refl md i).trans (Le.set (slot_lt (by omega) hdl.1 hdl.2.2.2.1))).trans (Le.set (slot_lt (by omega) hdl.2.2.2.1 hdl.2.1))) (fun _ => ⟨hdg, (fun h => absurd h (by omega)), (fun h => absurd h (by omega)), fun _ => ⟨ng_keep (ng_at (by omega)), ng_at (by rw [List.length_set]; omega)⟩⟩)⟩ (show 9 - (s + 1) < 9 - s by omega) ⟨rfl, rfl, rfl, rfl, rfl, rfl, trivial⟩ (.drop (.keep rfl (.keep (row_eq (by simp only [List.map_set] <;> rfl)) (.keep rfl .nil))))
              · -- if t70: else
                have h70 := of_decide_eq_false h70
                refine CT.skip ?_
                refine PX.block_n ?_
                refine PX.block_n ?_
                refine PX.then_n ?_
                -- region 22: translate.go:87
                refine CT.region ?_
                refine Wl.q rfl rfl (OpQ.add rfl rfl (by omega)) ?_
                refine Wl.q rfl rfl (OpQ.move rfl) ?_
                refine Wl.nil ?_
                exact PX.loop hK1 (s + 1, md) ⟨by omega, hle, hof, row_next hro2 (Le.refl md i) (fun _ => ⟨hdg, (fun h => absurd h (by omega)), (fun h => absurd h (by omega)), (fun h => absurd h (by omega))⟩)⟩ (show 9 - (s + 1) < 9 - s by omega) ⟨rfl, rfl, rfl, rfl, rfl, rfl, trivial⟩ (.drop (.keep rfl (.keep rfl (.keep rfl .nil))))
        · -- if t47: else
          have h47 := of_decide_eq_false h47
          -- region 14: translate.go:93
          refine CT.region ?_
          refine Wl.q rfl rfl (OpQ.eql rfl rfl) ?_
          refine Wl.q rfl rfl (OpQ.assign rfl) ?_
          refine Wl.nil ?_
          refine PX.then_n ?_
          refine CT.cond rfl (fun h47 => ?_) (fun h47 => ?_)
          · -- if t47: then
            have h47 := of_decide_eq_true h47
            refine CT.seq ?_
            -- region 15: translate.go:94
            refine CT.region ?_
            refine Wl.q rfl rfl (OpQ.move rfl) ?_
            refine Wl.q rfl rfl (OpQ.fieldAddr VA_fa72_2 rfl) ?_
            refine Wl.q rfl rfl (OpQ.loadF (b := b7) VA_sc3 rfl (by repeat (first | exact Has.here | apply Has.there)) (by rfl)) ?_
            refine Wl.q rfl rfl (OpQ.move rfl) ?_
            refine Wl.q rfl rfl (OpQ.index VA_un82 VA_sz85 rfl rfl (by omega) rfl) ?_
            refine Wl.q rfl rfl (OpQ.indexArr1 VA_un85 VA_sz4 rfl rfl (by omega)) ?_
            refine Wl.g rfl rfl (OpG.storeRowF (i := (xs.getD i n0).a.toNat * 9) (j := s) VA_sz4 rfl rfl rfl (by repeat (first | exact Upd.here | apply Upd.there)) (by simp only [List.length_set, List.length_map]; omega)) ?_
            rintro _ _
            refine Wl.nil ?_
            refine PX.then_n ?_
            -- region 16: translate.go:95
            refine CT.region ?_
            refine Wl.q rfl rfl (OpQ.move rfl) ?_
            refine Wl.q rfl rfl (OpQ.fieldAddr VA_fa72_3 rfl) ?_
            refine Wl.q rfl rfl (OpQ.loadF (b := b7) VA_sc3 rfl (by repeat (first | exact Has.here | apply Has.there)) (by rfl)) ?_
            refine Wl.q rfl rfl (OpQ.move rfl) ?_
            refine Wl.q rfl rfl (OpQ.index VA_un82 VA_sz85 rfl rfl (by omega) rfl) ?_
            refine Wl.q rfl rfl (OpQ.indexArr1 VA_un85 VA_sz4 rfl rfl (by omega)) ?_
            refine Wl.g rfl rfl (OpG.storeRowF (i := (xs.getD i n0).b.toNat * 9) (j := s) VA_sz4 rfl rfl rfl (by repeat (first | exact Upd.here | apply Upd.there)) (by simp only [List.length_set, List.length_map]; omega)) ?_
            rintro _ _
            refine Wl.nil ?_
            refine PX.block_n ?_
            refine PX.block_n ?_
            refine PX.then_n ?_
            -- region 22: translate.go:87
            refine CT.region ?_
            refine Wl.q rfl rfl (OpQ.add rfl rfl (by omega)) ?_
            refine Wl.q rfl rfl (OpQ.move rfl) ?_
            refine Wl.nil ?_
            exact PX.loop hK1 (s + 1, ((md.set ((xs.getD i n0).a.toNat * 9 + s) true).set ((xs.getD i n0).b.toNat * 9 + s) true)) ⟨by omega, ((hle.trans (Le.set (slot_lt2 (by omega) (by omega)))).trans (Le.set (slot_lt2 (by omega) (by omega)))), ((hof.set (slot_off2 hdg (by omega))).set (slot_off2 hdg (by omega))), row_next hro2 (((Le.refl md i).trans (Le.set (slot_lt2 (by omega) (by omega)))).trans (Le.set (slot_lt2 (by omega) (by omega)))) (fun _ => ⟨hdg, fun _ => ⟨ng_keep (ng_at (by omega)), ng_at (by rw [List.length_set]; omega)⟩, (fun h => absurd h (by omega)), (fun h => absurd h (by omega))⟩)⟩ (show 9 - (s + 1) < 9 - s by omega) ⟨rfl, rfl, rfl, rfl, rfl, rfl, trivial⟩ (.drop (.keep rfl (.keep (row_eq (by simp only [List.map_set] <;> rfl)) (.keep rfl .nil))))
          · -- if t47: else
            have h47 := of_decide_eq_false h47
            refine CT.seq ?_
            -- region 17: translate.go:96
            refine CT.region ?_
            refine Wl.q rfl rfl (OpQ.eql rfl rfl) ?_
            refine Wl.q rfl rfl (OpQ.assign rfl) ?_
            refine Wl.nil ?_
            refine PX.then_n ?_
            refine CT.cond rfl (fun h62 => ?_) (fun h62 => ?_)
            · -- if t62: then
              have h62 := of_decide_eq_true h62
              -- region 18: translate.go:97
              refine CT.region ?_
              refine Wl.q rfl rfl (OpQ.move rfl) ?_
              refine Wl.q rfl rfl (OpQ.fieldAddr VA_fa72_2 rfl) ?_
              refine Wl.q rfl rfl (OpQ.loadF (b := b7) VA_sc3 rfl (by repeat (first | exact Has.here | apply Has.there)) (by rfl)) ?_
              refine Wl.q rfl rfl (OpQ.move rfl) ?_
              refine Wl.q rfl rfl (OpQ.index VA_un82 VA_sz85 rfl rfl (by omega) rfl) ?_
              refine Wl.q rfl rfl (OpQ.indexArr1 VA_un85 VA_sz4 rfl rfl (by omega)) ?_
              refine Wl.g rfl rfl (OpG.storeRowF (i := (xs.getD i n0).a.toNat * 9) (j := s) VA_sz4 rfl rfl rfl (by repeat (first | exact Upd.here | apply Upd.there)) (by simp only [List.length_set, List.length_map]; omega)) ?_
              rintro _ _
              refine Wl.nil ?_
              refine PX.block_n ?_
              refine PX.block_n ?_
              refine PX.then_n ?_
              -- region 22: translate.go:87
              refine CT.region ?_
              refine Wl.q rfl rfl (OpQ.add rfl rfl (by omega)) ?_
              refine Wl.q rfl rfl (OpQ.move rfl) ?_
              refine Wl.nil ?_
              exact PX.loop hK1 (s + 1, (md.set ((xs.getD i n0).a.toNat * 9 + s) true)) ⟨by omega, (hle.trans (Le.set (slot_lt2 (by omega) (by omega)))), (hof.set (slot_off2 hdg (by omega))), row_next hro2 ((Le.refl md i).trans (Le.set (slot_lt2 (by omega) (by omega)))) (fun _ => ⟨hdg, (fun h => absurd h (by omega)), fun _ => ng_at (by omega), (fun h => absurd h (by omega))⟩)⟩ (show 9 - (s + 1) < 9 - s by omega) ⟨rfl, rfl, rfl, rfl, rfl, rfl, trivial⟩ (.drop (.keep rfl (.keep (row_eq (by simp only [List.map_set] <;> rfl)) (.keep rfl .nil))))
            · -- if t62: else
              have h62 := of_decide_eq_false h62
              refine CT.seq ?_
              -- region 19: translate.go:98
              refine CT.region ?_
              refine Wl.q rfl rfl (OpQ.eql rfl rfl) ?_
              refine Wl.q rfl rfl (OpQ.assign rfl) ?_
              refine Wl.nil ?_
              refine PX.then_n ?_
              refine CT.cond rfl (fun h70 => ?_) (fun h70 => ?_)
              · -- if t70: then
                have h70 := of_decide_eq_true h70
                refine CT.seq ?_
                -- region 20, drawn: translate.go:99
                refine CT.draw 11 VA_mixed ?_
                refine RA.q 0 (by kernel_rfl) rfl rfl rfl (.refl _) (OpQ.move rfl) ?_
                refine RA.q 1 (by kernel_rfl) rfl rfl rfl (.refl _) (OpQ.fieldAddr VA_fa72_2 rfl) ?_
                refine RA.q 2 (by kernel_rfl) rfl rfl rfl (.refl _) (OpQ.loadF (b := b7) VA_sc3 rfl (by repeat (first | exact Has.here | apply Has.there)) (by rfl)) ?_
                refine RA.q 3 (by kernel_rfl) rfl rfl rfl (.refl _) (OpQ.fieldAddr VA_fa81_0 rfl) ?_
                refine RA.q 4 (by kernel_rfl) rfl rfl rfl (.refl _) (OpQ.loadF (b := b10) VA_sc3 rfl (by repeat (first | exact Has.here | apply Has.there)) (by rfl)) ?_
                refine RA.q 5 (by kernel_rfl) rfl rfl rfl (.refl _) (OpQ.loadV (b := b10) VA_ag81 VA_sz81 rfl (by repeat (first | exact Has.here | apply Has.there)) (by rfl)) ?_
                refine RA.q 9 (by kernel_rfl) rfl rfl rfl (.refl _) (OpQ.index VA_un82 VA_sz85 rfl rfl (by omega) rfl) ?_
                refine RA.f 6 (by kernel_rfl) rfl rfl rfl (OpG.callV VA_go55 rfl (fun w hH => third_spec w (s / 3) (s % 3) (by omega))) (fun _ _ => (.refl _)) ?_
                rintro _ _
                refine RA.q 7 (by kernel_rfl) rfl rfl rfl (.refl _) (OpQ.build (cells := #[.int .i64 ((s / 3 : Nat) : Int), .int .i64 ((3 - s / 3 - s % 3 : Nat) : Int)]) VA_pl81 rfl rfl) ?_
                refine RA.f 8 (by kernel_rfl) rfl rfl rfl (OpG.callV VA_go39 rfl (fun w hH => slot_spec w (s / 3) (3 - s / 3 - s % 3) (by omega) (by omega))) (fun _ _ => (.refl _)) ?_
                rintro _ _
                refine RA.q 10 (by kernel_rfl) rfl rfl rfl (.refl _) (OpQ.indexArr1 VA_un85 VA_sz4 rfl rfl (by omega)) ?_
                refine RA.tail ?_
                refine RT.f 11 (by kernel_rfl) rfl rfl rfl (OpG.storeRowF (i := (xs.getD i n0).a.toNat * 9) (j := (s / 3 * 3 + (3 - s / 3 - s % 3))) VA_sz4 rfl rfl rfl (by repeat (first | exact Upd.here | apply Upd.there)) (by simp only [List.length_set, List.length_map]; omega)) ?_
                rintro _ _
                refine RT.done (by kernel_rfl) ?_
                refine PX.then_n ?_
                -- region 21, drawn: translate.go:100
                refine CT.draw 11 VA_mixed ?_
                refine RA.q 0 (by kernel_rfl) rfl rfl rfl (.refl _) (OpQ.move rfl) ?_
                refine RA.q 1 (by kernel_rfl) rfl rfl rfl (.refl _) (OpQ.fieldAddr VA_fa72_3 rfl) ?_
                refine RA.q 2 (by kernel_rfl) rfl rfl rfl (.refl _) (OpQ.loadF (b := b7) VA_sc3 rfl (by repeat (first | exact Has.here | apply Has.there)) (by rfl)) ?_
                refine RA.q 3 (by kernel_rfl) rfl rfl rfl (.refl _) (OpQ.loadV (b := b10) VA_ag81 VA_sz81 rfl (by repeat (first | exact Has.here | apply Has.there)) (by rfl)) ?_
                refine RA.q 5 (by kernel_rfl) rfl rfl rfl (.refl _) (OpQ.fieldAddr VA_fa81_1 rfl) ?_
                refine RA.q 6 (by kernel_rfl) rfl rfl rfl (.refl _) (OpQ.loadF (b := b10) VA_sc3 rfl (by repeat (first | exact Has.here | apply Has.there)) (by rfl)) ?_
                refine RA.q 9 (by kernel_rfl) rfl rfl rfl (.refl _) (OpQ.index VA_un82 VA_sz85 rfl rfl (by omega) rfl) ?_
                refine RA.f 4 (by kernel_rfl) rfl rfl rfl (OpG.callV VA_go55 rfl (fun w hH => third_spec w (s / 3) (s % 3) (by omega))) (fun _ _ => (.refl _)) ?_
                rintro _ _
                refine RA.q 7 (by kernel_rfl) rfl rfl rfl (.refl _) (OpQ.build (cells := #[.int .i64 ((3 - s / 3 - s % 3 : Nat) : Int), .int .i64 ((s % 3 : Nat) : Int)]) VA_pl81 rfl rfl) ?_
                refine RA.f 8 (by kernel_rfl) rfl rfl rfl (OpG.callV VA_go39 rfl (fun w hH => slot_spec w (3 - s / 3 - s % 3) (s % 3) (by omega) (by omega))) (fun _ _ => (.refl _)) ?_
                rintro _ _
                refine RA.q 10 (by kernel_rfl) rfl rfl rfl (.refl _) (OpQ.indexArr1 VA_un85 VA_sz4 rfl rfl (by omega)) ?_
                refine RA.tail ?_
                refine RT.f 11 (by kernel_rfl) rfl rfl rfl (OpG.storeRowF (i := (xs.getD i n0).b.toNat * 9) (j := ((3 - s / 3 - s % 3) * 3 + s % 3)) VA_sz4 rfl rfl rfl (by repeat (first | exact Upd.here | apply Upd.there)) (by simp only [List.length_set, List.length_map]; omega)) ?_
                rintro _ _
                refine RT.done (by kernel_rfl) ?_
                refine PX.block_n ?_
                refine PX.block_n ?_
                refine PX.then_n ?_
                -- region 22: translate.go:87
                refine CT.region ?_
                refine Wl.q rfl rfl (OpQ.add rfl rfl (by omega)) ?_
                refine Wl.q rfl rfl (OpQ.move rfl) ?_
                refine Wl.nil ?_
                exact PX.loop hK1 (s + 1, ((md.set ((xs.getD i n0).a.toNat * 9 + (s / 3 * 3 + (3 - s / 3 - s % 3))) true).set ((xs.getD i n0).b.toNat * 9 + ((3 - s / 3 - s % 3) * 3 + s % 3)) true)) ⟨by omega, ((hle.trans (Le.set (slot_lt (by omega) hdl.1 hdl.2.2.2.1))).trans (Le.set (slot_lt (by omega) hdl.2.2.2.1 hdl.2.1))), ((hof.set (slot_off hdl.1 hdl.2.2.2.1 hdl.2.2.2.2.1)).set (slot_off hdl.2.2.2.1 hdl.2.1 hdl.2.2.2.2.2)), row_next hro2 (((Le.refl md i).trans (Le.set (slot_lt (by omega) hdl.1 hdl.2.2.2.1))).trans (Le.set (slot_lt (by omega) hdl.2.2.2.1 hdl.2.1))) (fun _ => ⟨hdg, (fun h => absurd h (by omega)), (fun h => absurd h (by omega)), fun _ => ⟨ng_keep (ng_at (by omega)), ng_at (by rw [List.length_set]; omega)⟩⟩)⟩ (show 9 - (s + 1) < 9 - s by omega) ⟨rfl, rfl, rfl, rfl, rfl, rfl, trivial⟩ (.drop (.keep rfl (.keep (row_eq (by simp only [List.map_set] <;> rfl)) (.keep rfl .nil))))
              · -- if t70: else
                have h70 := of_decide_eq_false h70
                refine CT.skip ?_
                refine PX.block_n ?_
                refine PX.block_n ?_
                refine PX.then_n ?_
                -- region 22: translate.go:87
                refine CT.region ?_
                refine Wl.q rfl rfl (OpQ.add rfl rfl (by omega)) ?_
                refine Wl.q rfl rfl (OpQ.move rfl) ?_
                refine Wl.nil ?_
                exact PX.loop hK1 (s + 1, md) ⟨by omega, hle, hof, row_next hro2 (Le.refl md i) (fun _ => ⟨hdg, (fun h => absurd h (by omega)), (fun h => absurd h (by omega)), (fun h => absurd h (by omega))⟩)⟩ (show 9 - (s + 1) < 9 - s by omega) ⟨rfl, rfl, rfl, rfl, rfl, rfl, trivial⟩ (.drop (.keep rfl (.keep rfl (.keep rfl .nil))))
    · -- if t38: else
      have h38 := of_decide_eq_false h38
      refine CT.exit ?_
      refine PX.then_x ?_
      refine PX.then_x ?_
      refine PX.block_x ?_
      refine PX.block_n ?_
      refine PX.then_n ?_
      -- region 5: translate.go:85
      refine CT.region ?_
      refine Wl.q rfl rfl (OpQ.move rfl) ?_
      refine Wl.q rfl rfl (OpQ.sub rfl rfl (by omega)) ?_
      refine Wl.q rfl rfl (OpQ.assign rfl) ?_
      refine Wl.nil ?_
      exact PX.loop hK0 (i, md) ⟨by omega, (hN.le hle.up hof).next (fun t ht => hro2 t (by omega))⟩ (show i < i + 1 by omega) ⟨rfl, rfl, rfl, trivial⟩ (.drop (HSub.refl _))
  · -- if t25: else
    have h25 := of_decide_eq_false h25
    refine CT.exit ?_
    refine PX.then_x ?_
    refine PX.then_x ?_
    refine PX.block_x ?_
    refine PX.then_n ?_
    refine CT.seq ?_
    -- region 23: translate.go:104
    refine CT.region ?_
    refine Wl.q rfl rfl (OpQ.move rfl) ?_
    refine Wl.q rfl rfl (OpQ.assign rfl) ?_
    refine Wl.nil ?_
    refine PX.then_n ?_
    refine CT.ret ?_
    refine PX.ret1 rfl rfl (fun w' hH => ?_)
    obtain rfl : m = 0 := by omega
    exact ⟨(nd, some ⟨b14, 0, none⟩, xs.length), hN, rfl, hH.post.sub (.keep rfl (.drop .nil))⟩

end Go.Proofs.Ytdcjemjfliaaiaa
