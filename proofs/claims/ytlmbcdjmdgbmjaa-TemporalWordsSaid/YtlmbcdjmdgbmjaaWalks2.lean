/-
  What functions of the packages temporal and semigroupref39 compute, each by its walk. Conditions: those that each theorem names.
-/
import Derived.Test.YtlmbcdjmdgbmjaaMod
import Derived.Test.YtlmbcdjmdgbmjaaWalks
set_option linter.unusedSimpArgs false
namespace Go.Proofs.Ytlmbcdjmdgbmjaa
open Go Go.Eng Go.Tl

theorem B_un22 : Try.prog.underlying 22 = some (.slice 31) := by kernel_rfl
theorem B_un49 : Try.prog.underlying 49 = some (.slice 4) := by kernel_rfl
theorem B_in4 : (Try.prog.info? 4).map (fun i => (i.zero, i.size, i.bytes)) = some (some (.bool false), 1, 1) := by kernel_rfl
theorem B_sz31 : sizeB Try.prog 31 = some 4 := by kernel_rfl
theorem B_ag31 : isAggB Try.prog 31 = some true := by kernel_rfl
theorem B_in31 : (Try.prog.info? 31).map (fun i => (i.zero, i.size, i.bytes)) = some (some (.agg #[.int .i64 0, .int .i64 0, .int .i64 0, .int .i64 0]), 4, 32) := by kernel_rfl
theorem B_fa31_0 : fieldB Try.prog 31 0 = some 0 := by kernel_rfl
theorem B_sc3 : scalarB Try.prog 3 = some true := by kernel_rfl
theorem B_sz4 : sizeB Try.prog 4 = some 1 := by kernel_rfl
theorem B_fa31_1 : fieldB Try.prog 31 1 = some 1 := by kernel_rfl
theorem B_fa31_2 : fieldB Try.prog 31 2 = some 2 := by kernel_rfl
theorem B_sc4 : scalarB Try.prog 4 = some true := by kernel_rfl
theorem B_fa31_3 : fieldB Try.prog 31 3 = some 3 := by kernel_rfl
set_option maxRecDepth 100000 in
/-- semigroup/semigroupref39.Before -/
theorem before_spec (w : World) (a : Option Addr) (cp : Nat) (xs : List Tm) (hr : Rd w a (xs.flatMap tv)) (hn : xs.length ≤ 200000) (letter : Int) (an : Option Addr) (cn : Nat) (bf : List Bool) (hrb : Rd w an (bf.map bo)) (hbf : letter ≠ -1 → bf.length = xs.length) (hok : okL xs 6 = true) : Calls Try.prog 43 #[.slice a xs.length cp, .int .i64 (letter), .slice an bf.length cn] w (fun e w' => New 4 1 w w' e xs.length ((evL xs letter bf (List.replicate xs.length false) xs.length).map bo)) := by
  have sm : 0 < xs.length → a.isSome = true := fun h => hr.isSome (j := 0) (by rw [flat_len tv_len]; omega)
  refine enter (args := [.slice a xs.length cp, .int .i64 (letter), .slice an bf.length cn]) [] 131 Try.func43 rfl rfl rfl ?_
  refine CT.seq ?_
  -- region 0: ref.go:46
  refine CT.region ?_
  refine Wl.q rfl rfl (OpQ.assign rfl) ?_
  refine Wl.nil ?_
  refine PX.then_n ?_
  refine CT.seq ?_
  -- region 1: ref.go:47
  refine CT.region ?_
  refine Wl.q rfl rfl (OpQ.move rfl) ?_
  refine Wl.q rfl rfl (OpQ.len B_un22 rfl) ?_
  refine Wl.g rfl rfl (OpG.make1 B_un49 B_in4 rfl rfl rfl rfl (by omega) (by omega)) ?_
  rintro b12 _
  refine Wl.q rfl rfl (OpQ.assign rfl) ?_
  refine Wl.nil ?_
  refine PX.then_n ?_
  refine CT.seq ?_
  refine CT.seq ?_
  -- region 2: ref.go:48
  refine CT.region ?_
  refine Wl.q rfl rfl (OpQ.move rfl) ?_
  refine Wl.q rfl rfl (OpQ.len B_un22 rfl) ?_
  refine Wl.q rfl rfl (OpQ.move rfl) ?_
  refine Wl.nil ?_
  refine PX.then_n ?_
  refine CT.block ?_
  -- the loop at region 3
  refine CT.loop (ι := Nat) (fun k => k ≤ xs.length) (fun k => [(0, .slice a xs.length cp), (1, .int .i64 (letter)), (2, .slice an bf.length cn), (7, .slice (some ⟨b12, 0, none⟩) xs.length xs.length), (13, .slice a xs.length cp), (14, .int .i64 (xs.length : Int)), (15, .int .i64 (k : Int))]) (fun k => [.row 4 1 (.slice (some ⟨b12, 0, none⟩) xs.length xs.length) xs.length ((evL xs letter bf (List.replicate xs.length false) k).map bo)]) (fun k => xs.length - k) 0 (by omega) ⟨rfl, rfl, rfl, rfl, rfl, rfl, rfl, trivial⟩ (.keep (row_eq (by simp [evL])) .nil) (fun k hk K0 hK0 => ?_)
  refine CT.seq ?_
  -- region 3: ref.go:48
  refine CT.region ?_
  refine Wl.q rfl rfl (OpQ.lss rfl rfl) ?_
  refine Wl.nil ?_
  refine PX.then_n ?_
  refine CT.seq ?_
  refine CT.cond rfl (fun h16 => ?_) (fun h16 => ?_)
  · -- if t16: then
    have h16 := of_decide_eq_true h16
    have hokk := okL_get hok (j := k) (by omega)
    have hL := evL_len xs letter bf (List.replicate xs.length false) k
    refine CT.skip ?_
    refine PX.then_n ?_
    refine CT.seq ?_
    refine CT.block ?_
    refine CT.seq ?_
    -- region 4: ref.go:48
    refine CT.region ?_
    refine Wl.q rfl rfl (OpQ.move rfl) ?_
    refine Wl.q rfl rfl (OpQ.index B_un22 B_sz31 rfl rfl (by omega) (sm (by omega))) ?_
    refine Wl.q rfl rfl (OpQ.loadAggG (cs := tv (xs.getD k t0)) B_ag31 B_sz31 rfl (fun w hH => hH.rd0 hr rfl) (flat_cells tv_len xs t0 (by omega))) ?_
    refine Wl.g rfl rfl (OpG.alloc (zs := [.int .i64 0, .int .i64 0, .int .i64 0, .int .i64 0]) B_in31 rfl rfl) ?_
    rintro b9 _
    refine Wl.q rfl rfl (OpQ.assign rfl) ?_
    refine Wl.g rfl rfl (OpG.storeV (b := b9) B_sz31 rfl rfl rfl rfl (by repeat (first | exact Upd.here | apply Upd.there))) ?_
    rintro _ _
    refine Wl.nil ?_
    refine PX.then_n ?_
    refine CT.seq ?_
    -- region 5: ref.go:49
    refine CT.region ?_
    refine Wl.q rfl rfl (OpQ.fieldAddr B_fa31_0 rfl) ?_
    refine Wl.q rfl rfl (OpQ.loadF (b := b9) B_sc3 rfl (by repeat (first | exact Has.here | apply Has.there)) (by rfl)) ?_
    refine Wl.nil ?_
    refine PX.then_n ?_
    refine CT.block ?_
    refine CT.seq ?_
    -- region 6: ref.go:50
    refine CT.region ?_
    refine Wl.q rfl rfl (OpQ.eql rfl rfl) ?_
    refine Wl.q rfl rfl (OpQ.assign rfl) ?_
    refine Wl.nil ?_
    refine PX.then_n ?_
    refine CT.cond rfl (fun h22 => ?_) (fun h22 => ?_)
    · -- if t22: then
      have h22 := of_decide_eq_true h22
      -- region 7: ref.go:51
      refine CT.region ?_
      refine Wl.q rfl rfl (OpQ.move rfl) ?_
      refine Wl.q rfl rfl (OpQ.move rfl) ?_
      refine Wl.q rfl rfl (OpQ.index1 B_un49 B_sz4 rfl rfl (by omega) rfl) ?_
      refine Wl.g rfl rfl (OpG.storeRow B_sz4 rfl rfl rfl (.there .here) (by rw [List.length_map, evL_len]; rw [List.length_replicate]; omega)) ?_
      rintro _ _
      refine Wl.nil ?_
      refine PX.block_n ?_
      refine PX.block_n ?_
      refine PX.then_n ?_
      -- region 22: ref.go:48
      refine CT.region ?_
      refine Wl.q rfl rfl (OpQ.add rfl rfl (by omega)) ?_
      refine Wl.q rfl rfl (OpQ.move rfl) ?_
      refine Wl.nil ?_
      exact PX.loop hK0 (k + 1) (by omega) (by first | omega | (dsimp only; omega)) ⟨rfl, rfl, rfl, rfl, rfl, rfl, rfl, trivial⟩ (.drop (.keep (row_eq (ev_set (by simp [-List.getD_eq_getElem?_getD, evV, *]))) .nil))
    · -- if t22: else
      have h22 := of_decide_eq_false h22
      refine CT.seq ?_
      -- region 8: ref.go:52
      refine CT.region ?_
      refine Wl.q rfl rfl (OpQ.eql rfl rfl) ?_
      refine Wl.q rfl rfl (OpQ.assign rfl) ?_
      refine Wl.nil ?_
      refine PX.then_n ?_
      refine CT.cond rfl (fun h27 => ?_) (fun h27 => ?_)
      · -- if t27: then
        have h27 := of_decide_eq_true h27
        -- region 9: ref.go:53
        refine CT.region ?_
        refine Wl.q rfl rfl (OpQ.move rfl) ?_
        refine Wl.q rfl rfl (OpQ.move rfl) ?_
        refine Wl.q rfl rfl (OpQ.move rfl) ?_
        refine Wl.q rfl rfl (OpQ.fieldAddr B_fa31_1 rfl) ?_
        refine Wl.q rfl rfl (OpQ.loadF (b := b9) B_sc3 rfl (by repeat (first | exact Has.here | apply Has.there)) (by rfl)) ?_
        refine Wl.q rfl rfl (OpQ.eql rfl rfl) ?_
        refine Wl.q rfl rfl (OpQ.index1 B_un49 B_sz4 rfl rfl (by omega) rfl) ?_
        refine Wl.g rfl rfl (OpG.storeRow B_sz4 rfl rfl rfl (.there .here) (by rw [List.length_map, evL_len]; rw [List.length_replicate]; omega)) ?_
        rintro _ _
        refine Wl.nil ?_
        refine PX.block_n ?_
        refine PX.block_n ?_
        refine PX.then_n ?_
        -- region 22: ref.go:48
        refine CT.region ?_
        refine Wl.q rfl rfl (OpQ.add rfl rfl (by omega)) ?_
        refine Wl.q rfl rfl (OpQ.move rfl) ?_
        refine Wl.nil ?_
        exact PX.loop hK0 (k + 1) (by omega) (by first | omega | (dsimp only; omega)) ⟨rfl, rfl, rfl, rfl, rfl, rfl, rfl, trivial⟩ (.drop (.keep (row_eq (ev_set (by simp [-List.getD_eq_getElem?_getD, evV, *]))) .nil))
      · -- if t27: else
        have h27 := of_decide_eq_false h27
        refine CT.seq ?_
        -- region 10: ref.go:54
        refine CT.region ?_
        refine Wl.q rfl rfl (OpQ.eql rfl rfl) ?_
        refine Wl.q rfl rfl (OpQ.assign rfl) ?_
        refine Wl.nil ?_
        refine PX.then_n ?_
        refine CT.cond rfl (fun h36 => ?_) (fun h36 => ?_)
        · -- if t36: then
          have h36 := of_decide_eq_true h36
          -- region 11: ref.go:55
          refine CT.region ?_
          refine Wl.q rfl rfl (OpQ.move rfl) ?_
          refine Wl.q rfl rfl (OpQ.move rfl) ?_
          refine Wl.q rfl rfl (OpQ.move rfl) ?_
          refine Wl.q rfl rfl (OpQ.eql rfl rfl) ?_
          refine Wl.q rfl rfl (OpQ.index1 B_un49 B_sz4 rfl rfl (by omega) rfl) ?_
          refine Wl.g rfl rfl (OpG.storeRow B_sz4 rfl rfl rfl (.there .here) (by rw [List.length_map, evL_len]; rw [List.length_replicate]; omega)) ?_
          rintro _ _
          refine Wl.nil ?_
          refine PX.block_n ?_
          refine PX.block_n ?_
          refine PX.then_n ?_
          -- region 22: ref.go:48
          refine CT.region ?_
          refine Wl.q rfl rfl (OpQ.add rfl rfl (by omega)) ?_
          refine Wl.q rfl rfl (OpQ.move rfl) ?_
          refine Wl.nil ?_
          exact PX.loop hK0 (k + 1) (by omega) (by first | omega | (dsimp only; omega)) ⟨rfl, rfl, rfl, rfl, rfl, rfl, rfl, trivial⟩ (.drop (.keep (row_eq (ev_set (by simp [-List.getD_eq_getElem?_getD, evV, *]))) .nil))
        · -- if t36: else
          have h36 := of_decide_eq_false h36
          refine CT.seq ?_
          -- region 12: ref.go:56
          refine CT.region ?_
          refine Wl.q rfl rfl (OpQ.eql rfl rfl) ?_
          refine Wl.q rfl rfl (OpQ.assign rfl) ?_
          refine Wl.nil ?_
          refine PX.then_n ?_
          refine CT.cond rfl (fun h43 => ?_) (fun h43 => ?_)
          · -- if t43: then
            have h43 := of_decide_eq_true h43
            have ha := ok_a hokk (by omega)
            -- region 13: ref.go:57
            refine CT.region ?_
            refine Wl.q rfl rfl (OpQ.move rfl) ?_
            refine Wl.q rfl rfl (OpQ.move rfl) ?_
            refine Wl.q rfl rfl (OpQ.move rfl) ?_
            refine Wl.q rfl rfl (OpQ.fieldAddr B_fa31_2 rfl) ?_
            refine Wl.q rfl rfl (OpQ.loadF (b := b9) B_sc3 rfl (by repeat (first | exact Has.here | apply Has.there)) (by rfl)) ?_
            refine Wl.q rfl rfl (OpQ.index1 B_un49 B_sz4 rfl rfl ⟨ha.1, by have := ha.2; omega⟩ rfl) ?_
            refine Wl.q rfl rfl (OpQ.loadRow B_sc4 rfl (.there .here) (gt_get ⟨ha.1, by rw [evL_len]; have := ha.2; rw [List.length_replicate]; omega⟩)) ?_
            refine Wl.q rfl rfl (OpQ.not rfl) ?_
            refine Wl.q rfl rfl (OpQ.index1 B_un49 B_sz4 rfl rfl (by omega) rfl) ?_
            refine Wl.g rfl rfl (OpG.storeRow B_sz4 rfl rfl rfl (.there .here) (by rw [List.length_map, evL_len]; rw [List.length_replicate]; omega)) ?_
            rintro _ _
            refine Wl.nil ?_
            refine PX.block_n ?_
            refine PX.block_n ?_
            refine PX.then_n ?_
            -- region 22: ref.go:48
            refine CT.region ?_
            refine Wl.q rfl rfl (OpQ.add rfl rfl (by omega)) ?_
            refine Wl.q rfl rfl (OpQ.move rfl) ?_
            refine Wl.nil ?_
            exact PX.loop hK0 (k + 1) (by omega) (by first | omega | (dsimp only; omega)) ⟨rfl, rfl, rfl, rfl, rfl, rfl, rfl, trivial⟩ (.drop (.keep (row_eq (ev_set (by simp [-List.getD_eq_getElem?_getD, evV, *]))) .nil))
          · -- if t43: else
            have h43 := of_decide_eq_false h43
            refine CT.seq ?_
            -- region 14: ref.go:58
            refine CT.region ?_
            refine Wl.q rfl rfl (OpQ.eql rfl rfl) ?_
            refine Wl.q rfl rfl (OpQ.assign rfl) ?_
            refine Wl.nil ?_
            refine PX.then_n ?_
            refine CT.cond rfl (fun h54 => ?_) (fun h54 => ?_)
            · -- if t54: then
              have h54 := of_decide_eq_true h54
              have ha := ok_a hokk (by omega)
              have hb := ok_b hokk (by omega)
              -- region 15: ref.go:59
              refine CT.region ?_
              refine Wl.q rfl rfl (OpQ.move rfl) ?_
              refine Wl.q rfl rfl (OpQ.move rfl) ?_
              refine Wl.q rfl rfl (OpQ.move rfl) ?_
              refine Wl.q rfl rfl (OpQ.fieldAddr B_fa31_2 rfl) ?_
              refine Wl.q rfl rfl (OpQ.loadF (b := b9) B_sc3 rfl (by repeat (first | exact Has.here | apply Has.there)) (by rfl)) ?_
              refine Wl.q rfl rfl (OpQ.index1 B_un49 B_sz4 rfl rfl ⟨ha.1, by have := ha.2; omega⟩ rfl) ?_
              refine Wl.q rfl rfl (OpQ.loadRow B_sc4 rfl (.there .here) (gt_get ⟨ha.1, by rw [evL_len]; have := ha.2; rw [List.length_replicate]; omega⟩)) ?_
              refine Wl.q rfl rfl (OpQ.move rfl) ?_
              refine Wl.split 63 rfl (fun hg63 => ?_) (fun hg63 => ?_)
              · -- t63 = True
                refine Wl.q rfl rfl (OpQ.move rfl) ?_
                refine Wl.q rfl rfl (OpQ.fieldAddr B_fa31_3 rfl) ?_
                refine Wl.q rfl rfl (OpQ.loadF (b := b9) B_sc3 rfl (by repeat (first | exact Has.here | apply Has.there)) (by rfl)) ?_
                refine Wl.q rfl rfl (OpQ.index1 B_un49 B_sz4 rfl rfl ⟨hb.1, by have := hb.2; omega⟩ rfl) ?_
                refine Wl.q rfl rfl (OpQ.loadRow B_sc4 rfl (.there .here) (gt_get ⟨hb.1, by rw [evL_len]; have := hb.2; rw [List.length_replicate]; omega⟩)) ?_
                refine Wl.q rfl rfl (OpQ.pickT rfl rfl) ?_
                refine Wl.q rfl rfl (OpQ.index1 B_un49 B_sz4 rfl rfl (by omega) rfl) ?_
                refine Wl.g rfl rfl (OpG.storeRow B_sz4 rfl rfl rfl (.there .here) (by rw [List.length_map, evL_len]; rw [List.length_replicate]; omega)) ?_
                rintro _ _
                refine Wl.nil ?_
                refine PX.block_n ?_
                refine PX.block_n ?_
                refine PX.then_n ?_
                -- region 22: ref.go:48
                refine CT.region ?_
                refine Wl.q rfl rfl (OpQ.add rfl rfl (by omega)) ?_
                refine Wl.q rfl rfl (OpQ.move rfl) ?_
                refine Wl.nil ?_
                exact PX.loop hK0 (k + 1) (by omega) (by first | omega | (dsimp only; omega)) ⟨rfl, rfl, rfl, rfl, rfl, rfl, rfl, trivial⟩ (.drop (.keep (row_eq (ev_set (by simp [-List.getD_eq_getElem?_getD, evV, *]))) .nil))
              · -- t63 = False
                refine Wl.skip rfl rfl ?_
                refine Wl.skip rfl rfl ?_
                refine Wl.skip rfl rfl ?_
                refine Wl.skip rfl rfl ?_
                refine Wl.skip rfl rfl ?_
                refine Wl.q rfl rfl (OpQ.pickF rfl rfl) ?_
                refine Wl.q rfl rfl (OpQ.index1 B_un49 B_sz4 rfl rfl (by omega) rfl) ?_
                refine Wl.g rfl rfl (OpG.storeRow B_sz4 rfl rfl rfl (.there .here) (by rw [List.length_map, evL_len]; rw [List.length_replicate]; omega)) ?_
                rintro _ _
                refine Wl.nil ?_
                refine PX.block_n ?_
                refine PX.block_n ?_
                refine PX.then_n ?_
                -- region 22: ref.go:48
                refine CT.region ?_
                refine Wl.q rfl rfl (OpQ.add rfl rfl (by omega)) ?_
                refine Wl.q rfl rfl (OpQ.move rfl) ?_
                refine Wl.nil ?_
                exact PX.loop hK0 (k + 1) (by omega) (by first | omega | (dsimp only; omega)) ⟨rfl, rfl, rfl, rfl, rfl, rfl, rfl, trivial⟩ (.drop (.keep (row_eq (ev_set (by simp [-List.getD_eq_getElem?_getD, evV, *]))) .nil))
            · -- if t54: else
              have h54 := of_decide_eq_false h54
              refine CT.seq ?_
              -- region 16: ref.go:60
              refine CT.region ?_
              refine Wl.q rfl rfl (OpQ.eql rfl rfl) ?_
              refine Wl.q rfl rfl (OpQ.assign rfl) ?_
              refine Wl.nil ?_
              refine PX.then_n ?_
              refine CT.cond rfl (fun h71 => ?_) (fun h71 => ?_)
              · -- if t71: then
                have h71 := of_decide_eq_true h71
                have ha := ok_a hokk (by omega)
                have hb := ok_b hokk (by omega)
                -- region 17: ref.go:61
                refine CT.region ?_
                refine Wl.q rfl rfl (OpQ.move rfl) ?_
                refine Wl.q rfl rfl (OpQ.move rfl) ?_
                refine Wl.q rfl rfl (OpQ.move rfl) ?_
                refine Wl.q rfl rfl (OpQ.fieldAddr B_fa31_2 rfl) ?_
                refine Wl.q rfl rfl (OpQ.loadF (b := b9) B_sc3 rfl (by repeat (first | exact Has.here | apply Has.there)) (by rfl)) ?_
                refine Wl.q rfl rfl (OpQ.index1 B_un49 B_sz4 rfl rfl ⟨ha.1, by have := ha.2; omega⟩ rfl) ?_
                refine Wl.q rfl rfl (OpQ.loadRow B_sc4 rfl (.there .here) (gt_get ⟨ha.1, by rw [evL_len]; have := ha.2; rw [List.length_replicate]; omega⟩)) ?_
                refine Wl.q rfl rfl (OpQ.move rfl) ?_
                refine Wl.split 80 rfl (fun hg80 => ?_) (fun hg80 => ?_)
                · -- t80 = True
                  refine Wl.skip rfl rfl ?_
                  refine Wl.skip rfl rfl ?_
                  refine Wl.skip rfl rfl ?_
                  refine Wl.skip rfl rfl ?_
                  refine Wl.skip rfl rfl ?_
                  refine Wl.q rfl rfl (OpQ.pickT rfl rfl) ?_
                  refine Wl.q rfl rfl (OpQ.index1 B_un49 B_sz4 rfl rfl (by omega) rfl) ?_
                  refine Wl.g rfl rfl (OpG.storeRow B_sz4 rfl rfl rfl (.there .here) (by rw [List.length_map, evL_len]; rw [List.length_replicate]; omega)) ?_
                  rintro _ _
                  refine Wl.nil ?_
                  refine PX.block_n ?_
                  refine PX.block_n ?_
                  refine PX.then_n ?_
                  -- region 22: ref.go:48
                  refine CT.region ?_
                  refine Wl.q rfl rfl (OpQ.add rfl rfl (by omega)) ?_
                  refine Wl.q rfl rfl (OpQ.move rfl) ?_
                  refine Wl.nil ?_
                  exact PX.loop hK0 (k + 1) (by omega) (by first | omega | (dsimp only; omega)) ⟨rfl, rfl, rfl, rfl, rfl, rfl, rfl, trivial⟩ (.drop (.keep (row_eq (ev_set (by simp [-List.getD_eq_getElem?_getD, evV, *]))) .nil))
                · -- t80 = False
                  refine Wl.q rfl rfl (OpQ.move rfl) ?_
                  refine Wl.q rfl rfl (OpQ.fieldAddr B_fa31_3 rfl) ?_
                  refine Wl.q rfl rfl (OpQ.loadF (b := b9) B_sc3 rfl (by repeat (first | exact Has.here | apply Has.there)) (by rfl)) ?_
                  refine Wl.q rfl rfl (OpQ.index1 B_un49 B_sz4 rfl rfl ⟨hb.1, by have := hb.2; omega⟩ rfl) ?_
                  refine Wl.q rfl rfl (OpQ.loadRow B_sc4 rfl (.there .here) (gt_get ⟨hb.1, by rw [evL_len]; have := hb.2; rw [List.length_replicate]; omega⟩)) ?_
                  refine Wl.q rfl rfl (OpQ.pickF rfl rfl) ?_
                  refine Wl.q rfl rfl (OpQ.index1 B_un49 B_sz4 rfl rfl (by omega) rfl) ?_
                  refine Wl.g rfl rfl (OpG.storeRow B_sz4 rfl rfl rfl (.there .here) (by rw [List.length_map, evL_len]; rw [List.length_replicate]; omega)) ?_
                  rintro _ _
                  refine Wl.nil ?_
                  refine PX.block_n ?_
                  refine PX.block_n ?_
                  refine PX.then_n ?_
                  -- region 22: ref.go:48
                  refine CT.region ?_
                  refine Wl.q rfl rfl (OpQ.add rfl rfl (by omega)) ?_
                  refine Wl.q rfl rfl (OpQ.move rfl) ?_
                  refine Wl.nil ?_
                  exact PX.loop hK0 (k + 1) (by omega) (by first | omega | (dsimp only; omega)) ⟨rfl, rfl, rfl, rfl, rfl, rfl, rfl, trivial⟩ (.drop (.keep (row_eq (ev_set (by simp [-List.getD_eq_getElem?_getD, evV, *]))) .nil))
              · -- if t71: else
                have h71 := of_decide_eq_false h71
                refine CT.seq ?_
                -- region 18: ref.go:62
                refine CT.region ?_
                refine Wl.q rfl rfl (OpQ.eql rfl rfl) ?_
                refine Wl.q rfl rfl (OpQ.assign rfl) ?_
                refine Wl.nil ?_
                refine PX.then_n ?_
                refine CT.cond rfl (fun h88 => ?_) (fun h88 => ?_)
                · -- if t88: then
                  have h88 := of_decide_eq_true h88
                  have ha := ok_a hokk (by omega)
                  -- region 19: ref.go:63
                  refine CT.region ?_
                  refine Wl.q rfl rfl (OpQ.move rfl) ?_
                  refine Wl.q rfl rfl (OpQ.move rfl) ?_
                  refine Wl.q rfl rfl (OpQ.move rfl) ?_
                  refine Wl.q rfl rfl (OpQ.neq rfl rfl) ?_
                  refine Wl.q rfl rfl (OpQ.move rfl) ?_
                  refine Wl.split 94 rfl (fun hg94 => ?_) (fun hg94 => ?_)
                  · -- t94 = True
                    have hbl := hbf (by simpa using hg94)
                    refine Wl.q rfl rfl (OpQ.move rfl) ?_
                    refine Wl.q rfl rfl (OpQ.fieldAddr B_fa31_2 rfl) ?_
                    refine Wl.q rfl rfl (OpQ.loadF (b := b9) B_sc3 rfl (by repeat (first | exact Has.here | apply Has.there)) (by rfl)) ?_
                    refine Wl.q rfl rfl (OpQ.index1 B_un49 B_sz4 rfl rfl ⟨ha.1, by have := ha.2; omega⟩ (hrb.isSome (j := 0) (by rw [List.length_map]; omega))) ?_
                    refine Wl.q rfl rfl (OpQ.loadG B_sc4 rfl (fun w hH => hH.rd0 hrb rfl) (gt_get ⟨ha.1, by have := ha.2; omega⟩)) ?_
                    refine Wl.q rfl rfl (OpQ.pickT rfl rfl) ?_
                    refine Wl.q rfl rfl (OpQ.index1 B_un49 B_sz4 rfl rfl (by omega) rfl) ?_
                    refine Wl.g rfl rfl (OpG.storeRow B_sz4 rfl rfl rfl (.there .here) (by rw [List.length_map, evL_len]; rw [List.length_replicate]; omega)) ?_
                    rintro _ _
                    refine Wl.nil ?_
                    refine PX.block_n ?_
                    refine PX.block_n ?_
                    refine PX.then_n ?_
                    -- region 22: ref.go:48
                    refine CT.region ?_
                    refine Wl.q rfl rfl (OpQ.add rfl rfl (by omega)) ?_
                    refine Wl.q rfl rfl (OpQ.move rfl) ?_
                    refine Wl.nil ?_
                    exact PX.loop hK0 (k + 1) (by omega) (by first | omega | (dsimp only; omega)) ⟨rfl, rfl, rfl, rfl, rfl, rfl, rfl, trivial⟩ (.drop (.keep (row_eq (ev_set (by simp [-List.getD_eq_getElem?_getD, evV, *]))) .nil))
                  · -- t94 = False
                    refine Wl.skip rfl rfl ?_
                    refine Wl.skip rfl rfl ?_
                    refine Wl.skip rfl rfl ?_
                    refine Wl.skip rfl rfl ?_
                    refine Wl.skip rfl rfl ?_
                    refine Wl.q rfl rfl (OpQ.pickF rfl rfl) ?_
                    refine Wl.q rfl rfl (OpQ.index1 B_un49 B_sz4 rfl rfl (by omega) rfl) ?_
                    refine Wl.g rfl rfl (OpG.storeRow B_sz4 rfl rfl rfl (.there .here) (by rw [List.length_map, evL_len]; rw [List.length_replicate]; omega)) ?_
                    rintro _ _
                    refine Wl.nil ?_
                    refine PX.block_n ?_
                    refine PX.block_n ?_
                    refine PX.then_n ?_
                    -- region 22: ref.go:48
                    refine CT.region ?_
                    refine Wl.q rfl rfl (OpQ.add rfl rfl (by omega)) ?_
                    refine Wl.q rfl rfl (OpQ.move rfl) ?_
                    refine Wl.nil ?_
                    exact PX.loop hK0 (k + 1) (by omega) (by first | omega | (dsimp only; omega)) ⟨rfl, rfl, rfl, rfl, rfl, rfl, rfl, trivial⟩ (.drop (.keep (row_eq (ev_set (by simp [-List.getD_eq_getElem?_getD, evV, *]))) .nil))
                · -- if t88: else
                  have h88 := of_decide_eq_false h88
                  refine CT.seq ?_
                  -- region 20: ref.go:64
                  refine CT.region ?_
                  refine Wl.q rfl rfl (OpQ.eql rfl rfl) ?_
                  refine Wl.q rfl rfl (OpQ.assign rfl) ?_
                  refine Wl.nil ?_
                  refine PX.then_n ?_
                  refine CT.cond rfl (fun h102 => ?_) (fun h102 => ?_)
                  · -- if t102: then
                    have h102 := of_decide_eq_true h102
                    have ha := ok_a hokk (by omega)
                    have hb := ok_b hokk (by omega)
                    -- region 21: ref.go:65
                    refine CT.region ?_
                    refine Wl.q rfl rfl (OpQ.move rfl) ?_
                    refine Wl.q rfl rfl (OpQ.move rfl) ?_
                    refine Wl.q rfl rfl (OpQ.move rfl) ?_
                    refine Wl.q rfl rfl (OpQ.fieldAddr B_fa31_3 rfl) ?_
                    refine Wl.q rfl rfl (OpQ.loadF (b := b9) B_sc3 rfl (by repeat (first | exact Has.here | apply Has.there)) (by rfl)) ?_
                    refine Wl.q rfl rfl (OpQ.index1 B_un49 B_sz4 rfl rfl ⟨hb.1, by have := hb.2; omega⟩ rfl) ?_
                    refine Wl.q rfl rfl (OpQ.loadRow B_sc4 rfl (.there .here) (gt_get ⟨hb.1, by rw [evL_len]; have := hb.2; rw [List.length_replicate]; omega⟩)) ?_
                    refine Wl.q rfl rfl (OpQ.move rfl) ?_
                    refine Wl.split 111 rfl (fun hg111 => ?_) (fun hg111 => ?_)
                    · -- t111 = True
                      refine Wl.skip rfl rfl ?_
                      refine Wl.skip rfl rfl ?_
                      refine Wl.skip rfl rfl ?_
                      refine Wl.skip rfl rfl ?_
                      refine Wl.skip rfl rfl ?_
                      refine Wl.skip rfl rfl ?_
                      refine Wl.skip rfl rfl ?_
                      refine Wl.skip rfl rfl ?_
                      refine Wl.skip rfl rfl ?_
                      refine Wl.skip rfl rfl ?_
                      refine Wl.skip rfl rfl ?_
                      refine Wl.skip rfl rfl ?_
                      refine Wl.skip rfl rfl ?_
                      refine Wl.skip rfl rfl ?_
                      refine Wl.skip rfl rfl ?_
                      refine Wl.q rfl rfl (OpQ.pickT rfl rfl) ?_
                      refine Wl.q rfl rfl (OpQ.index1 B_un49 B_sz4 rfl rfl (by omega) rfl) ?_
                      refine Wl.g rfl rfl (OpG.storeRow B_sz4 rfl rfl rfl (.there .here) (by rw [List.length_map, evL_len]; rw [List.length_replicate]; omega)) ?_
                      rintro _ _
                      refine Wl.nil ?_
                      refine PX.block_n ?_
                      refine PX.block_n ?_
                      refine PX.then_n ?_
                      -- region 22: ref.go:48
                      refine CT.region ?_
                      refine Wl.q rfl rfl (OpQ.add rfl rfl (by omega)) ?_
                      refine Wl.q rfl rfl (OpQ.move rfl) ?_
                      refine Wl.nil ?_
                      exact PX.loop hK0 (k + 1) (by omega) (by first | omega | (dsimp only; omega)) ⟨rfl, rfl, rfl, rfl, rfl, rfl, rfl, trivial⟩ (.drop (.keep (row_eq (ev_set (by simp [-List.getD_eq_getElem?_getD, evV, *]))) .nil))
                    · -- t111 = False
                      refine Wl.q rfl rfl (OpQ.move rfl) ?_
                      refine Wl.q rfl rfl (OpQ.neq rfl rfl) ?_
                      refine Wl.q rfl rfl (OpQ.move rfl) ?_
                      refine Wl.split 114 rfl (fun hg114 => ?_) (fun hg114 => ?_)
                      · -- t114 = True
                        have hbl := hbf (by simpa using hg114)
                        refine Wl.q rfl rfl (OpQ.move rfl) ?_
                        refine Wl.q rfl rfl (OpQ.fieldAddr B_fa31_2 rfl) ?_
                        refine Wl.q rfl rfl (OpQ.loadF (b := b9) B_sc3 rfl (by repeat (first | exact Has.here | apply Has.there)) (by rfl)) ?_
                        refine Wl.q rfl rfl (OpQ.index1 B_un49 B_sz4 rfl rfl ⟨ha.1, by have := ha.2; omega⟩ rfl) ?_
                        refine Wl.q rfl rfl (OpQ.loadRow B_sc4 rfl (.there .here) (gt_get ⟨ha.1, by rw [evL_len]; have := ha.2; rw [List.length_replicate]; omega⟩)) ?_
                        refine Wl.q rfl rfl (OpQ.pickT rfl rfl) ?_
                        refine Wl.q rfl rfl (OpQ.move rfl) ?_
                        refine Wl.split 121 rfl (fun hg121 => ?_) (fun hg121 => ?_)
                        · -- t121 = True
                          refine Wl.q rfl rfl (OpQ.move rfl) ?_
                          refine Wl.q rfl rfl (OpQ.move rfl) ?_
                          refine Wl.q rfl rfl (OpQ.index1 B_un49 B_sz4 rfl rfl (by omega) (hrb.isSome (j := 0) (by rw [List.length_map]; omega))) ?_
                          refine Wl.q rfl rfl (OpQ.loadG B_sc4 rfl (fun w hH => hH.rd0 hrb rfl) (getMap bo bf false (j := k) (by omega))) ?_
                          refine Wl.q rfl rfl (OpQ.pickT rfl rfl) ?_
                          refine Wl.q rfl rfl (OpQ.pickF rfl rfl) ?_
                          refine Wl.q rfl rfl (OpQ.index1 B_un49 B_sz4 rfl rfl (by omega) rfl) ?_
                          refine Wl.g rfl rfl (OpG.storeRow B_sz4 rfl rfl rfl (.there .here) (by rw [List.length_map, evL_len]; rw [List.length_replicate]; omega)) ?_
                          rintro _ _
                          refine Wl.nil ?_
                          refine PX.block_n ?_
                          refine PX.block_n ?_
                          refine PX.then_n ?_
                          -- region 22: ref.go:48
                          refine CT.region ?_
                          refine Wl.q rfl rfl (OpQ.add rfl rfl (by omega)) ?_
                          refine Wl.q rfl rfl (OpQ.move rfl) ?_
                          refine Wl.nil ?_
                          exact PX.loop hK0 (k + 1) (by omega) (by first | omega | (dsimp only; omega)) ⟨rfl, rfl, rfl, rfl, rfl, rfl, rfl, trivial⟩ (.drop (.keep (row_eq (ev_set (by simp [-List.getD_eq_getElem?_getD, evV, *]))) .nil))
                        · -- t121 = False
                          refine Wl.skip rfl rfl ?_
                          refine Wl.skip rfl rfl ?_
                          refine Wl.skip rfl rfl ?_
                          refine Wl.skip rfl rfl ?_
                          refine Wl.q rfl rfl (OpQ.pickF rfl rfl) ?_
                          refine Wl.q rfl rfl (OpQ.pickF rfl rfl) ?_
                          refine Wl.q rfl rfl (OpQ.index1 B_un49 B_sz4 rfl rfl (by omega) rfl) ?_
                          refine Wl.g rfl rfl (OpG.storeRow B_sz4 rfl rfl rfl (.there .here) (by rw [List.length_map, evL_len]; rw [List.length_replicate]; omega)) ?_
                          rintro _ _
                          refine Wl.nil ?_
                          refine PX.block_n ?_
                          refine PX.block_n ?_
                          refine PX.then_n ?_
                          -- region 22: ref.go:48
                          refine CT.region ?_
                          refine Wl.q rfl rfl (OpQ.add rfl rfl (by omega)) ?_
                          refine Wl.q rfl rfl (OpQ.move rfl) ?_
                          refine Wl.nil ?_
                          exact PX.loop hK0 (k + 1) (by omega) (by first | omega | (dsimp only; omega)) ⟨rfl, rfl, rfl, rfl, rfl, rfl, rfl, trivial⟩ (.drop (.keep (row_eq (ev_set (by simp [-List.getD_eq_getElem?_getD, evV, *]))) .nil))
                      · -- t114 = False
                        refine Wl.skip rfl rfl ?_
                        refine Wl.skip rfl rfl ?_
                        refine Wl.skip rfl rfl ?_
                        refine Wl.skip rfl rfl ?_
                        refine Wl.skip rfl rfl ?_
                        refine Wl.q rfl rfl (OpQ.pickF rfl rfl) ?_
                        refine Wl.q rfl rfl (OpQ.move rfl) ?_
                        refine Wl.skip rfl rfl ?_
                        refine Wl.skip rfl rfl ?_
                        refine Wl.skip rfl rfl ?_
                        refine Wl.skip rfl rfl ?_
                        refine Wl.q rfl rfl (OpQ.pickF rfl rfl) ?_
                        refine Wl.q rfl rfl (OpQ.pickF rfl rfl) ?_
                        refine Wl.q rfl rfl (OpQ.index1 B_un49 B_sz4 rfl rfl (by omega) rfl) ?_
                        refine Wl.g rfl rfl (OpG.storeRow B_sz4 rfl rfl rfl (.there .here) (by rw [List.length_map, evL_len]; rw [List.length_replicate]; omega)) ?_
                        rintro _ _
                        refine Wl.nil ?_
                        refine PX.block_n ?_
                        refine PX.block_n ?_
                        refine PX.then_n ?_
                        -- region 22: ref.go:48
                        refine CT.region ?_
                        refine Wl.q rfl rfl (OpQ.add rfl rfl (by omega)) ?_
                        refine Wl.q rfl rfl (OpQ.move rfl) ?_
                        refine Wl.nil ?_
                        exact PX.loop hK0 (k + 1) (by omega) (by first | omega | (dsimp only; omega)) ⟨rfl, rfl, rfl, rfl, rfl, rfl, rfl, trivial⟩ (.drop (.keep (row_eq (ev_set (by simp [-List.getD_eq_getElem?_getD, evV, *]))) .nil))
                  · -- if t102: else
                    have h102 := of_decide_eq_false h102
                    exact absurd (ok_op hokk) (by omega)
  · -- if t16: else
    have h16 := of_decide_eq_false h16
    refine CT.exit ?_
    refine PX.then_x ?_
    refine PX.then_x ?_
    refine PX.block_x ?_
    refine PX.then_n ?_
    refine CT.seq ?_
    -- region 23: ref.go:68
    refine CT.region ?_
    refine Wl.q rfl rfl (OpQ.move rfl) ?_
    refine Wl.q rfl rfl (OpQ.assign rfl) ?_
    refine Wl.nil ?_
    refine PX.then_n ?_
    refine CT.ret ?_
    refine PX.ret1 rfl rfl (fun w' hH => ?_)
    obtain rfl : k = xs.length := by omega
    exact hH.newRow .here

set_option maxRecDepth 100000 in
/-- semigroup/temporal.evaluate -/
theorem evaluate_spec (w : World) (a : Option Addr) (cp : Nat) (xs : List Tm) (hr : Rd w a (xs.flatMap tv)) (hn : xs.length ≤ 200000) (letter : Int) (an : Option Addr) (nn cn : Nat) (bf : List Bool) (hrb : Rd w an (bf.map bo)) (hnn : letter ≠ -1 → nn = bf.length) (hbf : letter ≠ -1 → bf.length = xs.length) (hok : okL xs 6 = true) (ad : Option Addr) (cd : Nat) (v : List Bool) (hv : v.length = xs.length) (hown : w.ownsRow 0 4 1 (.slice ad xs.length cd) xs.length (v.map bo)) (hs : Sep a (xs.flatMap tv) (.slice ad xs.length cd)) (hsb : Sep an (bf.map bo) (.slice ad xs.length cd)) : Calls Try.prog 33 #[.slice a xs.length cp, .int .i64 (letter), .slice an nn cn, .slice ad xs.length cd] w (fun e w' => e = .returned (.tuple #[]) ∧ Wrote 4 1 (.slice ad xs.length cd) xs.length ((evL xs letter bf v xs.length).map bo) w w') := by
  have sm : 0 < xs.length → a.isSome = true := fun h => hr.isSome (j := 0) (by rw [flat_len tv_len]; omega)
  have sd : 0 < xs.length → ad.isSome = true := fun h => owns_isSome hown (by omega)
  refine enterW (args := [.slice a xs.length cp, .int .i64 (letter), .slice an nn cn, .slice ad xs.length cd]) hown 127 Try.func33 rfl rfl rfl ?_
  refine CT.seq ?_
  -- region 0: temporal.go:96
  refine CT.region ?_
  refine Wl.q rfl rfl (OpQ.move rfl) ?_
  refine Wl.q rfl rfl (OpQ.len B_un22 rfl) ?_
  refine Wl.q rfl rfl (OpQ.move rfl) ?_
  refine Wl.nil ?_
  refine PX.then_n ?_
  refine CT.block ?_
  -- the loop at region 1
  refine CT.loop (ι := Nat) (fun k => k ≤ xs.length) (fun k => [(1, .int .i64 (letter)), (2, .slice an nn cn), (3, .slice ad xs.length cd), (10, .slice a xs.length cp), (11, .int .i64 (xs.length : Int)), (12, .int .i64 (k : Int))]) (fun k => [.row 4 1 (.slice ad xs.length cd) xs.length ((evL xs letter bf v k).map bo)]) (fun k => xs.length - k) 0 (by omega) ⟨rfl, rfl, rfl, rfl, rfl, rfl, trivial⟩ (HSub.refl _) (fun k hk K0 hK0 => ?_)
  refine CT.seq ?_
  -- region 1: temporal.go:96
  refine CT.region ?_
  refine Wl.q rfl rfl (OpQ.lss rfl rfl) ?_
  refine Wl.nil ?_
  refine PX.then_n ?_
  refine CT.seq ?_
  refine CT.cond rfl (fun h13 => ?_) (fun h13 => ?_)
  · -- if t13: then
    have h13 := of_decide_eq_true h13
    have hokk := okL_get hok (j := k) (by omega)
    have hL := evL_len xs letter bf v k
    refine CT.skip ?_
    refine PX.then_n ?_
    refine CT.seq ?_
    refine CT.block ?_
    refine CT.seq ?_
    -- region 2: temporal.go:96
    refine CT.region ?_
    refine Wl.q rfl rfl (OpQ.move rfl) ?_
    refine Wl.q rfl rfl (OpQ.index B_un22 B_sz31 rfl rfl (by omega) (sm (by omega))) ?_
    refine Wl.q rfl rfl (OpQ.loadAggG (cs := tv (xs.getD k t0)) B_ag31 B_sz31 rfl (fun w hH => hH.rdX hr hs) (flat_cells tv_len xs t0 (by omega))) ?_
    refine Wl.g rfl rfl (OpG.alloc (zs := [.int .i64 0, .int .i64 0, .int .i64 0, .int .i64 0]) B_in31 rfl rfl) ?_
    rintro b9 _
    refine Wl.q rfl rfl (OpQ.assign rfl) ?_
    refine Wl.g rfl rfl (OpG.storeV (b := b9) B_sz31 rfl rfl rfl rfl (by repeat (first | exact Upd.here | apply Upd.there))) ?_
    rintro _ _
    refine Wl.nil ?_
    refine PX.then_n ?_
    refine CT.seq ?_
    -- region 3: temporal.go:97
    refine CT.region ?_
    refine Wl.q rfl rfl (OpQ.fieldAddr B_fa31_0 rfl) ?_
    refine Wl.q rfl rfl (OpQ.loadF (b := b9) B_sc3 rfl (by repeat (first | exact Has.here | apply Has.there)) (by rfl)) ?_
    refine Wl.nil ?_
    refine PX.then_n ?_
    refine CT.block ?_
    refine CT.seq ?_
    -- region 4: temporal.go:98
    refine CT.region ?_
    refine Wl.q rfl rfl (OpQ.eql rfl rfl) ?_
    refine Wl.q rfl rfl (OpQ.assign rfl) ?_
    refine Wl.nil ?_
    refine PX.then_n ?_
    refine CT.cond rfl (fun h19 => ?_) (fun h19 => ?_)
    · -- if t19: then
      have h19 := of_decide_eq_true h19
      -- region 5: temporal.go:99
      refine CT.region ?_
      refine Wl.q rfl rfl (OpQ.move rfl) ?_
      refine Wl.q rfl rfl (OpQ.move rfl) ?_
      refine Wl.q rfl rfl (OpQ.index1 B_un49 B_sz4 rfl rfl (by omega) (sd (by omega))) ?_
      refine Wl.g rfl rfl (OpG.storeRow B_sz4 rfl rfl rfl (.there .here) (by rw [List.length_map, evL_len]; omega)) ?_
      rintro _ _
      refine Wl.nil ?_
      refine PX.block_n ?_
      refine PX.block_n ?_
      refine PX.then_n ?_
      -- region 20: temporal.go:96
      refine CT.region ?_
      refine Wl.q rfl rfl (OpQ.add rfl rfl (by omega)) ?_
      refine Wl.q rfl rfl (OpQ.move rfl) ?_
      refine Wl.nil ?_
      exact PX.loop hK0 (k + 1) (by omega) (by first | omega | (dsimp only; omega)) ⟨rfl, rfl, rfl, rfl, rfl, rfl, trivial⟩ (.drop (.keep (row_eq (ev_set (by simp [-List.getD_eq_getElem?_getD, evV, *]))) .nil))
    · -- if t19: else
      have h19 := of_decide_eq_false h19
      refine CT.seq ?_
      -- region 6: temporal.go:100
      refine CT.region ?_
      refine Wl.q rfl rfl (OpQ.eql rfl rfl) ?_
      refine Wl.q rfl rfl (OpQ.assign rfl) ?_
      refine Wl.nil ?_
      refine PX.then_n ?_
      refine CT.cond rfl (fun h24 => ?_) (fun h24 => ?_)
      · -- if t24: then
        have h24 := of_decide_eq_true h24
        -- region 7: temporal.go:101
        refine CT.region ?_
        refine Wl.q rfl rfl (OpQ.move rfl) ?_
        refine Wl.q rfl rfl (OpQ.move rfl) ?_
        refine Wl.q rfl rfl (OpQ.move rfl) ?_
        refine Wl.q rfl rfl (OpQ.fieldAddr B_fa31_1 rfl) ?_
        refine Wl.q rfl rfl (OpQ.loadF (b := b9) B_sc3 rfl (by repeat (first | exact Has.here | apply Has.there)) (by rfl)) ?_
        refine Wl.q rfl rfl (OpQ.eql rfl rfl) ?_
        refine Wl.q rfl rfl (OpQ.index1 B_un49 B_sz4 rfl rfl (by omega) (sd (by omega))) ?_
        refine Wl.g rfl rfl (OpG.storeRow B_sz4 rfl rfl rfl (.there .here) (by rw [List.length_map, evL_len]; omega)) ?_
        rintro _ _
        refine Wl.nil ?_
        refine PX.block_n ?_
        refine PX.block_n ?_
        refine PX.then_n ?_
        -- region 20: temporal.go:96
        refine CT.region ?_
        refine Wl.q rfl rfl (OpQ.add rfl rfl (by omega)) ?_
        refine Wl.q rfl rfl (OpQ.move rfl) ?_
        refine Wl.nil ?_
        exact PX.loop hK0 (k + 1) (by omega) (by first | omega | (dsimp only; omega)) ⟨rfl, rfl, rfl, rfl, rfl, rfl, trivial⟩ (.drop (.keep (row_eq (ev_set (by simp [-List.getD_eq_getElem?_getD, evV, *]))) .nil))
      · -- if t24: else
        have h24 := of_decide_eq_false h24
        refine CT.seq ?_
        -- region 8: temporal.go:102
        refine CT.region ?_
        refine Wl.q rfl rfl (OpQ.eql rfl rfl) ?_
        refine Wl.q rfl rfl (OpQ.assign rfl) ?_
        refine Wl.nil ?_
        refine PX.then_n ?_
        refine CT.cond rfl (fun h33 => ?_) (fun h33 => ?_)
        · -- if t33: then
          have h33 := of_decide_eq_true h33
          -- region 9: temporal.go:103
          refine CT.region ?_
          refine Wl.q rfl rfl (OpQ.move rfl) ?_
          refine Wl.q rfl rfl (OpQ.move rfl) ?_
          refine Wl.q rfl rfl (OpQ.move rfl) ?_
          refine Wl.q rfl rfl (OpQ.eql rfl rfl) ?_
          refine Wl.q rfl rfl (OpQ.index1 B_un49 B_sz4 rfl rfl (by omega) (sd (by omega))) ?_
          refine Wl.g rfl rfl (OpG.storeRow B_sz4 rfl rfl rfl (.there .here) (by rw [List.length_map, evL_len]; omega)) ?_
          rintro _ _
          refine Wl.nil ?_
          refine PX.block_n ?_
          refine PX.block_n ?_
          refine PX.then_n ?_
          -- region 20: temporal.go:96
          refine CT.region ?_
          refine Wl.q rfl rfl (OpQ.add rfl rfl (by omega)) ?_
          refine Wl.q rfl rfl (OpQ.move rfl) ?_
          refine Wl.nil ?_
          exact PX.loop hK0 (k + 1) (by omega) (by first | omega | (dsimp only; omega)) ⟨rfl, rfl, rfl, rfl, rfl, rfl, trivial⟩ (.drop (.keep (row_eq (ev_set (by simp [-List.getD_eq_getElem?_getD, evV, *]))) .nil))
        · -- if t33: else
          have h33 := of_decide_eq_false h33
          refine CT.seq ?_
          -- region 10: temporal.go:104
          refine CT.region ?_
          refine Wl.q rfl rfl (OpQ.eql rfl rfl) ?_
          refine Wl.q rfl rfl (OpQ.assign rfl) ?_
          refine Wl.nil ?_
          refine PX.then_n ?_
          refine CT.cond rfl (fun h40 => ?_) (fun h40 => ?_)
          · -- if t40: then
            have h40 := of_decide_eq_true h40
            have ha := ok_a hokk (by omega)
            -- region 11: temporal.go:105
            refine CT.region ?_
            refine Wl.q rfl rfl (OpQ.move rfl) ?_
            refine Wl.q rfl rfl (OpQ.move rfl) ?_
            refine Wl.q rfl rfl (OpQ.move rfl) ?_
            refine Wl.q rfl rfl (OpQ.fieldAddr B_fa31_2 rfl) ?_
            refine Wl.q rfl rfl (OpQ.loadF (b := b9) B_sc3 rfl (by repeat (first | exact Has.here | apply Has.there)) (by rfl)) ?_
            refine Wl.q rfl rfl (OpQ.index1 B_un49 B_sz4 rfl rfl ⟨ha.1, by have := ha.2; omega⟩ (sd (by omega))) ?_
            refine Wl.q rfl rfl (OpQ.loadRow B_sc4 rfl (.there .here) (gt_get ⟨ha.1, by rw [evL_len]; have := ha.2; omega⟩)) ?_
            refine Wl.q rfl rfl (OpQ.not rfl) ?_
            refine Wl.q rfl rfl (OpQ.index1 B_un49 B_sz4 rfl rfl (by omega) (sd (by omega))) ?_
            refine Wl.g rfl rfl (OpG.storeRow B_sz4 rfl rfl rfl (.there .here) (by rw [List.length_map, evL_len]; omega)) ?_
            rintro _ _
            refine Wl.nil ?_
            refine PX.block_n ?_
            refine PX.block_n ?_
            refine PX.then_n ?_
            -- region 20: temporal.go:96
            refine CT.region ?_
            refine Wl.q rfl rfl (OpQ.add rfl rfl (by omega)) ?_
            refine Wl.q rfl rfl (OpQ.move rfl) ?_
            refine Wl.nil ?_
            exact PX.loop hK0 (k + 1) (by omega) (by first | omega | (dsimp only; omega)) ⟨rfl, rfl, rfl, rfl, rfl, rfl, trivial⟩ (.drop (.keep (row_eq (ev_set (by simp [-List.getD_eq_getElem?_getD, evV, *]))) .nil))
          · -- if t40: else
            have h40 := of_decide_eq_false h40
            refine CT.seq ?_
            -- region 12: temporal.go:106
            refine CT.region ?_
            refine Wl.q rfl rfl (OpQ.eql rfl rfl) ?_
            refine Wl.q rfl rfl (OpQ.assign rfl) ?_
            refine Wl.nil ?_
            refine PX.then_n ?_
            refine CT.cond rfl (fun h51 => ?_) (fun h51 => ?_)
            · -- if t51: then
              have h51 := of_decide_eq_true h51
              have ha := ok_a hokk (by omega)
              have hb := ok_b hokk (by omega)
              -- region 13: temporal.go:107
              refine CT.region ?_
              refine Wl.q rfl rfl (OpQ.move rfl) ?_
              refine Wl.q rfl rfl (OpQ.move rfl) ?_
              refine Wl.q rfl rfl (OpQ.move rfl) ?_
              refine Wl.q rfl rfl (OpQ.fieldAddr B_fa31_2 rfl) ?_
              refine Wl.q rfl rfl (OpQ.loadF (b := b9) B_sc3 rfl (by repeat (first | exact Has.here | apply Has.there)) (by rfl)) ?_
              refine Wl.q rfl rfl (OpQ.index1 B_un49 B_sz4 rfl rfl ⟨ha.1, by have := ha.2; omega⟩ (sd (by omega))) ?_
              refine Wl.q rfl rfl (OpQ.loadRow B_sc4 rfl (.there .here) (gt_get ⟨ha.1, by rw [evL_len]; have := ha.2; omega⟩)) ?_
              refine Wl.q rfl rfl (OpQ.move rfl) ?_
              refine Wl.split 60 rfl (fun hg60 => ?_) (fun hg60 => ?_)
              · -- t60 = True
                refine Wl.q rfl rfl (OpQ.move rfl) ?_
                refine Wl.q rfl rfl (OpQ.fieldAddr B_fa31_3 rfl) ?_
                refine Wl.q rfl rfl (OpQ.loadF (b := b9) B_sc3 rfl (by repeat (first | exact Has.here | apply Has.there)) (by rfl)) ?_
                refine Wl.q rfl rfl (OpQ.index1 B_un49 B_sz4 rfl rfl ⟨hb.1, by have := hb.2; omega⟩ (sd (by omega))) ?_
                refine Wl.q rfl rfl (OpQ.loadRow B_sc4 rfl (.there .here) (gt_get ⟨hb.1, by rw [evL_len]; have := hb.2; omega⟩)) ?_
                refine Wl.q rfl rfl (OpQ.pickT rfl rfl) ?_
                refine Wl.q rfl rfl (OpQ.index1 B_un49 B_sz4 rfl rfl (by omega) (sd (by omega))) ?_
                refine Wl.g rfl rfl (OpG.storeRow B_sz4 rfl rfl rfl (.there .here) (by rw [List.length_map, evL_len]; omega)) ?_
                rintro _ _
                refine Wl.nil ?_
                refine PX.block_n ?_
                refine PX.block_n ?_
                refine PX.then_n ?_
                -- region 20: temporal.go:96
                refine CT.region ?_
                refine Wl.q rfl rfl (OpQ.add rfl rfl (by omega)) ?_
                refine Wl.q rfl rfl (OpQ.move rfl) ?_
                refine Wl.nil ?_
                exact PX.loop hK0 (k + 1) (by omega) (by first | omega | (dsimp only; omega)) ⟨rfl, rfl, rfl, rfl, rfl, rfl, trivial⟩ (.drop (.keep (row_eq (ev_set (by simp [-List.getD_eq_getElem?_getD, evV, *]))) .nil))
              · -- t60 = False
                refine Wl.skip rfl rfl ?_
                refine Wl.skip rfl rfl ?_
                refine Wl.skip rfl rfl ?_
                refine Wl.skip rfl rfl ?_
                refine Wl.skip rfl rfl ?_
                refine Wl.q rfl rfl (OpQ.pickF rfl rfl) ?_
                refine Wl.q rfl rfl (OpQ.index1 B_un49 B_sz4 rfl rfl (by omega) (sd (by omega))) ?_
                refine Wl.g rfl rfl (OpG.storeRow B_sz4 rfl rfl rfl (.there .here) (by rw [List.length_map, evL_len]; omega)) ?_
                rintro _ _
                refine Wl.nil ?_
                refine PX.block_n ?_
                refine PX.block_n ?_
                refine PX.then_n ?_
                -- region 20: temporal.go:96
                refine CT.region ?_
                refine Wl.q rfl rfl (OpQ.add rfl rfl (by omega)) ?_
                refine Wl.q rfl rfl (OpQ.move rfl) ?_
                refine Wl.nil ?_
                exact PX.loop hK0 (k + 1) (by omega) (by first | omega | (dsimp only; omega)) ⟨rfl, rfl, rfl, rfl, rfl, rfl, trivial⟩ (.drop (.keep (row_eq (ev_set (by simp [-List.getD_eq_getElem?_getD, evV, *]))) .nil))
            · -- if t51: else
              have h51 := of_decide_eq_false h51
              refine CT.seq ?_
              -- region 14: temporal.go:108
              refine CT.region ?_
              refine Wl.q rfl rfl (OpQ.eql rfl rfl) ?_
              refine Wl.q rfl rfl (OpQ.assign rfl) ?_
              refine Wl.nil ?_
              refine PX.then_n ?_
              refine CT.cond rfl (fun h68 => ?_) (fun h68 => ?_)
              · -- if t68: then
                have h68 := of_decide_eq_true h68
                have ha := ok_a hokk (by omega)
                have hb := ok_b hokk (by omega)
                -- region 15: temporal.go:109
                refine CT.region ?_
                refine Wl.q rfl rfl (OpQ.move rfl) ?_
                refine Wl.q rfl rfl (OpQ.move rfl) ?_
                refine Wl.q rfl rfl (OpQ.move rfl) ?_
                refine Wl.q rfl rfl (OpQ.fieldAddr B_fa31_2 rfl) ?_
                refine Wl.q rfl rfl (OpQ.loadF (b := b9) B_sc3 rfl (by repeat (first | exact Has.here | apply Has.there)) (by rfl)) ?_
                refine Wl.q rfl rfl (OpQ.index1 B_un49 B_sz4 rfl rfl ⟨ha.1, by have := ha.2; omega⟩ (sd (by omega))) ?_
                refine Wl.q rfl rfl (OpQ.loadRow B_sc4 rfl (.there .here) (gt_get ⟨ha.1, by rw [evL_len]; have := ha.2; omega⟩)) ?_
                refine Wl.q rfl rfl (OpQ.move rfl) ?_
                refine Wl.split 77 rfl (fun hg77 => ?_) (fun hg77 => ?_)
                · -- t77 = True
                  refine Wl.skip rfl rfl ?_
                  refine Wl.skip rfl rfl ?_
                  refine Wl.skip rfl rfl ?_
                  refine Wl.skip rfl rfl ?_
                  refine Wl.skip rfl rfl ?_
                  refine Wl.q rfl rfl (OpQ.pickT rfl rfl) ?_
                  refine Wl.q rfl rfl (OpQ.index1 B_un49 B_sz4 rfl rfl (by omega) (sd (by omega))) ?_
                  refine Wl.g rfl rfl (OpG.storeRow B_sz4 rfl rfl rfl (.there .here) (by rw [List.length_map, evL_len]; omega)) ?_
                  rintro _ _
                  refine Wl.nil ?_
                  refine PX.block_n ?_
                  refine PX.block_n ?_
                  refine PX.then_n ?_
                  -- region 20: temporal.go:96
                  refine CT.region ?_
                  refine Wl.q rfl rfl (OpQ.add rfl rfl (by omega)) ?_
                  refine Wl.q rfl rfl (OpQ.move rfl) ?_
                  refine Wl.nil ?_
                  exact PX.loop hK0 (k + 1) (by omega) (by first | omega | (dsimp only; omega)) ⟨rfl, rfl, rfl, rfl, rfl, rfl, trivial⟩ (.drop (.keep (row_eq (ev_set (by simp [-List.getD_eq_getElem?_getD, evV, *]))) .nil))
                · -- t77 = False
                  refine Wl.q rfl rfl (OpQ.move rfl) ?_
                  refine Wl.q rfl rfl (OpQ.fieldAddr B_fa31_3 rfl) ?_
                  refine Wl.q rfl rfl (OpQ.loadF (b := b9) B_sc3 rfl (by repeat (first | exact Has.here | apply Has.there)) (by rfl)) ?_
                  refine Wl.q rfl rfl (OpQ.index1 B_un49 B_sz4 rfl rfl ⟨hb.1, by have := hb.2; omega⟩ (sd (by omega))) ?_
                  refine Wl.q rfl rfl (OpQ.loadRow B_sc4 rfl (.there .here) (gt_get ⟨hb.1, by rw [evL_len]; have := hb.2; omega⟩)) ?_
                  refine Wl.q rfl rfl (OpQ.pickF rfl rfl) ?_
                  refine Wl.q rfl rfl (OpQ.index1 B_un49 B_sz4 rfl rfl (by omega) (sd (by omega))) ?_
                  refine Wl.g rfl rfl (OpG.storeRow B_sz4 rfl rfl rfl (.there .here) (by rw [List.length_map, evL_len]; omega)) ?_
                  rintro _ _
                  refine Wl.nil ?_
                  refine PX.block_n ?_
                  refine PX.block_n ?_
                  refine PX.then_n ?_
                  -- region 20: temporal.go:96
                  refine CT.region ?_
                  refine Wl.q rfl rfl (OpQ.add rfl rfl (by omega)) ?_
                  refine Wl.q rfl rfl (OpQ.move rfl) ?_
                  refine Wl.nil ?_
                  exact PX.loop hK0 (k + 1) (by omega) (by first | omega | (dsimp only; omega)) ⟨rfl, rfl, rfl, rfl, rfl, rfl, trivial⟩ (.drop (.keep (row_eq (ev_set (by simp [-List.getD_eq_getElem?_getD, evV, *]))) .nil))
              · -- if t68: else
                have h68 := of_decide_eq_false h68
                refine CT.seq ?_
                -- region 16: temporal.go:110
                refine CT.region ?_
                refine Wl.q rfl rfl (OpQ.eql rfl rfl) ?_
                refine Wl.q rfl rfl (OpQ.assign rfl) ?_
                refine Wl.nil ?_
                refine PX.then_n ?_
                refine CT.cond rfl (fun h85 => ?_) (fun h85 => ?_)
                · -- if t85: then
                  have h85 := of_decide_eq_true h85
                  have ha := ok_a hokk (by omega)
                  -- region 17: temporal.go:111
                  refine CT.region ?_
                  refine Wl.q rfl rfl (OpQ.move rfl) ?_
                  refine Wl.q rfl rfl (OpQ.move rfl) ?_
                  refine Wl.q rfl rfl (OpQ.move rfl) ?_
                  refine Wl.q rfl rfl (OpQ.neq rfl rfl) ?_
                  refine Wl.q rfl rfl (OpQ.move rfl) ?_
                  refine Wl.split 91 rfl (fun hg91 => ?_) (fun hg91 => ?_)
                  · -- t91 = True
                    have hbl := hbf (by simpa using hg91)
                    refine Wl.q rfl rfl (OpQ.move rfl) ?_
                    refine Wl.q rfl rfl (OpQ.fieldAddr B_fa31_2 rfl) ?_
                    refine Wl.q rfl rfl (OpQ.loadF (b := b9) B_sc3 rfl (by repeat (first | exact Has.here | apply Has.there)) (by rfl)) ?_
                    refine Wl.q rfl rfl (OpQ.index1 B_un49 B_sz4 rfl rfl ⟨ha.1, by have := ha.2; rw [hnn (by simpa using hg91)]; omega⟩ (hrb.isSome (j := 0) (by rw [List.length_map]; omega))) ?_
                    refine Wl.q rfl rfl (OpQ.loadG B_sc4 rfl (fun w hH => hH.rdX hrb hsb) (gt_get ⟨ha.1, by have := ha.2; omega⟩)) ?_
                    refine Wl.q rfl rfl (OpQ.pickT rfl rfl) ?_
                    refine Wl.q rfl rfl (OpQ.index1 B_un49 B_sz4 rfl rfl (by omega) (sd (by omega))) ?_
                    refine Wl.g rfl rfl (OpG.storeRow B_sz4 rfl rfl rfl (.there .here) (by rw [List.length_map, evL_len]; omega)) ?_
                    rintro _ _
                    refine Wl.nil ?_
                    refine PX.block_n ?_
                    refine PX.block_n ?_
                    refine PX.then_n ?_
                    -- region 20: temporal.go:96
                    refine CT.region ?_
                    refine Wl.q rfl rfl (OpQ.add rfl rfl (by omega)) ?_
                    refine Wl.q rfl rfl (OpQ.move rfl) ?_
                    refine Wl.nil ?_
                    exact PX.loop hK0 (k + 1) (by omega) (by first | omega | (dsimp only; omega)) ⟨rfl, rfl, rfl, rfl, rfl, rfl, trivial⟩ (.drop (.keep (row_eq (ev_set (by simp [-List.getD_eq_getElem?_getD, evV, *]))) .nil))
                  · -- t91 = False
                    refine Wl.skip rfl rfl ?_
                    refine Wl.skip rfl rfl ?_
                    refine Wl.skip rfl rfl ?_
                    refine Wl.skip rfl rfl ?_
                    refine Wl.skip rfl rfl ?_
                    refine Wl.q rfl rfl (OpQ.pickF rfl rfl) ?_
                    refine Wl.q rfl rfl (OpQ.index1 B_un49 B_sz4 rfl rfl (by omega) (sd (by omega))) ?_
                    refine Wl.g rfl rfl (OpG.storeRow B_sz4 rfl rfl rfl (.there .here) (by rw [List.length_map, evL_len]; omega)) ?_
                    rintro _ _
                    refine Wl.nil ?_
                    refine PX.block_n ?_
                    refine PX.block_n ?_
                    refine PX.then_n ?_
                    -- region 20: temporal.go:96
                    refine CT.region ?_
                    refine Wl.q rfl rfl (OpQ.add rfl rfl (by omega)) ?_
                    refine Wl.q rfl rfl (OpQ.move rfl) ?_
                    refine Wl.nil ?_
                    exact PX.loop hK0 (k + 1) (by omega) (by first | omega | (dsimp only; omega)) ⟨rfl, rfl, rfl, rfl, rfl, rfl, trivial⟩ (.drop (.keep (row_eq (ev_set (by simp [-List.getD_eq_getElem?_getD, evV, *]))) .nil))
                · -- if t85: else
                  have h85 := of_decide_eq_false h85
                  refine CT.seq ?_
                  -- region 18: temporal.go:112
                  refine CT.region ?_
                  refine Wl.q rfl rfl (OpQ.eql rfl rfl) ?_
                  refine Wl.q rfl rfl (OpQ.assign rfl) ?_
                  refine Wl.nil ?_
                  refine PX.then_n ?_
                  refine CT.cond rfl (fun h99 => ?_) (fun h99 => ?_)
                  · -- if t99: then
                    have h99 := of_decide_eq_true h99
                    have ha := ok_a hokk (by omega)
                    have hb := ok_b hokk (by omega)
                    -- region 19: temporal.go:113
                    refine CT.region ?_
                    refine Wl.q rfl rfl (OpQ.move rfl) ?_
                    refine Wl.q rfl rfl (OpQ.move rfl) ?_
                    refine Wl.q rfl rfl (OpQ.move rfl) ?_
                    refine Wl.q rfl rfl (OpQ.fieldAddr B_fa31_3 rfl) ?_
                    refine Wl.q rfl rfl (OpQ.loadF (b := b9) B_sc3 rfl (by repeat (first | exact Has.here | apply Has.there)) (by rfl)) ?_
                    refine Wl.q rfl rfl (OpQ.index1 B_un49 B_sz4 rfl rfl ⟨hb.1, by have := hb.2; omega⟩ (sd (by omega))) ?_
                    refine Wl.q rfl rfl (OpQ.loadRow B_sc4 rfl (.there .here) (gt_get ⟨hb.1, by rw [evL_len]; have := hb.2; omega⟩)) ?_
                    refine Wl.q rfl rfl (OpQ.move rfl) ?_
                    refine Wl.split 108 rfl (fun hg108 => ?_) (fun hg108 => ?_)
                    · -- t108 = True
                      refine Wl.skip rfl rfl ?_
                      refine Wl.skip rfl rfl ?_
                      refine Wl.skip rfl rfl ?_
                      refine Wl.skip rfl rfl ?_
                      refine Wl.skip rfl rfl ?_
                      refine Wl.skip rfl rfl ?_
                      refine Wl.skip rfl rfl ?_
                      refine Wl.skip rfl rfl ?_
                      refine Wl.skip rfl rfl ?_
                      refine Wl.skip rfl rfl ?_
                      refine Wl.skip rfl rfl ?_
                      refine Wl.skip rfl rfl ?_
                      refine Wl.skip rfl rfl ?_
                      refine Wl.skip rfl rfl ?_
                      refine Wl.skip rfl rfl ?_
                      refine Wl.q rfl rfl (OpQ.pickT rfl rfl) ?_
                      refine Wl.q rfl rfl (OpQ.index1 B_un49 B_sz4 rfl rfl (by omega) (sd (by omega))) ?_
                      refine Wl.g rfl rfl (OpG.storeRow B_sz4 rfl rfl rfl (.there .here) (by rw [List.length_map, evL_len]; omega)) ?_
                      rintro _ _
                      refine Wl.nil ?_
                      refine PX.block_n ?_
                      refine PX.block_n ?_
                      refine PX.then_n ?_
                      -- region 20: temporal.go:96
                      refine CT.region ?_
                      refine Wl.q rfl rfl (OpQ.add rfl rfl (by omega)) ?_
                      refine Wl.q rfl rfl (OpQ.move rfl) ?_
                      refine Wl.nil ?_
                      exact PX.loop hK0 (k + 1) (by omega) (by first | omega | (dsimp only; omega)) ⟨rfl, rfl, rfl, rfl, rfl, rfl, trivial⟩ (.drop (.keep (row_eq (ev_set (by simp [-List.getD_eq_getElem?_getD, evV, *]))) .nil))
                    · -- t108 = False
                      refine Wl.q rfl rfl (OpQ.move rfl) ?_
                      refine Wl.q rfl rfl (OpQ.neq rfl rfl) ?_
                      refine Wl.q rfl rfl (OpQ.move rfl) ?_
                      refine Wl.split 111 rfl (fun hg111 => ?_) (fun hg111 => ?_)
                      · -- t111 = True
                        have hbl := hbf (by simpa using hg111)
                        refine Wl.q rfl rfl (OpQ.move rfl) ?_
                        refine Wl.q rfl rfl (OpQ.fieldAddr B_fa31_2 rfl) ?_
                        refine Wl.q rfl rfl (OpQ.loadF (b := b9) B_sc3 rfl (by repeat (first | exact Has.here | apply Has.there)) (by rfl)) ?_
                        refine Wl.q rfl rfl (OpQ.index1 B_un49 B_sz4 rfl rfl ⟨ha.1, by have := ha.2; omega⟩ (sd (by omega))) ?_
                        refine Wl.q rfl rfl (OpQ.loadRow B_sc4 rfl (.there .here) (gt_get ⟨ha.1, by rw [evL_len]; have := ha.2; omega⟩)) ?_
                        refine Wl.q rfl rfl (OpQ.pickT rfl rfl) ?_
                        refine Wl.q rfl rfl (OpQ.move rfl) ?_
                        refine Wl.split 118 rfl (fun hg118 => ?_) (fun hg118 => ?_)
                        · -- t118 = True
                          refine Wl.q rfl rfl (OpQ.move rfl) ?_
                          refine Wl.q rfl rfl (OpQ.move rfl) ?_
                          refine Wl.q rfl rfl (OpQ.index1 B_un49 B_sz4 rfl rfl (by rw [hnn (by simpa using hg111)]; omega) (hrb.isSome (j := 0) (by rw [List.length_map]; omega))) ?_
                          refine Wl.q rfl rfl (OpQ.loadG B_sc4 rfl (fun w hH => hH.rdX hrb hsb) (getMap bo bf false (j := k) (by omega))) ?_
                          refine Wl.q rfl rfl (OpQ.pickT rfl rfl) ?_
                          refine Wl.q rfl rfl (OpQ.pickF rfl rfl) ?_
                          refine Wl.q rfl rfl (OpQ.index1 B_un49 B_sz4 rfl rfl (by omega) (sd (by omega))) ?_
                          refine Wl.g rfl rfl (OpG.storeRow B_sz4 rfl rfl rfl (.there .here) (by rw [List.length_map, evL_len]; omega)) ?_
                          rintro _ _
                          refine Wl.nil ?_
                          refine PX.block_n ?_
                          refine PX.block_n ?_
                          refine PX.then_n ?_
                          -- region 20: temporal.go:96
                          refine CT.region ?_
                          refine Wl.q rfl rfl (OpQ.add rfl rfl (by omega)) ?_
                          refine Wl.q rfl rfl (OpQ.move rfl) ?_
                          refine Wl.nil ?_
                          exact PX.loop hK0 (k + 1) (by omega) (by first | omega | (dsimp only; omega)) ⟨rfl, rfl, rfl, rfl, rfl, rfl, trivial⟩ (.drop (.keep (row_eq (ev_set (by simp [-List.getD_eq_getElem?_getD, evV, *]))) .nil))
                        · -- t118 = False
                          refine Wl.skip rfl rfl ?_
                          refine Wl.skip rfl rfl ?_
                          refine Wl.skip rfl rfl ?_
                          refine Wl.skip rfl rfl ?_
                          refine Wl.q rfl rfl (OpQ.pickF rfl rfl) ?_
                          refine Wl.q rfl rfl (OpQ.pickF rfl rfl) ?_
                          refine Wl.q rfl rfl (OpQ.index1 B_un49 B_sz4 rfl rfl (by omega) (sd (by omega))) ?_
                          refine Wl.g rfl rfl (OpG.storeRow B_sz4 rfl rfl rfl (.there .here) (by rw [List.length_map, evL_len]; omega)) ?_
                          rintro _ _
                          refine Wl.nil ?_
                          refine PX.block_n ?_
                          refine PX.block_n ?_
                          refine PX.then_n ?_
                          -- region 20: temporal.go:96
                          refine CT.region ?_
                          refine Wl.q rfl rfl (OpQ.add rfl rfl (by omega)) ?_
                          refine Wl.q rfl rfl (OpQ.move rfl) ?_
                          refine Wl.nil ?_
                          exact PX.loop hK0 (k + 1) (by omega) (by first | omega | (dsimp only; omega)) ⟨rfl, rfl, rfl, rfl, rfl, rfl, trivial⟩ (.drop (.keep (row_eq (ev_set (by simp [-List.getD_eq_getElem?_getD, evV, *]))) .nil))
                      · -- t111 = False
                        refine Wl.skip rfl rfl ?_
                        refine Wl.skip rfl rfl ?_
                        refine Wl.skip rfl rfl ?_
                        refine Wl.skip rfl rfl ?_
                        refine Wl.skip rfl rfl ?_
                        refine Wl.q rfl rfl (OpQ.pickF rfl rfl) ?_
                        refine Wl.q rfl rfl (OpQ.move rfl) ?_
                        refine Wl.skip rfl rfl ?_
                        refine Wl.skip rfl rfl ?_
                        refine Wl.skip rfl rfl ?_
                        refine Wl.skip rfl rfl ?_
                        refine Wl.q rfl rfl (OpQ.pickF rfl rfl) ?_
                        refine Wl.q rfl rfl (OpQ.pickF rfl rfl) ?_
                        refine Wl.q rfl rfl (OpQ.index1 B_un49 B_sz4 rfl rfl (by omega) (sd (by omega))) ?_
                        refine Wl.g rfl rfl (OpG.storeRow B_sz4 rfl rfl rfl (.there .here) (by rw [List.length_map, evL_len]; omega)) ?_
                        rintro _ _
                        refine Wl.nil ?_
                        refine PX.block_n ?_
                        refine PX.block_n ?_
                        refine PX.then_n ?_
                        -- region 20: temporal.go:96
                        refine CT.region ?_
                        refine Wl.q rfl rfl (OpQ.add rfl rfl (by omega)) ?_
                        refine Wl.q rfl rfl (OpQ.move rfl) ?_
                        refine Wl.nil ?_
                        exact PX.loop hK0 (k + 1) (by omega) (by first | omega | (dsimp only; omega)) ⟨rfl, rfl, rfl, rfl, rfl, rfl, trivial⟩ (.drop (.keep (row_eq (ev_set (by simp [-List.getD_eq_getElem?_getD, evV, *]))) .nil))
                  · -- if t99: else
                    have h99 := of_decide_eq_false h99
                    exact absurd (ok_op hokk) (by omega)
  · -- if t13: else
    have h13 := of_decide_eq_false h13
    refine CT.exit ?_
    refine PX.then_x ?_
    refine PX.then_x ?_
    refine PX.block_x ?_
    refine PX.end0 rfl (fun w' hH => ?_)
    obtain rfl : k = xs.length := by omega
    exact ⟨rfl, hH.wroteEnd .here⟩

end Go.Proofs.Ytlmbcdjmdgbmjaa
