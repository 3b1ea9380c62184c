/-
  What functions of the program compute, each by its walk. Conditions: those that each theorem names.
-/
import Derived.Test.YtlmbcdjmdgbmjaaMod
import Derived.Test.YtlmbcdjmdgbmjaaXQ1
set_option linter.unusedSimpArgs false
namespace Go.Proofs.Ytlmbcdjmdgbmjaa
open Go Go.Eng Go.Tl

theorem B_un22 : Try.prog.underlying 22 = some (.slice 31) := by kernel_rfl
theorem B_un49 : Try.prog.underlying 49 = some (.slice 4) := by kernel_rfl
theorem B_in4 : (Try.prog.info? 4).map (fun i => (i.zero, i.size, i.bytes)) = some (some (.bool false), 1, 1) := by kernel_rfl
theorem B_sz31 : sizeB Try.prog 31 = some 4 := by kernel_rfl
theorem B_ag31 : isAggB Try.prog 31 = some true := by kernel_rfl
theorem B_in31 : (Try.prog.info? 31).map (fun i => (i.zero, i.size, i.bytes)) = some (some (.agg #[.int .i64 0, .int .i64 0, .int .i64 0, .int .i64 0]), 4, 32) := by kernel_rfl
theorem B_fa31_0 : fieldB Try.prog 31 0 = some 0 := by kernel_rfl
theorem B_sc3 : scalarB Try.prog 3 = some true := by kernel_rfl
theorem B_sz4 : sizeB Try.prog 4 = some 1 := by kernel_rfl
theorem B_fa31_1 : fieldB Try.prog 31 1 = some 1 := by kernel_rfl
theorem B_fa31_2 : fieldB Try.prog 31 2 = some 2 := by kernel_rfl
theorem B_sc4 : scalarB Try.prog 4 = some true := by kernel_rfl
theorem B_fa31_3 : fieldB Try.prog 31 3 = some 3 := by kernel_rfl
set_option maxRecDepth 100000 in
/-- semigroup/semigroupref39.Before -/
theorem before_spec (w : World) (a : Option Addr) (cp : Nat) (xs : List Tm) (hr : Rd w a (xs.flatMap tv)) (hn : xs.length ≤ 200000) (letter : Int) (an : Option Addr) (cn : Nat) (bf : List Bool) (hrb : Rd w an (bf.map bo)) (hbf : letter ≠ -1 → bf.length = xs.length) (hok : okL xs 6 = true) : Calls Try.prog 43 #[.slice a xs.length cp, .int .i64 (letter), .slice an bf.length cn] w (fun e w' => New 4 1 w w' e xs.length ((evL xs letter bf (List.replicate xs.length false) xs.length).map bo)) := by
 have sm : 0 < xs.length → a.isSome = true := fun h => hr.isSome (j := 0) (by rw [flat_len tv_len]; omega)
 refine enter (args := [.slice a xs.length cp, .int .i64 (letter), .slice an bf.length cn]) [] 131 Try.func43 rfl rfl rfl ?_
 refine CT.seq ?_
 refine CT.region ?_
 refine Wl.q rfl rfl (OpQ.assign rfl) ?_
 refine Wl.nil ?_
 refine PX.then_n ?_
 refine CT.seq ?_
 refine CT.region ?_
 refine Wl.q rfl rfl (OpQ.move rfl) ?_
 refine Wl.q rfl rfl (OpQ.len B_un22 rfl) ?_
 refine Wl.g rfl rfl (OpG.make1 B_un49 B_in4 rfl rfl rfl rfl (by omega) (by omega)) ?_
 rintro b12 _
 refine Wl.q rfl rfl (OpQ.assign rfl) ?_
 refine Wl.nil ?_
 refine PX.then_n ?_
 refine CT.seq ?_
 refine CT.seq ?_
 refine CT.region ?_
 refine Wl.q rfl rfl (OpQ.move rfl) ?_
 refine Wl.q rfl rfl (OpQ.len B_un22 rfl) ?_
 refine Wl.q rfl rfl (OpQ.move rfl) ?_
 refine Wl.nil ?_
 refine PX.then_n ?_
 refine CT.block ?_
 refine CT.loop (ι := Nat) (fun k => k ≤ xs.length) (fun k => [(0, .slice a xs.length cp), (1, .int .i64 (letter)), (2, .slice an bf.length cn), (7, .slice (some ⟨b12, 0, none⟩) xs.length xs.length), (13, .slice a xs.length cp), (14, .int .i64 (xs.length : Int)), (15, .int .i64 (k : Int))]) (fun k => [.row 4 1 (.slice (some ⟨b12, 0, none⟩) xs.length xs.length) xs.length ((evL xs letter bf (List.replicate xs.length false) k).map bo)]) (fun k => xs.length - k) 0 (by omega) ⟨rfl, rfl, rfl, rfl, rfl, rfl, rfl, trivial⟩ (.keep (row_eq (by simp [evL])) .nil) (fun k hk K0 hK0 => ?_)
 refine CT.seq ?_
 refine CT.region ?_
 refine Wl.q rfl rfl (OpQ.lss rfl rfl) ?_
 refine Wl.nil ?_
 refine PX.then_n ?_
 refine CT.seq ?_
 refine CT.cond rfl (fun h16 => ?_) (fun h16 => ?_)
 ·
  have h16 := of_decide_eq_true h16
  have hokk := okL_get hok (j := k) (by omega)
  have hL := evL_len xs letter bf (List.replicate xs.length false) k
  refine CT.skip ?_
  refine PX.then_n ?_
  refine CT.seq ?_
  refine CT.block ?_
  refine CT.seq ?_
  refine CT.region ?_
  refine Wl.q rfl rfl (OpQ.move rfl) ?_
  refine Wl.q rfl rfl (OpQ.index B_un22 B_sz31 rfl rfl (by omega) (sm (by omega))) ?_
  refine Wl.q rfl rfl (OpQ.loadAggG (cs := tv (xs.getD k t0)) B_ag31 B_sz31 rfl (fun w hH => hH.rd0 hr rfl) (flat_cells tv_len xs t0 (by omega))) ?_
  refine Wl.g rfl rfl (OpG.alloc (zs := [.int .i64 0, .int .i64 0, .int .i64 0, .int .i64 0]) B_in31 rfl rfl) ?_
  rintro b9 _
  refine Wl.q rfl rfl (OpQ.assign rfl) ?_
  refine Wl.g rfl rfl (OpG.storeV (b := b9) B_sz31 rfl rfl rfl rfl (by repeat (first | exact Upd.here | apply Upd.there))) ?_
  rintro _ _
  refine Wl.nil ?_
  refine PX.then_n ?_
  refine CT.seq ?_
  refine CT.region ?_
  refine Wl.q rfl rfl (OpQ.fieldAddr B_fa31_0 rfl) ?_
  refine Wl.q rfl rfl (OpQ.loadF (b := b9) B_sc3 rfl (by repeat (first | exact Has.here | apply Has.there)) (by rfl)) ?_
  refine Wl.nil ?_
  refine PX.then_n ?_
  refine CT.block ?_
  refine CT.seq ?_
  refine CT.region ?_
  refine Wl.q rfl rfl (OpQ.eql rfl rfl) ?_
  refine Wl.q rfl rfl (OpQ.assign rfl) ?_
  refine Wl.nil ?_
  refine PX.then_n ?_
  refine CT.cond rfl (fun h22 => ?_) (fun h22 => ?_)
  ·
   have h22 := of_decide_eq_true h22
   refine CT.region ?_
   refine Wl.q rfl rfl (OpQ.move rfl) ?_
   refine Wl.q rfl rfl (OpQ.move rfl) ?_
   refine Wl.q rfl rfl (OpQ.index1 B_un49 B_sz4 rfl rfl (by omega) rfl) ?_
   refine Wl.g rfl rfl (OpG.storeRow B_sz4 rfl rfl rfl (.there .here) (by rw [List.length_map, evL_len]; rw [List.length_replicate]; omega)) ?_
   rintro _ _
   refine Wl.nil ?_
   refine PX.block_n ?_
   refine PX.block_n ?_
   refine PX.then_n ?_
   refine CT.region ?_
   refine Wl.q rfl rfl (OpQ.add rfl rfl (by omega)) ?_
   refine Wl.q rfl rfl (OpQ.move rfl) ?_
   refine Wl.nil ?_
   exact PX.loop hK0 (k + 1) (by omega) (by first | omega | (dsimp only; omega)) ⟨rfl, rfl, rfl, rfl, rfl, rfl, rfl, trivial⟩ (.drop (.keep (row_eq (ev_set (by simp [-List.getD_eq_getElem?_getD, evV, *]))) .nil))
  ·
   have h22 := of_decide_eq_false h22
   refine CT.seq ?_
   refine CT.region ?_
   refine Wl.q rfl rfl (OpQ.eql rfl rfl) ?_
   refine Wl.q rfl rfl (OpQ.assign rfl) ?_
   refine Wl.nil ?_
   refine PX.then_n ?_
   refine CT.cond rfl (fun h27 => ?_) (fun h27 => ?_)
   ·
    have h27 := of_decide_eq_true h27
    refine CT.region ?_
    refine Wl.q rfl rfl (OpQ.move rfl) ?_
    refine Wl.q rfl rfl (OpQ.move rfl) ?_
    refine Wl.q rfl rfl (OpQ.move rfl) ?_
    refine Wl.q rfl rfl (OpQ.fieldAddr B_fa31_1 rfl) ?_
    refine Wl.q rfl rfl (OpQ.loadF (b := b9) B_sc3 rfl (by repeat (first | exact Has.here | apply Has.there)) (by rfl)) ?_
    refine Wl.q rfl rfl (OpQ.eql rfl rfl) ?_
    refine Wl.q rfl rfl (OpQ.index1 B_un49 B_sz4 rfl rfl (by omega) rfl) ?_
    refine Wl.g rfl rfl (OpG.storeRow B_sz4 rfl rfl rfl (.there .here) (by rw [List.length_map, evL_len]; rw [List.length_replicate]; omega)) ?_
    rintro _ _
    refine Wl.nil ?_
    refine PX.block_n ?_
    refine PX.block_n ?_
    refine PX.then_n ?_
    refine CT.region ?_
    refine Wl.q rfl rfl (OpQ.add rfl rfl (by omega)) ?_
    refine Wl.q rfl rfl (OpQ.move rfl) ?_
    refine Wl.nil ?_
    exact PX.loop hK0 (k + 1) (by omega) (by first | omega | (dsimp only; omega)) ⟨rfl, rfl, rfl, rfl, rfl, rfl, rfl, trivial⟩ (.drop (.keep (row_eq (ev_set (by simp [-List.getD_eq_getElem?_getD, evV, *]))) .nil))
   ·
    have h27 := of_decide_eq_false h27
    refine CT.seq ?_
    refine CT.region ?_
    refine Wl.q rfl rfl (OpQ.eql rfl rfl) ?_
    refine Wl.q rfl rfl (OpQ.assign rfl) ?_
    refine Wl.nil ?_
    refine PX.then_n ?_
    refine CT.cond rfl (fun h36 => ?_) (fun h36 => ?_)
    ·
     have h36 := of_decide_eq_true h36
     refine CT.region ?_
     refine Wl.q rfl rfl (OpQ.move rfl) ?_
     refine Wl.q rfl rfl (OpQ.move rfl) ?_
     refine Wl.q rfl rfl (OpQ.move rfl) ?_
     refine Wl.q rfl rfl (OpQ.eql rfl rfl) ?_
     refine Wl.q rfl rfl (OpQ.index1 B_un49 B_sz4 rfl rfl (by omega) rfl) ?_
     refine Wl.g rfl rfl (OpG.storeRow B_sz4 rfl rfl rfl (.there .here) (by rw [List.length_map, evL_len]; rw [List.length_replicate]; omega)) ?_
     rintro _ _
     refine Wl.nil ?_
     refine PX.block_n ?_
     refine PX.block_n ?_
     refine PX.then_n ?_
     refine CT.region ?_
     refine Wl.q rfl rfl (OpQ.add rfl rfl (by omega)) ?_
     refine Wl.q rfl rfl (OpQ.move rfl) ?_
     refine Wl.nil ?_
     exact PX.loop hK0 (k + 1) (by omega) (by first | omega | (dsimp only; omega)) ⟨rfl, rfl, rfl, rfl, rfl, rfl, rfl, trivial⟩ (.drop (.keep (row_eq (ev_set (by simp [-List.getD_eq_getElem?_getD, evV, *]))) .nil))
    ·
     have h36 := of_decide_eq_false h36
     refine CT.seq ?_
     refine CT.region ?_
     refine Wl.q rfl rfl (OpQ.eql rfl rfl) ?_
     refine Wl.q rfl rfl (OpQ.assign rfl) ?_
     refine Wl.nil ?_
     refine PX.then_n ?_
     refine CT.cond rfl (fun h43 => ?_) (fun h43 => ?_)
     ·
      have h43 := of_decide_eq_true h43
      have ha := ok_a hokk (by omega)
      refine CT.region ?_
      refine Wl.q rfl rfl (OpQ.move rfl) ?_
      refine Wl.q rfl rfl (OpQ.move rfl) ?_
      refine Wl.q rfl rfl (OpQ.move rfl) ?_
      refine Wl.q rfl rfl (OpQ.fieldAddr B_fa31_2 rfl) ?_
      refine Wl.q rfl rfl (OpQ.loadF (b := b9) B_sc3 rfl (by repeat (first | exact Has.here | apply Has.there)) (by rfl)) ?_
      refine Wl.q rfl rfl (OpQ.index1 B_un49 B_sz4 rfl rfl ⟨ha.1, by have := ha.2; omega⟩ rfl) ?_
      refine Wl.q rfl rfl (OpQ.loadRow B_sc4 rfl (.there .here) (gt_get ⟨ha.1, by rw [evL_len]; have := ha.2; rw [List.length_replicate]; omega⟩)) ?_
      refine Wl.q rfl rfl (OpQ.not rfl) ?_
      refine Wl.q rfl rfl (OpQ.index1 B_un49 B_sz4 rfl rfl (by omega) rfl) ?_
      refine Wl.g rfl rfl (OpG.storeRow B_sz4 rfl rfl rfl (.there .here) (by rw [List.length_map, evL_len]; rw [List.length_replicate]; omega)) ?_
      rintro _ _
      refine Wl.nil ?_
      refine PX.block_n ?_
      refine PX.block_n ?_
      refine PX.then_n ?_
      refine CT.region ?_
      refine Wl.q rfl rfl (OpQ.add rfl rfl (by omega)) ?_
      refine Wl.q rfl rfl (OpQ.move rfl) ?_
      refine Wl.nil ?_
      exact PX.loop hK0 (k + 1) (by omega) (by first | omega | (dsimp only; omega)) ⟨rfl, rfl, rfl, rfl, rfl, rfl, rfl, trivial⟩ (.drop (.keep (row_eq (ev_set (by simp [-List.getD_eq_getElem?_getD, evV, *]))) .nil))
     ·
      have h43 := of_decide_eq_false h43
      refine CT.seq ?_
      refine CT.region ?_
      refine Wl.q rfl rfl (OpQ.eql rfl rfl) ?_
      refine Wl.q rfl rfl (OpQ.assign rfl) ?_
      refine Wl.nil ?_
      refine PX.then_n ?_
      refine CT.cond rfl (fun h54 => ?_) (fun h54 => ?_)
      ·
       have h54 := of_decide_eq_true h54
       have ha := ok_a hokk (by omega)
       have hb := ok_b hokk (by omega)
       refine CT.region ?_
       refine Wl.q rfl rfl (OpQ.move rfl) ?_
       refine Wl.q rfl rfl (OpQ.move rfl) ?_
       refine Wl.q rfl rfl (OpQ.move rfl) ?_
       refine Wl.q rfl rfl (OpQ.fieldAddr B_fa31_2 rfl) ?_
       refine Wl.q rfl rfl (OpQ.loadF (b := b9) B_sc3 rfl (by repeat (first | exact Has.here | apply Has.there)) (by rfl)) ?_
       refine Wl.q rfl rfl (OpQ.index1 B_un49 B_sz4 rfl rfl ⟨ha.1, by have := ha.2; omega⟩ rfl) ?_
       refine Wl.q rfl rfl (OpQ.loadRow B_sc4 rfl (.there .here) (gt_get ⟨ha.1, by rw [evL_len]; have := ha.2; rw [List.length_replicate]; omega⟩)) ?_
       refine Wl.q rfl rfl (OpQ.move rfl) ?_
       refine Wl.split 63 rfl (fun hg63 => ?_) (fun hg63 => ?_)
       ·
        refine Wl.q rfl rfl (OpQ.move rfl) ?_
        refine Wl.q rfl rfl (OpQ.fieldAddr B_fa31_3 rfl) ?_
        refine Wl.q rfl rfl (OpQ.loadF (b := b9) B_sc3 rfl (by repeat (first | exact Has.here | apply Has.there)) (by rfl)) ?_
        refine Wl.q rfl rfl (OpQ.index1 B_un49 B_sz4 rfl rfl ⟨hb.1, by have := hb.2; omega⟩ rfl) ?_
        refine Wl.q rfl rfl (OpQ.loadRow B_sc4 rfl (.there .here) (gt_get ⟨hb.1, by rw [evL_len]; have := hb.2; rw [List.length_replicate]; omega⟩)) ?_
        refine Wl.q rfl rfl (OpQ.pickT rfl rfl) ?_
        refine Wl.q rfl rfl (OpQ.index1 B_un49 B_sz4 rfl rfl (by omega) rfl) ?_
        refine Wl.g rfl rfl (OpG.storeRow B_sz4 rfl rfl rfl (.there .here) (by rw [List.length_map, evL_len]; rw [List.length_replicate]; omega)) ?_
        rintro _ _
        refine Wl.nil ?_
        refine PX.block_n ?_
        refine PX.block_n ?_
        refine PX.then_n ?_
        refine CT.region ?_
        refine Wl.q rfl rfl (OpQ.add rfl rfl (by omega)) ?_
        refine Wl.q rfl rfl (OpQ.move rfl) ?_
        refine Wl.nil ?_
        exact PX.loop hK0 (k + 1) (by omega) (by first | omega | (dsimp only; omega)) ⟨rfl, rfl, rfl, rfl, rfl, rfl, rfl, trivial⟩ (.drop (.keep (row_eq (ev_set (by simp [-List.getD_eq_getElem?_getD, evV, *]))) .nil))
       ·
        refine Wl.skip rfl rfl ?_
        refine Wl.skip rfl rfl ?_
        refine Wl.skip rfl rfl ?_
        refine Wl.skip rfl rfl ?_
        refine Wl.skip rfl rfl ?_
        refine Wl.q rfl rfl (OpQ.pickF rfl rfl) ?_
        refine Wl.q rfl rfl (OpQ.index1 B_un49 B_sz4 rfl rfl (by omega) rfl) ?_
        refine Wl.g rfl rfl (OpG.storeRow B_sz4 rfl rfl rfl (.there .here) (by rw [List.length_map, evL_len]; rw [List.length_replicate]; omega)) ?_
        rintro _ _
        refine Wl.nil ?_
        refine PX.block_n ?_
        refine PX.block_n ?_
        refine PX.then_n ?_
        refine CT.region ?_
        refine Wl.q rfl rfl (OpQ.add rfl rfl (by omega)) ?_
        refine Wl.q rfl rfl (OpQ.move rfl) ?_
        refine Wl.nil ?_
        exact PX.loop hK0 (k + 1) (by omega) (by first | omega | (dsimp only; omega)) ⟨rfl, rfl, rfl, rfl, rfl, rfl, rfl, trivial⟩ (.drop (.keep (row_eq (ev_set (by simp [-List.getD_eq_getElem?_getD, evV, *]))) .nil))
      ·
       have h54 := of_decide_eq_false h54
       refine CT.seq ?_
       refine CT.region ?_
       refine Wl.q rfl rfl (OpQ.eql rfl rfl) ?_
       refine Wl.q rfl rfl (OpQ.assign rfl) ?_
       refine Wl.nil ?_
       refine PX.then_n ?_
       refine CT.cond rfl (fun h71 => ?_) (fun h71 => ?_)
       ·
        have h71 := of_decide_eq_true h71
        have ha := ok_a hokk (by omega)
        have hb := ok_b hokk (by omega)
        refine CT.region ?_
        refine Wl.q rfl rfl (OpQ.move rfl) ?_
        refine Wl.q rfl rfl (OpQ.move rfl) ?_
        refine Wl.q rfl rfl (OpQ.move rfl) ?_
        refine Wl.q rfl rfl (OpQ.fieldAddr B_fa31_2 rfl) ?_
        refine Wl.q rfl rfl (OpQ.loadF (b := b9) B_sc3 rfl (by repeat (first | exact Has.here | apply Has.there)) (by rfl)) ?_
        refine Wl.q rfl rfl (OpQ.index1 B_un49 B_sz4 rfl rfl ⟨ha.1, by have := ha.2; omega⟩ rfl) ?_
        refine Wl.q rfl rfl (OpQ.loadRow B_sc4 rfl (.there .here) (gt_get ⟨ha.1, by rw [evL_len]; have := ha.2; rw [List.length_replicate]; omega⟩)) ?_
        refine Wl.q rfl rfl (OpQ.move rfl) ?_
        refine Wl.split 80 rfl (fun hg80 => ?_) (fun hg80 => ?_)
        ·
         refine Wl.skip rfl rfl ?_
         refine Wl.skip rfl rfl ?_
         refine Wl.skip rfl rfl ?_
         refine Wl.skip rfl rfl ?_
         refine Wl.skip rfl rfl ?_
         refine Wl.q rfl rfl (OpQ.pickT rfl rfl) ?_
         refine Wl.q rfl rfl (OpQ.index1 B_un49 B_sz4 rfl rfl (by omega) rfl) ?_
         refine Wl.g rfl rfl (OpG.storeRow B_sz4 rfl rfl rfl (.there .here) (by rw [List.length_map, evL_len]; rw [List.length_replicate]; omega)) ?_
         rintro _ _
         refine Wl.nil ?_
         refine PX.block_n ?_
         refine PX.block_n ?_
         refine PX.then_n ?_
         refine CT.region ?_
         refine Wl.q rfl rfl (OpQ.add rfl rfl (by omega)) ?_
         refine Wl.q rfl rfl (OpQ.move rfl) ?_
         refine Wl.nil ?_
         exact PX.loop hK0 (k + 1) (by omega) (by first | omega | (dsimp only; omega)) ⟨rfl, rfl, rfl, rfl, rfl, rfl, rfl, trivial⟩ (.drop (.keep (row_eq (ev_set (by simp [-List.getD_eq_getElem?_getD, evV, *]))) .nil))
        ·
         refine Wl.q rfl rfl (OpQ.move rfl) ?_
         refine Wl.q rfl rfl (OpQ.fieldAddr B_fa31_3 rfl) ?_
         refine Wl.q rfl rfl (OpQ.loadF (b := b9) B_sc3 rfl (by repeat (first | exact Has.here | apply Has.there)) (by rfl)) ?_
         refine Wl.q rfl rfl (OpQ.index1 B_un49 B_sz4 rfl rfl ⟨hb.1, by have := hb.2; omega⟩ rfl) ?_
         refine Wl.q rfl rfl (OpQ.loadRow B_sc4 rfl (.there .here) (gt_get ⟨hb.1, by rw [evL_len]; have := hb.2; rw [List.length_replicate]; omega⟩)) ?_
         refine Wl.q rfl rfl (OpQ.pickF rfl rfl) ?_
         refine Wl.q rfl rfl (OpQ.index1 B_un49 B_sz4 rfl rfl (by omega) rfl) ?_
         refine Wl.g rfl rfl (OpG.storeRow B_sz4 rfl rfl rfl (.there .here) (by rw [List.length_map, evL_len]; rw [List.length_replicate]; omega)) ?_
         rintro _ _
         refine Wl.nil ?_
         refine PX.block_n ?_
         refine PX.block_n ?_
         refine PX.then_n ?_
         refine CT.region ?_
         refine Wl.q rfl rfl (OpQ.add rfl rfl (by omega)) ?_
         refine Wl.q rfl rfl (OpQ.move rfl) ?_
         refine Wl.nil ?_
         exact PX.loop hK0 (k + 1) (by omega) (by first | omega | (dsimp only; omega)) ⟨rfl, rfl, rfl, rfl, rfl, rfl, rfl, trivial⟩ (.drop (.keep (row_eq (ev_set (by simp [-List.getD_eq_getElem?_getD, evV, *]))) .nil))
       ·
        have h71 := of_decide_eq_false h71
        refine CT.seq ?_
        refine CT.region ?_
        refine Wl.q rfl rfl (OpQ.eql rfl rfl) ?_
        refine Wl.q rfl rfl (OpQ.assign rfl) ?_
        refine Wl.nil ?_
        refine PX.then_n ?_
        refine CT.cond rfl (fun h88 => ?_) (fun h88 => ?_)
        ·
         have h88 := of_decide_eq_true h88
         have ha := ok_a hokk (by omega)
         refine CT.region ?_
         refine Wl.q rfl rfl (OpQ.move rfl) ?_
         refine Wl.q rfl rfl (OpQ.move rfl) ?_
         refine Wl.q rfl rfl (OpQ.move rfl) ?_
         refine Wl.q rfl rfl (OpQ.neq rfl rfl) ?_
         refine Wl.q rfl rfl (OpQ.move rfl) ?_
         refine Wl.split 94 rfl (fun hg94 => ?_) (fun hg94 => ?_)
         ·
          have hbl := hbf (by simpa using hg94)
          refine Wl.q rfl rfl (OpQ.move rfl) ?_
          refine Wl.q rfl rfl (OpQ.fieldAddr B_fa31_2 rfl) ?_
          refine Wl.q rfl rfl (OpQ.loadF (b := b9) B_sc3 rfl (by repeat (first | exact Has.here | apply Has.there)) (by rfl)) ?_
          refine Wl.q rfl rfl (OpQ.index1 B_un49 B_sz4 rfl rfl ⟨ha.1, by have := ha.2; omega⟩ (hrb.isSome (j := 0) (by rw [List.length_map]; omega))) ?_
          refine Wl.q rfl rfl (OpQ.loadG B_sc4 rfl (fun w hH => hH.rd0 hrb rfl) (gt_get ⟨ha.1, by have := ha.2; omega⟩)) ?_
          refine Wl.q rfl rfl (OpQ.pickT rfl rfl) ?_
          refine Wl.q rfl rfl (OpQ.index1 B_un49 B_sz4 rfl rfl (by omega) rfl) ?_
          refine Wl.g rfl rfl (OpG.storeRow B_sz4 rfl rfl rfl (.there .here) (by rw [List.length_map, evL_len]; rw [List.length_replicate]; omega)) ?_
          rintro _ _
          refine Wl.nil ?_
          refine PX.block_n ?_
          refine PX.block_n ?_
          refine PX.then_n ?_
          refine CT.region ?_
          refine Wl.q rfl rfl (OpQ.add rfl rfl (by omega)) ?_
          refine Wl.q rfl rfl (OpQ.move rfl) ?_
          refine Wl.nil ?_
          exact PX.loop hK0 (k + 1) (by omega) (by first | omega | (dsimp only; omega)) ⟨rfl, rfl, rfl, rfl, rfl, rfl, rfl, trivial⟩ (.drop (.keep (row_eq (ev_set (by simp [-List.getD_eq_getElem?_getD, evV, *]))) .nil))
         ·
          refine Wl.skip rfl rfl ?_
          refine Wl.skip rfl rfl ?_
          refine Wl.skip rfl rfl ?_
          refine Wl.skip rfl rfl ?_
          refine Wl.skip rfl rfl ?_
          refine Wl.q rfl rfl (OpQ.pickF rfl rfl) ?_
          refine Wl.q rfl rfl (OpQ.index1 B_un49 B_sz4 rfl rfl (by omega) rfl) ?_
          refine Wl.g rfl rfl (OpG.storeRow B_sz4 rfl rfl rfl (.there .here) (by rw [List.length_map, evL_len]; rw [List.length_replicate]; omega)) ?_
          rintro _ _
          refine Wl.nil ?_
          refine PX.block_n ?_
          refine PX.block_n ?_
          refine PX.then_n ?_
          refine CT.region ?_
          refine Wl.q rfl rfl (OpQ.add rfl rfl (by omega)) ?_
          refine Wl.q rfl rfl (OpQ.move rfl) ?_
          refine Wl.nil ?_
          exact PX.loop hK0 (k + 1) (by omega) (by first | omega | (dsimp only; omega)) ⟨rfl, rfl, rfl, rfl, rfl, rfl, rfl, trivial⟩ (.drop (.keep (row_eq (ev_set (by simp [-List.getD_eq_getElem?_getD, evV, *]))) .nil))
        ·
         have h88 := of_decide_eq_false h88
         refine CT.seq ?_
         refine CT.region ?_
         refine Wl.q rfl rfl (OpQ.eql rfl rfl) ?_
         refine Wl.q rfl rfl (OpQ.assign rfl) ?_
         refine Wl.nil ?_
         refine PX.then_n ?_
         refine CT.cond rfl (fun h102 => ?_) (fun h102 => ?_)
         ·
          have h102 := of_decide_eq_true h102
          have ha := ok_a hokk (by omega)
          have hb := ok_b hokk (by omega)
          refine CT.region ?_
          refine Wl.q rfl rfl (OpQ.move rfl) ?_
          refine Wl.q rfl rfl (OpQ.move rfl) ?_
          refine Wl.q rfl rfl (OpQ.move rfl) ?_
          refine Wl.q rfl rfl (OpQ.fieldAddr B_fa31_3 rfl) ?_
          refine Wl.q rfl rfl (OpQ.loadF (b := b9) B_sc3 rfl (by repeat (first | exact Has.here | apply Has.there)) (by rfl)) ?_
          refine Wl.q rfl rfl (OpQ.index1 B_un49 B_sz4 rfl rfl ⟨hb.1, by have := hb.2; omega⟩ rfl) ?_
          refine Wl.q rfl rfl (OpQ.loadRow B_sc4 rfl (.there .here) (gt_get ⟨hb.1, by rw [evL_len]; have := hb.2; rw [List.length_replicate]; omega⟩)) ?_
          refine Wl.q rfl rfl (OpQ.move rfl) ?_
          refine Wl.split 111 rfl (fun hg111 => ?_) (fun hg111 => ?_)
          ·
           refine Wl.skip rfl rfl ?_
           refine Wl.skip rfl rfl ?_
           refine Wl.skip rfl rfl ?_
           refine Wl.skip rfl rfl ?_
           refine Wl.skip rfl rfl ?_
           refine Wl.skip rfl rfl ?_
           refine Wl.skip rfl rfl ?_
           refine Wl.skip rfl rfl ?_
           refine Wl.skip rfl rfl ?_
           refine Wl.skip rfl rfl ?_
           refine Wl.skip rfl rfl ?_
           refine Wl.skip rfl rfl ?_
           refine Wl.skip rfl rfl ?_
           refine Wl.skip rfl rfl ?_
           refine Wl.skip rfl rfl ?_
           refine Wl.q rfl rfl (OpQ.pickT rfl rfl) ?_
           refine Wl.q rfl rfl (OpQ.index1 B_un49 B_sz4 rfl rfl (by omega) rfl) ?_
           refine Wl.g rfl rfl (OpG.storeRow B_sz4 rfl rfl rfl (.there .here) (by rw [List.length_map, evL_len]; rw [List.length_replicate]; omega)) ?_
           rintro _ _
           refine Wl.nil ?_
           refine PX.block_n ?_
           refine PX.block_n ?_
           refine PX.then_n ?_
           refine CT.region ?_
           refine Wl.q rfl rfl (OpQ.add rfl rfl (by omega)) ?_
           refine Wl.q rfl rfl (OpQ.move rfl) ?_
           refine Wl.nil ?_
           exact PX.loop hK0 (k + 1) (by omega) (by first | omega | (dsimp only; omega)) ⟨rfl, rfl, rfl, rfl, rfl, rfl, rfl, trivial⟩ (.drop (.keep (row_eq (ev_set (by simp [-List.getD_eq_getElem?_getD, evV, *]))) .nil))
          ·
           refine Wl.q rfl rfl (OpQ.move rfl) ?_
           refine Wl.q rfl rfl (OpQ.neq rfl rfl) ?_
           refine Wl.q rfl rfl (OpQ.move rfl) ?_
           refine Wl.split 114 rfl (fun hg114 => ?_) (fun hg114 => ?_)
           ·
            have hbl := hbf (by simpa using hg114)
            refine Wl.q rfl rfl (OpQ.move rfl) ?_
            refine Wl.q rfl rfl (OpQ.fieldAddr B_fa31_2 rfl) ?_
            refine Wl.q rfl rfl (OpQ.loadF (b := b9) B_sc3 rfl (by repeat (first | exact Has.here | apply Has.there)) (by rfl)) ?_
            refine Wl.q rfl rfl (OpQ.index1 B_un49 B_sz4 rfl rfl ⟨ha.1, by have := ha.2; omega⟩ rfl) ?_
            refine Wl.q rfl rfl (OpQ.loadRow B_sc4 rfl (.there .here) (gt_get ⟨ha.1, by rw [evL_len]; have := ha.2; rw [List.length_replicate]; omega⟩)) ?_
            refine Wl.q rfl rfl (OpQ.pickT rfl rfl) ?_
            refine Wl.q rfl rfl (OpQ.move rfl) ?_
            refine Wl.split 121 rfl (fun hg121 => ?_) (fun hg121 => ?_)
            ·
             refine Wl.q rfl rfl (OpQ.move rfl) ?_
             refine Wl.q rfl rfl (OpQ.move rfl) ?_
             refine Wl.q rfl rfl (OpQ.index1 B_un49 B_sz4 rfl rfl (by omega) (hrb.isSome (j := 0) (by rw [List.length_map]; omega))) ?_
             refine Wl.q rfl rfl (OpQ.loadG B_sc4 rfl (fun w hH => hH.rd0 hrb rfl) (getMap bo bf false (j := k) (by omega))) ?_
             refine Wl.q rfl rfl (OpQ.pickT rfl rfl) ?_
             refine Wl.q rfl rfl (OpQ.pickF rfl rfl) ?_
             refine Wl.q rfl rfl (OpQ.index1 B_un49 B_sz4 rfl rfl (by omega) rfl) ?_
             refine Wl.g rfl rfl (OpG.storeRow B_sz4 rfl rfl rfl (.there .here) (by rw [List.length_map, evL_len]; rw [List.length_replicate]; omega)) ?_
             rintro _ _
             refine Wl.nil ?_
             refine PX.block_n ?_
             refine PX.block_n ?_
             refine PX.then_n ?_
             refine CT.region ?_
             refine Wl.q rfl rfl (OpQ.add rfl rfl (by omega)) ?_
             refine Wl.q rfl rfl (OpQ.move rfl) ?_
             refine Wl.nil ?_
             exact PX.loop hK0 (k + 1) (by omega) (by first | omega | (dsimp only; omega)) ⟨rfl, rfl, rfl, rfl, rfl, rfl, rfl, trivial⟩ (.drop (.keep (row_eq (ev_set (by simp [-List.getD_eq_getElem?_getD, evV, *]))) .nil))
            ·
             refine Wl.skip rfl rfl ?_
             refine Wl.skip rfl rfl ?_
             refine Wl.skip rfl rfl ?_
             refine Wl.skip rfl rfl ?_
             refine Wl.q rfl rfl (OpQ.pickF rfl rfl) ?_
             refine Wl.q rfl rfl (OpQ.pickF rfl rfl) ?_
             refine Wl.q rfl rfl (OpQ.index1 B_un49 B_sz4 rfl rfl (by omega) rfl) ?_
             refine Wl.g rfl rfl (OpG.storeRow B_sz4 rfl rfl rfl (.there .here) (by rw [List.length_map, evL_len]; rw [List.length_replicate]; omega)) ?_
             rintro _ _
             refine Wl.nil ?_
             refine PX.block_n ?_
             refine PX.block_n ?_
             refine PX.then_n ?_
             refine CT.region ?_
             refine Wl.q rfl rfl (OpQ.add rfl rfl (by omega)) ?_
             refine Wl.q rfl rfl (OpQ.move rfl) ?_
             refine Wl.nil ?_
             exact PX.loop hK0 (k + 1) (by omega) (by first | omega | (dsimp only; omega)) ⟨rfl, rfl, rfl, rfl, rfl, rfl, rfl, trivial⟩ (.drop (.keep (row_eq (ev_set (by simp [-List.getD_eq_getElem?_getD, evV, *]))) .nil))
           ·
            refine Wl.skip rfl rfl ?_
            refine Wl.skip rfl rfl ?_
            refine Wl.skip rfl rfl ?_
            refine Wl.skip rfl rfl ?_
            refine Wl.skip rfl rfl ?_
            refine Wl.q rfl rfl (OpQ.pickF rfl rfl) ?_
            refine Wl.q rfl rfl (OpQ.move rfl) ?_
            refine Wl.skip rfl rfl ?_
            refine Wl.skip rfl rfl ?_
            refine Wl.skip rfl rfl ?_
            refine Wl.skip rfl rfl ?_
            refine Wl.q rfl rfl (OpQ.pickF rfl rfl) ?_
            refine Wl.q rfl rfl (OpQ.pickF rfl rfl) ?_
            refine Wl.q rfl rfl (OpQ.index1 B_un49 B_sz4 rfl rfl (by omega) rfl) ?_
            refine Wl.g rfl rfl (OpG.storeRow B_sz4 rfl rfl rfl (.there .here) (by rw [List.length_map, evL_len]; rw [List.length_replicate]; omega)) ?_
            rintro _ _
            refine Wl.nil ?_
            refine PX.block_n ?_
            refine PX.block_n ?_
            refine PX.then_n ?_
            refine CT.region ?_
            refine Wl.q rfl rfl (OpQ.add rfl rfl (by omega)) ?_
            refine Wl.q rfl rfl (OpQ.move rfl) ?_
            refine Wl.nil ?_
            exact PX.loop hK0 (k + 1) (by omega) (by first | omega | (dsimp only; omega)) ⟨rfl, rfl, rfl, rfl, rfl, rfl, rfl, trivial⟩ (.drop (.keep (row_eq (ev_set (by simp [-List.getD_eq_getElem?_getD, evV, *]))) .nil))
         ·
          have h102 := of_decide_eq_false h102
          exact absurd (ok_op hokk) (by omega)
 ·
  have h16 := of_decide_eq_false h16
  refine CT.exit ?_
  refine PX.then_x ?_
  refine PX.then_x ?_
  refine PX.block_x ?_
  refine PX.then_n ?_
  refine CT.seq ?_
  refine CT.region ?_
  refine Wl.q rfl rfl (OpQ.move rfl) ?_
  refine Wl.q rfl rfl (OpQ.assign rfl) ?_
  refine Wl.nil ?_
  refine PX.then_n ?_
  refine CT.ret ?_
  refine PX.ret1 rfl rfl (fun w' hH => ?_)
  obtain rfl : k = xs.length := by omega
  exact hH.newRow .here

set_option maxRecDepth 100000 in
/-- semigroup/temporal.evaluate -/
theorem evaluate_spec (w : World) (a : Option Addr) (cp : Nat) (xs : List Tm) (hr : Rd w a (xs.flatMap tv)) (hn : xs.length ≤ 200000) (letter : Int) (an : Option Addr) (nn cn : Nat) (bf : List Bool) (hrb : Rd w an (bf.map bo)) (hnn : letter ≠ -1 → nn = bf.length) (hbf : letter ≠ -1 → bf.length = xs.length) (hok : okL xs 6 = true) (ad : Option Addr) (cd : Nat) (v : List Bool) (hv : v.length = xs.length) (hown : w.ownsRow 0 4 1 (.slice ad xs.length cd) xs.length (v.map bo)) (hs : Sep a (xs.flatMap tv) (.slice ad xs.length cd)) (hsb : Sep an (bf.map bo) (.slice ad xs.length cd)) : Calls Try.prog 33 #[.slice a xs.length cp, .int .i64 (letter), .slice an nn cn, .slice ad xs.length cd] w (fun e w' => e = .returned (.tuple #[]) ∧ Wrote 4 1 (.slice ad xs.length cd) xs.length ((evL xs letter bf v xs.length).map bo) w w') := by
 have sm : 0 < xs.length → a.isSome = true := fun h => hr.isSome (j := 0) (by rw [flat_len tv_len]; omega)
 have sd : 0 < xs.length → ad.isSome = true := fun h => owns_isSome hown (by omega)
 refine enterW (args := [.slice a xs.length cp, .int .i64 (letter), .slice an nn cn, .slice ad xs.length cd]) hown 127 Try.func33 rfl rfl rfl ?_
 refine CT.seq ?_
 refine CT.region ?_
 refine Wl.q rfl rfl (OpQ.move rfl) ?_
 refine Wl.q rfl rfl (OpQ.len B_un22 rfl) ?_
 refine Wl.q rfl rfl (OpQ.move rfl) ?_
 refine Wl.nil ?_
 refine PX.then_n ?_
 refine CT.block ?_
 refine CT.loop (ι := Nat) (fun k => k ≤ xs.length) (fun k => [(1, .int .i64 (letter)), (2, .slice an nn cn), (3, .slice ad xs.length cd), (10, .slice a xs.length cp), (11, .int .i64 (xs.length : Int)), (12, .int .i64 (k : Int))]) (fun k => [.row 4 1 (.slice ad xs.length cd) xs.length ((evL xs letter bf v k).map bo)]) (fun k => xs.length - k) 0 (by omega) ⟨rfl, rfl, rfl, rfl, rfl, rfl, trivial⟩ (HSub.refl _) (fun k hk K0 hK0 => ?_)
 refine CT.seq ?_
 refine CT.region ?_
 refine Wl.q rfl rfl (OpQ.lss rfl rfl) ?_
 refine Wl.nil ?_
 refine PX.then_n ?_
 refine CT.seq ?_
 refine CT.cond rfl (fun h13 => ?_) (fun h13 => ?_)
 ·
  have h13 := of_decide_eq_true h13
  have hokk := okL_get hok (j := k) (by omega)
  have hL := evL_len xs letter bf v k
  refine CT.skip ?_
  refine PX.then_n ?_
  refine CT.seq ?_
  refine CT.block ?_
  refine CT.seq ?_
  refine CT.region ?_
  refine Wl.q rfl rfl (OpQ.move rfl) ?_
  refine Wl.q rfl rfl (OpQ.index B_un22 B_sz31 rfl rfl (by omega) (sm (by omega))) ?_
  refine Wl.q rfl rfl (OpQ.loadAggG (cs := tv (xs.getD k t0)) B_ag31 B_sz31 rfl (fun w hH => hH.rdX hr hs) (flat_cells tv_len xs t0 (by omega))) ?_
  refine Wl.g rfl rfl (OpG.alloc (zs := [.int .i64 0, .int .i64 0, .int .i64 0, .int .i64 0]) B_in31 rfl rfl) ?_
  rintro b9 _
  refine Wl.q rfl rfl (OpQ.assign rfl) ?_
  refine Wl.g rfl rfl (OpG.storeV (b := b9) B_sz31 rfl rfl rfl rfl (by repeat (first | exact Upd.here | apply Upd.there))) ?_
  rintro _ _
  refine Wl.nil ?_
  refine PX.then_n ?_
  refine CT.seq ?_
  refine CT.region ?_
  refine Wl.q rfl rfl (OpQ.fieldAddr B_fa31_0 rfl) ?_
  refine Wl.q rfl rfl (OpQ.loadF (b := b9) B_sc3 rfl (by repeat (first | exact Has.here | apply Has.there)) (by rfl)) ?_
  refine Wl.nil ?_
  refine PX.then_n ?_
  refine CT.block ?_
  refine CT.seq ?_
  refine CT.region ?_
  refine Wl.q rfl rfl (OpQ.eql rfl rfl) ?_
  refine Wl.q rfl rfl (OpQ.assign rfl) ?_
  refine Wl.nil ?_
  refine PX.then_n ?_
  refine CT.cond rfl (fun h19 => ?_) (fun h19 => ?_)
  ·
   have h19 := of_decide_eq_true h19
   refine CT.region ?_
   refine Wl.q rfl rfl (OpQ.move rfl) ?_
   refine Wl.q rfl rfl (OpQ.move rfl) ?_
   refine Wl.q rfl rfl (OpQ.index1 B_un49 B_sz4 rfl rfl (by omega) (sd (by omega))) ?_
   refine Wl.g rfl rfl (OpG.storeRow B_sz4 rfl rfl rfl (.there .here) (by rw [List.length_map, evL_len]; omega)) ?_
   rintro _ _
   refine Wl.nil ?_
   refine PX.block_n ?_
   refine PX.block_n ?_
   refine PX.then_n ?_
   refine CT.region ?_
   refine Wl.q rfl rfl (OpQ.add rfl rfl (by omega)) ?_
   refine Wl.q rfl rfl (OpQ.move rfl) ?_
   refine Wl.nil ?_
   exact PX.loop hK0 (k + 1) (by omega) (by first | omega | (dsimp only; omega)) ⟨rfl, rfl, rfl, rfl, rfl, rfl, trivial⟩ (.drop (.keep (row_eq (ev_set (by simp [-List.getD_eq_getElem?_getD, evV, *]))) .nil))
  ·
   have h19 := of_decide_eq_false h19
   refine CT.seq ?_
   refine CT.region ?_
   refine Wl.q rfl rfl (OpQ.eql rfl rfl) ?_
   refine Wl.q rfl rfl (OpQ.assign rfl) ?_
   refine Wl.nil ?_
   refine PX.then_n ?_
   refine CT.cond rfl (fun h24 => ?_) (fun h24 => ?_)
   ·
    have h24 := of_decide_eq_true h24
    refine CT.region ?_
    refine Wl.q rfl rfl (OpQ.move rfl) ?_
    refine Wl.q rfl rfl (OpQ.move rfl) ?_
    refine Wl.q rfl rfl (OpQ.move rfl) ?_
    refine Wl.q rfl rfl (OpQ.fieldAddr B_fa31_1 rfl) ?_
    refine Wl.q rfl rfl (OpQ.loadF (b := b9) B_sc3 rfl (by repeat (first | exact Has.here | apply Has.there)) (by rfl)) ?_
    refine Wl.q rfl rfl (OpQ.eql rfl rfl) ?_
    refine Wl.q rfl rfl (OpQ.index1 B_un49 B_sz4 rfl rfl (by omega) (sd (by omega))) ?_
    refine Wl.g rfl rfl (OpG.storeRow B_sz4 rfl rfl rfl (.there .here) (by rw [List.length_map, evL_len]; omega)) ?_
    rintro _ _
    refine Wl.nil ?_
    refine PX.block_n ?_
    refine PX.block_n ?_
    refine PX.then_n ?_
    refine CT.region ?_
    refine Wl.q rfl rfl (OpQ.add rfl rfl (by omega)) ?_
    refine Wl.q rfl rfl (OpQ.move rfl) ?_
    refine Wl.nil ?_
    exact PX.loop hK0 (k + 1) (by omega) (by first | omega | (dsimp only; omega)) ⟨rfl, rfl, rfl, rfl, rfl, rfl, trivial⟩ (.drop (.keep (row_eq (ev_set (by simp [-List.getD_eq_getElem?_getD, evV, *]))) .nil))
   ·
    have h24 := of_decide_eq_false h24
    refine CT.seq ?_
    refine CT.region ?_
    refine Wl.q rfl rfl (OpQ.eql rfl rfl) ?_
    refine Wl.q rfl rfl (OpQ.assign rfl) ?_
    refine Wl.nil ?_
    refine PX.then_n ?_
    refine CT.cond rfl (fun h33 => ?_) (fun h33 => ?_)
    ·
     have h33 := of_decide_eq_true h33
     refine CT.region ?_
     refine Wl.q rfl rfl (OpQ.move rfl) ?_
     refine Wl.q rfl rfl (OpQ.move rfl) ?_
     refine Wl.q rfl rfl (OpQ.move rfl) ?_
     refine Wl.q rfl rfl (OpQ.eql rfl rfl) ?_
     refine Wl.q rfl rfl (OpQ.index1 B_un49 B_sz4 rfl rfl (by omega) (sd (by omega))) ?_
     refine Wl.g rfl rfl (OpG.storeRow B_sz4 rfl rfl rfl (.there .here) (by rw [List.length_map, evL_len]; omega)) ?_
     rintro _ _
     refine Wl.nil ?_
     refine PX.block_n ?_
     refine PX.block_n ?_
     refine PX.then_n ?_
     refine CT.region ?_
     refine Wl.q rfl rfl (OpQ.add rfl rfl (by omega)) ?_
     refine Wl.q rfl rfl (OpQ.move rfl) ?_
     refine Wl.nil ?_
     exact PX.loop hK0 (k + 1) (by omega) (by first | omega | (dsimp only; omega)) ⟨rfl, rfl, rfl, rfl, rfl, rfl, trivial⟩ (.drop (.keep (row_eq (ev_set (by simp [-List.getD_eq_getElem?_getD, evV, *]))) .nil))
    ·
     have h33 := of_decide_eq_false h33
     refine CT.seq ?_
     refine CT.region ?_
     refine Wl.q rfl rfl (OpQ.eql rfl rfl) ?_
     refine Wl.q rfl rfl (OpQ.assign rfl) ?_
     refine Wl.nil ?_
     refine PX.then_n ?_
     refine CT.cond rfl (fun h40 => ?_) (fun h40 => ?_)
     ·
      have h40 := of_decide_eq_true h40
      have ha := ok_a hokk (by omega)
      refine CT.region ?_
      refine Wl.q rfl rfl (OpQ.move rfl) ?_
      refine Wl.q rfl rfl (OpQ.move rfl) ?_
      refine Wl.q rfl rfl (OpQ.move rfl) ?_
      refine Wl.q rfl rfl (OpQ.fieldAddr B_fa31_2 rfl) ?_
      refine Wl.q rfl rfl (OpQ.loadF (b := b9) B_sc3 rfl (by repeat (first | exact Has.here | apply Has.there)) (by rfl)) ?_
      refine Wl.q rfl rfl (OpQ.index1 B_un49 B_sz4 rfl rfl ⟨ha.1, by have := ha.2; omega⟩ (sd (by omega))) ?_
      refine Wl.q rfl rfl (OpQ.loadRow B_sc4 rfl (.there .here) (gt_get ⟨ha.1, by rw [evL_len]; have := ha.2; omega⟩)) ?_
      refine Wl.q rfl rfl (OpQ.not rfl) ?_
      refine Wl.q rfl rfl (OpQ.index1 B_un49 B_sz4 rfl rfl (by omega) (sd (by omega))) ?_
      refine Wl.g rfl rfl (OpG.storeRow B_sz4 rfl rfl rfl (.there .here) (by rw [List.length_map, evL_len]; omega)) ?_
      rintro _ _
      refine Wl.nil ?_
      refine PX.block_n ?_
      refine PX.block_n ?_
      refine PX.then_n ?_
      refine CT.region ?_
      refine Wl.q rfl rfl (OpQ.add rfl rfl (by omega)) ?_
      refine Wl.q rfl rfl (OpQ.move rfl) ?_
      refine Wl.nil ?_
      exact PX.loop hK0 (k + 1) (by omega) (by first | omega | (dsimp only; omega)) ⟨rfl, rfl, rfl, rfl, rfl, rfl, trivial⟩ (.drop (.keep (row_eq (ev_set (by simp [-List.getD_eq_getElem?_getD, evV, *]))) .nil))
     ·
      have h40 := of_decide_eq_false h40
      refine CT.seq ?_
      refine CT.region ?_
      refine Wl.q rfl rfl (OpQ.eql rfl rfl) ?_
      refine Wl.q rfl rfl (OpQ.assign rfl) ?_
      refine Wl.nil ?_
      refine PX.then_n ?_
      refine CT.cond rfl (fun h51 => ?_) (fun h51 => ?_)
      ·
       have h51 := of_decide_eq_true h51
       have ha := ok_a hokk (by omega)
       have hb := ok_b hokk (by omega)
       refine CT.region ?_
       refine Wl.q rfl rfl (OpQ.move rfl) ?_
       refine Wl.q rfl rfl (OpQ.move rfl) ?_
       refine Wl.q rfl rfl (OpQ.move rfl) ?_
       refine Wl.q rfl rfl (OpQ.fieldAddr B_fa31_2 rfl) ?_
       refine Wl.q rfl rfl (OpQ.loadF (b := b9) B_sc3 rfl (by repeat (first | exact Has.here | apply Has.there)) (by rfl)) ?_
       refine Wl.q rfl rfl (OpQ.index1 B_un49 B_sz4 rfl rfl ⟨ha.1, by have := ha.2; omega⟩ (sd (by omega))) ?_
       refine Wl.q rfl rfl (OpQ.loadRow B_sc4 rfl (.there .here) (gt_get ⟨ha.1, by rw [evL_len]; have := ha.2; omega⟩)) ?_
       refine Wl.q rfl rfl (OpQ.move rfl) ?_
       refine Wl.split 60 rfl (fun hg60 => ?_) (fun hg60 => ?_)
       ·
        refine Wl.q rfl rfl (OpQ.move rfl) ?_
        refine Wl.q rfl rfl (OpQ.fieldAddr B_fa31_3 rfl) ?_
        refine Wl.q rfl rfl (OpQ.loadF (b := b9) B_sc3 rfl (by repeat (first | exact Has.here | apply Has.there)) (by rfl)) ?_
        refine Wl.q rfl rfl (OpQ.index1 B_un49 B_sz4 rfl rfl ⟨hb.1, by have := hb.2; omega⟩ (sd (by omega))) ?_
        refine Wl.q rfl rfl (OpQ.loadRow B_sc4 rfl (.there .here) (gt_get ⟨hb.1, by rw [evL_len]; have := hb.2; omega⟩)) ?_
        refine Wl.q rfl rfl (OpQ.pickT rfl rfl) ?_
        refine Wl.q rfl rfl (OpQ.index1 B_un49 B_sz4 rfl rfl (by omega) (sd (by omega))) ?_
        refine Wl.g rfl rfl (OpG.storeRow B_sz4 rfl rfl rfl (.there .here) (by rw [List.length_map, evL_len]; omega)) ?_
        rintro _ _
        refine Wl.nil ?_
        refine PX.block_n ?_
        refine PX.block_n ?_
        refine PX.then_n ?_
        refine CT.region ?_
        refine Wl.q rfl rfl (OpQ.add rfl rfl (by omega)) ?_
        refine Wl.q rfl rfl (OpQ.move rfl) ?_
        refine Wl.nil ?_
        exact PX.loop hK0 (k + 1) (by omega) (by first | omega | (dsimp only; omega)) ⟨rfl, rfl, rfl, rfl, rfl, rfl, trivial⟩ (.drop (.keep (row_eq (ev_set (by simp [-List.getD_eq_getElem?_getD, evV, *]))) .nil))
       ·
        refine Wl.skip rfl rfl ?_
        refine Wl.skip rfl rfl ?_
        refine Wl.skip rfl rfl ?_
        refine Wl.skip rfl rfl ?_
        refine Wl.skip rfl rfl ?_
        refine Wl.q rfl rfl (OpQ.pickF rfl rfl) ?_
        refine Wl.q rfl rfl (OpQ.index1 B_un49 B_sz4 rfl rfl (by omega) (sd (by omega))) ?_
        refine Wl.g rfl rfl (OpG.storeRow B_sz4 rfl rfl rfl (.there .here) (by rw [List.length_map, evL_len]; omega)) ?_
        rintro _ _
        refine Wl.nil ?_
        refine PX.block_n ?_
        refine PX.block_n ?_
        refine PX.then_n ?_
        refine CT.region ?_
        refine Wl.q rfl rfl (OpQ.add rfl rfl (by omega)) ?_
        refine Wl.q rfl rfl (OpQ.move rfl) ?_
        refine Wl.nil ?_
        exact PX.loop hK0 (k + 1) (by omega) (by first | omega | (dsimp only; omega)) ⟨rfl, rfl, rfl, rfl, rfl, rfl, trivial⟩ (.drop (.keep (row_eq (ev_set (by simp [-List.getD_eq_getElem?_getD, evV, *]))) .nil))
      ·
       have h51 := of_decide_eq_false h51
       refine CT.seq ?_
       refine CT.region ?_
       refine Wl.q rfl rfl (OpQ.eql rfl rfl) ?_
       refine Wl.q rfl rfl (OpQ.assign rfl) ?_
       refine Wl.nil ?_
       refine PX.then_n ?_
       refine CT.cond rfl (fun h68 => ?_) (fun h68 => ?_)
       ·
        have h68 := of_decide_eq_true h68
        have ha := ok_a hokk (by omega)
        have hb := ok_b hokk (by omega)
        refine CT.region ?_
        refine Wl.q rfl rfl (OpQ.move rfl) ?_
        refine Wl.q rfl rfl (OpQ.move rfl) ?_
        refine Wl.q rfl rfl (OpQ.move rfl) ?_
        refine Wl.q rfl rfl (OpQ.fieldAddr B_fa31_2 rfl) ?_
        refine Wl.q rfl rfl (OpQ.loadF (b := b9) B_sc3 rfl (by repeat (first | exact Has.here | apply Has.there)) (by rfl)) ?_
        refine Wl.q rfl rfl (OpQ.index1 B_un49 B_sz4 rfl rfl ⟨ha.1, by have := ha.2; omega⟩ (sd (by omega))) ?_
        refine Wl.q rfl rfl (OpQ.loadRow B_sc4 rfl (.there .here) (gt_get ⟨ha.1, by rw [evL_len]; have := ha.2; omega⟩)) ?_
        refine Wl.q rfl rfl (OpQ.move rfl) ?_
        refine Wl.split 77 rfl (fun hg77 => ?_) (fun hg77 => ?_)
        ·
         refine Wl.skip rfl rfl ?_
         refine Wl.skip rfl rfl ?_
         refine Wl.skip rfl rfl ?_
         refine Wl.skip rfl rfl ?_
         refine Wl.skip rfl rfl ?_
         refine Wl.q rfl rfl (OpQ.pickT rfl rfl) ?_
         refine Wl.q rfl rfl (OpQ.index1 B_un49 B_sz4 rfl rfl (by omega) (sd (by omega))) ?_
         refine Wl.g rfl rfl (OpG.storeRow B_sz4 rfl rfl rfl (.there .here) (by rw [List.length_map, evL_len]; omega)) ?_
         rintro _ _
         refine Wl.nil ?_
         refine PX.block_n ?_
         refine PX.block_n ?_
         refine PX.then_n ?_
         refine CT.region ?_
         refine Wl.q rfl rfl (OpQ.add rfl rfl (by omega)) ?_
         refine Wl.q rfl rfl (OpQ.move rfl) ?_
         refine Wl.nil ?_
         exact PX.loop hK0 (k + 1) (by omega) (by first | omega | (dsimp only; omega)) ⟨rfl, rfl, rfl, rfl, rfl, rfl, trivial⟩ (.drop (.keep (row_eq (ev_set (by simp [-List.getD_eq_getElem?_getD, evV, *]))) .nil))
        ·
         refine Wl.q rfl rfl (OpQ.move rfl) ?_
         refine Wl.q rfl rfl (OpQ.fieldAddr B_fa31_3 rfl) ?_
         refine Wl.q rfl rfl (OpQ.loadF (b := b9) B_sc3 rfl (by repeat (first | exact Has.here | apply Has.there)) (by rfl)) ?_
         refine Wl.q rfl rfl (OpQ.index1 B_un49 B_sz4 rfl rfl ⟨hb.1, by have := hb.2; omega⟩ (sd (by omega))) ?_
         refine Wl.q rfl rfl (OpQ.loadRow B_sc4 rfl (.there .here) (gt_get ⟨hb.1, by rw [evL_len]; have := hb.2; omega⟩)) ?_
         refine Wl.q rfl rfl (OpQ.pickF rfl rfl) ?_
         refine Wl.q rfl rfl (OpQ.index1 B_un49 B_sz4 rfl rfl (by omega) (sd (by omega))) ?_
         refine Wl.g rfl rfl (OpG.storeRow B_sz4 rfl rfl rfl (.there .here) (by rw [List.length_map, evL_len]; omega)) ?_
         rintro _ _
         refine Wl.nil ?_
         refine PX.block_n ?_
         refine PX.block_n ?_
         refine PX.then_n ?_
         refine CT.region ?_
         refine Wl.q rfl rfl (OpQ.add rfl rfl (by omega)) ?_
         refine Wl.q rfl rfl (OpQ.move rfl) ?_
         refine Wl.nil ?_
         exact PX.loop hK0 (k + 1) (by omega) (by first | omega | (dsimp only; omega)) ⟨rfl, rfl, rfl, rfl, rfl, rfl, trivial⟩ (.drop (.keep (row_eq (ev_set (by simp [-List.getD_eq_getElem?_getD, evV, *]))) .nil))
       ·
        have h68 := of_decide_eq_false h68
        refine CT.seq ?_
        refine CT.region ?_
        refine Wl.q rfl rfl (OpQ.eql rfl rfl) ?_
        refine Wl.q rfl rfl (OpQ.assign rfl) ?_
        refine Wl.nil ?_
        refine PX.then_n ?_
        refine CT.cond rfl (fun h85 => ?_) (fun h85 => ?_)
        ·
         have h85 := of_decide_eq_true h85
         have ha := ok_a hokk (by omega)
         refine CT.region ?_
         refine Wl.q rfl rfl (OpQ.move rfl) ?_
         refine Wl.q rfl rfl (OpQ.move rfl) ?_
         refine Wl.q rfl rfl (OpQ.move rfl) ?_
         refine Wl.q rfl rfl (OpQ.neq rfl rfl) ?_
         refine Wl.q rfl rfl (OpQ.move rfl) ?_
         refine Wl.split 91 rfl (fun hg91 => ?_) (fun hg91 => ?_)
         ·
          have hbl := hbf (by simpa using hg91)
          refine Wl.q rfl rfl (OpQ.move rfl) ?_
          refine Wl.q rfl rfl (OpQ.fieldAddr B_fa31_2 rfl) ?_
          refine Wl.q rfl rfl (OpQ.loadF (b := b9) B_sc3 rfl (by repeat (first | exact Has.here | apply Has.there)) (by rfl)) ?_
          refine Wl.q rfl rfl (OpQ.index1 B_un49 B_sz4 rfl rfl ⟨ha.1, by have := ha.2; rw [hnn (by simpa using hg91)]; omega⟩ (hrb.isSome (j := 0) (by rw [List.length_map]; omega))) ?_
          refine Wl.q rfl rfl (OpQ.loadG B_sc4 rfl (fun w hH => hH.rdX hrb hsb) (gt_get ⟨ha.1, by have := ha.2; omega⟩)) ?_
          refine Wl.q rfl rfl (OpQ.pickT rfl rfl) ?_
          refine Wl.q rfl rfl (OpQ.index1 B_un49 B_sz4 rfl rfl (by omega) (sd (by omega))) ?_
          refine Wl.g rfl rfl (OpG.storeRow B_sz4 rfl rfl rfl (.there .here) (by rw [List.length_map, evL_len]; omega)) ?_
          rintro _ _
          refine Wl.nil ?_
          refine PX.block_n ?_
          refine PX.block_n ?_
          refine PX.then_n ?_
          refine CT.region ?_
          refine Wl.q rfl rfl (OpQ.add rfl rfl (by omega)) ?_
          refine Wl.q rfl rfl (OpQ.move rfl) ?_
          refine Wl.nil ?_
          exact PX.loop hK0 (k + 1) (by omega) (by first | omega | (dsimp only; omega)) ⟨rfl, rfl, rfl, rfl, rfl, rfl, trivial⟩ (.drop (.keep (row_eq (ev_set (by simp [-List.getD_eq_getElem?_getD, evV, *]))) .nil))
         ·
          refine Wl.skip rfl rfl ?_
          refine Wl.skip rfl rfl ?_
          refine Wl.skip rfl rfl ?_
          refine Wl.skip rfl rfl ?_
          refine Wl.skip rfl rfl ?_
          refine Wl.q rfl rfl (OpQ.pickF rfl rfl) ?_
          refine Wl.q rfl rfl (OpQ.index1 B_un49 B_sz4 rfl rfl (by omega) (sd (by omega))) ?_
          refine Wl.g rfl rfl (OpG.storeRow B_sz4 rfl rfl rfl (.there .here) (by rw [List.length_map, evL_len]; omega)) ?_
          rintro _ _
          refine Wl.nil ?_
          refine PX.block_n ?_
          refine PX.block_n ?_
          refine PX.then_n ?_
          refine CT.region ?_
          refine Wl.q rfl rfl (OpQ.add rfl rfl (by omega)) ?_
          refine Wl.q rfl rfl (OpQ.move rfl) ?_
          refine Wl.nil ?_
          exact PX.loop hK0 (k + 1) (by omega) (by first | omega | (dsimp only; omega)) ⟨rfl, rfl, rfl, rfl, rfl, rfl, trivial⟩ (.drop (.keep (row_eq (ev_set (by simp [-List.getD_eq_getElem?_getD, evV, *]))) .nil))
        ·
         have h85 := of_decide_eq_false h85
         refine CT.seq ?_
         refine CT.region ?_
         refine Wl.q rfl rfl (OpQ.eql rfl rfl) ?_
         refine Wl.q rfl rfl (OpQ.assign rfl) ?_
         refine Wl.nil ?_
         refine PX.then_n ?_
         refine CT.cond rfl (fun h99 => ?_) (fun h99 => ?_)
         ·
          have h99 := of_decide_eq_true h99
          have ha := ok_a hokk (by omega)
          have hb := ok_b hokk (by omega)
          refine CT.region ?_
          refine Wl.q rfl rfl (OpQ.move rfl) ?_
          refine Wl.q rfl rfl (OpQ.move rfl) ?_
          refine Wl.q rfl rfl (OpQ.move rfl) ?_
          refine Wl.q rfl rfl (OpQ.fieldAddr B_fa31_3 rfl) ?_
          refine Wl.q rfl rfl (OpQ.loadF (b := b9) B_sc3 rfl (by repeat (first | exact Has.here | apply Has.there)) (by rfl)) ?_
          refine Wl.q rfl rfl (OpQ.index1 B_un49 B_sz4 rfl rfl ⟨hb.1, by have := hb.2; omega⟩ (sd (by omega))) ?_
          refine Wl.q rfl rfl (OpQ.loadRow B_sc4 rfl (.there .here) (gt_get ⟨hb.1, by rw [evL_len]; have := hb.2; omega⟩)) ?_
          refine Wl.q rfl rfl (OpQ.move rfl) ?_
          refine Wl.split 108 rfl (fun hg108 => ?_) (fun hg108 => ?_)
          ·
           refine Wl.skip rfl rfl ?_
           refine Wl.skip rfl rfl ?_
           refine Wl.skip rfl rfl ?_
           refine Wl.skip rfl rfl ?_
           refine Wl.skip rfl rfl ?_
           refine Wl.skip rfl rfl ?_
           refine Wl.skip rfl rfl ?_
           refine Wl.skip rfl rfl ?_
           refine Wl.skip rfl rfl ?_
           refine Wl.skip rfl rfl ?_
           refine Wl.skip rfl rfl ?_
           refine Wl.skip rfl rfl ?_
           refine Wl.skip rfl rfl ?_
           refine Wl.skip rfl rfl ?_
           refine Wl.skip rfl rfl ?_
           refine Wl.q rfl rfl (OpQ.pickT rfl rfl) ?_
           refine Wl.q rfl rfl (OpQ.index1 B_un49 B_sz4 rfl rfl (by omega) (sd (by omega))) ?_
           refine Wl.g rfl rfl (OpG.storeRow B_sz4 rfl rfl rfl (.there .here) (by rw [List.length_map, evL_len]; omega)) ?_
           rintro _ _
           refine Wl.nil ?_
           refine PX.block_n ?_
           refine PX.block_n ?_
           refine PX.then_n ?_
           refine CT.region ?_
           refine Wl.q rfl rfl (OpQ.add rfl rfl (by omega)) ?_
           refine Wl.q rfl rfl (OpQ.move rfl) ?_
           refine Wl.nil ?_
           exact PX.loop hK0 (k + 1) (by omega) (by first | omega | (dsimp only; omega)) ⟨rfl, rfl, rfl, rfl, rfl, rfl, trivial⟩ (.drop (.keep (row_eq (ev_set (by simp [-List.getD_eq_getElem?_getD, evV, *]))) .nil))
          ·
           refine Wl.q rfl rfl (OpQ.move rfl) ?_
           refine Wl.q rfl rfl (OpQ.neq rfl rfl) ?_
           refine Wl.q rfl rfl (OpQ.move rfl) ?_
           refine Wl.split 111 rfl (fun hg111 => ?_) (fun hg111 => ?_)
           ·
            have hbl := hbf (by simpa using hg111)
            refine Wl.q rfl rfl (OpQ.move rfl) ?_
            refine Wl.q rfl rfl (OpQ.fieldAddr B_fa31_2 rfl) ?_
            refine Wl.q rfl rfl (OpQ.loadF (b := b9) B_sc3 rfl (by repeat (first | exact Has.here | apply Has.there)) (by rfl)) ?_
            refine Wl.q rfl rfl (OpQ.index1 B_un49 B_sz4 rfl rfl ⟨ha.1, by have := ha.2; omega⟩ (sd (by omega))) ?_
            refine Wl.q rfl rfl (OpQ.loadRow B_sc4 rfl (.there .here) (gt_get ⟨ha.1, by rw [evL_len]; have := ha.2; omega⟩)) ?_
            refine Wl.q rfl rfl (OpQ.pickT rfl rfl) ?_
            refine Wl.q rfl rfl (OpQ.move rfl) ?_
            refine Wl.split 118 rfl (fun hg118 => ?_) (fun hg118 => ?_)
            ·
             refine Wl.q rfl rfl (OpQ.move rfl) ?_
             refine Wl.q rfl rfl (OpQ.move rfl) ?_
             refine Wl.q rfl rfl (OpQ.index1 B_un49 B_sz4 rfl rfl (by rw [hnn (by simpa using hg111)]; omega) (hrb.isSome (j := 0) (by rw [List.length_map]; omega))) ?_
             refine Wl.q rfl rfl (OpQ.loadG B_sc4 rfl (fun w hH => hH.rdX hrb hsb) (getMap bo bf false (j := k) (by omega))) ?_
             refine Wl.q rfl rfl (OpQ.pickT rfl rfl) ?_
             refine Wl.q rfl rfl (OpQ.pickF rfl rfl) ?_
             refine Wl.q rfl rfl (OpQ.index1 B_un49 B_sz4 rfl rfl (by omega) (sd (by omega))) ?_
             refine Wl.g rfl rfl (OpG.storeRow B_sz4 rfl rfl rfl (.there .here) (by rw [List.length_map, evL_len]; omega)) ?_
             rintro _ _
             refine Wl.nil ?_
             refine PX.block_n ?_
             refine PX.block_n ?_
             refine PX.then_n ?_
             refine CT.region ?_
             refine Wl.q rfl rfl (OpQ.add rfl rfl (by omega)) ?_
             refine Wl.q rfl rfl (OpQ.move rfl) ?_
             refine Wl.nil ?_
             exact PX.loop hK0 (k + 1) (by omega) (by first | omega | (dsimp only; omega)) ⟨rfl, rfl, rfl, rfl, rfl, rfl, trivial⟩ (.drop (.keep (row_eq (ev_set (by simp [-List.getD_eq_getElem?_getD, evV, *]))) .nil))
            ·
             refine Wl.skip rfl rfl ?_
             refine Wl.skip rfl rfl ?_
             refine Wl.skip rfl rfl ?_
             refine Wl.skip rfl rfl ?_
             refine Wl.q rfl rfl (OpQ.pickF rfl rfl) ?_
             refine Wl.q rfl rfl (OpQ.pickF rfl rfl) ?_
             refine Wl.q rfl rfl (OpQ.index1 B_un49 B_sz4 rfl rfl (by omega) (sd (by omega))) ?_
             refine Wl.g rfl rfl (OpG.storeRow B_sz4 rfl rfl rfl (.there .here) (by rw [List.length_map, evL_len]; omega)) ?_
             rintro _ _
             refine Wl.nil ?_
             refine PX.block_n ?_
             refine PX.block_n ?_
             refine PX.then_n ?_
             refine CT.region ?_
             refine Wl.q rfl rfl (OpQ.add rfl rfl (by omega)) ?_
             refine Wl.q rfl rfl (OpQ.move rfl) ?_
             refine Wl.nil ?_
             exact PX.loop hK0 (k + 1) (by omega) (by first | omega | (dsimp only; omega)) ⟨rfl, rfl, rfl, rfl, rfl, rfl, trivial⟩ (.drop (.keep (row_eq (ev_set (by simp [-List.getD_eq_getElem?_getD, evV, *]))) .nil))
           ·
            refine Wl.skip rfl rfl ?_
            refine Wl.skip rfl rfl ?_
            refine Wl.skip rfl rfl ?_
            refine Wl.skip rfl rfl ?_
            refine Wl.skip rfl rfl ?_
            refine Wl.q rfl rfl (OpQ.pickF rfl rfl) ?_
            refine Wl.q rfl rfl (OpQ.move rfl) ?_
            refine Wl.skip rfl rfl ?_
            refine Wl.skip rfl rfl ?_
            refine Wl.skip rfl rfl ?_
            refine Wl.skip rfl rfl ?_
            refine Wl.q rfl rfl (OpQ.pickF rfl rfl) ?_
            refine Wl.q rfl rfl (OpQ.pickF rfl rfl) ?_
            refine Wl.q rfl rfl (OpQ.index1 B_un49 B_sz4 rfl rfl (by omega) (sd (by omega))) ?_
            refine Wl.g rfl rfl (OpG.storeRow B_sz4 rfl rfl rfl (.there .here) (by rw [List.length_map, evL_len]; omega)) ?_
            rintro _ _
            refine Wl.nil ?_
            refine PX.block_n ?_
            refine PX.block_n ?_
            refine PX.then_n ?_
            refine CT.region ?_
            refine Wl.q rfl rfl (OpQ.add rfl rfl (by omega)) ?_
            refine Wl.q rfl rfl (OpQ.move rfl) ?_
            refine Wl.nil ?_
            exact PX.loop hK0 (k + 1) (by omega) (by first | omega | (dsimp only; omega)) ⟨rfl, rfl, rfl, rfl, rfl, rfl, trivial⟩ (.drop (.keep (row_eq (ev_set (by simp [-List.getD_eq_getElem?_getD, evV, *]))) .nil))
         ·
          have h99 := of_decide_eq_false h99
          exact absurd (ok_op hokk) (by omega)
 ·
  have h13 := of_decide_eq_false h13
  refine CT.exit ?_
  refine PX.then_x ?_
  refine PX.then_x ?_
  refine PX.block_x ?_
  refine PX.end0 rfl (fun w' hH => ?_)
  obtain rfl : k = xs.length := by omega
  exact ⟨rfl, hH.wroteEnd .here⟩

end Go.Proofs.Ytlmbcdjmdgbmjaa

