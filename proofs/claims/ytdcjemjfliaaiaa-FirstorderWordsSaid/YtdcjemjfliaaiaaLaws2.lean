/-
  What functions of the packages firstorder, semigroupref38 and semigroupmade compute, each by its walk. Conditions: those that each theorem names.
-/
import Derived.Test.YtdcjemjfliaaiaaMod
import Derived.Test.YtdcjemjfliaaiaaEng
import Derived.Test.YtdcjemjfliaaiaaLaws
set_option linter.unusedSimpArgs false
namespace Go.Proofs.Ytdcjemjfliaaiaa
open Go Go.Eng Go.Fo
open Go.Tp (zi)
open Go.Tl (vf mayL Wd okW okB ret_b ret_i bo)

theorem K_un26 : Try.prog.underlying 26 = some (.slice 29) := by kernel_rfl
theorem K_in29 : (Try.prog.info? 29).map (fun i => (i.zero, i.size, i.bytes)) = some (some (.agg #[.int .i64 0, .int .i64 0, .int .i64 0, .int .i64 0, .int .i64 0, .int .i64 0]), 6, 48) := by kernel_rfl
theorem K_sz3 : sizeB Try.prog 3 = some 1 := by kernel_rfl
theorem K_go10 : isGo Try.prog 10 = true := by kernel_rfl
theorem K_pl29 : placesB Try.prog 29 = some (#[.int .i64 0, .int .i64 0, .int .i64 0, .int .i64 0, .int .i64 0, .int .i64 0], [(0, 1), (1, 1), (2, 1), (3, 1), (4, 1), (5, 1)]) := by kernel_rfl
theorem K_sz29 : sizeB Try.prog 29 = some 6 := by kernel_rfl
theorem K_fa29_0 : fieldB Try.prog 29 0 = some 0 := by kernel_rfl
theorem K_sc3 : scalarB Try.prog 3 = some true := by kernel_rfl
theorem K_fa29_1 : fieldB Try.prog 29 1 = some 1 := by kernel_rfl
theorem K_fa29_2 : fieldB Try.prog 29 2 = some 2 := by kernel_rfl
theorem K_fa29_3 : fieldB Try.prog 29 3 = some 3 := by kernel_rfl
theorem K_fa29_4 : fieldB Try.prog 29 4 = some 4 := by kernel_rfl
theorem K_fa29_5 : fieldB Try.prog 29 5 = some 5 := by kernel_rfl
theorem K_ag29 : isAggB Try.prog 29 = some true := by kernel_rfl
set_option maxRecDepth 100000 in
/-- semigroup/semigrouplaw38.list -/
theorem list_spec (w : World) (b : Nat) (ta : Option Addr) (tn tc : Nat) (tl : List Int) (htl : tl.length = tn) (htm : tn ≤ 9223372036854775806) (hr : Stays [b] w (fun w => Rd w ta (tl.map zi))) (p : Nat) (hat : p ≤ tn) (hpre : Pre [.row 55 2 (vb b) 1 [.slice ta tn tc, .int .i64 ((p : Nat) : Int)]] w) (letters most : Int) (hle : 1 ≤ letters ∧ letters ≤ 6) (hmo : 1 ≤ most ∧ most ≤ 1000) : Calls Try.prog 11 #[.pointer (some ⟨b, 0, none⟩), .int .i64 (letters), .int .i64 (most)] w (fun e w' => ∃ i : List Fm × Nat × Option Addr × Nat, ((okL i.1 letters = true ∧ 1 ≤ i.1.length ∧ (i.1.length : Int) ≤ most) ∧ i.2.1 ≤ tn) ∧ e = .returned (.slice i.2.2.1 i.1.length i.2.2.2) ∧ Post [b] [.row 29 6 (.slice i.2.2.1 i.1.length i.2.2.2) i.1.length (i.1.flatMap fv), .row 55 2 (vb b) 1 [.slice ta tn tc, .int .i64 ((i.2.1 : Nat) : Int)]] w w') := by
  refine enterX (args := [.pointer (some ⟨b, 0, none⟩), .int .i64 (letters), .int .i64 (most)]) hpre 83 Try.func11 rfl rfl rfl ?_
  refine CT.seq ?_
  -- region 0: law.go:20
  refine CT.region ?_
  refine Wl.q rfl rfl (OpQ.assign rfl) ?_
  refine Wl.nil ?_
  refine PX.then_n ?_
  refine CT.seq ?_
  -- region 1: law.go:21
  refine CT.region ?_
  refine Wl.q rfl rfl (OpQ.assign rfl) ?_
  refine Wl.nil ?_
  refine PX.then_n ?_
  refine CT.seq ?_
  -- region 2: law.go:22
  refine CT.region ?_
  refine Wl.q rfl rfl (OpQ.move rfl) ?_
  refine Wl.q rfl rfl (OpQ.move rfl) ?_
  refine Wl.g rfl rfl (OpG.callX K_go10 rfl (.cons .here .nil) (fun _ => (.cons .nil)) (fun w hH hp => next_spec w b ta tn tc tl htl htm (hH.stays hr (.cons .here .nil)) p hat hp (most) (by omega))) ?_
  rintro ⟨r13, p13⟩ h13
  dsimp only at h13
  obtain ⟨⟨h13a, h13b⟩, h13p⟩ := h13
  refine Wl.know 13 (v' := .int .i64 r13) rfl rfl ?_
  refine Wl.q rfl rfl (OpQ.add rfl rfl (by omega)) ?_
  refine Wl.q rfl rfl (OpQ.assign rfl) ?_
  refine Wl.nil ?_
  refine PX.then_n ?_
  refine CT.seq ?_
  refine CT.seq ?_
  -- region 3: law.go:23
  refine CT.region ?_
  refine Wl.q rfl rfl (OpQ.assign rfl) ?_
  refine Wl.nil ?_
  refine PX.then_n ?_
  refine CT.block ?_
  -- the loop at region 4
  refine CT.nilrow 29 6 ?_
  refine CT.loop (ι := List Fm × Nat × Option Addr × Nat) (fun (xs, p', a', c') => okL xs letters = true ∧ (xs.length : Int) ≤ 1 + r13 ∧ p' ≤ tn) (fun (xs, p', a', c') => [(0, .pointer (some ⟨b, 0, none⟩)), (1, .int .i64 (letters)), (7, .slice a' xs.length c'), (8, .int .i64 (1 + r13)), (9, .int .i64 (xs.length : Int))]) (fun (xs, p', a', c') => [.row 29 6 (.slice a' xs.length c') xs.length (xs.flatMap fv), .row 55 2 (vb b) 1 [.slice ta tn tc, .int .i64 ((p' : Nat) : Int)]]) (fun (xs, p', a', c') => (1 + r13).toNat - xs.length) ([], p13, none, 0) ⟨okL_nil _, by dsimp only [List.length_nil]; omega, h13p⟩ ⟨rfl, rfl, rfl, rfl, rfl, trivial⟩ (.keep rfl (.keep rfl .nil)) (fun ⟨xs, p', a', c'⟩ ⟨hok, hlen, hat'⟩ K0 hK0 => ?_)
  dsimp only
  refine CT.seq ?_
  refine CT.seq ?_
  -- region 4: law.go:23
  refine CT.region ?_
  refine Wl.q rfl rfl (OpQ.move rfl) ?_
  refine Wl.q rfl rfl (OpQ.move rfl) ?_
  refine Wl.q rfl rfl (OpQ.lss rfl rfl) ?_
  refine Wl.nil ?_
  refine PX.then_n ?_
  refine CT.cond rfl (fun h17 => ?_) (fun h17 => ?_)
  · -- if t17: then
    have h17 := of_decide_eq_true h17
    refine CT.skip ?_
    refine PX.then_n ?_
    refine CT.seq ?_
    refine CT.block ?_
    refine CT.seq ?_
    -- region 6: law.go:24
    refine CT.region ?_
    refine Wl.q rfl rfl (OpQ.move rfl) ?_
    refine Wl.g rfl rfl (OpG.callX K_go10 rfl (.cons (.there .here) .nil) (fun _ => (.cons .nil)) (fun w hH hp => next_spec w b ta tn tc tl htl htm (hH.stays hr (.cons (.there .here) .nil)) p' hat' hp (7) (by omega))) ?_
    rintro ⟨r21, p21⟩ h21
    dsimp only at h21
    obtain ⟨⟨h21a, h21b⟩, h21p⟩ := h21
    refine Wl.know 21 (v' := .int .i64 r21) rfl rfl ?_
    refine Wl.q rfl rfl (OpQ.add rfl rfl (by omega)) ?_
    refine Wl.q rfl rfl (OpQ.build (cells := #[_, .int .i64 0, .int .i64 0, .int .i64 0, .int .i64 0, .int .i64 0]) K_pl29 rfl rfl) ?_
    refine Wl.g rfl rfl (OpG.alloc (zs := [.int .i64 0, .int .i64 0, .int .i64 0, .int .i64 0, .int .i64 0, .int .i64 0]) K_in29 rfl rfl) ?_
    rintro b10 _
    refine Wl.g rfl rfl (OpG.storeV (b := b10) K_sz29 rfl rfl rfl rfl (by repeat (first | exact Upd.here | apply Upd.there))) ?_
    rintro _ _
    refine Wl.nil ?_
    refine PX.then_n ?_
    refine CT.cut (ι := Int × Nat) (Φ := fun (op, pp) => (1 ≤ op ∧ op ≤ 7) ∧ (xs.length = 0 → op ≤ 3) ∧ pp ≤ tn) (E' := fun (op, pp) => [(0, .pointer (some ⟨b, 0, none⟩)), (1, .int .i64 (letters)), (7, .slice a' xs.length c'), (8, .int .i64 (1 + r13)), (9, .int .i64 (xs.length : Int)), (10, .pointer (some ⟨b10, 0, none⟩))]) (H' := fun (op, pp) => [.row 55 2 (vb b) 1 [.slice ta tn tc, .int .i64 ((pp : Nat) : Int)], .row 29 6 (vb b10) 1 [.int .i64 op, .int .i64 0, .int .i64 0, .int .i64 0, .int .i64 0, .int .i64 0], .row 29 6 (.slice a' xs.length c') xs.length (xs.flatMap fv)]) (fun K1 hK1 => ?_) (fun ⟨op, pp⟩ ⟨ho, ho3, hpp⟩ => ?_)
    · -- up to the join
      refine CT.seq ?_
      -- region 7: law.go:25
      refine CT.region ?_
      refine Wl.q rfl rfl (OpQ.move rfl) ?_
      refine Wl.q rfl rfl (OpQ.eql rfl rfl) ?_
      refine Wl.nil ?_
      refine PX.then_n ?_
      refine CT.cond rfl (fun h25 => ?_) (fun h25 => ?_)
      · -- if t25: then
        have h25 := of_decide_eq_true h25
        -- region 8: law.go:26
        refine CT.region ?_
        refine Wl.q rfl rfl (OpQ.move rfl) ?_
        refine Wl.g rfl rfl (OpG.callX K_go10 rfl (.cons (.there .here) .nil) (fun _ => (.cons .nil)) (fun w hH hp => next_spec w b ta tn tc tl htl htm (hH.stays hr (.cons (.there .here) .nil)) p21 h21p hp (3) (by omega))) ?_
        rintro ⟨r27, p27⟩ h27
        dsimp only at h27
        obtain ⟨⟨h27a, h27b⟩, h27p⟩ := h27
        refine Wl.know 27 (v' := .int .i64 r27) rfl rfl ?_
        refine Wl.q rfl rfl (OpQ.add rfl rfl (by omega)) ?_
        refine Wl.q rfl rfl (OpQ.fieldAddr K_fa29_0 rfl) ?_
        refine Wl.g rfl rfl (OpG.storeRow (a := some ⟨b10, 0, none⟩) K_sz3 rfl rfl rfl (by repeat (first | exact Upd.here | apply Upd.there)) (by simp)) ?_
        rintro _ _
        refine Wl.nil ?_
        exact PX.cut hK1 (1 + r27, p27) ⟨(by first | omega | (dsimp only; omega)), (by first | omega | (dsimp only; omega)), h27p⟩ ⟨rfl, rfl, rfl, rfl, rfl, rfl, trivial⟩ (HSub.refl _)
      · -- if t25: else
        have h25 := of_decide_eq_false h25
        refine CT.skip ?_
        refine PX.as (fun _ h => h.take (.cons (.there .here) (.cons .here (.cons .here .nil)))) ?_
        exact PX.cut hK1 (1 + r21, p21) ⟨(by first | omega | (dsimp only; omega)), (by first | omega | (dsimp only; omega)), h21p⟩ ⟨rfl, rfl, rfl, rfl, rfl, rfl, trivial⟩ (HSub.refl _)
    · -- from the join on
      dsimp only
      refine CT.cut (ι := Fm × Nat) (Φ := fun (x, pp) => okF x xs.length letters = true ∧ pp ≤ tn) (E' := fun (x, pp) => [(0, .pointer (some ⟨b, 0, none⟩)), (1, .int .i64 (letters)), (7, .slice a' xs.length c'), (8, .int .i64 (1 + r13)), (9, .int .i64 (xs.length : Int)), (10, .pointer (some ⟨b10, 0, none⟩))]) (H' := fun (x, pp) => [.row 55 2 (vb b) 1 [.slice ta tn tc, .int .i64 ((pp : Nat) : Int)], .row 29 6 (vb b10) 1 (fv x), .row 29 6 (.slice a' xs.length c') xs.length (xs.flatMap fv)]) (fun K2 hK2 => ?_) (fun ⟨x, pp⟩ ⟨hx, hpp⟩ => ?_)
      · -- up to the join
        refine CT.seq ?_
        -- region 9: law.go:28
        refine CT.region ?_
        refine Wl.q rfl rfl (OpQ.fieldAddr K_fa29_0 rfl) ?_
        refine Wl.q rfl rfl (OpQ.loadF (b := b10) K_sc3 rfl (by repeat (first | exact Has.here | apply Has.there)) (by rfl)) ?_
        refine Wl.nil ?_
        refine PX.then_n ?_
        refine CT.block ?_
        refine CT.seq ?_
        -- region 10: law.go:29
        refine CT.region ?_
        refine Wl.q rfl rfl (OpQ.eql rfl rfl) ?_
        refine Wl.q rfl rfl (OpQ.assign rfl) ?_
        refine Wl.nil ?_
        refine PX.then_n ?_
        refine CT.cond rfl (fun h32 => ?_) (fun h32 => ?_)
        · -- if t32: then
          have h32 := of_decide_eq_true h32
          -- region 11: law.go:30
          refine CT.region ?_
          refine Wl.q rfl rfl (OpQ.move rfl) ?_
          refine Wl.g rfl rfl (OpG.callX K_go10 rfl (.cons .here .nil) (fun _ => (.cons .nil)) (fun w hH hp => next_spec w b ta tn tc tl htl htm (hH.stays hr (.cons .here .nil)) pp hpp hp (3) (by omega))) ?_
          rintro ⟨r35, p35⟩ h35
          dsimp only at h35
          obtain ⟨⟨h35a, h35b⟩, h35p⟩ := h35
          refine Wl.know 35 (v' := .int .i64 r35) rfl rfl ?_
          refine Wl.q rfl rfl (OpQ.move rfl) ?_
          refine Wl.g rfl rfl (OpG.callX K_go10 rfl (.cons .here .nil) (fun _ => (.cons .nil)) (fun w hH hp => next_spec w b ta tn tc tl htl htm (hH.stays hr (.cons .here .nil)) p35 h35p hp (3) (by omega))) ?_
          rintro ⟨r37, p37⟩ h37
          dsimp only at h37
          obtain ⟨⟨h37a, h37b⟩, h37p⟩ := h37
          refine Wl.know 37 (v' := .int .i64 r37) rfl rfl ?_
          refine Wl.q rfl rfl (OpQ.move rfl) ?_
          refine Wl.q rfl rfl (OpQ.move rfl) ?_
          refine Wl.g rfl rfl (OpG.callX K_go10 rfl (.cons .here .nil) (fun _ => (.cons .nil)) (fun w hH hp => next_spec w b ta tn tc tl htl htm (hH.stays hr (.cons .here .nil)) p37 h37p hp (letters) (by omega))) ?_
          rintro ⟨r40, p40⟩ h40
          dsimp only at h40
          obtain ⟨⟨h40a, h40b⟩, h40p⟩ := h40
          refine Wl.know 40 (v' := .int .i64 r40) rfl rfl ?_
          refine Wl.q rfl rfl (OpQ.fieldAddr K_fa29_1 rfl) ?_
          refine Wl.g rfl rfl (OpG.storeRow (a := some ⟨b10, 0, none⟩) K_sz3 rfl rfl rfl (by repeat (first | exact Upd.here | apply Upd.there)) (by simp)) ?_
          rintro _ _
          refine Wl.q rfl rfl (OpQ.fieldAddr K_fa29_2 rfl) ?_
          refine Wl.g rfl rfl (OpG.storeRow (a := some ⟨b10, 0, none⟩) K_sz3 rfl rfl rfl (by repeat (first | exact Upd.here | apply Upd.there)) (by simp)) ?_
          rintro _ _
          refine Wl.q rfl rfl (OpQ.fieldAddr K_fa29_3 rfl) ?_
          refine Wl.g rfl rfl (OpG.storeRow (a := some ⟨b10, 0, none⟩) K_sz3 rfl rfl rfl (by repeat (first | exact Upd.here | apply Upd.there)) (by simp)) ?_
          rintro _ _
          refine Wl.nil ?_
          refine PX.block_n ?_
          exact PX.cut hK2 (⟨op, r35, r37, r40, 0, 0⟩, p40) ⟨okF_of (by omega) (by omega) (by omega) (by omega) (by omega) (by omega), by first | assumption | (dsimp only; omega)⟩ ⟨rfl, rfl, rfl, rfl, rfl, rfl, trivial⟩ (.keep rfl (.keep rfl (.keep rfl .nil)))
        · -- if t32: else
          have h32 := of_decide_eq_false h32
          refine CT.seq ?_
          -- region 12: law.go:31
          refine CT.region ?_
          refine Wl.q rfl rfl (OpQ.eql rfl rfl) ?_
          refine Wl.q rfl rfl (OpQ.assign rfl) ?_
          refine Wl.nil ?_
          refine PX.then_n ?_
          refine CT.cond rfl (fun h44 => ?_) (fun h44 => ?_)
          · -- if t44: then
            have h44 := of_decide_eq_true h44
            -- region 13: law.go:32
            refine CT.region ?_
            refine Wl.q rfl rfl (OpQ.move rfl) ?_
            refine Wl.g rfl rfl (OpG.callX K_go10 rfl (.cons .here .nil) (fun _ => (.cons .nil)) (fun w hH hp => next_spec w b ta tn tc tl htl htm (hH.stays hr (.cons .here .nil)) pp hpp hp (3) (by omega))) ?_
            rintro ⟨r47, p47⟩ h47
            dsimp only at h47
            obtain ⟨⟨h47a, h47b⟩, h47p⟩ := h47
            refine Wl.know 47 (v' := .int .i64 r47) rfl rfl ?_
            refine Wl.q rfl rfl (OpQ.move rfl) ?_
            refine Wl.g rfl rfl (OpG.callX K_go10 rfl (.cons .here .nil) (fun _ => (.cons .nil)) (fun w hH hp => next_spec w b ta tn tc tl htl htm (hH.stays hr (.cons .here .nil)) p47 h47p hp (3) (by omega))) ?_
            rintro ⟨r49, p49⟩ h49
            dsimp only at h49
            obtain ⟨⟨h49a, h49b⟩, h49p⟩ := h49
            refine Wl.know 49 (v' := .int .i64 r49) rfl rfl ?_
            refine Wl.q rfl rfl (OpQ.fieldAddr K_fa29_1 rfl) ?_
            refine Wl.g rfl rfl (OpG.storeRow (a := some ⟨b10, 0, none⟩) K_sz3 rfl rfl rfl (by repeat (first | exact Upd.here | apply Upd.there)) (by simp)) ?_
            rintro _ _
            refine Wl.q rfl rfl (OpQ.fieldAddr K_fa29_2 rfl) ?_
            refine Wl.g rfl rfl (OpG.storeRow (a := some ⟨b10, 0, none⟩) K_sz3 rfl rfl rfl (by repeat (first | exact Upd.here | apply Upd.there)) (by simp)) ?_
            rintro _ _
            refine Wl.nil ?_
            refine PX.block_n ?_
            exact PX.cut hK2 (⟨op, r47, r49, 0, 0, 0⟩, p49) ⟨okF_of (by omega) (by omega) (by omega) (by omega) (by omega) (by omega), by first | assumption | (dsimp only; omega)⟩ ⟨rfl, rfl, rfl, rfl, rfl, rfl, trivial⟩ (.keep rfl (.keep rfl (.keep rfl .nil)))
          · -- if t44: else
            have h44 := of_decide_eq_false h44
            refine CT.seq ?_
            -- region 14: law.go:33
            refine CT.region ?_
            refine Wl.q rfl rfl (OpQ.eql rfl rfl) ?_
            refine Wl.q rfl rfl (OpQ.assign rfl) ?_
            refine Wl.nil ?_
            refine PX.then_n ?_
            refine CT.cond rfl (fun h52 => ?_) (fun h52 => ?_)
            · -- if t52: then
              have h52 := of_decide_eq_true h52
              -- region 15: law.go:34
              refine CT.region ?_
              refine Wl.q rfl rfl (OpQ.move rfl) ?_
              refine Wl.q rfl rfl (OpQ.move rfl) ?_
              refine Wl.g rfl rfl (OpG.callX K_go10 rfl (.cons .here .nil) (fun _ => (.cons .nil)) (fun w hH hp => next_spec w b ta tn tc tl htl htm (hH.stays hr (.cons .here .nil)) pp hpp hp ((xs.length : Int)) (by omega))) ?_
              rintro ⟨r56, p56⟩ h56
              dsimp only at h56
              obtain ⟨⟨h56a, h56b⟩, h56p⟩ := h56
              refine Wl.know 56 (v' := .int .i64 r56) rfl rfl ?_
              refine Wl.q rfl rfl (OpQ.fieldAddr K_fa29_4 rfl) ?_
              refine Wl.g rfl rfl (OpG.storeRow (a := some ⟨b10, 0, none⟩) K_sz3 rfl rfl rfl (by repeat (first | exact Upd.here | apply Upd.there)) (by simp)) ?_
              rintro _ _
              refine Wl.nil ?_
              refine PX.block_n ?_
              exact PX.cut hK2 (⟨op, 0, 0, 0, r56, 0⟩, p56) ⟨okF_of (by omega) (by omega) (by omega) (by omega) (by omega) (by omega), by first | assumption | (dsimp only; omega)⟩ ⟨rfl, rfl, rfl, rfl, rfl, rfl, trivial⟩ (.keep rfl (.keep rfl (.keep rfl .nil)))
            · -- if t52: else
              have h52 := of_decide_eq_false h52
              refine CT.cut (ι := Unit) (Φ := fun _ => True) (E' := fun _ => [(0, .pointer (some ⟨b, 0, none⟩)), (1, .int .i64 (letters)), (7, .slice a' xs.length c'), (8, .int .i64 (1 + r13)), (9, .int .i64 (xs.length : Int)), (10, .pointer (some ⟨b10, 0, none⟩)), (31, .int .i64 (op)), (58, .bool (decide (op = 5 ∨ op = 6)))]) (H' := fun _ => [.row 55 2 (vb b) 1 [.slice ta tn tc, .int .i64 ((pp : Nat) : Int)], .row 29 6 (vb b10) 1 [.int .i64 op, .int .i64 0, .int .i64 0, .int .i64 0, .int .i64 0, .int .i64 0], .row 29 6 (.slice a' xs.length c') xs.length (xs.flatMap fv)]) (fun K3 hK3 => ?_) (fun _ _ => ?_)
              · -- up to the join
                refine CT.seq ?_
                -- region 16: law.go:35
                refine CT.region ?_
                refine Wl.q rfl rfl (OpQ.eql rfl rfl) ?_
                refine Wl.q rfl rfl (OpQ.assign rfl) ?_
                refine Wl.nil ?_
                refine PX.then_n ?_
                refine CT.cond rfl (fun h58 => ?_) (fun h58 => ?_)
                · -- if t58: then
                  have h58 := of_decide_eq_true h58
                  refine CT.skip ?_
                  exact PX.cut hK3 () trivial ⟨rfl, rfl, rfl, rfl, rfl, rfl, rfl, (lkV rfl (congrArg Value.bool (by rw [decide_eq_decide]; omega))), trivial⟩ (HSub.refl _)
                · -- if t58: else
                  have h58 := of_decide_eq_false h58
                  -- region 17: law.go:35
                  refine CT.region ?_
                  refine Wl.q rfl rfl (OpQ.eql rfl rfl) ?_
                  refine Wl.q rfl rfl (OpQ.assign rfl) ?_
                  refine Wl.nil ?_
                  exact PX.cut hK3 () trivial ⟨rfl, rfl, rfl, rfl, rfl, rfl, rfl, (lkV rfl (congrArg Value.bool (by rw [decide_eq_decide]; omega))), trivial⟩ (HSub.refl _)
              · -- from the join on
                refine CT.cond rfl (fun h58 => ?_) (fun h58 => ?_)
                · -- if t58: then
                  have h58 := of_decide_eq_true h58
                  -- region 18: law.go:36
                  refine CT.region ?_
                  refine Wl.q rfl rfl (OpQ.move rfl) ?_
                  refine Wl.q rfl rfl (OpQ.move rfl) ?_
                  refine Wl.g rfl rfl (OpG.callX K_go10 rfl (.cons .here .nil) (fun _ => (.cons .nil)) (fun w hH hp => next_spec w b ta tn tc tl htl htm (hH.stays hr (.cons .here .nil)) pp hpp hp ((xs.length : Int)) (by omega))) ?_
                  rintro ⟨r63, p63⟩ h63
                  dsimp only at h63
                  obtain ⟨⟨h63a, h63b⟩, h63p⟩ := h63
                  refine Wl.know 63 (v' := .int .i64 r63) rfl rfl ?_
                  refine Wl.q rfl rfl (OpQ.move rfl) ?_
                  refine Wl.q rfl rfl (OpQ.move rfl) ?_
                  refine Wl.g rfl rfl (OpG.callX K_go10 rfl (.cons .here .nil) (fun _ => (.cons .nil)) (fun w hH hp => next_spec w b ta tn tc tl htl htm (hH.stays hr (.cons .here .nil)) p63 h63p hp ((xs.length : Int)) (by omega))) ?_
                  rintro ⟨r66, p66⟩ h66
                  dsimp only at h66
                  obtain ⟨⟨h66a, h66b⟩, h66p⟩ := h66
                  refine Wl.know 66 (v' := .int .i64 r66) rfl rfl ?_
                  refine Wl.q rfl rfl (OpQ.fieldAddr K_fa29_4 rfl) ?_
                  refine Wl.g rfl rfl (OpG.storeRow (a := some ⟨b10, 0, none⟩) K_sz3 rfl rfl rfl (by repeat (first | exact Upd.here | apply Upd.there)) (by simp)) ?_
                  rintro _ _
                  refine Wl.q rfl rfl (OpQ.fieldAddr K_fa29_5 rfl) ?_
                  refine Wl.g rfl rfl (OpG.storeRow (a := some ⟨b10, 0, none⟩) K_sz3 rfl rfl rfl (by repeat (first | exact Upd.here | apply Upd.there)) (by simp)) ?_
                  rintro _ _
                  refine Wl.nil ?_
                  refine PX.block_n ?_
                  exact PX.cut hK2 (⟨op, 0, 0, 0, r63, r66⟩, p66) ⟨okF_of (by omega) (by omega) (by omega) (by omega) (by omega) (by omega), by first | assumption | (dsimp only; omega)⟩ ⟨rfl, rfl, rfl, rfl, rfl, rfl, trivial⟩ (.keep rfl (.keep rfl (.keep rfl .nil)))
                · -- if t58: else
                  have h58 := of_decide_eq_false h58
                  refine CT.seq ?_
                  -- region 19: law.go:37
                  refine CT.region ?_
                  refine Wl.q rfl rfl (OpQ.eql rfl rfl) ?_
                  refine Wl.q rfl rfl (OpQ.assign rfl) ?_
                  refine Wl.nil ?_
                  refine PX.then_n ?_
                  refine CT.cond rfl (fun h69 => ?_) (fun h69 => ?_)
                  · -- if t69: then
                    have h69 := of_decide_eq_true h69
                    -- region 20: law.go:38
                    refine CT.region ?_
                    refine Wl.q rfl rfl (OpQ.move rfl) ?_
                    refine Wl.g rfl rfl (OpG.callX K_go10 rfl (.cons .here .nil) (fun _ => (.cons .nil)) (fun w hH hp => next_spec w b ta tn tc tl htl htm (hH.stays hr (.cons .here .nil)) pp hpp hp (3) (by omega))) ?_
                    rintro ⟨r72, p72⟩ h72
                    dsimp only at h72
                    obtain ⟨⟨h72a, h72b⟩, h72p⟩ := h72
                    refine Wl.know 72 (v' := .int .i64 r72) rfl rfl ?_
                    refine Wl.q rfl rfl (OpQ.move rfl) ?_
                    refine Wl.q rfl rfl (OpQ.move rfl) ?_
                    refine Wl.g rfl rfl (OpG.callX K_go10 rfl (.cons .here .nil) (fun _ => (.cons .nil)) (fun w hH hp => next_spec w b ta tn tc tl htl htm (hH.stays hr (.cons .here .nil)) p72 h72p hp ((xs.length : Int)) (by omega))) ?_
                    rintro ⟨r75, p75⟩ h75
                    dsimp only at h75
                    obtain ⟨⟨h75a, h75b⟩, h75p⟩ := h75
                    refine Wl.know 75 (v' := .int .i64 r75) rfl rfl ?_
                    refine Wl.q rfl rfl (OpQ.fieldAddr K_fa29_1 rfl) ?_
                    refine Wl.g rfl rfl (OpG.storeRow (a := some ⟨b10, 0, none⟩) K_sz3 rfl rfl rfl (by repeat (first | exact Upd.here | apply Upd.there)) (by simp)) ?_
                    rintro _ _
                    refine Wl.q rfl rfl (OpQ.fieldAddr K_fa29_4 rfl) ?_
                    refine Wl.g rfl rfl (OpG.storeRow (a := some ⟨b10, 0, none⟩) K_sz3 rfl rfl rfl (by repeat (first | exact Upd.here | apply Upd.there)) (by simp)) ?_
                    rintro _ _
                    refine Wl.nil ?_
                    refine PX.block_n ?_
                    exact PX.cut hK2 (⟨op, r72, 0, 0, r75, 0⟩, p75) ⟨okF_of (by omega) (by omega) (by omega) (by omega) (by omega) (by omega), by first | assumption | (dsimp only; omega)⟩ ⟨rfl, rfl, rfl, rfl, rfl, rfl, trivial⟩ (.keep rfl (.keep rfl (.keep rfl .nil)))
                  · -- if t69: else
                    have h69 := of_decide_eq_false h69
                    refine CT.skip ?_
                    refine PX.block_n ?_
                    exact PX.cut hK2 (⟨op, 0, 0, 0, 0, 0⟩, pp) ⟨okF_of (by omega) (by omega) (by omega) (by omega) (by omega) (by omega), by first | assumption | (dsimp only; omega)⟩ ⟨rfl, rfl, rfl, rfl, rfl, rfl, trivial⟩ (.keep rfl (.keep rfl (.keep rfl .nil)))
      · -- from the join on
        dsimp only
        -- region 21: law.go:40
        refine CT.region ?_
        refine Wl.q rfl rfl (OpQ.move rfl) ?_
        refine Wl.q rfl rfl (OpQ.loadV (b := b10) K_ag29 K_sz29 rfl (by repeat (first | exact Has.here | apply Has.there)) (by rfl)) ?_
        refine Wl.g rfl rfl (OpG.litS1 K_un26 K_in29 rfl (by decide) rfl) ?_
        rintro b80 _
        refine Wl.g rfl rfl (OpG.append K_un26 K_in29 (by rfl) (by decide) rfl rfl (p := 3) rfl (fun w hH => hH.rd .here) ⟨rfl, (by simp [Value.oneCell']), (by omega), (by omega)⟩ (nm := xs.length + 1) rfl (all := (xs ++ [x]).flatMap fv) (by simp)) ?_
        rintro ⟨a81, c81⟩ h81
        refine Wl.q rfl rfl (OpQ.assign rfl) ?_
        refine Wl.nil ?_
        refine PX.block_n ?_
        refine PX.then_n ?_
        -- region 5: law.go:23
        refine CT.region ?_
        refine Wl.q rfl rfl (OpQ.move rfl) ?_
        refine Wl.q rfl rfl (OpQ.add rfl rfl (by omega)) ?_
        refine Wl.q rfl rfl (OpQ.assign rfl) ?_
        refine Wl.nil ?_
        refine PX.as (fun _ h => h.take (.cons (.there (.there (.there .here))) (.cons (.there .here) .nil))) ?_
        exact PX.loop hK0 (xs ++ [x], pp, a81, c81) ⟨okL_snoc hok hx, by simp; omega, hpp⟩ (by simp; omega) ⟨rfl, rfl, (lkV rfl (by rw [List.length_append]; rfl)), rfl, (lkV rfl (congrArg (Value.int .i64) (by simp))), trivial⟩ (.keep (by rw [List.length_append]; rfl) (.keep rfl .nil))
  · -- if t17: else
    have h17 := of_decide_eq_false h17
    refine CT.exit ?_
    refine PX.then_x ?_
    refine PX.then_x ?_
    refine PX.block_x ?_
    refine PX.then_n ?_
    refine CT.seq ?_
    -- region 22: law.go:42
    refine CT.region ?_
    refine Wl.q rfl rfl (OpQ.move rfl) ?_
    refine Wl.q rfl rfl (OpQ.assign rfl) ?_
    refine Wl.nil ?_
    refine PX.then_n ?_
    refine CT.ret ?_
    refine PX.ret1 rfl rfl (fun w' hH => ?_)
    exact ⟨(xs, p', a', c'), ⟨⟨hok, by first | omega | (dsimp only; omega), by first | omega | (dsimp only; omega)⟩, hat'⟩, rfl, hH.post⟩

theorem K_go9 : isGo Try.prog 9 = true := by kernel_rfl
theorem K_go11 : isGo Try.prog 11 = true := by kernel_rfl
theorem K_go12 : isGo Try.prog 12 = true := by kernel_rfl
theorem K_go13 : isGo Try.prog 13 = true := by kernel_rfl
theorem K_un4 : Try.prog.underlying 4 = some .bool := by kernel_rfl
theorem K_go14 : isGo Try.prog 14 = true := by kernel_rfl
set_option maxRecDepth 100000 in
/-- semigroup/semigrouplaw38.FirstorderLogic -/
theorem FirstorderLogic_spec (w : World) (a : Option Addr) (cp : Nat) (l : List Int) (hrl : Rd w a (l.map zi)) (hl : l.length ≤ cp) (a2 : Option Addr) (cp2 : Nat) (l2 : List Int) (hrl2 : Rd w a2 (l2.map zi)) (hl2 : l2.length ≤ cp2) : Calls Try.prog 3 #[.slice a l.length cp, .slice a2 l2.length cp2] w (fun e w' => e = .returned (.bool true) ∧ Ext [] w w') := by
  refine enter (args := [.slice a l.length cp, .slice a2 l2.length cp2]) [] 78 Try.func3 rfl rfl rfl ?_
  refine CT.seq ?_
  -- region 0: law.go:127
  refine CT.region ?_
  refine Wl.q rfl rfl (OpQ.assign rfl) ?_
  refine Wl.nil ?_
  refine PX.then_n ?_
  refine CT.seq ?_
  -- region 1: law.go:128
  refine CT.region ?_
  refine Wl.q rfl rfl (OpQ.move rfl) ?_
  refine Wl.g rfl rfl (OpG.callX K_go9 rfl .nil (fun _ => (.cons .nil)) (fun w hH hp => new_spec w a cp l hl)) ?_
  rintro ⟨b13, k13⟩ h13
  dsimp only at h13
  obtain ⟨hk13, hk13m⟩ := h13
  have hrT13 : Stays [] w (fun w => Rd w a ((l.take k13).map zi)) := Rd.stays (by rw [List.map_take]; exact hrl.take _)
  have hle13 : (l.take k13).length = k13 := by rw [List.length_take]; omega
  refine Wl.q rfl rfl (OpQ.assign rfl) ?_
  refine Wl.nil ?_
  refine PX.then_n ?_
  refine CT.seq ?_
  -- region 2: law.go:129
  refine CT.region ?_
  refine Wl.q rfl rfl (OpQ.move rfl) ?_
  refine Wl.g rfl rfl (OpG.callX K_go10 rfl (.cons .here .nil) (fun _ => (.cons .nil)) (fun w hH hp => next_spec w b13 a k13 cp (l.take k13) hle13 (by omega) (hH.stays hrT13 (.cons .here .nil)) 0 (Nat.zero_le _) hp (2) (by omega))) ?_
  rintro ⟨r15, p15⟩ h15
  dsimp only at h15
  obtain ⟨⟨h15a, h15b⟩, h15p⟩ := h15
  refine Wl.know 15 (v' := .int .i64 r15) rfl rfl ?_
  refine Wl.q rfl rfl (OpQ.add rfl rfl (by omega)) ?_
  refine Wl.q rfl rfl (OpQ.assign rfl) ?_
  refine Wl.nil ?_
  refine PX.then_n ?_
  refine CT.seq ?_
  -- region 3: law.go:130
  refine CT.region ?_
  refine Wl.q rfl rfl (OpQ.move rfl) ?_
  refine Wl.q rfl rfl (OpQ.move rfl) ?_
  refine Wl.g rfl rfl (OpG.callX K_go11 rfl (.cons .here .nil) (fun _ => (.cons (.cons .nil))) (fun w hH hp => list_spec w b13 a k13 cp (l.take k13) hle13 (by omega) (hH.stays hrT13 (.cons .here .nil)) p15 h15p hp (1 + r15) 8 (by omega) (by omega))) ?_
  rintro ⟨xs, p19, a19, c19⟩ h19
  dsimp only at h19
  obtain ⟨⟨hok, hlen1, hlen8⟩, h19p⟩ := h19
  refine Wl.know 19 (v' := .slice a19 xs.length c19) rfl rfl ?_
  refine Wl.q rfl rfl (OpQ.assign rfl) ?_
  refine Wl.nil ?_
  refine PX.then_n ?_
  refine CT.seq ?_
  -- region 4: law.go:131
  refine CT.region ?_
  refine Wl.q rfl rfl (OpQ.move rfl) ?_
  refine Wl.q rfl rfl (OpQ.len K_un26 rfl) ?_
  refine Wl.q rfl rfl (OpQ.assign rfl) ?_
  refine Wl.nil ?_
  refine PX.then_n ?_
  refine CT.seq ?_
  -- region 5: law.go:132
  refine CT.region ?_
  refine Wl.q rfl rfl (OpQ.move rfl) ?_
  refine Wl.q rfl rfl (OpQ.move rfl) ?_
  refine Wl.g rfl rfl (OpG.callX K_go10 rfl (.cons (.there .here) .nil) (fun _ => (.cons .nil)) (fun w hH hp => next_spec w b13 a k13 cp (l.take k13) hle13 (by omega) (hH.stays hrT13 (.cons (.there .here) .nil)) p19 h19p hp ((xs.length : Int)) (by omega))) ?_
  rintro ⟨r24, p24⟩ h24
  dsimp only at h24
  obtain ⟨⟨h24a, h24b⟩, h24p⟩ := h24
  refine Wl.know 24 (v' := .int .i64 ((r24.toNat : Nat) : Int)) rfl (congrArg (Value.int .i64) (by omega)) ?_
  refine Wl.q rfl rfl (OpQ.move rfl) ?_
  refine Wl.q rfl rfl (OpQ.move rfl) ?_
  refine Wl.g rfl rfl (OpG.callX K_go10 rfl (.cons .here .nil) (fun _ => (.cons .nil)) (fun w hH hp => next_spec w b13 a k13 cp (l.take k13) hle13 (by omega) (hH.stays hrT13 (.cons .here .nil)) p24 h24p hp ((xs.length : Int)) (by omega))) ?_
  rintro ⟨r27, p27⟩ h27
  dsimp only at h27
  obtain ⟨⟨h27a, h27b⟩, h27p⟩ := h27
  refine Wl.know 27 (v' := .int .i64 ((r27.toNat : Nat) : Int)) rfl (congrArg (Value.int .i64) (by omega)) ?_
  refine Wl.q rfl rfl (OpQ.assign rfl) ?_
  refine Wl.q rfl rfl (OpQ.assign rfl) ?_
  refine Wl.nil ?_
  refine PX.then_n ?_
  refine CT.seq ?_
  -- region 6: law.go:133
  refine CT.region ?_
  refine Wl.q rfl rfl (OpQ.move rfl) ?_
  refine Wl.q rfl rfl (OpQ.move rfl) ?_
  refine Wl.q rfl rfl (OpQ.move rfl) ?_
  refine Wl.q rfl rfl (OpQ.build (cells := #[.int .i64 6, .int .i64 0, .int .i64 0, .int .i64 0, .int .i64 ((r24.toNat : Nat)), .int .i64 ((r27.toNat : Nat))]) K_pl29 rfl rfl) ?_
  refine Wl.q rfl rfl (OpQ.move rfl) ?_
  refine Wl.q rfl rfl (OpQ.build (cells := #[.int .i64 4, .int .i64 0, .int .i64 0, .int .i64 0, .int .i64 ((r24.toNat : Nat)), .int .i64 0]) K_pl29 rfl rfl) ?_
  refine Wl.q rfl rfl (OpQ.move rfl) ?_
  refine Wl.q rfl rfl (OpQ.build (cells := #[.int .i64 4, .int .i64 0, .int .i64 0, .int .i64 0, .int .i64 ((r27.toNat : Nat)), .int .i64 0]) K_pl29 rfl rfl) ?_
  refine Wl.q rfl rfl (OpQ.move rfl) ?_
  refine Wl.q rfl rfl (OpQ.add rfl rfl (by omega)) ?_
  refine Wl.q rfl rfl (OpQ.move rfl) ?_
  refine Wl.q rfl rfl (OpQ.add rfl rfl (by omega)) ?_
  refine Wl.q rfl rfl (OpQ.build (cells := #[.int .i64 5, .int .i64 0, .int .i64 0, .int .i64 0, .int .i64 ((xs.length : Int) + 1), .int .i64 ((xs.length : Int) + 2)]) K_pl29 rfl rfl) ?_
  refine Wl.q rfl rfl (OpQ.move rfl) ?_
  refine Wl.g rfl rfl (OpG.callX K_go10 rfl (.cons .here .nil) (fun _ => (.cons .nil)) (fun w hH hp => next_spec w b13 a k13 cp (l.take k13) hle13 (by omega) (hH.stays hrT13 (.cons .here .nil)) p27 h27p hp (3) (by omega))) ?_
  rintro ⟨r42, p42⟩ h42
  dsimp only at h42
  obtain ⟨⟨h42a, h42b⟩, h42p⟩ := h42
  refine Wl.know 42 (v' := .int .i64 r42) rfl rfl ?_
  refine Wl.q rfl rfl (OpQ.move rfl) ?_
  refine Wl.q rfl rfl (OpQ.build (cells := #[.int .i64 7, .int .i64 (r42), .int .i64 0, .int .i64 0, .int .i64 ((r24.toNat : Nat)), .int .i64 0]) K_pl29 rfl rfl) ?_
  refine Wl.g rfl rfl (OpG.litS (vs := (logT xs.length r24.toNat r27.toNat r42).flatMap fv) K_un26 K_in29 rfl (by decide) (by kernel_rfl) rfl) ?_
  rintro b45 _
  refine Wl.g rfl rfl (OpG.append K_un26 K_in29 (by rfl) (by decide) rfl rfl (p := 2) rfl (fun w hH => hH.rd .here) ⟨rfl, (by simp [Value.oneCell', logT]), (by omega), (by omega)⟩ (nm := (xs ++ logT xs.length r24.toNat r27.toNat r42).length) (by simp [logT]) (all := (xs ++ logT xs.length r24.toNat r27.toNat r42).flatMap fv) (by rw [List.flatMap_append])) ?_
  rintro ⟨a46, c46⟩ h46
  refine Wl.q rfl rfl (OpQ.assign rfl) ?_
  refine Wl.nil ?_
  refine PX.then_n ?_
  refine CT.seq ?_
  -- region 7: law.go:134
  refine CT.region ?_
  refine Wl.q rfl rfl (OpQ.move rfl) ?_
  refine Wl.g rfl rfl (OpG.callX K_go9 rfl .nil (fun _ => (.cons .nil)) (fun w hH hp => new_spec w a2 cp2 l2 hl2)) ?_
  rintro ⟨b48, k48⟩ h48
  dsimp only at h48
  obtain ⟨hk48, hk48m⟩ := h48
  have hrT48 : Stays [] w (fun w => Rd w a2 ((l2.take k48).map zi)) := Rd.stays (by rw [List.map_take]; exact hrl2.take _)
  have hle48 : (l2.take k48).length = k48 := by rw [List.length_take]; omega
  refine Wl.q rfl rfl (OpQ.move rfl) ?_
  refine Wl.g rfl rfl (OpG.callX K_go12 rfl (.cons .here .nil) (fun _ => (.cons .nil)) (fun w hH hp => word_spec w b48 a2 k48 cp2 (l2.take k48) hle48 (by omega) (hH.stays hrT48 (.cons .here .nil)) 0 (Nat.zero_le _) hp (1 + r15) 7 (by omega) (by omega))) ?_
  rintro ⟨ws, p50⟩ h50
  dsimp only at h50
  obtain ⟨⟨hwl, hwk⟩, h50p⟩ := h50
  refine Wl.know 50 (v' := sv ws) rfl rfl ?_
  obtain ⟨hlw1, hlw2⟩ := log_law (okL_mono hok (by omega)) (by omega) (show r24.toNat < xs.length by omega) (show r27.toNat < xs.length by omega) (show 0 ≤ r42 ∧ r42 < 3 by omega) (Tl.okW_mono hwk (by omega) (by omega)) (show ws.length ≤ 40 by omega)
  refine Wl.q rfl rfl (OpQ.assign rfl) ?_
  refine Wl.nil ?_
  refine PX.then_n ?_
  refine CT.seq ?_
  -- region 8: law.go:135
  refine CT.region ?_
  refine Wl.q rfl rfl (OpQ.move rfl) ?_
  refine Wl.q rfl rfl (OpQ.move rfl) ?_
  refine Wl.q rfl rfl (OpQ.move rfl) ?_
  refine Wl.g rfl rfl (OpG.callV K_go13 rfl (fun w hH => holds_spec w a46 c46 (xs ++ logT xs.length r24.toNat r27.toNat r42) (hH.rd (.there (.there (.there .here)))) (by simp [logT]; omega) (owns_cap (hH.holds _ (Has.mem (.there (.there (.there .here))))).1) (xs.length : Int) ws (by omega))) ?_
  rintro _ _
  refine Wl.q rfl rfl (OpQ.move rfl) ?_
  refine Wl.q rfl rfl (OpQ.move rfl) ?_
  refine Wl.q rfl rfl (OpQ.add rfl rfl (by omega)) ?_
  refine Wl.q rfl rfl (OpQ.move rfl) ?_
  refine Wl.g rfl rfl (OpG.callV K_go13 rfl (fun w hH => holds_spec w a46 c46 (xs ++ logT xs.length r24.toNat r27.toNat r42) (hH.rd (.there (.there (.there .here)))) (by simp [logT]; omega) (owns_cap (hH.holds _ (Has.mem (.there (.there (.there .here))))).1) ((xs.length : Int) + 3) ws (by omega))) ?_
  rintro _ _
  refine Wl.q rfl rfl (OpQ.neqB K_un4 rfl rfl) ?_
  refine Wl.know 60 (v' := .bool true) rfl (congrArg Value.bool hlw1) ?_
  refine Wl.q rfl rfl (OpQ.move rfl) ?_
  refine Wl.q rfl rfl (OpQ.move rfl) ?_
  refine Wl.q rfl rfl (OpQ.move rfl) ?_
  refine Wl.q rfl rfl (OpQ.move rfl) ?_
  refine Wl.g rfl rfl (OpG.callV K_go13 rfl (fun w hH => holds_spec w a46 c46 (xs ++ logT xs.length r24.toNat r27.toNat r42) (hH.rd (.there (.there (.there .here)))) (by simp [logT]; omega) (owns_cap (hH.holds _ (Has.mem (.there (.there (.there .here))))).1) ((r24.toNat : Nat) : Int) ws (by omega))) ?_
  rintro _ _
  refine Wl.q rfl rfl (OpQ.not rfl) ?_
  refine Wl.q rfl rfl (OpQ.move rfl) ?_
  refine Wl.split 67 rfl (fun hg67 => ?_) (fun hg67 => ?_)
  · -- t67 = True
    refine Wl.skip rfl rfl ?_
    refine Wl.skip rfl rfl ?_
    refine Wl.skip rfl rfl ?_
    refine Wl.skip rfl rfl ?_
    refine Wl.skip rfl rfl ?_
    refine Wl.q rfl rfl (OpQ.pickT rfl rfl) ?_
    refine Wl.q rfl rfl (OpQ.pickT rfl rfl) ?_
    refine Wl.q rfl rfl (OpQ.move rfl) ?_
    refine Wl.g rfl rfl (OpG.callV K_go14 rfl (fun w hH => known_spec w)) ?_
    rintro _ _
    refine Wl.know 76 (v' := .bool true) rfl (congrArg Value.bool rfl) ?_
    refine Wl.q rfl rfl (OpQ.pickT rfl rfl) ?_
    refine Wl.q rfl rfl (OpQ.assign rfl) ?_
    refine Wl.nil ?_
    refine PX.then_n ?_
    refine CT.ret ?_
    refine PX.ret1 rfl rfl (fun w' hH => ?_)
    exact ⟨rfl, hH.ext⟩
  · -- t67 = False
    refine Wl.q rfl rfl (OpQ.move rfl) ?_
    refine Wl.q rfl rfl (OpQ.move rfl) ?_
    refine Wl.q rfl rfl (OpQ.add rfl rfl (by omega)) ?_
    refine Wl.q rfl rfl (OpQ.move rfl) ?_
    refine Wl.g rfl rfl (OpG.callV K_go13 rfl (fun w hH => holds_spec w a46 c46 (xs ++ logT xs.length r24.toNat r27.toNat r42) (hH.rd (.there (.there (.there .here)))) (by simp [logT]; omega) (owns_cap (hH.holds _ (Has.mem (.there (.there (.there .here))))).1) ((xs.length : Int) + 4) ws (by omega))) ?_
    rintro _ _
    refine Wl.know 72 (v' := .bool true) rfl (congrArg Value.bool (hlw2 (by simpa using hg67))) ?_
    refine Wl.q rfl rfl (OpQ.pickF rfl rfl) ?_
    refine Wl.q rfl rfl (OpQ.pickT rfl rfl) ?_
    refine Wl.q rfl rfl (OpQ.move rfl) ?_
    refine Wl.g rfl rfl (OpG.callV K_go14 rfl (fun w hH => known_spec w)) ?_
    rintro _ _
    refine Wl.know 76 (v' := .bool true) rfl (congrArg Value.bool rfl) ?_
    refine Wl.q rfl rfl (OpQ.pickT rfl rfl) ?_
    refine Wl.q rfl rfl (OpQ.assign rfl) ?_
    refine Wl.nil ?_
    refine PX.then_n ?_
    refine CT.ret ?_
    refine PX.ret1 rfl rfl (fun w' hH => ?_)
    exact ⟨rfl, hH.ext⟩

theorem K_go15 : isGo Try.prog 15 = true := by kernel_rfl
theorem K_go16 : isGo Try.prog 16 = true := by kernel_rfl
set_option maxRecDepth 100000 in
/-- semigroup/semigrouplaw38.FirstorderMade -/
theorem FirstorderMade_spec (w : World) (a : Option Addr) (cp : Nat) (l : List Int) (hrl : Rd w a (l.map zi)) (hl : l.length ≤ cp) (how at_ v : Int) : Calls Try.prog 5 #[.slice a l.length cp, .int .i64 (how), .int .i64 (at_), .int .i64 (v)] w (fun e w' => e = .returned (.bool true) ∧ Ext [] w w') := by
  refine enter (args := [.slice a l.length cp, .int .i64 (how), .int .i64 (at_), .int .i64 (v)]) [] 93 Try.func5 rfl rfl rfl ?_
  refine CT.seq ?_
  -- region 0: law.go:59
  refine CT.region ?_
  refine Wl.q rfl rfl (OpQ.assign rfl) ?_
  refine Wl.nil ?_
  refine PX.then_n ?_
  refine CT.seq ?_
  -- region 1: law.go:60
  refine CT.region ?_
  refine Wl.q rfl rfl (OpQ.move rfl) ?_
  refine Wl.g rfl rfl (OpG.callX K_go9 rfl .nil (fun _ => (.cons .nil)) (fun w hH hp => new_spec w a cp l hl)) ?_
  rintro ⟨b16, k16⟩ h16
  dsimp only at h16
  obtain ⟨hk16, hk16m⟩ := h16
  have hrT16 : Stays [] w (fun w => Rd w a ((l.take k16).map zi)) := Rd.stays (by rw [List.map_take]; exact hrl.take _)
  have hle16 : (l.take k16).length = k16 := by rw [List.length_take]; omega
  refine Wl.q rfl rfl (OpQ.assign rfl) ?_
  refine Wl.nil ?_
  refine PX.then_n ?_
  refine CT.seq ?_
  -- region 2: law.go:61
  refine CT.region ?_
  refine Wl.q rfl rfl (OpQ.move rfl) ?_
  refine Wl.g rfl rfl (OpG.callX K_go10 rfl (.cons .here .nil) (fun _ => (.cons .nil)) (fun w hH hp => next_spec w b16 a k16 cp (l.take k16) hle16 (by omega) (hH.stays hrT16 (.cons .here .nil)) 0 (Nat.zero_le _) hp (3) (by omega))) ?_
  rintro ⟨r18, p18⟩ h18
  dsimp only at h18
  obtain ⟨⟨h18a, h18b⟩, h18p⟩ := h18
  refine Wl.know 18 (v' := .int .i64 r18) rfl rfl ?_
  refine Wl.q rfl rfl (OpQ.add rfl rfl (by omega)) ?_
  refine Wl.q rfl rfl (OpQ.assign rfl) ?_
  refine Wl.nil ?_
  refine PX.then_n ?_
  refine CT.seq ?_
  -- region 3: law.go:62
  refine CT.region ?_
  refine Wl.q rfl rfl (OpQ.move rfl) ?_
  refine Wl.q rfl rfl (OpQ.move rfl) ?_
  refine Wl.g rfl rfl (OpG.callX K_go11 rfl (.cons .here .nil) (fun _ => (.cons (.cons .nil))) (fun w hH hp => list_spec w b16 a k16 cp (l.take k16) hle16 (by omega) (hH.stays hrT16 (.cons .here .nil)) p18 h18p hp (1 + r18) 12 (by omega) (by omega))) ?_
  rintro ⟨xs, p22, a22, c22⟩ h22
  dsimp only at h22
  obtain ⟨⟨hok, hlen1, hlen8⟩, h22p⟩ := h22
  refine Wl.know 22 (v' := .slice a22 xs.length c22) rfl rfl ?_
  refine Wl.q rfl rfl (OpQ.assign rfl) ?_
  refine Wl.nil ?_
  refine PX.then_n ?_
  refine CT.seq ?_
  -- region 4: law.go:63
  refine CT.region ?_
  refine Wl.q rfl rfl (OpQ.move rfl) ?_
  refine Wl.q rfl rfl (OpQ.move rfl) ?_
  refine Wl.g rfl rfl (OpG.callX K_go12 rfl (.cons (.there .here) .nil) (fun _ => (.cons .nil)) (fun w hH hp => word_spec w b16 a k16 cp (l.take k16) hle16 (by omega) (hH.stays hrT16 (.cons (.there .here) .nil)) p22 h22p hp (1 + r18) 7 (by omega) (by omega))) ?_
  rintro ⟨ws, p25⟩ h25
  dsimp only at h25
  obtain ⟨⟨hwl, hwk⟩, h25p⟩ := h25
  refine Wl.know 25 (v' := sv ws) rfl rfl ?_
  refine Wl.q rfl rfl (OpQ.assign rfl) ?_
  refine Wl.nil ?_
  refine PX.then_n ?_
  refine CT.seq ?_
  -- region 5: law.go:64
  refine CT.region ?_
  refine Wl.q rfl rfl (OpQ.move rfl) ?_
  refine Wl.q rfl rfl (OpQ.len K_un26 rfl) ?_
  refine Wl.q rfl rfl (OpQ.sub rfl rfl (by omega)) ?_
  refine Wl.q rfl rfl (OpQ.assign rfl) ?_
  refine Wl.nil ?_
  refine PX.then_n ?_
  refine CT.seq ?_
  refine CT.seq ?_
  -- region 6: law.go:65
  refine CT.region ?_
  refine Wl.q rfl rfl (OpQ.move rfl) ?_
  refine Wl.q rfl rfl (OpQ.move rfl) ?_
  refine Wl.q rfl rfl (OpQ.move rfl) ?_
  refine Wl.q rfl rfl (OpQ.move rfl) ?_
  refine Wl.g rfl rfl (OpG.callV K_go15 rfl (fun w hH => all_spec w a22 c22 xs (hH.rd (.there .here)) (by omega) (owns_cap (hH.holds _ (Has.mem (.there .here))).1) ((xs.length : Int) - 1) (1 + r18) ws (by omega))) ?_
  rintro _ _
  refine Wl.know 33 (v' := .bool true) rfl (congrArg Value.bool rfl) ?_
  refine Wl.q rfl rfl (OpQ.not rfl) ?_
  refine Wl.nil ?_
  refine PX.then_n ?_
  refine CT.condF rfl ?_
  refine CT.skip ?_
  refine PX.then_n ?_
  refine CT.seq ?_
  -- region 8: law.go:68
  refine CT.region ?_
  refine Wl.fact (p := a22.isSome = true) (fun w hH => owns_isSome (hH.holds _ (Has.mem (.there .here))).1 (show xs.length ≠ 0 by omega)) (fun hia => ?_)
  refine Wl.q rfl rfl (OpQ.move rfl) ?_
  refine Wl.q rfl rfl (OpQ.move rfl) ?_
  refine Wl.q rfl rfl (OpQ.move rfl) ?_
  refine Wl.q rfl rfl (OpQ.len K_un26 rfl) ?_
  refine Wl.g rfl rfl (OpG.call K_go16 rfl (fun w hH => (mod_spec w _ (xs.length : Int) (by omega)).mono fun e w' ⟨r, h1, h2, h3⟩ => ⟨r, h1, h2, hH.ext_nil h3⟩)) ?_
  rintro r39 h39
  obtain ⟨h39a, h39b⟩ := h39
  refine Wl.know 39 (v' := .int .i64 (r39)) rfl rfl ?_
  refine Wl.q rfl rfl (OpQ.index K_un26 K_sz29 rfl rfl (by omega) hia) ?_
  refine Wl.q rfl rfl (OpQ.assign rfl) ?_
  refine Wl.nil ?_
  refine PX.then_n ?_
  refine CT.seq ?_
  -- region 9: law.go:69
  refine CT.region ?_
  refine Wl.q rfl rfl (OpQ.move rfl) ?_
  refine Wl.g rfl rfl (OpG.call K_go16 rfl (fun w hH => (mod_spec w _ 12 (by omega)).mono fun e w' ⟨r, h1, h2, h3⟩ => ⟨r, h1, h2, hH.ext_nil h3⟩)) ?_
  rintro r42 h42
  obtain ⟨h42a, h42b⟩ := h42
  refine Wl.know 42 (v' := .int .i64 (r42)) rfl rfl ?_
  refine Wl.q rfl rfl (OpQ.sub rfl rfl (by omega)) ?_
  refine Wl.q rfl rfl (OpQ.assign rfl) ?_
  refine Wl.nil ?_
  refine PX.then_n ?_
  refine CT.cut (ι := List Fm × Int) (Φ := fun (ys, root) => ys.length = xs.length) (E' := fun (ys, root) => [(10, .int .i64 (1 + r18)), (11, .slice a22 xs.length c22), (12, sv ws), (13, .int .i64 (root))]) (H' := fun (ys, root) => [.row 55 2 (vb b16) 1 [.slice a k16 cp, .int .i64 ((p25 : Nat) : Int)], .row 29 6 (.slice a22 xs.length c22) xs.length (ys.flatMap fv)]) (fun K0 hK0 => ?_) (fun ⟨ys, root⟩ hys => ?_)
  · -- up to the join
    refine CT.seq ?_
    -- region 10: law.go:70
    refine CT.region ?_
    refine Wl.q rfl rfl (OpQ.move rfl) ?_
    refine Wl.g rfl rfl (OpG.call K_go16 rfl (fun w hH => (mod_spec w _ 7 (by omega)).mono fun e w' ⟨r, h1, h2, h3⟩ => ⟨r, h1, h2, hH.ext_nil h3⟩)) ?_
    rintro r45 h45
    obtain ⟨h45a, h45b⟩ := h45
    refine Wl.know 45 (v' := .int .i64 (r45)) rfl rfl ?_
    refine Wl.nil ?_
    refine PX.then_n ?_
    refine CT.block ?_
    refine CT.seq ?_
    -- region 11: law.go:71
    refine CT.region ?_
    refine Wl.q rfl rfl (OpQ.eql rfl rfl) ?_
    refine Wl.q rfl rfl (OpQ.assign rfl) ?_
    refine Wl.nil ?_
    refine PX.then_n ?_
    refine CT.cond rfl (fun h46 => ?_) (fun h46 => ?_)
    · -- if t46: then
      have h46 := of_decide_eq_true h46
      -- region 12: law.go:72
      refine CT.region ?_
      refine Wl.q rfl rfl (OpQ.move rfl) ?_
      refine Wl.q rfl rfl (OpQ.move rfl) ?_
      refine Wl.q rfl rfl (OpQ.nilCheckP rfl) ?_
      refine Wl.q rfl rfl (OpQ.fieldAddr K_fa29_0 rfl) ?_
      refine Wl.g rfl rfl (OpG.storeRowF (i := r39.toNat * 6) (j := 0) K_sz3 rfl rfl rfl (by repeat (first | exact Upd.here | apply Upd.there)) (by rw [flat_len fv_len]; show _ < xs.length * 6; omega)) ?_
      rintro _ _
      refine Wl.nil ?_
      refine PX.block_n ?_
      exact PX.cut hK0 (xs.set r39.toNat { (xs.getD r39.toNat f0) with op := r42 - 1 }, (xs.length : Int) - 1) (show (xs.set _ _).length = xs.length by rw [List.length_set]) ⟨rfl, rfl, rfl, rfl, trivial⟩ (.keep rfl (.keep (row_eq (flat_put fv_len xs f0 (o := 0) (by omega) (by decide) rfl)) .nil))
    · -- if t46: else
      have h46 := of_decide_eq_false h46
      refine CT.seq ?_
      -- region 13: law.go:73
      refine CT.region ?_
      refine Wl.q rfl rfl (OpQ.eql rfl rfl) ?_
      refine Wl.q rfl rfl (OpQ.assign rfl) ?_
      refine Wl.nil ?_
      refine PX.then_n ?_
      refine CT.cond rfl (fun h52 => ?_) (fun h52 => ?_)
      · -- if t52: then
        have h52 := of_decide_eq_true h52
        -- region 14: law.go:74
        refine CT.region ?_
        refine Wl.q rfl rfl (OpQ.move rfl) ?_
        refine Wl.q rfl rfl (OpQ.move rfl) ?_
        refine Wl.q rfl rfl (OpQ.nilCheckP rfl) ?_
        refine Wl.q rfl rfl (OpQ.fieldAddr K_fa29_1 rfl) ?_
        refine Wl.g rfl rfl (OpG.storeRowF (i := r39.toNat * 6) (j := 1) K_sz3 rfl rfl rfl (by repeat (first | exact Upd.here | apply Upd.there)) (by rw [flat_len fv_len]; show _ < xs.length * 6; omega)) ?_
        rintro _ _
        refine Wl.nil ?_
        refine PX.block_n ?_
        exact PX.cut hK0 (xs.set r39.toNat { (xs.getD r39.toNat f0) with x := r42 - 1 }, (xs.length : Int) - 1) (show (xs.set _ _).length = xs.length by rw [List.length_set]) ⟨rfl, rfl, rfl, rfl, trivial⟩ (.keep rfl (.keep (row_eq (flat_put fv_len xs f0 (o := 1) (by omega) (by decide) rfl)) .nil))
      · -- if t52: else
        have h52 := of_decide_eq_false h52
        refine CT.seq ?_
        -- region 15: law.go:75
        refine CT.region ?_
        refine Wl.q rfl rfl (OpQ.eql rfl rfl) ?_
        refine Wl.q rfl rfl (OpQ.assign rfl) ?_
        refine Wl.nil ?_
        refine PX.then_n ?_
        refine CT.cond rfl (fun h58 => ?_) (fun h58 => ?_)
        · -- if t58: then
          have h58 := of_decide_eq_true h58
          -- region 16: law.go:76
          refine CT.region ?_
          refine Wl.q rfl rfl (OpQ.move rfl) ?_
          refine Wl.q rfl rfl (OpQ.move rfl) ?_
          refine Wl.q rfl rfl (OpQ.nilCheckP rfl) ?_
          refine Wl.q rfl rfl (OpQ.fieldAddr K_fa29_2 rfl) ?_
          refine Wl.g rfl rfl (OpG.storeRowF (i := r39.toNat * 6) (j := 2) K_sz3 rfl rfl rfl (by repeat (first | exact Upd.here | apply Upd.there)) (by rw [flat_len fv_len]; show _ < xs.length * 6; omega)) ?_
          rintro _ _
          refine Wl.nil ?_
          refine PX.block_n ?_
          exact PX.cut hK0 (xs.set r39.toNat { (xs.getD r39.toNat f0) with y := r42 - 1 }, (xs.length : Int) - 1) (show (xs.set _ _).length = xs.length by rw [List.length_set]) ⟨rfl, rfl, rfl, rfl, trivial⟩ (.keep rfl (.keep (row_eq (flat_put fv_len xs f0 (o := 2) (by omega) (by decide) rfl)) .nil))
        · -- if t58: else
          have h58 := of_decide_eq_false h58
          refine CT.seq ?_
          -- region 17: law.go:77
          refine CT.region ?_
          refine Wl.q rfl rfl (OpQ.eql rfl rfl) ?_
          refine Wl.q rfl rfl (OpQ.assign rfl) ?_
          refine Wl.nil ?_
          refine PX.then_n ?_
          refine CT.cond rfl (fun h64 => ?_) (fun h64 => ?_)
          · -- if t64: then
            have h64 := of_decide_eq_true h64
            -- region 18: law.go:78
            refine CT.region ?_
            refine Wl.q rfl rfl (OpQ.move rfl) ?_
            refine Wl.q rfl rfl (OpQ.move rfl) ?_
            refine Wl.q rfl rfl (OpQ.nilCheckP rfl) ?_
            refine Wl.q rfl rfl (OpQ.fieldAddr K_fa29_3 rfl) ?_
            refine Wl.g rfl rfl (OpG.storeRowF (i := r39.toNat * 6) (j := 3) K_sz3 rfl rfl rfl (by repeat (first | exact Upd.here | apply Upd.there)) (by rw [flat_len fv_len]; show _ < xs.length * 6; omega)) ?_
            rintro _ _
            refine Wl.nil ?_
            refine PX.block_n ?_
            exact PX.cut hK0 (xs.set r39.toNat { (xs.getD r39.toNat f0) with lt := r42 - 1 }, (xs.length : Int) - 1) (show (xs.set _ _).length = xs.length by rw [List.length_set]) ⟨rfl, rfl, rfl, rfl, trivial⟩ (.keep rfl (.keep (row_eq (flat_put fv_len xs f0 (o := 3) (by omega) (by decide) rfl)) .nil))
          · -- if t64: else
            have h64 := of_decide_eq_false h64
            refine CT.seq ?_
            -- region 19: law.go:79
            refine CT.region ?_
            refine Wl.q rfl rfl (OpQ.eql rfl rfl) ?_
            refine Wl.q rfl rfl (OpQ.assign rfl) ?_
            refine Wl.nil ?_
            refine PX.then_n ?_
            refine CT.cond rfl (fun h70 => ?_) (fun h70 => ?_)
            · -- if t70: then
              have h70 := of_decide_eq_true h70
              -- region 20: law.go:80
              refine CT.region ?_
              refine Wl.q rfl rfl (OpQ.move rfl) ?_
              refine Wl.q rfl rfl (OpQ.move rfl) ?_
              refine Wl.q rfl rfl (OpQ.nilCheckP rfl) ?_
              refine Wl.q rfl rfl (OpQ.fieldAddr K_fa29_4 rfl) ?_
              refine Wl.g rfl rfl (OpG.storeRowF (i := r39.toNat * 6) (j := 4) K_sz3 rfl rfl rfl (by repeat (first | exact Upd.here | apply Upd.there)) (by rw [flat_len fv_len]; show _ < xs.length * 6; omega)) ?_
              rintro _ _
              refine Wl.nil ?_
              refine PX.block_n ?_
              exact PX.cut hK0 (xs.set r39.toNat { (xs.getD r39.toNat f0) with a := r42 - 1 }, (xs.length : Int) - 1) (show (xs.set _ _).length = xs.length by rw [List.length_set]) ⟨rfl, rfl, rfl, rfl, trivial⟩ (.keep rfl (.keep (row_eq (flat_put fv_len xs f0 (o := 4) (by omega) (by decide) rfl)) .nil))
            · -- if t70: else
              have h70 := of_decide_eq_false h70
              refine CT.seq ?_
              -- region 21: law.go:81
              refine CT.region ?_
              refine Wl.q rfl rfl (OpQ.eql rfl rfl) ?_
              refine Wl.q rfl rfl (OpQ.assign rfl) ?_
              refine Wl.nil ?_
              refine PX.then_n ?_
              refine CT.cond rfl (fun h76 => ?_) (fun h76 => ?_)
              · -- if t76: then
                have h76 := of_decide_eq_true h76
                -- region 22: law.go:82
                refine CT.region ?_
                refine Wl.q rfl rfl (OpQ.move rfl) ?_
                refine Wl.q rfl rfl (OpQ.move rfl) ?_
                refine Wl.q rfl rfl (OpQ.nilCheckP rfl) ?_
                refine Wl.q rfl rfl (OpQ.fieldAddr K_fa29_5 rfl) ?_
                refine Wl.g rfl rfl (OpG.storeRowF (i := r39.toNat * 6) (j := 5) K_sz3 rfl rfl rfl (by repeat (first | exact Upd.here | apply Upd.there)) (by rw [flat_len fv_len]; show _ < xs.length * 6; omega)) ?_
                rintro _ _
                refine Wl.nil ?_
                refine PX.block_n ?_
                exact PX.cut hK0 (xs.set r39.toNat { (xs.getD r39.toNat f0) with b := r42 - 1 }, (xs.length : Int) - 1) (show (xs.set _ _).length = xs.length by rw [List.length_set]) ⟨rfl, rfl, rfl, rfl, trivial⟩ (.keep rfl (.keep (row_eq (flat_put fv_len xs f0 (o := 5) (by omega) (by decide) rfl)) .nil))
              · -- if t76: else
                have h76 := of_decide_eq_false h76
                refine CT.seq ?_
                -- region 23: law.go:83
                refine CT.region ?_
                refine Wl.q rfl rfl (OpQ.eql rfl rfl) ?_
                refine Wl.q rfl rfl (OpQ.assign rfl) ?_
                refine Wl.nil ?_
                refine PX.then_n ?_
                refine CT.cond rfl (fun h82 => ?_) (fun h82 => ?_)
                · -- if t82: then
                  have h82 := of_decide_eq_true h82
                  -- region 24: law.go:84
                  refine CT.region ?_
                  refine Wl.q rfl rfl (OpQ.move rfl) ?_
                  refine Wl.q rfl rfl (OpQ.assign rfl) ?_
                  refine Wl.nil ?_
                  refine PX.block_n ?_
                  exact PX.cut hK0 (xs, r42 - 1) (show xs.length = xs.length from rfl) ⟨rfl, rfl, rfl, rfl, trivial⟩ (HSub.refl _)
                · -- if t82: else
                  have h82 := of_decide_eq_false h82
                  refine CT.skip ?_
                  refine PX.block_n ?_
                  exact PX.cut hK0 (xs, (xs.length : Int) - 1) (show xs.length = xs.length from rfl) ⟨rfl, rfl, rfl, rfl, trivial⟩ (HSub.refl _)
  · -- from the join on
    dsimp only
    have hys : ys.length = xs.length := hys
    refine CT.know 11 (v' := .slice a22 ys.length c22) rfl (by rw [hys]) ?_
    refine CT.mem (.keep rfl (.keep (row_len hys) .nil)) ?_
    refine CT.seq ?_
    -- region 25: law.go:86
    refine CT.region ?_
    refine Wl.q rfl rfl (OpQ.move rfl) ?_
    refine Wl.q rfl rfl (OpQ.move rfl) ?_
    refine Wl.q rfl rfl (OpQ.move rfl) ?_
    refine Wl.q rfl rfl (OpQ.move rfl) ?_
    refine Wl.g rfl rfl (OpG.callV K_go15 rfl (fun w hH => all_spec w a22 c22 ys (hH.rd (.there .here)) (by omega) (owns_cap (hH.holds _ (Has.mem (.there .here))).1) root (1 + r18) ws (by omega))) ?_
    rintro _ _
    refine Wl.know 89 (v' := .bool true) rfl (congrArg Value.bool rfl) ?_
    refine Wl.q rfl rfl (OpQ.move rfl) ?_
    refine Wl.g rfl rfl (OpG.callV K_go14 rfl (fun w hH => known_spec w)) ?_
    rintro _ _
    refine Wl.q rfl rfl (OpQ.pickT rfl rfl) ?_
    refine Wl.q rfl rfl (OpQ.assign rfl) ?_
    refine Wl.nil ?_
    refine PX.then_n ?_
    refine CT.ret ?_
    refine PX.ret1 rfl rfl (fun w' hH => ?_)
    exact ⟨rfl, hH.ext⟩

end Go.Proofs.Ytdcjemjfliaaiaa
