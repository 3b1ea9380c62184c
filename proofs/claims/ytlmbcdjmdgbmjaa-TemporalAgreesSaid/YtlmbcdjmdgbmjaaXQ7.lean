/-
  What functions of the program compute, each by its walk. Conditions: those that each theorem names.
-/
import Derived.Test.YtlmbcdjmdgbmjaaXQ5
import Derived.Test.YtlmbcdjmdgbmjaaXQ6
set_option linter.unusedSimpArgs false
namespace Go.Proofs.Ytlmbcdjmdgbmjaa
open Go Go.Eng Go.Tl
open Go.Tp (zi)

theorem F_go13 : isGo Try.prog 13 = true := by kernel_rfl
theorem F_pl31 : placesB Try.prog 31 = some (#[.int .i64 0, .int .i64 0, .int .i64 0, .int .i64 0], [(0, 1), (1, 1), (2, 1), (3, 1)]) := by kernel_rfl
theorem F_in31 : (Try.prog.info? 31).map (fun i => (i.zero, i.size, i.bytes)) = some (some (.agg #[.int .i64 0, .int .i64 0, .int .i64 0, .int .i64 0]), 4, 32) := by kernel_rfl
theorem F_sz31 : sizeB Try.prog 31 = some 4 := by kernel_rfl
theorem F_fa31_0 : fieldB Try.prog 31 0 = some 0 := by kernel_rfl
theorem F_sz3 : sizeB Try.prog 3 = some 1 := by kernel_rfl
theorem F_sc3 : scalarB Try.prog 3 = some true := by kernel_rfl
theorem F_fa31_1 : fieldB Try.prog 31 1 = some 1 := by kernel_rfl
theorem F_fa31_2 : fieldB Try.prog 31 2 = some 2 := by kernel_rfl
theorem F_fa31_3 : fieldB Try.prog 31 3 = some 3 := by kernel_rfl
theorem F_ag31 : isAggB Try.prog 31 = some true := by kernel_rfl
theorem F_un22 : Try.prog.underlying 22 = some (.slice 31) := by kernel_rfl
set_option maxRecDepth 100000 in
/-- semigroup/semigrouplaw39.list -/
theorem list_spec (w : World) (b : Nat) (ta : Option Addr) (tn tc : Nat) (tl : List Int) (htl : tl.length = tn) (htm : tn ≤ 9223372036854775806) (hr : Stays [b] w (fun w => Rd w ta (tl.map zi))) (p : Nat) (hat : p ≤ tn) (hpre : Pre [.row 61 2 (vb b) 1 [.slice ta tn tc, .int .i64 ((p : Nat) : Int)]] w) (letters most : Int) (hle : 1 ≤ letters ∧ letters ≤ 6) (hmo : 1 ≤ most ∧ most ≤ 1000) : Calls Try.prog 14 #[.pointer (some ⟨b, 0, none⟩), .int .i64 (letters), .int .i64 (most)] w (fun e w' => ∃ i : List Tm × Nat × Option Addr × Nat, ((okL i.1 letters = true ∧ 1 ≤ i.1.length ∧ (i.1.length : Int) ≤ most) ∧ i.2.1 ≤ tn) ∧ e = .returned (.slice i.2.2.1 i.1.length i.2.2.2) ∧ Post [b] [.row 31 4 (.slice i.2.2.1 i.1.length i.2.2.2) i.1.length (i.1.flatMap tv), .row 61 2 (vb b) 1 [.slice ta tn tc, .int .i64 ((i.2.1 : Nat) : Int)]] w w') := by
 refine enterX (args := [.pointer (some ⟨b, 0, none⟩), .int .i64 (letters), .int .i64 (most)]) hpre 62 Try.func14 rfl rfl rfl ?_
 refine CT.seq ?_
 refine CT.region ?_
 refine Wl.q rfl rfl (OpQ.assign rfl) ?_
 refine Wl.nil ?_
 refine PX.then_n ?_
 refine CT.seq ?_
 refine CT.region ?_
 refine Wl.q rfl rfl (OpQ.assign rfl) ?_
 refine Wl.nil ?_
 refine PX.then_n ?_
 refine CT.seq ?_
 refine CT.region ?_
 refine Wl.q rfl rfl (OpQ.move rfl) ?_
 refine Wl.q rfl rfl (OpQ.move rfl) ?_
 refine Wl.g rfl rfl (OpG.callX F_go13 rfl (.cons .here .nil) (fun _ => (.cons .nil)) (fun w hH hp => next_spec w b ta tn tc tl htl htm (hH.stays hr (.cons .here .nil)) p hat hp (most) (by omega))) ?_
 rintro ⟨r13, p13⟩ h13
 dsimp only at h13
 obtain ⟨⟨h13a, h13b⟩, h13p⟩ := h13
 refine Wl.know 13 (v' := .int .i64 r13) rfl rfl ?_
 refine Wl.q rfl rfl (OpQ.add rfl rfl (by omega)) ?_
 refine Wl.q rfl rfl (OpQ.assign rfl) ?_
 refine Wl.nil ?_
 refine PX.then_n ?_
 refine CT.seq ?_
 refine CT.seq ?_
 refine CT.region ?_
 refine Wl.q rfl rfl (OpQ.assign rfl) ?_
 refine Wl.nil ?_
 refine PX.then_n ?_
 refine CT.block ?_
 refine CT.nilrow 31 4 ?_
 refine CT.loop (ι := List Tm × Nat × Option Addr × Nat) (fun (xs, p', a', c') => okL xs letters = true ∧ (xs.length : Int) ≤ 1 + r13 ∧ p' ≤ tn) (fun (xs, p', a', c') => [(0, .pointer (some ⟨b, 0, none⟩)), (1, .int .i64 (letters)), (7, .slice a' xs.length c'), (8, .int .i64 (1 + r13)), (9, .int .i64 (xs.length : Int))]) (fun (xs, p', a', c') => [.row 31 4 (.slice a' xs.length c') xs.length (xs.flatMap tv), .row 61 2 (vb b) 1 [.slice ta tn tc, .int .i64 ((p' : Nat) : Int)]]) (fun (xs, p', a', c') => (1 + r13).toNat - xs.length) ([], p13, none, 0) ⟨okL_nil _, by dsimp only [List.length_nil]; omega, h13p⟩ ⟨rfl, rfl, rfl, rfl, rfl, trivial⟩ (.keep rfl (.keep rfl .nil)) (fun ⟨xs, p', a', c'⟩ ⟨hok, hlen, hat'⟩ K0 hK0 => ?_)
 dsimp only
 refine CT.seq ?_
 refine CT.seq ?_
 refine CT.region ?_
 refine Wl.q rfl rfl (OpQ.move rfl) ?_
 refine Wl.q rfl rfl (OpQ.move rfl) ?_
 refine Wl.q rfl rfl (OpQ.lss rfl rfl) ?_
 refine Wl.nil ?_
 refine PX.then_n ?_
 refine CT.cond rfl (fun h17 => ?_) (fun h17 => ?_)
 ·
  have h17 := of_decide_eq_true h17
  refine CT.skip ?_
  refine PX.then_n ?_
  refine CT.seq ?_
  refine CT.block ?_
  refine CT.seq ?_
  refine CT.region ?_
  refine Wl.q rfl rfl (OpQ.move rfl) ?_
  refine Wl.g rfl rfl (OpG.callX F_go13 rfl (.cons (.there .here) .nil) (fun _ => (.cons .nil)) (fun w hH hp => next_spec w b ta tn tc tl htl htm (hH.stays hr (.cons (.there .here) .nil)) p' hat' hp (8) (by omega))) ?_
  rintro ⟨r21, p21⟩ h21
  dsimp only at h21
  obtain ⟨⟨h21a, h21b⟩, h21p⟩ := h21
  refine Wl.know 21 (v' := .int .i64 r21) rfl rfl ?_
  refine Wl.q rfl rfl (OpQ.add rfl rfl (by omega)) ?_
  refine Wl.q rfl rfl (OpQ.build (cells := #[_, .int .i64 0, .int .i64 0, .int .i64 0]) F_pl31 rfl rfl) ?_
  refine Wl.g rfl rfl (OpG.alloc (zs := [.int .i64 0, .int .i64 0, .int .i64 0, .int .i64 0]) F_in31 rfl rfl) ?_
  rintro b10 _
  refine Wl.g rfl rfl (OpG.storeV (b := b10) F_sz31 rfl rfl rfl rfl (by repeat (first | exact Upd.here | apply Upd.there))) ?_
  rintro _ _
  refine Wl.nil ?_
  refine PX.then_n ?_
  refine CT.cut (ι := Int × Nat) (Φ := fun (op, pp) => (1 ≤ op ∧ op ≤ 8) ∧ (xs.length = 0 → op ≤ 3) ∧ pp ≤ tn) (E' := fun (op, pp) => [(0, .pointer (some ⟨b, 0, none⟩)), (1, .int .i64 (letters)), (7, .slice a' xs.length c'), (8, .int .i64 (1 + r13)), (9, .int .i64 (xs.length : Int)), (10, .pointer (some ⟨b10, 0, none⟩))]) (H' := fun (op, pp) => [.row 61 2 (vb b) 1 [.slice ta tn tc, .int .i64 ((pp : Nat) : Int)], .row 31 4 (vb b10) 1 [.int .i64 op, .int .i64 0, .int .i64 0, .int .i64 0], .row 31 4 (.slice a' xs.length c') xs.length (xs.flatMap tv)]) (fun K1 hK1 => ?_) (fun ⟨op, pp⟩ ⟨ho, ho3, hpp⟩ => ?_)
  ·
   refine CT.seq ?_
   refine CT.region ?_
   refine Wl.q rfl rfl (OpQ.move rfl) ?_
   refine Wl.q rfl rfl (OpQ.eql rfl rfl) ?_
   refine Wl.nil ?_
   refine PX.then_n ?_
   refine CT.cond rfl (fun h25 => ?_) (fun h25 => ?_)
   ·
    have h25 := of_decide_eq_true h25
    refine CT.region ?_
    refine Wl.q rfl rfl (OpQ.move rfl) ?_
    refine Wl.g rfl rfl (OpG.callX F_go13 rfl (.cons (.there .here) .nil) (fun _ => (.cons .nil)) (fun w hH hp => next_spec w b ta tn tc tl htl htm (hH.stays hr (.cons (.there .here) .nil)) p21 h21p hp (3) (by omega))) ?_
    rintro ⟨r27, p27⟩ h27
    dsimp only at h27
    obtain ⟨⟨h27a, h27b⟩, h27p⟩ := h27
    refine Wl.know 27 (v' := .int .i64 r27) rfl rfl ?_
    refine Wl.q rfl rfl (OpQ.add rfl rfl (by omega)) ?_
    refine Wl.q rfl rfl (OpQ.fieldAddr F_fa31_0 rfl) ?_
    refine Wl.g rfl rfl (OpG.storeRow (a := some ⟨b10, 0, none⟩) F_sz3 rfl rfl rfl (by repeat (first | exact Upd.here | apply Upd.there)) (by simp)) ?_
    rintro _ _
    refine Wl.nil ?_
    exact PX.cut hK1 (1 + r27, p27) ⟨by first | omega | (dsimp only; omega), by first | omega | (dsimp only; omega), h27p⟩ ⟨rfl, rfl, rfl, rfl, rfl, rfl, trivial⟩ (HSub.refl _)
   ·
    have h25 := of_decide_eq_false h25
    refine CT.skip ?_
    refine PX.as (fun _ h => h.take (.cons (.there .here) (.cons .here (.cons .here .nil)))) ?_
    exact PX.cut hK1 (1 + r21, p21) ⟨by first | omega | (dsimp only; omega), by first | omega | (dsimp only; omega), h21p⟩ ⟨rfl, rfl, rfl, rfl, rfl, rfl, trivial⟩ (HSub.refl _)
  ·
   dsimp only
   refine CT.cut (ι := Tm × Nat) (Φ := fun (x, pp) => okF x xs.length letters = true ∧ pp ≤ tn) (E' := fun (x, pp) => [(0, .pointer (some ⟨b, 0, none⟩)), (1, .int .i64 (letters)), (7, .slice a' xs.length c'), (8, .int .i64 (1 + r13)), (9, .int .i64 (xs.length : Int)), (10, .pointer (some ⟨b10, 0, none⟩))]) (H' := fun (x, pp) => [.row 61 2 (vb b) 1 [.slice ta tn tc, .int .i64 ((pp : Nat) : Int)], .row 31 4 (vb b10) 1 (tv x), .row 31 4 (.slice a' xs.length c') xs.length (xs.flatMap tv)]) (fun K2 hK2 => ?_) (fun ⟨x, pp⟩ ⟨hx, hpp⟩ => ?_)
   ·
    refine CT.seq ?_
    refine CT.region ?_
    refine Wl.q rfl rfl (OpQ.fieldAddr F_fa31_0 rfl) ?_
    refine Wl.q rfl rfl (OpQ.loadF (b := b10) F_sc3 rfl (by repeat (first | exact Has.here | apply Has.there)) (by rfl)) ?_
    refine Wl.nil ?_
    refine PX.then_n ?_
    refine CT.block ?_
    refine CT.seq ?_
    refine CT.region ?_
    refine Wl.q rfl rfl (OpQ.eql rfl rfl) ?_
    refine Wl.q rfl rfl (OpQ.assign rfl) ?_
    refine Wl.nil ?_
    refine PX.then_n ?_
    refine CT.cond rfl (fun h32 => ?_) (fun h32 => ?_)
    ·
     have h32 := of_decide_eq_true h32
     refine CT.region ?_
     refine Wl.q rfl rfl (OpQ.move rfl) ?_
     refine Wl.q rfl rfl (OpQ.move rfl) ?_
     refine Wl.g rfl rfl (OpG.callX F_go13 rfl (.cons .here .nil) (fun _ => (.cons .nil)) (fun w hH hp => next_spec w b ta tn tc tl htl htm (hH.stays hr (.cons .here .nil)) pp hpp hp (letters) (by omega))) ?_
     rintro ⟨r36, p36⟩ h36
     dsimp only at h36
     obtain ⟨⟨h36a, h36b⟩, h36p⟩ := h36
     refine Wl.know 36 (v' := .int .i64 r36) rfl rfl ?_
     refine Wl.q rfl rfl (OpQ.fieldAddr F_fa31_1 rfl) ?_
     refine Wl.g rfl rfl (OpG.storeRow (a := some ⟨b10, 0, none⟩) F_sz3 rfl rfl rfl (by repeat (first | exact Upd.here | apply Upd.there)) (by simp)) ?_
     rintro _ _
     refine Wl.nil ?_
     refine PX.block_n ?_
     exact PX.cut hK2 (⟨op, r36, 0, 0⟩, p36) ⟨okF_of (by omega) (by omega) (by omega) (by omega), by first | assumption | (dsimp only; omega)⟩ ⟨rfl, rfl, rfl, rfl, rfl, rfl, trivial⟩ (.keep rfl (.keep rfl (.keep rfl .nil)))
    ·
     have h32 := of_decide_eq_false h32
     refine CT.cut (ι := Unit) (Φ := fun _ => True) (E' := fun _ => [(0, .pointer (some ⟨b, 0, none⟩)), (1, .int .i64 (letters)), (7, .slice a' xs.length c'), (8, .int .i64 (1 + r13)), (9, .int .i64 (xs.length : Int)), (10, .pointer (some ⟨b10, 0, none⟩)), (31, .int .i64 (op)), (38, .bool (decide (op = 4 ∨ op = 7)))]) (H' := fun _ => [.row 61 2 (vb b) 1 [.slice ta tn tc, .int .i64 ((pp : Nat) : Int)], .row 31 4 (vb b10) 1 [.int .i64 op, .int .i64 0, .int .i64 0, .int .i64 0], .row 31 4 (.slice a' xs.length c') xs.length (xs.flatMap tv)]) (fun K3 hK3 => ?_) (fun _ _ => ?_)
     ·
      refine CT.seq ?_
      refine CT.region ?_
      refine Wl.q rfl rfl (OpQ.eql rfl rfl) ?_
      refine Wl.q rfl rfl (OpQ.assign rfl) ?_
      refine Wl.nil ?_
      refine PX.then_n ?_
      refine CT.cond rfl (fun h38 => ?_) (fun h38 => ?_)
      ·
       have h38 := of_decide_eq_true h38
       refine CT.skip ?_
       exact PX.cut hK3 () trivial ⟨rfl, rfl, rfl, rfl, rfl, rfl, rfl, (lkV rfl (congrArg Value.bool (by rw [decide_eq_decide]; omega))), trivial⟩ (HSub.refl _)
      ·
       have h38 := of_decide_eq_false h38
       refine CT.region ?_
       refine Wl.q rfl rfl (OpQ.eql rfl rfl) ?_
       refine Wl.q rfl rfl (OpQ.assign rfl) ?_
       refine Wl.nil ?_
       exact PX.cut hK3 () trivial ⟨rfl, rfl, rfl, rfl, rfl, rfl, rfl, (lkV rfl (congrArg Value.bool (by rw [decide_eq_decide]; omega))), trivial⟩ (HSub.refl _)
     ·
      refine CT.cond rfl (fun h38 => ?_) (fun h38 => ?_)
      ·
       have h38 := of_decide_eq_true h38
       refine CT.region ?_
       refine Wl.q rfl rfl (OpQ.move rfl) ?_
       refine Wl.q rfl rfl (OpQ.move rfl) ?_
       refine Wl.g rfl rfl (OpG.callX F_go13 rfl (.cons .here .nil) (fun _ => (.cons .nil)) (fun w hH hp => next_spec w b ta tn tc tl htl htm (hH.stays hr (.cons .here .nil)) pp hpp hp ((xs.length : Int)) (by omega))) ?_
       rintro ⟨r43, p43⟩ h43
       dsimp only at h43
       obtain ⟨⟨h43a, h43b⟩, h43p⟩ := h43
       refine Wl.know 43 (v' := .int .i64 r43) rfl rfl ?_
       refine Wl.q rfl rfl (OpQ.fieldAddr F_fa31_2 rfl) ?_
       refine Wl.g rfl rfl (OpG.storeRow (a := some ⟨b10, 0, none⟩) F_sz3 rfl rfl rfl (by repeat (first | exact Upd.here | apply Upd.there)) (by simp)) ?_
       rintro _ _
       refine Wl.nil ?_
       refine PX.block_n ?_
       exact PX.cut hK2 (⟨op, 0, r43, 0⟩, p43) ⟨okF_of (by omega) (by omega) (by omega) (by omega), by first | assumption | (dsimp only; omega)⟩ ⟨rfl, rfl, rfl, rfl, rfl, rfl, trivial⟩ (.keep rfl (.keep rfl (.keep rfl .nil)))
      ·
       have h38 := of_decide_eq_false h38
       refine CT.cut (ι := Unit) (Φ := fun _ => True) (E' := fun _ => [(0, .pointer (some ⟨b, 0, none⟩)), (1, .int .i64 (letters)), (7, .slice a' xs.length c'), (8, .int .i64 (1 + r13)), (9, .int .i64 (xs.length : Int)), (10, .pointer (some ⟨b10, 0, none⟩)), (31, .int .i64 (op)), (45, .bool (decide (op = 5 ∨ op = 6 ∨ op = 8)))]) (H' := fun _ => [.row 61 2 (vb b) 1 [.slice ta tn tc, .int .i64 ((pp : Nat) : Int)], .row 31 4 (vb b10) 1 [.int .i64 op, .int .i64 0, .int .i64 0, .int .i64 0], .row 31 4 (.slice a' xs.length c') xs.length (xs.flatMap tv)]) (fun K4 hK4 => ?_) (fun _ _ => ?_)
       ·
        refine CT.seq ?_
        refine CT.region ?_
        refine Wl.q rfl rfl (OpQ.eql rfl rfl) ?_
        refine Wl.q rfl rfl (OpQ.assign rfl) ?_
        refine Wl.nil ?_
        refine PX.then_n ?_
        refine CT.cond rfl (fun h45 => ?_) (fun h45 => ?_)
        ·
         have h45 := of_decide_eq_true h45
         refine CT.skip ?_
         exact PX.cut hK4 () trivial ⟨rfl, rfl, rfl, rfl, rfl, rfl, rfl, (lkV rfl (congrArg Value.bool (by rw [decide_eq_decide]; omega))), trivial⟩ (HSub.refl _)
        ·
         have h45 := of_decide_eq_false h45
         refine CT.seq ?_
         refine CT.region ?_
         refine Wl.q rfl rfl (OpQ.eql rfl rfl) ?_
         refine Wl.q rfl rfl (OpQ.assign rfl) ?_
         refine Wl.nil ?_
         refine PX.then_n ?_
         refine CT.cond rfl (fun h45 => ?_) (fun h45 => ?_)
         ·
          have h45 := of_decide_eq_true h45
          refine CT.skip ?_
          exact PX.cut hK4 () trivial ⟨rfl, rfl, rfl, rfl, rfl, rfl, rfl, (lkV rfl (congrArg Value.bool (by rw [decide_eq_decide]; omega))), trivial⟩ (HSub.refl _)
         ·
          have h45 := of_decide_eq_false h45
          refine CT.region ?_
          refine Wl.q rfl rfl (OpQ.eql rfl rfl) ?_
          refine Wl.q rfl rfl (OpQ.assign rfl) ?_
          refine Wl.nil ?_
          exact PX.cut hK4 () trivial ⟨rfl, rfl, rfl, rfl, rfl, rfl, rfl, (lkV rfl (congrArg Value.bool (by rw [decide_eq_decide]; omega))), trivial⟩ (HSub.refl _)
       ·
        refine CT.cond rfl (fun h45 => ?_) (fun h45 => ?_)
        ·
         have h45 := of_decide_eq_true h45
         refine CT.region ?_
         refine Wl.q rfl rfl (OpQ.move rfl) ?_
         refine Wl.q rfl rfl (OpQ.move rfl) ?_
         refine Wl.g rfl rfl (OpG.callX F_go13 rfl (.cons .here .nil) (fun _ => (.cons .nil)) (fun w hH hp => next_spec w b ta tn tc tl htl htm (hH.stays hr (.cons .here .nil)) pp hpp hp ((xs.length : Int)) (by omega))) ?_
         rintro ⟨r51, p51⟩ h51
         dsimp only at h51
         obtain ⟨⟨h51a, h51b⟩, h51p⟩ := h51
         refine Wl.know 51 (v' := .int .i64 r51) rfl rfl ?_
         refine Wl.q rfl rfl (OpQ.move rfl) ?_
         refine Wl.q rfl rfl (OpQ.move rfl) ?_
         refine Wl.g rfl rfl (OpG.callX F_go13 rfl (.cons .here .nil) (fun _ => (.cons .nil)) (fun w hH hp => next_spec w b ta tn tc tl htl htm (hH.stays hr (.cons .here .nil)) p51 h51p hp ((xs.length : Int)) (by omega))) ?_
         rintro ⟨r54, p54⟩ h54
         dsimp only at h54
         obtain ⟨⟨h54a, h54b⟩, h54p⟩ := h54
         refine Wl.know 54 (v' := .int .i64 r54) rfl rfl ?_
         refine Wl.q rfl rfl (OpQ.fieldAddr F_fa31_2 rfl) ?_
         refine Wl.g rfl rfl (OpG.storeRow (a := some ⟨b10, 0, none⟩) F_sz3 rfl rfl rfl (by repeat (first | exact Upd.here | apply Upd.there)) (by simp)) ?_
         rintro _ _
         refine Wl.q rfl rfl (OpQ.fieldAddr F_fa31_3 rfl) ?_
         refine Wl.g rfl rfl (OpG.storeRow (a := some ⟨b10, 0, none⟩) F_sz3 rfl rfl rfl (by repeat (first | exact Upd.here | apply Upd.there)) (by simp)) ?_
         rintro _ _
         refine Wl.nil ?_
         refine PX.block_n ?_
         exact PX.cut hK2 (⟨op, 0, r51, r54⟩, p54) ⟨okF_of (by omega) (by omega) (by omega) (by omega), by first | assumption | (dsimp only; omega)⟩ ⟨rfl, rfl, rfl, rfl, rfl, rfl, trivial⟩ (.keep rfl (.keep rfl (.keep rfl .nil)))
        ·
         have h45 := of_decide_eq_false h45
         refine CT.skip ?_
         refine PX.block_n ?_
         exact PX.cut hK2 (⟨op, 0, 0, 0⟩, pp) ⟨okF_of (by omega) (by omega) (by omega) (by omega), by first | assumption | (dsimp only; omega)⟩ ⟨rfl, rfl, rfl, rfl, rfl, rfl, trivial⟩ (.keep rfl (.keep rfl (.keep rfl .nil)))
   ·
    dsimp only
    refine CT.region ?_
    refine Wl.q rfl rfl (OpQ.move rfl) ?_
    refine Wl.q rfl rfl (OpQ.loadV (b := b10) F_ag31 F_sz31 rfl (by repeat (first | exact Has.here | apply Has.there)) (by rfl)) ?_
    refine Wl.g rfl rfl (OpG.litS1 F_un22 F_in31 rfl (by decide) rfl) ?_
    rintro b59 _
    refine Wl.g rfl rfl (OpG.append F_un22 F_in31 (by rfl) (by decide) rfl rfl (p := 3) rfl (fun w hH => hH.rd .here) ⟨rfl, (by simp [Value.oneCell']), (by omega), (by omega)⟩ (nm := xs.length + 1) rfl (all := (xs ++ [x]).flatMap tv) (by simp)) ?_
    rintro ⟨a60, c60⟩ h60
    refine Wl.q rfl rfl (OpQ.assign rfl) ?_
    refine Wl.nil ?_
    refine PX.block_n ?_
    refine PX.then_n ?_
    refine CT.region ?_
    refine Wl.q rfl rfl (OpQ.move rfl) ?_
    refine Wl.q rfl rfl (OpQ.add rfl rfl (by omega)) ?_
    refine Wl.q rfl rfl (OpQ.assign rfl) ?_
    refine Wl.nil ?_
    refine PX.as (fun _ h => h.take (.cons (.there (.there (.there .here))) (.cons (.there .here) .nil))) ?_
    exact PX.loop hK0 (xs ++ [x], pp, a60, c60) ⟨okL_snoc hok hx, by simp; omega, hpp⟩ (by simp; omega) ⟨rfl, rfl, (lkV rfl (by rw [List.length_append]; rfl)), rfl, (lkV rfl (congrArg (Value.int .i64) (by simp))), trivial⟩ (.keep (by rw [List.length_append]; rfl) (.keep rfl .nil))
 ·
  have h17 := of_decide_eq_false h17
  refine CT.exit ?_
  refine PX.then_x ?_
  refine PX.then_x ?_
  refine PX.block_x ?_
  refine PX.then_n ?_
  refine CT.seq ?_
  refine CT.region ?_
  refine Wl.q rfl rfl (OpQ.move rfl) ?_
  refine Wl.q rfl rfl (OpQ.assign rfl) ?_
  refine Wl.nil ?_
  refine PX.then_n ?_
  refine CT.ret ?_
  refine PX.ret1 rfl rfl (fun w' hH => ?_)
  exact ⟨(xs, p', a', c'), ⟨⟨hok, by first | omega | (dsimp only; omega), by first | omega | (dsimp only; omega)⟩, hat'⟩, rfl, hH.post⟩

end Go.Proofs.Ytlmbcdjmdgbmjaa

