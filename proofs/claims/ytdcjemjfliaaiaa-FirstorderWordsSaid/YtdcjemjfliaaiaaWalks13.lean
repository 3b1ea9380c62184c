/-
  What functions of the packages firstorder, semigroupref38 and semigroupmade compute, each by its walk. Conditions: those that each theorem names.
-/
import Derived.Test.YtdcjemjfliaaiaaMod
import Derived.Test.YtdcjemjfliaaiaaWalks12
set_option linter.unusedSimpArgs false
namespace Go.Proofs.Ytdcjemjfliaaiaa
open Go Go.Eng Go.Fo Go.Sf
open Go.Tp (zi)
open Go.Tl (vf mayL Wd okW okB vf_t vf_f bo)

theorem YA_in40 : (Try.prog.info? 40).map (fun i => (i.zero, i.size, i.bytes)) = some (some (.agg #[.slice none 0 0, .int .i64 0]), 2, 32) := by kernel_rfl
theorem YA_go10 : isGo Try.prog 10 = true := by kernel_rfl
theorem YA_pl72 : placesB Try.prog 72 = some (#[.int .i64 0, .int .i64 0, .int .i64 0, .int .i64 0], [(0, 1), (1, 1), (2, 1), (3, 1)]) := by kernel_rfl
theorem YA_in72 : (Try.prog.info? 72).map (fun i => (i.zero, i.size, i.bytes)) = some (some (.agg #[.int .i64 0, .int .i64 0, .int .i64 0, .int .i64 0]), 4, 32) := by kernel_rfl
theorem YA_sz72 : sizeB Try.prog 72 = some 4 := by kernel_rfl
theorem YA_fa72_0 : fieldB Try.prog 72 0 = some 0 := by kernel_rfl
theorem YA_sc3 : scalarB Try.prog 3 = some true := by kernel_rfl
theorem YA_go16 : isGo Try.prog 16 = true := by kernel_rfl
theorem YA_sz3 : sizeB Try.prog 3 = some 1 := by kernel_rfl
theorem YA_fa72_1 : fieldB Try.prog 72 1 = some 1 := by kernel_rfl
theorem YA_fa72_2 : fieldB Try.prog 72 2 = some 2 := by kernel_rfl
theorem YA_fa72_3 : fieldB Try.prog 72 3 = some 3 := by kernel_rfl
theorem YA_fa40_0 : fieldB Try.prog 40 0 = some 0 := by kernel_rfl
theorem YA_sc38 : scalarB Try.prog 38 = some true := by kernel_rfl
theorem YA_ag72 : isAggB Try.prog 72 = some true := by kernel_rfl
theorem YA_un38 : Try.prog.underlying 38 = some (.slice 72) := by kernel_rfl
theorem YA_sz38 : sizeB Try.prog 38 = some 1 := by kernel_rfl
theorem YA_fa40_1 : fieldB Try.prog 40 1 = some 1 := by kernel_rfl
theorem YA_ag40 : isAggB Try.prog 40 = some true := by kernel_rfl
theorem YA_sz40 : sizeB Try.prog 40 = some 2 := by kernel_rfl
set_option maxRecDepth 100000 in
/-- (*semigroup/semigroupmade.Tape).Graph -/
theorem graph_spec (w : World) (b : Nat) (ta : Option Addr) (tn tc : Nat) (tl : List Int) (htl : tl.length = tn) (htm : tn ≤ 9223372036854775806) (hr : Stays [b] w (fun w => Rd w ta (tl.map zi))) (p : Nat) (hat : p ≤ tn) (hpre : Pre [.row 55 2 (vb b) 1 [.slice ta tn tc, .int .i64 ((p : Nat) : Int)]] w) (letters most : Int) (hle : 1 ≤ letters ∧ letters ≤ 6) (hmo : 1 ≤ most ∧ most ≤ 1000) : Calls Try.prog 17 #[.pointer (some ⟨b, 0, none⟩), .int .i64 (letters), .int .i64 (most)] w (fun e w' => ∃ i : List Nd × Nat × Option Addr × Nat, ((okG i.1 letters = true ∧ 1 ≤ i.1.length ∧ (i.1.length : Int) ≤ most) ∧ i.2.1 ≤ tn) ∧ e = .returned (.agg #[.slice i.2.2.1 i.1.length i.2.2.2, .int .i64 ((i.1.length : Int) - 1)]) ∧ Post [b] [.row 72 4 (.slice i.2.2.1 i.1.length i.2.2.2) i.1.length (i.1.flatMap nv), .row 55 2 (vb b) 1 [.slice ta tn tc, .int .i64 ((i.2.1 : Nat) : Int)]] w w') := by
  refine enterX (args := [.pointer (some ⟨b, 0, none⟩), .int .i64 (letters), .int .i64 (most)]) hpre 67 Try.func17 rfl rfl rfl ?_
  refine CT.seq ?_
  -- region 0: made.go:153
  refine CT.region ?_
  refine Wl.g rfl rfl (OpG.alloc (zs := [.slice none 0 0, .int .i64 0]) YA_in40 rfl rfl) ?_
  rintro b6 _
  refine Wl.nil ?_
  refine PX.then_n ?_
  refine CT.seq ?_
  -- region 1: made.go:154
  refine CT.region ?_
  refine Wl.g rfl rfl (OpG.alloc (zs := [.slice none 0 0, .int .i64 0]) YA_in40 rfl rfl) ?_
  rintro b7 _
  refine Wl.nil ?_
  refine PX.then_n ?_
  refine CT.seq ?_
  -- region 2: made.go:155
  refine CT.region ?_
  refine Wl.q rfl rfl (OpQ.move rfl) ?_
  refine Wl.q rfl rfl (OpQ.move rfl) ?_
  refine Wl.g rfl rfl (OpG.callX YA_go10 rfl (.cons (.there (.there .here)) .nil) (fun _ => (.cons .nil)) (fun w hH hp => next_spec w b ta tn tc tl htl htm (hH.stays hr (.cons (.there (.there .here)) .nil)) p hat hp (most) (by omega))) ?_
  rintro ⟨r13, p13⟩ h13
  dsimp only at h13
  obtain ⟨⟨h13a, h13b⟩, h13p⟩ := h13
  refine Wl.know 13 (v' := .int .i64 r13) rfl rfl ?_
  refine Wl.q rfl rfl (OpQ.add rfl rfl (by omega)) ?_
  refine Wl.q rfl rfl (OpQ.assign rfl) ?_
  refine Wl.nil ?_
  refine PX.then_n ?_
  refine CT.seq ?_
  refine CT.seq ?_
  -- region 3: made.go:156
  refine CT.region ?_
  refine Wl.q rfl rfl (OpQ.assign rfl) ?_
  refine Wl.nil ?_
  refine PX.then_n ?_
  refine CT.block ?_
  -- the loop at region 4
  refine CT.nilrow 72 4 ?_
  refine CT.as (fun _ h => h.take (.cons .here (.cons .here (.cons (.there .here) (.cons .here .nil))))) ?_
  refine CT.loop (ι := List Nd × Nat × Option Addr × Nat) (fun (xs, p', a', c') => okG xs letters = true ∧ (xs.length : Int) ≤ 1 + r13 ∧ p' ≤ tn) (fun (xs, p', a', c') => [(0, .pointer (some ⟨b, 0, none⟩)), (1, .int .i64 (letters)), (6, .pointer (some ⟨b6, 0, none⟩)), (7, .pointer (some ⟨b7, 0, none⟩)), (8, .int .i64 (1 + r13)), (9, .int .i64 (xs.length : Int))]) (fun (xs, p', a', c') => [.row 72 4 (.slice a' xs.length c') xs.length (xs.flatMap nv), .row 55 2 (vb b) 1 [.slice ta tn tc, .int .i64 ((p' : Nat) : Int)], .row 40 2 (vb b6) 1 [.slice none 0 0, .int .i64 0], .row 40 2 (vb b7) 1 [.slice a' xs.length c', .int .i64 0]]) (fun (xs, p', a', c') => (1 + r13).toNat - xs.length) ([], p13, none, 0) ⟨okG_nil _, by dsimp only [List.length_nil]; omega, h13p⟩ ⟨rfl, rfl, rfl, rfl, rfl, rfl, trivial⟩ (.keep rfl (.keep rfl (.keep rfl (.keep rfl .nil)))) (fun ⟨xs, p', a', c'⟩ ⟨hok, hlen, hat'⟩ K0 hK0 => ?_)
  dsimp only
  refine CT.seq ?_
  refine CT.seq ?_
  -- region 4: made.go:156
  refine CT.region ?_
  refine Wl.q rfl rfl (OpQ.move rfl) ?_
  refine Wl.q rfl rfl (OpQ.move rfl) ?_
  refine Wl.q rfl rfl (OpQ.lss rfl rfl) ?_
  refine Wl.nil ?_
  refine PX.then_n ?_
  refine CT.cond rfl (fun h17 => ?_) (fun h17 => ?_)
  · -- if t17: then
    have h17 := of_decide_eq_true h17
    refine CT.skip ?_
    refine PX.then_n ?_
    refine CT.seq ?_
    refine CT.block ?_
    refine CT.seq ?_
    -- region 6: made.go:157
    refine CT.region ?_
    refine Wl.q rfl rfl (OpQ.move rfl) ?_
    refine Wl.g rfl rfl (OpG.callX YA_go10 rfl (.cons (.there .here) .nil) (fun _ => (.cons .nil)) (fun w hH hp => next_spec w b ta tn tc tl htl htm (hH.stays hr (.cons (.there .here) .nil)) p' hat' hp (8) (by omega))) ?_
    rintro ⟨r21, p21⟩ h21
    dsimp only at h21
    obtain ⟨⟨h21a, h21b⟩, h21p⟩ := h21
    refine Wl.know 21 (v' := .int .i64 r21) rfl rfl ?_
    refine Wl.q rfl rfl (OpQ.add rfl rfl (by omega)) ?_
    refine Wl.q rfl rfl (OpQ.build (cells := #[_, .int .i64 0, .int .i64 0, .int .i64 0]) YA_pl72 rfl rfl) ?_
    refine Wl.g rfl rfl (OpG.alloc (zs := [.int .i64 0, .int .i64 0, .int .i64 0, .int .i64 0]) YA_in72 rfl rfl) ?_
    rintro b10 _
    refine Wl.g rfl rfl (OpG.storeV (b := b10) YA_sz72 rfl rfl rfl rfl (by repeat (first | exact Upd.here | apply Upd.there))) ?_
    rintro _ _
    refine Wl.nil ?_
    refine PX.then_n ?_
    refine CT.cut (ι := Int × Nat) (Φ := fun (op, p7) => (1 ≤ op ∧ op ≤ 8) ∧ (xs.length = 0 → op ≤ 4) ∧ p7 ≤ tn) (E' := fun (op, p7) => [(0, .pointer (some ⟨b, 0, none⟩)), (1, .int .i64 (letters)), (6, .pointer (some ⟨b6, 0, none⟩)), (7, .pointer (some ⟨b7, 0, none⟩)), (8, .int .i64 (1 + r13)), (9, .int .i64 (xs.length : Int)), (10, .pointer (some ⟨b10, 0, none⟩))]) (H' := fun (op, p7) => [.row 72 4 (vb b10) 1 [.int .i64 op, .int .i64 0, .int .i64 0, .int .i64 0], .row 55 2 (vb b) 1 [.slice ta tn tc, .int .i64 ((p7 : Nat) : Int)], .row 72 4 (.slice a' xs.length c') xs.length (xs.flatMap nv), .row 40 2 (vb b6) 1 [.slice none 0 0, .int .i64 0], .row 40 2 (vb b7) 1 [.slice a' xs.length c', .int .i64 0]]) (fun K1 hK1 => ?_) (fun ⟨op, p7⟩ ⟨ho, ho4, hp7⟩ => ?_)
    · -- up to the join
      refine CT.seq ?_
      -- region 7: made.go:158
      refine CT.region ?_
      refine Wl.q rfl rfl (OpQ.move rfl) ?_
      refine Wl.q rfl rfl (OpQ.eql rfl rfl) ?_
      refine Wl.nil ?_
      refine PX.then_n ?_
      refine CT.cond rfl (fun h25 => ?_) (fun h25 => ?_)
      · -- if t25: then
        have h25 := of_decide_eq_true h25
        -- region 8: made.go:159
        refine CT.region ?_
        refine Wl.q rfl rfl (OpQ.fieldAddr YA_fa72_0 rfl) ?_
        refine Wl.q rfl rfl (OpQ.loadF (b := b10) YA_sc3 rfl (by repeat (first | exact Has.here | apply Has.there)) (by rfl)) ?_
        refine Wl.g rfl rfl (OpG.call YA_go16 rfl (fun w hH => (mod_spec w _ 4 (by omega)).mono fun e w' ⟨r, h1, h2, h3⟩ => ⟨r, h1, h2, hH.ext_nil h3⟩)) ?_
        rintro r28 h28
        obtain ⟨h28a, h28b⟩ := h28
        refine Wl.know 28 (v' := .int .i64 (r28)) rfl rfl ?_
        refine Wl.q rfl rfl (OpQ.add rfl rfl (by omega)) ?_
        refine Wl.q rfl rfl (OpQ.fieldAddr YA_fa72_0 rfl) ?_
        refine Wl.g rfl rfl (OpG.storeRow (a := some ⟨b10, 0, none⟩) YA_sz3 rfl rfl rfl (by repeat (first | exact Upd.here | apply Upd.there)) (by simp)) ?_
        rintro _ _
        refine Wl.nil ?_
        exact PX.cut hK1 (1 + r28, p21) ⟨(by first | omega | (dsimp only; omega)), (by first | omega | (dsimp only; omega)), h21p⟩ ⟨rfl, rfl, rfl, rfl, rfl, rfl, rfl, trivial⟩ (HSub.refl _)
      · -- if t25: else
        have h25 := of_decide_eq_false h25
        refine CT.skip ?_
        exact PX.cut hK1 (1 + r21, p21) ⟨(by first | omega | (dsimp only; omega)), (by first | omega | (dsimp only; omega)), h21p⟩ ⟨rfl, rfl, rfl, rfl, rfl, rfl, rfl, trivial⟩ (HSub.refl _)
    · -- from the join on
      dsimp only
      refine CT.cut (ι := Int × Nat) (Φ := fun (lt, p9) => (op = 3 → 0 ≤ lt ∧ lt < letters) ∧ (op ≠ 3 → lt = 0) ∧ p9 ≤ tn) (E' := fun (lt, p9) => [(0, .pointer (some ⟨b, 0, none⟩)), (1, .int .i64 (letters)), (6, .pointer (some ⟨b6, 0, none⟩)), (7, .pointer (some ⟨b7, 0, none⟩)), (8, .int .i64 (1 + r13)), (9, .int .i64 (xs.length : Int)), (10, .pointer (some ⟨b10, 0, none⟩))]) (H' := fun (lt, p9) => [.row 72 4 (vb b10) 1 [.int .i64 op, .int .i64 lt, .int .i64 0, .int .i64 0], .row 55 2 (vb b) 1 [.slice ta tn tc, .int .i64 ((p9 : Nat) : Int)], .row 72 4 (.slice a' xs.length c') xs.length (xs.flatMap nv), .row 40 2 (vb b6) 1 [.slice none 0 0, .int .i64 0], .row 40 2 (vb b7) 1 [.slice a' xs.length c', .int .i64 0]]) (fun K2 hK2 => ?_) (fun ⟨lt, p9⟩ ⟨hl3, hl0, hp9⟩ => ?_)
      · -- up to the join
        refine CT.seq ?_
        -- region 9: made.go:161
        refine CT.region ?_
        refine Wl.q rfl rfl (OpQ.fieldAddr YA_fa72_0 rfl) ?_
        refine Wl.q rfl rfl (OpQ.loadF (b := b10) YA_sc3 rfl (by repeat (first | exact Has.here | apply Has.there)) (by rfl)) ?_
        refine Wl.q rfl rfl (OpQ.eql rfl rfl) ?_
        refine Wl.nil ?_
        refine PX.then_n ?_
        refine CT.cond rfl (fun h33 => ?_) (fun h33 => ?_)
        · -- if t33: then
          have h33 := of_decide_eq_true h33
          -- region 10: made.go:162
          refine CT.region ?_
          refine Wl.q rfl rfl (OpQ.move rfl) ?_
          refine Wl.q rfl rfl (OpQ.move rfl) ?_
          refine Wl.g rfl rfl (OpG.callX YA_go10 rfl (.cons (.there .here) .nil) (fun _ => (.cons .nil)) (fun w hH hp => next_spec w b ta tn tc tl htl htm (hH.stays hr (.cons (.there .here) .nil)) p7 hp7 hp (letters) (by omega))) ?_
          rintro ⟨r36, p36⟩ h36
          dsimp only at h36
          obtain ⟨⟨h36a, h36b⟩, h36p⟩ := h36
          refine Wl.know 36 (v' := .int .i64 r36) rfl rfl ?_
          refine Wl.q rfl rfl (OpQ.fieldAddr YA_fa72_1 rfl) ?_
          refine Wl.g rfl rfl (OpG.storeRow (a := some ⟨b10, 0, none⟩) YA_sz3 rfl rfl rfl (by repeat (first | exact Upd.here | apply Upd.there)) (by simp)) ?_
          rintro _ _
          refine Wl.nil ?_
          refine PX.as (fun _ h => h.take (.cons (.there .here) (.cons .here (.cons .here (.cons .here (.cons .here .nil)))))) ?_
          exact PX.cut hK2 (r36, p36) ⟨(by first | omega | (dsimp only; omega)), (by first | omega | (dsimp only; omega)), h36p⟩ ⟨rfl, rfl, rfl, rfl, rfl, rfl, rfl, trivial⟩ (HSub.refl _)
        · -- if t33: else
          have h33 := of_decide_eq_false h33
          refine CT.skip ?_
          exact PX.cut hK2 (0, p7) ⟨(by first | omega | (dsimp only; omega)), (by first | omega | (dsimp only; omega)), hp7⟩ ⟨rfl, rfl, rfl, rfl, rfl, rfl, rfl, trivial⟩ (HSub.refl _)
      · -- from the join on
        dsimp only
        refine CT.cut (ι := Int × Nat) (Φ := fun (na, p11) => (5 ≤ op → 0 ≤ na ∧ na < (xs.length : Int)) ∧ (op < 5 → na = 0) ∧ p11 ≤ tn) (E' := fun (na, p11) => [(0, .pointer (some ⟨b, 0, none⟩)), (1, .int .i64 (letters)), (6, .pointer (some ⟨b6, 0, none⟩)), (7, .pointer (some ⟨b7, 0, none⟩)), (8, .int .i64 (1 + r13)), (9, .int .i64 (xs.length : Int)), (10, .pointer (some ⟨b10, 0, none⟩))]) (H' := fun (na, p11) => [.row 72 4 (vb b10) 1 [.int .i64 op, .int .i64 lt, .int .i64 na, .int .i64 0], .row 55 2 (vb b) 1 [.slice ta tn tc, .int .i64 ((p11 : Nat) : Int)], .row 72 4 (.slice a' xs.length c') xs.length (xs.flatMap nv), .row 40 2 (vb b6) 1 [.slice none 0 0, .int .i64 0], .row 40 2 (vb b7) 1 [.slice a' xs.length c', .int .i64 0]]) (fun K3 hK3 => ?_) (fun ⟨na, p11⟩ ⟨ha5, ha0, hp11⟩ => ?_)
        · -- up to the join
          refine CT.seq ?_
          -- region 11: made.go:164
          refine CT.region ?_
          refine Wl.q rfl rfl (OpQ.fieldAddr YA_fa72_0 rfl) ?_
          refine Wl.q rfl rfl (OpQ.loadF (b := b10) YA_sc3 rfl (by repeat (first | exact Has.here | apply Has.there)) (by rfl)) ?_
          refine Wl.q rfl rfl (OpQ.geq rfl rfl) ?_
          refine Wl.nil ?_
          refine PX.then_n ?_
          refine CT.cond rfl (fun h40 => ?_) (fun h40 => ?_)
          · -- if t40: then
            have h40 := of_decide_eq_true h40
            -- region 12: made.go:165
            refine CT.region ?_
            refine Wl.q rfl rfl (OpQ.move rfl) ?_
            refine Wl.q rfl rfl (OpQ.move rfl) ?_
            refine Wl.g rfl rfl (OpG.callX YA_go10 rfl (.cons (.there .here) .nil) (fun _ => (.cons .nil)) (fun w hH hp => next_spec w b ta tn tc tl htl htm (hH.stays hr (.cons (.there .here) .nil)) p9 hp9 hp ((xs.length : Int)) (by omega))) ?_
            rintro ⟨r43, p43⟩ h43
            dsimp only at h43
            obtain ⟨⟨h43a, h43b⟩, h43p⟩ := h43
            refine Wl.know 43 (v' := .int .i64 r43) rfl rfl ?_
            refine Wl.q rfl rfl (OpQ.fieldAddr YA_fa72_2 rfl) ?_
            refine Wl.g rfl rfl (OpG.storeRow (a := some ⟨b10, 0, none⟩) YA_sz3 rfl rfl rfl (by repeat (first | exact Upd.here | apply Upd.there)) (by simp)) ?_
            rintro _ _
            refine Wl.nil ?_
            refine PX.as (fun _ h => h.take (.cons (.there .here) (.cons .here (.cons .here (.cons .here (.cons .here .nil)))))) ?_
            exact PX.cut hK3 (r43, p43) ⟨(by first | omega | (dsimp only; omega)), (by first | omega | (dsimp only; omega)), h43p⟩ ⟨rfl, rfl, rfl, rfl, rfl, rfl, rfl, trivial⟩ (HSub.refl _)
          · -- if t40: else
            have h40 := of_decide_eq_false h40
            refine CT.skip ?_
            exact PX.cut hK3 (0, p9) ⟨(by first | omega | (dsimp only; omega)), (by first | omega | (dsimp only; omega)), hp9⟩ ⟨rfl, rfl, rfl, rfl, rfl, rfl, rfl, trivial⟩ (HSub.refl _)
        · -- from the join on
          dsimp only
          refine CT.cut (ι := Nd × Nat) (Φ := fun (x, p13) => okN x xs.length letters = true ∧ p13 ≤ tn) (E' := fun (x, p13) => [(0, .pointer (some ⟨b, 0, none⟩)), (1, .int .i64 (letters)), (6, .pointer (some ⟨b6, 0, none⟩)), (7, .pointer (some ⟨b7, 0, none⟩)), (8, .int .i64 (1 + r13)), (9, .int .i64 (xs.length : Int)), (10, .pointer (some ⟨b10, 0, none⟩))]) (H' := fun (x, p13) => [.row 72 4 (vb b10) 1 (nv x), .row 55 2 (vb b) 1 [.slice ta tn tc, .int .i64 ((p13 : Nat) : Int)], .row 72 4 (.slice a' xs.length c') xs.length (xs.flatMap nv), .row 40 2 (vb b6) 1 [.slice none 0 0, .int .i64 0], .row 40 2 (vb b7) 1 [.slice a' xs.length c', .int .i64 0]]) (fun K4 hK4 => ?_) (fun ⟨x, p13⟩ ⟨hx, hp13⟩ => ?_)
          · -- up to the join
            refine CT.seq ?_
            -- region 13: made.go:167
            refine CT.region ?_
            refine Wl.q rfl rfl (OpQ.fieldAddr YA_fa72_0 rfl) ?_
            refine Wl.q rfl rfl (OpQ.loadF (b := b10) YA_sc3 rfl (by repeat (first | exact Has.here | apply Has.there)) (by rfl)) ?_
            refine Wl.q rfl rfl (OpQ.geq rfl rfl) ?_
            refine Wl.q rfl rfl (OpQ.move rfl) ?_
            refine Wl.split 48 rfl (fun hg48 => ?_) (fun hg48 => ?_)
            · -- t48 = True
              have hg48 := of_decide_eq_true hg48
              refine Wl.q rfl rfl (OpQ.fieldAddr YA_fa72_0 rfl) ?_
              refine Wl.q rfl rfl (OpQ.loadF (b := b10) YA_sc3 rfl (by repeat (first | exact Has.here | apply Has.there)) (by rfl)) ?_
              refine Wl.q rfl rfl (OpQ.neq rfl rfl) ?_
              refine Wl.q rfl rfl (OpQ.pickT rfl rfl) ?_
              refine Wl.nil ?_
              refine PX.then_n ?_
              refine CT.cond rfl (fun h52 => ?_) (fun h52 => ?_)
              · -- if t52: then
                have h52 := of_nd_t h52
                -- region 14: made.go:168
                refine CT.region ?_
                refine Wl.q rfl rfl (OpQ.move rfl) ?_
                refine Wl.q rfl rfl (OpQ.move rfl) ?_
                refine Wl.g rfl rfl (OpG.callX YA_go10 rfl (.cons (.there .here) .nil) (fun _ => (.cons .nil)) (fun w hH hp => next_spec w b ta tn tc tl htl htm (hH.stays hr (.cons (.there .here) .nil)) p11 hp11 hp ((xs.length : Int)) (by omega))) ?_
                rintro ⟨r55, p55⟩ h55
                dsimp only at h55
                obtain ⟨⟨h55a, h55b⟩, h55p⟩ := h55
                refine Wl.know 55 (v' := .int .i64 r55) rfl rfl ?_
                refine Wl.q rfl rfl (OpQ.fieldAddr YA_fa72_3 rfl) ?_
                refine Wl.g rfl rfl (OpG.storeRow (a := some ⟨b10, 0, none⟩) YA_sz3 rfl rfl rfl (by repeat (first | exact Upd.here | apply Upd.there)) (by simp)) ?_
                rintro _ _
                refine Wl.nil ?_
                refine PX.as (fun _ h => h.take (.cons (.there .here) (.cons .here (.cons .here (.cons .here (.cons .here .nil)))))) ?_
                exact PX.cut hK4 (⟨op, lt, na, r55⟩, p55) ⟨okN_of ho hl3 hl0 ha5 ha0 (fun _ => (by first | omega | (dsimp only; omega))) (fun _ => (by first | omega | (dsimp only; omega))), h55p⟩ ⟨rfl, rfl, rfl, rfl, rfl, rfl, rfl, trivial⟩ (HSub.refl _)
              · -- if t52: else
                have h52 := of_nd_f h52
                refine CT.skip ?_
                exact PX.cut hK4 (⟨op, lt, na, 0⟩, p11) ⟨okN_of ho hl3 hl0 ha5 ha0 (fun _ => (by first | omega | (dsimp only; omega))) (fun _ => rfl), hp11⟩ ⟨rfl, rfl, rfl, rfl, rfl, rfl, rfl, trivial⟩ (HSub.refl _)
            · -- t48 = False
              have hg48 := of_decide_eq_false hg48
              refine Wl.skip rfl rfl ?_
              refine Wl.skip rfl rfl ?_
              refine Wl.skip rfl rfl ?_
              refine Wl.q rfl rfl (OpQ.pickF rfl rfl) ?_
              refine Wl.nil ?_
              refine PX.then_n ?_
              refine CT.condF rfl ?_
              refine CT.skip ?_
              exact PX.cut hK4 (⟨op, lt, na, 0⟩, p11) ⟨okN_of ho hl3 hl0 ha5 ha0 (fun _ => (by first | omega | (dsimp only; omega))) (fun _ => rfl), hp11⟩ ⟨rfl, rfl, rfl, rfl, rfl, rfl, rfl, trivial⟩ (HSub.refl _)
          · -- from the join on
            dsimp only
            -- region 15: made.go:170
            refine CT.region ?_
            refine Wl.q rfl rfl (OpQ.fieldAddr YA_fa40_0 rfl) ?_
            refine Wl.q rfl rfl (OpQ.loadF (b := b7) YA_sc38 rfl (by repeat (first | exact Has.here | apply Has.there)) (by rfl)) ?_
            refine Wl.q rfl rfl (OpQ.loadV (b := b10) YA_ag72 YA_sz72 rfl (by repeat (first | exact Has.here | apply Has.there)) (by rfl)) ?_
            refine Wl.g rfl rfl (OpG.litS1 YA_un38 YA_in72 rfl (by decide) rfl) ?_
            rintro b60 _
            refine Wl.g rfl rfl (OpG.append YA_un38 YA_in72 (by rfl) (by decide) rfl rfl (p := 3) rfl (fun w hH => hH.rd .here) ⟨rfl, (by simp [Value.oneCell']), (by omega), (by omega)⟩ (nm := xs.length + 1) rfl (all := (xs ++ [x]).flatMap nv) (by simp)) ?_
            rintro ⟨a61, c61⟩ h61
            refine Wl.q rfl rfl (OpQ.fieldAddr YA_fa40_0 rfl) ?_
            refine Wl.g rfl rfl (OpG.storeRow (a := some ⟨b7, 0, none⟩) YA_sz38 rfl rfl rfl (by repeat (first | exact Upd.here | apply Upd.there)) (by simp)) ?_
            rintro _ _
            refine Wl.nil ?_
            refine PX.block_n ?_
            refine PX.then_n ?_
            -- region 5: made.go:156
            refine CT.region ?_
            refine Wl.q rfl rfl (OpQ.move rfl) ?_
            refine Wl.q rfl rfl (OpQ.add rfl rfl (by omega)) ?_
            refine Wl.q rfl rfl (OpQ.assign rfl) ?_
            refine Wl.nil ?_
            refine PX.as (fun _ h => h.take (.cons (.there (.there (.there .here))) (.cons (.there (.there .here)) (.cons (.there (.there .here)) (.cons (.there (.there .here)) .nil))))) ?_
            exact PX.loop hK0 (xs ++ [x], p13, a61, c61) ⟨okG_snoc hok hx, by simp; omega, hp13⟩ (by simp; omega) ⟨rfl, rfl, rfl, rfl, rfl, (lkV rfl (congrArg (Value.int .i64) (by simp))), trivial⟩ (.keep (by rw [List.length_append]; rfl) (.keep rfl (.keep rfl (.keep (by rw [List.length_append]; rfl) .nil))))
  · -- if t17: else
    have h17 := of_decide_eq_false h17
    refine CT.exit ?_
    refine PX.then_x ?_
    refine PX.then_x ?_
    refine PX.block_x ?_
    refine PX.then_n ?_
    refine CT.seq ?_
    -- region 16: made.go:172
    refine CT.region ?_
    refine Wl.q rfl rfl (OpQ.move rfl) ?_
    refine Wl.q rfl rfl (OpQ.sub rfl rfl (by omega)) ?_
    refine Wl.q rfl rfl (OpQ.fieldAddr YA_fa40_1 rfl) ?_
    refine Wl.g rfl rfl (OpG.storeRow (a := some ⟨b7, 0, none⟩) YA_sz3 rfl rfl rfl (by repeat (first | exact Upd.here | apply Upd.there)) (by simp)) ?_
    rintro _ _
    refine Wl.nil ?_
    refine PX.then_n ?_
    refine CT.seq ?_
    -- region 17: made.go:173
    refine CT.region ?_
    refine Wl.q rfl rfl (OpQ.loadV (b := b7) YA_ag40 YA_sz40 rfl (by repeat (first | exact Has.here | apply Has.there)) (by rfl)) ?_
    refine Wl.g rfl rfl (OpG.storeV (b := b6) YA_sz40 rfl rfl rfl rfl (by repeat (first | exact Upd.here | apply Upd.there))) ?_
    rintro _ _
    refine Wl.nil ?_
    refine PX.then_n ?_
    refine CT.ret ?_
    refine PX.retC rfl rfl (by repeat (first | exact Has.here | apply Has.there)) YA_ag40 YA_sz40 (by rfl) (fun w' hH => ?_)
    exact ⟨(xs, p', a', c'), ⟨⟨hok, by dsimp only; omega, by dsimp only; omega⟩, hat'⟩, by rw [show (1 + r13 - 1 : Int) = (xs.length : Int) - 1 by omega]; rfl, hH.post.sub (.keep rfl (.keep rfl (.drop (.drop .nil))))⟩

theorem YA_go25 : isGo Try.prog 25 = true := by kernel_rfl
theorem YA_un22 : Try.prog.underlying 22 = some (.slice 3) := by kernel_rfl
theorem YA_in3 : (Try.prog.info? 3).map (fun i => (i.zero, i.size, i.bytes)) = some (some (.int .i64 0), 1, 8) := by kernel_rfl
theorem YA_mixed : Try.prog.follows .mixedOrders = true := by kernel_rfl
set_option maxRecDepth 100000 in
/-- semigroup/semigroupref31.Depth -/
theorem gdepthR_spec (w : World) (a : Option Addr) (cp : Nat) (xs : List Nd) (hr : Rd w a (xs.flatMap nv)) (hn : xs.length ≤ 20000) (rt : Nat) (hrt : rt < xs.length) (hG : okG xs 6 = true) : Calls Try.prog 21 #[.agg #[.slice a xs.length cp, .int .i64 ((rt : Nat) : Int)]] w (fun e w' => e = .returned (.int .i64 (gd xs rt)) ∧ Ext [] w w') := by
  have sm : 0 < xs.length → a.isSome = true := fun h => hr.isSome (j := 0) (by rw [flat_len nv_len]; omega)
  refine enter (args := [.agg #[.slice a xs.length cp, .int .i64 ((rt : Nat) : Int)]]) [] 68 Try.func21 rfl rfl rfl ?_
  refine CT.seq ?_
  -- region 0: ref.go:139
  refine CT.region ?_
  refine Wl.g rfl rfl (OpG.box (size := 2) rfl rfl rfl) ?_
  rintro b1 _
  refine Wl.q rfl rfl (OpQ.assign rfl) ?_
  refine Wl.nil ?_
  refine PX.then_n ?_
  refine CT.seq ?_
  refine CT.seq ?_
  -- region 1: ref.go:140
  refine CT.region ?_
  refine Wl.q rfl rfl (OpQ.loadV (b := b1) YA_ag40 YA_sz40 rfl (by repeat (first | exact Has.here | apply Has.there)) (by rfl)) ?_
  refine Wl.g rfl rfl (OpG.callV YA_go25 rfl (fun w hH => gvalidR_spec w a cp xs (hH.rd0 hr rfl) (by omega) (rt : Int) 6)) ?_
  rintro _ _
  refine Wl.know 7 (v' := .int .i64 (0)) rfl (congrArg (Value.int .i64) (gE_of (by decide) hn hG hrt)) ?_
  refine Wl.q rfl rfl (OpQ.neq rfl rfl) ?_
  refine Wl.know 8 (v' := .bool false) rfl (congrArg Value.bool rfl) ?_
  refine Wl.nil ?_
  refine PX.then_n ?_
  refine CT.condF rfl ?_
  refine CT.skip ?_
  refine PX.then_n ?_
  refine CT.seq ?_
  -- region 3: ref.go:143
  refine CT.region ?_
  refine Wl.q rfl rfl (OpQ.fieldAddr YA_fa40_0 rfl) ?_
  refine Wl.q rfl rfl (OpQ.loadF (b := b1) YA_sc38 rfl (by repeat (first | exact Has.here | apply Has.there)) (by rfl)) ?_
  refine Wl.q rfl rfl (OpQ.len YA_un38 rfl) ?_
  refine Wl.g rfl rfl (OpG.make1 YA_un22 YA_in3 rfl rfl rfl rfl (by omega) (by omega)) ?_
  rintro b12 _
  refine Wl.q rfl rfl (OpQ.assign rfl) ?_
  refine Wl.nil ?_
  refine PX.then_n ?_
  refine CT.seq ?_
  refine CT.seq ?_
  -- region 4: ref.go:144
  refine CT.region ?_
  refine Wl.q rfl rfl (OpQ.fieldAddr YA_fa40_0 rfl) ?_
  refine Wl.q rfl rfl (OpQ.loadF (b := b1) YA_sc38 rfl (by repeat (first | exact Has.here | apply Has.there)) (by rfl)) ?_
  refine Wl.q rfl rfl (OpQ.len YA_un38 rfl) ?_
  refine Wl.q rfl rfl (OpQ.move rfl) ?_
  refine Wl.nil ?_
  refine PX.then_n ?_
  refine CT.block ?_
  -- the loop at region 5
  refine CT.loop (ι := Nat × List Int) (fun (i, dv) => i ≤ xs.length ∧ GJ xs xs.length i 0 dv) (fun (i, dv) => [(1, .pointer (some ⟨b1, 0, none⟩)), (3, .slice (some ⟨b12, 0, none⟩) xs.length xs.length), (14, .slice a xs.length cp), (15, .int .i64 (xs.length : Int)), (16, .int .i64 (i : Int))]) (fun (i, dv) => [.row 3 1 (.slice (some ⟨b12, 0, none⟩) xs.length xs.length) xs.length ((dv).map zi), .row 40 2 (vb b1) 1 [.slice a xs.length cp, .int .i64 ((rt : Nat) : Int)]]) (fun (i, dv) => xs.length - i) (0, List.replicate xs.length 0) ⟨by omega, GJ.start _ _⟩ ⟨rfl, rfl, rfl, rfl, rfl, trivial⟩ (.keep (row_eq (by simp)) (.keep rfl .nil)) (fun ⟨i, dv⟩ ⟨hi, hd⟩ K0 hK0 => ?_)
  dsimp only
  refine CT.seq ?_
  -- region 5: ref.go:144
  refine CT.region ?_
  refine Wl.q rfl rfl (OpQ.lss rfl rfl) ?_
  refine Wl.nil ?_
  refine PX.then_n ?_
  refine CT.seq ?_
  refine CT.cond rfl (fun h17 => ?_) (fun h17 => ?_)
  · -- if t17: then
    have h17 := of_decide_eq_true h17
    have hgd := gd_a hG (i := i) (by omega)
    obtain ⟨ho, _, pa, pb⟩ := okN_parts (okG_get hG (j := i) (by omega))
    refine CT.skip ?_
    refine PX.then_n ?_
    refine CT.seq ?_
    refine CT.block ?_
    refine CT.seq ?_
    -- region 6: ref.go:144
    refine CT.region ?_
    refine Wl.q rfl rfl (OpQ.move rfl) ?_
    refine Wl.q rfl rfl (OpQ.index YA_un38 YA_sz72 rfl rfl (by omega) (sm (by omega))) ?_
    refine Wl.q rfl rfl (OpQ.loadAggG (cs := nv (xs.getD i n0)) YA_ag72 YA_sz72 rfl (fun w hH => hH.rd0 hr rfl) (flat_cells nv_len xs n0 (by omega))) ?_
    refine Wl.g rfl rfl (OpG.alloc (zs := [.int .i64 0, .int .i64 0, .int .i64 0, .int .i64 0]) YA_in72 rfl rfl) ?_
    rintro b5 _
    refine Wl.q rfl rfl (OpQ.assign rfl) ?_
    refine Wl.g rfl rfl (OpG.storeV (b := b5) YA_sz72 rfl rfl rfl rfl (by repeat (first | exact Upd.here | apply Upd.there))) ?_
    rintro _ _
    refine Wl.nil ?_
    refine PX.then_n ?_
    refine CT.cut (ι := List Int) (Φ := fun dv => GJ xs xs.length i (if 5 ≤ (xs.getD i n0).op then (gd xs (xs.getD i n0).a.toNat) else 0) dv) (E' := fun _ => [(1, .pointer (some ⟨b1, 0, none⟩)), (3, .slice (some ⟨b12, 0, none⟩) xs.length xs.length), (14, .slice a xs.length cp), (15, .int .i64 (xs.length : Int)), (16, .int .i64 (i : Int)), (4, .int .i64 (i : Int)), (5, .pointer (some ⟨b5, 0, none⟩))]) (H' := fun dv => [.row 72 4 (vb b5) 1 (nv (xs.getD i n0)), .row 3 1 (.slice (some ⟨b12, 0, none⟩) xs.length xs.length) xs.length ((dv).map zi), .row 40 2 (vb b1) 1 [.slice a xs.length cp, .int .i64 ((rt : Nat) : Int)]]) (fun K1 hK1 => ?_) (fun dv hd => ?_)
    · -- up to the join
      refine CT.seq ?_
      -- region 7: ref.go:145
      refine CT.region ?_
      refine Wl.q rfl rfl (OpQ.fieldAddr YA_fa72_0 rfl) ?_
      refine Wl.q rfl rfl (OpQ.loadF (b := b5) YA_sc3 rfl (by repeat (first | exact Has.here | apply Has.there)) (by rfl)) ?_
      refine Wl.q rfl rfl (OpQ.geq rfl rfl) ?_
      refine Wl.nil ?_
      refine PX.then_n ?_
      refine CT.cond rfl (fun h23 => ?_) (fun h23 => ?_)
      · -- if t23: then
        have h23 := of_decide_eq_true h23
        have pa := pa (by omega)
        have hdl := hd.len
        -- region 8: ref.go:146
        refine CT.region ?_
        refine Wl.q rfl rfl (OpQ.move rfl) ?_
        refine Wl.q rfl rfl (OpQ.move rfl) ?_
        refine Wl.q rfl rfl (OpQ.move rfl) ?_
        refine Wl.q rfl rfl (OpQ.fieldAddr YA_fa72_2 rfl) ?_
        refine Wl.q rfl rfl (OpQ.loadF (b := b5) YA_sc3 rfl (by repeat (first | exact Has.here | apply Has.there)) (by rfl)) ?_
        refine Wl.q rfl rfl (OpQ.index1 YA_un22 YA_sz3 rfl rfl (by omega) rfl) ?_
        refine Wl.q rfl rfl (OpQ.loadRow YA_sc3 rfl (.there .here) (getMap zi dv 0 (j := (xs.getD i n0).a.toNat) (by omega))) ?_
        refine Wl.know 30 (v' := .int .i64 ((gd xs (xs.getD i n0).a.toNat))) rfl (congrArg (Value.int .i64) (hd.lt _ (by omega))) ?_
        refine Wl.q rfl rfl (OpQ.index1 YA_un22 YA_sz3 rfl rfl (by omega) rfl) ?_
        refine Wl.g rfl rfl (OpG.storeRow YA_sz3 rfl rfl rfl (.there .here) (by rw [List.length_map, hd.len]; show i < _; omega)) ?_
        rintro _ _
        refine Wl.nil ?_
        exact PX.cut hK1 (dv.set i (gd xs (xs.getD i n0).a.toNat)) (by rw [if_pos (by omega)]; exact hd.set (by omega)) ⟨rfl, rfl, rfl, rfl, rfl, rfl, rfl, trivial⟩ (.keep rfl (.keep (row_eq (by rw [List.map_set] <;> rfl)) (.keep rfl .nil)))
      · -- if t23: else
        have h23 := of_decide_eq_false h23
        refine CT.skip ?_
        exact PX.cut hK1 dv (by rw [if_neg (by omega)]; exact hd) ⟨rfl, rfl, rfl, rfl, rfl, rfl, rfl, trivial⟩ (HSub.refl _)
    · -- from the join on
      refine CT.cut (ι := List Int) (Φ := fun dv => GJ xs xs.length i (if 5 ≤ (xs.getD i n0).op ∧ (xs.getD i n0).op ≠ 8 then mx (if 5 ≤ (xs.getD i n0).op then (gd xs (xs.getD i n0).a.toNat) else 0) ((gd xs (xs.getD i n0).b.toNat)) else (if 5 ≤ (xs.getD i n0).op then (gd xs (xs.getD i n0).a.toNat) else 0)) dv) (E' := fun _ => [(1, .pointer (some ⟨b1, 0, none⟩)), (3, .slice (some ⟨b12, 0, none⟩) xs.length xs.length), (14, .slice a xs.length cp), (15, .int .i64 (xs.length : Int)), (16, .int .i64 (i : Int)), (4, .int .i64 (i : Int)), (5, .pointer (some ⟨b5, 0, none⟩))]) (H' := fun dv => [.row 72 4 (vb b5) 1 (nv (xs.getD i n0)), .row 3 1 (.slice (some ⟨b12, 0, none⟩) xs.length xs.length) xs.length ((dv).map zi), .row 40 2 (vb b1) 1 [.slice a xs.length cp, .int .i64 ((rt : Nat) : Int)]]) (fun K2 hK2 => ?_) (fun dv hd => ?_)
      · -- up to the join
        refine CT.seq ?_
        -- region 9: ref.go:148
        refine CT.region ?_
        refine Wl.q rfl rfl (OpQ.fieldAddr YA_fa72_0 rfl) ?_
        refine Wl.q rfl rfl (OpQ.loadF (b := b5) YA_sc3 rfl (by repeat (first | exact Has.here | apply Has.there)) (by rfl)) ?_
        refine Wl.q rfl rfl (OpQ.geq rfl rfl) ?_
        refine Wl.q rfl rfl (OpQ.move rfl) ?_
        refine Wl.split 35 rfl (fun hg35 => ?_) (fun hg35 => ?_)
        · -- t35 = True
          have hg35 := of_decide_eq_true hg35
          refine Wl.q rfl rfl (OpQ.fieldAddr YA_fa72_0 rfl) ?_
          refine Wl.q rfl rfl (OpQ.loadF (b := b5) YA_sc3 rfl (by repeat (first | exact Has.here | apply Has.there)) (by rfl)) ?_
          refine Wl.q rfl rfl (OpQ.neq rfl rfl) ?_
          refine Wl.q rfl rfl (OpQ.pickT rfl rfl) ?_
          refine Wl.nil ?_
          refine PX.then_n ?_
          refine CT.cond rfl (fun h39 => ?_) (fun h39 => ?_)
          · -- if t39: then
            have h39 := of_nd_t h39
            have pb := pb (by omega)
            have hdl := hd.len
            -- region 10, drawn: ref.go:149
            refine CT.draw 13 YA_mixed ?_
            refine RA.q 0 (by kernel_rfl) rfl rfl rfl (.refl _) (OpQ.move rfl) ?_
            refine RA.q 1 (by kernel_rfl) rfl rfl rfl (.refl _) (OpQ.move rfl) ?_
            refine RA.q 2 (by kernel_rfl) rfl rfl rfl (.refl _) (OpQ.move rfl) ?_
            refine RA.q 3 (by kernel_rfl) rfl rfl rfl (.refl _) (OpQ.move rfl) ?_
            refine RA.q 4 (by kernel_rfl) rfl rfl rfl (.refl _) (OpQ.index1 YA_un22 YA_sz3 rfl rfl (by omega) rfl) ?_
            refine RA.q 5 (by kernel_rfl) rfl rfl rfl (.refl _) (OpQ.loadRow YA_sc3 rfl (.there .here) (getMap zi dv 0 (j := i) (by omega))) ?_
            refine RA.know 45 (v' := .int .i64 ((if 5 ≤ (xs.getD i n0).op then (gd xs (xs.getD i n0).a.toNat) else 0))) rfl (congrArg (Value.int .i64) hd.at_) ?_
            refine RA.q 6 (by kernel_rfl) rfl rfl rfl (.refl _) (OpQ.move rfl) ?_
            refine RA.q 7 (by kernel_rfl) rfl rfl rfl (.refl _) (OpQ.fieldAddr YA_fa72_3 rfl) ?_
            refine RA.q 8 (by kernel_rfl) rfl rfl rfl (.refl _) (OpQ.loadF (b := b5) YA_sc3 rfl (by repeat (first | exact Has.here | apply Has.there)) (by rfl)) ?_
            refine RA.q 9 (by kernel_rfl) rfl rfl rfl (.refl _) (OpQ.index1 YA_un22 YA_sz3 rfl rfl (by omega) rfl) ?_
            refine RA.q 10 (by kernel_rfl) rfl rfl rfl (.refl _) (OpQ.loadRow YA_sc3 rfl (.there .here) (getMap zi dv 0 (j := (xs.getD i n0).b.toNat) (by omega))) ?_
            refine RA.know 50 (v' := .int .i64 ((gd xs (xs.getD i n0).b.toNat))) rfl (congrArg (Value.int .i64) (hd.lt _ (by omega))) ?_
            refine RA.q 11 (by kernel_rfl) rfl rfl rfl (.refl _) (OpQ.max rfl rfl) ?_
            refine RA.q 12 (by kernel_rfl) rfl rfl rfl (.refl _) (OpQ.index1 YA_un22 YA_sz3 rfl rfl (by omega) rfl) ?_
            refine RA.tail ?_
            refine RT.f 13 (by kernel_rfl) rfl rfl rfl (OpG.storeRow YA_sz3 rfl rfl rfl (.there .here) (by rw [List.length_map, hd.len]; show i < _; omega)) ?_
            rintro _ _
            refine RT.done (by kernel_rfl) ?_
            exact PX.cut hK2 (dv.set i (mx (if 5 ≤ (xs.getD i n0).op then (gd xs (xs.getD i n0).a.toNat) else 0) ((gd xs (xs.getD i n0).b.toNat)))) (by rw [if_pos (by omega)]; exact hd.set (by omega)) ⟨rfl, rfl, rfl, rfl, rfl, rfl, rfl, trivial⟩ (.keep rfl (.keep (row_eq (by rw [List.map_set] <;> rfl)) (.keep rfl .nil)))
          · -- if t39: else
            have h39 := of_nd_f h39
            refine CT.skip ?_
            exact PX.cut hK2 dv (by rw [if_neg (by omega)]; exact hd) ⟨rfl, rfl, rfl, rfl, rfl, rfl, rfl, trivial⟩ (HSub.refl _)
        · -- t35 = False
          have hg35 := of_decide_eq_false hg35
          refine Wl.skip rfl rfl ?_
          refine Wl.skip rfl rfl ?_
          refine Wl.skip rfl rfl ?_
          refine Wl.q rfl rfl (OpQ.pickF rfl rfl) ?_
          refine Wl.nil ?_
          refine PX.then_n ?_
          refine CT.condF rfl ?_
          refine CT.skip ?_
          exact PX.cut hK2 dv (by rw [if_neg (by omega)]; exact hd) ⟨rfl, rfl, rfl, rfl, rfl, rfl, rfl, trivial⟩ (HSub.refl _)
      · -- from the join on
        refine CT.seq ?_
        -- region 11: ref.go:151
        refine CT.region ?_
        refine Wl.q rfl rfl (OpQ.fieldAddr YA_fa72_0 rfl) ?_
        refine Wl.q rfl rfl (OpQ.loadF (b := b5) YA_sc3 rfl (by repeat (first | exact Has.here | apply Has.there)) (by rfl)) ?_
        refine Wl.q rfl rfl (OpQ.eql rfl rfl) ?_
        refine Wl.nil ?_
        refine PX.then_n ?_
        refine CT.cond rfl (fun h55 => ?_) (fun h55 => ?_)
        · -- if t55: then
          have h55 := of_decide_eq_true h55
          have hdl := hd.len
          have hgl := gd_le hG (i := i) (by omega)
          have hg0 := gd_nn hG (i := i) (by omega)
          rw [hgd, if_pos h55] at hgl hg0
          -- region 12: ref.go:152
          refine CT.region ?_
          refine Wl.q rfl rfl (OpQ.move rfl) ?_
          refine Wl.q rfl rfl (OpQ.move rfl) ?_
          refine Wl.q rfl rfl (OpQ.index1 YA_un22 YA_sz3 rfl rfl (by omega) rfl) ?_
          refine Wl.q rfl rfl (OpQ.loadRow YA_sc3 rfl (.there .here) (getMap zi dv 0 (j := i) (by omega))) ?_
          refine Wl.know 59 (v' := .int .i64 ((if 5 ≤ (xs.getD i n0).op ∧ (xs.getD i n0).op ≠ 8 then mx (if 5 ≤ (xs.getD i n0).op then (gd xs (xs.getD i n0).a.toNat) else 0) ((gd xs (xs.getD i n0).b.toNat)) else (if 5 ≤ (xs.getD i n0).op then (gd xs (xs.getD i n0).a.toNat) else 0)))) rfl (congrArg (Value.int .i64) hd.at_) ?_
          refine Wl.q rfl rfl (OpQ.add rfl rfl (by omega)) ?_
          refine Wl.q rfl rfl (OpQ.index1 YA_un22 YA_sz3 rfl rfl (by omega) rfl) ?_
          refine Wl.g rfl rfl (OpG.storeRow YA_sz3 rfl rfl rfl (.there .here) (by rw [List.length_map, hd.len]; show i < _; omega)) ?_
          rintro _ _
          refine Wl.nil ?_
          refine PX.block_n ?_
          refine PX.then_n ?_
          -- region 13: ref.go:144
          refine CT.region ?_
          refine Wl.q rfl rfl (OpQ.add rfl rfl (by omega)) ?_
          refine Wl.q rfl rfl (OpQ.move rfl) ?_
          refine Wl.nil ?_
          exact PX.loop hK0 (i + 1, dv.set i ((if 5 ≤ (xs.getD i n0).op ∧ (xs.getD i n0).op ≠ 8 then mx (if 5 ≤ (xs.getD i n0).op then (gd xs (xs.getD i n0).a.toNat) else 0) ((gd xs (xs.getD i n0).b.toNat)) else (if 5 ≤ (xs.getD i n0).op then (gd xs (xs.getD i n0).a.toNat) else 0)) + 1)) ⟨by omega, (hd.set (by omega)).next (by rw [hgd, if_pos h55])⟩ (show xs.length - (i + 1) < xs.length - i by omega) ⟨rfl, rfl, rfl, rfl, rfl, trivial⟩ (.drop (.keep (row_eq (by rw [List.map_set] <;> rfl)) (.keep rfl .nil)))
        · -- if t55: else
          have h55 := of_decide_eq_false h55
          refine CT.skip ?_
          refine PX.block_n ?_
          refine PX.then_n ?_
          -- region 13: ref.go:144
          refine CT.region ?_
          refine Wl.q rfl rfl (OpQ.add rfl rfl (by omega)) ?_
          refine Wl.q rfl rfl (OpQ.move rfl) ?_
          refine Wl.nil ?_
          exact PX.loop hK0 (i + 1, dv) ⟨by omega, hd.next (by rw [hgd, if_neg h55, Int.add_zero])⟩ (show xs.length - (i + 1) < xs.length - i by omega) ⟨rfl, rfl, rfl, rfl, rfl, trivial⟩ (.drop (HSub.refl _))
  · -- if t17: else
    have h17 := of_decide_eq_false h17
    refine CT.exit ?_
    refine PX.then_x ?_
    refine PX.then_x ?_
    refine PX.block_x ?_
    refine PX.then_n ?_
    refine CT.seq ?_
    -- region 14: ref.go:155
    refine CT.region ?_
    refine Wl.q rfl rfl (OpQ.move rfl) ?_
    refine Wl.q rfl rfl (OpQ.fieldAddr YA_fa40_1 rfl) ?_
    refine Wl.q rfl rfl (OpQ.loadF (b := b1) YA_sc3 rfl (by repeat (first | exact Has.here | apply Has.there)) (by rfl)) ?_
    refine Wl.q rfl rfl (OpQ.index1 YA_un22 YA_sz3 rfl rfl (by omega) rfl) ?_
    refine Wl.q rfl rfl (OpQ.loadRow YA_sc3 rfl .here (getMap zi dv 0 (j := rt) (by have := hd.len; omega))) ?_
    refine Wl.q rfl rfl (OpQ.assign rfl) ?_
    refine Wl.nil ?_
    refine PX.then_n ?_
    refine CT.ret ?_
    refine PX.ret1 rfl rfl (fun w' hH => ?_)
    obtain rfl : i = xs.length := by omega
    exact ⟨by rw [hd.lt rt hrt], hH.ext⟩

end Go.Proofs.Ytdcjemjfliaaiaa
