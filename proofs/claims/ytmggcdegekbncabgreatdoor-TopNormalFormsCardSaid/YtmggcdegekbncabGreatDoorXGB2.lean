/-
  What functions of the program compute, each by its walk. Conditions: those that each theorem names.
-/
import Derived.Test.YtmggcdegekbncabGreatDoorMod
import Derived.Test.YtmggcdegekbncabGreatDoorXGB1
import Derived.Test.YtmggcdegekbncabGreatDoorXF
set_option linter.unusedSimpArgs false
namespace Go.Proofs.YtmggcdegekbncabGreatDoor
open Go Go.Eng Go.Am
open Go.Tp (zi)
open Go.Tl (mayL Wd okW okB bo)
theorem K2_fa30_0 : fieldB Tryz.prog 30 0 = some 0 := by kernel_rfl
theorem K2_sc3 : scalarB Tryz.prog 3 = some true := by kernel_rfl
theorem K2_fa30_2 : fieldB Tryz.prog 30 2 = some 2 := by kernel_rfl
theorem K2_sc27 : scalarB Tryz.prog 27 = some true := by kernel_rfl
theorem K2_un27 : Tryz.prog.underlying 27 = some (.slice 4) := by kernel_rfl
theorem K2_fa30_3 : fieldB Tryz.prog 30 3 = some 3 := by kernel_rfl
theorem K2_sc28 : scalarB Tryz.prog 28 = some true := by kernel_rfl
theorem K2_un28 : Tryz.prog.underlying 28 = some (.slice 62) := by kernel_rfl
theorem K2_fa30_1 : fieldB Tryz.prog 30 1 = some 1 := by kernel_rfl
theorem K2_sz62 : sizeB Tryz.prog 62 = some 1 := by kernel_rfl
theorem K2_sc62 : scalarB Tryz.prog 62 = some true := by kernel_rfl
theorem K2_un62 : Tryz.prog.underlying 62 = some (.slice 3) := by kernel_rfl
theorem K2_sz3 : sizeB Tryz.prog 3 = some 1 := by kernel_rfl
set_option maxRecDepth 100000 in
/-- semigroup/dfa.Validate -/
theorem dvalid_spec (w : World) (D : Dv) (hD : Stays [] w (dvm D)) : Calls Tryz.prog 12 #[dvv D] w (fun e w' => e = .returned (.int .i64 (dvE D)) ∧ Ext [] w w') := by
 have hns : 0 < D.rs.length → D.na.isSome = true := fun h => hD.now.2.1.isSome (j := 0) (by rw [List.length_map]; exact h)
 have hrs : ∀ q, q < D.rs.length → 0 < (D.rs.getD q rw0).xs.length → (D.rs.getD q rw0).a.isSome = true := fun q hq h => (hD.now.2.2 _ (getDm hq)).isSome (j := 0) (by rw [List.length_map]; exact h)
 refine enter (args := [dvv D]) [] 64 Tryz.func12 rfl rfl rfl ?_
 refine CT.seq (CT.region ?_)
 refine Wl.g rfl rfl (OpG.box (size := 4) rfl rfl rfl) ?_
 rintro b1 _
 refine Wl.q rfl rfl (OpQ.assign rfl) ?_
 refine Wl.nil (PX.then_n (CT.seq (CT.seq (CT.region ?_))))
 refine Wl.q rfl rfl (OpQ.fieldAddr K2_fa30_0 rfl) ?_
 refine Wl.q rfl rfl (OpQ.loadF (b := b1) K2_sc3 rfl (by repeat (first | exact Has.here | apply Has.there)) (by rfl)) ?_
 refine Wl.q rfl rfl (OpQ.lss rfl rfl) ?_
 refine Wl.q rfl rfl (OpQ.move rfl) ?_
 refine Wl.split 11 rfl (fun hg11 => ?_) (fun hg11 => ?_)
 ·
  have hg11 := of_decide_eq_true hg11
  refine Wl.skip rfl rfl ?_
  refine Wl.skip rfl rfl ?_
  refine Wl.skip rfl rfl ?_
  refine Wl.q rfl rfl (OpQ.pickT rfl rfl) ?_
  refine Wl.nil (PX.then_n ?_)
  refine CT.condT rfl ?_
  refine CT.seq (CT.region ?_)
  refine Wl.q rfl rfl (OpQ.assign rfl) ?_
  refine Wl.nil (PX.then_n (CT.ret (PX.then_r ?_)))
  refine PX.ret1 rfl rfl (fun w' hH => ?_)
  exact ⟨Tl.ret_i (dvE_may (by rw [mayL, decide_eq_false_iff_not]; omega)).symm, hH.ext⟩
 ·
  have hg11 := of_decide_eq_false hg11
  refine Wl.q rfl rfl (OpQ.fieldAddr K2_fa30_0 rfl) ?_
  refine Wl.q rfl rfl (OpQ.loadF (b := b1) K2_sc3 rfl (by repeat (first | exact Has.here | apply Has.there)) (by rfl)) ?_
  refine Wl.q rfl rfl (OpQ.gtr rfl rfl) ?_
  refine Wl.q rfl rfl (OpQ.pickF rfl rfl) ?_
  refine Wl.nil (PX.then_n ?_)
  refine CT.cond rfl (fun h15 => ?_) (fun h15 => ?_)
  ·
   have h15 := of_decide_eq_true h15
   refine CT.seq (CT.region ?_)
   refine Wl.q rfl rfl (OpQ.assign rfl) ?_
   refine Wl.nil (PX.then_n (CT.ret (PX.then_r ?_)))
   refine PX.ret1 rfl rfl (fun w' hH => ?_)
   exact ⟨Tl.ret_i (dvE_may (by rw [mayL, decide_eq_false_iff_not]; omega)).symm, hH.ext⟩
  ·
   have h15 := of_decide_eq_false h15
   have hmay : mayL D.L = true := by rw [mayL, decide_eq_true_eq]; omega
   refine CT.skip (PX.then_n (CT.seq (CT.region ?_)))
   refine Wl.q rfl rfl (OpQ.fieldAddr K2_fa30_2 rfl) ?_
   refine Wl.q rfl rfl (OpQ.loadF (b := b1) K2_sc27 rfl (by repeat (first | exact Has.here | apply Has.there)) (by rfl)) ?_
   refine Wl.q rfl rfl (OpQ.len K2_un27 rfl) ?_
   refine Wl.q rfl rfl (OpQ.assign rfl) ?_
   refine Wl.nil (PX.then_n (CT.seq (CT.seq (CT.region ?_))))
   refine Wl.q rfl rfl (OpQ.move rfl) ?_
   refine Wl.q rfl rfl (OpQ.gtr rfl rfl) ?_
   refine Wl.nil (PX.then_n ?_)
   refine CT.cond rfl (fun h20 => ?_) (fun h20 => ?_)
   ·
    have h20 := of_decide_eq_true h20
    refine CT.seq (CT.region ?_)
    refine Wl.q rfl rfl (OpQ.assign rfl) ?_
    refine Wl.nil (PX.then_n (CT.ret (PX.then_r ?_)))
    refine PX.ret1 rfl rfl (fun w' hH => ?_)
    exact ⟨Tl.ret_i (dvE_long hmay (by omega)).symm, hH.ext⟩
   ·
    have h20 := of_decide_eq_false h20
    refine CT.skip (PX.then_n (CT.seq (CT.seq (CT.region ?_))))
    refine Wl.q rfl rfl (OpQ.fieldAddr K2_fa30_3 rfl) ?_
    refine Wl.q rfl rfl (OpQ.loadF (b := b1) K2_sc28 rfl (by repeat (first | exact Has.here | apply Has.there)) (by rfl)) ?_
    refine Wl.q rfl rfl (OpQ.len K2_un28 rfl) ?_
    refine Wl.q rfl rfl (OpQ.move rfl) ?_
    refine Wl.q rfl rfl (OpQ.neq rfl rfl) ?_
    refine Wl.q rfl rfl (OpQ.move rfl) ?_
    refine Wl.split 26 rfl (fun hg26 => ?_) (fun hg26 => ?_)
    ·
     have hg26 := of_nd_t hg26
     refine Wl.skip rfl rfl ?_
     refine Wl.skip rfl rfl ?_
     refine Wl.skip rfl rfl ?_
     refine Wl.q rfl rfl (OpQ.pickT rfl rfl) ?_
     refine Wl.q rfl rfl (OpQ.move rfl) ?_
     refine Wl.skip rfl rfl ?_
     refine Wl.skip rfl rfl ?_
     refine Wl.skip rfl rfl ?_
     refine Wl.skip rfl rfl ?_
     refine Wl.q rfl rfl (OpQ.pickT rfl rfl) ?_
     refine Wl.nil (PX.then_n ?_)
     refine CT.condT rfl ?_
     refine CT.seq (CT.region ?_)
     refine Wl.q rfl rfl (OpQ.assign rfl) ?_
     refine Wl.nil (PX.then_n (CT.ret (PX.then_r ?_)))
     refine PX.ret1 rfl rfl (fun w' hH => ?_)
     exact ⟨Tl.ret_i (dvE_form hmay (by omega) (by omega)).symm, hH.ext⟩
    ·
     have hg26 := of_nd_f hg26
     refine Wl.q rfl rfl (OpQ.fieldAddr K2_fa30_1 rfl) ?_
     refine Wl.q rfl rfl (OpQ.loadF (b := b1) K2_sc3 rfl (by repeat (first | exact Has.here | apply Has.there)) (by rfl)) ?_
     refine Wl.q rfl rfl (OpQ.lss rfl rfl) ?_
     refine Wl.q rfl rfl (OpQ.pickF rfl rfl) ?_
     refine Wl.q rfl rfl (OpQ.move rfl) ?_
     refine Wl.split 31 rfl (fun hg31 => ?_) (fun hg31 => ?_)
     ·
      have hg31 := of_decide_eq_true hg31
      refine Wl.skip rfl rfl ?_
      refine Wl.skip rfl rfl ?_
      refine Wl.skip rfl rfl ?_
      refine Wl.skip rfl rfl ?_
      refine Wl.q rfl rfl (OpQ.pickT rfl rfl) ?_
      refine Wl.nil (PX.then_n ?_)
      refine CT.condT rfl ?_
      refine CT.seq (CT.region ?_)
      refine Wl.q rfl rfl (OpQ.assign rfl) ?_
      refine Wl.nil (PX.then_n (CT.ret (PX.then_r ?_)))
      refine PX.ret1 rfl rfl (fun w' hH => ?_)
      exact ⟨Tl.ret_i (dvE_form hmay (by omega) (by omega)).symm, hH.ext⟩
     ·
      have hg31 := of_decide_eq_false hg31
      refine Wl.q rfl rfl (OpQ.fieldAddr K2_fa30_1 rfl) ?_
      refine Wl.q rfl rfl (OpQ.loadF (b := b1) K2_sc3 rfl (by repeat (first | exact Has.here | apply Has.there)) (by rfl)) ?_
      refine Wl.q rfl rfl (OpQ.move rfl) ?_
      refine Wl.q rfl rfl (OpQ.geq rfl rfl) ?_
      refine Wl.q rfl rfl (OpQ.pickF rfl rfl) ?_
      refine Wl.nil (PX.then_n ?_)
      refine CT.cond rfl (fun h36 => ?_) (fun h36 => ?_)
      ·
       have h36 := of_decide_eq_true h36
       refine CT.seq (CT.region ?_)
       refine Wl.q rfl rfl (OpQ.assign rfl) ?_
       refine Wl.nil (PX.then_n (CT.ret (PX.then_r ?_)))
       refine PX.ret1 rfl rfl (fun w' hH => ?_)
       exact ⟨Tl.ret_i (dvE_form hmay (by omega) (by omega)).symm, hH.ext⟩
      ·
       have h36 := of_decide_eq_false h36
       have hlen : D.rs.length = D.fin.length := by omega
       refine CT.skip (PX.then_n (CT.seq (CT.seq (CT.region ?_))))
       refine Wl.q rfl rfl (OpQ.fieldAddr K2_fa30_3 rfl) ?_
       refine Wl.q rfl rfl (OpQ.loadF (b := b1) K2_sc28 rfl (by repeat (first | exact Has.here | apply Has.there)) (by rfl)) ?_
       refine Wl.q rfl rfl (OpQ.len K2_un28 rfl) ?_
       refine Wl.q rfl rfl (OpQ.move rfl) ?_
       refine Wl.nil (PX.then_n (CT.block ?_))
       refine CT.loop (ι := Nat) (fun i => i ≤ D.rs.length ∧ ∀ q, q < i → rowB D.fin.length D.L (D.rs.getD q rw0) = true) (fun i => [(1, .pointer (some ⟨b1, 0, none⟩)), (3, .int .i64 ((D.fin.length : Nat) : Int)), (38, .slice D.na D.rs.length D.nc), (39, .int .i64 ((D.rs.length : Nat) : Int)), (40, .int .i64 ((i : Nat) : Int))]) (fun _ => [.row 30 4 (vb b1) 1 (dvc D)]) (fun i => D.rs.length - i) 0 ⟨Nat.zero_le _, fun q hq => by omega⟩ ⟨rfl, rfl, rfl, rfl, rfl, trivial⟩ (HSub.refl _) (fun i ⟨hi, hall⟩ K0 hK0 => ?_)
       refine CT.seq (CT.region ?_)
       refine Wl.q rfl rfl (OpQ.lss rfl rfl) ?_
       refine Wl.nil (PX.then_n (CT.seq ?_))
       refine CT.cond rfl (fun h41 => ?_) (fun h41 => ?_)
       ·
        have h41 := of_decide_eq_true h41
        refine CT.skip (PX.then_n (CT.seq (CT.block (CT.seq (CT.region ?_)))))
        refine Wl.q rfl rfl (OpQ.index1 K2_un28 K2_sz62 rfl rfl (by omega) (hns (by omega))) ?_
        refine Wl.q rfl rfl (OpQ.loadG K2_sc62 rfl (fun w hH => (hH.use hD).2.1) (getMap rv D.rs rw0 (j := i) (by omega))) ?_
        refine Wl.q rfl rfl (OpQ.assign rfl) ?_
        refine Wl.nil (PX.then_n (CT.seq (CT.seq (CT.region ?_))))
        refine Wl.q rfl rfl (OpQ.move rfl) ?_
        refine Wl.q rfl rfl (OpQ.len K2_un62 rfl) ?_
        refine Wl.q rfl rfl (OpQ.fieldAddr K2_fa30_0 rfl) ?_
        refine Wl.q rfl rfl (OpQ.loadF (b := b1) K2_sc3 rfl (by repeat (first | exact Has.here | apply Has.there)) (by rfl)) ?_
        refine Wl.q rfl rfl (OpQ.neq rfl rfl) ?_
        refine Wl.nil (PX.then_n ?_)
        refine CT.cond rfl (fun h48 => ?_) (fun h48 => ?_)
        ·
         have h48 := of_nd_t h48
         have hbad : rowB D.fin.length D.L (D.rs.getD i rw0) = false := by unfold rowB; rw [decide_eq_false h48]; rfl
         refine CT.seq (CT.region ?_)
         refine Wl.q rfl rfl (OpQ.assign rfl) ?_
         refine Wl.nil (PX.then_n (CT.ret (PX.then_r (PX.block_r (PX.then_r (PX.then_r (PX.block_r (PX.then_r ?_))))))))
         refine PX.ret1 rfl rfl (fun w' hH => ?_)
         exact ⟨Tl.ret_i (dvE_row hmay (by omega) (show i < D.rs.length by omega) hbad).symm, hH.ext⟩
        ·
         have h48 := of_nd_f h48
         refine CT.skip (PX.then_n (CT.seq (CT.region ?_)))
         refine Wl.q rfl rfl (OpQ.move rfl) ?_
         refine Wl.q rfl rfl (OpQ.len K2_un62 rfl) ?_
         refine Wl.q rfl rfl (OpQ.move rfl) ?_
         refine Wl.nil (PX.then_n (CT.block ?_))
         refine CT.loop (ι := Nat) (fun j => j ≤ (D.rs.getD i rw0).xs.length ∧ ∀ x, x < j → 0 ≤ (D.rs.getD i rw0).xs.getD x 0 ∧ (D.rs.getD i rw0).xs.getD x 0 < D.fin.length) (fun j => [(1, .pointer (some ⟨b1, 0, none⟩)), (3, .int .i64 ((D.fin.length : Nat) : Int)), (38, .slice D.na D.rs.length D.nc), (39, .int .i64 ((D.rs.length : Nat) : Int)), (40, .int .i64 ((i : Nat) : Int)), (5, rv (D.rs.getD i rw0)), (49, rv (D.rs.getD i rw0)), (50, .int .i64 (((D.rs.getD i rw0).xs.length : Nat) : Int)), (51, .int .i64 ((j : Nat) : Int))]) (fun _ => [.row 30 4 (vb b1) 1 (dvc D)]) (fun j => (D.rs.getD i rw0).xs.length - j) 0 ⟨Nat.zero_le _, fun q hq => by omega⟩ ⟨rfl, rfl, rfl, rfl, rfl, rfl, rfl, rfl, rfl, trivial⟩ (HSub.refl _) (fun j ⟨hj, hrng⟩ K1 hK1 => ?_)
         refine CT.seq (CT.region ?_)
         refine Wl.q rfl rfl (OpQ.lss rfl rfl) ?_
         refine Wl.nil (PX.then_n (CT.seq ?_))
         refine CT.cond rfl (fun h52 => ?_) (fun h52 => ?_)
         ·
          have h52 := of_decide_eq_true h52
          refine CT.skip (PX.then_n (CT.seq (CT.block (CT.seq (CT.region ?_)))))
          refine Wl.q rfl rfl (OpQ.index1 K2_un62 K2_sz3 rfl rfl (by omega) (hrs i (by omega) (by omega))) ?_
          refine Wl.q rfl rfl (OpQ.loadG K2_sc3 rfl (fun w hH => (hH.use hD).2.2 _ (getDm (show i < D.rs.length by omega))) (getMap zz (D.rs.getD i rw0).xs 0 (j := j) (by omega))) ?_
          refine Wl.q rfl rfl (OpQ.assign rfl) ?_
          refine Wl.nil (PX.then_n (CT.seq (CT.region ?_)))
          refine Wl.q rfl rfl (OpQ.move rfl) ?_
          refine Wl.q rfl rfl (OpQ.lss rfl rfl) ?_
          refine Wl.q rfl rfl (OpQ.move rfl) ?_
          refine Wl.split 57 rfl (fun hg57 => ?_) (fun hg57 => ?_)
          ·
           have hg57 := of_decide_eq_true hg57
           have hbad : rowB D.fin.length D.L (D.rs.getD i rw0) = false := by
            unfold rowB
            rw [Bool.and_eq_false_iff]
            refine .inr (List.all_eq_false.2 ⟨_, getDm (show j < (D.rs.getD i rw0).xs.length by omega) (d := 0), ?_⟩)
            rw [decide_eq_true_eq]; omega
           refine Wl.skip rfl rfl ?_
           refine Wl.skip rfl rfl ?_
           refine Wl.skip rfl rfl ?_
           refine Wl.q rfl rfl (OpQ.pickT rfl rfl) ?_
           refine Wl.nil (PX.then_n ?_)
           refine CT.condT rfl ?_
           refine CT.seq (CT.region ?_)
           refine Wl.q rfl rfl (OpQ.assign rfl) ?_
           refine Wl.nil (PX.then_n (CT.ret (PX.block_r (PX.then_r (PX.then_r (PX.block_r (PX.block_r (PX.then_r (PX.then_r (PX.block_r (PX.then_r ?_)))))))))))
           refine PX.ret1 rfl rfl (fun w' hH => ?_)
           exact ⟨Tl.ret_i (dvE_row hmay (by omega) (show i < D.rs.length by omega) hbad).symm, hH.ext⟩
          ·
           have hg57 := of_decide_eq_false hg57
           refine Wl.q rfl rfl (OpQ.move rfl) ?_
           refine Wl.q rfl rfl (OpQ.move rfl) ?_
           refine Wl.q rfl rfl (OpQ.geq rfl rfl) ?_
           refine Wl.q rfl rfl (OpQ.pickF rfl rfl) ?_
           refine Wl.nil (PX.then_n ?_)
           refine CT.cond rfl (fun h61 => ?_) (fun h61 => ?_)
           ·
            have h61 := of_decide_eq_true h61
            have hbad : rowB D.fin.length D.L (D.rs.getD i rw0) = false := by
             unfold rowB
             rw [Bool.and_eq_false_iff]
             refine .inr (List.all_eq_false.2 ⟨_, getDm (show j < (D.rs.getD i rw0).xs.length by omega) (d := 0), ?_⟩)
             rw [decide_eq_true_eq]; omega
            refine CT.seq (CT.region ?_)
            refine Wl.q rfl rfl (OpQ.assign rfl) ?_
            refine Wl.nil (PX.then_n (CT.ret (PX.block_r (PX.then_r (PX.then_r (PX.block_r (PX.block_r (PX.then_r (PX.then_r (PX.block_r (PX.then_r ?_)))))))))))
            refine PX.ret1 rfl rfl (fun w' hH => ?_)
            exact ⟨Tl.ret_i (dvE_row hmay (by omega) (show i < D.rs.length by omega) hbad).symm, hH.ext⟩
           ·
            have h61 := of_decide_eq_false h61
            refine CT.skip (PX.block_n (PX.then_n (CT.region ?_)))
            refine Wl.q rfl rfl (OpQ.add rfl rfl (by omega)) ?_
            refine Wl.q rfl rfl (OpQ.move rfl) ?_
            refine Wl.nil ?_
            exact PX.loop hK1 (j + 1) ⟨by omega, fun x hx => by rcases Nat.lt_or_ge x j with h1 | h1; exact hrng x h1; obtain rfl : x = j := (by omega); exact ⟨by omega, by omega⟩⟩ (by first | omega | (dsimp only; omega)) ⟨rfl, rfl, rfl, rfl, rfl, rfl, rfl, rfl, rfl, trivial⟩ (HSub.refl _)
         ·
          have h52 := of_decide_eq_false h52
          refine CT.exit (PX.then_x (PX.then_x (PX.block_x (PX.block_n (PX.then_n (CT.region ?_))))))
          refine Wl.q rfl rfl (OpQ.add rfl rfl (by omega)) ?_
          refine Wl.q rfl rfl (OpQ.move rfl) ?_
          refine Wl.nil ?_
          have hrow : rowB D.fin.length D.L (D.rs.getD i rw0) = true := by
           unfold rowB
           rw [Bool.and_eq_true, decide_eq_true_eq, List.all_eq_true]
           refine ⟨h48, fun x hx => ?_⟩
           obtain ⟨j, hj, rfl⟩ := List.mem_iff_getElem.1 hx
           have h0 := hrng j (by omega)
           rw [List.getD_eq_getElem?_getD (l := (D.rs.getD i rw0).xs), List.getElem?_eq_getElem hj, Option.getD_some] at h0
           exact decide_eq_true h0
          exact PX.loop hK0 (i + 1) ⟨by omega, fun q hq => by rcases Nat.lt_or_ge q i with h1 | h1; exact hall q h1; obtain rfl : q = i := (by omega); exact hrow⟩ (by first | omega | (dsimp only; omega)) ⟨rfl, rfl, rfl, rfl, rfl, trivial⟩ (HSub.refl _)
       ·
        have h41 := of_decide_eq_false h41
        refine CT.exit (PX.then_x (PX.then_x (PX.block_x (PX.then_n (CT.seq (CT.region ?_))))))
        refine Wl.q rfl rfl (OpQ.assign rfl) ?_
        refine Wl.nil (PX.then_n (CT.ret ?_))
        refine PX.ret1 rfl rfl (fun w' hH => ?_)
        exact ⟨Tl.ret_i (dvE_ok hmay (by omega) (by omega) (fun q hq => hall q (by omega))).symm, hH.ext⟩

end Go.Proofs.YtmggcdegekbncabGreatDoor

