/-
  What functions of the program compute, each by its walk. Conditions: those that each theorem names.
-/
import Derived.Test.YtmggcdegekbncabGreatDoorMod
import Derived.Test.YtmggcdegekbncabGreatDoorXGB5
import Derived.Test.YtmggcdegekbncabGreatDoorXF
set_option linter.unusedSimpArgs false
namespace Go.Proofs.YtmggcdegekbncabGreatDoor
open Go Go.Eng Go.Am
open Go.Tp (zi)
open Go.Tl (mayL Wd okW okB bo)
theorem K6_fa30_0 : fieldB Tryz.prog 30 0 = some 0 := by kernel_rfl
theorem K6_sc3 : scalarB Tryz.prog 3 = some true := by kernel_rfl
theorem K6_fa30_1 : fieldB Tryz.prog 30 1 = some 1 := by kernel_rfl
theorem K6_fa30_2 : fieldB Tryz.prog 30 2 = some 2 := by kernel_rfl
theorem K6_sc27 : scalarB Tryz.prog 27 = some true := by kernel_rfl
theorem K6_un27 : Tryz.prog.underlying 27 = some (.slice 4) := by kernel_rfl
theorem K6_fa30_3 : fieldB Tryz.prog 30 3 = some 3 := by kernel_rfl
theorem K6_sc28 : scalarB Tryz.prog 28 = some true := by kernel_rfl
theorem K6_un28 : Tryz.prog.underlying 28 = some (.slice 62) := by kernel_rfl
theorem K6_mixed : Tryz.prog.follows .mixedOrders = true := by kernel_rfl
theorem K6_sz4 : sizeB Tryz.prog 4 = some 1 := by kernel_rfl
theorem K6_sc4 : scalarB Tryz.prog 4 = some true := by kernel_rfl
theorem K6_un4 : Tryz.prog.underlying 4 = some .bool := by kernel_rfl
theorem K6_sz62 : sizeB Tryz.prog 62 = some 1 := by kernel_rfl
theorem K6_sc62 : scalarB Tryz.prog 62 = some true := by kernel_rfl
theorem K6_un62 : Tryz.prog.underlying 62 = some (.slice 3) := by kernel_rfl
theorem K6_sz3 : sizeB Tryz.prog 3 = some 1 := by kernel_rfl
set_option maxRecDepth 100000 in
/-- semigroup/semigroupref07.Same -/
theorem same_spec (w : World) (D F : Dv) (hD : Stays [] w (dvm D)) (hF : Stays [] w (dvm F)) (hl1 : D.fin.length ≤ 100000) (hl2 : D.rs.length ≤ 100000) (hl3 : ∀ q, q < D.rs.length → (D.rs.getD q rw0).xs.length ≤ 100000) : Calls Tryz.prog 13 #[dvv D, dvv F] w (fun e w' => e = .returned (.bool (sameD D F)) ∧ Ext [] w w') := by
 have hfs : 0 < D.fin.length → D.fa.isSome = true := fun h => hD.now.1.isSome (j := 0) (by rw [List.length_map]; exact h)
 have hns : 0 < D.rs.length → D.na.isSome = true := fun h => hD.now.2.1.isSome (j := 0) (by rw [List.length_map]; exact h)
 have hrs : ∀ q, q < D.rs.length → 0 < (D.rs.getD q rw0).xs.length → (D.rs.getD q rw0).a.isSome = true := fun q hq h => (hD.now.2.2 _ (getDm hq)).isSome (j := 0) (by rw [List.length_map]; exact h)
 have hfs2 : 0 < F.fin.length → F.fa.isSome = true := fun h => hF.now.1.isSome (j := 0) (by rw [List.length_map]; exact h)
 have hns2 : 0 < F.rs.length → F.na.isSome = true := fun h => hF.now.2.1.isSome (j := 0) (by rw [List.length_map]; exact h)
 have hrs2 : ∀ q, q < F.rs.length → 0 < (F.rs.getD q rw0).xs.length → (F.rs.getD q rw0).a.isSome = true := fun q hq h => (hF.now.2.2 _ (getDm hq)).isSome (j := 0) (by rw [List.length_map]; exact h)
 refine enter (args := [dvv D, dvv F]) [] 103 Tryz.func13 rfl rfl rfl ?_
 refine CT.seq (CT.region ?_)
 refine Wl.g rfl rfl (OpG.box (size := 4) rfl rfl rfl) ?_
 rintro b2 _
 refine Wl.g rfl rfl (OpG.box (size := 4) rfl rfl rfl) ?_
 rintro b3 _
 refine Wl.q rfl rfl (OpQ.assign rfl) ?_
 refine Wl.nil (PX.then_n (CT.seq (CT.seq (CT.region ?_))))
 refine Wl.q rfl rfl (OpQ.fieldAddr K6_fa30_0 rfl) ?_
 refine Wl.q rfl rfl (OpQ.loadF (b := b2) K6_sc3 rfl (by repeat (first | exact Has.here | apply Has.there)) (by rfl)) ?_
 refine Wl.q rfl rfl (OpQ.fieldAddr K6_fa30_0 rfl) ?_
 refine Wl.q rfl rfl (OpQ.loadF (b := b3) K6_sc3 rfl (by repeat (first | exact Has.here | apply Has.there)) (by rfl)) ?_
 refine Wl.q rfl rfl (OpQ.neq rfl rfl) ?_
 refine Wl.q rfl rfl (OpQ.move rfl) ?_
 refine Wl.split 13 rfl (fun hg13 => ?_) (fun hg13 => ?_)
 ·
  have hg13 := of_nd_t hg13
  refine Wl.skip rfl rfl ?_
  refine Wl.skip rfl rfl ?_
  refine Wl.skip rfl rfl ?_
  refine Wl.skip rfl rfl ?_
  refine Wl.skip rfl rfl ?_
  refine Wl.q rfl rfl (OpQ.pickT rfl rfl) ?_
  refine Wl.q rfl rfl (OpQ.move rfl) ?_
  refine Wl.skip rfl rfl ?_
  refine Wl.skip rfl rfl ?_
  refine Wl.skip rfl rfl ?_
  refine Wl.skip rfl rfl ?_
  refine Wl.skip rfl rfl ?_
  refine Wl.skip rfl rfl ?_
  refine Wl.skip rfl rfl ?_
  refine Wl.q rfl rfl (OpQ.pickT rfl rfl) ?_
  refine Wl.q rfl rfl (OpQ.move rfl) ?_
  refine Wl.skip rfl rfl ?_
  refine Wl.skip rfl rfl ?_
  refine Wl.skip rfl rfl ?_
  refine Wl.skip rfl rfl ?_
  refine Wl.skip rfl rfl ?_
  refine Wl.skip rfl rfl ?_
  refine Wl.skip rfl rfl ?_
  refine Wl.q rfl rfl (OpQ.pickT rfl rfl) ?_
  refine Wl.nil (PX.then_n ?_)
  refine CT.condT rfl ?_
  refine CT.seq (CT.region ?_)
  refine Wl.q rfl rfl (OpQ.assign rfl) ?_
  refine Wl.nil (PX.then_n (CT.ret (PX.then_r ?_)))
  refine PX.ret1 rfl rfl (fun w' hH => ?_)
  exact ⟨congrArg (fun b => Ending.returned (.bool b)) (sameD_f fun hh => hg13 hh.1).symm, hH.ext⟩
 ·
  have hg13 := of_nd_f hg13
  refine Wl.q rfl rfl (OpQ.fieldAddr K6_fa30_1 rfl) ?_
  refine Wl.q rfl rfl (OpQ.loadF (b := b2) K6_sc3 rfl (by repeat (first | exact Has.here | apply Has.there)) (by rfl)) ?_
  refine Wl.q rfl rfl (OpQ.fieldAddr K6_fa30_1 rfl) ?_
  refine Wl.q rfl rfl (OpQ.loadF (b := b3) K6_sc3 rfl (by repeat (first | exact Has.here | apply Has.there)) (by rfl)) ?_
  refine Wl.q rfl rfl (OpQ.neq rfl rfl) ?_
  refine Wl.q rfl rfl (OpQ.pickF rfl rfl) ?_
  refine Wl.q rfl rfl (OpQ.move rfl) ?_
  refine Wl.split 20 rfl (fun hg20 => ?_) (fun hg20 => ?_)
  ·
   have hg20 : ¬ D.s = F.s := of_nd_t hg20
   refine Wl.skip rfl rfl ?_
   refine Wl.skip rfl rfl ?_
   refine Wl.skip rfl rfl ?_
   refine Wl.skip rfl rfl ?_
   refine Wl.skip rfl rfl ?_
   refine Wl.skip rfl rfl ?_
   refine Wl.skip rfl rfl ?_
   refine Wl.q rfl rfl (OpQ.pickT rfl rfl) ?_
   refine Wl.q rfl rfl (OpQ.move rfl) ?_
   refine Wl.skip rfl rfl ?_
   refine Wl.skip rfl rfl ?_
   refine Wl.skip rfl rfl ?_
   refine Wl.skip rfl rfl ?_
   refine Wl.skip rfl rfl ?_
   refine Wl.skip rfl rfl ?_
   refine Wl.skip rfl rfl ?_
   refine Wl.q rfl rfl (OpQ.pickT rfl rfl) ?_
   refine Wl.nil (PX.then_n ?_)
   refine CT.condT rfl ?_
   refine CT.seq (CT.region ?_)
   refine Wl.q rfl rfl (OpQ.assign rfl) ?_
   refine Wl.nil (PX.then_n (CT.ret (PX.then_r ?_)))
   refine PX.ret1 rfl rfl (fun w' hH => ?_)
   exact ⟨congrArg (fun b => Ending.returned (.bool b)) (sameD_f fun hh => hg20 hh.2.1).symm, hH.ext⟩
  ·
   have hg20 : D.s = F.s := of_nd_f hg20
   refine Wl.q rfl rfl (OpQ.fieldAddr K6_fa30_2 rfl) ?_
   refine Wl.q rfl rfl (OpQ.loadF (b := b2) K6_sc27 rfl (by repeat (first | exact Has.here | apply Has.there)) (by rfl)) ?_
   refine Wl.q rfl rfl (OpQ.len K6_un27 rfl) ?_
   refine Wl.q rfl rfl (OpQ.fieldAddr K6_fa30_2 rfl) ?_
   refine Wl.q rfl rfl (OpQ.loadF (b := b3) K6_sc27 rfl (by repeat (first | exact Has.here | apply Has.there)) (by rfl)) ?_
   refine Wl.q rfl rfl (OpQ.len K6_un27 rfl) ?_
   refine Wl.q rfl rfl (OpQ.neq rfl rfl) ?_
   refine Wl.q rfl rfl (OpQ.pickF rfl rfl) ?_
   refine Wl.q rfl rfl (OpQ.move rfl) ?_
   refine Wl.split 29 rfl (fun hg29 => ?_) (fun hg29 => ?_)
   ·
    have hg29 := of_nd_t hg29
    refine Wl.skip rfl rfl ?_
    refine Wl.skip rfl rfl ?_
    refine Wl.skip rfl rfl ?_
    refine Wl.skip rfl rfl ?_
    refine Wl.skip rfl rfl ?_
    refine Wl.skip rfl rfl ?_
    refine Wl.skip rfl rfl ?_
    refine Wl.q rfl rfl (OpQ.pickT rfl rfl) ?_
    refine Wl.nil (PX.then_n ?_)
    refine CT.condT rfl ?_
    refine CT.seq (CT.region ?_)
    refine Wl.q rfl rfl (OpQ.assign rfl) ?_
    refine Wl.nil (PX.then_n (CT.ret (PX.then_r ?_)))
    refine PX.ret1 rfl rfl (fun w' hH => ?_)
    exact ⟨congrArg (fun b => Ending.returned (.bool b)) (sameD_f fun hh => hg29 (by rw [hh.2.2.1])).symm, hH.ext⟩
   ·
    have hg29 := of_nd_f hg29
    refine Wl.q rfl rfl (OpQ.fieldAddr K6_fa30_3 rfl) ?_
    refine Wl.q rfl rfl (OpQ.loadF (b := b2) K6_sc28 rfl (by repeat (first | exact Has.here | apply Has.there)) (by rfl)) ?_
    refine Wl.q rfl rfl (OpQ.len K6_un28 rfl) ?_
    refine Wl.q rfl rfl (OpQ.fieldAddr K6_fa30_3 rfl) ?_
    refine Wl.q rfl rfl (OpQ.loadF (b := b3) K6_sc28 rfl (by repeat (first | exact Has.here | apply Has.there)) (by rfl)) ?_
    refine Wl.q rfl rfl (OpQ.len K6_un28 rfl) ?_
    refine Wl.q rfl rfl (OpQ.neq rfl rfl) ?_
    refine Wl.q rfl rfl (OpQ.pickF rfl rfl) ?_
    refine Wl.nil (PX.then_n ?_)
    refine CT.cond rfl (fun h37 => ?_) (fun h37 => ?_)
    ·
     have h37 := of_nd_t h37
     refine CT.seq (CT.region ?_)
     refine Wl.q rfl rfl (OpQ.assign rfl) ?_
     refine Wl.nil (PX.then_n (CT.ret (PX.then_r ?_)))
     refine PX.ret1 rfl rfl (fun w' hH => ?_)
     exact ⟨congrArg (fun b => Ending.returned (.bool b)) (sameD_f fun hh => h37 (by have := congrArg List.length hh.2.2.2; rw [List.length_map, List.length_map] at this; rw [this])).symm, hH.ext⟩
    ·
     have h37 := of_nd_f h37
     refine CT.skip (PX.then_n (CT.seq (CT.seq (CT.region ?_))))
     refine Wl.q rfl rfl (OpQ.fieldAddr K6_fa30_2 rfl) ?_
     refine Wl.q rfl rfl (OpQ.loadF (b := b2) K6_sc27 rfl (by repeat (first | exact Has.here | apply Has.there)) (by rfl)) ?_
     refine Wl.q rfl rfl (OpQ.len K6_un27 rfl) ?_
     refine Wl.q rfl rfl (OpQ.move rfl) ?_
     refine Wl.nil (PX.then_n (CT.block ?_))
     refine CT.loop (ι := Nat) (fun i => i ≤ D.fin.length ∧ ∀ q, q < i → D.fin.getD q false = F.fin.getD q false) (fun i => [(2, .pointer (some ⟨b2, 0, none⟩)), (3, .pointer (some ⟨b3, 0, none⟩)), (40, .int .i64 ((D.fin.length : Nat) : Int)), (41, .int .i64 ((i : Nat) : Int))]) (fun _ => [.row 30 4 (vb b3) 1 (dvc F), .row 30 4 (vb b2) 1 (dvc D)]) (fun i => D.fin.length - i) 0 ⟨Nat.zero_le _, fun q hq => by omega⟩ ⟨rfl, rfl, rfl, rfl, trivial⟩ (HSub.refl _) (fun i ⟨hi, hfe⟩ K0 hK0 => ?_)
     refine CT.seq (CT.region ?_)
     refine Wl.q rfl rfl (OpQ.lss rfl rfl) ?_
     refine Wl.nil (PX.then_n (CT.seq ?_))
     refine CT.cond rfl (fun h42 => ?_) (fun h42 => ?_)
     ·
      have h42 := of_decide_eq_true h42
      refine CT.skip (PX.then_n (CT.seq (CT.block (CT.seq (CT.region ?_)))))
      refine Wl.q rfl rfl (OpQ.move rfl) ?_
      refine Wl.q rfl rfl (OpQ.assign rfl) ?_
      refine Wl.nil (PX.then_n (CT.seq ?_))
      refine CT.draw 11 K6_mixed ?_
      refine RA.q 0 (by kernel_rfl) rfl rfl rfl (.refl _) (OpQ.fieldAddr K6_fa30_2 rfl) ?_
      refine RA.q 1 (by kernel_rfl) rfl rfl rfl (.refl _) (OpQ.loadF (b := b2) K6_sc27 rfl (by repeat (first | exact Has.here | apply Has.there)) (by rfl)) ?_
      refine RA.q 2 (by kernel_rfl) rfl rfl rfl (.refl _) (OpQ.move rfl) ?_
      refine RA.q 3 (by kernel_rfl) rfl rfl rfl (.refl _) (OpQ.index1 K6_un27 K6_sz4 rfl rfl (by omega) (hfs (by omega))) ?_
      refine RA.q 4 (by kernel_rfl) rfl rfl rfl (.refl _) (OpQ.loadG K6_sc4 rfl (fun w hH => (hH.use hD).1) (getMap bo D.fin false (j := i) (by omega))) ?_
      refine RA.q 5 (by kernel_rfl) rfl rfl rfl (.refl _) (OpQ.fieldAddr K6_fa30_2 rfl) ?_
      refine RA.q 6 (by kernel_rfl) rfl rfl rfl (.refl _) (OpQ.loadF (b := b3) K6_sc27 rfl (by repeat (first | exact Has.here | apply Has.there)) (by rfl)) ?_
      refine RA.q 7 (by kernel_rfl) rfl rfl rfl (.refl _) (OpQ.move rfl) ?_
      refine RA.q 8 (by kernel_rfl) rfl rfl rfl (.refl _) (OpQ.index1 K6_un27 K6_sz4 rfl rfl (by omega) (hfs2 (by omega))) ?_
      refine RA.q 9 (by kernel_rfl) rfl rfl rfl (.refl _) (OpQ.loadG K6_sc4 rfl (fun w hH => (hH.use hF).1) (getMap bo F.fin false (j := i) (by omega))) ?_
      refine RA.q 10 (by kernel_rfl) rfl rfl rfl (.refl _) (OpQ.neqB K6_un4 rfl rfl) ?_
      refine RA.tail ?_
      refine RT.done (by kernel_rfl) ?_
      refine PX.then_n ?_
      refine CT.cond rfl (fun h54 => ?_) (fun h54 => ?_)
      ·
       have h54 : ¬ D.fin.getD i false = F.fin.getD i false := by simpa [-List.getD_eq_getElem?_getD] using h54
       refine CT.seq (CT.region ?_)
       refine Wl.q rfl rfl (OpQ.assign rfl) ?_
       refine Wl.nil (PX.then_n (CT.ret (PX.block_r (PX.then_r (PX.then_r (PX.block_r (PX.then_r ?_)))))))
       refine PX.ret1 rfl rfl (fun w' hH => ?_)
       exact ⟨congrArg (fun b => Ending.returned (.bool b)) (sameD_f fun hh => h54 (by rw [hh.2.2.1])).symm, hH.ext⟩
      ·
       have h54 : D.fin.getD i false = F.fin.getD i false := by simpa [-List.getD_eq_getElem?_getD] using h54
       refine CT.skip (PX.block_n (PX.then_n (CT.region ?_)))
       refine Wl.q rfl rfl (OpQ.add rfl rfl (by omega)) ?_
       refine Wl.q rfl rfl (OpQ.move rfl) ?_
       refine Wl.nil ?_
       exact PX.loop hK0 (i + 1) ⟨by omega, fun q hq => by rcases Nat.lt_or_ge q i with h1 | h1; exact hfe q h1; obtain rfl : q = i := (by omega); exact h54⟩ (by first | omega | (dsimp only; omega)) ⟨rfl, rfl, rfl, rfl, trivial⟩ (HSub.refl _)
     ·
      have h42 := of_decide_eq_false h42
      refine CT.exit (PX.then_x (PX.then_x (PX.block_x (PX.then_n (CT.seq (CT.seq (CT.region ?_)))))))
      refine Wl.q rfl rfl (OpQ.fieldAddr K6_fa30_3 rfl) ?_
      refine Wl.q rfl rfl (OpQ.loadF (b := b2) K6_sc28 rfl (by repeat (first | exact Has.here | apply Has.there)) (by rfl)) ?_
      refine Wl.q rfl rfl (OpQ.len K6_un28 rfl) ?_
      refine Wl.q rfl rfl (OpQ.move rfl) ?_
      refine Wl.nil (PX.then_n (CT.block ?_))
      obtain rfl : i = D.fin.length := by omega
      refine CT.loop (ι := Nat) (fun k => k ≤ D.rs.length ∧ ∀ q, q < k → (D.rs.getD q rw0).xs = (F.rs.getD q rw0).xs) (fun k => [(2, .pointer (some ⟨b2, 0, none⟩)), (3, .pointer (some ⟨b3, 0, none⟩)), (58, .int .i64 ((D.rs.length : Nat) : Int)), (59, .int .i64 ((k : Nat) : Int))]) (fun _ => [.row 30 4 (vb b3) 1 (dvc F), .row 30 4 (vb b2) 1 (dvc D)]) (fun k => D.rs.length - k) 0 ⟨Nat.zero_le _, fun q hq => by omega⟩ ⟨rfl, rfl, rfl, rfl, trivial⟩ (HSub.refl _) (fun k ⟨hk, hre⟩ K1 hK1 => ?_)
      refine CT.seq (CT.region ?_)
      refine Wl.q rfl rfl (OpQ.lss rfl rfl) ?_
      refine Wl.nil (PX.then_n (CT.seq ?_))
      refine CT.cond rfl (fun h60 => ?_) (fun h60 => ?_)
      ·
       have h60 := of_decide_eq_true h60
       refine CT.skip (PX.then_n (CT.seq (CT.block (CT.seq (CT.region ?_)))))
       refine Wl.q rfl rfl (OpQ.move rfl) ?_
       refine Wl.q rfl rfl (OpQ.assign rfl) ?_
       refine Wl.nil (PX.then_n (CT.seq (CT.seq ?_)))
       refine CT.draw 13 K6_mixed ?_
       refine RA.q 0 (by kernel_rfl) rfl rfl rfl (.refl _) (OpQ.fieldAddr K6_fa30_3 rfl) ?_
       refine RA.q 1 (by kernel_rfl) rfl rfl rfl (.refl _) (OpQ.loadF (b := b2) K6_sc28 rfl (by repeat (first | exact Has.here | apply Has.there)) (by rfl)) ?_
       refine RA.q 2 (by kernel_rfl) rfl rfl rfl (.refl _) (OpQ.move rfl) ?_
       refine RA.q 3 (by kernel_rfl) rfl rfl rfl (.refl _) (OpQ.index1 K6_un28 K6_sz62 rfl rfl (by omega) (hns (by omega))) ?_
       refine RA.q 4 (by kernel_rfl) rfl rfl rfl (.refl _) (OpQ.loadG K6_sc62 rfl (fun w hH => (hH.use hD).2.1) (getMap rv D.rs rw0 (j := k) (by omega))) ?_
       refine RA.q 5 (by kernel_rfl) rfl rfl rfl (.refl _) (OpQ.len K6_un62 rfl) ?_
       refine RA.q 6 (by kernel_rfl) rfl rfl rfl (.refl _) (OpQ.fieldAddr K6_fa30_3 rfl) ?_
       refine RA.q 7 (by kernel_rfl) rfl rfl rfl (.refl _) (OpQ.loadF (b := b3) K6_sc28 rfl (by repeat (first | exact Has.here | apply Has.there)) (by rfl)) ?_
       refine RA.q 8 (by kernel_rfl) rfl rfl rfl (.refl _) (OpQ.move rfl) ?_
       refine RA.q 9 (by kernel_rfl) rfl rfl rfl (.refl _) (OpQ.index1 K6_un28 K6_sz62 rfl rfl (by omega) (hns2 (by omega))) ?_
       refine RA.q 10 (by kernel_rfl) rfl rfl rfl (.refl _) (OpQ.loadG K6_sc62 rfl (fun w hH => (hH.use hF).2.1) (getMap rv F.rs rw0 (j := k) (by omega))) ?_
       refine RA.q 11 (by kernel_rfl) rfl rfl rfl (.refl _) (OpQ.len K6_un62 rfl) ?_
       refine RA.q 12 (by kernel_rfl) rfl rfl rfl (.refl _) (OpQ.neq rfl rfl) ?_
       refine RA.tail ?_
       refine RT.done (by kernel_rfl) ?_
       refine PX.then_n ?_
       refine CT.cond rfl (fun h74 => ?_) (fun h74 => ?_)
       ·
        have h74 := of_nd_t h74
        refine CT.seq (CT.region ?_)
        refine Wl.q rfl rfl (OpQ.assign rfl) ?_
        refine Wl.nil (PX.then_n (CT.ret (PX.then_r (PX.block_r (PX.then_r (PX.then_r (PX.block_r (PX.then_r ?_))))))))
        refine PX.ret1 rfl rfl (fun w' hH => ?_)
        exact ⟨congrArg (fun b => Ending.returned (.bool b)) (sameD_row fun hh => h74 (by rw [hh])).symm, hH.ext⟩
       ·
        have h74 := of_nd_f h74
        have hl3k := hl3 k (by omega)
        refine CT.skip (PX.then_n (CT.seq (CT.region ?_)))
        refine Wl.q rfl rfl (OpQ.fieldAddr K6_fa30_3 rfl) ?_
        refine Wl.q rfl rfl (OpQ.loadF (b := b2) K6_sc28 rfl (by repeat (first | exact Has.here | apply Has.there)) (by rfl)) ?_
        refine Wl.q rfl rfl (OpQ.move rfl) ?_
        refine Wl.q rfl rfl (OpQ.index1 K6_un28 K6_sz62 rfl rfl (by omega) (hns (by omega))) ?_
        refine Wl.q rfl rfl (OpQ.loadG K6_sc62 rfl (fun w hH => (hH.use hD).2.1) (getMap rv D.rs rw0 (j := k) (by omega))) ?_
        refine Wl.q rfl rfl (OpQ.len K6_un62 rfl) ?_
        refine Wl.q rfl rfl (OpQ.move rfl) ?_
        refine Wl.nil (PX.then_n (CT.block ?_))
        refine CT.loop (ι := Nat) (fun x => x ≤ (D.rs.getD k rw0).xs.length ∧ ∀ y, y < x → (D.rs.getD k rw0).xs.getD y 0 = (F.rs.getD k rw0).xs.getD y 0) (fun x => [(2, .pointer (some ⟨b2, 0, none⟩)), (3, .pointer (some ⟨b3, 0, none⟩)), (6, .int .i64 ((k : Nat) : Int)), (58, .int .i64 ((D.rs.length : Nat) : Int)), (59, .int .i64 ((k : Nat) : Int)), (80, .int .i64 (((D.rs.getD k rw0).xs.length : Nat) : Int)), (81, .int .i64 ((x : Nat) : Int))]) (fun _ => [.row 30 4 (vb b3) 1 (dvc F), .row 30 4 (vb b2) 1 (dvc D)]) (fun x => (D.rs.getD k rw0).xs.length - x) 0 ⟨Nat.zero_le _, fun q hq => by omega⟩ ⟨rfl, rfl, rfl, rfl, rfl, rfl, rfl, trivial⟩ (HSub.refl _) (fun x ⟨hx, hxe⟩ K2 hK2 => ?_)
        refine CT.seq (CT.region ?_)
        refine Wl.q rfl rfl (OpQ.lss rfl rfl) ?_
        refine Wl.nil (PX.then_n (CT.seq ?_))
        refine CT.cond rfl (fun h82 => ?_) (fun h82 => ?_)
        ·
         have h82 := of_decide_eq_true h82
         refine CT.skip (PX.then_n (CT.seq (CT.block (CT.seq (CT.region ?_)))))
         refine Wl.q rfl rfl (OpQ.move rfl) ?_
         refine Wl.q rfl rfl (OpQ.assign rfl) ?_
         refine Wl.nil (PX.then_n (CT.seq ?_))
         refine CT.draw 17 K6_mixed ?_
         refine RA.q 0 (by kernel_rfl) rfl rfl rfl (.refl _) (OpQ.fieldAddr K6_fa30_3 rfl) ?_
         refine RA.q 1 (by kernel_rfl) rfl rfl rfl (.refl _) (OpQ.loadF (b := b2) K6_sc28 rfl (by repeat (first | exact Has.here | apply Has.there)) (by rfl)) ?_
         refine RA.q 2 (by kernel_rfl) rfl rfl rfl (.refl _) (OpQ.move rfl) ?_
         refine RA.q 3 (by kernel_rfl) rfl rfl rfl (.refl _) (OpQ.index1 K6_un28 K6_sz62 rfl rfl (by omega) (hns (by omega))) ?_
         refine RA.q 4 (by kernel_rfl) rfl rfl rfl (.refl _) (OpQ.loadG K6_sc62 rfl (fun w hH => (hH.use hD).2.1) (getMap rv D.rs rw0 (j := k) (by omega))) ?_
         refine RA.q 5 (by kernel_rfl) rfl rfl rfl (.refl _) (OpQ.move rfl) ?_
         refine RA.q 6 (by kernel_rfl) rfl rfl rfl (.refl _) (OpQ.index1 K6_un62 K6_sz3 rfl rfl (by omega) (hrs k (by omega) (by omega))) ?_
         refine RA.q 7 (by kernel_rfl) rfl rfl rfl (.refl _) (OpQ.loadG K6_sc3 rfl (fun w hH => (hH.use hD).2.2 _ (getDm (show k < D.rs.length by omega))) (getMap zz (D.rs.getD k rw0).xs 0 (j := x) (by omega))) ?_
         refine RA.q 8 (by kernel_rfl) rfl rfl rfl (.refl _) (OpQ.fieldAddr K6_fa30_3 rfl) ?_
         refine RA.q 9 (by kernel_rfl) rfl rfl rfl (.refl _) (OpQ.loadF (b := b3) K6_sc28 rfl (by repeat (first | exact Has.here | apply Has.there)) (by rfl)) ?_
         refine RA.q 10 (by kernel_rfl) rfl rfl rfl (.refl _) (OpQ.move rfl) ?_
         refine RA.q 11 (by kernel_rfl) rfl rfl rfl (.refl _) (OpQ.index1 K6_un28 K6_sz62 rfl rfl (by omega) (hns2 (by omega))) ?_
         refine RA.q 12 (by kernel_rfl) rfl rfl rfl (.refl _) (OpQ.loadG K6_sc62 rfl (fun w hH => (hH.use hF).2.1) (getMap rv F.rs rw0 (j := k) (by omega))) ?_
         refine RA.q 13 (by kernel_rfl) rfl rfl rfl (.refl _) (OpQ.move rfl) ?_
         refine RA.q 14 (by kernel_rfl) rfl rfl rfl (.refl _) (OpQ.index1 K6_un62 K6_sz3 rfl rfl (by omega) (hrs2 k (by omega) (by omega))) ?_
         refine RA.q 15 (by kernel_rfl) rfl rfl rfl (.refl _) (OpQ.loadG K6_sc3 rfl (fun w hH => (hH.use hF).2.2 _ (getDm (show k < F.rs.length by omega))) (getMap zz (F.rs.getD k rw0).xs 0 (j := x) (by omega))) ?_
         refine RA.q 16 (by kernel_rfl) rfl rfl rfl (.refl _) (OpQ.neq rfl rfl) ?_
         refine RA.tail ?_
         refine RT.done (by kernel_rfl) ?_
         refine PX.then_n ?_
         refine CT.cond rfl (fun h100 => ?_) (fun h100 => ?_)
         ·
          have h100 := of_nd_t h100
          refine CT.seq (CT.region ?_)
          refine Wl.q rfl rfl (OpQ.assign rfl) ?_
          refine Wl.nil (PX.then_n (CT.ret (PX.block_r (PX.then_r (PX.then_r (PX.block_r (PX.block_r (PX.then_r (PX.then_r (PX.block_r (PX.then_r ?_)))))))))))
          refine PX.ret1 rfl rfl (fun w' hH => ?_)
          exact ⟨congrArg (fun b => Ending.returned (.bool b)) (sameD_row fun hh => h100 (by rw [hh])).symm, hH.ext⟩
         ·
          have h100 := of_nd_f h100
          refine CT.skip (PX.block_n (PX.then_n (CT.region ?_)))
          refine Wl.q rfl rfl (OpQ.add rfl rfl (by omega)) ?_
          refine Wl.q rfl rfl (OpQ.move rfl) ?_
          refine Wl.nil ?_
          exact PX.loop hK2 (x + 1) ⟨by omega, fun q hq => by rcases Nat.lt_or_ge q x with h1 | h1; exact hxe q h1; obtain rfl : q = x := (by omega); exact h100⟩ (by first | omega | (dsimp only; omega)) ⟨rfl, rfl, rfl, rfl, rfl, rfl, rfl, trivial⟩ (HSub.refl _)
        ·
         have h82 := of_decide_eq_false h82
         refine CT.exit (PX.then_x (PX.then_x (PX.block_x (PX.block_n (PX.then_n (CT.region ?_))))))
         refine Wl.q rfl rfl (OpQ.add rfl rfl (by omega)) ?_
         refine Wl.q rfl rfl (OpQ.move rfl) ?_
         refine Wl.nil ?_
         have hrow : (D.rs.getD k rw0).xs = (F.rs.getD k rw0).xs := list_ext_getD 0 (by omega) (fun x hx => hxe x (by omega))
         exact PX.loop hK1 (k + 1) ⟨by omega, fun q hq => by rcases Nat.lt_or_ge q k with h1 | h1; exact hre q h1; obtain rfl : q = k := (by omega); exact hrow⟩ (by first | omega | (dsimp only; omega)) ⟨rfl, rfl, rfl, rfl, trivial⟩ (HSub.refl _)
      ·
       have h60 := of_decide_eq_false h60
       refine CT.exit (PX.then_x (PX.then_x (PX.block_x (PX.then_n (CT.seq (CT.region ?_))))))
       refine Wl.q rfl rfl (OpQ.assign rfl) ?_
       refine Wl.nil (PX.then_n (CT.ret ?_))
       refine PX.ret1 rfl rfl (fun w' hH => ?_)
       exact ⟨congrArg (fun b => Ending.returned (.bool b)) (sameD_t hg13 hg20 (by omega) (fun q hq => hfe q hq) (by omega) (fun q hq => hre q (by omega))).symm, hH.ext⟩

end Go.Proofs.YtmggcdegekbncabGreatDoor

