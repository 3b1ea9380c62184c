/-
  What functions of the program compute, each by its walk. Conditions: those that each theorem names.
-/
import Derived.Test.YtamolakhpcofhaaMod
import Derived.Test.YtamolakhpcofhaaXC5
import Derived.Test.YtamolakhpcofhaaXF
set_option linter.unusedSimpArgs false
namespace Go.Proofs.Ytamolakhpcofhaa
open Go Go.Eng Go.Am
open Go.Tp (zi)
open Go.Tl (mayL Wd okW okB bo)

set_option maxRecDepth 100000 in
/-- semigroup/semigroupref07.Same -/
theorem same_spec (w : World) (D F : Dv) (hD : Stays [] w (dvm D)) (hF : Stays [] w (dvm F)) (hl1 : D.fin.length ≤ 100000) (hl2 : D.rs.length ≤ 100000) (hl3 : ∀ q, q < D.rs.length → (D.rs.getD q rw0).xs.length ≤ 100000) : Calls Try.prog 27 #[dvv D, dvv F] w (fun e w' => e = .returned (.bool (sameD D F)) ∧ Ext [] w w') := by
 have hfs : 0 < D.fin.length → D.fa.isSome = true := fun h => hD.now.1.isSome (j := 0) (by rw [List.length_map]; exact h)
 have hns : 0 < D.rs.length → D.na.isSome = true := fun h => hD.now.2.1.isSome (j := 0) (by rw [List.length_map]; exact h)
 have hrs : ∀ q, q < D.rs.length → 0 < (D.rs.getD q rw0).xs.length → (D.rs.getD q rw0).a.isSome = true := fun q hq h => (hD.now.2.2 _ (getDm hq)).isSome (j := 0) (by rw [List.length_map]; exact h)
 have hfs2 : 0 < F.fin.length → F.fa.isSome = true := fun h => hF.now.1.isSome (j := 0) (by rw [List.length_map]; exact h)
 have hns2 : 0 < F.rs.length → F.na.isSome = true := fun h => hF.now.2.1.isSome (j := 0) (by rw [List.length_map]; exact h)
 have hrs2 : ∀ q, q < F.rs.length → 0 < (F.rs.getD q rw0).xs.length → (F.rs.getD q rw0).a.isSome = true := fun q hq h => (hF.now.2.2 _ (getDm hq)).isSome (j := 0) (by rw [List.length_map]; exact h)
 refine enter (args := [dvv D, dvv F]) [] 103 Try.func27 rfl rfl rfl ?_
 refine CT.seq (CT.region ?_)
 refine Wl.g rfl rfl (OpG.box (size := 4) rfl rfl rfl) ?_
 rintro b2 _
 refine Wl.g rfl rfl (OpG.box (size := 4) rfl rfl rfl) ?_
 rintro b3 _
 refine Wl.q rfl rfl (OpQ.assign rfl) ?_
 refine Wl.nil (PX.then_n (CT.seq (CT.seq (CT.region ?_))))
 refine Wl.q rfl rfl (OpQ.fieldAddr zf15 rfl) ?_
 refine Wl.q rfl rfl (OpQ.loadF (b := b2) zf8 rfl (by repeat (first | exact Has.here | apply Has.there)) (by rfl)) ?_
 refine Wl.q rfl rfl (OpQ.fieldAddr zf15 rfl) ?_
 refine Wl.q rfl rfl (OpQ.loadF (b := b3) zf8 rfl (by repeat (first | exact Has.here | apply Has.there)) (by rfl)) ?_
 refine Wl.q rfl rfl (OpQ.neq rfl rfl) ?_
 refine Wl.q rfl rfl (OpQ.move rfl) ?_
 refine Wl.split 13 rfl (fun hg13 => ?_) (fun hg13 => ?_)
 ·
  have hg13 := of_nd_t hg13
  refine Wl.skip rfl rfl ?_
  refine Wl.skip rfl rfl ?_
  refine Wl.skip rfl rfl ?_
  refine Wl.skip rfl rfl ?_
  refine Wl.skip rfl rfl ?_
  refine Wl.q rfl rfl (OpQ.pickT rfl rfl) ?_
  refine Wl.q rfl rfl (OpQ.move rfl) ?_
  refine Wl.skip rfl rfl ?_
  refine Wl.skip rfl rfl ?_
  refine Wl.skip rfl rfl ?_
  refine Wl.skip rfl rfl ?_
  refine Wl.skip rfl rfl ?_
  refine Wl.skip rfl rfl ?_
  refine Wl.skip rfl rfl ?_
  refine Wl.q rfl rfl (OpQ.pickT rfl rfl) ?_
  refine Wl.q rfl rfl (OpQ.move rfl) ?_
  refine Wl.skip rfl rfl ?_
  refine Wl.skip rfl rfl ?_
  refine Wl.skip rfl rfl ?_
  refine Wl.skip rfl rfl ?_
  refine Wl.skip rfl rfl ?_
  refine Wl.skip rfl rfl ?_
  refine Wl.skip rfl rfl ?_
  refine Wl.q rfl rfl (OpQ.pickT rfl rfl) ?_
  refine Wl.nil (PX.then_n ?_)
  refine CT.condT rfl ?_
  refine CT.seq (CT.region ?_)
  refine Wl.q rfl rfl (OpQ.assign rfl) ?_
  refine Wl.nil (PX.then_n (CT.ret (PX.then_r ?_)))
  refine PX.ret1 rfl rfl (fun w' hH => ?_)
  exact ⟨congrArg (fun b => Ending.returned (.bool b)) (sameD_f fun hh => hg13 hh.1).symm, hH.ext⟩
 ·
  have hg13 := of_nd_f hg13
  refine Wl.q rfl rfl (OpQ.fieldAddr zf22 rfl) ?_
  refine Wl.q rfl rfl (OpQ.loadF (b := b2) zf8 rfl (by repeat (first | exact Has.here | apply Has.there)) (by rfl)) ?_
  refine Wl.q rfl rfl (OpQ.fieldAddr zf22 rfl) ?_
  refine Wl.q rfl rfl (OpQ.loadF (b := b3) zf8 rfl (by repeat (first | exact Has.here | apply Has.there)) (by rfl)) ?_
  refine Wl.q rfl rfl (OpQ.neq rfl rfl) ?_
  refine Wl.q rfl rfl (OpQ.pickF rfl rfl) ?_
  refine Wl.q rfl rfl (OpQ.move rfl) ?_
  refine Wl.split 20 rfl (fun hg20 => ?_) (fun hg20 => ?_)
  ·
   have hg20 : ¬ D.s = F.s := of_nd_t hg20
   refine Wl.skip rfl rfl ?_
   refine Wl.skip rfl rfl ?_
   refine Wl.skip rfl rfl ?_
   refine Wl.skip rfl rfl ?_
   refine Wl.skip rfl rfl ?_
   refine Wl.skip rfl rfl ?_
   refine Wl.skip rfl rfl ?_
   refine Wl.q rfl rfl (OpQ.pickT rfl rfl) ?_
   refine Wl.q rfl rfl (OpQ.move rfl) ?_
   refine Wl.skip rfl rfl ?_
   refine Wl.skip rfl rfl ?_
   refine Wl.skip rfl rfl ?_
   refine Wl.skip rfl rfl ?_
   refine Wl.skip rfl rfl ?_
   refine Wl.skip rfl rfl ?_
   refine Wl.skip rfl rfl ?_
   refine Wl.q rfl rfl (OpQ.pickT rfl rfl) ?_
   refine Wl.nil (PX.then_n ?_)
   refine CT.condT rfl ?_
   refine CT.seq (CT.region ?_)
   refine Wl.q rfl rfl (OpQ.assign rfl) ?_
   refine Wl.nil (PX.then_n (CT.ret (PX.then_r ?_)))
   refine PX.ret1 rfl rfl (fun w' hH => ?_)
   exact ⟨congrArg (fun b => Ending.returned (.bool b)) (sameD_f fun hh => hg20 hh.2.1).symm, hH.ext⟩
  ·
   have hg20 : D.s = F.s := of_nd_f hg20
   refine Wl.q rfl rfl (OpQ.fieldAddr zf16 rfl) ?_
   refine Wl.q rfl rfl (OpQ.loadF (b := b2) zf17 rfl (by repeat (first | exact Has.here | apply Has.there)) (by rfl)) ?_
   refine Wl.q rfl rfl (OpQ.len zf18 rfl) ?_
   refine Wl.q rfl rfl (OpQ.fieldAddr zf16 rfl) ?_
   refine Wl.q rfl rfl (OpQ.loadF (b := b3) zf17 rfl (by repeat (first | exact Has.here | apply Has.there)) (by rfl)) ?_
   refine Wl.q rfl rfl (OpQ.len zf18 rfl) ?_
   refine Wl.q rfl rfl (OpQ.neq rfl rfl) ?_
   refine Wl.q rfl rfl (OpQ.pickF rfl rfl) ?_
   refine Wl.q rfl rfl (OpQ.move rfl) ?_
   refine Wl.split 29 rfl (fun hg29 => ?_) (fun hg29 => ?_)
   ·
    have hg29 := of_nd_t hg29
    refine Wl.skip rfl rfl ?_
    refine Wl.skip rfl rfl ?_
    refine Wl.skip rfl rfl ?_
    refine Wl.skip rfl rfl ?_
    refine Wl.skip rfl rfl ?_
    refine Wl.skip rfl rfl ?_
    refine Wl.skip rfl rfl ?_
    refine Wl.q rfl rfl (OpQ.pickT rfl rfl) ?_
    refine Wl.nil (PX.then_n ?_)
    refine CT.condT rfl ?_
    refine CT.seq (CT.region ?_)
    refine Wl.q rfl rfl (OpQ.assign rfl) ?_
    refine Wl.nil (PX.then_n (CT.ret (PX.then_r ?_)))
    refine PX.ret1 rfl rfl (fun w' hH => ?_)
    exact ⟨congrArg (fun b => Ending.returned (.bool b)) (sameD_f fun hh => hg29 (by rw [hh.2.2.1])).symm, hH.ext⟩
   ·
    have hg29 := of_nd_f hg29
    refine Wl.q rfl rfl (OpQ.fieldAddr zf19 rfl) ?_
    refine Wl.q rfl rfl (OpQ.loadF (b := b2) zf20 rfl (by repeat (first | exact Has.here | apply Has.there)) (by rfl)) ?_
    refine Wl.q rfl rfl (OpQ.len zf21 rfl) ?_
    refine Wl.q rfl rfl (OpQ.fieldAddr zf19 rfl) ?_
    refine Wl.q rfl rfl (OpQ.loadF (b := b3) zf20 rfl (by repeat (first | exact Has.here | apply Has.there)) (by rfl)) ?_
    refine Wl.q rfl rfl (OpQ.len zf21 rfl) ?_
    refine Wl.q rfl rfl (OpQ.neq rfl rfl) ?_
    refine Wl.q rfl rfl (OpQ.pickF rfl rfl) ?_
    refine Wl.nil (PX.then_n ?_)
    refine CT.cond rfl (fun h37 => ?_) (fun h37 => ?_)
    ·
     have h37 := of_nd_t h37
     refine CT.seq (CT.region ?_)
     refine Wl.q rfl rfl (OpQ.assign rfl) ?_
     refine Wl.nil (PX.then_n (CT.ret (PX.then_r ?_)))
     refine PX.ret1 rfl rfl (fun w' hH => ?_)
     exact ⟨congrArg (fun b => Ending.returned (.bool b)) (sameD_f fun hh => h37 (by have := congrArg List.length hh.2.2.2; rw [List.length_map, List.length_map] at this; rw [this])).symm, hH.ext⟩
    ·
     have h37 := of_nd_f h37
     refine CT.skip (PX.then_n (CT.seq (CT.seq (CT.region ?_))))
     refine Wl.q rfl rfl (OpQ.fieldAddr zf16 rfl) ?_
     refine Wl.q rfl rfl (OpQ.loadF (b := b2) zf17 rfl (by repeat (first | exact Has.here | apply Has.there)) (by rfl)) ?_
     refine Wl.q rfl rfl (OpQ.len zf18 rfl) ?_
     refine Wl.q rfl rfl (OpQ.move rfl) ?_
     refine Wl.nil (PX.then_n (CT.block ?_))
     refine CT.loop (ι := Nat) (fun i => i ≤ D.fin.length ∧ ∀ q, q < i → D.fin.getD q false = F.fin.getD q false) (fun i => [(2, .pointer (some ⟨b2, 0, none⟩)), (3, .pointer (some ⟨b3, 0, none⟩)), (40, .int .i64 ((D.fin.length : Nat) : Int)), (41, .int .i64 ((i : Nat) : Int))]) (fun _ => [.row 49 4 (vb b3) 1 (dvc F), .row 49 4 (vb b2) 1 (dvc D)]) (fun i => D.fin.length - i) 0 ⟨Nat.zero_le _, fun q hq => by omega⟩ ⟨rfl, rfl, rfl, rfl, trivial⟩ (HSub.refl _) (fun i ⟨hi, hfe⟩ K0 hK0 => ?_)
     refine CT.seq (CT.region ?_)
     refine Wl.q rfl rfl (OpQ.lss rfl rfl) ?_
     refine Wl.nil (PX.then_n (CT.seq ?_))
     refine CT.cond rfl (fun h42 => ?_) (fun h42 => ?_)
     ·
      have h42 := of_decide_eq_true h42
      refine CT.skip (PX.then_n (CT.seq (CT.block (CT.seq (CT.region ?_)))))
      refine Wl.q rfl rfl (OpQ.move rfl) ?_
      refine Wl.q rfl rfl (OpQ.assign rfl) ?_
      refine Wl.nil (PX.then_n (CT.seq ?_))
      refine CT.draw 11 zf6 ?_
      refine RA.q 0 (by kernel_rfl) rfl rfl rfl (.refl _) (OpQ.fieldAddr zf16 rfl) ?_
      refine RA.q 1 (by kernel_rfl) rfl rfl rfl (.refl _) (OpQ.loadF (b := b2) zf17 rfl (by repeat (first | exact Has.here | apply Has.there)) (by rfl)) ?_
      refine RA.q 2 (by kernel_rfl) rfl rfl rfl (.refl _) (OpQ.move rfl) ?_
      refine RA.q 3 (by kernel_rfl) rfl rfl rfl (.refl _) (OpQ.index1 zf18 zf29 rfl rfl (by omega) (hfs (by omega))) ?_
      refine RA.q 4 (by kernel_rfl) rfl rfl rfl (.refl _) (OpQ.loadG zf30 rfl (fun w hH => (hH.use hD).1) (getMap bo D.fin false (j := i) (by omega))) ?_
      refine RA.q 5 (by kernel_rfl) rfl rfl rfl (.refl _) (OpQ.fieldAddr zf16 rfl) ?_
      refine RA.q 6 (by kernel_rfl) rfl rfl rfl (.refl _) (OpQ.loadF (b := b3) zf17 rfl (by repeat (first | exact Has.here | apply Has.there)) (by rfl)) ?_
      refine RA.q 7 (by kernel_rfl) rfl rfl rfl (.refl _) (OpQ.move rfl) ?_
      refine RA.q 8 (by kernel_rfl) rfl rfl rfl (.refl _) (OpQ.index1 zf18 zf29 rfl rfl (by omega) (hfs2 (by omega))) ?_
      refine RA.q 9 (by kernel_rfl) rfl rfl rfl (.refl _) (OpQ.loadG zf30 rfl (fun w hH => (hH.use hF).1) (getMap bo F.fin false (j := i) (by omega))) ?_
      refine RA.q 10 (by kernel_rfl) rfl rfl rfl (.refl _) (OpQ.neqB zf49 rfl rfl) ?_
      refine RA.tail ?_
      refine RT.done (by kernel_rfl) ?_
      refine PX.then_n ?_
      refine CT.cond rfl (fun h54 => ?_) (fun h54 => ?_)
      ·
       have h54 : ¬ D.fin.getD i false = F.fin.getD i false := by simpa [-List.getD_eq_getElem?_getD] using h54
       refine CT.seq (CT.region ?_)
       refine Wl.q rfl rfl (OpQ.assign rfl) ?_
       refine Wl.nil (PX.then_n (CT.ret (PX.block_r (PX.then_r (PX.then_r (PX.block_r (PX.then_r ?_)))))))
       refine PX.ret1 rfl rfl (fun w' hH => ?_)
       exact ⟨congrArg (fun b => Ending.returned (.bool b)) (sameD_f fun hh => h54 (by rw [hh.2.2.1])).symm, hH.ext⟩
      ·
       have h54 : D.fin.getD i false = F.fin.getD i false := by simpa [-List.getD_eq_getElem?_getD] using h54
       refine CT.skip (PX.block_n (PX.then_n (CT.region ?_)))
       refine Wl.q rfl rfl (OpQ.add rfl rfl (by omega)) ?_
       refine Wl.q rfl rfl (OpQ.move rfl) ?_
       refine Wl.nil ?_
       exact PX.loop hK0 (i + 1) ⟨by omega, fun q hq => by rcases Nat.lt_or_ge q i with h1 | h1; exact hfe q h1; obtain rfl : q = i := (by omega); exact h54⟩ (by first | omega | (dsimp only; omega)) ⟨rfl, rfl, rfl, rfl, trivial⟩ (HSub.refl _)
     ·
      have h42 := of_decide_eq_false h42
      refine CT.exit (PX.then_x (PX.then_x (PX.block_x (PX.then_n (CT.seq (CT.seq (CT.region ?_)))))))
      refine Wl.q rfl rfl (OpQ.fieldAddr zf19 rfl) ?_
      refine Wl.q rfl rfl (OpQ.loadF (b := b2) zf20 rfl (by repeat (first | exact Has.here | apply Has.there)) (by rfl)) ?_
      refine Wl.q rfl rfl (OpQ.len zf21 rfl) ?_
      refine Wl.q rfl rfl (OpQ.move rfl) ?_
      refine Wl.nil (PX.then_n (CT.block ?_))
      obtain rfl : i = D.fin.length := by omega
      refine CT.loop (ι := Nat) (fun k => k ≤ D.rs.length ∧ ∀ q, q < k → (D.rs.getD q rw0).xs = (F.rs.getD q rw0).xs) (fun k => [(2, .pointer (some ⟨b2, 0, none⟩)), (3, .pointer (some ⟨b3, 0, none⟩)), (58, .int .i64 ((D.rs.length : Nat) : Int)), (59, .int .i64 ((k : Nat) : Int))]) (fun _ => [.row 49 4 (vb b3) 1 (dvc F), .row 49 4 (vb b2) 1 (dvc D)]) (fun k => D.rs.length - k) 0 ⟨Nat.zero_le _, fun q hq => by omega⟩ ⟨rfl, rfl, rfl, rfl, trivial⟩ (HSub.refl _) (fun k ⟨hk, hre⟩ K1 hK1 => ?_)
      refine CT.seq (CT.region ?_)
      refine Wl.q rfl rfl (OpQ.lss rfl rfl) ?_
      refine Wl.nil (PX.then_n (CT.seq ?_))
      refine CT.cond rfl (fun h60 => ?_) (fun h60 => ?_)
      ·
       have h60 := of_decide_eq_true h60
       refine CT.skip (PX.then_n (CT.seq (CT.block (CT.seq (CT.region ?_)))))
       refine Wl.q rfl rfl (OpQ.move rfl) ?_
       refine Wl.q rfl rfl (OpQ.assign rfl) ?_
       refine Wl.nil (PX.then_n (CT.seq (CT.seq ?_)))
       refine CT.draw 13 zf6 ?_
       refine RA.q 0 (by kernel_rfl) rfl rfl rfl (.refl _) (OpQ.fieldAddr zf19 rfl) ?_
       refine RA.q 1 (by kernel_rfl) rfl rfl rfl (.refl _) (OpQ.loadF (b := b2) zf20 rfl (by repeat (first | exact Has.here | apply Has.there)) (by rfl)) ?_
       refine RA.q 2 (by kernel_rfl) rfl rfl rfl (.refl _) (OpQ.move rfl) ?_
       refine RA.q 3 (by kernel_rfl) rfl rfl rfl (.refl _) (OpQ.index1 zf21 zf23 rfl rfl (by omega) (hns (by omega))) ?_
       refine RA.q 4 (by kernel_rfl) rfl rfl rfl (.refl _) (OpQ.loadG zf10 rfl (fun w hH => (hH.use hD).2.1) (getMap rv D.rs rw0 (j := k) (by omega))) ?_
       refine RA.q 5 (by kernel_rfl) rfl rfl rfl (.refl _) (OpQ.len zf0 rfl) ?_
       refine RA.q 6 (by kernel_rfl) rfl rfl rfl (.refl _) (OpQ.fieldAddr zf19 rfl) ?_
       refine RA.q 7 (by kernel_rfl) rfl rfl rfl (.refl _) (OpQ.loadF (b := b3) zf20 rfl (by repeat (first | exact Has.here | apply Has.there)) (by rfl)) ?_
       refine RA.q 8 (by kernel_rfl) rfl rfl rfl (.refl _) (OpQ.move rfl) ?_
       refine RA.q 9 (by kernel_rfl) rfl rfl rfl (.refl _) (OpQ.index1 zf21 zf23 rfl rfl (by omega) (hns2 (by omega))) ?_
       refine RA.q 10 (by kernel_rfl) rfl rfl rfl (.refl _) (OpQ.loadG zf10 rfl (fun w hH => (hH.use hF).2.1) (getMap rv F.rs rw0 (j := k) (by omega))) ?_
       refine RA.q 11 (by kernel_rfl) rfl rfl rfl (.refl _) (OpQ.len zf0 rfl) ?_
       refine RA.q 12 (by kernel_rfl) rfl rfl rfl (.refl _) (OpQ.neq rfl rfl) ?_
       refine RA.tail ?_
       refine RT.done (by kernel_rfl) ?_
       refine PX.then_n ?_
       refine CT.cond rfl (fun h74 => ?_) (fun h74 => ?_)
       ·
        have h74 := of_nd_t h74
        refine CT.seq (CT.region ?_)
        refine Wl.q rfl rfl (OpQ.assign rfl) ?_
        refine Wl.nil (PX.then_n (CT.ret (PX.then_r (PX.block_r (PX.then_r (PX.then_r (PX.block_r (PX.then_r ?_))))))))
        refine PX.ret1 rfl rfl (fun w' hH => ?_)
        exact ⟨congrArg (fun b => Ending.returned (.bool b)) (sameD_row fun hh => h74 (by rw [hh])).symm, hH.ext⟩
       ·
        have h74 := of_nd_f h74
        have hl3k := hl3 k (by omega)
        refine CT.skip (PX.then_n (CT.seq (CT.region ?_)))
        refine Wl.q rfl rfl (OpQ.fieldAddr zf19 rfl) ?_
        refine Wl.q rfl rfl (OpQ.loadF (b := b2) zf20 rfl (by repeat (first | exact Has.here | apply Has.there)) (by rfl)) ?_
        refine Wl.q rfl rfl (OpQ.move rfl) ?_
        refine Wl.q rfl rfl (OpQ.index1 zf21 zf23 rfl rfl (by omega) (hns (by omega))) ?_
        refine Wl.q rfl rfl (OpQ.loadG zf10 rfl (fun w hH => (hH.use hD).2.1) (getMap rv D.rs rw0 (j := k) (by omega))) ?_
        refine Wl.q rfl rfl (OpQ.len zf0 rfl) ?_
        refine Wl.q rfl rfl (OpQ.move rfl) ?_
        refine Wl.nil (PX.then_n (CT.block ?_))
        refine CT.loop (ι := Nat) (fun x => x ≤ (D.rs.getD k rw0).xs.length ∧ ∀ y, y < x → (D.rs.getD k rw0).xs.getD y 0 = (F.rs.getD k rw0).xs.getD y 0) (fun x => [(2, .pointer (some ⟨b2, 0, none⟩)), (3, .pointer (some ⟨b3, 0, none⟩)), (6, .int .i64 ((k : Nat) : Int)), (58, .int .i64 ((D.rs.length : Nat) : Int)), (59, .int .i64 ((k : Nat) : Int)), (80, .int .i64 (((D.rs.getD k rw0).xs.length : Nat) : Int)), (81, .int .i64 ((x : Nat) : Int))]) (fun _ => [.row 49 4 (vb b3) 1 (dvc F), .row 49 4 (vb b2) 1 (dvc D)]) (fun x => (D.rs.getD k rw0).xs.length - x) 0 ⟨Nat.zero_le _, fun q hq => by omega⟩ ⟨rfl, rfl, rfl, rfl, rfl, rfl, rfl, trivial⟩ (HSub.refl _) (fun x ⟨hx, hxe⟩ K2 hK2 => ?_)
        refine CT.seq (CT.region ?_)
        refine Wl.q rfl rfl (OpQ.lss rfl rfl) ?_
        refine Wl.nil (PX.then_n (CT.seq ?_))
        refine CT.cond rfl (fun h82 => ?_) (fun h82 => ?_)
        ·
         have h82 := of_decide_eq_true h82
         refine CT.skip (PX.then_n (CT.seq (CT.block (CT.seq (CT.region ?_)))))
         refine Wl.q rfl rfl (OpQ.move rfl) ?_
         refine Wl.q rfl rfl (OpQ.assign rfl) ?_
         refine Wl.nil (PX.then_n (CT.seq ?_))
         refine CT.draw 17 zf6 ?_
         refine RA.q 0 (by kernel_rfl) rfl rfl rfl (.refl _) (OpQ.fieldAddr zf19 rfl) ?_
         refine RA.q 1 (by kernel_rfl) rfl rfl rfl (.refl _) (OpQ.loadF (b := b2) zf20 rfl (by repeat (first | exact Has.here | apply Has.there)) (by rfl)) ?_
         refine RA.q 2 (by kernel_rfl) rfl rfl rfl (.refl _) (OpQ.move rfl) ?_
         refine RA.q 3 (by kernel_rfl) rfl rfl rfl (.refl _) (OpQ.index1 zf21 zf23 rfl rfl (by omega) (hns (by omega))) ?_
         refine RA.q 4 (by kernel_rfl) rfl rfl rfl (.refl _) (OpQ.loadG zf10 rfl (fun w hH => (hH.use hD).2.1) (getMap rv D.rs rw0 (j := k) (by omega))) ?_
         refine RA.q 5 (by kernel_rfl) rfl rfl rfl (.refl _) (OpQ.move rfl) ?_
         refine RA.q 6 (by kernel_rfl) rfl rfl rfl (.refl _) (OpQ.index1 zf0 zf1 rfl rfl (by omega) (hrs k (by omega) (by omega))) ?_
         refine RA.q 7 (by kernel_rfl) rfl rfl rfl (.refl _) (OpQ.loadG zf8 rfl (fun w hH => (hH.use hD).2.2 _ (getDm (show k < D.rs.length by omega))) (getMap zz (D.rs.getD k rw0).xs 0 (j := x) (by omega))) ?_
         refine RA.q 8 (by kernel_rfl) rfl rfl rfl (.refl _) (OpQ.fieldAddr zf19 rfl) ?_
         refine RA.q 9 (by kernel_rfl) rfl rfl rfl (.refl _) (OpQ.loadF (b := b3) zf20 rfl (by repeat (first | exact Has.here | apply Has.there)) (by rfl)) ?_
         refine RA.q 10 (by kernel_rfl) rfl rfl rfl (.refl _) (OpQ.move rfl) ?_
         refine RA.q 11 (by kernel_rfl) rfl rfl rfl (.refl _) (OpQ.index1 zf21 zf23 rfl rfl (by omega) (hns2 (by omega))) ?_
         refine RA.q 12 (by kernel_rfl) rfl rfl rfl (.refl _) (OpQ.loadG zf10 rfl (fun w hH => (hH.use hF).2.1) (getMap rv F.rs rw0 (j := k) (by omega))) ?_
         refine RA.q 13 (by kernel_rfl) rfl rfl rfl (.refl _) (OpQ.move rfl) ?_
         refine RA.q 14 (by kernel_rfl) rfl rfl rfl (.refl _) (OpQ.index1 zf0 zf1 rfl rfl (by omega) (hrs2 k (by omega) (by omega))) ?_
         refine RA.q 15 (by kernel_rfl) rfl rfl rfl (.refl _) (OpQ.loadG zf8 rfl (fun w hH => (hH.use hF).2.2 _ (getDm (show k < F.rs.length by omega))) (getMap zz (F.rs.getD k rw0).xs 0 (j := x) (by omega))) ?_
         refine RA.q 16 (by kernel_rfl) rfl rfl rfl (.refl _) (OpQ.neq rfl rfl) ?_
         refine RA.tail ?_
         refine RT.done (by kernel_rfl) ?_
         refine PX.then_n ?_
         refine CT.cond rfl (fun h100 => ?_) (fun h100 => ?_)
         ·
          have h100 := of_nd_t h100
          refine CT.seq (CT.region ?_)
          refine Wl.q rfl rfl (OpQ.assign rfl) ?_
          refine Wl.nil (PX.then_n (CT.ret (PX.block_r (PX.then_r (PX.then_r (PX.block_r (PX.block_r (PX.then_r (PX.then_r (PX.block_r (PX.then_r ?_)))))))))))
          refine PX.ret1 rfl rfl (fun w' hH => ?_)
          exact ⟨congrArg (fun b => Ending.returned (.bool b)) (sameD_row fun hh => h100 (by rw [hh])).symm, hH.ext⟩
         ·
          have h100 := of_nd_f h100
          refine CT.skip (PX.block_n (PX.then_n (CT.region ?_)))
          refine Wl.q rfl rfl (OpQ.add rfl rfl (by omega)) ?_
          refine Wl.q rfl rfl (OpQ.move rfl) ?_
          refine Wl.nil ?_
          exact PX.loop hK2 (x + 1) ⟨by omega, fun q hq => by rcases Nat.lt_or_ge q x with h1 | h1; exact hxe q h1; obtain rfl : q = x := (by omega); exact h100⟩ (by first | omega | (dsimp only; omega)) ⟨rfl, rfl, rfl, rfl, rfl, rfl, rfl, trivial⟩ (HSub.refl _)
        ·
         have h82 := of_decide_eq_false h82
         refine CT.exit (PX.then_x (PX.then_x (PX.block_x (PX.block_n (PX.then_n (CT.region ?_))))))
         refine Wl.q rfl rfl (OpQ.add rfl rfl (by omega)) ?_
         refine Wl.q rfl rfl (OpQ.move rfl) ?_
         refine Wl.nil ?_
         have hrow : (D.rs.getD k rw0).xs = (F.rs.getD k rw0).xs := list_ext_getD 0 (by omega) (fun x hx => hxe x (by omega))
         exact PX.loop hK1 (k + 1) ⟨by omega, fun q hq => by rcases Nat.lt_or_ge q k with h1 | h1; exact hre q h1; obtain rfl : q = k := (by omega); exact hrow⟩ (by first | omega | (dsimp only; omega)) ⟨rfl, rfl, rfl, rfl, trivial⟩ (HSub.refl _)
      ·
       have h60 := of_decide_eq_false h60
       refine CT.exit (PX.then_x (PX.then_x (PX.block_x (PX.then_n (CT.seq (CT.region ?_))))))
       refine Wl.q rfl rfl (OpQ.assign rfl) ?_
       refine Wl.nil (PX.then_n (CT.ret ?_))
       refine PX.ret1 rfl rfl (fun w' hH => ?_)
       exact ⟨congrArg (fun b => Ending.returned (.bool b)) (sameD_t hg13 hg20 (by omega) (fun q hq => hfe q hq) (by omega) (fun q hq => hre q (by omega))).symm, hH.ext⟩

set_option maxRecDepth 100000 in
/-- semigroup/semigroupref03.Same -/
theorem same3_spec (w : World) (a : Option Addr) (ac : Nat) (l : List Nat) (hra : Stays [] w (fun w => Rd w a (l.map zn))) (hna : l.length ≤ 100000) (b : Option Addr) (bc : Nat) (m : List Nat) (hrb : Stays [] w (fun w => Rd w b (m.map zn))) : Calls Try.prog 102 #[.slice a l.length ac, .slice b m.length bc] w (fun e w' => e = .returned (.bool (decide (l = m))) ∧ Ext [] w w') := by
 have hsa : 0 < l.length → a.isSome = true := fun h => hra.now.isSome (j := 0) (by rw [List.length_map]; exact h)
 have hsb : 0 < m.length → b.isSome = true := fun h => hrb.now.isSome (j := 0) (by rw [List.length_map]; exact h)
 refine enter (args := [.slice a l.length ac, .slice b m.length bc]) [] 26 Try.func102 rfl rfl rfl ?_
 refine CT.seq (CT.region ?_)
 refine Wl.q rfl rfl (OpQ.assign rfl) ?_
 refine Wl.nil (PX.then_n (CT.seq (CT.seq (CT.region ?_))))
 refine Wl.q rfl rfl (OpQ.move rfl) ?_
 refine Wl.q rfl rfl (OpQ.len zf0 rfl) ?_
 refine Wl.q rfl rfl (OpQ.move rfl) ?_
 refine Wl.q rfl rfl (OpQ.len zf0 rfl) ?_
 refine Wl.q rfl rfl (OpQ.neq rfl rfl) ?_
 refine Wl.nil (PX.then_n ?_)
 refine CT.cond rfl (fun h10 => ?_) (fun h10 => ?_)
 ·
  have h10 := of_nd_t h10
  refine CT.seq (CT.region ?_)
  refine Wl.q rfl rfl (OpQ.assign rfl) ?_
  refine Wl.nil (PX.then_n (CT.ret (PX.then_r ?_)))
  refine PX.ret1 rfl rfl (fun w' hH => ?_)
  exact ⟨congrArg (fun b => Ending.returned (.bool b)) (decide_eq_false fun hh => h10 (by rw [hh])).symm, hH.ext⟩
 ·
  have h10 := of_nd_f h10
  refine CT.skip (PX.then_n (CT.seq (CT.seq (CT.region ?_))))
  refine Wl.q rfl rfl (OpQ.move rfl) ?_
  refine Wl.q rfl rfl (OpQ.len zf0 rfl) ?_
  refine Wl.q rfl rfl (OpQ.move rfl) ?_
  refine Wl.nil (PX.then_n (CT.block ?_))
  refine CT.loop (ι := Nat) (fun i => i ≤ l.length ∧ ∀ q, q < i → l.getD q 0 = m.getD q 0) (fun i => [(0, .slice a l.length ac), (1, .slice b m.length bc), (12, .int .i64 ((l.length : Nat) : Int)), (13, .int .i64 ((i : Nat) : Int))]) (fun _ => []) (fun i => l.length - i) 0 ⟨Nat.zero_le _, fun q hq => by omega⟩ ⟨rfl, rfl, rfl, rfl, trivial⟩ (HSub.none _) (fun i ⟨hi, hfe⟩ K0 hK0 => ?_)
  refine CT.seq (CT.region ?_)
  refine Wl.q rfl rfl (OpQ.lss rfl rfl) ?_
  refine Wl.nil (PX.then_n (CT.seq ?_))
  refine CT.cond rfl (fun h14 => ?_) (fun h14 => ?_)
  ·
   have h14 := of_decide_eq_true h14
   refine CT.skip (PX.then_n (CT.seq (CT.block (CT.seq (CT.region ?_)))))
   refine Wl.q rfl rfl (OpQ.move rfl) ?_
   refine Wl.q rfl rfl (OpQ.assign rfl) ?_
   refine Wl.nil (PX.then_n (CT.seq ?_))
   refine CT.draw 9 zf6 ?_
   refine RA.q 0 (by kernel_rfl) rfl rfl rfl (.refl _) (OpQ.move rfl) ?_
   refine RA.q 1 (by kernel_rfl) rfl rfl rfl (.refl _) (OpQ.move rfl) ?_
   refine RA.q 2 (by kernel_rfl) rfl rfl rfl (.refl _) (OpQ.index1 zf0 zf1 rfl rfl (by omega) (hsa (by omega))) ?_
   refine RA.q 3 (by kernel_rfl) rfl rfl rfl (.refl _) (OpQ.loadG zf8 rfl (fun w hH => hH.use hra) (getMap zn l 0 (j := i) (by omega))) ?_
   refine RA.q 4 (by kernel_rfl) rfl rfl rfl (.refl _) (OpQ.move rfl) ?_
   refine RA.q 5 (by kernel_rfl) rfl rfl rfl (.refl _) (OpQ.move rfl) ?_
   refine RA.q 6 (by kernel_rfl) rfl rfl rfl (.refl _) (OpQ.index1 zf0 zf1 rfl rfl (by omega) (hsb (by omega))) ?_
   refine RA.q 7 (by kernel_rfl) rfl rfl rfl (.refl _) (OpQ.loadG zf8 rfl (fun w hH => hH.use hrb) (getMap zn m 0 (j := i) (by omega))) ?_
   refine RA.q 8 (by kernel_rfl) rfl rfl rfl (.refl _) (OpQ.neq rfl rfl) ?_
   refine RA.tail ?_
   refine RT.done (by kernel_rfl) ?_
   refine PX.then_n ?_
   refine CT.cond rfl (fun h24 => ?_) (fun h24 => ?_)
   ·
    have h24 := of_nd_t h24
    refine CT.seq (CT.region ?_)
    refine Wl.q rfl rfl (OpQ.assign rfl) ?_
    refine Wl.nil (PX.then_n (CT.ret (PX.block_r (PX.then_r (PX.then_r (PX.block_r (PX.then_r ?_)))))))
    refine PX.ret1 rfl rfl (fun w' hH => ?_)
    exact ⟨congrArg (fun b => Ending.returned (.bool b)) (decide_eq_false fun hh => h24 (by rw [hh])).symm, hH.ext⟩
   ·
    have h24 := of_nd_f h24
    refine CT.skip (PX.block_n (PX.then_n (CT.region ?_)))
    refine Wl.q rfl rfl (OpQ.add rfl rfl (by omega)) ?_
    refine Wl.q rfl rfl (OpQ.move rfl) ?_
    refine Wl.nil ?_
    exact PX.loop hK0 (i + 1) ⟨by omega, fun q hq => by rcases Nat.lt_or_ge q i with h1 | h1; exact hfe q h1; obtain rfl : q = i := (by omega); omega⟩ (by first | omega | (dsimp only; omega)) ⟨rfl, rfl, rfl, rfl, trivial⟩ (HSub.none _)
  ·
   have h14 := of_decide_eq_false h14
   refine CT.exit (PX.then_x (PX.then_x (PX.block_x (PX.then_n (CT.seq (CT.region ?_))))))
   refine Wl.q rfl rfl (OpQ.assign rfl) ?_
   refine Wl.nil (PX.then_n (CT.ret ?_))
   refine PX.ret1 rfl rfl (fun w' hH => ?_)
   exact ⟨congrArg (fun b => Ending.returned (.bool b)) (decide_eq_true (list_ext_getD 0 (by omega) (fun q hq => hfe q (by omega)))).symm, hH.ext⟩

theorem SF_mkN : MapKey Try.prog 3 zn := MapKey.nat (by kernel_rfl)
set_option maxRecDepth 100000 in
/-- semigroup/semigroupref08.number -/
theorem number_spec (w : World) (a : Option Addr) (ac : Nat) (l : List Nat) (hra : Stays [] w (fun w => Rd w a (l.map zn))) (hna : l.length ≤ 100000) : Calls Try.prog 100 #[.slice a l.length ac] w (fun e w' => ∃ i : Option Addr × Nat, True ∧ e = .returned (.slice i.1 l.length i.2) ∧ Post [] [.row 3 1 (.slice i.1 l.length i.2) l.length ((lab l).map zn)] w w') := by
 have hsa : 0 < l.length → a.isSome = true := fun h => hra.now.isSome (j := 0) (by rw [List.length_map]; exact h)
 refine enter (args := [.slice a l.length ac]) [] 39 Try.func100 rfl rfl rfl ?_
 refine CT.seq (CT.region ?_)
 refine Wl.q rfl rfl (OpQ.assign rfl) ?_
 refine Wl.nil (PX.then_n (CT.seq (CT.region ?_)))
 refine Wl.g rfl rfl (OpG.makeMap (f := zn)) ?_
 rintro b9 _
 refine Wl.q rfl rfl (OpQ.assign rfl) ?_
 refine Wl.nil (PX.then_n (CT.seq (CT.region ?_)))
 refine Wl.q rfl rfl (OpQ.move rfl) ?_
 refine Wl.q rfl rfl (OpQ.len zf0 rfl) ?_
 refine Wl.g rfl rfl (OpG.make1 zf0 zf32 rfl rfl rfl rfl (by omega) (by omega)) ?_
 rintro b12 _
 refine Wl.q rfl rfl (OpQ.assign rfl) ?_
 refine Wl.nil (PX.then_n (CT.seq (CT.seq (CT.region ?_))))
 refine Wl.q rfl rfl (OpQ.move rfl) ?_
 refine Wl.q rfl rfl (OpQ.len zf0 rfl) ?_
 refine Wl.q rfl rfl (OpQ.move rfl) ?_
 refine Wl.nil (PX.then_n (CT.block ?_))
 refine CT.loop (ι := Nat) (fun q => q ≤ l.length) (fun q => [(3, .map (some b9)), (4, .slice (some ⟨b12, 0, none⟩) l.length l.length), (13, .slice a l.length ac), (14, .int .i64 ((l.length : Nat) : Int)), (15, .int .i64 ((q : Nat) : Int))]) (fun q => [.row 3 1 (.slice (some ⟨b12, 0, none⟩) l.length l.length) l.length ((labP (l.take q) l.length).map zn), .blk b9 (mapO zn (itA 0 (ded (l.take q))))]) (fun q => l.length - q) 0 (Nat.zero_le _) ⟨rfl, rfl, rfl, rfl, rfl, trivial⟩ (.keep (row_eq (by rw [List.take_zero]; exact labP_nil _)) (HSub.refl _)) (fun q hq K0 hK0 => ?_)
 refine CT.seq (CT.region ?_)
 refine Wl.q rfl rfl (OpQ.lss rfl rfl) ?_
 refine Wl.nil (PX.then_n (CT.seq ?_))
 refine CT.cond rfl (fun h16 => ?_) (fun h16 => ?_)
 ·
  have h16 := of_decide_eq_true h16
  have hql : q < l.length := by omega
  refine CT.skip (PX.then_n (CT.seq (CT.block (CT.seq (CT.region ?_)))))
  refine Wl.q rfl rfl (OpQ.move rfl) ?_
  refine Wl.q rfl rfl (OpQ.index1 zf0 zf1 rfl rfl (by omega) (hsa (by omega))) ?_
  refine Wl.q rfl rfl (OpQ.loadG zf8 rfl (fun w hH => hH.use hra) (getMap zn l 0 (j := q) (by omega))) ?_
  refine Wl.q rfl rfl (OpQ.assign rfl) ?_
  refine Wl.q rfl rfl (OpQ.assign rfl) ?_
  refine Wl.nil (PX.then_n (CT.seq (CT.region ?_)))
  refine Wl.q rfl rfl (OpQ.move rfl) ?_
  refine Wl.q rfl rfl (OpQ.move rfl) ?_
  refine Wl.q rfl rfl (OpQ.lookup (f := zn) (x := (l.getD q 0)) (l := (itA 0 (ded (l.take q)))) SF_mkN zf31 zf32 rfl rfl (by repeat (first | exact Has.here | apply Has.there)) (by rw [if_pos rfl, getA_itA, ix_val, ix_is])) ?_
  refine Wl.q rfl rfl (OpQ.move rfl) ?_
  refine Wl.q rfl rfl (OpQ.extract rfl rfl) ?_
  refine Wl.q rfl rfl (OpQ.extract rfl rfl) ?_
  refine Wl.q rfl rfl (OpQ.assign rfl) ?_
  refine Wl.q rfl rfl (OpQ.assign rfl) ?_
  refine Wl.nil (PX.then_n ?_)
  refine CT.cut (ι := Unit) (Φ := fun _ => True) (E' := fun _ => [(3, .map (some b9)), (4, .slice (some ⟨b12, 0, none⟩) l.length l.length), (13, .slice a l.length ac), (14, .int .i64 ((l.length : Nat) : Int)), (15, .int .i64 ((q : Nat) : Int)), (5, .int .i64 ((q : Nat) : Int)), (7, .int .i64 (((addN (ded (l.take q)) (l.getD q 0)).2 : Nat) : Int))]) (H' := fun _ => [.row 3 1 (.slice (some ⟨b12, 0, none⟩) l.length l.length) l.length ((labP (l.take q) l.length).map zn), .blk b9 (mapO zn (itA 0 (addN (ded (l.take q)) (l.getD q 0)).1))]) (fun K1 hK1 => ?_) (fun _ _ => ?_)
  ·
   refine CT.seq (CT.region ?_)
   refine Wl.q rfl rfl (OpQ.move rfl) ?_
   refine Wl.q rfl rfl (OpQ.not rfl) ?_
   refine Wl.nil (PX.then_n ?_)
   refine CT.cond rfl (fun h27 => ?_) (fun h27 => ?_)
   ·
    have hix : ixA (l.getD q 0) 0 (ded (l.take q)) = none := by simpa using h27
    have hnx := ixA_none hix
    refine CT.seq (CT.region ?_)
    refine Wl.q rfl rfl (OpQ.move rfl) ?_
    refine Wl.q rfl rfl (OpQ.lenMap (f := zn) (l := (itA 0 (ded (l.take q)))) zf31 rfl (by repeat (first | exact Has.here | apply Has.there))) ?_
    refine Wl.know 29 (v' := .int .i64 (((ded (l.take q)).length : Nat) : Int)) rfl (congrArg (fun m : Nat => Value.int .i64 (m : Int)) (itA_len _ _)) ?_
    refine Wl.q rfl rfl (OpQ.assign rfl) ?_
    refine Wl.nil (PX.then_n (CT.region ?_))
    refine Wl.q rfl rfl (OpQ.move rfl) ?_
    refine Wl.q rfl rfl (OpQ.move rfl) ?_
    refine Wl.q rfl rfl (OpQ.move rfl) ?_
    refine Wl.g rfl rfl (OpG.mapNew (f := zn) (x := (l.getD q 0)) (l := (itA 0 (ded (l.take q)))) SF_mkN zf31 rfl rfl rfl (by rw [getA_itA, hix]; rfl) (by repeat (first | exact Upd.here | apply Upd.there))) ?_
    rintro _ _
    refine Wl.nil ?_
    exact PX.cut hK1 () trivial ⟨rfl, rfl, rfl, rfl, rfl, rfl, (lkV rfl (congrArg (fun m : Nat => Value.int .i64 (m : Int)) (by rw [addN_out hnx]))), trivial⟩ (.keep rfl (.keep (by rw [addN_out hnx, itA_snoc, Nat.zero_add]) .nil))
   ·
    have hix : ¬ ixA (l.getD q 0) 0 (ded (l.take q)) = none := fun hh => by rw [hh] at h27; exact absurd h27 (by decide)
    refine CT.skip ?_
    exact PX.cut hK1 () trivial ⟨rfl, rfl, rfl, rfl, rfl, rfl, (lkV rfl (congrArg (fun m : Nat => Value.int .i64 (m : Int)) (ix_in hix).2)), trivial⟩ (.keep rfl (.keep (by rw [(ix_in hix).1]) .nil))
  ·
   refine CT.region ?_
   refine Wl.q rfl rfl (OpQ.move rfl) ?_
   refine Wl.q rfl rfl (OpQ.move rfl) ?_
   refine Wl.q rfl rfl (OpQ.move rfl) ?_
   refine Wl.q rfl rfl (OpQ.index1 zf0 zf1 rfl rfl (by omega) rfl) ?_
   refine Wl.g rfl rfl (OpG.storeRow zf1 rfl rfl rfl .here (by rw [List.length_map, labP_len (by rw [List.length_take]; omega)]; show q < _; omega)) ?_
   rintro _ _
   refine Wl.nil (PX.block_n (PX.then_n (CT.region ?_)))
   refine Wl.q rfl rfl (OpQ.add rfl rfl (by omega)) ?_
   refine Wl.q rfl rfl (OpQ.move rfl) ?_
   refine Wl.nil ?_
   exact PX.loop hK0 (q + 1) (by omega) (by first | omega | (dsimp only; omega)) ⟨rfl, rfl, rfl, rfl, rfl, trivial⟩ (.keep (row_eq (by rw [take_s l hql]; exact (labP_put (by rw [List.length_take]; omega) hql rfl).symm)) (.keep (by rw [take_s l hql, ded_addN]) .nil))
 ·
  have h16 := of_decide_eq_false h16
  refine CT.exit (PX.then_x (PX.then_x (PX.block_x (PX.then_n (CT.seq (CT.region ?_))))))
  refine Wl.q rfl rfl (OpQ.move rfl) ?_
  refine Wl.q rfl rfl (OpQ.assign rfl) ?_
  refine Wl.nil (PX.then_n (CT.ret ?_))
  refine PX.ret1 rfl rfl (fun w' hH => ?_)
  obtain rfl : q = l.length := by omega
  exact ⟨(some ⟨b12, 0, none⟩, _), trivial, rfl, hH.post.sub (.keep (row_eq (by rw [List.take_length, labP_full rfl])) (.drop .nil))⟩

set_option maxRecDepth 100000 in
/-- semigroup/semigroupref08.both -/
theorem both_spec (w : World) (a : Option Addr) (ac : Nat) (p : List Nat) (hra : Stays [] w (fun w => Rd w a (p.map zn))) (hna : p.length ≤ 30000) (b : Option Addr) (bc : Nat) (q : List Nat) (hrb : Stays [] w (fun w => Rd w b (q.map zn))) (hpq : q.length = p.length) (hp : ∀ i, p.getD i 0 ≤ 30000) (hq : ∀ i, q.getD i 0 ≤ 30000) : Calls Try.prog 101 #[.slice a p.length ac, .slice b q.length bc] w (fun e w' => ∃ i : Option Addr × Nat, True ∧ e = .returned (.slice i.1 p.length i.2) ∧ Post [] [.row 3 1 (.slice i.1 p.length i.2) p.length ((lab (bkeys p q)).map zn)] w w') := by
 have hsa : 0 < p.length → a.isSome = true := fun h => hra.now.isSome (j := 0) (by rw [List.length_map]; exact h)
 have hsb : 0 < q.length → b.isSome = true := fun h => hrb.now.isSome (j := 0) (by rw [List.length_map]; exact h)
 refine enter (args := [.slice a p.length ac, .slice b q.length bc]) [] 34 Try.func101 rfl rfl rfl ?_
 refine CT.seq (CT.region ?_)
 refine Wl.q rfl rfl (OpQ.assign rfl) ?_
 refine Wl.nil (PX.then_n (CT.seq (CT.region ?_)))
 refine Wl.q rfl rfl (OpQ.move rfl) ?_
 refine Wl.q rfl rfl (OpQ.len zf0 rfl) ?_
 refine Wl.g rfl rfl (OpG.make1 zf0 zf32 rfl rfl rfl rfl (by omega) (by omega)) ?_
 rintro b9 _
 refine Wl.q rfl rfl (OpQ.assign rfl) ?_
 refine Wl.nil (PX.then_n (CT.seq (CT.seq (CT.region ?_))))
 refine Wl.q rfl rfl (OpQ.move rfl) ?_
 refine Wl.q rfl rfl (OpQ.len zf0 rfl) ?_
 refine Wl.q rfl rfl (OpQ.move rfl) ?_
 refine Wl.nil (PX.then_n (CT.block ?_))
 refine CT.loop (ι := Nat) (fun i => i ≤ p.length) (fun i => [(0, .slice a p.length ac), (1, .slice b q.length bc), (5, .slice (some ⟨b9, 0, none⟩) p.length p.length), (11, .int .i64 ((p.length : Nat) : Int)), (12, .int .i64 ((i : Nat) : Int))]) (fun i => [.row 3 1 (.slice (some ⟨b9, 0, none⟩) p.length p.length) p.length ((tabI p.length (fun k => if k < i then ((bkey p.length p q k : Nat) : Int) else 0)).map zz)]) (fun i => p.length - i) 0 (Nat.zero_le _) ⟨rfl, rfl, rfl, rfl, rfl, trivial⟩ (.keep (row_eq (by rw [tabI_zz]; rfl)) .nil) (fun i hi K0 hK0 => ?_)
 refine CT.seq (CT.region ?_)
 refine Wl.q rfl rfl (OpQ.lss rfl rfl) ?_
 refine Wl.nil (PX.then_n (CT.seq ?_))
 refine CT.cond rfl (fun h13 => ?_) (fun h13 => ?_)
 ·
  have h13 := of_decide_eq_true h13
  have hpi := hp i
  have hqi := hq i
  have hmul : p.getD i 0 * (p.length + 1) ≤ 30000 * 30001 := Nat.mul_le_mul hpi (by omega)
  refine CT.skip (PX.then_n (CT.seq (CT.block (CT.seq (CT.region ?_)))))
  refine Wl.q rfl rfl (OpQ.move rfl) ?_
  refine Wl.q rfl rfl (OpQ.assign rfl) ?_
  refine Wl.nil (PX.then_n ?_)
  refine CT.draw 16 zf6 ?_
  refine RA.q 0 (by kernel_rfl) rfl rfl rfl (.refl _) (OpQ.move rfl) ?_
  refine RA.q 1 (by kernel_rfl) rfl rfl rfl (.refl _) (OpQ.move rfl) ?_
  refine RA.q 2 (by kernel_rfl) rfl rfl rfl (.refl _) (OpQ.move rfl) ?_
  refine RA.q 3 (by kernel_rfl) rfl rfl rfl (.refl _) (OpQ.move rfl) ?_
  refine RA.q 4 (by kernel_rfl) rfl rfl rfl (.refl _) (OpQ.index1 zf0 zf1 rfl rfl (by omega) (hsa (by omega))) ?_
  refine RA.q 5 (by kernel_rfl) rfl rfl rfl (.refl _) (OpQ.loadG zf8 rfl (fun w hH => hH.use hra) (getMap zn p 0 (j := i) (by omega))) ?_
  refine RA.q 6 (by kernel_rfl) rfl rfl rfl (.refl _) (OpQ.move rfl) ?_
  refine RA.q 7 (by kernel_rfl) rfl rfl rfl (.refl _) (OpQ.len zf0 rfl) ?_
  refine RA.q 8 (by kernel_rfl) rfl rfl rfl (.refl _) (OpQ.add rfl rfl (by omega)) ?_
  refine RA.know 23 (v' := .int .i64 ((p.length + 1 : Nat) : Int)) rfl (congrArg (Value.int .i64) (by omega)) ?_
  refine RA.q 9 (by kernel_rfl) rfl rfl rfl (.refl _) (OpQ.mul rfl rfl (by rw [← Int.natCast_mul]; omega)) ?_
  refine RA.know 24 (v' := .int .i64 ((p.getD i 0 * (p.length + 1) : Nat) : Int)) rfl (congrArg (Value.int .i64) (by rw [Int.natCast_mul])) ?_
  refine RA.q 10 (by kernel_rfl) rfl rfl rfl (.refl _) (OpQ.move rfl) ?_
  refine RA.q 11 (by kernel_rfl) rfl rfl rfl (.refl _) (OpQ.move rfl) ?_
  refine RA.q 12 (by kernel_rfl) rfl rfl rfl (.refl _) (OpQ.index1 zf0 zf1 rfl rfl (by omega) (hsb (by omega))) ?_
  refine RA.q 13 (by kernel_rfl) rfl rfl rfl (.refl _) (OpQ.loadG zf8 rfl (fun w hH => hH.use hrb) (getMap zn q 0 (j := i) (by omega))) ?_
  refine RA.q 14 (by kernel_rfl) rfl rfl rfl (.refl _) (OpQ.add rfl rfl (by omega)) ?_
  refine RA.know 29 (v' := .int .i64 ((bkey p.length p q i : Nat) : Int)) rfl (congrArg (Value.int .i64) (by unfold bkey; omega)) ?_
  refine RA.q 15 (by kernel_rfl) rfl rfl rfl (.refl _) (OpQ.index1 zf0 zf1 rfl rfl (by omega) rfl) ?_
  refine RA.tail ?_
  refine RT.f 16 (by kernel_rfl) rfl rfl rfl (OpG.storeRow zf1 rfl rfl rfl .here (by rw [List.length_map, tabI_len]; show i < _; omega)) ?_
  rintro _ _
  refine RT.done (by kernel_rfl) ?_
  refine PX.block_n (PX.then_n (CT.region ?_))
  refine Wl.q rfl rfl (OpQ.add rfl rfl (by omega)) ?_
  refine Wl.q rfl rfl (OpQ.move rfl) ?_
  refine Wl.nil ?_
  exact PX.loop hK0 (i + 1) (by omega) (by first | omega | (dsimp only; omega)) ⟨rfl, rfl, rfl, rfl, rfl, trivial⟩ (.keep (row_eq (tabI_set (if_pos (show i < i + 1 by omega)) (fun k _ hk => by by_cases h : k < i; rw [if_pos h, if_pos (by omega)]; rw [if_neg h, if_neg (by omega)])).symm) .nil)
 ·
  have h13 := of_decide_eq_false h13
  refine CT.exit (PX.then_x (PX.then_x (PX.block_x (PX.then_n (CT.seq (CT.region ?_))))))
  obtain rfl : i = p.length := by omega
  refine Wl.mem (.keep (row_eq (xs := (bkeys p q).map zn) (by rw [show bkeys p q = (List.range p.length).map (bkey p.length p q) from rfl, List.map_map]; unfold tabI; rw [List.map_map]; exact List.map_congr_left fun k hk => congrArg zz (if_pos (List.mem_range.1 hk)).symm)) .nil) ?_
  refine Wl.q rfl rfl (OpQ.move rfl) ?_
  refine Wl.know 32 (v' := .slice (some ⟨b9, 0, none⟩) (bkeys p q).length p.length) rfl (by rw [bkeys_len]) ?_
  refine Wl.g rfl rfl (OpG.callX zf129 rfl .nil (fun _ => (.cons .nil)) (fun w hH hp => number_spec w (some ⟨b9, 0, none⟩) p.length (bkeys p q) (Stays.rd (hH.staysK0 .here)) (by rw [bkeys_len]; omega))) ?_
  rintro ⟨a33, c33⟩ _
  refine Wl.know 33 (v' := .slice a33 p.length c33) rfl (by rw [bkeys_len]) ?_
  refine Wl.q rfl rfl (OpQ.assign rfl) ?_
  refine Wl.nil (PX.then_n (CT.ret ?_))
  refine PX.ret1 rfl rfl (fun w' hH => ?_)
  exact ⟨(a33, c33), trivial, rfl, hH.post.sub (.keep (row_len (by rw [bkeys_len])) (.drop .nil))⟩

set_option maxRecDepth 100000 in
/-- semigroup/semigroupref08.Classes -/
theorem classesR_spec (w : World) (D : Dv) (hD : Stays [] w (dvm D)) (hv : D.Ok) : Calls Try.prog 89 #[dvv D] w (fun e w' => ∃ i : List Nat × Option Addr × Nat × List Nat, Cls D.da i.1 ∧ e = .returned (.slice i.2.1 D.fin.length i.2.2.1) ∧ Post [] [.frag i.2.2.2 (fun w => Rd w i.2.1 (i.1.map zn))] w w') := by
 have hfs : 0 < D.fin.length → D.fa.isSome = true := fun h => hD.now.1.isSome (j := 0) (by rw [List.length_map]; exact h)
 have hns : 0 < D.rs.length → D.na.isSome = true := fun h => hD.now.2.1.isSome (j := 0) (by rw [List.length_map]; exact h)
 have hrs : ∀ q, q < D.rs.length → 0 < (D.rs.getD q rw0).xs.length → (D.rs.getD q rw0).a.isSome = true := fun q hq h => (hD.now.2.2 _ (getDm hq)).isSome (j := 0) (by rw [List.length_map]; exact h)
 have hmv := hv.may
 have hn := hv.n
 have hst := hv.st
 have hlen := hv.len
 have hLe := hv.L_eq
 refine enter (args := [dvv D]) [] 64 Try.func89 rfl rfl rfl ?_
 refine CT.seq (CT.region ?_)
 refine Wl.g rfl rfl (OpG.box (size := 4) rfl rfl rfl) ?_
 rintro b1 _
 refine Wl.q rfl rfl (OpQ.assign rfl) ?_
 refine Wl.nil (PX.then_n (CT.seq (CT.region ?_)))
 refine Wl.q rfl rfl (OpQ.fieldAddr zf16 rfl) ?_
 refine Wl.q rfl rfl (OpQ.loadF (b := b1) zf17 rfl (by repeat (first | exact Has.here | apply Has.there)) (by rfl)) ?_
 refine Wl.q rfl rfl (OpQ.len zf18 rfl) ?_
 refine Wl.g rfl rfl (OpG.make1 zf0 zf32 rfl rfl rfl rfl (by omega) (by omega)) ?_
 rintro b12 _
 refine Wl.q rfl rfl (OpQ.assign rfl) ?_
 refine Wl.nil (PX.then_n (CT.seq (CT.seq (CT.region ?_))))
 refine Wl.q rfl rfl (OpQ.move rfl) ?_
 refine Wl.q rfl rfl (OpQ.len zf0 rfl) ?_
 refine Wl.q rfl rfl (OpQ.move rfl) ?_
 refine Wl.nil (PX.then_n (CT.block ?_))
 refine CT.loop (ι := Nat) (fun i => i ≤ D.fin.length) (fun i => [(1, .pointer (some ⟨b1, 0, none⟩)), (3, .slice (some ⟨b12, 0, none⟩) D.fin.length D.fin.length), (14, .int .i64 ((D.fin.length : Nat) : Int)), (15, .int .i64 ((i : Nat) : Int))]) (fun i => [.row 3 1 (.slice (some ⟨b12, 0, none⟩) D.fin.length D.fin.length) D.fin.length ((finK D.da i).map zn), .row 49 4 (vb b1) 1 (dvc D)]) (fun i => D.fin.length - i) 0 (Nat.zero_le _) ⟨rfl, rfl, rfl, rfl, trivial⟩ (.keep (row_eq (finK_start _)) (HSub.refl _)) (fun i hi K0 hK0 => ?_)
 refine CT.seq (CT.region ?_)
 refine Wl.q rfl rfl (OpQ.lss rfl rfl) ?_
 refine Wl.nil (PX.then_n (CT.seq ?_))
 refine CT.cond rfl (fun h16 => ?_) (fun h16 => ?_)
 ·
  have h16 := of_decide_eq_true h16
  refine CT.skip (PX.then_n (CT.seq (CT.block (CT.seq (CT.region ?_)))))
  refine Wl.q rfl rfl (OpQ.move rfl) ?_
  refine Wl.q rfl rfl (OpQ.assign rfl) ?_
  refine Wl.nil (PX.then_n (CT.seq (CT.region ?_)))
  refine Wl.q rfl rfl (OpQ.fieldAddr zf16 rfl) ?_
  refine Wl.q rfl rfl (OpQ.loadF (b := b1) zf17 rfl (by repeat (first | exact Has.here | apply Has.there)) (by rfl)) ?_
  refine Wl.q rfl rfl (OpQ.move rfl) ?_
  refine Wl.q rfl rfl (OpQ.index1 zf18 zf29 rfl rfl (by omega) (hfs (by omega))) ?_
  refine Wl.q rfl rfl (OpQ.loadG zf30 rfl (fun w hH => (hH.use hD).1) (getMap bo D.fin false (j := i) (by omega))) ?_
  refine Wl.nil (PX.then_n ?_)
  refine CT.cond rfl (fun h22 => ?_) (fun h22 => ?_)
  ·
   have h22 : D.da.fi i = true := h22
   refine CT.region ?_
   refine Wl.q rfl rfl (OpQ.move rfl) ?_
   refine Wl.q rfl rfl (OpQ.move rfl) ?_
   refine Wl.q rfl rfl (OpQ.index1 zf0 zf1 rfl rfl (by omega) rfl) ?_
   refine Wl.g rfl rfl (OpG.storeRow zf1 rfl rfl rfl .here (by rw [List.length_map, finK, List.length_map, List.length_range]; show i < D.fin.length; omega)) ?_
   rintro _ _
   refine Wl.nil (PX.block_n (PX.then_n (CT.region ?_)))
   refine Wl.q rfl rfl (OpQ.add rfl rfl (by omega)) ?_
   refine Wl.q rfl rfl (OpQ.move rfl) ?_
   refine Wl.nil ?_
   exact PX.loop hK0 (i + 1) (by omega) (by first | omega | (dsimp only; omega)) ⟨rfl, rfl, rfl, rfl, trivial⟩ (.keep (row_eq (finK_put h22).symm) (HSub.refl _))
  ·
   have h22 : D.da.fi i = false := h22
   refine CT.skip (PX.block_n (PX.then_n (CT.region ?_)))
   refine Wl.q rfl rfl (OpQ.add rfl rfl (by omega)) ?_
   refine Wl.q rfl rfl (OpQ.move rfl) ?_
   refine Wl.nil ?_
   exact PX.loop hK0 (i + 1) (by omega) (by first | omega | (dsimp only; omega)) ⟨rfl, rfl, rfl, rfl, trivial⟩ (.keep (row_eq (by rw [← finK_keep h22])) (HSub.refl _))
 ·
  have h16 := of_decide_eq_false h16
  refine CT.exit (PX.then_x (PX.then_x (PX.block_x (PX.then_n (CT.seq (CT.region ?_))))))
  obtain rfl : i = D.fin.length := by omega
  refine Wl.mem (.keep (row_eq (xs := (finL D.da).map zn) (by rw [← finK_end]; rfl)) (HSub.refl _)) ?_
  refine Wl.q rfl rfl (OpQ.move rfl) ?_
  refine Wl.know 27 (v' := .slice (some ⟨b12, 0, none⟩) (finL D.da).length D.fin.length) rfl (by rw [finL_len]; rfl) ?_
  refine Wl.g rfl rfl (OpG.callX zf129 rfl .nil (fun _ => (.cons .nil)) (fun w hH hp => number_spec w (some ⟨b12, 0, none⟩) D.fin.length (finL D.da) (Stays.rd (hH.staysK0 .here)) (by rw [finL_len]; show D.fin.length ≤ 100000; omega))) ?_
  rintro ⟨a28, c28⟩ _
  refine Wl.know 28 (v' := .slice a28 D.fin.length c28) rfl (by rw [finL_len]; rfl) ?_
  refine Wl.q rfl rfl (OpQ.assign rfl) ?_
  refine Wl.nil (PX.then_n (CT.block ?_))
  refine CT.as (fun _ h => h.bind (L := [.row 3 1 (.slice a28 (finL D.da).length c28) (finL D.da).length ((lab (finL D.da)).map zn)]) (p := fun w => Rd w a28 ((lab (finL D.da)).map zn)) (.cons .here .nil) (fun w hk => Rd.of_owns (hk _ List.mem_cons_self))) ?_
  refine CT.loop (ι := List Nat × Option Addr × Nat × List Nat) (fun (p, pa, pc, bs) => Coarse D.da p) (fun (p, pa, pc, bs) => [(1, .pointer (some ⟨b1, 0, none⟩)), (3, .slice pa D.fin.length pc)]) (fun (p, pa, pc, bs) => [.frag bs (fun w => Rd w pa (p.map zn)), .row 49 4 (vb b1) 1 (dvc D)]) (fun (p, pa, pc, bs) => D.fin.length + 1 - topL p) (lab (finL D.da), a28, c28, _) (finL_coarse D.da) ⟨rfl, rfl, trivial⟩ (.keep rfl (.drop (HSub.refl _))) (fun ⟨p, pa, pc, bs⟩ hc K1 hK1 => ?_)
  dsimp only
  have hpl : p.length = D.fin.length := hc.len
  refine CT.fact (p := pa.isSome = true) (fun w hH => (hH.fragp .here).isSome (j := 0) (by rw [List.length_map]; exact (show 0 < p.length by omega))) (fun hpa => ?_)
  refine CT.block (CT.seq (CT.region ?_))
  refine Wl.q rfl rfl (OpQ.move rfl) ?_
  refine Wl.q rfl rfl (OpQ.assign rfl) ?_
  refine Wl.nil (PX.then_n (CT.seq (CT.seq (CT.region ?_))))
  refine Wl.q rfl rfl (OpQ.assign rfl) ?_
  refine Wl.nil (PX.then_n (CT.block ?_))
  refine CT.as (fun _ h => h.weaken (q := fun w => Rd w pa (p.map zn) ∧ Rd w pa (p.map zn)) (fun w hw => ⟨hw, hw⟩)) ?_
  refine CT.loop (ι := Nat × List Nat × Option Addr × Nat × List Nat) (fun (x, nx, na, nc, bs2) => x ≤ D.da.L ∧ XP D.da p x nx) (fun (x, nx, na, nc, bs2) => [(1, .pointer (some ⟨b1, 0, none⟩)), (3, .slice pa D.fin.length pc), (5, .slice na D.fin.length nc), (6, .int .i64 ((x : Nat) : Int))]) (fun (x, nx, na, nc, bs2) => [.frag bs2 (fun w => Rd w pa (p.map zn) ∧ Rd w na (nx.map zn)), .row 49 4 (vb b1) 1 (dvc D)]) (fun (x, nx, na, nc, bs2) => D.da.L - x) (0, p, pa, pc, bs) ⟨Nat.zero_le _, XP.start hc⟩ ⟨rfl, rfl, rfl, rfl, trivial⟩ (HSub.refl _) (fun ⟨x, nx, na, nc, bs2⟩ ⟨hx, hxp⟩ K2 hK2 => ?_)
  dsimp only
  refine CT.seq (CT.seq (CT.region ?_))
  refine Wl.q rfl rfl (OpQ.move rfl) ?_
  refine Wl.q rfl rfl (OpQ.fieldAddr zf15 rfl) ?_
  refine Wl.q rfl rfl (OpQ.loadF (b := b1) zf8 rfl (by repeat (first | exact Has.here | apply Has.there)) (by rfl)) ?_
  refine Wl.q rfl rfl (OpQ.lss rfl rfl) ?_
  refine Wl.nil (PX.then_n ?_)
  refine CT.cond rfl (fun h33 => ?_) (fun h33 => ?_)
  ·
   have h33 := of_decide_eq_true h33
   have hxl : x < D.da.L := by omega
   have hnxl : nx.length = D.fin.length := hxp.len
   refine CT.skip (PX.then_n (CT.seq (CT.block (CT.seq (CT.region ?_)))))
   refine Wl.q rfl rfl (OpQ.assign rfl) ?_
   refine Wl.nil (PX.then_n (CT.seq (CT.seq (CT.region ?_))))
   refine Wl.q rfl rfl (OpQ.move rfl) ?_
   refine Wl.q rfl rfl (OpQ.len zf0 rfl) ?_
   refine Wl.q rfl rfl (OpQ.move rfl) ?_
   refine Wl.nil (PX.then_n (CT.block ?_))
   refine CT.nilrow 3 1 ?_
   refine CT.loop (ι := Nat × Option Addr × Nat) (fun (k, ta, tc) => k ≤ D.fin.length) (fun (k, ta, tc) => [(1, .pointer (some ⟨b1, 0, none⟩)), (3, .slice pa D.fin.length pc), (5, .slice na D.fin.length nc), (6, .int .i64 ((x : Nat) : Int)), (7, .slice ta k tc), (37, .int .i64 ((D.fin.length : Nat) : Int)), (38, .int .i64 ((k : Nat) : Int))]) (fun (k, ta, tc) => [.row 3 1 (.slice ta k tc) k ((toL D.da p x k).map zn), .frag bs2 (fun w => Rd w pa (p.map zn) ∧ Rd w na (nx.map zn)), .row 49 4 (vb b1) 1 (dvc D)]) (fun (k, ta, tc) => D.fin.length - k) (0, none, 0) (Nat.zero_le _) ⟨rfl, rfl, rfl, rfl, rfl, rfl, rfl, trivial⟩ (HSub.refl _) (fun ⟨k, ta, tc⟩ hk K3 hK3 => ?_)
   dsimp only
   refine CT.seq (CT.region ?_)
   refine Wl.q rfl rfl (OpQ.lss rfl rfl) ?_
   refine Wl.nil (PX.then_n (CT.seq ?_))
   refine CT.cond rfl (fun h39 => ?_) (fun h39 => ?_)
   ·
    have h39 := of_decide_eq_true h39
    have hkl : k < D.fin.length := by omega
    have hrw := (hv.row k hkl).1
    have hto := hv.to (x := x) hkl (by omega)
    have hton : D.da.to k x < D.fin.length := hv.daOk.lt k x hkl hxl
    refine CT.skip (PX.then_n (CT.seq (CT.block (CT.seq (CT.region ?_)))))
    refine Wl.q rfl rfl (OpQ.move rfl) ?_
    refine Wl.q rfl rfl (OpQ.assign rfl) ?_
    refine Wl.nil (PX.then_n (CT.region ?_))
    refine Wl.q rfl rfl (OpQ.move rfl) ?_
    refine Wl.q rfl rfl (OpQ.move rfl) ?_
    refine Wl.q rfl rfl (OpQ.fieldAddr zf19 rfl) ?_
    refine Wl.q rfl rfl (OpQ.loadF (b := b1) zf20 rfl (by repeat (first | exact Has.here | apply Has.there)) (by rfl)) ?_
    refine Wl.q rfl rfl (OpQ.move rfl) ?_
    refine Wl.q rfl rfl (OpQ.index1 zf21 zf23 rfl rfl (by omega) (hns (by omega))) ?_
    refine Wl.q rfl rfl (OpQ.loadG zf10 rfl (fun w hH => (hH.use hD).2.1) (getMap rv D.rs rw0 (j := k) (by omega))) ?_
    refine Wl.q rfl rfl (OpQ.move rfl) ?_
    refine Wl.q rfl rfl (OpQ.index1 zf0 zf1 rfl rfl (by omega) (hrs k (by omega) (by omega))) ?_
    refine Wl.q rfl rfl (OpQ.loadG zf8 rfl (fun w hH => (hH.use hD).2.2 _ (getDm (show k < D.rs.length by omega))) (getMap zz (D.rs.getD k rw0).xs 0 (j := x) (by omega))) ?_
    refine Wl.know 50 (v' := .int .i64 ((D.da.to k x : Nat) : Int)) rfl (congrArg (Value.int .i64) hto) ?_
    refine Wl.q rfl rfl (OpQ.index1 zf0 zf1 rfl rfl (by omega) hpa) ?_
    refine Wl.q rfl rfl (OpQ.loadG zf8 rfl (fun w hH => (hH.fragp (.there .here)).1) (getMap zn p 0 (j := D.da.to k x) (by omega))) ?_
    refine Wl.g rfl rfl (OpG.lit1 zf0 zf32 rfl rfl rfl) ?_
    rintro b53 _
    refine Wl.g rfl rfl (OpG.append zf0 zf32 (by rfl) (by decide) rfl rfl (p := 1) rfl (fun w hH => hH.rd .here) ⟨rfl, (by simp [Value.oneCell']), (by omega), (by omega)⟩ (nm := k + 1) rfl (all := (toL D.da p x (k + 1)).map zn) (by rw [toL_s, List.map_append]; rfl)) ?_
    rintro ⟨a54, c54⟩ h54
    refine Wl.q rfl rfl (OpQ.assign rfl) ?_
    refine Wl.nil (PX.block_n (PX.then_n (CT.region ?_)))
    refine Wl.q rfl rfl (OpQ.add rfl rfl (by omega)) ?_
    refine Wl.q rfl rfl (OpQ.move rfl) ?_
    refine Wl.nil ?_
    refine PX.as (fun _ h => h.take (.cons (.there .here) (.cons (.there .here) (.cons (.there .here) .nil)))) ?_
    exact PX.loop hK3 (k + 1, a54, c54) (by omega) (show D.fin.length - (k + 1) < D.fin.length - k by omega) ⟨rfl, rfl, rfl, rfl, rfl, rfl, rfl, trivial⟩ (HSub.refl _)
   ·
    have h39 := of_decide_eq_false h39
    refine CT.exit (PX.then_x (PX.then_x (PX.block_x (PX.then_n (CT.region ?_)))))
    obtain rfl : k = D.fin.length := by omega
    refine Wl.q rfl rfl (OpQ.move rfl) ?_
    refine Wl.know 56 (v' := .slice na nx.length nc) rfl (by rw [hnxl]) ?_
    refine Wl.q rfl rfl (OpQ.move rfl) ?_
    refine Wl.know 57 (v' := .slice ta (toL D.da p x D.fin.length).length tc) rfl (by rw [toL_len]) ?_
    refine Wl.g rfl rfl (OpG.callX zf130 rfl .nil (fun _ => (.cons .nil)) (fun w hH hp => both_spec w na nc nx ((Stays.frag (hH.staysK0 (.there .here))).mono fun _ h => h.2) (by omega) ta tc (toL D.da p x D.fin.length) ((Stays.rd (hH.staysK0 .here))) (by rw [toL_len, hnxl]) (fun i => by have := fo_lt hxp.fo i; omega) (fun i => by rcases Nat.lt_or_ge i D.fin.length with h | h; rw [toL_get h]; have := fo_lt hc.fo (D.da.to i x); omega; rw [List.getD_eq_getElem?_getD, List.getElem?_eq_none (by rw [toL_len]; exact h)]; exact Nat.zero_le _))) ?_
    rintro ⟨a58, c58⟩ _
    refine Wl.know 58 (v' := .slice a58 D.fin.length c58) rfl (by rw [hnxl]) ?_
    refine Wl.q rfl rfl (OpQ.assign rfl) ?_
    refine Wl.nil (PX.block_n (PX.then_n (CT.region ?_)))
    refine Wl.q rfl rfl (OpQ.move rfl) ?_
    refine Wl.q rfl rfl (OpQ.add rfl rfl (by omega)) ?_
    refine Wl.q rfl rfl (OpQ.assign rfl) ?_
    refine Wl.nil ?_
    refine PX.as (fun _ h => h.bind (L := [.frag bs2 (fun w => Rd w pa (p.map zn) ∧ Rd w na (nx.map zn)), .row 3 1 (.slice a58 nx.length c58) nx.length ((lab (bkeys nx (toL D.da p x D.fin.length))).map zn)]) (p := fun w => Rd w pa (p.map zn) ∧ Rd w a58 ((lab (bkeys nx (toL D.da p x D.fin.length))).map zn)) (.cons (.there (.there .here)) (.cons .here .nil)) (fun w hk => ⟨((hk _ List.mem_cons_self).2 w (fun _ _ => rfl)).1, Rd.of_owns (hk _ (List.mem_cons_of_mem _ List.mem_cons_self))⟩)) ?_
    refine PX.as (fun _ h => h.take (.cons .here (.cons (.there .here) .nil))) ?_
    exact PX.loop hK2 (x + 1, lab (bkeys nx (toL D.da p x D.fin.length)), a58, c58, _) ⟨by omega, hxp.next hpl hc.fo⟩ (show D.da.L - (x + 1) < D.da.L - x by omega) ⟨rfl, rfl, rfl, rfl, trivial⟩ (HSub.refl _)
  ·
   have h33 := of_decide_eq_false h33
   refine CT.exit (PX.then_x (PX.then_x (PX.block_x (PX.then_n (CT.seq (CT.seq (CT.region ?_)))))))
   obtain rfl : x = D.da.L := by omega
   have hnxl : nx.length = D.fin.length := hxp.len
   refine Wl.q rfl rfl (OpQ.move rfl) ?_
   refine Wl.know 59 (v' := .slice na nx.length nc) rfl (by rw [hnxl]) ?_
   refine Wl.q rfl rfl (OpQ.move rfl) ?_
   refine Wl.know 60 (v' := .slice pa p.length pc) rfl (by rw [hpl]) ?_
   refine Wl.g rfl rfl (OpG.callV zf131 rfl (fun w hH => same3_spec w na nc nx ((Stays.frag (hH.staysK0 .here)).mono fun _ h => h.2) (by omega) pa pc p ((Stays.frag (hH.staysK0 .here)).mono fun _ h => h.1))) ?_
   rintro _ _
   refine Wl.nil (PX.then_n ?_)
   refine CT.cond rfl (fun h61 => ?_) (fun h61 => ?_)
   ·
    have h61 := of_decide_eq_true h61
    refine CT.seq (CT.region ?_)
    refine Wl.q rfl rfl (OpQ.move rfl) ?_
    refine Wl.q rfl rfl (OpQ.assign rfl) ?_
    refine Wl.nil (PX.then_n (CT.ret (PX.then_r (PX.block_r (PX.then_r (PX.block_r ?_))))))
    refine PX.ret1 rfl rfl (fun w' hH => ?_)
    subst h61
    exact ⟨(nx, pa, pc, _), hxp.cls hv.daOk hc, rfl, (hH.weaken (q := fun w => Rd w pa (nx.map zn)) (fun w hw => hw.1)).post.sub (.keep rfl (.drop .nil))⟩
   ·
    have h61 := of_decide_eq_false h61
    refine CT.skip (PX.then_n (CT.region ?_))
    refine Wl.q rfl rfl (OpQ.move rfl) ?_
    refine Wl.q rfl rfl (OpQ.assign rfl) ?_
    refine Wl.nil (PX.block_n ?_)
    have hxp2 := hxp
    refine PX.as (fun _ h => h.weaken (q := fun w => Rd w na (nx.map zn)) (fun w hw => hw.2)) ?_
    exact PX.loop hK1 (nx, na, nc, _) (hxp.coarse hv.daOk hc) (by have h1 := hxp.le hc; have h2 := fo_top_n (hxp.coarse hv.daOk hc); have h3 : ¬ topL nx ≤ topL p := (fun hh => h61 (hxp.same hc hh)); have h2 : topL nx ≤ D.fin.length := h2; dsimp only; omega) ⟨rfl, rfl, trivial⟩ (HSub.refl _)

end Go.Proofs.Ytamolakhpcofhaa

