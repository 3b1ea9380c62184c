/-
  What functions of the program compute, each by its walk. Conditions: those that each theorem names.
-/
import Derived.Test.YtlmbcdjmdgbmjaaMod
import Derived.Test.YtlmbcdjmdgbmjaaXB6
import Derived.Test.YtlmbcdjmdgbmjaaXB7
set_option linter.unusedSimpArgs false
namespace Go.Proofs.Ytlmbcdjmdgbmjaa
open Go Go.Eng Go.Am
open Go.Tl (mayL bo)

theorem AH_in107 : (Try.prog.info? 107).map (fun i => (i.zero, i.size, i.bytes)) = some (some (.agg #[.int .i64 0, .int .i64 0, .int .u64 0, .int .u64 0, .slice none 0 0]), 5, 56) := by kernel_rfl
theorem AH_mixed : Try.prog.follows .mixedOrders = true := by kernel_rfl
theorem AH_fa52_0 : fieldB Try.prog 52 0 = some 0 := by kernel_rfl
theorem AH_sc3 : scalarB Try.prog 3 = some true := by kernel_rfl
theorem AH_fa52_2 : fieldB Try.prog 52 2 = some 2 := by kernel_rfl
theorem AH_sc49 : scalarB Try.prog 49 = some true := by kernel_rfl
theorem AH_un49 : Try.prog.underlying 49 = some (.slice 4) := by kernel_rfl
theorem AH_fa52_1 : fieldB Try.prog 52 1 = some 1 := by kernel_rfl
theorem AH_go74 : isGo Try.prog 74 = true := by kernel_rfl
theorem AH_pl107 : placesB Try.prog 107 = some (#[.int .i64 0, .int .i64 0, .int .u64 0, .int .u64 0, .slice none 0 0], [(0, 1), (1, 1), (2, 1), (3, 1), (4, 1)]) := by kernel_rfl
theorem AH_sz107 : sizeB Try.prog 107 = some 5 := by kernel_rfl
theorem AH_sz4 : sizeB Try.prog 4 = some 1 := by kernel_rfl
theorem AH_sc4 : scalarB Try.prog 4 = some true := by kernel_rfl
theorem AH_fa107_3 : fieldB Try.prog 107 3 = some 3 := by kernel_rfl
theorem AH_sc77 : scalarB Try.prog 77 = some true := by kernel_rfl
theorem AH_sz77 : sizeB Try.prog 77 = some 1 := by kernel_rfl
theorem AH_fa52_3 : fieldB Try.prog 52 3 = some 3 := by kernel_rfl
theorem AH_sc50 : scalarB Try.prog 50 = some true := by kernel_rfl
theorem AH_un50 : Try.prog.underlying 50 = some (.slice 25) := by kernel_rfl
theorem AH_sz25 : sizeB Try.prog 25 = some 1 := by kernel_rfl
theorem AH_sc25 : scalarB Try.prog 25 = some true := by kernel_rfl
theorem AH_un25 : Try.prog.underlying 25 = some (.slice 3) := by kernel_rfl
theorem AH_sz3 : sizeB Try.prog 3 = some 1 := by kernel_rfl
theorem AH_fa107_4 : fieldB Try.prog 107 4 = some 4 := by kernel_rfl
theorem AH_sc105 : scalarB Try.prog 105 = some true := by kernel_rfl
theorem AH_pl129 : placesB Try.prog 129 = some (#[.int .i64 0, .int .i64 0, .int .i64 0], [(0, 1), (1, 1), (2, 1)]) := by kernel_rfl
theorem AH_un105 : Try.prog.underlying 105 = some (.slice 129) := by kernel_rfl
theorem AH_in129 : (Try.prog.info? 129).map (fun i => (i.zero, i.size, i.bytes)) = some (some (.agg #[.int .i64 0, .int .i64 0, .int .i64 0]), 3, 24) := by kernel_rfl
theorem AH_sz105 : sizeB Try.prog 105 = some 1 := by kernel_rfl
theorem AH_ag107 : isAggB Try.prog 107 = some true := by kernel_rfl
set_option maxRecDepth 100000 in
/-- semigroup/semigroupref10.begin -/
theorem begin_spec (w : World) (D : Dv) (hD : Stays [] w (dvm D)) (hv : D.Ok) : Calls Try.prog 61 #[dvv D] w (fun e w' => ∃ i : Option Addr × Nat, True ∧ e = .returned (nfv ⟨D.L, D.fin.length, 1#64 <<< D.da.s, finW D.da D.fin.length, i.1, i.2, edA D.da D.fin.length⟩) ∧ Post [] [.row 129 3 (.slice i.1 (edA D.da D.fin.length).length i.2) (edA D.da D.fin.length).length ((edA D.da D.fin.length).flatMap edv)] w w') := by
 have hfs : 0 < D.fin.length → D.fa.isSome = true := fun h => hD.now.1.isSome (j := 0) (by rw [List.length_map]; exact h)
 have hns : 0 < D.rs.length → D.na.isSome = true := fun h => hD.now.2.1.isSome (j := 0) (by rw [List.length_map]; exact h)
 have hrs : ∀ q, q < D.rs.length → 0 < (D.rs.getD q rw0).xs.length → (D.rs.getD q rw0).a.isSome = true := fun q hq h => (hD.now.2.2 _ (getDm hq)).isSome (j := 0) (by rw [List.length_map]; exact h)
 have hmv := hv.may
 have hn := hv.n
 have hlen := hv.len
 have hst := hv.st
 have hLe := hv.L_eq
 have hL6 : D.da.L ≤ 6 := by omega
 have hsn : D.da.s < D.fin.length := hv.daOk.st
 have hmul : ∀ q, q ≤ D.fin.length → q * D.da.L ≤ 180000 := fun q hq => Nat.le_trans (Nat.mul_le_mul (Nat.le_trans hq hn) hL6) (by decide)
 refine enter (args := [dvv D]) [] 56 Try.func61 rfl rfl rfl ?_
 refine CT.seq ?_
 refine CT.region ?_
 refine Wl.g rfl rfl (OpG.box (size := 4) rfl rfl rfl) ?_
 rintro b1 _
 refine Wl.g rfl rfl (OpG.alloc (zs := [.int .i64 0, .int .i64 0, .int .u64 0, .int .u64 0, .slice none 0 0]) AH_in107 rfl rfl) ?_
 rintro b2 _
 refine Wl.nil ?_
 refine PX.then_n ?_
 refine CT.cut (ι := Nat) (Φ := fun _ => True) (E' := fun b3 => [(1, .pointer (some ⟨b1, 0, none⟩)), (2, .pointer (some ⟨b2, 0, none⟩)), (3, .pointer (some ⟨b3, 0, none⟩))]) (H' := fun b3 => [.row 107 5 (vb b3) 1 [.int .i64 D.L, .int .i64 ((D.fin.length : Nat) : Int), u (1#64 <<< D.da.s), .int .u64 0, .slice none 0 0], .row 107 5 (vb b2) 1 [.int .i64 0, .int .i64 0, .int .u64 0, .int .u64 0, .slice none 0 0], .row 52 4 (vb b1) 1 (dvc D)]) (fun K0 hK0 => ?_) (fun b3 _ => ?_)
 ·
  refine CT.draw 10 AH_mixed ?_
  refine RA.q 0 (by kernel_rfl) rfl rfl rfl (.refl _) (OpQ.fieldAddr AH_fa52_0 rfl) ?_
  refine RA.q 1 (by kernel_rfl) rfl rfl rfl (.refl _) (OpQ.loadF (b := b1) AH_sc3 rfl (by repeat (first | exact Has.here | apply Has.there)) (by rfl)) ?_
  refine RA.q 2 (by kernel_rfl) rfl rfl rfl (.refl _) (OpQ.fieldAddr AH_fa52_2 rfl) ?_
  refine RA.q 3 (by kernel_rfl) rfl rfl rfl (.refl _) (OpQ.loadF (b := b1) AH_sc49 rfl (by repeat (first | exact Has.here | apply Has.there)) (by rfl)) ?_
  refine RA.q 4 (by kernel_rfl) rfl rfl rfl (.refl _) (OpQ.len AH_un49 rfl) ?_
  refine RA.q 5 (by kernel_rfl) rfl rfl rfl (.refl _) (OpQ.fieldAddr AH_fa52_1 rfl) ?_
  refine RA.q 6 (by kernel_rfl) rfl rfl rfl (.refl _) (OpQ.loadF (b := b1) AH_sc3 rfl (by repeat (first | exact Has.here | apply Has.there)) (by rfl)) ?_
  refine RA.know 13 (v' := .int .i64 ((D.da.s : Nat) : Int)) rfl (congrArg (Value.int .i64) hv.s_eq) ?_
  refine RA.two 7 9 (by kernel_rfl) rfl rfl rfl (OpG.callV AH_go74 rfl (fun w hH => bit_spec w D.da.s (by omega))) (fun _ _ => (.refl _)) rfl rfl rfl (OpG.alloc (zs := [.int .i64 0, .int .i64 0, .int .u64 0, .int .u64 0, .slice none 0 0]) AH_in107 rfl rfl) (fun _ _ => (.cons _ (.refl _))) ?_ ?_
  ·
   rintro _ _
   refine RA.q 8 (by kernel_rfl) rfl rfl rfl (.refl _) (OpQ.build (cells := #[_, _, _, .int .u64 0, .slice none 0 0]) AH_pl107 rfl rfl) ?_
   refine RA.f 9 (by kernel_rfl) rfl rfl rfl (OpG.alloc (zs := [.int .i64 0, .int .i64 0, .int .u64 0, .int .u64 0, .slice none 0 0]) AH_in107 rfl rfl) (fun _ _ => (.cons _ (.refl _))) ?_
   rintro b3 _
   refine RA.tail ?_
   refine RT.f 10 (by kernel_rfl) rfl rfl rfl (OpG.storeV (b := b3) AH_sz107 rfl rfl rfl rfl (by repeat (first | exact Upd.here | apply Upd.there))) ?_
   rintro _ _
   refine RT.done (by kernel_rfl) ?_
   exact PX.cut hK0 b3 trivial ⟨rfl, rfl, rfl, trivial⟩ (HSub.refl _)
  ·
   rintro b3 _
   refine RA.f 7 (by kernel_rfl) rfl rfl rfl (OpG.callV AH_go74 rfl (fun w hH => bit_spec w D.da.s (by omega))) (fun _ _ => (.cons _ (.refl _))) ?_
   rintro _ _
   refine RA.q 8 (by kernel_rfl) rfl rfl rfl (.cons _ (.refl _)) (OpQ.build (cells := #[_, _, _, .int .u64 0, .slice none 0 0]) AH_pl107 rfl rfl) ?_
   refine RA.tail ?_
   refine RT.f 10 (by kernel_rfl) rfl rfl rfl (OpG.storeV (b := b3) AH_sz107 rfl rfl rfl rfl (by repeat (first | exact Upd.here | apply Upd.there))) ?_
   rintro _ _
   refine RT.done (by kernel_rfl) ?_
   exact PX.cut hK0 b3 trivial ⟨rfl, rfl, rfl, trivial⟩ (HSub.refl _)
 ·
  refine CT.seq ?_
  refine CT.seq ?_
  refine CT.region ?_
  refine Wl.q rfl rfl (OpQ.fieldAddr AH_fa52_2 rfl) ?_
  refine Wl.q rfl rfl (OpQ.loadF (b := b1) AH_sc49 rfl (by repeat (first | exact Has.here | apply Has.there)) (by rfl)) ?_
  refine Wl.q rfl rfl (OpQ.len AH_un49 rfl) ?_
  refine Wl.q rfl rfl (OpQ.move rfl) ?_
  refine Wl.nil ?_
  refine PX.then_n ?_
  refine CT.block ?_
  refine CT.nilrow 129 3 ?_
  refine CT.loop (ι := Nat × Option Addr × Nat) (fun (q, ea, ec) => q ≤ D.fin.length) (fun (q, ea, ec) => [(1, .pointer (some ⟨b1, 0, none⟩)), (2, .pointer (some ⟨b2, 0, none⟩)), (3, .pointer (some ⟨b3, 0, none⟩)), (18, .int .i64 ((D.fin.length : Nat) : Int)), (19, .int .i64 ((q : Nat) : Int))]) (fun (q, ea, ec) => [.row 129 3 (.slice ea (q * D.da.L) ec) (q * D.da.L) ((edA D.da q).flatMap edv), .row 107 5 (vb b3) 1 [.int .i64 D.L, .int .i64 ((D.fin.length : Nat) : Int), u (1#64 <<< D.da.s), u (finW D.da q), .slice ea (q * D.da.L) ec], .row 107 5 (vb b2) 1 [.int .i64 0, .int .i64 0, .int .u64 0, .int .u64 0, .slice none 0 0], .row 52 4 (vb b1) 1 (dvc D)]) (fun (q, ea, ec) => D.fin.length - q) (0, none, 0) (Nat.zero_le _) ⟨rfl, rfl, rfl, rfl, rfl, trivial⟩ (by dsimp only; rw [Nat.zero_mul]; exact HSub.refl _) (fun ⟨q, ea, ec⟩ hq K1 hK1 => ?_)
  dsimp only
  refine CT.seq ?_
  refine CT.region ?_
  refine Wl.q rfl rfl (OpQ.lss rfl rfl) ?_
  refine Wl.nil ?_
  refine PX.then_n ?_
  refine CT.seq ?_
  refine CT.cond rfl (fun h20 => ?_) (fun h20 => ?_)
  ·
   have h20 := of_decide_eq_true h20
   have hql : q < D.fin.length := by omega
   have hrw := (hv.row q hql).1
   have hm1 := hmul q hq
   refine CT.skip ?_
   refine PX.then_n ?_
   refine CT.seq ?_
   refine CT.block ?_
   refine CT.seq ?_
   refine CT.region ?_
   refine Wl.q rfl rfl (OpQ.move rfl) ?_
   refine Wl.q rfl rfl (OpQ.assign rfl) ?_
   refine Wl.nil ?_
   refine PX.then_n ?_
   refine CT.cut (ι := Unit) (Φ := fun _ => True) (E' := fun _ => [(1, .pointer (some ⟨b1, 0, none⟩)), (2, .pointer (some ⟨b2, 0, none⟩)), (3, .pointer (some ⟨b3, 0, none⟩)), (18, .int .i64 ((D.fin.length : Nat) : Int)), (19, .int .i64 ((q : Nat) : Int)), (4, .int .i64 ((q : Nat) : Int))]) (H' := fun _ => [.row 129 3 (.slice ea (q * D.da.L) ec) (q * D.da.L) ((edA D.da q).flatMap edv), .row 107 5 (vb b3) 1 [.int .i64 D.L, .int .i64 ((D.fin.length : Nat) : Int), u (1#64 <<< D.da.s), u (finW D.da (q + 1)), .slice ea (q * D.da.L) ec], .row 107 5 (vb b2) 1 [.int .i64 0, .int .i64 0, .int .u64 0, .int .u64 0, .slice none 0 0], .row 52 4 (vb b1) 1 (dvc D)]) (fun K2 hK2 => ?_) (fun _ _ => ?_)
   ·
    refine CT.seq ?_
    refine CT.region ?_
    refine Wl.q rfl rfl (OpQ.fieldAddr AH_fa52_2 rfl) ?_
    refine Wl.q rfl rfl (OpQ.loadF (b := b1) AH_sc49 rfl (by repeat (first | exact Has.here | apply Has.there)) (by rfl)) ?_
    refine Wl.q rfl rfl (OpQ.move rfl) ?_
    refine Wl.q rfl rfl (OpQ.index1 AH_un49 AH_sz4 rfl rfl (by omega) (hfs (by omega))) ?_
    refine Wl.q rfl rfl (OpQ.loadG AH_sc4 rfl (fun w hH => (hH.use hD).1) (getMap bo D.fin false (j := q) (by omega))) ?_
    refine Wl.know 26 (v' := .bool (D.da.fi q)) rfl rfl ?_
    refine Wl.nil ?_
    refine PX.then_n ?_
    refine CT.cond rfl (fun h26 => ?_) (fun h26 => ?_)
    ·
     refine CT.draw 6 AH_mixed ?_
     refine RA.q 0 (by kernel_rfl) rfl rfl rfl (.refl _) (OpQ.fieldAddr AH_fa107_3 rfl) ?_
     refine RA.q 1 (by kernel_rfl) rfl rfl rfl (.refl _) (OpQ.loadF (b := b3) AH_sc77 rfl (by repeat (first | exact Has.here | apply Has.there)) (by rfl)) ?_
     refine RA.q 2 (by kernel_rfl) rfl rfl rfl (.refl _) (OpQ.move rfl) ?_
     refine RA.f 3 (by kernel_rfl) rfl rfl rfl (OpG.callV AH_go74 rfl (fun w hH => bit_spec w q (by omega))) (fun _ _ => (.refl _)) ?_
     rintro _ _
     refine RA.q 4 (by kernel_rfl) rfl rfl rfl (.refl _) (OpQ.uor rfl rfl) ?_
     refine RA.q 5 (by kernel_rfl) rfl rfl rfl (.refl _) (OpQ.fieldAddr AH_fa107_3 rfl) ?_
     refine RA.tail ?_
     refine RT.f 6 (by kernel_rfl) rfl rfl rfl (OpG.storeRow (a := some ⟨b3, 0, none⟩) AH_sz77 rfl rfl rfl (by repeat (first | exact Upd.here | apply Upd.there)) (by simp)) ?_
     rintro _ _
     refine RT.done (by kernel_rfl) ?_
     exact PX.cut hK2 () trivial ⟨rfl, rfl, rfl, rfl, rfl, rfl, trivial⟩ (.keep rfl (by rw [finW_s, if_pos h26]; exact HSub.refl _))
    ·
     refine CT.skip ?_
     exact PX.cut hK2 () trivial ⟨rfl, rfl, rfl, rfl, rfl, rfl, trivial⟩ (.keep rfl (by rw [finW_s, if_neg (by rw [h26]; decide)]; exact HSub.refl _))
   ·
    refine CT.seq ?_
    refine CT.region ?_
    refine Wl.q rfl rfl (OpQ.fieldAddr AH_fa52_3 rfl) ?_
    refine Wl.q rfl rfl (OpQ.loadF (b := b1) AH_sc50 rfl (by repeat (first | exact Has.here | apply Has.there)) (by rfl)) ?_
    refine Wl.q rfl rfl (OpQ.move rfl) ?_
    refine Wl.q rfl rfl (OpQ.index1 AH_un50 AH_sz25 rfl rfl (by omega) (hns (by omega))) ?_
    refine Wl.q rfl rfl (OpQ.loadG AH_sc25 rfl (fun w hH => (hH.use hD).2.1) (getMap rv D.rs rw0 (j := q) (by omega))) ?_
    refine Wl.q rfl rfl (OpQ.len AH_un25 rfl) ?_
    refine Wl.know 38 (v' := .int .i64 ((D.da.L : Nat) : Int)) rfl (congrArg (Value.int .i64) (by omega)) ?_
    refine Wl.q rfl rfl (OpQ.move rfl) ?_
    refine Wl.nil ?_
    refine PX.then_n ?_
    refine CT.block ?_
    refine CT.loop (ι := Nat × Option Addr × Nat) (fun (x, ea, ec) => x ≤ D.da.L) (fun (x, ea, ec) => [(1, .pointer (some ⟨b1, 0, none⟩)), (2, .pointer (some ⟨b2, 0, none⟩)), (3, .pointer (some ⟨b3, 0, none⟩)), (18, .int .i64 ((D.fin.length : Nat) : Int)), (19, .int .i64 ((q : Nat) : Int)), (4, .int .i64 ((q : Nat) : Int)), (37, rv (D.rs.getD q rw0)), (38, .int .i64 ((D.da.L : Nat) : Int)), (39, .int .i64 ((x : Nat) : Int))]) (fun (x, ea, ec) => [.row 129 3 (.slice ea (q * D.da.L + x) ec) (q * D.da.L + x) ((edA D.da q ++ edL D.da q x).flatMap edv), .row 107 5 (vb b3) 1 [.int .i64 D.L, .int .i64 ((D.fin.length : Nat) : Int), u (1#64 <<< D.da.s), u (finW D.da (q + 1)), .slice ea (q * D.da.L + x) ec], .row 107 5 (vb b2) 1 [.int .i64 0, .int .i64 0, .int .u64 0, .int .u64 0, .slice none 0 0], .row 52 4 (vb b1) 1 (dvc D)]) (fun (x, ea, ec) => D.da.L - x) (0, ea, ec) (Nat.zero_le _) ⟨rfl, rfl, rfl, rfl, rfl, rfl, rfl, rfl, rfl, trivial⟩ (by dsimp only; rw [show edL D.da q 0 = [] from rfl, List.append_nil, Nat.add_zero]; exact HSub.refl _) (fun ⟨x, ea, ec⟩ hx K3 hK3 => ?_)
    dsimp only
    refine CT.seq ?_
    refine CT.region ?_
    refine Wl.q rfl rfl (OpQ.lss rfl rfl) ?_
    refine Wl.nil ?_
    refine PX.then_n ?_
    refine CT.seq ?_
    refine CT.cond rfl (fun h40 => ?_) (fun h40 => ?_)
    ·
     have h40 := of_decide_eq_true h40
     have hxl : x < D.da.L := by omega
     have hto := hv.to (x := x) hql (by omega)
     refine CT.skip ?_
     refine PX.then_n ?_
     refine CT.seq ?_
     refine CT.block ?_
     refine CT.seq ?_
     refine CT.region ?_
     refine Wl.q rfl rfl (OpQ.move rfl) ?_
     refine Wl.q rfl rfl (OpQ.index1 AH_un25 AH_sz3 rfl rfl (by omega) (hrs q (by omega) (by omega))) ?_
     refine Wl.q rfl rfl (OpQ.loadG AH_sc3 rfl (fun w hH => (hH.use hD).2.2 _ (getDm (show q < D.rs.length by omega))) (getMap zz (D.rs.getD q rw0).xs 0 (j := x) (by omega))) ?_
     refine Wl.know 43 (v' := .int .i64 ((D.da.to q x : Nat) : Int)) rfl (congrArg (Value.int .i64) hto) ?_
     refine Wl.q rfl rfl (OpQ.assign rfl) ?_
     refine Wl.q rfl rfl (OpQ.assign rfl) ?_
     refine Wl.nil ?_
     refine PX.then_n ?_
     refine CT.region ?_
     refine Wl.q rfl rfl (OpQ.fieldAddr AH_fa107_4 rfl) ?_
     refine Wl.q rfl rfl (OpQ.loadF (b := b3) AH_sc105 rfl (by repeat (first | exact Has.here | apply Has.there)) (by rfl)) ?_
     refine Wl.q rfl rfl (OpQ.move rfl) ?_
     refine Wl.q rfl rfl (OpQ.move rfl) ?_
     refine Wl.q rfl rfl (OpQ.move rfl) ?_
     refine Wl.q rfl rfl (OpQ.build (cells := #[_, _, _]) AH_pl129 rfl rfl) ?_
     refine Wl.g rfl rfl (OpG.litS1 AH_un105 AH_in129 rfl (by decide) rfl) ?_
     rintro b50 _
     refine Wl.g rfl rfl (OpG.append AH_un105 AH_in129 (by rfl) (by decide) rfl rfl (p := 1) rfl (fun w hH => hH.rd .here) ⟨rfl, ed_one [(⟨(q : Int), (x : Int), ((D.da.to q x : Nat) : Int)⟩ : Ed)], by omega, by omega⟩ (nm := (q * D.da.L + x + 1)) rfl (all := (edA D.da q ++ edL D.da q (x + 1)).flatMap edv) (by rw [edL_s, ← List.append_assoc]; exact (List.flatMap_append ..).symm)) ?_
     rintro ⟨a51, c51⟩ h51
     refine Wl.q rfl rfl (OpQ.fieldAddr AH_fa107_4 rfl) ?_
     refine Wl.g rfl rfl (OpG.storeRow (a := some ⟨b3, 0, none⟩) AH_sz105 rfl rfl rfl (by repeat (first | exact Upd.here | apply Upd.there)) (by simp)) ?_
     rintro _ _
     refine Wl.nil ?_
     refine PX.block_n ?_
     refine PX.then_n ?_
     refine CT.region ?_
     refine Wl.q rfl rfl (OpQ.add rfl rfl (by omega)) ?_
     refine Wl.q rfl rfl (OpQ.move rfl) ?_
     refine Wl.nil ?_
     refine PX.as (fun _ h => h.take (.cons (.there .here) (.cons (.there .here) (.cons (.there .here) (.cons (.there .here) .nil))))) ?_
     exact PX.loop hK3 (x + 1, a51, c51) (by omega) (show D.da.L - (x + 1) < D.da.L - x by omega) ⟨rfl, rfl, rfl, rfl, rfl, rfl, rfl, rfl, rfl, trivial⟩ (HSub.refl _)
    ·
     have h40 := of_decide_eq_false h40
     obtain rfl : x = D.da.L := by omega
     refine CT.exit ?_
     refine PX.then_x ?_
     refine PX.then_x ?_
     refine PX.block_x ?_
     refine PX.block_n ?_
     refine PX.then_n ?_
     refine CT.region ?_
     refine Wl.q rfl rfl (OpQ.add rfl rfl (by omega)) ?_
     refine Wl.q rfl rfl (OpQ.move rfl) ?_
     refine Wl.nil ?_
     exact PX.loop hK1 (q + 1, ea, ec) (by omega) (show D.fin.length - (q + 1) < D.fin.length - q by omega) ⟨rfl, rfl, rfl, rfl, rfl, trivial⟩ (by dsimp only; rw [edA_s, Nat.add_mul, Nat.one_mul]; exact HSub.refl _)
  ·
   have h20 := of_decide_eq_false h20
   obtain rfl : q = D.fin.length := by omega
   refine CT.exit ?_
   refine PX.then_x ?_
   refine PX.then_x ?_
   refine PX.block_x ?_
   refine PX.then_n ?_
   refine CT.seq ?_
   refine CT.region ?_
   refine Wl.q rfl rfl (OpQ.loadV (b := b3) AH_ag107 AH_sz107 rfl (by repeat (first | exact Has.here | apply Has.there)) (by rfl)) ?_
   refine Wl.g rfl rfl (OpG.storeV (b := b2) AH_sz107 rfl rfl rfl rfl (by repeat (first | exact Upd.here | apply Upd.there))) ?_
   rintro _ _
   refine Wl.nil ?_
   refine PX.then_n ?_
   refine CT.ret ?_
   refine PX.retC rfl rfl (by repeat (first | exact Has.here | apply Has.there)) AH_ag107 AH_sz107 (by rfl) (fun w' hH => ?_)
   exact ⟨(ea, ec), trivial, by show _ = Ending.returned (.agg #[.int .i64 D.L, .int .i64 ((D.fin.length : Nat) : Int), u (1#64 <<< D.da.s), u (finW D.da D.fin.length), .slice ea (edA D.da D.fin.length).length ec]); rw [edA_len], (hH.take (.cons .here .nil)).post.conv (by rw [edA_len]; exact HSub.refl _)⟩

theorem AH_mkW : MapKey Try.prog 77 (fun y : W64 => u y) := MapKey.w64 (by kernel_rfl)
theorem AH_in25 : (Try.prog.info? 25).map (fun i => (i.zero, i.size, i.bytes)) = some (some (.slice none 0 0), 1, 24) := by kernel_rfl
theorem AH_in4 : (Try.prog.info? 4).map (fun i => (i.zero, i.size, i.bytes)) = some (some (.bool false), 1, 1) := by kernel_rfl
theorem AH_in52 : (Try.prog.info? 52).map (fun i => (i.zero, i.size, i.bytes)) = some (some (.agg #[.int .i64 0, .int .i64 0, .slice none 0 0, .slice none 0 0]), 4, 64) := by kernel_rfl
theorem AH_go80 : isGo Try.prog 80 = true := by kernel_rfl
theorem AH_fa107_2 : fieldB Try.prog 107 2 = some 2 := by kernel_rfl
theorem AH_un131 : Try.prog.underlying 131 = some (.slice 77) := by kernel_rfl
theorem AH_in77 : (Try.prog.info? 77).map (fun i => (i.zero, i.size, i.bytes)) = some (some (.int .u64 0), 1, 8) := by kernel_rfl
theorem AH_un138 : Try.prog.underlying 138 = some (.map 77 3) := by kernel_rfl
theorem AH_fa107_0 : fieldB Try.prog 107 0 = some 0 := by kernel_rfl
theorem AH_pl52 : placesB Try.prog 52 = some (#[.int .i64 0, .int .i64 0, .slice none 0 0, .slice none 0 0], [(0, 1), (1, 1), (2, 1), (3, 1)]) := by kernel_rfl
theorem AH_sz52 : sizeB Try.prog 52 = some 4 := by kernel_rfl
theorem AH_go81 : isGo Try.prog 81 = true := by kernel_rfl
theorem AH_in3 : (Try.prog.info? 3).map (fun i => (i.zero, i.size, i.bytes)) = some (some (.int .i64 0), 1, 8) := by kernel_rfl
theorem AH_ag52 : isAggB Try.prog 52 = some true := by kernel_rfl
theorem AH_sz50 : sizeB Try.prog 50 = some 1 := by kernel_rfl
theorem AH_sz49 : sizeB Try.prog 49 = some 1 := by kernel_rfl
set_option maxRecDepth 100000 in
/-- semigroup/semigroupref07.Subset -/
theorem subset_spec (w : World) (N : Nv) (hN : Stays [] w (nfm N)) (hv : EdIn N) (hs : Srt N.es) : Calls Try.prog 76 #[nfv N] w (fun e w' => ∃ i : Dv × List Nat × Option Addr × Nat × Nat × Int, (i.2.2.2.2.2 = 0 → ∃ K, Done (stp N.es) N.L.toNat N.st K ∧ i.1.Is (autoD (stp N.es) N.L.toNat N.st K (edS N.es N.fi).fin) ∧ (bfs (stp N.es) N.L.toNat N.st K).length ≤ 512) ∧ e = .returned (.tuple #[dvv i.1, .slice i.2.2.1 i.2.2.2.2.1 i.2.2.2.1, .int .i64 i.2.2.2.2.2]) ∧ Post [] [.frag i.2.1 (dvm i.1)] w w') := by
 have hmv := hv.may
 have hL1 : 0 < N.L.toNat := by omega
 have hLe : N.L = ((N.L.toNat : Nat) : Int) := by omega
 refine enter (args := [nfv N]) [] 96 Try.func76 rfl rfl rfl ?_
 refine CT.seq ?_
 refine CT.region ?_
 refine Wl.g rfl rfl (OpG.box (size := 5) rfl rfl rfl) ?_
 rintro b1 _
 refine Wl.g rfl rfl (OpG.alloc (zs := [.int .i64 0, .int .i64 0, .slice none 0 0, .slice none 0 0]) AH_in52 rfl rfl) ?_
 rintro b2 _
 refine Wl.q rfl rfl (OpQ.assign rfl) ?_
 refine Wl.q rfl rfl (OpQ.assign rfl) ?_
 refine Wl.nil ?_
 refine PX.then_n ?_
 refine CT.seq ?_
 refine CT.seq ?_
 refine CT.region ?_
 refine Wl.q rfl rfl (OpQ.loadV (b := b1) AH_ag107 AH_sz107 rfl (by repeat (first | exact Has.here | apply Has.there)) (by rfl)) ?_
 refine Wl.g rfl rfl (OpG.callV AH_go80 rfl (fun w hH => nvalid_spec w N (hH.stays0 hN) hv hs)) ?_
 rintro _ _
 refine Wl.q rfl rfl (OpQ.assign rfl) ?_
 refine Wl.nil ?_
 refine PX.then_n ?_
 refine CT.seq ?_
 refine CT.region ?_
 refine Wl.q rfl rfl (OpQ.move rfl) ?_
 refine Wl.q rfl rfl (OpQ.neq rfl rfl) ?_
 refine Wl.know 18 (v' := .bool false) rfl (congrArg Value.bool (by decide)) ?_
 refine Wl.nil ?_
 refine PX.then_n ?_
 refine CT.condF rfl ?_
 refine CT.skip ?_
 refine PX.then_n ?_
 refine CT.seq ?_
 refine CT.region ?_
 refine Wl.q rfl rfl (OpQ.fieldAddr AH_fa107_2 rfl) ?_
 refine Wl.q rfl rfl (OpQ.loadF (b := b1) AH_sc77 rfl (by repeat (first | exact Has.here | apply Has.there)) (by rfl)) ?_
 refine Wl.g rfl rfl (OpG.lit1 AH_un131 AH_in77 rfl rfl rfl) ?_
 rintro b23 _
 refine Wl.q rfl rfl (OpQ.assign rfl) ?_
 refine Wl.nil ?_
 refine PX.then_n ?_
 refine CT.seq ?_
 refine CT.region ?_
 refine Wl.g rfl rfl (OpG.makeMap (f := (fun y : W64 => u y))) ?_
 rintro b24 _
 refine Wl.q rfl rfl (OpQ.fieldAddr AH_fa107_2 rfl) ?_
 refine Wl.q rfl rfl (OpQ.loadF (b := b1) AH_sc77 rfl (by repeat (first | exact Has.here | apply Has.there)) (by rfl)) ?_
 refine Wl.g rfl rfl (OpG.insNew (f := (fun y : W64 => u y)) (x := N.st) (l := []) AH_mkW AH_un138 rfl rfl rfl rfl (by repeat (first | exact Upd.here | apply Upd.there))) ?_
 rintro _ _
 refine Wl.q rfl rfl (OpQ.move rfl) ?_
 refine Wl.q rfl rfl (OpQ.assign rfl) ?_
 refine Wl.nil ?_
 refine PX.then_n ?_
 refine CT.seq ?_
 refine CT.region ?_
 refine Wl.q rfl rfl (OpQ.fieldAddr AH_fa107_0 rfl) ?_
 refine Wl.q rfl rfl (OpQ.loadF (b := b1) AH_sc3 rfl (by repeat (first | exact Has.here | apply Has.there)) (by rfl)) ?_
 refine Wl.q rfl rfl (OpQ.build (cells := #[_, .int .i64 0, .slice none 0 0, .slice none 0 0]) AH_pl52 rfl rfl) ?_
 refine Wl.g rfl rfl (OpG.alloc (zs := [.int .i64 0, .int .i64 0, .slice none 0 0, .slice none 0 0]) AH_in52 rfl rfl) ?_
 rintro b8 _
 refine Wl.g rfl rfl (OpG.storeV (b := b8) AH_sz52 rfl rfl rfl rfl (by repeat (first | exact Upd.here | apply Upd.there))) ?_
 rintro _ _
 refine Wl.nil ?_
 refine PX.then_n ?_
 refine CT.seq ?_
 refine CT.seq ?_
 refine CT.region ?_
 refine Wl.q rfl rfl (OpQ.assign rfl) ?_
 refine Wl.nil ?_
 refine PX.then_n ?_
 refine CT.block ?_
 refine CT.nilrow 4 1 ?_
 refine CT.nilrow 25 1 ?_
 refine CT.as (fun _ h => h.bind0 (p := rws []) (rws_nil)) ?_
 refine CT.as (fun _ h => h.take (.cons .here (.cons (.there .here) (.cons .here (.cons .here (.cons (.there .here) (.cons .here (.cons .here (.cons .here .nil))))))))) ?_
 refine CT.loop (ι := Nat × Option Addr × Nat × Option Addr × Nat × List Bool × Option Addr × Nat × List Rw × List Nat) (fun (i, a', c', fa', fc', fl, na', nc', rs, bs) => Going (stp N.es) N.L.toNat N.st (i * N.L.toNat) ∧ i ≤ (bfs (stp N.es) N.L.toNat N.st (i * N.L.toNat)).length ∧ fl = ((bfs (stp N.es) N.L.toNat N.st (i * N.L.toNat)).take i).map (edS N.es N.fi).fin ∧ XRows (stp N.es) N.L.toNat N.st (bfs (stp N.es) N.L.toNat N.st (i * N.L.toNat)) i (rs.map (·.xs)) ∧ (bfs (stp N.es) N.L.toNat N.st (i * N.L.toNat)).length ≤ 512) (fun (i, a', c', fa', fc', fl, na', nc', rs, bs) => [(1, .pointer (some ⟨b1, 0, none⟩)), (2, .pointer (some ⟨b2, 0, none⟩)), (6, .slice a' (bfs (stp N.es) N.L.toNat N.st (i * N.L.toNat)).length c'), (7, .map (some b24)), (8, .pointer (some ⟨b8, 0, none⟩)), (9, .int .i64 ((i : Nat) : Int))]) (fun (i, a', c', fa', fc', fl, na', nc', rs, bs) => [.frag bs (rws rs), .row 4 1 (.slice fa' i fc') i (fl.map bo), .row 25 1 (.slice na' i nc') i (rs.map rv), .row 52 4 (vb b8) 1 [.int .i64 N.L, .int .i64 0, .slice fa' i fc', .slice na' i nc'], .row 77 1 (.slice a' (bfs (stp N.es) N.L.toNat N.st (i * N.L.toNat)).length c') (bfs (stp N.es) N.L.toNat N.st (i * N.L.toNat)).length ((bfs (stp N.es) N.L.toNat N.st (i * N.L.toNat)).map (fun y : W64 => u y)), .blk b24 (mapO (fun y : W64 => u y) (itA 0 (bfs (stp N.es) N.L.toNat N.st (i * N.L.toNat)))), .row 52 4 (vb b2) 1 [.int .i64 0, .int .i64 0, .slice none 0 0, .slice none 0 0], .row 107 5 (vb b1) 1 (nfc N)]) (fun (i, a', c', fa', fc', fl, na', nc', rs, bs) => 512 - i) (0, some ⟨b23, 0, none⟩, 1, none, 0, [], none, 0, [], []) ⟨by rw [Nat.zero_mul]; exact Going.zero, Nat.zero_le _, rfl, XRows.start _, by rw [Nat.zero_mul]; exact Nat.succ_le_succ (Nat.zero_le _)⟩ ⟨rfl, rfl, (lkV rfl (by rw [Nat.zero_mul]; rfl)), rfl, rfl, rfl, trivial⟩ (by dsimp only; rw [Nat.zero_mul]; exact HSub.refl _) (fun ⟨i, a', c', fa', fc', fl, na', nc', rs, bs⟩ ⟨hg, hi, hfl, hrows, h512⟩ K0 hK0 => ?_)
 dsimp only
 refine CT.fact (p := a'.isSome = true) (fun w hH => (hH.rd (.there (.there (.there (.there .here))))).isSome (j := 0) (by rw [List.length_map]; exact bfs_pos _)) (fun hia => ?_)
 have hfll : fl.length = i := by rw [hfl, List.length_map, List.length_take, Nat.min_eq_left hi]
 have hrll : rs.length = i := by have := hrows.len; rwa [List.length_map] at this
 refine CT.seq ?_
 refine CT.seq ?_
 refine CT.region ?_
 refine Wl.q rfl rfl (OpQ.move rfl) ?_
 refine Wl.q rfl rfl (OpQ.move rfl) ?_
 refine Wl.q rfl rfl (OpQ.len AH_un131 rfl) ?_
 refine Wl.q rfl rfl (OpQ.lss rfl rfl) ?_
 refine Wl.nil ?_
 refine PX.then_n ?_
 refine CT.cond rfl (fun h34 => ?_) (fun h34 => ?_)
 ·
  have h34 := of_decide_eq_true h34
  have hlt : i < (bfs (stp N.es) N.L.toNat N.st (i * N.L.toNat)).length := by omega
  refine CT.skip ?_
  refine PX.then_n ?_
  refine CT.seq ?_
  refine CT.block ?_
  refine CT.seq ?_
  refine CT.region ?_
  refine Wl.q rfl rfl (OpQ.assign rfl) ?_
  refine Wl.nil ?_
  refine PX.then_n ?_
  refine CT.seq ?_
  refine CT.seq ?_
  refine CT.region ?_
  refine Wl.q rfl rfl (OpQ.assign rfl) ?_
  refine Wl.nil ?_
  refine PX.then_n ?_
  refine CT.block ?_
  refine CT.nilrow 3 1 ?_
  refine CT.loop (ι := Nat × Option Addr × Nat × Option Addr × Nat) (fun (x, a', c', ra, rc) => x ≤ N.L.toNat ∧ (bfs (stp N.es) N.L.toNat N.st (i * N.L.toNat + x)).length ≤ 512) (fun (x, a', c', ra, rc) => [(1, .pointer (some ⟨b1, 0, none⟩)), (2, .pointer (some ⟨b2, 0, none⟩)), (6, .slice a' (bfs (stp N.es) N.L.toNat N.st (i * N.L.toNat + x)).length c'), (7, .map (some b24)), (8, .pointer (some ⟨b8, 0, none⟩)), (9, .int .i64 ((i : Nat) : Int)), (10, .slice ra x rc), (11, .int .i64 ((x : Nat) : Int))]) (fun (x, a', c', ra, rc) => [.row 3 1 (.slice ra x rc) (x) ((rowG (stp N.es) (bfs (stp N.es) N.L.toNat N.st (i * N.L.toNat + x)) ((bfs (stp N.es) N.L.toNat N.st (i * N.L.toNat)).getD i N.st) (x)).map zz), .frag bs (rws rs), .row 4 1 (.slice fa' i fc') i (fl.map bo), .row 25 1 (.slice na' i nc') i (rs.map rv), .row 52 4 (vb b8) 1 [.int .i64 N.L, .int .i64 0, .slice fa' i fc', .slice na' i nc'], .row 77 1 (.slice a' (bfs (stp N.es) N.L.toNat N.st (i * N.L.toNat + x)).length c') (bfs (stp N.es) N.L.toNat N.st (i * N.L.toNat + x)).length ((bfs (stp N.es) N.L.toNat N.st (i * N.L.toNat + x)).map (fun y : W64 => u y)), .blk b24 (mapO (fun y : W64 => u y) (itA 0 (bfs (stp N.es) N.L.toNat N.st (i * N.L.toNat + x)))), .row 52 4 (vb b2) 1 [.int .i64 0, .int .i64 0, .slice none 0 0, .slice none 0 0], .row 107 5 (vb b1) 1 (nfc N)]) (fun (x, a', c', ra, rc) => N.L.toNat - x) (0, a', c', none, 0) ⟨Nat.zero_le _, h512⟩ ⟨rfl, rfl, rfl, rfl, rfl, rfl, rfl, rfl, trivial⟩ (HSub.refl _) (fun ⟨x, a', c', ra, rc⟩ ⟨hx, h512⟩ K1 hK1 => ?_)
  dsimp only
  refine CT.fact (p := a'.isSome = true) (fun w hH => (hH.rd (.there (.there (.there (.there (.there .here)))))).isSome (j := 0) (by rw [List.length_map]; exact bfs_pos _)) (fun hia => ?_)
  refine CT.seq ?_
  refine CT.seq ?_
  refine CT.region ?_
  refine Wl.q rfl rfl (OpQ.move rfl) ?_
  refine Wl.q rfl rfl (OpQ.fieldAddr AH_fa107_0 rfl) ?_
  refine Wl.q rfl rfl (OpQ.loadF (b := b1) AH_sc3 rfl (by repeat (first | exact Has.here | apply Has.there)) (by rfl)) ?_
  refine Wl.know 39 (v' := .int .i64 ((N.L.toNat : Nat) : Int)) rfl (congrArg (Value.int .i64) hLe) ?_
  refine Wl.q rfl rfl (OpQ.lss rfl rfl) ?_
  refine Wl.nil ?_
  refine PX.then_n ?_
  refine CT.cond rfl (fun h40 => ?_) (fun h40 => ?_)
  ·
   have h40 := of_decide_eq_true h40
   have hxl : x < N.L.toNat := by omega
   have hltx : i < (bfs (stp N.es) N.L.toNat N.st (i * N.L.toNat + x)).length := Nat.lt_of_lt_of_le hlt (bfs_le (by omega))
   have hat : (bfs (stp N.es) N.L.toNat N.st (i * N.L.toNat + x)).getD i N.st = ((bfs (stp N.es) N.L.toNat N.st (i * N.L.toNat)).getD i N.st) := bfs_get (by omega) hlt _
   refine CT.skip ?_
   refine PX.then_n ?_
   refine CT.seq ?_
   refine CT.block ?_
   refine CT.seq ?_
   refine CT.draw 8 AH_mixed ?_
   refine RA.q 0 (by kernel_rfl) rfl rfl rfl (.refl _) (OpQ.loadV (b := b1) AH_ag107 AH_sz107 rfl (by repeat (first | exact Has.here | apply Has.there)) (by rfl)) ?_
   refine RA.q 1 (by kernel_rfl) rfl rfl rfl (.refl _) (OpQ.move rfl) ?_
   refine RA.q 2 (by kernel_rfl) rfl rfl rfl (.refl _) (OpQ.move rfl) ?_
   refine RA.q 3 (by kernel_rfl) rfl rfl rfl (.refl _) (OpQ.index1 AH_un131 AH_sz77 rfl rfl (by omega) hia) ?_
   refine RA.q 4 (by kernel_rfl) rfl rfl rfl (.refl _) (OpQ.loadRow AH_sc77 rfl (.there (.there (.there (.there (.there .here))))) (getMap (fun y : W64 => u y) (bfs (stp N.es) N.L.toNat N.st (i * N.L.toNat + x)) N.st (j := i) hltx)) ?_
   refine RA.know 47 (v' := u (((bfs (stp N.es) N.L.toNat N.st (i * N.L.toNat)).getD i N.st))) rfl (congrArg u hat) ?_
   refine RA.q 5 (by kernel_rfl) rfl rfl rfl (.refl _) (OpQ.move rfl) ?_
   refine RA.f 6 (by kernel_rfl) rfl rfl rfl (OpG.callV AH_go81 rfl (fun w hH => nstep_spec w N (hH.stays0 hN) hv ((bfs (stp N.es) N.L.toNat N.st (i * N.L.toNat)).getD i N.st) x)) (fun _ _ => (.refl _)) ?_
   rintro _ _
   refine RA.q 7 (by kernel_rfl) rfl rfl rfl (.refl _) (OpQ.assign rfl) ?_
   refine RA.tail ?_
   refine RT.done (by kernel_rfl) ?_
   refine PX.then_n ?_
   refine CT.seq ?_
   refine CT.region ?_
   refine Wl.q rfl rfl (OpQ.move rfl) ?_
   refine Wl.q rfl rfl (OpQ.move rfl) ?_
   refine Wl.q rfl rfl (OpQ.lookup (f := (fun y : W64 => u y)) (x := ((stp N.es) ((bfs (stp N.es) N.L.toNat N.st (i * N.L.toNat)).getD i N.st) x)) (l := (itA 0 (bfs (stp N.es) N.L.toNat N.st (i * N.L.toNat + x)))) AH_mkW AH_un138 AH_in3 rfl rfl (by repeat (first | exact Has.here | apply Has.there)) (by rw [if_pos rfl, getA_itA, ix_val, ix_is])) ?_
   refine Wl.q rfl rfl (OpQ.move rfl) ?_
   refine Wl.q rfl rfl (OpQ.extract rfl rfl) ?_
   refine Wl.q rfl rfl (OpQ.extract rfl rfl) ?_
   refine Wl.q rfl rfl (OpQ.assign rfl) ?_
   refine Wl.q rfl rfl (OpQ.assign rfl) ?_
   refine Wl.nil ?_
   refine PX.then_n ?_
   refine CT.seq ?_
   refine CT.seq ?_
   refine CT.region ?_
   refine Wl.q rfl rfl (OpQ.move rfl) ?_
   refine Wl.q rfl rfl (OpQ.not rfl) ?_
   refine Wl.nil ?_
   refine PX.then_n ?_
   refine CT.cond rfl (fun h57 => ?_) (fun h57 => ?_)
   ·
    have hix : ixA ((stp N.es) ((bfs (stp N.es) N.L.toNat N.st (i * N.L.toNat)).getD i N.st) x) 0 (bfs (stp N.es) N.L.toNat N.st (i * N.L.toNat + x)) = none := by simpa using h57
    have hnx := ixA_none hix
    have hs2 : (bfs (stp N.es) N.L.toNat N.st (i * N.L.toNat + (x + 1))) = (bfs (stp N.es) N.L.toNat N.st (i * N.L.toNat + x)) ++ [((stp N.es) ((bfs (stp N.es) N.L.toNat N.st (i * N.L.toNat)).getD i N.st) x)] := by rw [show i * N.L.toNat + (x + 1) = i * N.L.toNat + x + 1 from rfl, bfs_addx hxl hlt, addN_out hnx]
    have hrow : (rowG (stp N.es) (bfs (stp N.es) N.L.toNat N.st (i * N.L.toNat + x)) ((bfs (stp N.es) N.L.toNat N.st (i * N.L.toNat)).getD i N.st) x).map zz ++ [.int .i64 (((bfs (stp N.es) N.L.toNat N.st (i * N.L.toNat + x)).length : Nat) : Int)] = (rowG (stp N.es) (bfs (stp N.es) N.L.toNat N.st (i * N.L.toNat + (x + 1))) ((bfs (stp N.es) N.L.toNat N.st (i * N.L.toNat)).getD i N.st) (x + 1)).map zz := by rw [← rowG_put (l := (bfs (stp N.es) N.L.toNat N.st (i * N.L.toNat + x))) (m := (bfs (stp N.es) N.L.toNat N.st (i * N.L.toNat + (x + 1)))) ⟨_, hs2⟩ (bfs_row_mem (Nat.le_of_lt hxl) hlt) (v := (((bfs (stp N.es) N.L.toNat N.st (i * N.L.toNat + x)).length : Nat) : Int)) (by rw [hs2, idxOf_out hnx]; simp), List.map_append]; rfl
    refine CT.seq ?_
    refine CT.seq ?_
    refine CT.region ?_
    refine Wl.q rfl rfl (OpQ.move rfl) ?_
    refine Wl.q rfl rfl (OpQ.len AH_un131 rfl) ?_
    refine Wl.q rfl rfl (OpQ.eql rfl rfl) ?_
    refine Wl.nil ?_
    refine PX.then_n ?_
    refine CT.cond rfl (fun h60 => ?_) (fun h60 => ?_)
    ·
     have h60 := of_decide_eq_true h60
     refine CT.seq ?_
     refine CT.region ?_
     refine Wl.q rfl rfl (OpQ.build (cells := #[.int .i64 0, .int .i64 0, .slice none 0 0, .slice none 0 0]) AH_pl52 rfl rfl) ?_
     refine Wl.g rfl rfl (OpG.storeV (b := b2) AH_sz52 rfl rfl rfl rfl (by repeat (first | exact Upd.here | apply Upd.there))) ?_
     rintro _ _
     refine Wl.q rfl rfl (OpQ.assign rfl) ?_
     refine Wl.q rfl rfl (OpQ.assign rfl) ?_
     refine Wl.nil ?_
     refine PX.then_n ?_
     refine CT.ret ?_
     refine PX.then_r ?_
     refine PX.then_r ?_
     refine PX.block_r ?_
     refine PX.then_r ?_
     refine PX.then_r ?_
     refine PX.block_r ?_
     refine PX.then_r ?_
     refine PX.block_r ?_
     refine PX.then_r ?_
     refine PX.then_r ?_
     refine PX.block_r ?_
     refine PX.then_r ?_
     refine PX.retC3 rfl rfl rfl rfl (by repeat (first | exact Has.here | apply Has.there)) AH_ag52 AH_sz52 (by rfl) (fun w' hH => ?_)
     exact ⟨(dv0, [], none, 0, 0, 3), fun h => absurd h (by decide), rfl, ((hH.bind0 (p := dvm dv0) dvm0).take (.cons .here .nil)).post⟩
    ·
     have h60 := of_decide_eq_false h60
     have hnr := 2
     clear hnr
     refine CT.skip ?_
     refine PX.then_n ?_
     refine CT.seq ?_
     refine CT.region ?_
     refine Wl.q rfl rfl (OpQ.move rfl) ?_
     refine Wl.q rfl rfl (OpQ.len AH_un131 rfl) ?_
     refine Wl.q rfl rfl (OpQ.assign rfl) ?_
     refine Wl.nil ?_
     refine PX.then_n ?_
     refine CT.seq ?_
     refine CT.region ?_
     refine Wl.q rfl rfl (OpQ.move rfl) ?_
     refine Wl.q rfl rfl (OpQ.move rfl) ?_
     refine Wl.q rfl rfl (OpQ.move rfl) ?_
     refine Wl.g rfl rfl (OpG.mapNew (f := (fun y : W64 => u y)) (x := ((stp N.es) ((bfs (stp N.es) N.L.toNat N.st (i * N.L.toNat)).getD i N.st) x)) (l := (itA 0 (bfs (stp N.es) N.L.toNat N.st (i * N.L.toNat + x)))) AH_mkW AH_un138 rfl rfl rfl (by rw [getA_itA, hix]; rfl) (by repeat (first | exact Upd.here | apply Upd.there))) ?_
     rintro _ _
     refine Wl.nil ?_
     refine PX.then_n ?_
     refine CT.region ?_
     refine Wl.q rfl rfl (OpQ.move rfl) ?_
     refine Wl.q rfl rfl (OpQ.move rfl) ?_
     refine Wl.g rfl rfl (OpG.lit1 AH_un131 AH_in77 rfl rfl rfl) ?_
     rintro b69 _
     refine Wl.g rfl rfl (OpG.append AH_un131 AH_in77 (by rfl) (by decide) rfl rfl (p := 6) rfl (fun w hH => hH.rd .here) ⟨rfl, (by simp [Value.oneCell']), (by omega), (by omega)⟩ (nm := ((bfs (stp N.es) N.L.toNat N.st (i * N.L.toNat + x)).length + 1)) rfl (all := ((bfs (stp N.es) N.L.toNat N.st (i * N.L.toNat + x)) ++ [((stp N.es) ((bfs (stp N.es) N.L.toNat N.st (i * N.L.toNat)).getD i N.st) x)]).map (fun y : W64 => u y)) (by simp)) ?_
     rintro ⟨a70, c70⟩ h70
     refine Wl.q rfl rfl (OpQ.assign rfl) ?_
     refine Wl.nil ?_
     refine PX.then_n ?_
     refine CT.region ?_
     refine Wl.q rfl rfl (OpQ.move rfl) ?_
     refine Wl.q rfl rfl (OpQ.move rfl) ?_
     refine Wl.g rfl rfl (OpG.lit1 AH_un25 AH_in3 rfl rfl rfl) ?_
     rintro b73 _
     refine Wl.g rfl rfl (OpG.append AH_un25 AH_in3 (by rfl) (by decide) rfl rfl (p := 2) rfl (fun w hH => hH.rd .here) ⟨rfl, (by simp [Value.oneCell']), (by omega), (by omega)⟩ (nm := x + 1) rfl (all := (rowG (stp N.es) (bfs (stp N.es) N.L.toNat N.st (i * N.L.toNat + (x + 1))) ((bfs (stp N.es) N.L.toNat N.st (i * N.L.toNat)).getD i N.st) (x + 1)).map zz) hrow) ?_
     rintro ⟨a74, c74⟩ h74
     refine Wl.q rfl rfl (OpQ.assign rfl) ?_
     refine Wl.nil ?_
     refine PX.block_n ?_
     refine PX.then_n ?_
     refine CT.region ?_
     refine Wl.q rfl rfl (OpQ.move rfl) ?_
     refine Wl.q rfl rfl (OpQ.add rfl rfl (by omega)) ?_
     refine Wl.q rfl rfl (OpQ.assign rfl) ?_
     refine Wl.nil ?_
     refine PX.as (fun _ h => h.take (.cons (.there (.there .here)) (.cons (.there (.there .here)) (.cons (.there (.there .here)) (.cons (.there (.there .here)) (.cons (.there (.there .here)) (.cons (.there (.there .here)) (.cons (.there (.there .here)) (.cons (.there (.there .here)) (.cons (.there (.there .here)) .nil)))))))))) ?_
     exact PX.loop hK1 (x + 1, a70, c70, a74, c74) ⟨by omega, by show (bfs _ _ _ (_ + (x + 1))).length ≤ 512; rw [hs2, List.length_append, List.length_singleton]; omega⟩ (show N.L.toNat - (x + 1) < N.L.toNat - x by omega) ⟨rfl, rfl, (lkV rfl (by rw [hs2, List.length_append]; rfl)), rfl, rfl, rfl, rfl, rfl, trivial⟩ (by dsimp only; rw [hs2, itA_snoc, List.length_append, Nat.zero_add]; exact HSub.refl _)
   ·
    have hix : ¬ ixA ((stp N.es) ((bfs (stp N.es) N.L.toNat N.st (i * N.L.toNat)).getD i N.st) x) 0 (bfs (stp N.es) N.L.toNat N.st (i * N.L.toNat + x)) = none := by intro h; rw [h] at h57; simp at h57
    obtain ⟨hx1, hx2⟩ := ix_in hix
    have hs2 : (bfs (stp N.es) N.L.toNat N.st (i * N.L.toNat + (x + 1))) = (bfs (stp N.es) N.L.toNat N.st (i * N.L.toNat + x)) := by rw [show i * N.L.toNat + (x + 1) = i * N.L.toNat + x + 1 from rfl, bfs_addx hxl hlt, hx1]
    have hrow : (rowG (stp N.es) (bfs (stp N.es) N.L.toNat N.st (i * N.L.toNat + x)) ((bfs (stp N.es) N.L.toNat N.st (i * N.L.toNat)).getD i N.st) x).map zz ++ [.int .i64 (((ixA ((stp N.es) ((bfs (stp N.es) N.L.toNat N.st (i * N.L.toNat)).getD i N.st) x) 0 (bfs (stp N.es) N.L.toNat N.st (i * N.L.toNat + x))).getD 0 : Nat) : Int)] = (rowG (stp N.es) (bfs (stp N.es) N.L.toNat N.st (i * N.L.toNat + (x + 1))) ((bfs (stp N.es) N.L.toNat N.st (i * N.L.toNat)).getD i N.st) (x + 1)).map zz := by rw [← rowG_put (l := (bfs (stp N.es) N.L.toNat N.st (i * N.L.toNat + x))) (m := (bfs (stp N.es) N.L.toNat N.st (i * N.L.toNat + (x + 1)))) ⟨[], by rw [hs2, List.append_nil]⟩ (bfs_row_mem (Nat.le_of_lt hxl) hlt) (v := (((ixA ((stp N.es) ((bfs (stp N.es) N.L.toNat N.st (i * N.L.toNat)).getD i N.st) x) 0 (bfs (stp N.es) N.L.toNat N.st (i * N.L.toNat + x))).getD 0 : Nat) : Int)) (by rw [hx2, addN_idx, hx1, hs2]), List.map_append]; rfl
    refine CT.skip ?_
    refine PX.then_n ?_
    refine CT.region ?_
    refine Wl.q rfl rfl (OpQ.move rfl) ?_
    refine Wl.q rfl rfl (OpQ.move rfl) ?_
    refine Wl.g rfl rfl (OpG.lit1 AH_un25 AH_in3 rfl rfl rfl) ?_
    rintro b73 _
    refine Wl.g rfl rfl (OpG.append AH_un25 AH_in3 (by rfl) (by decide) rfl rfl (p := 1) rfl (fun w hH => hH.rd .here) ⟨rfl, (by simp [Value.oneCell']), (by omega), (by omega)⟩ (nm := x + 1) rfl (all := (rowG (stp N.es) (bfs (stp N.es) N.L.toNat N.st (i * N.L.toNat + (x + 1))) ((bfs (stp N.es) N.L.toNat N.st (i * N.L.toNat)).getD i N.st) (x + 1)).map zz) hrow) ?_
    rintro ⟨a74, c74⟩ h74
    refine Wl.q rfl rfl (OpQ.assign rfl) ?_
    refine Wl.nil ?_
    refine PX.block_n ?_
    refine PX.then_n ?_
    refine CT.region ?_
    refine Wl.q rfl rfl (OpQ.move rfl) ?_
    refine Wl.q rfl rfl (OpQ.add rfl rfl (by omega)) ?_
    refine Wl.q rfl rfl (OpQ.assign rfl) ?_
    refine Wl.nil ?_
    refine PX.as (fun _ h => h.take (.cons (.there .here) (.cons (.there .here) (.cons (.there .here) (.cons (.there .here) (.cons (.there .here) (.cons (.there .here) (.cons (.there .here) (.cons (.there .here) (.cons (.there .here) .nil)))))))))) ?_
    exact PX.loop hK1 (x + 1, a', c', a74, c74) ⟨by omega, by show (bfs _ _ _ (_ + (x + 1))).length ≤ 512; rw [hs2]; exact h512⟩ (show N.L.toNat - (x + 1) < N.L.toNat - x by omega) ⟨rfl, rfl, (lkV rfl (by rw [hs2])), rfl, rfl, rfl, rfl, rfl, trivial⟩ (by dsimp only; rw [hs2]; exact HSub.refl _)
  ·
   have h40 := of_decide_eq_false h40
   obtain rfl : x = N.L.toNat := by omega
   have hrows2 := (hrows.grow hi (bfs_pre (i * N.L.toNat) N.L.toNat)).snoc (fun y hy => by rw [bfs_get (show i * N.L.toNat ≤ i * N.L.toNat + N.L.toNat by omega) hlt]; exact bfs_row_mem (Nat.le_refl _) hlt y hy)
   rw [bfs_get (show i * N.L.toNat ≤ i * N.L.toNat + N.L.toNat by omega) hlt] at hrows2
   have hltx : i < (bfs (stp N.es) N.L.toNat N.st (i * N.L.toNat + N.L.toNat)).length := Nat.lt_of_lt_of_le hlt (bfs_le (by omega))
   have hat : (bfs (stp N.es) N.L.toNat N.st (i * N.L.toNat + N.L.toNat)).getD i N.st = ((bfs (stp N.es) N.L.toNat N.st (i * N.L.toNat)).getD i N.st) := bfs_get (by omega) hlt _
   refine CT.exit ?_
   refine PX.then_x ?_
   refine PX.then_x ?_
   refine PX.block_x ?_
   refine PX.then_n ?_
   refine CT.draw' (Hc := [.row 52 4 (vb b8) 1 [.int .i64 N.L, .int .i64 0, .slice fa' i fc', .slice na' i nc'], .row 77 1 (.slice a' (bfs (stp N.es) N.L.toNat N.st (i * N.L.toNat + N.L.toNat)).length c') (bfs (stp N.es) N.L.toNat N.st (i * N.L.toNat + N.L.toNat)).length ((bfs (stp N.es) N.L.toNat N.st (i * N.L.toNat + N.L.toNat)).map (fun y : W64 => u y)), .row 107 5 (vb b1) 1 (nfc N)]) 18 AH_mixed ?_
   refine RA.q 0 (by kernel_rfl) rfl rfl rfl (.cons _ (.cons _ (.cons _ (.cons _ (.cons_cons _ (.cons_cons _ (.cons _ (.cons _ (.cons_cons _ (.refl _)))))))))) (OpQ.fieldAddr AH_fa52_3 rfl) ?_
   refine RA.q 1 (by kernel_rfl) rfl rfl rfl (.cons _ (.cons _ (.cons _ (.cons _ (.cons_cons _ (.cons_cons _ (.cons _ (.cons _ (.cons_cons _ (.refl _)))))))))) (OpQ.loadF (b := b8) AH_sc50 rfl (by repeat (first | exact Has.here | apply Has.there)) (by rfl)) ?_
   refine RA.q 2 (by kernel_rfl) rfl rfl rfl (.cons _ (.cons _ (.cons _ (.cons _ (.cons_cons _ (.cons_cons _ (.cons _ (.cons _ (.cons_cons _ (.refl _)))))))))) (OpQ.move rfl) ?_
   refine RA.q 5 (by kernel_rfl) rfl rfl rfl (.cons _ (.cons _ (.cons _ (.cons _ (.cons_cons _ (.cons_cons _ (.cons _ (.cons _ (.cons_cons _ (.refl _)))))))))) (OpQ.fieldAddr AH_fa52_2 rfl) ?_
   refine RA.q 6 (by kernel_rfl) rfl rfl rfl (.cons _ (.cons _ (.cons _ (.cons _ (.cons_cons _ (.cons_cons _ (.cons _ (.cons _ (.cons_cons _ (.refl _)))))))))) (OpQ.loadF (b := b8) AH_sc49 rfl (by repeat (first | exact Has.here | apply Has.there)) (by rfl)) ?_
   refine RA.q 7 (by kernel_rfl) rfl rfl rfl (.cons _ (.cons _ (.cons _ (.cons _ (.cons_cons _ (.cons_cons _ (.cons _ (.cons _ (.cons_cons _ (.refl _)))))))))) (OpQ.move rfl) ?_
   refine RA.q 8 (by kernel_rfl) rfl rfl rfl (.cons _ (.cons _ (.cons _ (.cons _ (.cons_cons _ (.cons_cons _ (.cons _ (.cons _ (.cons_cons _ (.refl _)))))))))) (OpQ.move rfl) ?_
   refine RA.q 9 (by kernel_rfl) rfl rfl rfl (.cons _ (.cons _ (.cons _ (.cons _ (.cons_cons _ (.cons_cons _ (.cons _ (.cons _ (.cons_cons _ (.refl _)))))))))) (OpQ.index1 AH_un131 AH_sz77 rfl rfl (by omega) hia) ?_
   refine RA.q 10 (by kernel_rfl) rfl rfl rfl (.cons _ (.cons _ (.cons _ (.cons _ (.cons_cons _ (.cons_cons _ (.cons _ (.cons _ (.cons_cons _ (.refl _)))))))))) (OpQ.loadRow AH_sc77 rfl (.there .here) (getMap (fun y : W64 => u y) (bfs (stp N.es) N.L.toNat N.st (i * N.L.toNat + N.L.toNat)) N.st (j := i) hltx)) ?_
   refine RA.know 85 (v' := u (((bfs (stp N.es) N.L.toNat N.st (i * N.L.toNat)).getD i N.st))) rfl (congrArg u hat) ?_
   refine RA.q 11 (by kernel_rfl) rfl rfl rfl (.cons _ (.cons _ (.cons _ (.cons _ (.cons_cons _ (.cons_cons _ (.cons _ (.cons _ (.cons_cons _ (.refl _)))))))))) (OpQ.fieldAddr AH_fa107_3 rfl) ?_
   refine RA.q 12 (by kernel_rfl) rfl rfl rfl (.cons _ (.cons _ (.cons _ (.cons _ (.cons_cons _ (.cons_cons _ (.cons _ (.cons _ (.cons_cons _ (.refl _)))))))))) (OpQ.loadF (b := b1) AH_sc77 rfl (by repeat (first | exact Has.here | apply Has.there)) (by rfl)) ?_
   refine RA.q 13 (by kernel_rfl) rfl rfl rfl (.cons _ (.cons _ (.cons _ (.cons _ (.cons_cons _ (.cons_cons _ (.cons _ (.cons _ (.cons_cons _ (.refl _)))))))))) (OpQ.uand rfl rfl) ?_
   refine RA.q 14 (by kernel_rfl) rfl rfl rfl (.cons _ (.cons _ (.cons _ (.cons _ (.cons_cons _ (.cons_cons _ (.cons _ (.cons _ (.cons_cons _ (.refl _)))))))))) (OpQ.uneq (q := 0#64) rfl rfl) ?_
   refine RA.know 89 (v' := .bool ((edS N.es N.fi).fin ((bfs (stp N.es) N.L.toNat N.st (i * N.L.toNat)).getD i N.st))) rfl rfl ?_
   refine RA.two 3 15 (by kernel_rfl) rfl rfl rfl (OpG.lit1 AH_un50 AH_in25 rfl rfl rfl) (fun _ _ => (.cons _ (.cons _ (.cons _ (.cons _ (.cons _ (.cons_cons _ (.cons_cons _ (.cons _ (.cons _ (.cons_cons _ (.refl _)))))))))))) rfl rfl rfl (OpG.lit1 AH_un49 AH_in4 rfl rfl rfl) (fun _ _ => (.cons _ (.cons _ (.cons _ (.cons _ (.cons _ (.cons_cons _ (.cons_cons _ (.cons _ (.cons _ (.cons_cons _ (.refl _)))))))))))) ?_ ?_
   ·
    rintro b78 _
    refine RA.two 4 15 (by kernel_rfl) rfl rfl rfl (OpG.append AH_un50 AH_in25 (by rfl) (by decide) rfl rfl (p := 4) rfl (fun w hH => hH.rd .here) ⟨rfl, (by simp [Value.oneCell']), (by omega), (by omega)⟩ (nm := i + 1) rfl (all := (rs ++ [(⟨ra, rc, rowG (stp N.es) (bfs (stp N.es) N.L.toNat N.st (i * N.L.toNat + N.L.toNat)) ((bfs (stp N.es) N.L.toNat N.st (i * N.L.toNat)).getD i N.st) N.L.toNat⟩ : Rw)]).map rv) (by simp [rowG_len])) (fun _ _ => (.cons _ (.cons _ (.cons _ (.cons _ (.cons _ (.cons_cons _ (.cons_cons _ (.cons _ (.cons _ (.cons_cons _ (.refl _)))))))))))) rfl rfl rfl (OpG.lit1 AH_un49 AH_in4 rfl rfl rfl) (fun _ _ => (.cons _ (.cons _ (.cons _ (.cons _ (.cons _ (.cons _ (.cons_cons _ (.cons_cons _ (.cons _ (.cons _ (.cons_cons _ (.refl _))))))))))))) ?_ ?_
    ·
     rintro ⟨a79, c79⟩ h79
     refine RA.q 17 (by kernel_rfl) rfl rfl rfl (.cons _ (.cons _ (.cons _ (.cons _ (.cons _ (.cons_cons _ (.cons_cons _ (.cons _ (.cons _ (.cons_cons _ (.refl _))))))))))) (OpQ.fieldAddr AH_fa52_3 rfl) ?_
     refine RA.f 15 (by kernel_rfl) rfl rfl rfl (OpG.lit1 AH_un49 AH_in4 rfl rfl rfl) (fun _ _ => (.cons _ (.cons _ (.cons _ (.cons _ (.cons _ (.cons _ (.cons_cons _ (.cons_cons _ (.cons _ (.cons _ (.cons_cons _ (.refl _))))))))))))) ?_
     rintro b90 _
     refine RA.f 16 (by kernel_rfl) rfl rfl rfl (OpG.append AH_un49 AH_in4 (by rfl) (by decide) rfl rfl (p := 4) rfl (fun w hH => hH.rd .here) ⟨rfl, (by simp [Value.oneCell']), (by omega), (by omega)⟩ (nm := i + 1) rfl (all := (fl ++ [(edS N.es N.fi).fin ((bfs (stp N.es) N.L.toNat N.st (i * N.L.toNat)).getD i N.st)]).map bo) (by simp)) (fun _ _ => (.cons _ (.cons _ (.cons _ (.cons _ (.cons _ (.cons _ (.cons_cons _ (.cons_cons _ (.cons _ (.cons _ (.cons_cons _ (.refl _))))))))))))) ?_
     rintro ⟨a91, c91⟩ h91
     refine RA.tail ?_
     refine RT.f 18 (by kernel_rfl) rfl rfl rfl (OpG.storeRow (a := some ⟨b8, 0, none⟩) AH_sz50 rfl rfl rfl (by repeat (first | exact Upd.here | apply Upd.there)) (by simp)) ?_
     rintro _ _
     refine RT.q 19 (by kernel_rfl) rfl rfl rfl (OpQ.fieldAddr AH_fa52_2 rfl) ?_
     refine RT.f 20 (by kernel_rfl) rfl rfl rfl (OpG.storeRow (a := some ⟨b8, 0, none⟩) AH_sz49 rfl rfl rfl (by repeat (first | exact Upd.here | apply Upd.there)) (by simp)) ?_
     rintro _ _
     refine RT.done (by kernel_rfl) ?_
     refine PX.block_n ?_
     refine PX.then_n ?_
     refine CT.region ?_
     refine Wl.q rfl rfl (OpQ.move rfl) ?_
     refine Wl.q rfl rfl (OpQ.add rfl rfl (by omega)) ?_
     refine Wl.q rfl rfl (OpQ.assign rfl) ?_
     refine Wl.nil ?_
     refine PX.as (fun _ h => h.bind (L := [.frag bs (rws rs), .row 3 1 (.slice ra N.L.toNat rc) (N.L.toNat) ((rowG (stp N.es) (bfs (stp N.es) N.L.toNat N.st (i * N.L.toNat + N.L.toNat)) ((bfs (stp N.es) N.L.toNat N.st (i * N.L.toNat)).getD i N.st) (N.L.toNat)).map zz)]) (p := rws (rs ++ [(⟨ra, rc, rowG (stp N.es) (bfs (stp N.es) N.L.toNat N.st (i * N.L.toNat + N.L.toNat)) ((bfs (stp N.es) N.L.toNat N.st (i * N.L.toNat)).getD i N.st) N.L.toNat⟩ : Rw)])) (.cons (.there (.there (.there .here))) (.cons (.there (.there .here)) .nil)) (fun w hk => rws_snoc (r := (⟨ra, rc, rowG (stp N.es) (bfs (stp N.es) N.L.toNat N.st (i * N.L.toNat + N.L.toNat)) ((bfs (stp N.es) N.L.toNat N.st (i * N.L.toNat)).getD i N.st) N.L.toNat⟩ : Rw)) ((hk _ List.mem_cons_self).2 w (fun _ _ => rfl)) (by show Rd w ra _; exact Rd.of_owns (hk _ (List.mem_cons_of_mem _ List.mem_cons_self))))) ?_
     refine PX.as (fun _ h => h.take (.cons .here (.cons (.there (.there .here)) (.cons (.there (.there .here)) (.cons (.there (.there .here)) (.cons (.there (.there .here)) (.cons (.there (.there .here)) (.cons (.there (.there .here)) (.cons (.there (.there .here)) .nil))))))))) ?_
     exact PX.loop hK0 (i + 1, a', c', a91, c91, fl ++ [(edS N.es N.fi).fin ((bfs (stp N.es) N.L.toNat N.st (i * N.L.toNat)).getD i N.st)], a79, c79, rs ++ [(⟨ra, rc, rowG (stp N.es) (bfs (stp N.es) N.L.toNat N.st (i * N.L.toNat + N.L.toNat)) ((bfs (stp N.es) N.L.toNat N.st (i * N.L.toNat)).getD i N.st) N.L.toNat⟩ : Rw)], _) ⟨hg.next hlt, by have := bfs_le (f := (stp N.es)) (L := N.L.toNat) (s := N.st) (show i * N.L.toNat ≤ (i + 1) * N.L.toNat by rw [Nat.add_mul]; omega); omega, fl_next hfl hlt bfs_succ_row, by rw [List.map_append, Nat.add_mul, Nat.one_mul]; rw [← rowG_full] at hrows2; exact hrows2, by rw [Nat.add_mul, Nat.one_mul]; exact h512⟩ (show 512 - (i + 1) < 512 - i by omega) ⟨rfl, rfl, (lkV rfl (by rw [Nat.add_mul, Nat.one_mul])), rfl, rfl, rfl, trivial⟩ (by dsimp only; rw [Nat.add_mul, Nat.one_mul]; exact HSub.refl _)
    ·
     rintro b90 _
     refine RA.f 4 (by kernel_rfl) rfl rfl rfl (OpG.append AH_un50 AH_in25 (by rfl) (by decide) rfl rfl (p := 5) rfl (fun w hH => hH.rd (.there .here)) ⟨rfl, (by simp [Value.oneCell']), (by omega), (by omega)⟩ (nm := i + 1) rfl (all := (rs ++ [(⟨ra, rc, rowG (stp N.es) (bfs (stp N.es) N.L.toNat N.st (i * N.L.toNat + N.L.toNat)) ((bfs (stp N.es) N.L.toNat N.st (i * N.L.toNat)).getD i N.st) N.L.toNat⟩ : Rw)]).map rv) (by simp [rowG_len])) (fun _ _ => (.cons _ (.cons _ (.cons _ (.cons _ (.cons _ (.cons _ (.cons_cons _ (.cons_cons _ (.cons _ (.cons _ (.cons_cons _ (.refl _))))))))))))) ?_
     rintro ⟨a79, c79⟩ h79
     refine RA.q 17 (by kernel_rfl) rfl rfl rfl (.cons _ (.cons _ (.cons _ (.cons _ (.cons _ (.cons _ (.cons_cons _ (.cons_cons _ (.cons _ (.cons _ (.cons_cons _ (.refl _)))))))))))) (OpQ.fieldAddr AH_fa52_3 rfl) ?_
     refine RA.f 16 (by kernel_rfl) rfl rfl rfl (OpG.append AH_un49 AH_in4 (by rfl) (by decide) rfl rfl (p := 4) rfl (fun w hH => hH.rd .here) ⟨rfl, (by simp [Value.oneCell']), (by omega), (by omega)⟩ (nm := i + 1) rfl (all := (fl ++ [(edS N.es N.fi).fin ((bfs (stp N.es) N.L.toNat N.st (i * N.L.toNat)).getD i N.st)]).map bo) (by simp)) (fun _ _ => (.cons _ (.cons _ (.cons _ (.cons _ (.cons _ (.cons _ (.cons_cons _ (.cons_cons _ (.cons _ (.cons _ (.cons_cons _ (.refl _))))))))))))) ?_
     rintro ⟨a91, c91⟩ h91
     refine RA.tail ?_
     refine RT.f 18 (by kernel_rfl) rfl rfl rfl (OpG.storeRow (a := some ⟨b8, 0, none⟩) AH_sz50 rfl rfl rfl (by repeat (first | exact Upd.here | apply Upd.there)) (by simp)) ?_
     rintro _ _
     refine RT.q 19 (by kernel_rfl) rfl rfl rfl (OpQ.fieldAddr AH_fa52_2 rfl) ?_
     refine RT.f 20 (by kernel_rfl) rfl rfl rfl (OpG.storeRow (a := some ⟨b8, 0, none⟩) AH_sz49 rfl rfl rfl (by repeat (first | exact Upd.here | apply Upd.there)) (by simp)) ?_
     rintro _ _
     refine RT.done (by kernel_rfl) ?_
     refine PX.block_n ?_
     refine PX.then_n ?_
     refine CT.region ?_
     refine Wl.q rfl rfl (OpQ.move rfl) ?_
     refine Wl.q rfl rfl (OpQ.add rfl rfl (by omega)) ?_
     refine Wl.q rfl rfl (OpQ.assign rfl) ?_
     refine Wl.nil ?_
     refine PX.as (fun _ h => h.bind (L := [.frag bs (rws rs), .row 3 1 (.slice ra N.L.toNat rc) (N.L.toNat) ((rowG (stp N.es) (bfs (stp N.es) N.L.toNat N.st (i * N.L.toNat + N.L.toNat)) ((bfs (stp N.es) N.L.toNat N.st (i * N.L.toNat)).getD i N.st) (N.L.toNat)).map zz)]) (p := rws (rs ++ [(⟨ra, rc, rowG (stp N.es) (bfs (stp N.es) N.L.toNat N.st (i * N.L.toNat + N.L.toNat)) ((bfs (stp N.es) N.L.toNat N.st (i * N.L.toNat)).getD i N.st) N.L.toNat⟩ : Rw)])) (.cons (.there (.there (.there .here))) (.cons (.there (.there .here)) .nil)) (fun w hk => rws_snoc (r := (⟨ra, rc, rowG (stp N.es) (bfs (stp N.es) N.L.toNat N.st (i * N.L.toNat + N.L.toNat)) ((bfs (stp N.es) N.L.toNat N.st (i * N.L.toNat)).getD i N.st) N.L.toNat⟩ : Rw)) ((hk _ List.mem_cons_self).2 w (fun _ _ => rfl)) (by show Rd w ra _; exact Rd.of_owns (hk _ (List.mem_cons_of_mem _ List.mem_cons_self))))) ?_
     refine PX.as (fun _ h => h.take (.cons .here (.cons (.there (.there .here)) (.cons (.there (.there .here)) (.cons (.there (.there .here)) (.cons (.there (.there .here)) (.cons (.there (.there .here)) (.cons (.there (.there .here)) (.cons (.there (.there .here)) .nil))))))))) ?_
     exact PX.loop hK0 (i + 1, a', c', a91, c91, fl ++ [(edS N.es N.fi).fin ((bfs (stp N.es) N.L.toNat N.st (i * N.L.toNat)).getD i N.st)], a79, c79, rs ++ [(⟨ra, rc, rowG (stp N.es) (bfs (stp N.es) N.L.toNat N.st (i * N.L.toNat + N.L.toNat)) ((bfs (stp N.es) N.L.toNat N.st (i * N.L.toNat)).getD i N.st) N.L.toNat⟩ : Rw)], _) ⟨hg.next hlt, by have := bfs_le (f := (stp N.es)) (L := N.L.toNat) (s := N.st) (show i * N.L.toNat ≤ (i + 1) * N.L.toNat by rw [Nat.add_mul]; omega); omega, fl_next hfl hlt bfs_succ_row, by rw [List.map_append, Nat.add_mul, Nat.one_mul]; rw [← rowG_full] at hrows2; exact hrows2, by rw [Nat.add_mul, Nat.one_mul]; exact h512⟩ (show 512 - (i + 1) < 512 - i by omega) ⟨rfl, rfl, (lkV rfl (by rw [Nat.add_mul, Nat.one_mul])), rfl, rfl, rfl, trivial⟩ (by dsimp only; rw [Nat.add_mul, Nat.one_mul]; exact HSub.refl _)
   ·
    rintro b90 _
    refine RA.f 3 (by kernel_rfl) rfl rfl rfl (OpG.lit1 AH_un50 AH_in25 rfl rfl rfl) (fun _ _ => (.cons _ (.cons _ (.cons _ (.cons _ (.cons _ (.cons _ (.cons_cons _ (.cons_cons _ (.cons _ (.cons _ (.cons_cons _ (.refl _))))))))))))) ?_
    rintro b78 _
    refine RA.f 4 (by kernel_rfl) rfl rfl rfl (OpG.append AH_un50 AH_in25 (by rfl) (by decide) rfl rfl (p := 5) rfl (fun w hH => hH.rd .here) ⟨rfl, (by simp [Value.oneCell']), (by omega), (by omega)⟩ (nm := i + 1) rfl (all := (rs ++ [(⟨ra, rc, rowG (stp N.es) (bfs (stp N.es) N.L.toNat N.st (i * N.L.toNat + N.L.toNat)) ((bfs (stp N.es) N.L.toNat N.st (i * N.L.toNat)).getD i N.st) N.L.toNat⟩ : Rw)]).map rv) (by simp [rowG_len])) (fun _ _ => (.cons _ (.cons _ (.cons _ (.cons _ (.cons _ (.cons _ (.cons_cons _ (.cons_cons _ (.cons _ (.cons _ (.cons_cons _ (.refl _))))))))))))) ?_
    rintro ⟨a79, c79⟩ h79
    refine RA.q 17 (by kernel_rfl) rfl rfl rfl (.cons _ (.cons _ (.cons _ (.cons _ (.cons _ (.cons _ (.cons_cons _ (.cons_cons _ (.cons _ (.cons _ (.cons_cons _ (.refl _)))))))))))) (OpQ.fieldAddr AH_fa52_3 rfl) ?_
    refine RA.f 16 (by kernel_rfl) rfl rfl rfl (OpG.append AH_un49 AH_in4 (by rfl) (by decide) rfl rfl (p := 4) rfl (fun w hH => hH.rd (.there .here)) ⟨rfl, (by simp [Value.oneCell']), (by omega), (by omega)⟩ (nm := i + 1) rfl (all := (fl ++ [(edS N.es N.fi).fin ((bfs (stp N.es) N.L.toNat N.st (i * N.L.toNat)).getD i N.st)]).map bo) (by simp)) (fun _ _ => (.cons _ (.cons _ (.cons _ (.cons _ (.cons _ (.cons _ (.cons_cons _ (.cons_cons _ (.cons _ (.cons _ (.cons_cons _ (.refl _))))))))))))) ?_
    rintro ⟨a91, c91⟩ h91
    refine RA.tail ?_
    refine RT.f 18 (by kernel_rfl) rfl rfl rfl (OpG.storeRow (a := some ⟨b8, 0, none⟩) AH_sz50 rfl rfl rfl (by repeat (first | exact Upd.here | apply Upd.there)) (by simp)) ?_
    rintro _ _
    refine RT.q 19 (by kernel_rfl) rfl rfl rfl (OpQ.fieldAddr AH_fa52_2 rfl) ?_
    refine RT.f 20 (by kernel_rfl) rfl rfl rfl (OpG.storeRow (a := some ⟨b8, 0, none⟩) AH_sz49 rfl rfl rfl (by repeat (first | exact Upd.here | apply Upd.there)) (by simp)) ?_
    rintro _ _
    refine RT.as (fun _ h => h.take (.cons (.there .here) (.cons .here (.cons .here (.cons .here (.cons .here (.cons .here (.cons .here (.cons .here (.cons .here (.cons .here (.cons .here .nil)))))))))))) ?_
    refine RT.done (by kernel_rfl) ?_
    refine PX.block_n ?_
    refine PX.then_n ?_
    refine CT.region ?_
    refine Wl.q rfl rfl (OpQ.move rfl) ?_
    refine Wl.q rfl rfl (OpQ.add rfl rfl (by omega)) ?_
    refine Wl.q rfl rfl (OpQ.assign rfl) ?_
    refine Wl.nil ?_
    refine PX.as (fun _ h => h.bind (L := [.frag bs (rws rs), .row 3 1 (.slice ra N.L.toNat rc) (N.L.toNat) ((rowG (stp N.es) (bfs (stp N.es) N.L.toNat N.st (i * N.L.toNat + N.L.toNat)) ((bfs (stp N.es) N.L.toNat N.st (i * N.L.toNat)).getD i N.st) (N.L.toNat)).map zz)]) (p := rws (rs ++ [(⟨ra, rc, rowG (stp N.es) (bfs (stp N.es) N.L.toNat N.st (i * N.L.toNat + N.L.toNat)) ((bfs (stp N.es) N.L.toNat N.st (i * N.L.toNat)).getD i N.st) N.L.toNat⟩ : Rw)])) (.cons (.there (.there (.there .here))) (.cons (.there (.there .here)) .nil)) (fun w hk => rws_snoc (r := (⟨ra, rc, rowG (stp N.es) (bfs (stp N.es) N.L.toNat N.st (i * N.L.toNat + N.L.toNat)) ((bfs (stp N.es) N.L.toNat N.st (i * N.L.toNat)).getD i N.st) N.L.toNat⟩ : Rw)) ((hk _ List.mem_cons_self).2 w (fun _ _ => rfl)) (by show Rd w ra _; exact Rd.of_owns (hk _ (List.mem_cons_of_mem _ List.mem_cons_self))))) ?_
    refine PX.as (fun _ h => h.take (.cons .here (.cons (.there (.there .here)) (.cons (.there (.there .here)) (.cons (.there (.there .here)) (.cons (.there (.there .here)) (.cons (.there (.there .here)) (.cons (.there (.there .here)) (.cons (.there (.there .here)) .nil))))))))) ?_
    exact PX.loop hK0 (i + 1, a', c', a91, c91, fl ++ [(edS N.es N.fi).fin ((bfs (stp N.es) N.L.toNat N.st (i * N.L.toNat)).getD i N.st)], a79, c79, rs ++ [(⟨ra, rc, rowG (stp N.es) (bfs (stp N.es) N.L.toNat N.st (i * N.L.toNat + N.L.toNat)) ((bfs (stp N.es) N.L.toNat N.st (i * N.L.toNat)).getD i N.st) N.L.toNat⟩ : Rw)], _) ⟨hg.next hlt, by have := bfs_le (f := (stp N.es)) (L := N.L.toNat) (s := N.st) (show i * N.L.toNat ≤ (i + 1) * N.L.toNat by rw [Nat.add_mul]; omega); omega, fl_next hfl hlt bfs_succ_row, by rw [List.map_append, Nat.add_mul, Nat.one_mul]; rw [← rowG_full] at hrows2; exact hrows2, by rw [Nat.add_mul, Nat.one_mul]; exact h512⟩ (show 512 - (i + 1) < 512 - i by omega) ⟨rfl, rfl, (lkV rfl (by rw [Nat.add_mul, Nat.one_mul])), rfl, rfl, rfl, trivial⟩ (by dsimp only; rw [Nat.add_mul, Nat.one_mul]; exact HSub.refl _)
 ·
  have h34 := of_decide_eq_false h34
  refine CT.exit ?_
  refine PX.then_x ?_
  refine PX.then_x ?_
  refine PX.block_x ?_
  refine PX.then_n ?_
  refine CT.seq ?_
  refine CT.region ?_
  refine Wl.q rfl rfl (OpQ.loadV (b := b8) AH_ag52 AH_sz52 rfl (by repeat (first | exact Has.here | apply Has.there)) (by rfl)) ?_
  refine Wl.q rfl rfl (OpQ.move rfl) ?_
  refine Wl.g rfl rfl (OpG.storeV (b := b2) AH_sz52 rfl rfl rfl rfl (by repeat (first | exact Upd.here | apply Upd.there))) ?_
  rintro _ _
  refine Wl.q rfl rfl (OpQ.assign rfl) ?_
  refine Wl.q rfl rfl (OpQ.assign rfl) ?_
  refine Wl.nil ?_
  refine PX.then_n ?_
  refine CT.ret ?_
  refine PX.retC3 rfl rfl rfl rfl (by repeat (first | exact Has.here | apply Has.there)) AH_ag52 AH_sz52 (by rfl) (fun w' hH => ?_)
  have hii : i = (bfs (stp N.es) N.L.toNat N.st (i * N.L.toNat)).length := by omega
  have hfin : fl = (autoD (stp N.es) N.L.toNat N.st (i * N.L.toNat) (edS N.es N.fi).fin).fin := by
   rw [hfl, List.take_of_length_le (Nat.le_of_eq hii.symm)]; rfl
  have hval : dvv ⟨N.L, 0, fa', fc', fl, na', nc', rs⟩ = .agg #[.int .i64 N.L, .int .i64 0, .slice fa' i fc', .slice na' i nc'] := by
   show Value.agg #[.int .i64 N.L, .int .i64 0, .slice fa' fl.length fc', .slice na' rs.length nc'] = _
   rw [hfll, hrll]
  exact ⟨(⟨N.L, 0, fa', fc', fl, na', nc', rs⟩, _, a', c', (bfs (stp N.es) N.L.toNat N.st (i * N.L.toNat)).length, 0), fun _ => ⟨i * N.L.toNat, Done.of hL1 hg hii, ⟨hLe, rfl, hfin, hrows.auto' hii (edS N.es N.fi).fin⟩, h512⟩, by rw [hval], ((hH.bind (L := [.frag bs (rws rs), .row 4 1 (.slice fa' i fc') i (fl.map bo), .row 25 1 (.slice na' i nc') i (rs.map rv)]) (p := dvm ⟨N.L, 0, fa', fc', fl, na', nc', rs⟩) (.cons .here (.cons .here (.cons .here .nil))) (fun w hk => ⟨Rd.of_owns (hk _ (List.mem_cons_of_mem _ List.mem_cons_self)), Rd.of_owns (hk _ (List.mem_cons_of_mem _ (List.mem_cons_of_mem _ List.mem_cons_self))), (hk _ List.mem_cons_self).2 w (fun _ _ => rfl)⟩)).take (.cons .here .nil)).post⟩

theorem AH_fa107_1 : fieldB Try.prog 107 1 = some 1 := by kernel_rfl
theorem AH_go75 : isGo Try.prog 75 = true := by kernel_rfl
theorem AH_go76 : isGo Try.prog 76 = true := by kernel_rfl
theorem AH_go47 : isGo Try.prog 47 = true := by kernel_rfl
set_option maxRecDepth 100000 in
/-- semigroup/semigroupref10.of -/
theorem nof10_spec (w : World) (N : Nv) (hN : Stays [] w (nfm N)) (hv : EdIn N) : Calls Try.prog 62 #[nfv N] w (fun e w' => ∃ i : Dv × List Nat × Int, (i.2.2 = 0 → i.1.Ok ∧ i.1.fin.length ≤ 512 ∧ IsMin N.L.toNat (edS N.es N.fi) N.st i.1.da) ∧ e = .returned (.tuple #[dvv i.1, .int .i64 i.2.2]) ∧ Post [] [.frag i.2.1 (dvm i.1)] w w') := by
 have hnv := hv.n
 refine enter (args := [nfv N]) [] 27 Try.func62 rfl rfl rfl ?_
 refine CT.seq ?_
 refine CT.region ?_
 refine Wl.g rfl rfl (OpG.box (size := 5) rfl rfl rfl) ?_
 rintro b1 _
 refine Wl.g rfl rfl (OpG.alloc (zs := [.int .i64 0, .int .i64 0, .slice none 0 0, .slice none 0 0]) AH_in52 rfl rfl) ?_
 rintro b2 _
 refine Wl.q rfl rfl (OpQ.assign rfl) ?_
 refine Wl.nil ?_
 refine PX.then_n ?_
 refine CT.seq ?_
 refine CT.seq ?_
 refine CT.region ?_
 refine Wl.q rfl rfl (OpQ.fieldAddr AH_fa107_1 rfl) ?_
 refine Wl.q rfl rfl (OpQ.loadF (b := b1) AH_sc3 rfl (by repeat (first | exact Has.here | apply Has.there)) (by rfl)) ?_
 refine Wl.q rfl rfl (OpQ.gtr rfl rfl) ?_
 refine Wl.know 9 (v' := .bool false) rfl (congrArg Value.bool (decide_eq_false (by omega))) ?_
 refine Wl.nil ?_
 refine PX.then_n ?_
 refine CT.condF rfl ?_
 refine CT.skip ?_
 refine PX.then_n ?_
 refine CT.seq ?_
 refine CT.region ?_
 refine Wl.q rfl rfl (OpQ.fieldAddr AH_fa107_4 rfl) ?_
 refine Wl.q rfl rfl (OpQ.loadF (b := b1) AH_sc105 rfl (by repeat (first | exact Has.here | apply Has.there)) (by rfl)) ?_
 refine Wl.g rfl rfl (OpG.callX AH_go75 rfl .nil (fun _ => (.cons .nil)) (fun w hH hp => sorted_spec w N.es N.ea N.ec (hH.stays0 hN) hv.len)) ?_
 rintro ⟨o, oa, oc⟩ hs
 dsimp only at hs
 refine Wl.q rfl rfl (OpQ.fieldAddr AH_fa107_4 rfl) ?_
 refine Wl.g rfl rfl (OpG.storeRow (a := some ⟨b1, 0, none⟩) AH_sz105 rfl rfl rfl (by repeat (first | exact Upd.here | apply Upd.there)) (by simp)) ?_
 rintro _ _
 refine Wl.nil ?_
 refine PX.then_n ?_
 refine CT.seq ?_
 refine CT.region ?_
 refine Wl.q rfl rfl (OpQ.loadV (b := b1) AH_ag107 AH_sz107 rfl (by repeat (first | exact Has.here | apply Has.there)) (by rfl)) ?_
 refine Wl.know 16 (v' := nfv ⟨N.L, N.n, N.st, N.fi, oa, oc, o⟩) rfl rfl ?_
 refine Wl.g rfl rfl (OpG.callX AH_go76 rfl .nil (fun _ => (.cons .nil)) (fun w hH hp => subset_spec w ⟨N.L, N.n, N.st, N.fi, oa, oc, o⟩ (Stays.rd (hH.staysK0 .here)) (hv.sorted hs) hs.srt)) ?_
 rintro ⟨D2, bs2, za, zc, zn, er⟩ h2
 dsimp only at h2
 refine Wl.q rfl rfl (OpQ.move rfl) ?_
 refine Wl.q rfl rfl (OpQ.extract rfl rfl) ?_
 refine Wl.know 18 (v' := dvv D2) rfl rfl ?_
 refine Wl.q rfl rfl (OpQ.extract rfl rfl) ?_
 refine Wl.know 19 (v' := .slice za zn zc) rfl rfl ?_
 refine Wl.q rfl rfl (OpQ.extract rfl rfl) ?_
 refine Wl.know 20 (v' := .int .i64 er) rfl rfl ?_
 refine Wl.g rfl rfl (OpG.alloc (zs := [.int .i64 0, .int .i64 0, .slice none 0 0, .slice none 0 0]) AH_in52 rfl rfl) ?_
 rintro b4 _
 refine Wl.g rfl rfl (OpG.storeV (b := b4) AH_sz52 rfl rfl rfl rfl (by repeat (first | exact Upd.here | apply Upd.there))) ?_
 rintro _ _
 refine Wl.q rfl rfl (OpQ.assign rfl) ?_
 refine Wl.q rfl rfl (OpQ.assign rfl) ?_
 refine Wl.nil ?_
 refine PX.then_n ?_
 refine CT.seq ?_
 refine CT.seq ?_
 refine CT.region ?_
 refine Wl.q rfl rfl (OpQ.move rfl) ?_
 refine Wl.q rfl rfl (OpQ.neq rfl rfl) ?_
 refine Wl.nil ?_
 refine PX.then_n ?_
 refine CT.cond rfl (fun h22 => ?_) (fun h22 => ?_)
 ·
  have h22 := of_nd_t h22
  refine CT.seq ?_
  refine CT.region ?_
  refine Wl.q rfl rfl (OpQ.build (cells := #[.int .i64 0, .int .i64 0, .slice none 0 0, .slice none 0 0]) AH_pl52 rfl rfl) ?_
  refine Wl.q rfl rfl (OpQ.move rfl) ?_
  refine Wl.g rfl rfl (OpG.storeV (b := b2) AH_sz52 rfl rfl rfl rfl (by repeat (first | exact Upd.here | apply Upd.there))) ?_
  rintro _ _
  refine Wl.q rfl rfl (OpQ.assign rfl) ?_
  refine Wl.nil ?_
  refine PX.then_n ?_
  refine CT.ret ?_
  refine PX.then_r ?_
  refine PX.retC2 rfl rfl rfl (by repeat (first | exact Has.here | apply Has.there)) AH_ag52 AH_sz52 (by rfl) (fun w' hH => ?_)
  exact ⟨(dv0, [], er), fun h => absurd h h22, rfl, ((hH.bind0 (p := dvm dv0) dvm0).take (.cons .here .nil)).post⟩
 ·
  have h22 := of_nd_f h22
  obtain ⟨K, hK, hIs, hbl⟩ := h2 h22
  have hv2 : D2.Ok := nfa_ok (N := ⟨N.L, N.n, N.st, N.fi, oa, oc, o⟩) (hv.sorted hs) hK hIs hbl
  refine CT.skip ?_
  refine PX.then_n ?_
  refine CT.seq ?_
  refine CT.region ?_
  refine Wl.q rfl rfl (OpQ.loadV (b := b4) AH_ag52 AH_sz52 rfl (by repeat (first | exact Has.here | apply Has.there)) (by rfl)) ?_
  refine Wl.know 25 (v' := dvv D2) rfl rfl ?_
  refine Wl.g rfl rfl (OpG.callX AH_go47 rfl .nil (fun _ => (.cons .nil)) (fun w hH hp => minimizeR_spec w D2 (Stays.frag (hH.staysK0 (.there .here))) hv2)) ?_
  rintro ⟨D3, bs3⟩ h3
  dsimp only at h3
  obtain ⟨hv3, hm3⟩ := h3
  obtain ⟨hn3, hmin⟩ := nfa_min hv (oa := oa) (oc := oc) hs hK hIs hbl hm3
  refine Wl.g rfl rfl (OpG.storeV (b := b2) AH_sz52 rfl rfl rfl rfl (by repeat (first | exact Upd.here | apply Upd.there))) ?_
  rintro _ _
  refine Wl.q rfl rfl (OpQ.assign rfl) ?_
  refine Wl.nil ?_
  refine PX.then_n ?_
  refine CT.ret ?_
  refine PX.retC2 rfl rfl rfl (by repeat (first | exact Has.here | apply Has.there)) AH_ag52 AH_sz52 (by rfl) (fun w' hH => ?_)
  exact ⟨(D3, bs3, 0), fun _ => ⟨hv3, hn3, hmin⟩, rfl, (hH.take (.cons .here .nil)).post⟩

theorem AH_go61 : isGo Try.prog 61 = true := by kernel_rfl
theorem AH_go63 : isGo Try.prog 63 = true := by kernel_rfl
theorem AH_go62 : isGo Try.prog 62 = true := by kernel_rfl
set_option maxRecDepth 100000 in
/-- semigroup/semigroupref10.Reverse -/
theorem dreverse_spec (w : World) (D : Dv) (hD : Stays [] w (dvm D)) (hv : D.Ok) : Calls Try.prog 48 #[dvv D] w (fun e w' => ∃ i : Dv × List Nat × Int, (i.2.2 = 0 → i.1.Ok ∧ i.1.fin.length ≤ 512 ∧ IsMin D.da.L (revS D.da) D.da.fi i.1.da) ∧ e = .returned (.tuple #[dvv i.1, .int .i64 i.2.2]) ∧ Post [] [.frag i.2.1 (dvm i.1)] w w') := by
 refine enter (args := [dvv D]) [] 17 Try.func48 rfl rfl rfl ?_
 refine CT.seq ?_
 refine CT.region ?_
 refine Wl.g rfl rfl (OpG.box (size := 4) rfl rfl rfl) ?_
 rintro b1 _
 refine Wl.g rfl rfl (OpG.alloc (zs := [.int .i64 0, .int .i64 0, .slice none 0 0, .slice none 0 0]) AH_in52 rfl rfl) ?_
 rintro b2 _
 refine Wl.q rfl rfl (OpQ.assign rfl) ?_
 refine Wl.nil ?_
 refine PX.then_n ?_
 refine CT.seq ?_
 refine CT.region ?_
 refine Wl.q rfl rfl (OpQ.loadV (b := b1) AH_ag52 AH_sz52 rfl (by repeat (first | exact Has.here | apply Has.there)) (by rfl)) ?_
 refine Wl.g rfl rfl (OpG.callX AH_go47 rfl .nil (fun _ => (.cons .nil)) (fun w hH hp => minimizeR_spec w D (hH.stays0 hD) hv)) ?_
 rintro ⟨D1, bs1⟩ h1
 dsimp only at h1
 obtain ⟨hv1, hm1⟩ := h1
 refine Wl.g rfl rfl (OpG.callX AH_go61 rfl .nil (fun _ => (.cons .nil)) (fun w hH hp => begin_spec w D1 (Stays.frag (hH.staysK0 .here)) hv1)) ?_
 rintro ⟨ea, ec⟩ _
 refine Wl.know 7 (v' := nfv ⟨D1.L, (D1.fin.length : Int), 1#64 <<< D1.da.s, finW D1.da D1.fin.length, ea, ec, edA D1.da D1.fin.length⟩) rfl rfl ?_
 refine Wl.g rfl rfl (OpG.alloc (zs := [.int .i64 0, .int .i64 0, .int .u64 0, .int .u64 0, .slice none 0 0]) AH_in107 rfl rfl) ?_
 rintro b4 _
 refine Wl.g rfl rfl (OpG.storeV (b := b4) AH_sz107 rfl rfl rfl rfl (by repeat (first | exact Upd.here | apply Upd.there))) ?_
 rintro _ _
 refine Wl.nil ?_
 refine PX.then_n ?_
 refine CT.seq ?_
 refine CT.seq ?_
 refine CT.region ?_
 refine Wl.q rfl rfl (OpQ.fieldAddr AH_fa107_1 rfl) ?_
 refine Wl.q rfl rfl (OpQ.loadF (b := b4) AH_sc3 rfl (by repeat (first | exact Has.here | apply Has.there)) (by rfl)) ?_
 refine Wl.q rfl rfl (OpQ.gtr rfl rfl) ?_
 refine Wl.nil ?_
 refine PX.then_n ?_
 refine CT.cond rfl (fun h10 => ?_) (fun h10 => ?_)
 ·
  have h10 := of_decide_eq_true h10
  refine CT.seq ?_
  refine CT.region ?_
  refine Wl.q rfl rfl (OpQ.build (cells := #[.int .i64 0, .int .i64 0, .slice none 0 0, .slice none 0 0]) AH_pl52 rfl rfl) ?_
  refine Wl.g rfl rfl (OpG.storeV (b := b2) AH_sz52 rfl rfl rfl rfl (by repeat (first | exact Upd.here | apply Upd.there))) ?_
  rintro _ _
  refine Wl.q rfl rfl (OpQ.assign rfl) ?_
  refine Wl.nil ?_
  refine PX.then_n ?_
  refine CT.ret ?_
  refine PX.then_r ?_
  refine PX.retC2 rfl rfl rfl (by repeat (first | exact Has.here | apply Has.there)) AH_ag52 AH_sz52 (by rfl) (fun w' hH => ?_)
  exact ⟨(dv0, [], 3), fun h => absurd h (by decide), rfl, ((hH.bind0 (p := dvm dv0) dvm0).take (.cons .here .nil)).post⟩
 ·
  have h10 := of_decide_eq_false h10
  have hn64 : D1.fin.length ≤ 64 := by
   have h10c : ¬ ((D1.fin.length : Int) > 64) := h10
   omega
  have hel : (edA D1.da D1.fin.length).length ≤ 200000 := by
   rw [edA_len]
   have h6 : D1.da.L ≤ 6 := by have := hv1.may; show D1.L.toNat ≤ 6; omega
   exact Nat.le_trans (Nat.mul_le_mul hn64 h6) (by decide)
  refine CT.skip ?_
  refine PX.then_n ?_
  refine CT.seq ?_
  refine CT.region ?_
  refine Wl.q rfl rfl (OpQ.loadV (b := b4) AH_ag107 AH_sz107 rfl (by repeat (first | exact Has.here | apply Has.there)) (by rfl)) ?_
  refine Wl.know 12 (v' := nfv ⟨D1.L, (D1.fin.length : Int), 1#64 <<< D1.da.s, finW D1.da D1.fin.length, ea, ec, edA D1.da D1.fin.length⟩) rfl rfl ?_
  refine Wl.g rfl rfl (OpG.callX AH_go63 rfl .nil (fun _ => (.cons .nil)) (fun w hH hp => reverse_spec w ⟨D1.L, (D1.fin.length : Int), 1#64 <<< D1.da.s, finW D1.da D1.fin.length, ea, ec, edA D1.da D1.fin.length⟩ (Stays.rd (hH.staysK0 (.there .here))) hel)) ?_
  rintro ⟨o, oa, oc⟩ ho
  dsimp only at ho
  obtain ⟨hsr, hmo, hlo⟩ := ho
  refine Wl.know 13 (v' := nfv ⟨D1.L, (D1.fin.length : Int), finW D1.da D1.fin.length, 1#64 <<< D1.da.s, oa, oc, o⟩) rfl rfl ?_
  refine Wl.g rfl rfl (OpG.callX AH_go62 rfl .nil (fun _ => (.cons .nil)) (fun w hH hp => nof10_spec w ⟨D1.L, (D1.fin.length : Int), finW D1.da D1.fin.length, 1#64 <<< D1.da.s, oa, oc, o⟩ (Stays.rd (hH.staysK0 .here)) (rev_in hv1 hn64 hmo (Nat.le_trans hlo hel)))) ?_
  rintro ⟨D4, bs4, er⟩ h4
  dsimp only at h4
  refine Wl.q rfl rfl (OpQ.extract rfl rfl) ?_
  refine Wl.know 15 (v' := dvv D4) rfl rfl ?_
  refine Wl.q rfl rfl (OpQ.extract rfl rfl) ?_
  refine Wl.know 16 (v' := .int .i64 er) rfl rfl ?_
  refine Wl.g rfl rfl (OpG.storeV (b := b2) AH_sz52 rfl rfl rfl rfl (by repeat (first | exact Upd.here | apply Upd.there))) ?_
  rintro _ _
  refine Wl.q rfl rfl (OpQ.assign rfl) ?_
  refine Wl.nil ?_
  refine PX.then_n ?_
  refine CT.ret ?_
  refine PX.retC2 rfl rfl rfl (by repeat (first | exact Has.here | apply Has.there)) AH_ag52 AH_sz52 (by rfl) (fun w' hH => ?_)
  exact ⟨(D4, bs4, er), fun h => ⟨(h4 h).1, (h4 h).2.1, rev_min hv hv1 hn64 hm1 hmo (h4 h).2.2⟩, rfl, (hH.take (.cons .here .nil)).post⟩

end Go.Proofs.Ytlmbcdjmdgbmjaa

