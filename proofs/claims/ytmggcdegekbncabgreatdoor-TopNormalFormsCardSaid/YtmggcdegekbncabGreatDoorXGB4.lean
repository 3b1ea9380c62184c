/-
  What functions of the program compute, each by its walk. Conditions: those that each theorem names.
-/
import Derived.Test.YtmggcdegekbncabGreatDoorMod
import Derived.Test.YtmggcdegekbncabGreatDoorXGB3
import Derived.Test.YtmggcdegekbncabGreatDoorXF
set_option linter.unusedSimpArgs false
namespace Go.Proofs.YtmggcdegekbncabGreatDoor
open Go Go.Eng Go.Am
open Go.Tp (zi)
open Go.Tl (mayL Wd okW okB bo)
theorem K4_un132 : Tryz.prog.underlying 132 = some (.array 7 3) := by kernel_rfl
theorem K4_un3 : Tryz.prog.underlying 3 = some (.int .i64) := by kernel_rfl
theorem K4_sz3 : sizeB Tryz.prog 3 = some 1 := by kernel_rfl
theorem K4_mkS : MapKey Tryz.prog 132 (kf 7) := MapKey.ln K4_un132 K4_un3 K4_sz3
theorem K4_ag30 : isAggB Tryz.prog 30 = some true := by kernel_rfl
theorem K4_sz30 : sizeB Tryz.prog 30 = some 4 := by kernel_rfl
theorem K4_go12 : isGo Tryz.prog 12 = true := by kernel_rfl
theorem K4_fa30_2 : fieldB Tryz.prog 30 2 = some 2 := by kernel_rfl
theorem K4_sc27 : scalarB Tryz.prog 27 = some true := by kernel_rfl
theorem K4_un27 : Tryz.prog.underlying 27 = some (.slice 4) := by kernel_rfl
theorem K4_un62 : Tryz.prog.underlying 62 = some (.slice 3) := by kernel_rfl
theorem K4_in3 : (Tryz.prog.info? 3).map (fun i => (i.zero, i.size, i.bytes)) = some (some (.int .i64 0), 1, 8) := by kernel_rfl
theorem K4_sz4 : sizeB Tryz.prog 4 = some 1 := by kernel_rfl
theorem K4_sc4 : scalarB Tryz.prog 4 = some true := by kernel_rfl
theorem K4_un4 : Tryz.prog.underlying 4 = some .bool := by kernel_rfl
theorem K4_fa30_3 : fieldB Tryz.prog 30 3 = some 3 := by kernel_rfl
theorem K4_sc28 : scalarB Tryz.prog 28 = some true := by kernel_rfl
theorem K4_un28 : Tryz.prog.underlying 28 = some (.slice 62) := by kernel_rfl
theorem K4_sz62 : sizeB Tryz.prog 62 = some 1 := by kernel_rfl
theorem K4_sc62 : scalarB Tryz.prog 62 = some true := by kernel_rfl
theorem K4_sc3 : scalarB Tryz.prog 3 = some true := by kernel_rfl
theorem K4_in132 : (Tryz.prog.info? 132).map (fun i => (i.zero, i.size, i.bytes)) = some (some (.agg #[.int .i64 0, .int .i64 0, .int .i64 0, .int .i64 0, .int .i64 0, .int .i64 0, .int .i64 0]), 7, 56) := by kernel_rfl
theorem K4_sz132 : sizeB Tryz.prog 132 = some 7 := by kernel_rfl
theorem K4_ag132 : isAggB Tryz.prog 132 = some true := by kernel_rfl
theorem K4_un130 : Tryz.prog.underlying 130 = some (.map 132 3) := by kernel_rfl
set_option maxRecDepth 100000 in
/-- semigroup/minimize.Classes -/
theorem classes_spec (w : World) (D : Dv) (hD : Stays [] w (dvm D)) (hv : D.Ok) (h5 : D.fin.length ≤ 512) : Calls Tryz.prog 57 #[dvv D] w (fun e w' => ∃ i : List Nat × Option Addr × Nat, Cls D.da i.1 ∧ e = .returned (.slice i.2.1 D.fin.length i.2.2) ∧ Post [] [.row 3 1 (.slice i.2.1 D.fin.length i.2.2) D.fin.length (i.1.map zn)] w w') := by
 have hfs : 0 < D.fin.length → D.fa.isSome = true := fun h => hD.now.1.isSome (j := 0) (by rw [List.length_map]; exact h)
 have hns : 0 < D.rs.length → D.na.isSome = true := fun h => hD.now.2.1.isSome (j := 0) (by rw [List.length_map]; exact h)
 have hrs : ∀ q, q < D.rs.length → 0 < (D.rs.getD q rw0).xs.length → (D.rs.getD q rw0).a.isSome = true := fun q hq h => (hD.now.2.2 _ (getDm hq)).isSome (j := 0) (by rw [List.length_map]; exact h)
 have hmv := hv.may
 have hn := h5
 have hst := hv.st
 have hlen := hv.len
 have hL6 : D.da.L ≤ 6 := by show D.L.toNat ≤ 6; omega
 refine enter (args := [dvv D]) [] 99 Tryz.func57 rfl rfl rfl ?_
 refine CT.seq (CT.region ?_)
 refine Wl.g rfl rfl (OpG.box (size := 4) rfl rfl rfl) ?_
 rintro b1 _
 refine Wl.q rfl rfl (OpQ.assign rfl) ?_
 refine Wl.nil (PX.then_n (CT.seq (CT.seq (CT.region ?_))))
 refine Wl.q rfl rfl (OpQ.loadV (b := b1) K4_ag30 K4_sz30 rfl (by repeat (first | exact Has.here | apply Has.there)) (by rfl)) ?_
 refine Wl.g rfl rfl (OpG.callV K4_go12 rfl (fun w hH => dvalid_spec w D (hH.stays0 hD))) ?_
 rintro _ _
 refine Wl.know 17 (v' := .int .i64 (0)) rfl (congrArg (Value.int .i64) (hv.zero h5)) ?_
 refine Wl.q rfl rfl (OpQ.neq rfl rfl) ?_
 refine Wl.know 18 (v' := .bool false) rfl (congrArg Value.bool rfl) ?_
 refine Wl.nil (PX.then_n ?_)
 refine CT.condF rfl ?_
 refine CT.skip (PX.then_n (CT.seq (CT.region ?_)))
 refine Wl.q rfl rfl (OpQ.fieldAddr K4_fa30_2 rfl) ?_
 refine Wl.q rfl rfl (OpQ.loadF (b := b1) K4_sc27 rfl (by repeat (first | exact Has.here | apply Has.there)) (by rfl)) ?_
 refine Wl.q rfl rfl (OpQ.len K4_un27 rfl) ?_
 refine Wl.g rfl rfl (OpG.make1 K4_un62 K4_in3 rfl rfl rfl rfl (by omega) (by omega)) ?_
 rintro b22 _
 refine Wl.q rfl rfl (OpQ.assign rfl) ?_
 refine Wl.q rfl rfl (OpQ.assign rfl) ?_
 refine Wl.nil (PX.then_n (CT.seq (CT.seq (CT.region ?_))))
 refine Wl.q rfl rfl (OpQ.fieldAddr K4_fa30_2 rfl) ?_
 refine Wl.q rfl rfl (OpQ.loadF (b := b1) K4_sc27 rfl (by repeat (first | exact Has.here | apply Has.there)) (by rfl)) ?_
 refine Wl.q rfl rfl (OpQ.len K4_un27 rfl) ?_
 refine Wl.q rfl rfl (OpQ.move rfl) ?_
 refine Wl.nil (PX.then_n (CT.block ?_))
 refine CT.loop (ι := Nat) (fun i => i ≤ D.fin.length) (fun i => [(1, .pointer (some ⟨b1, 0, none⟩)), (3, .slice (some ⟨b22, 0, none⟩) D.fin.length D.fin.length), (4, .int .i64 ((cn0 D.da i : Nat) : Int)), (24, .slice D.fa D.fin.length D.fc), (25, .int .i64 ((D.fin.length : Nat) : Int)), (26, .int .i64 ((i : Nat) : Int))]) (fun i => [.row 3 1 (.slice (some ⟨b22, 0, none⟩) D.fin.length D.fin.length) D.fin.length ((tabI D.fin.length fun q => ((c0 D.da i q : Nat) : Int)).map zz), .row 30 4 (vb b1) 1 (dvc D)]) (fun i => D.fin.length - i) 0 (Nat.zero_le _) ⟨rfl, rfl, (lkV rfl (by simp [cn0])), rfl, rfl, rfl, trivial⟩ (.keep (row_eq (c0_start _ _).symm) (HSub.refl _)) (fun i hi K0 hK0 => ?_)
 refine CT.seq (CT.region ?_)
 refine Wl.q rfl rfl (OpQ.lss rfl rfl) ?_
 refine Wl.nil (PX.then_n (CT.seq ?_))
 refine CT.cond rfl (fun h27 => ?_) (fun h27 => ?_)
 ·
  have h27 := of_decide_eq_true h27
  refine CT.skip (PX.then_n (CT.seq (CT.block (CT.seq (CT.region ?_)))))
  refine Wl.q rfl rfl (OpQ.move rfl) ?_
  refine Wl.q rfl rfl (OpQ.index1 K4_un27 K4_sz4 rfl rfl (by omega) (hfs (by omega))) ?_
  refine Wl.q rfl rfl (OpQ.loadG K4_sc4 rfl (fun w hH => (hH.use hD).1) (getMap bo D.fin false (j := i) (by omega))) ?_
  refine Wl.q rfl rfl (OpQ.assign rfl) ?_
  refine Wl.q rfl rfl (OpQ.assign rfl) ?_
  refine Wl.nil (PX.then_n (CT.seq (CT.region ?_)))
  refine Wl.q rfl rfl (OpQ.move rfl) ?_
  refine Wl.q rfl rfl (OpQ.fieldAddr K4_fa30_2 rfl) ?_
  refine Wl.q rfl rfl (OpQ.loadF (b := b1) K4_sc27 rfl (by repeat (first | exact Has.here | apply Has.there)) (by rfl)) ?_
  refine Wl.q rfl rfl (OpQ.index1 K4_un27 K4_sz4 rfl rfl (by omega) (hfs (by omega))) ?_
  refine Wl.q rfl rfl (OpQ.loadG K4_sc4 rfl (fun w hH => (hH.use hD).1) (getMap bo D.fin false (j := 0) (by omega))) ?_
  refine Wl.q rfl rfl (OpQ.neqB K4_un4 rfl rfl) ?_
  refine Wl.nil (PX.then_n ?_)
  refine CT.cond rfl (fun h36 => ?_) (fun h36 => ?_)
  ·
   have h36 : D.da.fi i ≠ D.da.fi 0 := by show D.fin.getD i false ≠ D.fin.getD 0 false; simpa [-List.getD_eq_getElem?_getD] using h36
   refine CT.region ?_
   refine Wl.q rfl rfl (OpQ.move rfl) ?_
   refine Wl.q rfl rfl (OpQ.move rfl) ?_
   refine Wl.q rfl rfl (OpQ.index1 K4_un62 K4_sz3 rfl rfl (by omega) rfl) ?_
   refine Wl.g rfl rfl (OpG.storeRow K4_sz3 rfl rfl rfl .here (by rw [List.length_map, tabI_len]; show i < _; omega)) ?_
   rintro _ _
   refine Wl.q rfl rfl (OpQ.assign rfl) ?_
   refine Wl.nil (PX.block_n (PX.then_n (CT.region ?_)))
   refine Wl.q rfl rfl (OpQ.add rfl rfl (by omega)) ?_
   refine Wl.q rfl rfl (OpQ.move rfl) ?_
   refine Wl.nil ?_
   exact PX.loop hK0 (i + 1) (by omega) (by first | omega | (dsimp only; omega)) ⟨rfl, rfl, (lkV rfl (congrArg (Value.int .i64) (by rw [cn0_s, if_pos h36]; rfl))), rfl, rfl, rfl, trivial⟩ (.keep (row_eq (c0_put h36).symm) (HSub.refl _))
  ·
   have h36 : D.da.fi i = D.da.fi 0 := by show D.fin.getD i false = D.fin.getD 0 false; simpa [-List.getD_eq_getElem?_getD] using h36
   refine CT.skip (PX.block_n (PX.then_n (CT.region ?_)))
   refine Wl.q rfl rfl (OpQ.add rfl rfl (by omega)) ?_
   refine Wl.q rfl rfl (OpQ.move rfl) ?_
   refine Wl.nil ?_
   exact PX.loop hK0 (i + 1) (by omega) (by first | omega | (dsimp only; omega)) ⟨rfl, rfl, (lkV rfl (congrArg (Value.int .i64) (by rw [cn0_s, if_neg (fun hh => hh h36)]))), rfl, rfl, rfl, trivial⟩ (.keep (row_eq (congrArg _ (c0_keep h36).symm)) (HSub.refl _))
 ·
  have h27 := of_decide_eq_false h27
  refine CT.exit (PX.then_x (PX.then_x (PX.block_x (PX.then_n (CT.block ?_)))))
  obtain rfl : i = D.fin.length := by omega
  refine CT.loop (ι := List Nat × Option Addr × Nat) (fun (c, ca, cc) => Coarse D.da c) (fun (c, ca, cc) => [(1, .pointer (some ⟨b1, 0, none⟩)), (3, .slice ca D.fin.length cc), (4, .int .i64 ((topL c : Nat) : Int))]) (fun (c, ca, cc) => [.row 3 1 (.slice ca D.fin.length cc) D.fin.length (c.map zn), .row 30 4 (vb b1) 1 (dvc D)]) (fun (c, ca, cc) => D.fin.length + 1 - topL c) (lab0 D.da, some ⟨b22, 0, none⟩, D.fin.length) (lab0_coarse D.da) ⟨rfl, rfl, (lkV rfl (congrArg (fun m : Nat => Value.int .i64 (m : Int)) (cn0_end hv.daOk.pos_n))), trivial⟩ (.keep (row_eq (c0_end D.da).symm) (HSub.refl _)) (fun ⟨c, ca, cc⟩ hc K1 hK1 => ?_)
  dsimp only
  have hcl : c.length = D.fin.length := hc.len
  refine CT.fact (p := ca.isSome = true) (fun w hH => (hH.rd .here).isSome (j := 0) (by rw [List.length_map, hcl]; omega)) (fun hca => ?_)
  refine CT.block (CT.seq (CT.region ?_))
  refine Wl.g rfl rfl (OpG.makeMap (f := (kf 7))) ?_
  rintro b41 _
  refine Wl.q rfl rfl (OpQ.assign rfl) ?_
  refine Wl.nil (PX.then_n (CT.seq (CT.region ?_)))
  refine Wl.q rfl rfl (OpQ.move rfl) ?_
  refine Wl.q rfl rfl (OpQ.len K4_un62 rfl) ?_
  refine Wl.g rfl rfl (OpG.make1 K4_un62 K4_in3 rfl rfl rfl rfl (by omega) (by omega)) ?_
  rintro b44 _
  refine Wl.q rfl rfl (OpQ.assign rfl) ?_
  refine Wl.nil (PX.then_n (CT.seq (CT.seq (CT.region ?_))))
  refine Wl.q rfl rfl (OpQ.fieldAddr K4_fa30_3 rfl) ?_
  refine Wl.q rfl rfl (OpQ.loadF (b := b1) K4_sc28 rfl (by repeat (first | exact Has.here | apply Has.there)) (by rfl)) ?_
  refine Wl.q rfl rfl (OpQ.len K4_un28 rfl) ?_
  refine Wl.know 47 (v' := .int .i64 ((D.fin.length : Nat) : Int)) rfl (congrArg (fun m : Nat => Value.int .i64 (m : Int)) hlen) ?_
  refine Wl.q rfl rfl (OpQ.move rfl) ?_
  refine Wl.nil (PX.then_n (CT.block ?_))
  refine CT.loop (ι := Nat) (fun q => q ≤ D.fin.length) (fun q => [(1, .pointer (some ⟨b1, 0, none⟩)), (3, .slice ca D.fin.length cc), (4, .int .i64 ((topL c : Nat) : Int)), (7, .map (some b41)), (8, .slice (some ⟨b44, 0, none⟩) D.fin.length D.fin.length), (46, .slice D.na D.rs.length D.nc), (47, .int .i64 ((D.fin.length : Nat) : Int)), (48, .int .i64 ((q : Nat) : Int))]) (fun q => [.row 3 1 (.slice (some ⟨b44, 0, none⟩) D.fin.length D.fin.length) D.fin.length ((labP (sgs D.da c q) D.fin.length).map zn), .blk b41 (mapO (kf 7) (itA 0 (ded (sgs D.da c q)))), .row 3 1 (.slice ca D.fin.length cc) D.fin.length (c.map zn), .row 30 4 (vb b1) 1 (dvc D)]) (fun q => D.fin.length - q) 0 (Nat.zero_le _) ⟨rfl, rfl, rfl, rfl, rfl, rfl, rfl, rfl, trivial⟩ (.keep (row_eq (labP_nil _)) (HSub.refl _)) (fun q hq K2 hK2 => ?_)
  refine CT.seq (CT.region ?_)
  refine Wl.q rfl rfl (OpQ.lss rfl rfl) ?_
  refine Wl.nil (PX.then_n (CT.seq ?_))
  refine CT.cond rfl (fun h49 => ?_) (fun h49 => ?_)
  ·
   have h49 := of_decide_eq_true h49
   have hql : q < D.fin.length := by omega
   have hrw := (hv.row q hql).1
   have hLe := hv.L_eq
   refine CT.skip (PX.then_n (CT.seq (CT.block (CT.seq (CT.region ?_)))))
   refine Wl.q rfl rfl (OpQ.move rfl) ?_
   refine Wl.q rfl rfl (OpQ.index1 K4_un28 K4_sz62 rfl rfl (by omega) (hns (by omega))) ?_
   refine Wl.q rfl rfl (OpQ.loadG K4_sc62 rfl (fun w hH => (hH.use hD).2.1) (getMap rv D.rs rw0 (j := q) (by omega))) ?_
   refine Wl.q rfl rfl (OpQ.assign rfl) ?_
   refine Wl.q rfl rfl (OpQ.assign rfl) ?_
   refine Wl.nil (PX.then_n (CT.seq (CT.region ?_)))
   refine Wl.q rfl rfl (OpQ.move rfl) ?_
   refine Wl.q rfl rfl (OpQ.move rfl) ?_
   refine Wl.q rfl rfl (OpQ.index1 K4_un62 K4_sz3 rfl rfl (by omega) hca) ?_
   refine Wl.q rfl rfl (OpQ.loadRow K4_sc3 rfl (.there (.there .here)) (getMap zn c 0 (j := q) (by omega))) ?_
   refine Wl.q rfl rfl (OpQ.buildArr (cells := #[zn (c.getD q 0), .int .i64 0, .int .i64 0, .int .i64 0, .int .i64 0, .int .i64 0, .int .i64 0]) K4_un132 K4_sz3 K4_in132 rfl rfl) ?_
   refine Wl.g rfl rfl (OpG.alloc (zs := [.int .i64 0, .int .i64 0, .int .i64 0, .int .i64 0, .int .i64 0, .int .i64 0, .int .i64 0]) K4_in132 rfl rfl) ?_
   rintro b11 _
   refine Wl.g rfl rfl (OpG.storeV (b := b11) K4_sz132 rfl rfl rfl rfl (by repeat (first | exact Upd.here | apply Upd.there))) ?_
   rintro _ _
   refine Wl.nil (PX.then_n (CT.seq (CT.seq (CT.region ?_))))
   refine Wl.q rfl rfl (OpQ.move rfl) ?_
   refine Wl.q rfl rfl (OpQ.len K4_un62 rfl) ?_
   refine Wl.know 59 (v' := .int .i64 ((D.da.L : Nat) : Int)) rfl (congrArg (Value.int .i64) (by omega)) ?_
   refine Wl.q rfl rfl (OpQ.move rfl) ?_
   refine Wl.nil (PX.then_n (CT.block ?_))
   refine CT.loop (ι := Nat) (fun x => x ≤ D.da.L) (fun x => [(1, .pointer (some ⟨b1, 0, none⟩)), (3, .slice ca D.fin.length cc), (4, .int .i64 ((topL c : Nat) : Int)), (7, .map (some b41)), (8, .slice (some ⟨b44, 0, none⟩) D.fin.length D.fin.length), (46, .slice D.na D.rs.length D.nc), (47, .int .i64 ((D.fin.length : Nat) : Int)), (48, .int .i64 ((q : Nat) : Int)), (9, .int .i64 ((q : Nat) : Int)), (11, .pointer (some ⟨b11, 0, none⟩)), (58, rv (D.rs.getD q rw0)), (59, .int .i64 ((D.da.L : Nat) : Int)), (60, .int .i64 ((x : Nat) : Int))]) (fun x => [.row 132 7 (vb b11) 1 ((tabI 7 (sgP D.da c q x)).map zz), .row 3 1 (.slice (some ⟨b44, 0, none⟩) D.fin.length D.fin.length) D.fin.length ((labP (sgs D.da c q) D.fin.length).map zn), .blk b41 (mapO (kf 7) (itA 0 (ded (sgs D.da c q)))), .row 3 1 (.slice ca D.fin.length cc) D.fin.length (c.map zn), .row 30 4 (vb b1) 1 (dvc D)]) (fun x => D.da.L - x) 0 (Nat.zero_le _) ⟨rfl, rfl, rfl, rfl, rfl, rfl, rfl, rfl, rfl, rfl, rfl, rfl, rfl, trivial⟩ (.keep (row_eq rfl) (HSub.refl _)) (fun x hx K3 hK3 => ?_)
   refine CT.seq (CT.region ?_)
   refine Wl.q rfl rfl (OpQ.lss rfl rfl) ?_
   refine Wl.nil (PX.then_n (CT.seq ?_))
   refine CT.cond rfl (fun h61 => ?_) (fun h61 => ?_)
   ·
    have h61 := of_decide_eq_true h61
    have hxl : x < D.da.L := by omega
    have hto := hv.to (x := x) hql (by omega)
    have hton := hv.daOk.lt q x hql hxl
    have hton2 : D.da.to q x < D.fin.length := hton
    refine CT.skip (PX.then_n (CT.seq (CT.block (CT.seq (CT.region ?_)))))
    refine Wl.q rfl rfl (OpQ.move rfl) ?_
    refine Wl.q rfl rfl (OpQ.index1 K4_un62 K4_sz3 rfl rfl (by omega) (hrs q (by omega) (by omega))) ?_
    refine Wl.q rfl rfl (OpQ.loadG K4_sc3 rfl (fun w hH => (hH.use hD).2.2 _ (getDm (show q < D.rs.length by omega))) (getMap zz (D.rs.getD q rw0).xs 0 (j := x) (by omega))) ?_
    refine Wl.know 64 (v' := .int .i64 ((D.da.to q x : Nat) : Int)) rfl (congrArg (Value.int .i64) hto) ?_
    refine Wl.q rfl rfl (OpQ.assign rfl) ?_
    refine Wl.q rfl rfl (OpQ.assign rfl) ?_
    refine Wl.nil (PX.then_n (CT.region ?_))
    refine Wl.q rfl rfl (OpQ.move rfl) ?_
    refine Wl.q rfl rfl (OpQ.add rfl rfl (by omega)) ?_
    refine Wl.know 66 (v' := .int .i64 ((x + 1 : Nat) : Int)) rfl (congrArg (Value.int .i64) (by omega)) ?_
    refine Wl.q rfl rfl (OpQ.move rfl) ?_
    refine Wl.q rfl rfl (OpQ.move rfl) ?_
    refine Wl.q rfl rfl (OpQ.index1 K4_un62 K4_sz3 rfl rfl (by omega) hca) ?_
    refine Wl.q rfl rfl (OpQ.loadRow K4_sc3 rfl (.there (.there (.there .here))) (getMap zn c 0 (j := D.da.to q x) (by omega))) ?_
    refine Wl.q rfl rfl (OpQ.indexArr1 K4_un132 K4_sz3 rfl rfl (by omega)) ?_
    refine Wl.g rfl rfl (OpG.storeRow (a := some ⟨b11, 0, none⟩) K4_sz3 rfl rfl rfl (by repeat (first | exact Upd.here | apply Upd.there)) (by rw [List.length_map, tabI_len]; show x + 1 < 7; omega)) ?_
    rintro _ _
    refine Wl.nil (PX.block_n (PX.then_n (CT.region ?_)))
    refine Wl.q rfl rfl (OpQ.add rfl rfl (by omega)) ?_
    refine Wl.q rfl rfl (OpQ.move rfl) ?_
    refine Wl.nil ?_
    exact PX.loop hK3 (x + 1) (by omega) (by first | omega | (dsimp only; omega)) ⟨rfl, rfl, rfl, rfl, rfl, rfl, rfl, rfl, rfl, rfl, rfl, rfl, rfl, trivial⟩ (.keep (row_eq sg_put.symm) (HSub.refl _))
   ·
    have h61 := of_decide_eq_false h61
    refine CT.exit (PX.then_x (PX.then_x (PX.block_x (PX.then_n (CT.seq (CT.region ?_))))))
    obtain rfl : x = D.da.L := by omega
    refine Wl.q rfl rfl (OpQ.move rfl) ?_
    refine Wl.q rfl rfl (OpQ.loadV (b := b11) K4_ag132 K4_sz132 rfl (by repeat (first | exact Has.here | apply Has.there)) (by rfl)) ?_
    refine Wl.q rfl rfl (OpQ.lookup (f := (kf 7)) (x := (sg D.da c q)) (l := (itA 0 (ded (sgs D.da c q)))) K4_mkS K4_un130 K4_in3 rfl rfl (by repeat (first | exact Has.here | apply Has.there)) (by rw [if_pos rfl, getA_itA, ix_val, ix_is])) ?_
    refine Wl.q rfl rfl (OpQ.move rfl) ?_
    refine Wl.q rfl rfl (OpQ.extract rfl rfl) ?_
    refine Wl.q rfl rfl (OpQ.extract rfl rfl) ?_
    refine Wl.q rfl rfl (OpQ.assign rfl) ?_
    refine Wl.q rfl rfl (OpQ.assign rfl) ?_
    refine Wl.nil (PX.then_n ?_)
    refine CT.cut (ι := Unit) (Φ := fun _ => True) (E' := fun _ => [(1, .pointer (some ⟨b1, 0, none⟩)), (3, .slice ca D.fin.length cc), (4, .int .i64 ((topL c : Nat) : Int)), (7, .map (some b41)), (8, .slice (some ⟨b44, 0, none⟩) D.fin.length D.fin.length), (46, .slice D.na D.rs.length D.nc), (47, .int .i64 ((D.fin.length : Nat) : Int)), (48, .int .i64 ((q : Nat) : Int)), (9, .int .i64 ((q : Nat) : Int)), (14, .int .i64 (((addN (ded (sgs D.da c q)) (sg D.da c q)).2 : Nat) : Int))]) (H' := fun _ => [.row 3 1 (.slice (some ⟨b44, 0, none⟩) D.fin.length D.fin.length) D.fin.length ((labP (sgs D.da c q) D.fin.length).map zn), .blk b41 (mapO (kf 7) (itA 0 (addN (ded (sgs D.da c q)) (sg D.da c q)).1)), .row 3 1 (.slice ca D.fin.length cc) D.fin.length (c.map zn), .row 30 4 (vb b1) 1 (dvc D)]) (fun K4 hK4 => ?_) (fun _ _ => ?_)
    ·
     refine CT.seq (CT.region ?_)
     refine Wl.q rfl rfl (OpQ.move rfl) ?_
     refine Wl.q rfl rfl (OpQ.not rfl) ?_
     refine Wl.nil (PX.then_n ?_)
     refine CT.cond rfl (fun h80 => ?_) (fun h80 => ?_)
     ·
      have hix : ixA (sg D.da c q) 0 (ded (sgs D.da c q)) = none := by simpa using h80
      have hnx := ixA_none hix
      refine CT.seq (CT.region ?_)
      refine Wl.q rfl rfl (OpQ.move rfl) ?_
      refine Wl.q rfl rfl (OpQ.lenMap (f := (kf 7)) (l := (itA 0 (ded (sgs D.da c q)))) K4_un130 rfl (by repeat (first | exact Has.here | apply Has.there))) ?_
      refine Wl.know 82 (v' := .int .i64 (((ded (sgs D.da c q)).length : Nat) : Int)) rfl (congrArg (fun m : Nat => Value.int .i64 (m : Int)) (itA_len _ _)) ?_
      refine Wl.q rfl rfl (OpQ.assign rfl) ?_
      refine Wl.nil (PX.then_n (CT.region ?_))
      refine Wl.q rfl rfl (OpQ.move rfl) ?_
      refine Wl.q rfl rfl (OpQ.loadV (b := b11) K4_ag132 K4_sz132 rfl (by repeat (first | exact Has.here | apply Has.there)) (by rfl)) ?_
      refine Wl.q rfl rfl (OpQ.move rfl) ?_
      refine Wl.g rfl rfl (OpG.mapNew (f := (kf 7)) (x := (sg D.da c q)) (l := (itA 0 (ded (sgs D.da c q)))) K4_mkS K4_un130 rfl rfl rfl (by rw [getA_itA, hix]; rfl) (by repeat (first | exact Upd.here | apply Upd.there))) ?_
      rintro _ _
      refine Wl.nil ?_
      exact PX.cut hK4 () trivial ⟨rfl, rfl, rfl, rfl, rfl, rfl, rfl, rfl, rfl, (lkV rfl (congrArg (fun m : Nat => Value.int .i64 (m : Int)) (by rw [addN_out hnx]))), trivial⟩ (.drop (.keep rfl (.keep (by rw [addN_out hnx, itA_snoc, Nat.zero_add]) (HSub.refl _))))
     ·
      have hix : ¬ ixA (sg D.da c q) 0 (ded (sgs D.da c q)) = none := fun hh => by rw [hh] at h80; exact absurd h80 (by decide)
      refine CT.skip ?_
      exact PX.cut hK4 () trivial ⟨rfl, rfl, rfl, rfl, rfl, rfl, rfl, rfl, rfl, (lkV rfl (congrArg (fun m : Nat => Value.int .i64 (m : Int)) (ix_in hix).2)), trivial⟩ (.drop (.keep rfl (.keep (by rw [(ix_in hix).1]) (HSub.refl _))))
    ·
     refine CT.region ?_
     refine Wl.q rfl rfl (OpQ.move rfl) ?_
     refine Wl.q rfl rfl (OpQ.move rfl) ?_
     refine Wl.q rfl rfl (OpQ.move rfl) ?_
     refine Wl.q rfl rfl (OpQ.index1 K4_un62 K4_sz3 rfl rfl (by omega) rfl) ?_
     refine Wl.g rfl rfl (OpG.storeRow K4_sz3 rfl rfl rfl .here (by rw [List.length_map, labP_len (by rw [sgs_len]; omega)]; show q < _; omega)) ?_
     rintro _ _
     refine Wl.nil (PX.block_n (PX.then_n (CT.region ?_)))
     refine Wl.q rfl rfl (OpQ.add rfl rfl (by omega)) ?_
     refine Wl.q rfl rfl (OpQ.move rfl) ?_
     refine Wl.nil ?_
     exact PX.loop hK2 (q + 1) (by omega) (by first | omega | (dsimp only; omega)) ⟨rfl, rfl, rfl, rfl, rfl, rfl, rfl, rfl, trivial⟩ (.keep (row_eq (by rw [sgs_s]; exact (labP_put (sgs_len _ _ _) hql rfl).symm)) (.keep (by rw [sgs_s, ded_addN]) (HSub.refl _)))
  ·
   have h49 := of_decide_eq_false h49
   refine CT.exit (PX.then_x (PX.then_x (PX.block_x (PX.then_n (CT.seq (CT.seq (CT.region ?_)))))))
   obtain rfl : q = D.fin.length := by omega
   refine Wl.q rfl rfl (OpQ.move rfl) ?_
   refine Wl.q rfl rfl (OpQ.lenMap (f := (kf 7)) (l := (itA 0 (ded (sgs D.da c D.fin.length)))) K4_un130 rfl (by repeat (first | exact Has.here | apply Has.there))) ?_
   refine Wl.know 92 (v' := .int .i64 ((topL (lab (sgs D.da c D.fin.length)) : Nat) : Int)) rfl (congrArg (fun m : Nat => Value.int .i64 (m : Int)) (by rw [itA_len, lab_top])) ?_
   refine Wl.q rfl rfl (OpQ.move rfl) ?_
   refine Wl.q rfl rfl (OpQ.eql rfl rfl) ?_
   refine Wl.nil (PX.then_n ?_)
   refine CT.cond rfl (fun h94 => ?_) (fun h94 => ?_)
   ·
    have h94 := of_decide_eq_true h94
    refine CT.seq (CT.region ?_)
    refine Wl.q rfl rfl (OpQ.move rfl) ?_
    refine Wl.q rfl rfl (OpQ.assign rfl) ?_
    refine Wl.nil (PX.then_n (CT.ret (PX.then_r (PX.block_r (PX.then_r (PX.block_r ?_))))))
    refine PX.ret1 rfl rfl (fun w' hH => ?_)
    obtain ⟨he, hcls⟩ := round_done hv.daOk hL6 hc (Int.ofNat_inj.1 h94)
    have he : lab (sgs D.da c D.fin.length) = c := he
    exact ⟨(c, some ⟨b44, 0, none⟩, D.fin.length), hcls, rfl, hH.post.sub (.keep (row_eq (by rw [labP_full (sgs_len _ _ _), he])) (.drop (.drop (.drop .nil))))⟩
   ·
    have h94 := of_decide_eq_false h94
    refine CT.skip (PX.then_n (CT.region ?_))
    refine Wl.q rfl rfl (OpQ.move rfl) ?_
    refine Wl.q rfl rfl (OpQ.move rfl) ?_
    refine Wl.q rfl rfl (OpQ.lenMap (f := (kf 7)) (l := (itA 0 (ded (sgs D.da c D.fin.length)))) K4_un130 rfl (by repeat (first | exact Has.here | apply Has.there))) ?_
    refine Wl.know 98 (v' := .int .i64 ((topL (lab (sgs D.da c D.fin.length)) : Nat) : Int)) rfl (congrArg (fun m : Nat => Value.int .i64 (m : Int)) (by rw [itA_len, lab_top])) ?_
    refine Wl.q rfl rfl (OpQ.assign rfl) ?_
    refine Wl.q rfl rfl (OpQ.assign rfl) ?_
    refine Wl.nil (PX.block_n ?_)
    exact PX.loop hK1 (lab (sgs D.da c D.fin.length), some ⟨b44, 0, none⟩, D.fin.length) (round_coarse hv.daOk hL6 hc) (by have h1 := round_le hL6 hc; have h2 := fo_top_n (round_coarse hv.daOk hL6 hc); have h3 : ¬ topL (lab (sgs D.da c D.fin.length)) = topL c := (fun hh => h94 (by rw [hh])); have h1 : topL c ≤ topL (lab (sgs D.da c D.fin.length)) := h1; have h2 : topL (lab (sgs D.da c D.fin.length)) ≤ D.fin.length := h2; dsimp only; omega) ⟨rfl, rfl, rfl, trivial⟩ (.keep (row_eq (by rw [labP_full (sgs_len _ _ _)])) (.drop (.drop (HSub.refl _))))

end Go.Proofs.YtmggcdegekbncabGreatDoor

