/-
  What functions of the program compute, each by its walk. Conditions: those that each theorem names.
-/
import Derived.Test.YtmggcdegekbncabGreatDoorXGB14
import Derived.Test.YtmggcdegekbncabGreatDoorXF
set_option linter.unusedSimpArgs false
namespace Go.Proofs.YtmggcdegekbncabGreatDoor
open Go Go.Eng Go.Am Go.Ex
open Go.Tp (zi)
open Go.Tl (mayL Wd okW okB bo)
open Go.Ex.simp (simpL)
open Go.Ex.dv (dvL dvC)
open Go.Ex.hasU (hasAny hasAll)
open Go.Ex.wf (wfL)
open Go.Ex.szE (szL)
open Go.Ex.dpE (dpL)
open Go.Ex.cmpE (cmpL)
open Go.Ex.fmtE (fmtK fmtR)
theorem K15_un22 : Tryz.prog.underlying 22 = some (.slice 24) := by kernel_rfl
theorem K15_in24 : (Tryz.prog.info? 24).map (fun i => (i.zero, i.size, i.bytes)) = some (some (.agg #[.int .i64 0, .int .i64 0, .slice none 0 0]), 3, 40) := by kernel_rfl
theorem K15_in135 : (Tryz.prog.info? 135).map (fun i => (i.zero, i.size, i.bytes)) = some (some (.agg #[.int .i64 0, .int .i64 0, .slice none 0 0, .int .i64 0, .int .i64 0, .slice none 0 0, .bool false]), 7, 88) := by kernel_rfl
theorem K15_pl24 : placesB Tryz.prog 24 = some (#[.int .i64 0, .int .i64 0, .slice none 0 0], [(0, 1), (1, 1), (2, 1)]) := by kernel_rfl
theorem K15_sz24 : sizeB Tryz.prog 24 = some 3 := by kernel_rfl
theorem K15_fa24_0 : fieldB Tryz.prog 24 0 = some 0 := by kernel_rfl
theorem K15_sc3 : scalarB Tryz.prog 3 = some true := by kernel_rfl
theorem K15_ag24 : isAggB Tryz.prog 24 = some true := by kernel_rfl
theorem K15_pl135 : placesB Tryz.prog 135 = some (#[.int .i64 0, .int .i64 0, .slice none 0 0, .int .i64 0, .int .i64 0, .slice none 0 0, .bool false], [(0, 3), (3, 3), (6, 1)]) := by kernel_rfl
theorem K15_sz135 : sizeB Tryz.prog 135 = some 7 := by kernel_rfl
theorem K15_ag135 : isAggB Tryz.prog 135 = some true := by kernel_rfl
theorem K15_fa24_1 : fieldB Tryz.prog 24 1 = some 1 := by kernel_rfl
theorem K15_fa137_0 : fieldB Tryz.prog 137 0 = some 0 := by kernel_rfl
theorem K15_ag137 : isAggB Tryz.prog 137 = some true := by kernel_rfl
theorem K15_sz137 : sizeB Tryz.prog 137 = some 2 := by kernel_rfl
theorem K15_go111 : isGo Tryz.prog 111 = true := by kernel_rfl
theorem K15_mixed : Tryz.prog.follows .mixedOrders = true := by kernel_rfl
theorem K15_fa24_2 : fieldB Tryz.prog 24 2 = some 2 := by kernel_rfl
theorem K15_sc22 : scalarB Tryz.prog 22 = some true := by kernel_rfl
theorem K15_go83 : isGo Tryz.prog 83 = true := by kernel_rfl
theorem K15_fa135_1 : fieldB Tryz.prog 135 1 = some 3 := by kernel_rfl
theorem K15_go64 : isGo Tryz.prog 64 = true := by kernel_rfl
theorem K15_fa135_0 : fieldB Tryz.prog 135 0 = some 0 := by kernel_rfl
theorem K15_go112 : isGo Tryz.prog 112 = true := by kernel_rfl
set_option maxRecDepth 100000 in
set_option maxHeartbeats 4000000 in
/-- (semigroup/derive.deriver).derivative -/
theorem derivI (w : World) (n : Bool) (x : Int) (v : Xv) (ih : ∀ k ∈ v.ks, ∀ w : World, szE (toE k) ≤ 400 → wf 6 (toE k) = true → Stays [] w (evm k) → Calls Tryz.prog 83 #[.agg #[.int .i64 x, .bool n], evv k] w (fun e w' => ∃ i : Xv × Xv × List Nat, (toE i.1 = (dv n x (toE k)).by' ∧ toE i.2.1 = (dv n x (toE k)).self) ∧ e = .returned (drv i.1 i.2.1 (dv n x (toE k)).nl) ∧ Post [] [fx (AllM [k]) [i.1, i.2.1] i.2.2] w w')) (hz : szE (toE v) ≤ 400) (hw : wf 6 (toE v) = true) (hv : Stays [] w (evm v)) : Calls Tryz.prog 83 #[.agg #[.int .i64 x, .bool n], evv v] w (fun e w' => ∃ i : Xv × Xv × List Nat, (toE i.1 = (dv n x (toE v)).by' ∧ toE i.2.1 = (dv n x (toE v)).self) ∧ e = .returned (drv i.1 i.2.1 (dv n x (toE v)).nl) ∧ Post [] [fx (AllM [v]) [i.1, i.2.1] i.2.2] w w') := by
 have hva : 0 < v.ks.length → v.a.isSome = true := fun h => (evm_iff.1 hv.now).1.isSome (j := 0) (by rw [flat_len evc_len]; omega)
 have hvl := (evm_iff.1 hv.now).2.2
 have hkn := kids_len v
 refine enter (args := [.agg #[.int .i64 x, .bool n], evv v]) [] 65 Tryz.func83 rfl rfl rfl ?_
 refine CT.seq (CT.region ?_)
 refine Wl.g rfl rfl (OpG.box (size := 2) rfl rfl rfl) ?_
 rintro b2 _
 refine Wl.g rfl rfl (OpG.box (size := 3) rfl rfl rfl) ?_
 rintro b3 _
 refine Wl.g rfl rfl (OpG.alloc (zs := [.int .i64 0, .int .i64 0, .slice none 0 0, .int .i64 0, .int .i64 0, .slice none 0 0, .bool false]) K15_in135 rfl rfl) ?_
 rintro b4 _
 refine Wl.nil (PX.then_n (CT.seq (CT.region ?_)))
 refine Wl.q rfl rfl (OpQ.build (cells := #[.int .i64 1, .int .i64 0, .slice none 0 0]) K15_pl24 rfl rfl) ?_
 refine Wl.q rfl rfl (OpQ.build (cells := #[.int .i64 2, .int .i64 0, .slice none 0 0]) K15_pl24 rfl rfl) ?_
 refine Wl.g rfl rfl (OpG.alloc (zs := [.int .i64 0, .int .i64 0, .slice none 0 0]) K15_in24 rfl rfl) ?_
 rintro b5 _
 refine Wl.g rfl rfl (OpG.alloc (zs := [.int .i64 0, .int .i64 0, .slice none 0 0]) K15_in24 rfl rfl) ?_
 rintro b6 _
 refine Wl.g rfl rfl (OpG.storeV (b := b5) K15_sz24 rfl rfl rfl rfl (by repeat (first | exact Upd.here | apply Upd.there))) ?_
 rintro _ _
 refine Wl.g rfl rfl (OpG.storeV (b := b6) K15_sz24 rfl rfl rfl rfl (by repeat (first | exact Upd.here | apply Upd.there))) ?_
 rintro _ _
 refine Wl.nil (PX.then_n (CT.seq (CT.seq (CT.region ?_))))
 refine Wl.q rfl rfl (OpQ.fieldAddr K15_fa24_0 rfl) ?_
 refine Wl.q rfl rfl (OpQ.loadF (b := b3) K15_sc3 rfl (by repeat (first | exact Has.here | apply Has.there)) (by rfl)) ?_
 refine Wl.nil (PX.then_n (CT.block (CT.seq (CT.region ?_))))
 refine Wl.q rfl rfl (OpQ.eql rfl rfl) ?_
 refine Wl.q rfl rfl (OpQ.assign rfl) ?_
 refine Wl.nil (PX.then_n ?_)
 refine CT.cond rfl (fun h13 => ?_) (fun h13 => ?_)
 ·
  have h13 := of_decide_eq_true h13
  refine CT.seq (CT.region ?_)
  refine Wl.q rfl rfl (OpQ.loadV (b := b5) K15_ag24 K15_sz24 rfl (by repeat (first | exact Has.here | apply Has.there)) (by rfl)) ?_
  refine Wl.know 15 (v' := evv (lfv 1 0)) rfl rfl ?_
  refine Wl.q rfl rfl (OpQ.loadV (b := b6) K15_ag24 K15_sz24 rfl (by repeat (first | exact Has.here | apply Has.there)) (by rfl)) ?_
  refine Wl.know 16 (v' := evv (lfv 2 0)) rfl rfl ?_
  refine Wl.q rfl rfl (OpQ.build (cells := #[.int .i64 (lfv 1 0).op, .int .i64 (lfv 1 0).lt, .slice (lfv 1 0).a (lfv 1 0).ks.length (lfv 1 0).c, .int .i64 (lfv 2 0).op, .int .i64 (lfv 2 0).lt, .slice (lfv 2 0).a (lfv 2 0).ks.length (lfv 2 0).c, .bool true]) K15_pl135 rfl (by kernel_rfl)) ?_
  refine Wl.g rfl rfl (OpG.storeV (b := b4) K15_sz135 rfl rfl rfl rfl (by repeat (first | exact Upd.here | apply Upd.there))) ?_
  rintro _ _
  refine Wl.nil (PX.then_n (CT.ret (PX.block_r (PX.then_r ?_))))
  refine PX.retC rfl rfl (by repeat (first | exact Has.here | apply Has.there)) K15_ag135 K15_sz135 (by rfl) (fun w' hH => ?_)
  exact ⟨(lfv 1 0, lfv 2 0, []), (by rw [dv_2 h13]; exact ⟨rfl, rfl⟩), (by rw [dv_2 h13]), HOk.post (HOk.fx0 (A := AllM [v]) (vs := [lfv 1 0, lfv 2 0]) (hH.take .nil) (fun w _ => AllM.two.2 ⟨by first | exact lfv_m _ _ w | (split <;> exact lfv_m _ _ w), lfv_m _ _ w⟩))⟩
 ·
  have h13 := of_decide_eq_false h13
  refine CT.seq (CT.region ?_)
  refine Wl.q rfl rfl (OpQ.eql rfl rfl) ?_
  refine Wl.q rfl rfl (OpQ.assign rfl) ?_
  refine Wl.nil (PX.then_n ?_)
  refine CT.cond rfl (fun h18 => ?_) (fun h18 => ?_)
  ·
   have h18 := of_decide_eq_true h18
   refine CT.cut (ι := Unit) (Φ := fun _ => True) (E' := fun _ => [(2, .pointer (some ⟨b2, 0, none⟩)), (3, .pointer (some ⟨b3, 0, none⟩)), (4, .pointer (some ⟨b4, 0, none⟩)), (5, .pointer (some ⟨b5, 0, none⟩)), (6, .pointer (some ⟨b6, 0, none⟩)), (12, .int .i64 v.op)]) (H' := fun _ => [.row 24 3 (vb b6) 1 (evc (lfv 2 0)), .row 24 3 (vb b5) 1 (evc (if v.lt = x then lfv 2 0 else lfv 1 0)), .row 135 7 (vb b4) 1 [.int .i64 0, .int .i64 0, .slice none 0 0, .int .i64 0, .int .i64 0, .slice none 0 0, .bool false], .row 24 3 (vb b3) 1 (evc v), .row 137 2 (vb b2) 1 [.int .i64 x, .bool n]]) (fun K0 hK0 => ?_) (fun _ _ => ?_)
   ·
    refine CT.seq (CT.region ?_)
    refine Wl.q rfl rfl (OpQ.fieldAddr K15_fa24_1 rfl) ?_
    refine Wl.q rfl rfl (OpQ.loadF (b := b3) K15_sc3 rfl (by repeat (first | exact Has.here | apply Has.there)) (by rfl)) ?_
    refine Wl.q rfl rfl (OpQ.fieldAddr K15_fa137_0 rfl) ?_
    refine Wl.q rfl rfl (OpQ.loadF (b := b2) K15_sc3 rfl (by repeat (first | exact Has.here | apply Has.there)) (by rfl)) ?_
    refine Wl.q rfl rfl (OpQ.eql rfl rfl) ?_
    refine Wl.nil (PX.then_n ?_)
    refine CT.cond rfl (fun h24 => ?_) (fun h24 => ?_)
    ·
     have h24 := of_decide_eq_true h24
     refine CT.region ?_
     refine Wl.q rfl rfl (OpQ.loadV (b := b6) K15_ag24 K15_sz24 rfl (by repeat (first | exact Has.here | apply Has.there)) (by rfl)) ?_
     refine Wl.know 25 (v' := evv (lfv 2 0)) rfl rfl ?_
     refine Wl.g rfl rfl (OpG.storeV (b := b5) K15_sz24 rfl rfl rfl rfl (by repeat (first | exact Upd.here | apply Upd.there))) ?_
     rintro _ _
     refine Wl.nil ?_
     exact PX.cut hK0 () trivial ⟨rfl, rfl, rfl, rfl, rfl, rfl, trivial⟩ (.keep rfl (.keep (row_eq (by rw [if_pos h24]; rfl)) (HSub.refl _)))
    ·
     have h24 := of_decide_eq_false h24
     refine CT.skip ?_
     exact PX.cut hK0 () trivial ⟨rfl, rfl, rfl, rfl, rfl, rfl, trivial⟩ (.keep rfl (.keep (row_eq (by rw [if_neg h24]; rfl)) (HSub.refl _)))
   ·
    refine CT.seq (CT.region ?_)
    refine Wl.q rfl rfl (OpQ.loadV (b := b5) K15_ag24 K15_sz24 rfl (by repeat (first | exact Has.here | apply Has.there)) (by rfl)) ?_
    refine Wl.know 26 (v' := evv (if v.lt = x then lfv 2 0 else lfv 1 0)) rfl rfl ?_
    refine Wl.q rfl rfl (OpQ.fieldAddr K15_fa24_1 rfl) ?_
    refine Wl.q rfl rfl (OpQ.loadF (b := b3) K15_sc3 rfl (by repeat (first | exact Has.here | apply Has.there)) (by rfl)) ?_
    refine Wl.q rfl rfl (OpQ.build (cells := #[.int .i64 3, .int .i64 v.lt, .slice none 0 0]) K15_pl24 rfl rfl) ?_
    refine Wl.q rfl rfl (OpQ.build (cells := #[.int .i64 (if v.lt = x then lfv 2 0 else lfv 1 0).op, .int .i64 (if v.lt = x then lfv 2 0 else lfv 1 0).lt, .slice (if v.lt = x then lfv 2 0 else lfv 1 0).a (if v.lt = x then lfv 2 0 else lfv 1 0).ks.length (if v.lt = x then lfv 2 0 else lfv 1 0).c, .int .i64 3, .int .i64 v.lt, .slice none 0 0, .bool false]) K15_pl135 rfl (by kernel_rfl)) ?_
    refine Wl.g rfl rfl (OpG.storeV (b := b4) K15_sz135 rfl rfl rfl rfl (by repeat (first | exact Upd.here | apply Upd.there))) ?_
    rintro _ _
    refine Wl.nil (PX.then_n (CT.ret (PX.block_r (PX.then_r ?_))))
    refine PX.retC rfl rfl (by repeat (first | exact Has.here | apply Has.there)) K15_ag135 K15_sz135 (by rfl) (fun w' hH => ?_)
    exact ⟨((if v.lt = x then lfv 2 0 else lfv 1 0), lfv 3 v.lt, []), (by rw [dv_3 h18]; exact ⟨by dsimp only; split <;> rfl, rfl⟩), (by rw [dv_3 h18]; rfl), HOk.post (HOk.fx0 (A := AllM [v]) (vs := [(if v.lt = x then lfv 2 0 else lfv 1 0), lfv 3 v.lt]) (hH.take .nil) (fun w _ => AllM.two.2 ⟨by first | exact lfv_m _ _ w | (split <;> exact lfv_m _ _ w), lfv_m _ _ w⟩))⟩
  ·
   have h18 := of_decide_eq_false h18
   refine CT.cut (ι := Unit) (Φ := fun _ => True) (E' := fun _ => [(2, .pointer (some ⟨b2, 0, none⟩)), (3, .pointer (some ⟨b3, 0, none⟩)), (4, .pointer (some ⟨b4, 0, none⟩)), (5, .pointer (some ⟨b5, 0, none⟩)), (6, .pointer (some ⟨b6, 0, none⟩)), (12, .int .i64 v.op), (31, .bool (decide (v.op = 4 ∨ v.op = 6 ∨ v.op = 8)))]) (H' := fun _ => [.row 24 3 (vb b6) 1 (evc (lfv 2 0)), .row 24 3 (vb b5) 1 (evc (lfv 1 0)), .row 135 7 (vb b4) 1 [.int .i64 0, .int .i64 0, .slice none 0 0, .int .i64 0, .int .i64 0, .slice none 0 0, .bool false], .row 24 3 (vb b3) 1 (evc v), .row 137 2 (vb b2) 1 [.int .i64 x, .bool n]]) (fun K1 hK1 => ?_) (fun _ _ => ?_)
   ·
    refine CT.seq (CT.region ?_)
    refine Wl.q rfl rfl (OpQ.eql rfl rfl) ?_
    refine Wl.q rfl rfl (OpQ.assign rfl) ?_
    refine Wl.nil (PX.then_n ?_)
    refine CT.cond rfl (fun h31 => ?_) (fun h31 => ?_)
    ·
     have h31 := of_decide_eq_true h31
     refine CT.skip ?_
     exact PX.cut hK1 () trivial ⟨rfl, rfl, rfl, rfl, rfl, rfl, (lkV rfl (congrArg Value.bool (by rw [decide_eq_decide]; omega))), trivial⟩ (HSub.refl _)
    ·
     have h31 := of_decide_eq_false h31
     refine CT.seq (CT.region ?_)
     refine Wl.q rfl rfl (OpQ.eql rfl rfl) ?_
     refine Wl.q rfl rfl (OpQ.assign rfl) ?_
     refine Wl.nil (PX.then_n ?_)
     refine CT.cond rfl (fun h31 => ?_) (fun h31 => ?_)
     ·
      have h31 := of_decide_eq_true h31
      refine CT.skip ?_
      exact PX.cut hK1 () trivial ⟨rfl, rfl, rfl, rfl, rfl, rfl, (lkV rfl (congrArg Value.bool (by rw [decide_eq_decide]; omega))), trivial⟩ (HSub.refl _)
     ·
      have h31 := of_decide_eq_false h31
      refine CT.region ?_
      refine Wl.q rfl rfl (OpQ.eql rfl rfl) ?_
      refine Wl.q rfl rfl (OpQ.assign rfl) ?_
      refine Wl.nil ?_
      exact PX.cut hK1 () trivial ⟨rfl, rfl, rfl, rfl, rfl, rfl, (lkV rfl (congrArg Value.bool (by rw [decide_eq_decide]; omega))), trivial⟩ (HSub.refl _)
   ·
    refine CT.cond rfl (fun h31 => ?_) (fun h31 => ?_)
    ·
     have h31 := of_decide_eq_true h31
     refine CT.seq (CT.region ?_)
     refine Wl.q rfl rfl (OpQ.loadV (b := b2) K15_ag137 K15_sz137 rfl (by repeat (first | exact Has.here | apply Has.there)) (by rfl)) ?_
     refine Wl.know 35 (v' := .agg #[.int .i64 x, .bool n]) rfl rfl ?_
     refine Wl.q rfl rfl (OpQ.loadV (b := b3) K15_ag24 K15_sz24 rfl (by repeat (first | exact Has.here | apply Has.there)) (by rfl)) ?_
     refine Wl.know 36 (v' := evv v) rfl rfl ?_
     refine Wl.g rfl rfl (OpG.callX K15_go111 rfl .nil (fun _ => (.cons .nil)) (fun w hH hp => bool_spec w n x v ih hz hw (hH.stays0 hv))) ?_
     rintro ⟨a37, c37, bs37⟩ ⟨h37b, h37s⟩
     refine Wl.g rfl rfl (OpG.storeV (b := b4) K15_sz135 rfl rfl rfl rfl (by repeat (first | exact Upd.here | apply Upd.there))) ?_
     rintro _ _
     refine Wl.nil (PX.then_n (CT.ret (PX.block_r (PX.then_r ?_))))
     refine PX.retC rfl rfl (by repeat (first | exact Has.here | apply Has.there)) K15_ag135 K15_sz135 (by rfl) (fun w' hH => ?_)
     rw [dv_b h31]
     exact ⟨(a37, c37, bs37), ⟨h37b, h37s⟩, rfl, HOk.post (hH.take (.cons .here .nil))⟩
    ·
     have h31 := of_decide_eq_false h31
     refine CT.seq (CT.region ?_)
     refine Wl.q rfl rfl (OpQ.eql rfl rfl) ?_
     refine Wl.q rfl rfl (OpQ.assign rfl) ?_
     refine Wl.nil (PX.then_n ?_)
     refine CT.cond rfl (fun h38 => ?_) (fun h38 => ?_)
     ·
      have h38 := of_decide_eq_true h38
      have h1k := wf_one hw (.inl h38)
      refine CT.cut (ι := Nat × Xv × Xv × List Nat) (Φ := fun (b7, p, q, bk) => toE p = (dv n x (toE (v.ks.getD 0 ev0))).by' ∧ toE q = (dv n x (toE (v.ks.getD 0 ev0))).self) (E' := fun (b7, p, q, bk) => [(2, .pointer (some ⟨b2, 0, none⟩)), (3, .pointer (some ⟨b3, 0, none⟩)), (4, .pointer (some ⟨b4, 0, none⟩)), (5, .pointer (some ⟨b5, 0, none⟩)), (6, .pointer (some ⟨b6, 0, none⟩)), (7, .pointer (some ⟨b7, 0, none⟩))]) (H' := fun (b7, p, q, bk) => [.row 135 7 (vb b7) 1 (drl p q (dv n x (toE (v.ks.getD 0 ev0))).nl), fx (AllM [(v.ks.getD 0 ev0)]) [p, q] bk, .row 24 3 (vb b6) 1 (evc (lfv 2 0)), .row 24 3 (vb b5) 1 (evc (lfv 1 0)), .row 135 7 (vb b4) 1 [.int .i64 0, .int .i64 0, .slice none 0 0, .int .i64 0, .int .i64 0, .slice none 0 0, .bool false], .row 24 3 (vb b3) 1 (evc v), .row 137 2 (vb b2) 1 [.int .i64 x, .bool n]]) (fun K2 hK2 => ?_) (fun ⟨b7, p, q, bk⟩ ⟨hp, hq⟩ => ?_)
      ·
       refine CT.draw 7 K15_mixed ?_
       refine RA.q 0 (by kernel_rfl) rfl rfl rfl (.refl _) (OpQ.loadV (b := b2) K15_ag137 K15_sz137 rfl (by repeat (first | exact Has.here | apply Has.there)) (by rfl)) ?_
       refine RA.know 40 (v' := .agg #[.int .i64 x, .bool n]) rfl rfl ?_
       refine RA.q 1 (by kernel_rfl) rfl rfl rfl (.refl _) (OpQ.fieldAddr K15_fa24_2 rfl) ?_
       refine RA.q 2 (by kernel_rfl) rfl rfl rfl (.refl _) (OpQ.loadF (b := b3) K15_sc22 rfl (by repeat (first | exact Has.here | apply Has.there)) (by rfl)) ?_
       refine RA.q 3 (by kernel_rfl) rfl rfl rfl (.refl _) (OpQ.index K15_un22 K15_sz24 rfl rfl (by omega) (hva (by omega))) ?_
       refine RA.q 4 (by kernel_rfl) rfl rfl rfl (.refl _) (OpQ.loadAggG (cs := evc (v.ks.getD 0 ev0)) K15_ag24 K15_sz24 rfl (fun w hH => (evm_iff.1 (hH.use hv)).1) (flat_cells evc_len v.ks ev0 (by omega))) ?_
       refine RA.know 44 (v' := evv (v.ks.getD 0 ev0)) rfl rfl ?_
       refine RA.two 5 6 (by kernel_rfl) rfl rfl rfl (OpG.callX K15_go83 rfl .nil (fun _ => (.cons .nil)) (fun w hH hp => ih _ (kid_mem (show 0 < v.ks.length by omega)) w (by have := kid_sz (kid_mem (show 0 < v.ks.length by omega)); omega) (wf_kid hw _ (kid_mem (show 0 < v.ks.length by omega))) ((hH.stays0 hv).mono (fun w h => (evm_iff.1 h).2.1 _ (kid_mem (show 0 < v.ks.length by omega)))))) (fun _ _ => (.cons _ (.refl _))) rfl rfl rfl (OpG.alloc (zs := [.int .i64 0, .int .i64 0, .slice none 0 0, .int .i64 0, .int .i64 0, .slice none 0 0, .bool false]) K15_in135 rfl rfl) (fun _ _ => (.cons _ (.refl _))) ?_ ?_
       ·
        rintro ⟨p, q, bk⟩ ⟨hp, hq⟩
        refine RA.f 6 (by kernel_rfl) rfl rfl rfl (OpG.alloc (zs := [.int .i64 0, .int .i64 0, .slice none 0 0, .int .i64 0, .int .i64 0, .slice none 0 0, .bool false]) K15_in135 rfl rfl) (fun _ _ => (.cons _ (.cons _ (.refl _)))) ?_
        rintro b7 _
        refine RA.tail ?_
        refine RT.f 7 (by kernel_rfl) rfl rfl rfl (OpG.storeV (b := b7) K15_sz135 rfl rfl rfl rfl (by repeat (first | exact Upd.here | apply Upd.there))) ?_
        rintro _ _
        refine RT.done (by kernel_rfl) ?_
        exact PX.cut hK2 (b7, p, q, bk) ⟨hp, hq⟩ ⟨rfl, rfl, rfl, rfl, rfl, rfl, trivial⟩ (HSub.refl _)
       ·
        rintro b7 _
        refine RA.f 5 (by kernel_rfl) rfl rfl rfl (OpG.callX K15_go83 rfl .nil (fun _ => (.cons .nil)) (fun w hH hp => ih _ (kid_mem (show 0 < v.ks.length by omega)) w (by have := kid_sz (kid_mem (show 0 < v.ks.length by omega)); omega) (wf_kid hw _ (kid_mem (show 0 < v.ks.length by omega))) ((hH.stays0 hv).mono (fun w h => (evm_iff.1 h).2.1 _ (kid_mem (show 0 < v.ks.length by omega)))))) (fun _ _ => (.cons _ (.cons _ (.refl _)))) ?_
        rintro ⟨p, q, bk⟩ ⟨hp, hq⟩
        refine RA.tail ?_
        refine RT.f 7 (by kernel_rfl) rfl rfl rfl (OpG.storeV (b := b7) K15_sz135 rfl rfl rfl rfl (by repeat (first | exact Upd.here | apply Upd.there))) ?_
        rintro _ _
        refine RT.perm (.swap _ _ _) ?_
        refine RT.done (by kernel_rfl) ?_
        exact PX.cut hK2 (b7, p, q, bk) ⟨hp, hq⟩ ⟨rfl, rfl, rfl, rfl, rfl, rfl, trivial⟩ (HSub.refl _)
      ·
       dsimp only
       have hkw := wf_kid hw _ (kid_mem (show 0 < v.ks.length by omega))
       have hks := kid_sz (kid_mem (show 0 < v.ks.length by omega))
       obtain ⟨hzb, hzs⟩ := dsz (n := n) (x := x) hkw (by omega)
       refine CT.seq (CT.region ?_)
       refine Wl.q rfl rfl (OpQ.fieldAddr K15_fa135_1 rfl) ?_
       refine Wl.q rfl rfl (OpQ.loadFA (b := b7) (cs := evc q) K15_ag24 K15_sz24 rfl (by repeat (first | exact Has.here | apply Has.there)) (fun _ _ h => drl_self h)) ?_
       refine Wl.know 47 (v' := evv q) rfl rfl ?_
       refine Wl.g rfl rfl (OpG.litS1 K15_un22 K15_in24 rfl (by decide) rfl) ?_
       rintro b48 _
       refine Wl.g rfl rfl (OpG.callX K15_go64 rfl .nil (fun _ => (.cons .nil)) (fun w hH hp => join_spec w 7 [q] (some ⟨b48, 0, none⟩) 1 (hH.kinS (e := 24) (n := 1) (cp := 1) (by repeat (first | exact Has.here | apply Has.there)) (fun w' he => (fun h => AllM.one.2 (AllM.two.1 h).2) ((hH.staysK0 (show Has _ (fx (AllM [(v.ks.getD 0 ev0)]) [p, q] bk) from (by repeat (first | exact Has.here | apply Has.there)))).frag w' he (((hH.stays0 hv).mono (fun w h => AllM.one.2 ((evm_iff.1 h).2.1 _ (kid_mem (show 0 < v.ks.length by omega))))) w' he)))) (by show szE (toE q) + 0 ≤ _; rw [hq]; omega))) ?_
       rintro ⟨r49, bs49⟩ h49
       refine Wl.g rfl rfl (OpG.alloc (zs := [.int .i64 0, .int .i64 0, .slice none 0 0]) K15_in24 rfl rfl) ?_
       rintro b8 _
       refine Wl.g rfl rfl (OpG.storeV (b := b8) K15_sz24 rfl rfl rfl rfl (by repeat (first | exact Upd.here | apply Upd.there))) ?_
       rintro _ _
       refine Wl.nil (PX.then_n (CT.seq ?_))
       refine CT.draw 7 K15_mixed ?_
       refine RA.q 0 (by kernel_rfl) rfl rfl rfl (.refl _) (OpQ.fieldAddr K15_fa135_0 rfl) ?_
       refine RA.q 1 (by kernel_rfl) rfl rfl rfl (.refl _) (OpQ.loadFA (b := b7) (cs := evc p) K15_ag24 K15_sz24 rfl (by repeat (first | exact Has.here | apply Has.there)) (fun _ _ h => drl_by h)) ?_
       refine RA.know 51 (v' := evv p) rfl rfl ?_
       refine RA.q 2 (by kernel_rfl) rfl rfl rfl (.refl _) (OpQ.loadV (b := b8) K15_ag24 K15_sz24 rfl (by repeat (first | exact Has.here | apply Has.there)) (by rfl)) ?_
       refine RA.know 52 (v' := evv r49) rfl rfl ?_
       refine RA.q 5 (by kernel_rfl) rfl rfl rfl (.refl _) (OpQ.loadV (b := b8) K15_ag24 K15_sz24 rfl (by repeat (first | exact Has.here | apply Has.there)) (by rfl)) ?_
       refine RA.know 55 (v' := evv r49) rfl rfl ?_
       refine RA.f 3 (by kernel_rfl) rfl rfl rfl (OpG.litS (vs := [.int .i64 p.op, .int .i64 p.lt, .slice p.a p.ks.length p.c, .int .i64 r49.op, .int .i64 r49.lt, .slice r49.a r49.ks.length r49.c]) K15_un22 K15_in24 rfl (by decide) (by kernel_rfl) rfl) (fun _ _ => (.cons _ (.refl _))) ?_
       rintro b53 _
       refine RA.f 4 (by kernel_rfl) rfl rfl rfl (OpG.callX K15_go64 rfl .nil (fun _ => (.cons .nil)) (fun w hH _ => join_spec w 5 [p, r49] (some ⟨b53, 0, none⟩) 2 (hH.kinS (e := 24) (n := 2) (cp := 2) (by repeat (first | exact Has.here | apply Has.there)) (fun w' he => AllM.two.2 ⟨(AllM.two.1 ((hH.staysK0 (show Has _ (fx (AllM [(v.ks.getD 0 ev0)]) [p, q] bk) from (by repeat (first | exact Has.here | apply Has.there)))).frag w' he (((hH.stays0 hv).mono (fun w h => AllM.one.2 ((evm_iff.1 h).2.1 _ (kid_mem (show 0 < v.ks.length by omega))))) w' he))).1, AllM.one.1 ((hH.staysK0 (show Has _ (fx (AllM [q]) [r49] bs49) from (by repeat (first | exact Has.here | apply Has.there)))).frag w' he (AllM.one.2 (AllM.two.1 ((hH.staysK0 (show Has _ (fx (AllM [(v.ks.getD 0 ev0)]) [p, q] bk) from (by repeat (first | exact Has.here | apply Has.there)))).frag w' he (((hH.stays0 hv).mono (fun w h => AllM.one.2 ((evm_iff.1 h).2.1 _ (kid_mem (show 0 < v.ks.length by omega))))) w' he))).2))⟩)) (by show szE (toE p) + (szE (toE r49) + 0) ≤ _; have h1 := (join_sz (o := 7) (ks := [toE q]) (by simp) (by simp)).1; rw [show toE r49 = join 7 [toE q] from h49]; simp only [szE.szL] at h1; rw [hq] at h1 ⊢; rw [hp]; omega))) (fun _ _ => (.cons _ (.cons _ (.refl _)))) ?_
       rintro ⟨r54, bs54⟩ h54
       refine RA.q 6 (by kernel_rfl) rfl rfl rfl (.cons _ (.cons _ (.refl _))) (OpQ.build (cells := #[.int .i64 r54.op, .int .i64 r54.lt, .slice r54.a r54.ks.length r54.c, .int .i64 r49.op, .int .i64 r49.lt, .slice r49.a r49.ks.length r49.c, .bool true]) K15_pl135 rfl (by kernel_rfl)) ?_
       refine RA.tail ?_
       refine RT.f 7 (by kernel_rfl) rfl rfl rfl (OpG.storeV (b := b4) K15_sz135 rfl rfl rfl rfl (by repeat (first | exact Upd.here | apply Upd.there))) ?_
       rintro _ _
       refine RT.done (by kernel_rfl) ?_
       refine PX.then_n (CT.ret (PX.block_r (PX.then_r ?_)))
       refine PX.retC rfl rfl (by repeat (first | exact Has.here | apply Has.there)) K15_ag135 K15_sz135 (by rfl) (fun w' hH => ?_)
       rw [dv_7 h38 h1k]
       have e49 : toE r49 = join 7 [(dv n x (toE (v.ks.getD 0 ev0))).self] := by rw [← hq]; exact h49
       refine ⟨(r54, r49, _), ⟨(show toE r54 = _ from by rw [← hp, ← e49]; exact h54), e49⟩, rfl, HOk.post (((((((hH.take (.cons (.there (.there (.there (.there (.there (.there .here)))))) (.cons (.there (.there (.there .here))) (.cons .here .nil)))).fxUp (B := AllM [v]) (fun w h => AllM.one.2 ((evm_iff.1 (AllM.one.1 h)).2.1 _ (kid_mem (show 0 < v.ks.length by omega))))).perm (.swap _ _ _)).fxAdd (us := [q]) (fun w h => AllM.one.2 (AllM.two.1 h).2)).perm (.swap _ _ _)).fxAdd (us := [p, r49]) (fun w h => AllM.two.2 ⟨h.snd p List.mem_cons_self, h r49 List.mem_cons_self⟩)).fxLess (us := [r54, r49]) (fun w h => AllM.two.2 ⟨h r54 List.mem_cons_self, h.snd r49 List.mem_cons_self⟩))⟩
     ·
      have h38 := of_decide_eq_false h38
      refine CT.seq (CT.region ?_)
      refine Wl.q rfl rfl (OpQ.eql rfl rfl) ?_
      refine Wl.q rfl rfl (OpQ.assign rfl) ?_
      refine Wl.nil (PX.then_n ?_)
      refine CT.cond rfl (fun h57 => ?_) (fun h57 => ?_)
      ·
       have h57 := of_decide_eq_true h57
       refine CT.seq (CT.region ?_)
       refine Wl.q rfl rfl (OpQ.loadV (b := b2) K15_ag137 K15_sz137 rfl (by repeat (first | exact Has.here | apply Has.there)) (by rfl)) ?_
       refine Wl.know 59 (v' := .agg #[.int .i64 x, .bool n]) rfl rfl ?_
       refine Wl.q rfl rfl (OpQ.loadV (b := b3) K15_ag24 K15_sz24 rfl (by repeat (first | exact Has.here | apply Has.there)) (by rfl)) ?_
       refine Wl.know 60 (v' := evv v) rfl rfl ?_
       refine Wl.g rfl rfl (OpG.callX K15_go112 rfl .nil (fun _ => (.cons .nil)) (fun w hH hp => cat_spec w n x v ih hz hw (hH.stays0 hv) h57)) ?_
       rintro ⟨a61, c61, bs61⟩ ⟨h61b, h61s⟩
       refine Wl.g rfl rfl (OpG.storeV (b := b4) K15_sz135 rfl rfl rfl rfl (by repeat (first | exact Upd.here | apply Upd.there))) ?_
       rintro _ _
       refine Wl.nil (PX.then_n (CT.ret (PX.block_r (PX.then_r ?_))))
       refine PX.retC rfl rfl (by repeat (first | exact Has.here | apply Has.there)) K15_ag135 K15_sz135 (by rfl) (fun w' hH => ?_)
       exact ⟨(a61, c61, bs61), ⟨h61b, h61s⟩, rfl, HOk.post (hH.take (.cons .here .nil))⟩
      ·
       have h57 := of_decide_eq_false h57
       refine CT.skip (PX.block_n (PX.then_n (CT.seq (CT.region ?_))))
       refine Wl.q rfl rfl (OpQ.loadV (b := b5) K15_ag24 K15_sz24 rfl (by repeat (first | exact Has.here | apply Has.there)) (by rfl)) ?_
       refine Wl.know 62 (v' := evv (lfv 1 0)) rfl rfl ?_
       refine Wl.q rfl rfl (OpQ.loadV (b := b5) K15_ag24 K15_sz24 rfl (by repeat (first | exact Has.here | apply Has.there)) (by rfl)) ?_
       refine Wl.know 63 (v' := evv (lfv 1 0)) rfl rfl ?_
       refine Wl.q rfl rfl (OpQ.build (cells := #[.int .i64 (lfv 1 0).op, .int .i64 (lfv 1 0).lt, .slice (lfv 1 0).a (lfv 1 0).ks.length (lfv 1 0).c, .int .i64 (lfv 1 0).op, .int .i64 (lfv 1 0).lt, .slice (lfv 1 0).a (lfv 1 0).ks.length (lfv 1 0).c, .bool false]) K15_pl135 rfl (by kernel_rfl)) ?_
       refine Wl.g rfl rfl (OpG.storeV (b := b4) K15_sz135 rfl rfl rfl rfl (by repeat (first | exact Upd.here | apply Upd.there))) ?_
       rintro _ _
       refine Wl.nil (PX.then_n (CT.ret ?_))
       refine PX.retC rfl rfl (by repeat (first | exact Has.here | apply Has.there)) K15_ag135 K15_sz135 (by rfl) (fun w' hH => ?_)
       exact ⟨(lfv 1 0, lfv 1 0, []), (by rw [dv_0 h13 h18 h31 h38 h57]; exact ⟨rfl, rfl⟩), (by rw [dv_0 h13 h18 h31 h38 h57]), HOk.post (HOk.fx0 (A := AllM [v]) (vs := [lfv 1 0, lfv 1 0]) (hH.take .nil) (fun w _ => AllM.two.2 ⟨by first | exact lfv_m _ _ w | (split <;> exact lfv_m _ _ w), lfv_m _ _ w⟩))⟩
theorem deriv_spec (n : Bool) (x : Int) (v : Xv) : ∀ w : World, szE (toE v) ≤ 400 → wf 6 (toE v) = true → Stays [] w (evm v) → Calls Tryz.prog 83 #[.agg #[.int .i64 x, .bool n], evv v] w (fun e w' => ∃ i : Xv × Xv × List Nat, (toE i.1 = (dv n x (toE v)).by' ∧ toE i.2.1 = (dv n x (toE v)).self) ∧ e = .returned (drv i.1 i.2.1 (dv n x (toE v)).nl) ∧ Post [] [fx (AllM [v]) [i.1, i.2.1] i.2.2] w w') := Xv.ind (p := fun v => ∀ w : World, szE (toE v) ≤ 400 → wf 6 (toE v) = true → Stays [] w (evm v) → Calls Tryz.prog 83 #[.agg #[.int .i64 x, .bool n], evv v] w (fun e w' => ∃ i : Xv × Xv × List Nat, (toE i.1 = (dv n x (toE v)).by' ∧ toE i.2.1 = (dv n x (toE v)).self) ∧ e = .returned (drv i.1 i.2.1 (dv n x (toE v)).nl) ∧ Post [] [fx (AllM [v]) [i.1, i.2.1] i.2.2] w w')) (fun v ih w hz hw hv => derivI w n x v ih hz hw hv) v

end Go.Proofs.YtmggcdegekbncabGreatDoor

