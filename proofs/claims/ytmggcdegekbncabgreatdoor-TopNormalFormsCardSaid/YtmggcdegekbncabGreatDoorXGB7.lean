/-
  What functions of the program compute, each by its walk. Conditions: those that each theorem names.
-/
import Derived.Test.YtmggcdegekbncabGreatDoorEng1
import Derived.Test.YtmggcdegekbncabGreatDoorXGB6
import Derived.Test.YtmggcdegekbncabGreatDoorXF
set_option linter.unusedSimpArgs false
namespace Go.Proofs.YtmggcdegekbncabGreatDoor
open Go Go.Eng Go.Am Go.Ex
open Go.Tp (zi)
open Go.Tl (mayL Wd okW okB bo)
open Go.Ex.simp (simpL)
open Go.Ex.dv (dvL dvC)
open Go.Ex.hasU (hasAny hasAll)
open Go.Ex.wf (wfL)
open Go.Ex.szE (szL)
open Go.Ex.dpE (dpL)
open Go.Ex.cmpE (cmpL)
open Go.Ex.fmtE (fmtK fmtR)
theorem K7_fa24_2 : fieldB Tryz.prog 24 2 = some 2 := by kernel_rfl
theorem K7_sc22 : scalarB Tryz.prog 22 = some true := by kernel_rfl
theorem K7_un22 : Tryz.prog.underlying 22 = some (.slice 24) := by kernel_rfl
theorem K7_sz24 : sizeB Tryz.prog 24 = some 3 := by kernel_rfl
theorem K7_ag24 : isAggB Tryz.prog 24 = some true := by kernel_rfl
theorem K7_go47 : isGo Tryz.prog 47 = true := by kernel_rfl
set_option maxRecDepth 100000 in
/-- semigroup/semigroupref04.measure -/
theorem measure_specI (w : World) (m : Nat) (hm : 1 ≤ m ∧ m ≤ 100000) (v : Xv) (hv : Stays [] w (evm v)) (ih : ∀ k ∈ v.ks, ∀ w : World, Stays [] w (evm k) → Calls Tryz.prog 47 #[evv k, .int .i64 ((m : Nat) : Int)] w (fun e w' => ∃ i : Nat × Int, MeasR k m i ∧ e = .returned (.tuple #[.int .i64 ((i.1 : Nat) : Int), .int .i64 i.2]) ∧ Ext [] w w')) : Calls Tryz.prog 47 #[evv v, .int .i64 ((m : Nat) : Int)] w (fun e w' => ∃ i : Nat × Int, MeasR v m i ∧ e = .returned (.tuple #[.int .i64 ((i.1 : Nat) : Int), .int .i64 i.2]) ∧ Ext [] w w') := by
 have hva : 0 < v.ks.length → v.a.isSome = true := fun h => (evm_iff.1 hv.now).1.isSome (j := 0) (by rw [flat_len evc_len]; omega)
 have hvl := (evm_iff.1 hv.now).2.2
 refine enter (args := [evv v, .int .i64 ((m : Nat) : Int)]) [] 45 Tryz.func47 rfl rfl rfl ?_
 refine CT.seq (CT.region ?_)
 refine Wl.g rfl rfl (OpG.box (size := 3) rfl rfl rfl) ?_
 rintro b2 _
 refine Wl.q rfl rfl (OpQ.assign rfl) ?_
 refine Wl.q rfl rfl (OpQ.assign rfl) ?_
 refine Wl.nil (PX.then_n (CT.seq (CT.region ?_)))
 refine Wl.q rfl rfl (OpQ.assign rfl) ?_
 refine Wl.q rfl rfl (OpQ.assign rfl) ?_
 refine Wl.nil (PX.then_n (CT.seq (CT.seq (CT.region ?_))))
 refine Wl.q rfl rfl (OpQ.assign rfl) ?_
 refine Wl.nil (PX.then_n (CT.block ?_))
 refine CT.loop (ι := Nat × Nat × Int) (fun (k, n, dp) => k ≤ v.ks.length ∧ MeasI v m k n dp) (fun (k, n, dp) => [(1, .int .i64 ((m : Nat) : Int)), (2, .pointer (some ⟨b2, 0, none⟩)), (6, .int .i64 ((n : Nat) : Int)), (7, .int .i64 dp), (8, .int .i64 ((k : Nat) : Int))]) (fun (k, n, dp) => [.row 24 3 (vb b2) 1 (evc v)]) (fun (k, n, dp) => v.ks.length - k) (0, 1, 0) ⟨Nat.zero_le _, MeasI.start v hm.1⟩ ⟨rfl, rfl, rfl, rfl, rfl, trivial⟩ (HSub.refl _) (fun ⟨k, n, dp⟩ ⟨hk, hM⟩ K0 hK0 => ?_)
 dsimp only
 have hMl := hM.le
 refine CT.seq (CT.seq (CT.region ?_))
 refine Wl.q rfl rfl (OpQ.move rfl) ?_
 refine Wl.q rfl rfl (OpQ.fieldAddr K7_fa24_2 rfl) ?_
 refine Wl.q rfl rfl (OpQ.loadF (b := b2) K7_sc22 rfl (by repeat (first | exact Has.here | apply Has.there)) (by rfl)) ?_
 refine Wl.q rfl rfl (OpQ.len K7_un22 rfl) ?_
 refine Wl.q rfl rfl (OpQ.lss rfl rfl) ?_
 refine Wl.q rfl rfl (OpQ.move rfl) ?_
 refine Wl.split 16 rfl (fun hg16 => ?_) (fun hg16 => ?_)
 ·
  have hg16 := of_decide_eq_true hg16
  refine Wl.q rfl rfl (OpQ.move rfl) ?_
  refine Wl.q rfl rfl (OpQ.move rfl) ?_
  refine Wl.q rfl rfl (OpQ.leq rfl rfl) ?_
  refine Wl.q rfl rfl (OpQ.pickT rfl rfl) ?_
  refine Wl.nil (PX.then_n ?_)
  refine CT.cond rfl (fun h20 => ?_) (fun h20 => ?_)
  ·
   have hnm : n ≤ m := by have := of_decide_eq_true h20; omega
   refine CT.skip (PX.then_n (CT.seq (CT.block (CT.seq (CT.region ?_)))))
   refine Wl.q rfl rfl (OpQ.fieldAddr K7_fa24_2 rfl) ?_
   refine Wl.q rfl rfl (OpQ.loadF (b := b2) K7_sc22 rfl (by repeat (first | exact Has.here | apply Has.there)) (by rfl)) ?_
   refine Wl.q rfl rfl (OpQ.move rfl) ?_
   have hkl : k < v.ks.length := by omega
   refine Wl.q rfl rfl (OpQ.index K7_un22 K7_sz24 rfl rfl (by omega) (hva (by omega))) ?_
   refine Wl.q rfl rfl (OpQ.loadAggG (cs := evc (v.ks.getD k ev0)) K7_ag24 K7_sz24 rfl (fun w hH => (evm_iff.1 (hH.use hv)).1) (flat_cells evc_len v.ks ev0 (by omega))) ?_
   refine Wl.know 28 (v' := evv (v.ks.getD k ev0)) rfl rfl ?_
   refine Wl.q rfl rfl (OpQ.move rfl) ?_
   refine Wl.g rfl rfl (OpG.call K7_go47 rfl (fun w hH => (ih _ (kid_mem hkl) w ((hH.stays0 hv).mono (fun w h => (evm_iff.1 h).2.1 _ (kid_mem hkl)))).mono fun e w' ⟨i, h1, h2, h3⟩ => ⟨i, h1, h2, hH.ext_nil h3⟩)) ?_
   rintro i30 hi30
   have hi30l := hi30.le
   refine Wl.q rfl rfl (OpQ.move rfl) ?_
   refine Wl.q rfl rfl (OpQ.extract rfl rfl) ?_
   refine Wl.q rfl rfl (OpQ.extract rfl rfl) ?_
   refine Wl.q rfl rfl (OpQ.assign rfl) ?_
   refine Wl.q rfl rfl (OpQ.assign rfl) ?_
   refine Wl.nil (PX.then_n (CT.region ?_))
   refine Wl.q rfl rfl (OpQ.move rfl) ?_
   refine Wl.q rfl rfl (OpQ.move rfl) ?_
   refine Wl.q rfl rfl (OpQ.add rfl rfl (by omega)) ?_
   refine Wl.q rfl rfl (OpQ.move rfl) ?_
   refine Wl.q rfl rfl (OpQ.add rfl rfl (by omega)) ?_
   refine Wl.q rfl rfl (OpQ.imin rfl rfl) ?_
   refine Wl.q rfl rfl (OpQ.move rfl) ?_
   refine Wl.q rfl rfl (OpQ.move rfl) ?_
   refine Wl.q rfl rfl (OpQ.max rfl rfl) ?_
   refine Wl.q rfl rfl (OpQ.assign rfl) ?_
   refine Wl.q rfl rfl (OpQ.assign rfl) ?_
   refine Wl.nil (PX.block_n (PX.then_n (CT.region ?_)))
   refine Wl.q rfl rfl (OpQ.move rfl) ?_
   refine Wl.q rfl rfl (OpQ.add rfl rfl (by omega)) ?_
   refine Wl.q rfl rfl (OpQ.assign rfl) ?_
   refine Wl.nil ?_
   exact PX.loop hK0 (k + 1, min (n + i30.1) (m + 1), max dp i30.2) ⟨by omega, hM.step hkl hnm hi30⟩ (show v.ks.length - (k + 1) < v.ks.length - k by omega) ⟨rfl, rfl, (lkV rfl (congrArg (Value.int .i64) (by omega))), (lkV rfl (congrArg (Value.int .i64) (by split <;> omega))), rfl, trivial⟩ (HSub.refl _)
  ·
   have hnm : m < n := by have := of_decide_eq_false h20; omega
   refine CT.exit (PX.then_x (PX.then_x (PX.block_x (PX.then_n (CT.seq (CT.region ?_))))))
   refine Wl.q rfl rfl (OpQ.move rfl) ?_
   refine Wl.q rfl rfl (OpQ.move rfl) ?_
   refine Wl.q rfl rfl (OpQ.addw rfl rfl) ?_
   refine Wl.q rfl rfl (OpQ.assign rfl) ?_
   refine Wl.q rfl rfl (OpQ.assign rfl) ?_
   refine Wl.nil (PX.then_n (CT.ret ?_))
   refine PX.ret2 rfl rfl rfl (fun w' hH => ?_)
   exact ⟨(n, _), hM.done hk (fun hh => by omega) (fun hh => by omega), rfl, hH.ext⟩
 ·
  have hg16 := of_decide_eq_false hg16
  refine Wl.skip rfl rfl ?_
  refine Wl.skip rfl rfl ?_
  refine Wl.skip rfl rfl ?_
  refine Wl.q rfl rfl (OpQ.pickF rfl rfl) ?_
  refine Wl.nil (PX.then_n ?_)
  refine CT.condF rfl ?_
  refine CT.exit (PX.then_x (PX.then_x (PX.block_x (PX.then_n (CT.seq (CT.region ?_))))))
  refine Wl.q rfl rfl (OpQ.move rfl) ?_
  refine Wl.q rfl rfl (OpQ.move rfl) ?_
  refine Wl.q rfl rfl (OpQ.addw rfl rfl) ?_
  refine Wl.q rfl rfl (OpQ.assign rfl) ?_
  refine Wl.q rfl rfl (OpQ.assign rfl) ?_
  refine Wl.nil (PX.then_n (CT.ret ?_))
  refine PX.ret2 rfl rfl rfl (fun w' hH => ?_)
  obtain rfl : k = v.ks.length := by omega
  exact ⟨(n, _), hM.done hk (fun hh => by omega) (fun hh => by obtain ⟨a, b⟩ := hM.ok hh; have h1 := dp_le_sz (toE v); have h2 := sz_full v; have h3 := dp_full v; exact wrap_i64 (by omega)), rfl, hH.ext⟩
theorem measure_spec (m : Nat) (hm : 1 ≤ m ∧ m ≤ 100000) (v : Xv) : ∀ w : World, Stays [] w (evm v) → Calls Tryz.prog 47 #[evv v, .int .i64 ((m : Nat) : Int)] w (fun e w' => ∃ i : Nat × Int, MeasR v m i ∧ e = .returned (.tuple #[.int .i64 ((i.1 : Nat) : Int), .int .i64 i.2]) ∧ Ext [] w w') := Xv.ind (p := fun v => ∀ w : World, Stays [] w (evm v) → Calls Tryz.prog 47 #[evv v, .int .i64 ((m : Nat) : Int)] w (fun e w' => ∃ i : Nat × Int, MeasR v m i ∧ e = .returned (.tuple #[.int .i64 ((i.1 : Nat) : Int), .int .i64 i.2]) ∧ Ext [] w w')) (fun v ih w hv => measure_specI w m hm v hv ih) v

theorem K7_fa24_0 : fieldB Tryz.prog 24 0 = some 0 := by kernel_rfl
theorem K7_sc3 : scalarB Tryz.prog 3 = some true := by kernel_rfl
theorem K7_fa24_1 : fieldB Tryz.prog 24 1 = some 1 := by kernel_rfl
theorem K7_go46 : isGo Tryz.prog 46 = true := by kernel_rfl
set_option maxRecDepth 100000 in
/-- semigroup/semigroupref04.shaped -/
theorem shaped_specI (w : World) (L : Int) (v : Xv) (hv : Stays [] w (evm v)) (ih : ∀ k ∈ v.ks, ∀ w : World, Stays [] w (evm k) → Calls Tryz.prog 46 #[evv k, .int .i64 L] w (fun e w' => e = .returned (.bool (wf L (toE k))) ∧ Ext [] w w')) : Calls Tryz.prog 46 #[evv v, .int .i64 L] w (fun e w' => e = .returned (.bool (wf L (toE v))) ∧ Ext [] w w') := by
 have hva : 0 < v.ks.length → v.a.isSome = true := fun h => (evm_iff.1 hv.now).1.isSome (j := 0) (by rw [flat_len evc_len]; omega)
 have hvl := (evm_iff.1 hv.now).2.2
 refine enter (args := [evv v, .int .i64 L]) [] 74 Tryz.func46 rfl rfl rfl ?_
 refine CT.seq (CT.region ?_)
 refine Wl.g rfl rfl (OpG.box (size := 3) rfl rfl rfl) ?_
 rintro b2 _
 refine Wl.q rfl rfl (OpQ.assign rfl) ?_
 refine Wl.nil (PX.then_n (CT.seq (CT.region ?_)))
 refine Wl.q rfl rfl (OpQ.fieldAddr K7_fa24_2 rfl) ?_
 refine Wl.q rfl rfl (OpQ.loadF (b := b2) K7_sc22 rfl (by repeat (first | exact Has.here | apply Has.there)) (by rfl)) ?_
 refine Wl.q rfl rfl (OpQ.len K7_un22 rfl) ?_
 refine Wl.know 10 (v' := .int .i64 ((v.ks.length : Nat) : Int)) rfl rfl ?_
 refine Wl.q rfl rfl (OpQ.assign rfl) ?_
 refine Wl.nil (PX.then_n ?_)
 refine CT.cut (ι := Unit) (Φ := fun _ => True) (E' := fun _ => [(1, .int .i64 L), (2, .pointer (some ⟨b2, 0, none⟩)), (5, .int .i64 ((v.ks.length : Nat) : Int)), (6, .bool (decide (1 ≤ v.op ∧ v.op ≤ 8)))]) (H' := fun _ => [.row 24 3 (vb b2) 1 (evc v)]) (fun K0 hK0 => ?_) (fun _ _ => ?_)
 ·
  refine CT.region ?_
  refine Wl.q rfl rfl (OpQ.fieldAddr K7_fa24_0 rfl) ?_
  refine Wl.q rfl rfl (OpQ.loadF (b := b2) K7_sc3 rfl (by repeat (first | exact Has.here | apply Has.there)) (by rfl)) ?_
  refine Wl.q rfl rfl (OpQ.geq rfl rfl) ?_
  refine Wl.q rfl rfl (OpQ.move rfl) ?_
  refine Wl.split 14 rfl (fun hg14 => ?_) (fun hg14 => ?_)
  ·
   have hg14 := of_decide_eq_true hg14
   refine Wl.q rfl rfl (OpQ.fieldAddr K7_fa24_0 rfl) ?_
   refine Wl.q rfl rfl (OpQ.loadF (b := b2) K7_sc3 rfl (by repeat (first | exact Has.here | apply Has.there)) (by rfl)) ?_
   refine Wl.q rfl rfl (OpQ.leq rfl rfl) ?_
   refine Wl.q rfl rfl (OpQ.pickT rfl rfl) ?_
   refine Wl.q rfl rfl (OpQ.assign rfl) ?_
   refine Wl.nil ?_
   exact PX.cut hK0 () trivial ⟨rfl, rfl, rfl, (lkV rfl (congrArg Value.bool (by rw [decide_eq_decide]; omega))), trivial⟩ (HSub.refl _)
  ·
   have hg14 := of_decide_eq_false hg14
   refine Wl.skip rfl rfl ?_
   refine Wl.skip rfl rfl ?_
   refine Wl.skip rfl rfl ?_
   refine Wl.q rfl rfl (OpQ.pickF rfl rfl) ?_
   refine Wl.q rfl rfl (OpQ.assign rfl) ?_
   refine Wl.nil ?_
   exact PX.cut hK0 () trivial ⟨rfl, rfl, rfl, (lkV rfl (congrArg Value.bool (decide_eq_false (by omega)).symm)), trivial⟩ (HSub.refl _)
 ·
  refine CT.cut (ι := Unit) (Φ := fun _ => True) (E' := fun _ => [(1, .int .i64 L), (2, .pointer (some ⟨b2, 0, none⟩)), (5, .int .i64 ((v.ks.length : Nat) : Int)), (6, .bool (decide ((v.op = 1 ∨ v.op = 2 ∨ v.op = 3) ∧ ((v.ks.length : Nat) : Int) = 0 ∨ (v.op = 7 ∨ v.op = 8) ∧ ((v.ks.length : Nat) : Int) = 1 ∨ (v.op ≠ 1 ∧ v.op ≠ 2 ∧ v.op ≠ 3 ∧ v.op ≠ 7 ∧ v.op ≠ 8 ∧ 1 ≤ v.op ∧ v.op ≤ 8 ∧ 2 ≤ ((v.ks.length : Nat) : Int)))))]) (H' := fun _ => [.row 24 3 (vb b2) 1 (evc v)]) (fun K1 hK1 => ?_) (fun _ _ => ?_)
  ·
   refine CT.seq (CT.region ?_)
   refine Wl.q rfl rfl (OpQ.fieldAddr K7_fa24_0 rfl) ?_
   refine Wl.q rfl rfl (OpQ.loadF (b := b2) K7_sc3 rfl (by repeat (first | exact Has.here | apply Has.there)) (by rfl)) ?_
   refine Wl.nil (PX.then_n (CT.block ?_))
   refine CT.cut (ι := Unit) (Φ := fun _ => True) (E' := fun _ => [(1, .int .i64 L), (2, .pointer (some ⟨b2, 0, none⟩)), (5, .int .i64 ((v.ks.length : Nat) : Int)), (6, .bool (decide (1 ≤ v.op ∧ v.op ≤ 8))), (20, .int .i64 v.op), (26, .bool (decide (v.op = 1 ∨ v.op = 2 ∨ v.op = 3)))]) (H' := fun _ => [.row 24 3 (vb b2) 1 (evc v)]) (fun K2 hK2 => ?_) (fun _ _ => ?_)
   ·
    refine CT.seq (CT.region ?_)
    refine Wl.q rfl rfl (OpQ.eql rfl rfl) ?_
    refine Wl.q rfl rfl (OpQ.assign rfl) ?_
    refine Wl.nil (PX.then_n ?_)
    refine CT.cond rfl (fun h26 => ?_) (fun h26 => ?_)
    ·
     have h26 := of_decide_eq_true h26
     refine CT.skip ?_
     exact PX.cut hK2 () trivial ⟨rfl, rfl, rfl, rfl, rfl, (lkV rfl (congrArg Value.bool (by rw [decide_eq_decide]; omega))), trivial⟩ (HSub.refl _)
    ·
     have h26 := of_decide_eq_false h26
     refine CT.seq (CT.region ?_)
     refine Wl.q rfl rfl (OpQ.eql rfl rfl) ?_
     refine Wl.q rfl rfl (OpQ.assign rfl) ?_
     refine Wl.nil (PX.then_n ?_)
     refine CT.cond rfl (fun h26 => ?_) (fun h26 => ?_)
     ·
      have h26 := of_decide_eq_true h26
      refine CT.skip ?_
      exact PX.cut hK2 () trivial ⟨rfl, rfl, rfl, rfl, rfl, (lkV rfl (congrArg Value.bool (by rw [decide_eq_decide]; omega))), trivial⟩ (HSub.refl _)
     ·
      have h26 := of_decide_eq_false h26
      refine CT.region ?_
      refine Wl.q rfl rfl (OpQ.eql rfl rfl) ?_
      refine Wl.q rfl rfl (OpQ.assign rfl) ?_
      refine Wl.nil ?_
      exact PX.cut hK2 () trivial ⟨rfl, rfl, rfl, rfl, rfl, (lkV rfl (congrArg Value.bool (by rw [decide_eq_decide]; omega))), trivial⟩ (HSub.refl _)
   ·
    refine CT.cond rfl (fun h26 => ?_) (fun h26 => ?_)
    ·
     have h26 := of_decide_eq_true h26
     refine CT.region ?_
     refine Wl.q rfl rfl (OpQ.move rfl) ?_
     refine Wl.q rfl rfl (OpQ.eql rfl rfl) ?_
     refine Wl.q rfl rfl (OpQ.assign rfl) ?_
     refine Wl.nil (PX.block_n ?_)
     exact PX.cut hK1 () trivial ⟨rfl, rfl, rfl, (lkV rfl (congrArg Value.bool (by rw [decide_eq_decide]; omega))), trivial⟩ (HSub.refl _)
    ·
     have h26 := of_decide_eq_false h26
     refine CT.cut (ι := Unit) (Φ := fun _ => True) (E' := fun _ => [(1, .int .i64 L), (2, .pointer (some ⟨b2, 0, none⟩)), (5, .int .i64 ((v.ks.length : Nat) : Int)), (6, .bool (decide (1 ≤ v.op ∧ v.op ≤ 8))), (32, .bool (decide (v.op = 7 ∨ v.op = 8)))]) (H' := fun _ => [.row 24 3 (vb b2) 1 (evc v)]) (fun K3 hK3 => ?_) (fun _ _ => ?_)
     ·
      refine CT.seq (CT.region ?_)
      refine Wl.q rfl rfl (OpQ.eql rfl rfl) ?_
      refine Wl.q rfl rfl (OpQ.assign rfl) ?_
      refine Wl.nil (PX.then_n ?_)
      refine CT.cond rfl (fun h32 => ?_) (fun h32 => ?_)
      ·
       have h32 := of_decide_eq_true h32
       refine CT.skip ?_
       exact PX.cut hK3 () trivial ⟨rfl, rfl, rfl, rfl, (lkV rfl (congrArg Value.bool (by rw [decide_eq_decide]; omega))), trivial⟩ (HSub.refl _)
      ·
       have h32 := of_decide_eq_false h32
       refine CT.region ?_
       refine Wl.q rfl rfl (OpQ.eql rfl rfl) ?_
       refine Wl.q rfl rfl (OpQ.assign rfl) ?_
       refine Wl.nil ?_
       exact PX.cut hK3 () trivial ⟨rfl, rfl, rfl, rfl, (lkV rfl (congrArg Value.bool (by rw [decide_eq_decide]; omega))), trivial⟩ (HSub.refl _)
     ·
      refine CT.cond rfl (fun h32 => ?_) (fun h32 => ?_)
      ·
       have h32 := of_decide_eq_true h32
       refine CT.region ?_
       refine Wl.q rfl rfl (OpQ.move rfl) ?_
       refine Wl.q rfl rfl (OpQ.eql rfl rfl) ?_
       refine Wl.q rfl rfl (OpQ.assign rfl) ?_
       refine Wl.nil (PX.block_n ?_)
       exact PX.cut hK1 () trivial ⟨rfl, rfl, rfl, (lkV rfl (congrArg Value.bool (by rw [decide_eq_decide]; omega))), trivial⟩ (HSub.refl _)
      ·
       have h32 := of_decide_eq_false h32
       refine CT.region ?_
       refine Wl.q rfl rfl (OpQ.move rfl) ?_
       refine Wl.q rfl rfl (OpQ.move rfl) ?_
       refine Wl.split 22 rfl (fun hg22 => ?_) (fun hg22 => ?_)
       ·
        have hg22 := of_decide_eq_true hg22
        refine Wl.q rfl rfl (OpQ.move rfl) ?_
        refine Wl.q rfl rfl (OpQ.geq rfl rfl) ?_
        refine Wl.q rfl rfl (OpQ.pickT rfl rfl) ?_
        refine Wl.q rfl rfl (OpQ.assign rfl) ?_
        refine Wl.nil (PX.block_n ?_)
        exact PX.cut hK1 () trivial ⟨rfl, rfl, rfl, (lkV rfl (congrArg Value.bool (by rw [decide_eq_decide]; omega))), trivial⟩ (HSub.refl _)
       ·
        have hg22 := of_decide_eq_false hg22
        refine Wl.skip rfl rfl ?_
        refine Wl.skip rfl rfl ?_
        refine Wl.q rfl rfl (OpQ.pickF rfl rfl) ?_
        refine Wl.q rfl rfl (OpQ.assign rfl) ?_
        refine Wl.nil (PX.block_n ?_)
        exact PX.cut hK1 () trivial ⟨rfl, rfl, rfl, (lkV rfl (congrArg Value.bool (decide_eq_false (by omega)).symm)), trivial⟩ (HSub.refl _)
  ·
   refine CT.cut (ι := Unit) (Φ := fun _ => True) (E' := fun _ => [(1, .int .i64 L), (2, .pointer (some ⟨b2, 0, none⟩)), (5, .int .i64 ((v.ks.length : Nat) : Int)), (6, .bool (wfN L v.op v.lt v.ks.length))]) (H' := fun _ => [.row 24 3 (vb b2) 1 (evc v)]) (fun K4 hK4 => ?_) (fun _ _ => ?_)
   ·
    refine CT.seq (CT.region ?_)
    refine Wl.q rfl rfl (OpQ.fieldAddr K7_fa24_0 rfl) ?_
    refine Wl.q rfl rfl (OpQ.loadF (b := b2) K7_sc3 rfl (by repeat (first | exact Has.here | apply Has.there)) (by rfl)) ?_
    refine Wl.q rfl rfl (OpQ.eql rfl rfl) ?_
    refine Wl.nil (PX.then_n ?_)
    refine CT.cond rfl (fun h39 => ?_) (fun h39 => ?_)
    ·
     have h39 := of_decide_eq_true h39
     refine CT.region ?_
     refine Wl.q rfl rfl (OpQ.move rfl) ?_
     refine Wl.q rfl rfl (OpQ.move rfl) ?_
     refine Wl.split 41 rfl (fun hg41 => ?_) (fun hg41 => ?_)
     ·
      have hg41 := of_decide_eq_true hg41
      refine Wl.q rfl rfl (OpQ.fieldAddr K7_fa24_1 rfl) ?_
      refine Wl.q rfl rfl (OpQ.loadF (b := b2) K7_sc3 rfl (by repeat (first | exact Has.here | apply Has.there)) (by rfl)) ?_
      refine Wl.q rfl rfl (OpQ.geq rfl rfl) ?_
      refine Wl.q rfl rfl (OpQ.pickT rfl rfl) ?_
      refine Wl.q rfl rfl (OpQ.move rfl) ?_
      refine Wl.split 46 rfl (fun hg46 => ?_) (fun hg46 => ?_)
      ·
       have hg46 := of_decide_eq_true hg46
       refine Wl.q rfl rfl (OpQ.fieldAddr K7_fa24_1 rfl) ?_
       refine Wl.q rfl rfl (OpQ.loadF (b := b2) K7_sc3 rfl (by repeat (first | exact Has.here | apply Has.there)) (by rfl)) ?_
       refine Wl.q rfl rfl (OpQ.move rfl) ?_
       refine Wl.q rfl rfl (OpQ.lss rfl rfl) ?_
       refine Wl.q rfl rfl (OpQ.pickT rfl rfl) ?_
       refine Wl.q rfl rfl (OpQ.assign rfl) ?_
       refine Wl.nil ?_
       exact PX.cut hK4 () trivial ⟨rfl, rfl, rfl, (lkV rfl (congrArg Value.bool (by rw [wfN_iff, decide_eq_decide]; omega))), trivial⟩ (HSub.refl _)
      ·
       have hg46 := of_decide_eq_false hg46
       refine Wl.skip rfl rfl ?_
       refine Wl.skip rfl rfl ?_
       refine Wl.skip rfl rfl ?_
       refine Wl.skip rfl rfl ?_
       refine Wl.q rfl rfl (OpQ.pickF rfl rfl) ?_
       refine Wl.q rfl rfl (OpQ.assign rfl) ?_
       refine Wl.nil ?_
       exact PX.cut hK4 () trivial ⟨rfl, rfl, rfl, (lkV rfl (congrArg Value.bool (by rw [wfN_iff]; exact (decide_eq_false (by omega)).symm))), trivial⟩ (HSub.refl _)
     ·
      have hg41 := of_decide_eq_false hg41
      refine Wl.skip rfl rfl ?_
      refine Wl.skip rfl rfl ?_
      refine Wl.skip rfl rfl ?_
      refine Wl.q rfl rfl (OpQ.pickF rfl rfl) ?_
      refine Wl.q rfl rfl (OpQ.move rfl) ?_
      refine Wl.skip rfl rfl ?_
      refine Wl.skip rfl rfl ?_
      refine Wl.skip rfl rfl ?_
      refine Wl.skip rfl rfl ?_
      refine Wl.q rfl rfl (OpQ.pickF rfl rfl) ?_
      refine Wl.q rfl rfl (OpQ.assign rfl) ?_
      refine Wl.nil ?_
      exact PX.cut hK4 () trivial ⟨rfl, rfl, rfl, (lkV rfl (congrArg Value.bool (by rw [wfN_iff]; exact (decide_eq_false (by omega)).symm))), trivial⟩ (HSub.refl _)
    ·
     have h39 := of_decide_eq_false h39
     refine CT.region ?_
     refine Wl.q rfl rfl (OpQ.move rfl) ?_
     refine Wl.q rfl rfl (OpQ.move rfl) ?_
     refine Wl.split 53 rfl (fun hg53 => ?_) (fun hg53 => ?_)
     ·
      have hg53 := of_decide_eq_true hg53
      refine Wl.q rfl rfl (OpQ.fieldAddr K7_fa24_1 rfl) ?_
      refine Wl.q rfl rfl (OpQ.loadF (b := b2) K7_sc3 rfl (by repeat (first | exact Has.here | apply Has.there)) (by rfl)) ?_
      refine Wl.q rfl rfl (OpQ.eql rfl rfl) ?_
      refine Wl.q rfl rfl (OpQ.pickT rfl rfl) ?_
      refine Wl.q rfl rfl (OpQ.assign rfl) ?_
      refine Wl.nil ?_
      exact PX.cut hK4 () trivial ⟨rfl, rfl, rfl, (lkV rfl (congrArg Value.bool (by rw [wfN_iff, decide_eq_decide]; omega))), trivial⟩ (HSub.refl _)
     ·
      have hg53 := of_decide_eq_false hg53
      refine Wl.skip rfl rfl ?_
      refine Wl.skip rfl rfl ?_
      refine Wl.skip rfl rfl ?_
      refine Wl.q rfl rfl (OpQ.pickF rfl rfl) ?_
      refine Wl.q rfl rfl (OpQ.assign rfl) ?_
      refine Wl.nil ?_
      exact PX.cut hK4 () trivial ⟨rfl, rfl, rfl, (lkV rfl (congrArg Value.bool (by rw [wfN_iff]; exact (decide_eq_false (by omega)).symm))), trivial⟩ (HSub.refl _)
   ·
    refine CT.seq (CT.seq (CT.region ?_))
    refine Wl.q rfl rfl (OpQ.assign rfl) ?_
    refine Wl.nil (PX.then_n (CT.block ?_))
    refine CT.loop (ι := Nat) (fun k => k ≤ v.ks.length) (fun k => [(1, .int .i64 L), (2, .pointer (some ⟨b2, 0, none⟩)), (5, .int .i64 ((v.ks.length : Nat) : Int)), (6, .bool (wfN L v.op v.lt v.ks.length && wfT L v.ks k)), (7, .int .i64 ((k : Nat) : Int))]) (fun _ => [.row 24 3 (vb b2) 1 (evc v)]) (fun k => v.ks.length - k) 0 (Nat.zero_le _) ⟨rfl, rfl, rfl, (lkV rfl (congrArg Value.bool (by rw [wfT_0, Bool.and_true]))), rfl, trivial⟩ (HSub.refl _) (fun k hk K5 hK5 => ?_)
    refine CT.seq (CT.seq (CT.region ?_))
    refine Wl.q rfl rfl (OpQ.move rfl) ?_
    refine Wl.q rfl rfl (OpQ.move rfl) ?_
    refine Wl.q rfl rfl (OpQ.lss rfl rfl) ?_
    refine Wl.q rfl rfl (OpQ.move rfl) ?_
    refine Wl.split 61 rfl (fun hg61 => ?_) (fun hg61 => ?_)
    ·
     have hg61 := of_decide_eq_true hg61
     refine Wl.q rfl rfl (OpQ.move rfl) ?_
     refine Wl.q rfl rfl (OpQ.pickT rfl rfl) ?_
     refine Wl.nil (PX.then_n ?_)
     refine CT.cond rfl (fun h63 => ?_) (fun h63 => ?_)
     ·
      refine CT.skip (PX.then_n (CT.seq (CT.block (CT.region ?_))))
      refine Wl.q rfl rfl (OpQ.fieldAddr K7_fa24_2 rfl) ?_
      refine Wl.q rfl rfl (OpQ.loadF (b := b2) K7_sc22 rfl (by repeat (first | exact Has.here | apply Has.there)) (by rfl)) ?_
      refine Wl.q rfl rfl (OpQ.move rfl) ?_
      have hkl : k < v.ks.length := by omega
      refine Wl.q rfl rfl (OpQ.index K7_un22 K7_sz24 rfl rfl (by omega) (hva (by omega))) ?_
      refine Wl.q rfl rfl (OpQ.loadAggG (cs := evc (v.ks.getD k ev0)) K7_ag24 K7_sz24 rfl (fun w hH => (evm_iff.1 (hH.use hv)).1) (flat_cells evc_len v.ks ev0 (by omega))) ?_
      refine Wl.know 70 (v' := evv (v.ks.getD k ev0)) rfl rfl ?_
      refine Wl.q rfl rfl (OpQ.move rfl) ?_
      refine Wl.g rfl rfl (OpG.callV K7_go46 rfl (fun w hH => ih _ (kid_mem hkl) w ((hH.stays0 hv).mono (fun w h => (evm_iff.1 h).2.1 _ (kid_mem hkl))))) ?_
      rintro _ _
      refine Wl.q rfl rfl (OpQ.assign rfl) ?_
      refine Wl.nil (PX.block_n (PX.then_n (CT.region ?_)))
      refine Wl.q rfl rfl (OpQ.move rfl) ?_
      refine Wl.q rfl rfl (OpQ.add rfl rfl (by omega)) ?_
      refine Wl.q rfl rfl (OpQ.assign rfl) ?_
      refine Wl.nil ?_
      exact PX.loop hK5 (k + 1) (by omega) (by first | omega | (dsimp only; omega)) ⟨rfl, rfl, rfl, (lkV rfl (congrArg Value.bool (wf_go h63 hkl))), rfl, trivial⟩ (HSub.refl _)
     ·
      refine CT.exit (PX.then_x (PX.then_x (PX.block_x (PX.then_n (CT.seq (CT.region ?_))))))
      refine Wl.q rfl rfl (OpQ.move rfl) ?_
      refine Wl.q rfl rfl (OpQ.assign rfl) ?_
      refine Wl.nil (PX.then_n (CT.ret ?_))
      refine PX.ret1 rfl rfl (fun w' hH => ?_)
      exact ⟨by rw [h63, wf_stop h63], hH.ext⟩
    ·
     have hg61 := of_decide_eq_false hg61
     refine Wl.skip rfl rfl ?_
     refine Wl.q rfl rfl (OpQ.pickF rfl rfl) ?_
     refine Wl.nil (PX.then_n ?_)
     refine CT.condF rfl ?_
     refine CT.exit (PX.then_x (PX.then_x (PX.block_x (PX.then_n (CT.seq (CT.region ?_))))))
     refine Wl.q rfl rfl (OpQ.move rfl) ?_
     refine Wl.q rfl rfl (OpQ.assign rfl) ?_
     refine Wl.nil (PX.then_n (CT.ret ?_))
     refine PX.ret1 rfl rfl (fun w' hH => ?_)
     exact ⟨by rw [wf_all hk (by omega)], hH.ext⟩
theorem shaped_spec (L : Int) (v : Xv) : ∀ w : World, Stays [] w (evm v) → Calls Tryz.prog 46 #[evv v, .int .i64 L] w (fun e w' => e = .returned (.bool (wf L (toE v))) ∧ Ext [] w w') := Xv.ind (p := fun v => ∀ w : World, Stays [] w (evm v) → Calls Tryz.prog 46 #[evv v, .int .i64 L] w (fun e w' => e = .returned (.bool (wf L (toE v))) ∧ Ext [] w w')) (fun v ih w hv => shaped_specI w L v hv ih) v

set_option maxRecDepth 100000 in
/-- semigroup/semigroupref04.Within -/
theorem within_spec (w : World) (v : Xv) (hv : Stays [] w (evm v)) : Calls Tryz.prog 45 #[evv v] w (fun e w' => e = .returned (.bool (inLim (toE v))) ∧ Ext [] w w') := by
 refine enter (args := [evv v]) [] 16 Tryz.func45 rfl rfl rfl ?_
 refine CT.seq (CT.region ?_)
 refine Wl.g rfl rfl (OpG.box (size := 3) rfl rfl rfl) ?_
 rintro b1 _
 refine Wl.q rfl rfl (OpQ.assign rfl) ?_
 refine Wl.nil (PX.then_n (CT.seq (CT.region ?_)))
 refine Wl.q rfl rfl (OpQ.loadV (b := b1) K7_ag24 K7_sz24 rfl (by repeat (first | exact Has.here | apply Has.there)) (by rfl)) ?_
 refine Wl.know 6 (v' := evv v) rfl rfl ?_
 refine Wl.g rfl rfl (OpG.call K7_go47 rfl (fun w hH => (measure_spec 400 (by decide) v w (hH.stays0 hv)).mono fun e w' ⟨i, h1, h2, h3⟩ => ⟨i, h1, h2, hH.ext_nil h3⟩)) ?_
 rintro i7 hi7
 have hi7l := hi7.le
 refine Wl.q rfl rfl (OpQ.move rfl) ?_
 refine Wl.q rfl rfl (OpQ.extract rfl rfl) ?_
 refine Wl.know 8 (v' := .int .i64 ((i7.1 : Nat) : Int)) rfl rfl ?_
 refine Wl.q rfl rfl (OpQ.extract rfl rfl) ?_
 refine Wl.know 9 (v' := .int .i64 i7.2) rfl rfl ?_
 refine Wl.q rfl rfl (OpQ.assign rfl) ?_
 refine Wl.q rfl rfl (OpQ.assign rfl) ?_
 refine Wl.nil (PX.then_n (CT.seq (CT.region ?_)))
 refine Wl.q rfl rfl (OpQ.move rfl) ?_
 refine Wl.q rfl rfl (OpQ.leq rfl rfl) ?_
 refine Wl.q rfl rfl (OpQ.move rfl) ?_
 refine Wl.split 12 rfl (fun hg12 => ?_) (fun hg12 => ?_)
 ·
  have hg12 := of_decide_eq_true hg12
  refine Wl.q rfl rfl (OpQ.move rfl) ?_
  refine Wl.q rfl rfl (OpQ.leq rfl rfl) ?_
  refine Wl.q rfl rfl (OpQ.pickT rfl rfl) ?_
  refine Wl.q rfl rfl (OpQ.assign rfl) ?_
  refine Wl.nil (PX.then_n (CT.ret ?_))
  refine PX.ret1 rfl rfl (fun w' hH => ?_)
  exact ⟨by obtain ⟨a, b⟩ := hi7.ok (by omega); rw [inLim]; exact congrArg (fun b => Ending.returned (.bool b)) (by rw [decide_eq_decide]; omega), hH.ext⟩
 ·
  have hg12 := of_decide_eq_false hg12
  refine Wl.skip rfl rfl ?_
  refine Wl.skip rfl rfl ?_
  refine Wl.q rfl rfl (OpQ.pickF rfl rfl) ?_
  refine Wl.q rfl rfl (OpQ.assign rfl) ?_
  refine Wl.nil (PX.then_n (CT.ret ?_))
  refine PX.ret1 rfl rfl (fun w' hH => ?_)
  exact ⟨by have := hi7.no (by omega); rw [inLim]; exact congrArg (fun b => Ending.returned (.bool b)) (decide_eq_false (by omega)).symm, hH.ext⟩

set_option maxRecDepth 100000 in
/-- semigroup/semigroupref04.Size -/
theorem size4_spec (w : World) (v : Xv) (hv : Stays [] w (evm v)) (hl : inLim (toE v) = true) : Calls Tryz.prog 25 #[evv v] w (fun e w' => e = .returned (.int .i64 ((szE (toE v) : Nat) : Int)) ∧ Ext [] w w') := by
 have hl := inLim_iff.1 hl
 refine enter (args := [evv v]) [] 11 Tryz.func25 rfl rfl rfl ?_
 refine CT.seq (CT.region ?_)
 refine Wl.g rfl rfl (OpG.box (size := 3) rfl rfl rfl) ?_
 rintro b1 _
 refine Wl.q rfl rfl (OpQ.assign rfl) ?_
 refine Wl.nil (PX.then_n (CT.seq (CT.region ?_)))
 refine Wl.q rfl rfl (OpQ.loadV (b := b1) K7_ag24 K7_sz24 rfl (by repeat (first | exact Has.here | apply Has.there)) (by rfl)) ?_
 refine Wl.know 6 (v' := evv v) rfl rfl ?_
 refine Wl.g rfl rfl (OpG.call K7_go47 rfl (fun w hH => (measure_spec 400 (by decide) v w (hH.stays0 hv)).mono fun e w' ⟨i, h1, h2, h3⟩ => ⟨i, h1, h2, hH.ext_nil h3⟩)) ?_
 rintro i7 hi7
 have hi7l := hi7.le
 refine Wl.q rfl rfl (OpQ.move rfl) ?_
 refine Wl.q rfl rfl (OpQ.extract rfl rfl) ?_
 refine Wl.know 8 (v' := .int .i64 ((i7.1 : Nat) : Int)) rfl rfl ?_
 refine Wl.q rfl rfl (OpQ.extract rfl rfl) ?_
 refine Wl.know 9 (v' := .int .i64 i7.2) rfl rfl ?_
 refine Wl.q rfl rfl (OpQ.assign rfl) ?_
 refine Wl.q rfl rfl (OpQ.assign rfl) ?_
 refine Wl.nil (PX.then_n (CT.seq (CT.region ?_)))
 refine Wl.q rfl rfl (OpQ.move rfl) ?_
 refine Wl.q rfl rfl (OpQ.assign rfl) ?_
 refine Wl.nil (PX.then_n (CT.ret ?_))
 refine PX.ret1 rfl rfl (fun w' hH => ?_)
 have hi : i7.1 ≤ 400 := Classical.byContradiction fun hh => by have := hi7.no (by omega); omega
 exact ⟨by rw [(hi7.ok hi).1], hH.ext⟩

theorem K7_go44 : isGo Tryz.prog 44 = true := by kernel_rfl
theorem K7_go45 : isGo Tryz.prog 45 = true := by kernel_rfl
set_option maxRecDepth 100000 in
/-- semigroup/semigroupref04.Validate -/
theorem valid4_spec (w : World) (v : Xv) (hv : Stays [] w (evm v)) (L : Int) : Calls Tryz.prog 24 #[evv v, .int .i64 L] w (fun e w' => e = .returned (.int .i64 (vdE L (toE v))) ∧ Ext [] w w') := by
 refine enter (args := [evv v, .int .i64 L]) [] 18 Tryz.func24 rfl rfl rfl ?_
 refine CT.seq (CT.region ?_)
 refine Wl.g rfl rfl (OpG.box (size := 3) rfl rfl rfl) ?_
 rintro b2 _
 refine Wl.q rfl rfl (OpQ.assign rfl) ?_
 refine Wl.nil (PX.then_n (CT.seq (CT.block (CT.seq (CT.region ?_)))))
 refine Wl.q rfl rfl (OpQ.move rfl) ?_
 refine Wl.g rfl rfl (OpG.callV K7_go44 rfl (fun w hH => may_spec w _)) ?_
 rintro _ _
 refine Wl.q rfl rfl (OpQ.not rfl) ?_
 refine Wl.q rfl rfl (OpQ.assign rfl) ?_
 refine Wl.nil (PX.then_n ?_)
 refine CT.cond rfl (fun h5 => ?_) (fun h5 => ?_)
 ·
  refine CT.seq (CT.region ?_)
  refine Wl.q rfl rfl (OpQ.assign rfl) ?_
  refine Wl.nil (PX.then_n (CT.ret (PX.block_r (PX.then_r ?_))))
  refine PX.ret1 rfl rfl (fun w' hH => ?_)
  exact ⟨by rw [vdE, if_pos (mayY h5)], hH.ext⟩
 ·
  refine CT.seq (CT.region ?_)
  refine Wl.q rfl rfl (OpQ.loadV (b := b2) K7_ag24 K7_sz24 rfl (by repeat (first | exact Has.here | apply Has.there)) (by rfl)) ?_
  refine Wl.know 10 (v' := evv v) rfl rfl ?_
  refine Wl.g rfl rfl (OpG.callV K7_go45 rfl (fun w hH => within_spec w v (hH.stays0 hv))) ?_
  rintro _ _
  refine Wl.q rfl rfl (OpQ.not rfl) ?_
  refine Wl.q rfl rfl (OpQ.assign rfl) ?_
  refine Wl.nil (PX.then_n ?_)
  refine CT.cond rfl (fun h9 => ?_) (fun h9 => ?_)
  ·
   refine CT.seq (CT.region ?_)
   refine Wl.q rfl rfl (OpQ.assign rfl) ?_
   refine Wl.nil (PX.then_n (CT.ret (PX.block_r (PX.then_r ?_))))
   refine PX.ret1 rfl rfl (fun w' hH => ?_)
   exact ⟨by rw [vdE, if_neg (mayN h5), if_pos (by simpa using h9)], hH.ext⟩
  ·
   refine CT.seq (CT.region ?_)
   refine Wl.q rfl rfl (OpQ.loadV (b := b2) K7_ag24 K7_sz24 rfl (by repeat (first | exact Has.here | apply Has.there)) (by rfl)) ?_
   refine Wl.know 14 (v' := evv v) rfl rfl ?_
   refine Wl.q rfl rfl (OpQ.move rfl) ?_
   refine Wl.g rfl rfl (OpG.callV K7_go46 rfl (fun w hH => shaped_spec L v w (hH.stays0 hv))) ?_
   rintro _ _
   refine Wl.q rfl rfl (OpQ.not rfl) ?_
   refine Wl.q rfl rfl (OpQ.assign rfl) ?_
   refine Wl.nil (PX.then_n ?_)
   refine CT.cond rfl (fun h13 => ?_) (fun h13 => ?_)
   ·
    refine CT.seq (CT.region ?_)
    refine Wl.q rfl rfl (OpQ.assign rfl) ?_
    refine Wl.nil (PX.then_n (CT.ret (PX.block_r (PX.then_r ?_))))
    refine PX.ret1 rfl rfl (fun w' hH => ?_)
    exact ⟨by rw [vdE, if_neg (mayN h5), if_neg (by simpa using h9), if_pos (by simpa using h13)], hH.ext⟩
   ·
    refine CT.skip (PX.block_n (PX.then_n (CT.seq (CT.region ?_))))
    refine Wl.q rfl rfl (OpQ.assign rfl) ?_
    refine Wl.nil (PX.then_n (CT.ret ?_))
    refine PX.ret1 rfl rfl (fun w' hH => ?_)
    exact ⟨by rw [vdE, if_neg (mayN h5), if_neg (by simpa using h9), if_neg (by simpa using h13)], hH.ext⟩

end Go.Proofs.YtmggcdegekbncabGreatDoor

