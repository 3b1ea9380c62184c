/-
  What functions of the program compute, each by its walk. Conditions: those that each theorem names.
-/
import Derived.Test.YtamolakhpcofhaaMod1
import Derived.Test.YtamolakhpcofhaaXC7
import Derived.Test.YtamolakhpcofhaaXE20
import Derived.Test.YtamolakhpcofhaaXE1
import Derived.Test.YtamolakhpcofhaaMod
import Derived.Test.YtamolakhpcofhaaXF
set_option linter.unusedSimpArgs false
namespace Go.Proofs.Ytamolakhpcofhaa
open Go Go.Eng Go.Am Go.Sq
open Go.Tp (zi)
open Go.Tl (mayL Wd okW okB bo)

set_option maxRecDepth 100000 in
/-- semigroup/semigroupref42.walk -/
theorem walk42_spec (w : World) (D : Dv) (hD : Stays [] w (dvm D)) (hv : D.Ok) (p : Nat) (hp : p < D.fin.length) (ws : Wd) (hws : okT 4096 ws) (ho : okO D.L ws) : Calls Try.prog 65 #[dvv D, .int .i64 ((p : Nat) : Int), sv ws] w (fun e w' => e = .returned (.int .i64 (((D.da.sy.run p (wl ws)) : Nat) : Int)) ∧ Ext [] w w') := by
 have hns : 0 < D.rs.length → D.na.isSome = true := fun h => hD.now.2.1.isSome (j := 0) (by rw [List.length_map]; exact h)
 have hrs : ∀ q, q < D.rs.length → 0 < (D.rs.getD q rw0).xs.length → (D.rs.getD q rw0).a.isSome = true := fun q hq h => (hD.now.2.2 _ (getDm hq)).isSome (j := 0) (by rw [List.length_map]; exact h)
 have hin : InW D.da.L (wl ws) := by
  have h := wl_inO (L := D.da.L) hws (by rw [← hv.L_eq]; exact ho)
  exact h
 have hwsl := hws.1
 have hlen := hv.len
 refine enter (args := [dvv D, .int .i64 ((p : Nat) : Int), sv ws]) [] 26 Try.func65 rfl rfl rfl ?_
 refine CT.seq (CT.region ?_)
 refine Wl.g rfl rfl (OpG.box (size := 4) rfl rfl rfl) ?_
 rintro b3 _
 refine Wl.q rfl rfl (OpQ.assign rfl) ?_
 refine Wl.nil (PX.then_n (CT.seq (CT.seq (CT.region ?_))))
 refine Wl.q rfl rfl (OpQ.assign rfl) ?_
 refine Wl.nil (PX.then_n (CT.block ?_))
 refine CT.loop (ι := Nat) (fun k => k ≤ ws.length) (fun k => [(1, .int .i64 ((D.da.sy.run p ((wl ws).take k) : Nat) : Int)), (2, sv ws), (3, .pointer (some ⟨b3, 0, none⟩)), (7, .int .i64 ((k : Nat) : Int))]) (fun _ => [.row 49 4 (vb b3) 1 (dvc D)]) (fun k => ws.length - k) 0 (Nat.zero_le _) ⟨rfl, rfl, rfl, rfl, trivial⟩ (HSub.refl _) (fun k hk K0 hK0 => ?_)
 refine CT.seq (CT.seq (CT.region ?_))
 refine Wl.q rfl rfl (OpQ.move rfl) ?_
 refine Wl.q rfl rfl (OpQ.move rfl) ?_
 refine Wl.q rfl rfl (OpQ.lenSv zf4 rfl) ?_
 refine Wl.q rfl rfl (OpQ.lss rfl rfl) ?_
 refine Wl.nil (PX.then_n ?_)
 refine CT.cond rfl (fun h11 => ?_) (fun h11 => ?_)
 ·
  have h11 := of_decide_eq_true h11
  have hkl : k < ws.length := by omega
  have hbb := hws.2 _ (getDm (d := 0) hkl)
  have hbo := ho _ (getDm (d := 0) hkl)
  have hxL : ((((ws.getD k 0).toNat - 97) : Nat) : Int) < D.L := by omega
  have hrun : D.da.sy.run p ((wl ws).take k) < D.fin.length := hv.daOk.run_lt (fun y hy => hin y (List.mem_of_mem_take hy)) hp
  have hto := hv.to (q := D.da.sy.run p ((wl ws).take k)) (x := ((ws.getD k 0).toNat - 97)) hrun hxL
  have hrw := (hv.row _ hrun).1
  have hst := run_take D.da.sy p hkl
  refine CT.skip (PX.then_n (CT.seq (CT.block ?_)))
  refine CT.draw 12 zf6 ?_
  refine RA.q 0 (by kernel_rfl) rfl rfl rfl (.refl _) (OpQ.fieldAddr zf19 rfl) ?_
  refine RA.q 1 (by kernel_rfl) rfl rfl rfl (.refl _) (OpQ.loadF (b := b3) zf20 rfl (by repeat (first | exact Has.here | apply Has.there)) (by rfl)) ?_
  refine RA.q 2 (by kernel_rfl) rfl rfl rfl (.refl _) (OpQ.move rfl) ?_
  refine RA.q 3 (by kernel_rfl) rfl rfl rfl (.refl _) (OpQ.index1 zf21 zf23 rfl rfl (by omega) (hns (by omega))) ?_
  refine RA.q 4 (by kernel_rfl) rfl rfl rfl (.refl _) (OpQ.loadG zf10 rfl (fun w hH => (hH.use hD).2.1) (getMap rv D.rs rw0 (j := (D.da.sy.run p ((wl ws).take k))) (by omega))) ?_
  refine RA.q 5 (by kernel_rfl) rfl rfl rfl (.refl _) (OpQ.move rfl) ?_
  refine RA.q 6 (by kernel_rfl) rfl rfl rfl (.refl _) (OpQ.move rfl) ?_
  refine RA.q 7 (by kernel_rfl) rfl rfl rfl (.refl _) (OpQ.indexSvN zf4 rfl rfl (by omega)) ?_
  refine RA.q 8 (by kernel_rfl) rfl rfl rfl (.refl _) (OpQ.sub8 rfl rfl (by omega)) ?_
  refine RA.know 22 (v' := .int .u8 ((((ws.getD k 0).toNat - 97) : Nat) : Int)) rfl (congrArg (Value.int .u8) (by omega)) ?_
  refine RA.q 9 (by kernel_rfl) rfl rfl rfl (.refl _) (OpQ.indexK1 zf0 zf1 rfl rfl (by omega) (hrs _ (by omega) (by omega))) ?_
  refine RA.q 10 (by kernel_rfl) rfl rfl rfl (.refl _) (OpQ.loadG zf8 rfl (fun w hH => (hH.use hD).2.2 _ (getDm (show (D.da.sy.run p ((wl ws).take k)) < D.rs.length by omega))) (getMap zz (D.rs.getD (D.da.sy.run p ((wl ws).take k)) rw0).xs 0 (j := ((ws.getD k 0).toNat - 97)) (by omega))) ?_
  refine RA.know 24 (v' := .int .i64 (((D.da.to (D.da.sy.run p ((wl ws).take k)) ((ws.getD k 0).toNat - 97)) : Nat) : Int)) rfl (congrArg (Value.int .i64) hto) ?_
  refine RA.q 11 (by kernel_rfl) rfl rfl rfl (.refl _) (OpQ.assign rfl) ?_
  refine RA.tail ?_
  refine RT.done (by kernel_rfl) ?_
  refine PX.block_n (PX.then_n (CT.region ?_))
  refine Wl.q rfl rfl (OpQ.move rfl) ?_
  refine Wl.q rfl rfl (OpQ.add rfl rfl (by omega)) ?_
  refine Wl.q rfl rfl (OpQ.assign rfl) ?_
  refine Wl.nil ?_
  exact PX.loop hK0 (k + 1) (by omega) (by first | omega | (dsimp only; omega)) ⟨(lkV rfl (congrArg (fun m : Nat => Value.int .i64 (m : Int)) hst.symm)), rfl, rfl, rfl, trivial⟩ (HSub.refl _)
 ·
  have h11 := of_decide_eq_false h11
  refine CT.exit (PX.then_x (PX.then_x (PX.block_x (PX.then_n (CT.seq (CT.region ?_))))))
  refine Wl.q rfl rfl (OpQ.move rfl) ?_
  refine Wl.q rfl rfl (OpQ.assign rfl) ?_
  refine Wl.nil (PX.then_n (CT.ret ?_))
  refine PX.ret1 rfl rfl (fun w' hH => ?_)
  obtain rfl : k = ws.length := by omega
  exact ⟨by rw [List.take_of_length_le (Nat.le_of_eq (wl_len ws))], hH.ext⟩

set_option maxRecDepth 100000 in
/-- semigroup/semigroupref07.Validate -/
theorem dvalidR_spec (w : World) (D : Dv) (hD : Stays [] w (dvm D)) (hv : D.Ok) (h5 : D.fin.length ≤ 512) : Calls Try.prog 64 #[dvv D] w (fun e w' => e = .returned (.int .i64 0) ∧ Ext [] w w') := by
 have hns : 0 < D.rs.length → D.na.isSome = true := fun h => hD.now.2.1.isSome (j := 0) (by rw [List.length_map]; exact h)
 have hrs : ∀ q, q < D.rs.length → 0 < (D.rs.getD q rw0).xs.length → (D.rs.getD q rw0).a.isSome = true := fun q hq h => (hD.now.2.2 _ (getDm hq)).isSome (j := 0) (by rw [List.length_map]; exact h)
 have hlen := hv.len
 have hst := hv.st
 have hmv := hv.may
 refine enter (args := [dvv D]) [] 64 Try.func64 rfl rfl rfl ?_
 refine CT.seq (CT.region ?_)
 refine Wl.g rfl rfl (OpG.box (size := 4) rfl rfl rfl) ?_
 rintro b1 _
 refine Wl.q rfl rfl (OpQ.assign rfl) ?_
 refine Wl.nil (PX.then_n (CT.seq (CT.region ?_)))
 refine Wl.q rfl rfl (OpQ.fieldAddr zf16 rfl) ?_
 refine Wl.q rfl rfl (OpQ.loadF (b := b1) zf17 rfl (by repeat (first | exact Has.here | apply Has.there)) (by rfl)) ?_
 refine Wl.q rfl rfl (OpQ.len zf18 rfl) ?_
 refine Wl.q rfl rfl (OpQ.assign rfl) ?_
 refine Wl.nil (PX.then_n (CT.seq (CT.seq (CT.region ?_))))
 refine Wl.q rfl rfl (OpQ.fieldAddr zf15 rfl) ?_
 refine Wl.q rfl rfl (OpQ.loadF (b := b1) zf8 rfl (by repeat (first | exact Has.here | apply Has.there)) (by rfl)) ?_
 refine Wl.g rfl rfl (OpG.callV zf81 rfl (fun w hH => may_spec w _)) ?_
 rintro _ _
 refine Wl.know 13 (v' := .bool true) rfl (congrArg Value.bool (by rw [mayL, decide_eq_true_eq]; exact hv.may)) ?_
 refine Wl.q rfl rfl (OpQ.not rfl) ?_
 refine Wl.nil (PX.then_n ?_)
 refine CT.condF rfl ?_
 refine CT.skip (PX.then_n (CT.seq (CT.seq (CT.region ?_))))
 refine Wl.q rfl rfl (OpQ.move rfl) ?_
 refine Wl.q rfl rfl (OpQ.gtr rfl rfl) ?_
 refine Wl.know 16 (v' := .bool false) rfl (congrArg Value.bool (decide_eq_false (by omega))) ?_
 refine Wl.nil (PX.then_n ?_)
 refine CT.condF rfl ?_
 refine CT.skip (PX.then_n (CT.seq (CT.seq (CT.region ?_))))
 refine Wl.q rfl rfl (OpQ.move rfl) ?_
 refine Wl.q rfl rfl (OpQ.eql rfl rfl) ?_
 refine Wl.know 18 (v' := .bool false) rfl (congrArg Value.bool (decide_eq_false (by omega))) ?_
 refine Wl.q rfl rfl (OpQ.move rfl) ?_
 refine Wl.q rfl rfl (OpQ.fieldAddr zf19 rfl) ?_
 refine Wl.q rfl rfl (OpQ.loadF (b := b1) zf20 rfl (by repeat (first | exact Has.here | apply Has.there)) (by rfl)) ?_
 refine Wl.q rfl rfl (OpQ.len zf21 rfl) ?_
 refine Wl.q rfl rfl (OpQ.move rfl) ?_
 refine Wl.q rfl rfl (OpQ.neq rfl rfl) ?_
 refine Wl.know 24 (v' := .bool false) rfl (congrArg Value.bool (by rw [hlen]; simp)) ?_
 refine Wl.q rfl rfl (OpQ.pickF rfl rfl) ?_
 refine Wl.q rfl rfl (OpQ.move rfl) ?_
 refine Wl.q rfl rfl (OpQ.fieldAddr zf22 rfl) ?_
 refine Wl.q rfl rfl (OpQ.loadF (b := b1) zf8 rfl (by repeat (first | exact Has.here | apply Has.there)) (by rfl)) ?_
 refine Wl.q rfl rfl (OpQ.lss rfl rfl) ?_
 refine Wl.know 29 (v' := .bool false) rfl (congrArg Value.bool (decide_eq_false (by omega))) ?_
 refine Wl.q rfl rfl (OpQ.pickF rfl rfl) ?_
 refine Wl.q rfl rfl (OpQ.move rfl) ?_
 refine Wl.q rfl rfl (OpQ.fieldAddr zf22 rfl) ?_
 refine Wl.q rfl rfl (OpQ.loadF (b := b1) zf8 rfl (by repeat (first | exact Has.here | apply Has.there)) (by rfl)) ?_
 refine Wl.q rfl rfl (OpQ.move rfl) ?_
 refine Wl.q rfl rfl (OpQ.geq rfl rfl) ?_
 refine Wl.know 35 (v' := .bool false) rfl (congrArg Value.bool (decide_eq_false (by omega))) ?_
 refine Wl.q rfl rfl (OpQ.pickF rfl rfl) ?_
 refine Wl.nil (PX.then_n ?_)
 refine CT.condF rfl ?_
 refine CT.skip (PX.then_n (CT.seq (CT.seq (CT.region ?_))))
 refine Wl.q rfl rfl (OpQ.fieldAddr zf19 rfl) ?_
 refine Wl.q rfl rfl (OpQ.loadF (b := b1) zf20 rfl (by repeat (first | exact Has.here | apply Has.there)) (by rfl)) ?_
 refine Wl.q rfl rfl (OpQ.len zf21 rfl) ?_
 refine Wl.q rfl rfl (OpQ.move rfl) ?_
 refine Wl.nil (PX.then_n (CT.block ?_))
 refine CT.loop (ι := Nat) (fun q => q ≤ D.rs.length) (fun q => [(1, .pointer (some ⟨b1, 0, none⟩)), (3, .int .i64 ((D.fin.length : Nat) : Int)), (38, .slice D.na D.rs.length D.nc), (39, .int .i64 ((D.rs.length : Nat) : Int)), (40, .int .i64 ((q : Nat) : Int))]) (fun _ => [.row 49 4 (vb b1) 1 (dvc D)]) (fun q => D.rs.length - q) 0 (Nat.zero_le _) ⟨rfl, rfl, rfl, rfl, rfl, trivial⟩ (HSub.refl _) (fun q hq K0 hK0 => ?_)
 refine CT.seq (CT.region ?_)
 refine Wl.q rfl rfl (OpQ.lss rfl rfl) ?_
 refine Wl.nil (PX.then_n (CT.seq ?_))
 refine CT.cond rfl (fun h41 => ?_) (fun h41 => ?_)
 ·
  have h41 := of_decide_eq_true h41
  obtain ⟨hrl, hrm⟩ := hv.row q (by omega)
  refine CT.skip (PX.then_n (CT.seq (CT.block (CT.seq (CT.region ?_)))))
  refine Wl.q rfl rfl (OpQ.index1 zf21 zf23 rfl rfl (by omega) (hns (by omega))) ?_
  refine Wl.q rfl rfl (OpQ.loadG zf10 rfl (fun w hH => (hH.use hD).2.1) (getMap rv D.rs rw0 (j := q) (by omega))) ?_
  refine Wl.q rfl rfl (OpQ.assign rfl) ?_
  refine Wl.nil (PX.then_n (CT.seq (CT.seq (CT.region ?_))))
  refine Wl.q rfl rfl (OpQ.move rfl) ?_
  refine Wl.q rfl rfl (OpQ.len zf0 rfl) ?_
  refine Wl.q rfl rfl (OpQ.fieldAddr zf15 rfl) ?_
  refine Wl.q rfl rfl (OpQ.loadF (b := b1) zf8 rfl (by repeat (first | exact Has.here | apply Has.there)) (by rfl)) ?_
  refine Wl.q rfl rfl (OpQ.neq rfl rfl) ?_
  refine Wl.know 48 (v' := .bool false) rfl (congrArg Value.bool (by rw [hrl]; simp)) ?_
  refine Wl.nil (PX.then_n ?_)
  refine CT.condF rfl ?_
  refine CT.skip (PX.then_n (CT.seq (CT.region ?_)))
  refine Wl.q rfl rfl (OpQ.move rfl) ?_
  refine Wl.q rfl rfl (OpQ.len zf0 rfl) ?_
  refine Wl.q rfl rfl (OpQ.move rfl) ?_
  refine Wl.nil (PX.then_n (CT.block ?_))
  refine CT.loop (ι := Nat) (fun x => x ≤ (D.rs.getD q rw0).xs.length) (fun x => [(1, .pointer (some ⟨b1, 0, none⟩)), (3, .int .i64 ((D.fin.length : Nat) : Int)), (38, .slice D.na D.rs.length D.nc), (39, .int .i64 ((D.rs.length : Nat) : Int)), (40, .int .i64 ((q : Nat) : Int)), (49, rv (D.rs.getD q rw0)), (50, .int .i64 (((D.rs.getD q rw0).xs.length : Nat) : Int)), (51, .int .i64 ((x : Nat) : Int))]) (fun _ => [.row 49 4 (vb b1) 1 (dvc D)]) (fun x => (D.rs.getD q rw0).xs.length - x) 0 (Nat.zero_le _) ⟨rfl, rfl, rfl, rfl, rfl, rfl, rfl, rfl, trivial⟩ (HSub.refl _) (fun x hx K1 hK1 => ?_)
  refine CT.seq (CT.region ?_)
  refine Wl.q rfl rfl (OpQ.lss rfl rfl) ?_
  refine Wl.nil (PX.then_n (CT.seq ?_))
  refine CT.cond rfl (fun h52 => ?_) (fun h52 => ?_)
  ·
   have h52 := of_decide_eq_true h52
   obtain ⟨hm1, hm2⟩ := hrm _ (getDm (d := 0) (show x < (D.rs.getD q rw0).xs.length by omega))
   refine CT.skip (PX.then_n (CT.seq (CT.block (CT.seq (CT.region ?_)))))
   refine Wl.q rfl rfl (OpQ.index1 zf0 zf1 rfl rfl (by omega) (hrs q (by omega) (by omega))) ?_
   refine Wl.q rfl rfl (OpQ.loadG zf8 rfl (fun w hH => (hH.use hD).2.2 _ (getDm (show q < D.rs.length by omega))) (getMap zz (D.rs.getD q rw0).xs 0 (j := x) (by omega))) ?_
   refine Wl.q rfl rfl (OpQ.assign rfl) ?_
   refine Wl.nil (PX.then_n (CT.seq (CT.region ?_)))
   refine Wl.q rfl rfl (OpQ.move rfl) ?_
   refine Wl.q rfl rfl (OpQ.lss rfl rfl) ?_
   refine Wl.know 56 (v' := .bool false) rfl (congrArg Value.bool (decide_eq_false (by omega))) ?_
   refine Wl.q rfl rfl (OpQ.move rfl) ?_
   refine Wl.q rfl rfl (OpQ.move rfl) ?_
   refine Wl.q rfl rfl (OpQ.move rfl) ?_
   refine Wl.q rfl rfl (OpQ.geq rfl rfl) ?_
   refine Wl.know 60 (v' := .bool false) rfl (congrArg Value.bool (decide_eq_false (by omega))) ?_
   refine Wl.q rfl rfl (OpQ.pickF rfl rfl) ?_
   refine Wl.nil (PX.then_n ?_)
   refine CT.condF rfl ?_
   refine CT.skip (PX.block_n (PX.then_n (CT.region ?_)))
   refine Wl.q rfl rfl (OpQ.add rfl rfl (by omega)) ?_
   refine Wl.q rfl rfl (OpQ.move rfl) ?_
   refine Wl.nil ?_
   exact PX.loop hK1 (x + 1) (by omega) (by first | omega | (dsimp only; omega)) ⟨rfl, rfl, rfl, rfl, rfl, rfl, rfl, rfl, trivial⟩ (HSub.refl _)
  ·
   have h52 := of_decide_eq_false h52
   refine CT.exit (PX.then_x (PX.then_x (PX.block_x (PX.block_n (PX.then_n (CT.region ?_))))))
   refine Wl.q rfl rfl (OpQ.add rfl rfl (by omega)) ?_
   refine Wl.q rfl rfl (OpQ.move rfl) ?_
   refine Wl.nil ?_
   exact PX.loop hK0 (q + 1) (by omega) (by first | omega | (dsimp only; omega)) ⟨rfl, rfl, rfl, rfl, rfl, trivial⟩ (HSub.refl _)
 ·
  have h41 := of_decide_eq_false h41
  refine CT.exit (PX.then_x (PX.then_x (PX.block_x (PX.then_n (CT.seq (CT.region ?_))))))
  refine Wl.q rfl rfl (OpQ.assign rfl) ?_
  refine Wl.nil (PX.then_n (CT.ret ?_))
  refine PX.ret1 rfl rfl (fun w' hH => ?_)
  exact ⟨rfl, hH.ext⟩

theorem XE_mkR : MapKey Try.prog 115 kq := MapKey.struct (n := 2) (by kernel_rfl) (fun s : Option (Nat × Nat) => [q1 s, q2 s]) (fun _ => rfl) kq_inj
set_option maxRecDepth 100000 in
set_option maxHeartbeats 4000000 in
/-- semigroup/semigroupref42.Inverse -/
theorem inverseR_spec (w : World) (SF : Sv) (hSF : Stays [] w (svm SF)) (hvF : SF.sq.Ok 4096) (D : Dv) (hD : Stays [] w (dvm D)) (hvD : D.Ok) (h5 : D.fin.length ≤ 512) (ho : SF.sq.Over D.da.L) (hn : SF.sq.n * D.da.n ≤ 500) : Calls Try.prog 26 #[svv SF, dvv D] w (fun e w' => ∃ i : Dv × List Nat, (i.1.Ok ∧ i.1.da.n ≤ 501 ∧ IsInv SF.sq D.da i.1.da) ∧ e = .returned (.tuple #[dvv i.1, .int .i64 0]) ∧ Post [] [.frag i.2 (dvm i.1)] w w') := by
 obtain ⟨hb1F, hb2F, hb3F, hb4F⟩ := hvF.bnd
 obtain ⟨hloF, hleF, hlfF⟩ := hvF.lens
 have hnsF : 0 < SF.rs.length → SF.na.isSome = true := fun h => hSF.now.n.isSome (j := 0) (by rw [List.length_map]; exact h)
 have hosF : 0 < SF.os.length → SF.oa.isSome = true := fun h => hSF.now.o.isSome (j := 0) (by rw [List.length_map]; exact h)
 have hesF : 0 < SF.en.length → SF.ea.isSome = true := fun h => hSF.now.e.isSome (j := 0) (by rw [List.length_map]; exact h)
 have hfsF : 0 < SF.fi.length → SF.fa.isSome = true := fun h => hSF.now.f.isSome (j := 0) (by rw [List.length_map]; exact h)
 have hrsF : ∀ q, q < SF.rs.length → 0 < (SF.rs.getD q rx0).xs.length → (SF.rs.getD q rx0).a.isSome = true := fun q hq h => (hSF.now.r _ (getDm hq)).isSome (j := 0) (by rw [List.length_map]; exact h)
 have husF : ∀ q, q < SF.os.length → 0 < (SF.os.getD q rx0).xs.length → (SF.os.getD q rx0).a.isSome = true := fun q hq h => (hSF.now.u _ (getDm hq)).isSome (j := 0) (by rw [List.length_map]; exact h)
 have hfD : 0 < D.fin.length → D.fa.isSome = true := fun h => hD.now.1.isSome (j := 0) (by rw [List.length_map]; exact h)
 have hoD : SF.sq.Over D.L := by rw [hvD.L_eq]; exact ho
 have hwl : ∀ k, (bfs (rvf SF.sq D.da) SF.L (some (SF.s, D.da.sy.run D.da.s (wl SF.init))) k).length ≤ 501 := fun k => Nat.le_trans (rv_len hvF hvD.daOk ho k) (by omega)
 refine enter (args := [svv SF, dvv D]) [] 178 Try.func26 rfl rfl rfl ?_
 refine CT.seq (CT.region ?_)
 refine Wl.g rfl rfl (OpG.box (size := 7) rfl rfl rfl) ?_
 rintro b2 _
 refine Wl.g rfl rfl (OpG.box (size := 4) rfl rfl rfl) ?_
 rintro b3 _
 refine Wl.g rfl rfl (OpG.alloc (zs := [.int .i64 0, .int .i64 0, .slice none 0 0, .slice none 0 0]) zf37 rfl rfl) ?_
 rintro b4 _
 refine Wl.q rfl rfl (OpQ.assign rfl) ?_
 refine Wl.nil (PX.then_n (CT.seq (CT.seq (CT.region ?_))))
 refine Wl.q rfl rfl (OpQ.loadV (b := b2) zf78 zf79 rfl (by repeat (first | exact Has.here | apply Has.there)) (by rfl)) ?_
 refine Wl.know 19 (v' := svv SF) rfl rfl ?_
 refine Wl.g rfl rfl (OpG.callV zf139 rfl (fun w hH => svalidR_spec w SF (hH.stays0 hSF) hvF)) ?_
 rintro _ _
 refine Wl.q rfl rfl (OpQ.assign rfl) ?_
 refine Wl.nil (PX.then_n (CT.seq (CT.region ?_)))
 refine Wl.q rfl rfl (OpQ.move rfl) ?_
 refine Wl.q rfl rfl (OpQ.neq rfl rfl) ?_
 refine Wl.know 22 (v' := .bool false) rfl (congrArg Value.bool (by decide)) ?_
 refine Wl.nil (PX.then_n ?_)
 refine CT.condF rfl ?_
 refine CT.skip (PX.then_n (CT.seq (CT.seq (CT.region ?_))))
 refine Wl.q rfl rfl (OpQ.loadV (b := b3) zf24 zf25 rfl (by repeat (first | exact Has.here | apply Has.there)) (by rfl)) ?_
 refine Wl.know 25 (v' := dvv D) rfl rfl ?_
 refine Wl.g rfl rfl (OpG.callV zf140 rfl (fun w hH => dvalidR_spec w D (hH.stays0 hD) hvD h5)) ?_
 rintro _ _
 refine Wl.q rfl rfl (OpQ.assign rfl) ?_
 refine Wl.nil (PX.then_n (CT.seq (CT.region ?_)))
 refine Wl.q rfl rfl (OpQ.move rfl) ?_
 refine Wl.q rfl rfl (OpQ.neq rfl rfl) ?_
 refine Wl.know 28 (v' := .bool false) rfl (congrArg Value.bool (by decide)) ?_
 refine Wl.nil (PX.then_n ?_)
 refine CT.condF rfl ?_
 refine CT.skip (PX.then_n (CT.seq (CT.seq (CT.region ?_))))
 refine Wl.q rfl rfl (OpQ.loadV (b := b2) zf78 zf79 rfl (by repeat (first | exact Has.here | apply Has.there)) (by rfl)) ?_
 refine Wl.know 31 (v' := svv SF) rfl rfl ?_
 refine Wl.q rfl rfl (OpQ.fieldAddr zf15 rfl) ?_
 refine Wl.q rfl rfl (OpQ.loadF (b := b3) zf8 rfl (by repeat (first | exact Has.here | apply Has.there)) (by rfl)) ?_
 refine Wl.know 33 (v' := .int .i64 ((D.da.L : Nat) : Int)) rfl (congrArg (Value.int .i64) hvD.L_eq) ?_
 refine Wl.g rfl rfl (OpG.callV zf141 rfl (fun w hH => writesR_spec w SF (hH.stays0 hSF) hvF D.da.L ho)) ?_
 rintro _ _
 refine Wl.know 34 (v' := .bool true) rfl (congrArg Value.bool rfl) ?_
 refine Wl.q rfl rfl (OpQ.not rfl) ?_
 refine Wl.nil (PX.then_n ?_)
 refine CT.condF rfl ?_
 refine CT.skip (PX.then_n (CT.seq ?_))
 refine CT.draw 11 zf6 ?_
 refine RA.q 0 (by kernel_rfl) rfl rfl rfl (.refl _) (OpQ.fieldAddr zf76 rfl) ?_
 refine RA.q 1 (by kernel_rfl) rfl rfl rfl (.refl _) (OpQ.loadF (b := b2) zf8 rfl (by repeat (first | exact Has.here | apply Has.there)) (by rfl)) ?_
 refine RA.q 2 (by kernel_rfl) rfl rfl rfl (.refl _) (OpQ.loadV (b := b3) zf24 zf25 rfl (by repeat (first | exact Has.here | apply Has.there)) (by rfl)) ?_
 refine RA.know 39 (v' := dvv D) rfl rfl ?_
 refine RA.q 3 (by kernel_rfl) rfl rfl rfl (.refl _) (OpQ.fieldAddr zf22 rfl) ?_
 refine RA.q 4 (by kernel_rfl) rfl rfl rfl (.refl _) (OpQ.loadF (b := b3) zf8 rfl (by repeat (first | exact Has.here | apply Has.there)) (by rfl)) ?_
 refine RA.know 41 (v' := .int .i64 ((D.da.s : Nat) : Int)) rfl (congrArg (Value.int .i64) hvD.s_eq) ?_
 refine RA.q 5 (by kernel_rfl) rfl rfl rfl (.refl _) (OpQ.fieldAddr zf77 rfl) ?_
 refine RA.q 6 (by kernel_rfl) rfl rfl rfl (.refl _) (OpQ.loadF (b := b2) zf72 rfl (by repeat (first | exact Has.here | apply Has.there)) (by rfl)) ?_
 refine RA.f 7 (by kernel_rfl) rfl rfl rfl (OpG.callV zf142 rfl (fun w hH => walk42_spec w D (hH.stays0 hD) hvD D.da.s hvD.daOk.st SF.init hvF.ti hoD.i)) (fun _ _ => (.refl _)) ?_
 rintro _ _
 refine RA.q 8 (by kernel_rfl) rfl rfl rfl (.refl _) (OpQ.build (cells := #[zn SF.s, zn (D.da.sy.run D.da.s (wl SF.init))]) zf143 rfl rfl) ?_
 refine RA.f 9 (by kernel_rfl) rfl rfl rfl (OpG.litS1 zf137 zf138 rfl (by decide) rfl) (fun _ _ => (.cons _ (.refl _))) ?_
 rintro b46 _
 refine RA.q 10 (by kernel_rfl) rfl rfl rfl (.cons _ (.refl _)) (OpQ.assign rfl) ?_
 refine RA.tail ?_
 refine RT.done (by kernel_rfl) ?_
 refine PX.then_n (CT.seq (CT.region ?_))
 refine Wl.g rfl rfl (OpG.makeMap (f := kq)) ?_
 rintro b47 _
 refine Wl.q rfl rfl (OpQ.move rfl) ?_
 refine Wl.q rfl rfl (OpQ.index zf137 zf136 rfl rfl (by omega) rfl) ?_
 refine Wl.q rfl rfl (OpQ.loadAggG (cs := kqv (some (SF.s, D.da.sy.run D.da.s (wl SF.init)))) zf135 zf136 rfl (fun w hH => hH.rd (.there .here)) (fun k v hk => by rw [show Int.toNat 0 * 2 + k = k from Nat.zero_add k]; exact hk)) ?_
 refine Wl.know 50 (v' := kq (some (SF.s, D.da.sy.run D.da.s (wl SF.init)))) rfl rfl ?_
 refine Wl.g rfl rfl (OpG.insNew (f := kq) (x := (some (SF.s, D.da.sy.run D.da.s (wl SF.init)))) (l := []) XE_mkR zf144 rfl rfl rfl rfl (by repeat (first | exact Upd.here | apply Upd.there))) ?_
 rintro _ _
 refine Wl.q rfl rfl (OpQ.move rfl) ?_
 refine Wl.q rfl rfl (OpQ.assign rfl) ?_
 refine Wl.nil (PX.then_n (CT.seq (CT.region ?_)))
 refine Wl.q rfl rfl (OpQ.fieldAddr zf64 rfl) ?_
 refine Wl.q rfl rfl (OpQ.loadF (b := b2) zf8 rfl (by repeat (first | exact Has.here | apply Has.there)) (by rfl)) ?_
 refine Wl.q rfl rfl (OpQ.build (cells := #[zn SF.L, .int .i64 0, .slice none 0 0, .slice none 0 0]) zf40 rfl rfl) ?_
 refine Wl.g rfl rfl (OpG.alloc (zs := [.int .i64 0, .int .i64 0, .slice none 0 0, .slice none 0 0]) zf37 rfl rfl) ?_
 rintro b10 _
 refine Wl.g rfl rfl (OpG.storeV (b := b10) zf25 rfl rfl rfl rfl (by repeat (first | exact Upd.here | apply Upd.there))) ?_
 rintro _ _
 refine Wl.nil (PX.then_n (CT.seq (CT.seq (CT.region ?_))))
 refine Wl.q rfl rfl (OpQ.assign rfl) ?_
 refine Wl.nil (PX.then_n (CT.block ?_))
 refine CT.nilrow 4 1 ?_
 refine CT.nilrow 22 1 ?_
 refine CT.as (fun _ h => h.bind0 (p := rws []) (rws_nil)) ?_
 refine CT.as (fun _ h => h.take (.cons .here (.cons (.there .here) (.cons .here (.cons .here (.cons (.there .here) (.cons .here (.cons .here (.cons .here (.cons .here .nil)))))))))) ?_
 refine CT.loop (ι := Nat × Option Addr × Nat × Option Addr × Nat × List Bool × Option Addr × Nat × List Rw × List Nat) (fun (i, a', c', fa', fc', fl, na', nc', rs, bs) => Going (rvf SF.sq D.da) SF.L (some (SF.s, D.da.sy.run D.da.s (wl SF.init))) (i * SF.L) ∧ i ≤ (bfs (rvf SF.sq D.da) SF.L (some (SF.s, D.da.sy.run D.da.s (wl SF.init))) (i * SF.L)).length ∧ fl = ((bfs (rvf SF.sq D.da) SF.L (some (SF.s, D.da.sy.run D.da.s (wl SF.init))) (i * SF.L)).take i).map (rve SF.sq D.da) ∧ XRows (rvf SF.sq D.da) SF.L (some (SF.s, D.da.sy.run D.da.s (wl SF.init))) (bfs (rvf SF.sq D.da) SF.L (some (SF.s, D.da.sy.run D.da.s (wl SF.init))) (i * SF.L)) i (rs.map (·.xs))) (fun (i, a', c', fa', fc', fl, na', nc', rs, bs) => [(2, .pointer (some ⟨b2, 0, none⟩)), (3, .pointer (some ⟨b3, 0, none⟩)), (4, .pointer (some ⟨b4, 0, none⟩)), (8, .slice a' (bfs (rvf SF.sq D.da) SF.L (some (SF.s, D.da.sy.run D.da.s (wl SF.init))) (i * SF.L)).length c'), (9, .map (some b47)), (10, .pointer (some ⟨b10, 0, none⟩)), (11, .int .i64 ((i : Nat) : Int))]) (fun (i, a', c', fa', fc', fl, na', nc', rs, bs) => [.frag bs (rws rs), .row 4 1 (.slice fa' i fc') i (fl.map bo), .row 22 1 (.slice na' i nc') i (rs.map rv), .row 49 4 (vb b10) 1 [zn SF.L, .int .i64 0, .slice fa' (i) fc', .slice na' (i) nc'], .row 115 2 (.slice a' (bfs (rvf SF.sq D.da) SF.L (some (SF.s, D.da.sy.run D.da.s (wl SF.init))) (i * SF.L)).length c') (bfs (rvf SF.sq D.da) SF.L (some (SF.s, D.da.sy.run D.da.s (wl SF.init))) (i * SF.L)).length ((bfs (rvf SF.sq D.da) SF.L (some (SF.s, D.da.sy.run D.da.s (wl SF.init))) (i * SF.L)).flatMap kqv), .blk b47 (mapO kq (itA 0 (bfs (rvf SF.sq D.da) SF.L (some (SF.s, D.da.sy.run D.da.s (wl SF.init))) (i * SF.L)))), .row 49 4 (vb b4) 1 [.int .i64 0, .int .i64 0, .slice none 0 0, .slice none 0 0], .row 49 4 (vb b3) 1 (dvc D), .row 30 7 (vb b2) 1 (svc SF)]) (fun (i, a', c', fa', fc', fl, na', nc', rs, bs) => 600 - i) (0, some ⟨b46, 0, none⟩, 1, none, 0, [], none, 0, [], []) ⟨by rw [Nat.zero_mul]; exact Going.zero, Nat.zero_le _, rfl, XRows.start _⟩ ⟨rfl, rfl, rfl, (lkV rfl (by rw [Nat.zero_mul]; rfl)), rfl, rfl, rfl, trivial⟩ (by dsimp only; rw [Nat.zero_mul]; exact HSub.refl _) (fun ⟨i, a', c', fa', fc', fl, na', nc', rs, bs⟩ ⟨hg, hi, hfl, hrows⟩ K0 hK0 => ?_)
 dsimp only
 refine CT.fact (p := a'.isSome = true) (fun w hH => (hH.rd (.there (.there (.there (.there .here))))).isSome (j := 0) (by rw [flat_len kqv_len]; have := bfs_pos (f := (rvf SF.sq D.da)) (L := SF.L) (s := (some (SF.s, D.da.sy.run D.da.s (wl SF.init)))) (i * SF.L); omega)) (fun hia => ?_)
 have hfll : fl.length = i := by rw [hfl, List.length_map, List.length_take, Nat.min_eq_left hi]
 have hrll : rs.length = i := by have := hrows.len; rwa [List.length_map] at this
 have hw0 := hwl (i * SF.L)
 refine CT.seq (CT.seq (CT.region ?_))
 refine Wl.q rfl rfl (OpQ.move rfl) ?_
 refine Wl.q rfl rfl (OpQ.move rfl) ?_
 refine Wl.q rfl rfl (OpQ.len zf137 rfl) ?_
 refine Wl.q rfl rfl (OpQ.lss rfl rfl) ?_
 refine Wl.nil (PX.then_n ?_)
 refine CT.cond rfl (fun h58 => ?_) (fun h58 => ?_)
 ·
  have h58 := of_decide_eq_true h58
  have hlt : i < (bfs (rvf SF.sq D.da) SF.L (some (SF.s, D.da.sy.run D.da.s (wl SF.init))) (i * SF.L)).length := by omega
  obtain ⟨s, hs⟩ : ∃ s, s = ((bfs (rvf SF.sq D.da) SF.L (some (SF.s, D.da.sy.run D.da.s (wl SF.init))) (i * SF.L)).getD i (some (SF.s, D.da.sy.run D.da.s (wl SF.init)))) := ⟨_, rfl⟩
  have hsp : ∀ p, s = some p → p.1 < SF.sq.n ∧ p.2 < D.da.n := by rw [hs]; exact rv_all hvF hvD.daOk ho _ _ (getDm hlt)
  refine CT.skip (PX.then_n (CT.seq (CT.block (CT.seq (CT.region ?_)))))
  refine Wl.q rfl rfl (OpQ.move rfl) ?_
  refine Wl.q rfl rfl (OpQ.move rfl) ?_
  refine Wl.q rfl rfl (OpQ.index zf137 zf136 rfl rfl (by omega) hia) ?_
  refine Wl.q rfl rfl (OpQ.loadAggG (cs := kqv ((bfs (rvf SF.sq D.da) SF.L (some (SF.s, D.da.sy.run D.da.s (wl SF.init))) (i * SF.L)).getD i (some (SF.s, D.da.sy.run D.da.s (wl SF.init))))) zf135 zf136 rfl (fun w hH => hH.rd (.there (.there (.there (.there .here))))) (flat_cells kqv_len (bfs (rvf SF.sq D.da) SF.L (some (SF.s, D.da.sy.run D.da.s (wl SF.init))) (i * SF.L)) (some (SF.s, D.da.sy.run D.da.s (wl SF.init))) hlt)) ?_
  refine Wl.know 64 (v' := kq s) rfl (by rw [hs]) ?_
  refine Wl.g rfl rfl (OpG.alloc (zs := [.int .i64 0, .int .i64 0]) zf138 rfl rfl) ?_
  rintro b12 _
  refine Wl.g rfl rfl (OpG.storeV (b := b12) zf136 rfl rfl rfl rfl (by repeat (first | exact Upd.here | apply Upd.there))) ?_
  rintro _ _
  refine Wl.nil (PX.then_n (CT.seq (CT.region ?_)))
  refine Wl.q rfl rfl (OpQ.assign rfl) ?_
  refine Wl.nil (PX.then_n (CT.seq (CT.seq (CT.region ?_))))
  refine Wl.q rfl rfl (OpQ.assign rfl) ?_
  refine Wl.nil (PX.then_n (CT.block ?_))
  refine CT.nilrow 3 1 ?_
  refine CT.loop (ι := Nat × Option Addr × Nat × Option Addr × Nat) (fun (x, a', c', xa, xc) => x ≤ SF.L) (fun (x, a', c', xa, xc) => [(2, .pointer (some ⟨b2, 0, none⟩)), (3, .pointer (some ⟨b3, 0, none⟩)), (4, .pointer (some ⟨b4, 0, none⟩)), (8, .slice a' (bfs (rvf SF.sq D.da) SF.L (some (SF.s, D.da.sy.run D.da.s (wl SF.init))) (i * SF.L + x)).length c'), (9, .map (some b47)), (10, .pointer (some ⟨b10, 0, none⟩)), (11, .int .i64 ((i : Nat) : Int)), (12, .pointer (some ⟨b12, 0, none⟩)), (13, .slice xa x xc), (14, .int .i64 ((x : Nat) : Int))]) (fun (x, a', c', xa, xc) => [.row 3 1 (.slice xa x xc) x ((rowG (rvf SF.sq D.da) (bfs (rvf SF.sq D.da) SF.L (some (SF.s, D.da.sy.run D.da.s (wl SF.init))) (i * SF.L + x)) s x).map zz), .row 115 2 (vb b12) 1 (kqv s), .frag bs (rws rs), .row 4 1 (.slice fa' i fc') i (fl.map bo), .row 22 1 (.slice na' i nc') i (rs.map rv), .row 49 4 (vb b10) 1 [zn SF.L, .int .i64 0, .slice fa' (i) fc', .slice na' (i) nc'], .row 115 2 (.slice a' (bfs (rvf SF.sq D.da) SF.L (some (SF.s, D.da.sy.run D.da.s (wl SF.init))) (i * SF.L + x)).length c') (bfs (rvf SF.sq D.da) SF.L (some (SF.s, D.da.sy.run D.da.s (wl SF.init))) (i * SF.L + x)).length ((bfs (rvf SF.sq D.da) SF.L (some (SF.s, D.da.sy.run D.da.s (wl SF.init))) (i * SF.L + x)).flatMap kqv), .blk b47 (mapO kq (itA 0 (bfs (rvf SF.sq D.da) SF.L (some (SF.s, D.da.sy.run D.da.s (wl SF.init))) (i * SF.L + x)))), .row 49 4 (vb b4) 1 [.int .i64 0, .int .i64 0, .slice none 0 0, .slice none 0 0], .row 49 4 (vb b3) 1 (dvc D), .row 30 7 (vb b2) 1 (svc SF)]) (fun (x, a', c', xa, xc) => SF.L - x) (0, a', c', none, 0) (Nat.zero_le _) ⟨rfl, rfl, rfl, rfl, rfl, rfl, rfl, rfl, rfl, rfl, trivial⟩ (HSub.refl _) (fun ⟨x, a', c', xa, xc⟩ hx K1 hK1 => ?_)
  dsimp only
  refine CT.fact (p := a'.isSome = true) (fun w hH => (hH.rd (.there (.there (.there (.there (.there (.there .here))))))).isSome (j := 0) (by rw [flat_len kqv_len]; have := bfs_pos (f := (rvf SF.sq D.da)) (L := SF.L) (s := (some (SF.s, D.da.sy.run D.da.s (wl SF.init)))) (i * SF.L + x); omega)) (fun hia => ?_)
  have hwx := hwl (i * SF.L + x)
  refine CT.seq (CT.seq (CT.region ?_))
  refine Wl.q rfl rfl (OpQ.move rfl) ?_
  refine Wl.q rfl rfl (OpQ.fieldAddr zf64 rfl) ?_
  refine Wl.q rfl rfl (OpQ.loadF (b := b2) zf8 rfl (by repeat (first | exact Has.here | apply Has.there)) (by rfl)) ?_
  refine Wl.q rfl rfl (OpQ.lss rfl rfl) ?_
  refine Wl.nil (PX.then_n ?_)
  refine CT.cond rfl (fun h68 => ?_) (fun h68 => ?_)
  ·
   have h68 := of_decide_eq_true h68
   have hxl : x < SF.L := by omega
   have hltx : i < (bfs (rvf SF.sq D.da) SF.L (some (SF.s, D.da.sy.run D.da.s (wl SF.init))) (i * SF.L + x)).length := Nat.lt_of_lt_of_le hlt (bfs_le (by omega))
   have hwx1 := hwl (i * SF.L + (x + 1))
   refine CT.skip (PX.then_n (CT.seq (CT.block (CT.seq (CT.region ?_)))))
   refine Wl.q rfl rfl (OpQ.build (cells := #[.int .i64 (-1), .int .i64 0]) zf143 rfl rfl) ?_
   refine Wl.g rfl rfl (OpG.alloc (zs := [.int .i64 0, .int .i64 0]) zf138 rfl rfl) ?_
   rintro b15 _
   refine Wl.g rfl rfl (OpG.storeV (b := b15) zf136 rfl rfl rfl rfl (by repeat (first | exact Upd.here | apply Upd.there))) ?_
   rintro _ _
   refine Wl.nil (PX.then_n ?_)
   refine CT.cut (ι := Unit) (Φ := fun _ => True) (E' := fun _ => [(2, .pointer (some ⟨b2, 0, none⟩)), (3, .pointer (some ⟨b3, 0, none⟩)), (4, .pointer (some ⟨b4, 0, none⟩)), (8, .slice a' (bfs (rvf SF.sq D.da) SF.L (some (SF.s, D.da.sy.run D.da.s (wl SF.init))) (i * SF.L + x)).length c'), (9, .map (some b47)), (10, .pointer (some ⟨b10, 0, none⟩)), (11, .int .i64 ((i : Nat) : Int)), (12, .pointer (some ⟨b12, 0, none⟩)), (13, .slice xa x xc), (14, .int .i64 ((x : Nat) : Int)), (15, .pointer (some ⟨b15, 0, none⟩))]) (H' := fun _ => [.row 115 2 (vb b15) 1 (kqv ((rvf SF.sq D.da) s x)), .row 3 1 (.slice xa x xc) x ((rowG (rvf SF.sq D.da) (bfs (rvf SF.sq D.da) SF.L (some (SF.s, D.da.sy.run D.da.s (wl SF.init))) (i * SF.L + x)) s x).map zz), .row 115 2 (vb b12) 1 (kqv s), .frag bs (rws rs), .row 4 1 (.slice fa' i fc') i (fl.map bo), .row 22 1 (.slice na' i nc') i (rs.map rv), .row 49 4 (vb b10) 1 [zn SF.L, .int .i64 0, .slice fa' (i) fc', .slice na' (i) nc'], .row 115 2 (.slice a' (bfs (rvf SF.sq D.da) SF.L (some (SF.s, D.da.sy.run D.da.s (wl SF.init))) (i * SF.L + x)).length c') (bfs (rvf SF.sq D.da) SF.L (some (SF.s, D.da.sy.run D.da.s (wl SF.init))) (i * SF.L + x)).length ((bfs (rvf SF.sq D.da) SF.L (some (SF.s, D.da.sy.run D.da.s (wl SF.init))) (i * SF.L + x)).flatMap kqv), .blk b47 (mapO kq (itA 0 (bfs (rvf SF.sq D.da) SF.L (some (SF.s, D.da.sy.run D.da.s (wl SF.init))) (i * SF.L + x)))), .row 49 4 (vb b4) 1 [.int .i64 0, .int .i64 0, .slice none 0 0, .slice none 0 0], .row 49 4 (vb b3) 1 (dvc D), .row 30 7 (vb b2) 1 (svc SF)]) (fun K2 hK2 => ?_) (fun _ _ => ?_)
   ·
    refine CT.seq (CT.region ?_)
    refine Wl.q rfl rfl (OpQ.fieldAddr zf145 rfl) ?_
    refine Wl.q rfl rfl (OpQ.loadF (b := b12) zf8 rfl (by repeat (first | exact Has.here | apply Has.there)) (by rfl)) ?_
    refine Wl.q rfl rfl (OpQ.geq rfl rfl) ?_
    refine Wl.q rfl rfl (OpQ.move rfl) ?_
    refine Wl.split 75 rfl (fun hg75 => ?_) (fun hg75 => ?_)
    ·
     obtain ⟨p, hp⟩ := q1_pos (of_decide_eq_true hg75)
     obtain ⟨hp1, hp2⟩ := hsp p hp
     have hp1n : p.1 < SF.rs.length := by rw [← SF.n_eq]; exact hp1
     have hrl := hvF.rlen hp1n
     have hol := hvF.olen hp1n
     refine Wl.q rfl rfl (OpQ.fieldAddr zf63 rfl) ?_
     refine Wl.q rfl rfl (OpQ.loadF (b := b2) zf20 rfl (by repeat (first | exact Has.here | apply Has.there)) (by rfl)) ?_
     refine Wl.q rfl rfl (OpQ.fieldAddr zf145 rfl) ?_
     refine Wl.q rfl rfl (OpQ.loadF (b := b12) zf8 rfl (by repeat (first | exact Has.here | apply Has.there)) (by rfl)) ?_
     refine Wl.know 79 (v' := .int .i64 ((p.1 : Nat) : Int)) rfl (by rw [hp]; rfl) ?_
     refine Wl.q rfl rfl (OpQ.index1 zf21 zf23 rfl rfl (by omega) (hnsF (by omega))) ?_
     refine Wl.q rfl rfl (OpQ.loadG zf10 rfl (fun w hH => (hH.use hSF).n) (getMap rxv SF.rs rx0 (j := p.1) (by omega))) ?_
     refine Wl.q rfl rfl (OpQ.move rfl) ?_
     refine Wl.q rfl rfl (OpQ.index1 zf0 zf1 rfl rfl (by omega) (hrsF p.1 (by omega) (by omega))) ?_
     refine Wl.q rfl rfl (OpQ.loadG zf8 rfl (fun w hH => (hH.use hSF).r _ (getDm (show p.1 < SF.rs.length by omega))) (getMap zo (SF.rs.getD p.1 rx0).xs none (j := x) (by omega))) ?_
     refine Wl.know 84 (v' := zo (SF.sq.to p.1 x)) rfl (congrArg zo (SF.to_eq p.1 x).symm) ?_
     refine Wl.q rfl rfl (OpQ.geq rfl rfl) ?_
     refine Wl.q rfl rfl (OpQ.pickT rfl rfl) ?_
     refine Wl.nil (PX.then_n ?_)
     refine CT.cond rfl (fun h86 => ?_) (fun h86 => ?_)
     ·
      have h86 := of_decide_eq_true h86
      obtain ⟨r, hto⟩ := oi_some (show oi (SF.sq.to p.1 x) ≠ -1 by omega)
      have hT : ((rvf SF.sq D.da) s x) = some (r, D.da.sy.run p.2 (wl (SF.sq.o p.1 x))) := by rw [hp]; exact rvf_some hto
      have hot := hvF.to' p.1 x hp1 (show x < SF.sq.L from hxl)
      have hoo := hoD.o p.1 x hp1 (show x < SF.sq.L from hxl)
      refine CT.draw 23 zf6 ?_
      refine RA.q 0 (by kernel_rfl) rfl rfl rfl (.refl _) (OpQ.fieldAddr zf63 rfl) ?_
      refine RA.q 1 (by kernel_rfl) rfl rfl rfl (.refl _) (OpQ.loadF (b := b2) zf20 rfl (by repeat (first | exact Has.here | apply Has.there)) (by rfl)) ?_
      refine RA.q 2 (by kernel_rfl) rfl rfl rfl (.refl _) (OpQ.fieldAddr zf145 rfl) ?_
      refine RA.q 3 (by kernel_rfl) rfl rfl rfl (.refl _) (OpQ.loadF (b := b12) zf8 rfl (by repeat (first | exact Has.here | apply Has.there)) (by rfl)) ?_
      refine RA.know 90 (v' := .int .i64 ((p.1 : Nat) : Int)) rfl (by rw [hp]; rfl) ?_
      refine RA.q 4 (by kernel_rfl) rfl rfl rfl (.refl _) (OpQ.index1 zf21 zf23 rfl rfl (by omega) (hnsF (by omega))) ?_
      refine RA.q 5 (by kernel_rfl) rfl rfl rfl (.refl _) (OpQ.loadG zf10 rfl (fun w hH => (hH.use hSF).n) (getMap rxv SF.rs rx0 (j := p.1) (by omega))) ?_
      refine RA.q 6 (by kernel_rfl) rfl rfl rfl (.refl _) (OpQ.move rfl) ?_
      refine RA.q 7 (by kernel_rfl) rfl rfl rfl (.refl _) (OpQ.index1 zf0 zf1 rfl rfl (by omega) (hrsF p.1 (by omega) (by omega))) ?_
      refine RA.q 8 (by kernel_rfl) rfl rfl rfl (.refl _) (OpQ.loadG zf8 rfl (fun w hH => (hH.use hSF).r _ (getDm (show p.1 < SF.rs.length by omega))) (getMap zo (SF.rs.getD p.1 rx0).xs none (j := x) (by omega))) ?_
      refine RA.know 95 (v' := .int .i64 ((r : Nat) : Int)) rfl ((congrArg zo (SF.to_eq p.1 x).symm).trans (by rw [hto]; rfl)) ?_
      refine RA.q 9 (by kernel_rfl) rfl rfl rfl (.refl _) (OpQ.loadV (b := b3) zf24 zf25 rfl (by repeat (first | exact Has.here | apply Has.there)) (by rfl)) ?_
      refine RA.know 96 (v' := dvv D) rfl rfl ?_
      refine RA.q 10 (by kernel_rfl) rfl rfl rfl (.refl _) (OpQ.fieldAddr zf146 rfl) ?_
      refine RA.q 11 (by kernel_rfl) rfl rfl rfl (.refl _) (OpQ.loadF (b := b12) zf8 rfl (by repeat (first | exact Has.here | apply Has.there)) (by rfl)) ?_
      refine RA.know 98 (v' := .int .i64 ((p.2 : Nat) : Int)) rfl (by rw [hp]; rfl) ?_
      refine RA.q 12 (by kernel_rfl) rfl rfl rfl (.refl _) (OpQ.fieldAddr zf65 rfl) ?_
      refine RA.q 13 (by kernel_rfl) rfl rfl rfl (.refl _) (OpQ.loadF (b := b2) zf66 rfl (by repeat (first | exact Has.here | apply Has.there)) (by rfl)) ?_
      refine RA.q 14 (by kernel_rfl) rfl rfl rfl (.refl _) (OpQ.fieldAddr zf145 rfl) ?_
      refine RA.q 15 (by kernel_rfl) rfl rfl rfl (.refl _) (OpQ.loadF (b := b12) zf8 rfl (by repeat (first | exact Has.here | apply Has.there)) (by rfl)) ?_
      refine RA.know 102 (v' := .int .i64 ((p.1 : Nat) : Int)) rfl (by rw [hp]; rfl) ?_
      refine RA.q 16 (by kernel_rfl) rfl rfl rfl (.refl _) (OpQ.index1 zf67 zf68 rfl rfl (by omega) (hosF (by omega))) ?_
      refine RA.q 17 (by kernel_rfl) rfl rfl rfl (.refl _) (OpQ.loadG zf69 rfl (fun w hH => (hH.use hSF).o) (getMap rxv SF.os rx0 (j := p.1) (by omega))) ?_
      refine RA.q 18 (by kernel_rfl) rfl rfl rfl (.refl _) (OpQ.move rfl) ?_
      refine RA.q 19 (by kernel_rfl) rfl rfl rfl (.refl _) (OpQ.index1 zf70 zf71 rfl rfl (by omega) (husF p.1 (by omega) (by omega))) ?_
      refine RA.q 20 (by kernel_rfl) rfl rfl rfl (.refl _) (OpQ.loadG zf72 rfl (fun w hH => (hH.use hSF).u _ (getDm (show p.1 < SF.os.length by omega))) (getMap sv (SF.os.getD p.1 rx0).xs [] (j := x) (by omega))) ?_
      refine RA.know 107 (v' := sv (SF.sq.o p.1 x)) rfl (congrArg sv (SF.o_eq p.1 x).symm) ?_
      refine RA.f 21 (by kernel_rfl) rfl rfl rfl (OpG.callV zf142 rfl (fun w hH => walk42_spec w D (hH.stays0 hD) hvD p.2 hp2 (SF.sq.o p.1 x) hot hoo)) (fun _ _ => (.refl _)) ?_
      rintro _ _
      refine RA.q 22 (by kernel_rfl) rfl rfl rfl (.refl _) (OpQ.build (cells := #[zn r, zn (D.da.sy.run p.2 (wl (SF.sq.o p.1 x)))]) zf143 rfl rfl) ?_
      refine RA.tail ?_
      refine RT.f 23 (by kernel_rfl) rfl rfl rfl (OpG.storeV (b := b15) zf136 rfl rfl rfl rfl (by repeat (first | exact Upd.here | apply Upd.there))) ?_
      rintro _ _
      refine RT.done (by kernel_rfl) ?_
      exact PX.cut hK2 () trivial ⟨rfl, rfl, rfl, rfl, rfl, rfl, rfl, rfl, rfl, rfl, rfl, trivial⟩ (.keep (row_eq (by rw [hT]; rfl)) (HSub.refl _))
     ·
      have h86 := of_decide_eq_false h86
      have hT : ((rvf SF.sq D.da) s x) = none := by rw [hp]; exact rvf_none (oi_neg.1 (by have := oi_ge (SF.sq.to p.1 x); omega))
      refine CT.skip ?_
      exact PX.cut hK2 () trivial ⟨rfl, rfl, rfl, rfl, rfl, rfl, rfl, rfl, rfl, rfl, rfl, trivial⟩ (.keep (row_eq (by rw [hT]; rfl)) (HSub.refl _))
    ·
     have hsn : s = none := q1_neg (of_decide_eq_false hg75)
     have hT : ((rvf SF.sq D.da) s x) = none := by rw [hsn]; rfl
     refine Wl.skip rfl rfl ?_
     refine Wl.skip rfl rfl ?_
     refine Wl.skip rfl rfl ?_
     refine Wl.skip rfl rfl ?_
     refine Wl.skip rfl rfl ?_
     refine Wl.skip rfl rfl ?_
     refine Wl.skip rfl rfl ?_
     refine Wl.skip rfl rfl ?_
     refine Wl.skip rfl rfl ?_
     refine Wl.skip rfl rfl ?_
     refine Wl.q rfl rfl (OpQ.pickF rfl rfl) ?_
     refine Wl.nil (PX.then_n ?_)
     refine CT.condF rfl ?_
     refine CT.skip ?_
     exact PX.cut hK2 () trivial ⟨rfl, rfl, rfl, rfl, rfl, rfl, rfl, rfl, rfl, rfl, rfl, trivial⟩ (.keep (row_eq (by rw [hT]; rfl)) (HSub.refl _))
   ·
    refine CT.seq (CT.region ?_)
    refine Wl.q rfl rfl (OpQ.move rfl) ?_
    refine Wl.q rfl rfl (OpQ.loadV (b := b15) zf135 zf136 rfl (by repeat (first | exact Has.here | apply Has.there)) (by rfl)) ?_
    refine Wl.know 112 (v' := kq ((rvf SF.sq D.da) s x)) rfl rfl ?_
    refine Wl.q rfl rfl (OpQ.lookup (f := kq) (x := ((rvf SF.sq D.da) s x)) (l := (itA 0 (bfs (rvf SF.sq D.da) SF.L (some (SF.s, D.da.sy.run D.da.s (wl SF.init))) (i * SF.L + x)))) XE_mkR zf144 zf32 rfl rfl (by repeat (first | exact Has.here | apply Has.there)) (by rw [if_pos rfl, getA_itA, ix_val, ix_is])) ?_
    refine Wl.q rfl rfl (OpQ.move rfl) ?_
    refine Wl.q rfl rfl (OpQ.extract rfl rfl) ?_
    refine Wl.q rfl rfl (OpQ.extract rfl rfl) ?_
    refine Wl.q rfl rfl (OpQ.assign rfl) ?_
    refine Wl.q rfl rfl (OpQ.assign rfl) ?_
    refine Wl.nil (PX.then_n (CT.seq (CT.seq (CT.region ?_))))
    refine Wl.q rfl rfl (OpQ.move rfl) ?_
    refine Wl.q rfl rfl (OpQ.not rfl) ?_
    refine Wl.nil (PX.then_n ?_)
    refine CT.cond rfl (fun h117 => ?_) (fun h117 => ?_)
    ·
     have hix : ixA ((rvf SF.sq D.da) s x) 0 (bfs (rvf SF.sq D.da) SF.L (some (SF.s, D.da.sy.run D.da.s (wl SF.init))) (i * SF.L + x)) = none := by simpa using h117
     have hnx := ixA_none hix
     have hs2 : (bfs (rvf SF.sq D.da) SF.L (some (SF.s, D.da.sy.run D.da.s (wl SF.init))) (i * SF.L + (x + 1))) = (bfs (rvf SF.sq D.da) SF.L (some (SF.s, D.da.sy.run D.da.s (wl SF.init))) (i * SF.L + x)) ++ [((rvf SF.sq D.da) s x)] := by rw [show i * SF.L + (x + 1) = i * SF.L + x + 1 from rfl, bfs_addx hxl hlt, ← hs, addN_out hnx]
     have hrow : (rowG (rvf SF.sq D.da) (bfs (rvf SF.sq D.da) SF.L (some (SF.s, D.da.sy.run D.da.s (wl SF.init))) (i * SF.L + x)) s x).map zz ++ [.int .i64 (((bfs (rvf SF.sq D.da) SF.L (some (SF.s, D.da.sy.run D.da.s (wl SF.init))) (i * SF.L + x)).length : Nat) : Int)] = (rowG (rvf SF.sq D.da) (bfs (rvf SF.sq D.da) SF.L (some (SF.s, D.da.sy.run D.da.s (wl SF.init))) (i * SF.L + (x + 1))) s (x + 1)).map zz := by rw [← rowG_put (l := (bfs (rvf SF.sq D.da) SF.L (some (SF.s, D.da.sy.run D.da.s (wl SF.init))) (i * SF.L + x))) (m := (bfs (rvf SF.sq D.da) SF.L (some (SF.s, D.da.sy.run D.da.s (wl SF.init))) (i * SF.L + (x + 1)))) ⟨_, hs2⟩ (by rw [hs]; exact bfs_row_mem (Nat.le_of_lt hxl) hlt) (v := (((bfs (rvf SF.sq D.da) SF.L (some (SF.s, D.da.sy.run D.da.s (wl SF.init))) (i * SF.L + x)).length : Nat) : Int)) (by rw [hs2, idxOf_out hnx]; simp)]; exact (List.map_append (f := zz) (l₂ := [_])).symm
     refine CT.seq (CT.region ?_)
     refine Wl.q rfl rfl (OpQ.move rfl) ?_
     refine Wl.q rfl rfl (OpQ.len zf137 rfl) ?_
     refine Wl.q rfl rfl (OpQ.assign rfl) ?_
     refine Wl.nil (PX.then_n (CT.seq (CT.region ?_)))
     refine Wl.q rfl rfl (OpQ.move rfl) ?_
     refine Wl.q rfl rfl (OpQ.loadV (b := b15) zf135 zf136 rfl (by repeat (first | exact Has.here | apply Has.there)) (by rfl)) ?_
     refine Wl.know 121 (v' := kq ((rvf SF.sq D.da) s x)) rfl rfl ?_
     refine Wl.q rfl rfl (OpQ.move rfl) ?_
     refine Wl.g rfl rfl (OpG.mapNew (f := kq) (x := ((rvf SF.sq D.da) s x)) (l := (itA 0 (bfs (rvf SF.sq D.da) SF.L (some (SF.s, D.da.sy.run D.da.s (wl SF.init))) (i * SF.L + x)))) XE_mkR zf144 rfl rfl rfl (by rw [getA_itA, hix]; rfl) (by repeat (first | exact Upd.here | apply Upd.there))) ?_
     rintro _ _
     refine Wl.nil (PX.then_n (CT.region ?_))
     refine Wl.q rfl rfl (OpQ.move rfl) ?_
     refine Wl.q rfl rfl (OpQ.loadV (b := b15) zf135 zf136 rfl (by repeat (first | exact Has.here | apply Has.there)) (by rfl)) ?_
     refine Wl.know 124 (v' := kq ((rvf SF.sq D.da) s x)) rfl rfl ?_
     refine Wl.g rfl rfl (OpG.litS1 zf137 zf138 rfl (by decide) rfl) ?_
     rintro b125 _
     refine Wl.g rfl rfl (OpG.append zf137 zf138 (by rfl) (by decide) rfl rfl (p := 8) rfl (fun w hH => hH.rd .here) ⟨rfl, (by simp [Value.oneCell']), (by omega), (by omega)⟩ (nm := ((bfs (rvf SF.sq D.da) SF.L (some (SF.s, D.da.sy.run D.da.s (wl SF.init))) (i * SF.L + x)).length + 1)) rfl (all := ((bfs (rvf SF.sq D.da) SF.L (some (SF.s, D.da.sy.run D.da.s (wl SF.init))) (i * SF.L + x)) ++ [((rvf SF.sq D.da) s x)]).flatMap kqv) (by rw [List.flatMap_append]; rfl)) ?_
     rintro ⟨a126, c126⟩ h126
     refine Wl.q rfl rfl (OpQ.assign rfl) ?_
     refine Wl.nil (PX.then_n (CT.region ?_))
     refine Wl.q rfl rfl (OpQ.move rfl) ?_
     refine Wl.q rfl rfl (OpQ.move rfl) ?_
     refine Wl.g rfl rfl (OpG.lit1 zf0 zf32 rfl rfl rfl) ?_
     rintro b129 _
     refine Wl.g rfl rfl (OpG.append zf0 zf32 (by rfl) (by decide) rfl rfl (p := 3) rfl (fun w hH => hH.rd .here) ⟨rfl, (by simp [Value.oneCell']), (by omega), (by omega)⟩ (nm := (x + 1)) rfl (all := (rowG (rvf SF.sq D.da) (bfs (rvf SF.sq D.da) SF.L (some (SF.s, D.da.sy.run D.da.s (wl SF.init))) (i * SF.L + (x + 1))) s (x + 1)).map zz) hrow) ?_
     rintro ⟨a130, c130⟩ h130
     refine Wl.q rfl rfl (OpQ.assign rfl) ?_
     refine Wl.nil (PX.block_n (PX.then_n (CT.region ?_)))
     refine Wl.q rfl rfl (OpQ.move rfl) ?_
     refine Wl.q rfl rfl (OpQ.add rfl rfl (by omega)) ?_
     refine Wl.q rfl rfl (OpQ.assign rfl) ?_
     refine Wl.nil ?_
     exact PX.loop hK1 (x + 1, a126, c126, a130, c130) (show x + 1 ≤ SF.L by omega) (show SF.L - (x + 1) < SF.L - x by omega) ⟨rfl, rfl, rfl, (lkV rfl (by rw [hs2, List.length_append]; rfl)), rfl, rfl, rfl, rfl, rfl, rfl, trivial⟩ (.drop (.drop (.drop (by dsimp only; rw [hs2, itA_snoc, List.length_append, Nat.zero_add]; exact HSub.refl _))))
    ·
     have hix : ¬ ixA ((rvf SF.sq D.da) s x) 0 (bfs (rvf SF.sq D.da) SF.L (some (SF.s, D.da.sy.run D.da.s (wl SF.init))) (i * SF.L + x)) = none := fun hh => by rw [hh] at h117; exact absurd h117 (by decide)
     obtain ⟨hx1, hx2⟩ := ix_in hix
     have hs2 : (bfs (rvf SF.sq D.da) SF.L (some (SF.s, D.da.sy.run D.da.s (wl SF.init))) (i * SF.L + (x + 1))) = (bfs (rvf SF.sq D.da) SF.L (some (SF.s, D.da.sy.run D.da.s (wl SF.init))) (i * SF.L + x)) := by rw [show i * SF.L + (x + 1) = i * SF.L + x + 1 from rfl, bfs_addx hxl hlt, ← hs, hx1]
     have hrow : (rowG (rvf SF.sq D.da) (bfs (rvf SF.sq D.da) SF.L (some (SF.s, D.da.sy.run D.da.s (wl SF.init))) (i * SF.L + x)) s x).map zz ++ [.int .i64 (((ixA ((rvf SF.sq D.da) s x) 0 (bfs (rvf SF.sq D.da) SF.L (some (SF.s, D.da.sy.run D.da.s (wl SF.init))) (i * SF.L + x))).getD 0 : Nat) : Int)] = (rowG (rvf SF.sq D.da) (bfs (rvf SF.sq D.da) SF.L (some (SF.s, D.da.sy.run D.da.s (wl SF.init))) (i * SF.L + (x + 1))) s (x + 1)).map zz := by rw [← rowG_put (l := (bfs (rvf SF.sq D.da) SF.L (some (SF.s, D.da.sy.run D.da.s (wl SF.init))) (i * SF.L + x))) (m := (bfs (rvf SF.sq D.da) SF.L (some (SF.s, D.da.sy.run D.da.s (wl SF.init))) (i * SF.L + (x + 1)))) ⟨[], by rw [hs2, List.append_nil]⟩ (by rw [hs]; exact bfs_row_mem (Nat.le_of_lt hxl) hlt) (v := (((ixA ((rvf SF.sq D.da) s x) 0 (bfs (rvf SF.sq D.da) SF.L (some (SF.s, D.da.sy.run D.da.s (wl SF.init))) (i * SF.L + x))).getD 0 : Nat) : Int)) (by rw [hx2, addN_idx, hx1, hs2])]; exact (List.map_append (f := zz) (l₂ := [_])).symm
     refine CT.skip (PX.then_n (CT.region ?_))
     refine Wl.q rfl rfl (OpQ.move rfl) ?_
     refine Wl.q rfl rfl (OpQ.move rfl) ?_
     refine Wl.g rfl rfl (OpG.lit1 zf0 zf32 rfl rfl rfl) ?_
     rintro b129 _
     refine Wl.g rfl rfl (OpG.append zf0 zf32 (by rfl) (by decide) rfl rfl (p := 2) rfl (fun w hH => hH.rd .here) ⟨rfl, (by simp [Value.oneCell']), (by omega), (by omega)⟩ (nm := (x + 1)) rfl (all := (rowG (rvf SF.sq D.da) (bfs (rvf SF.sq D.da) SF.L (some (SF.s, D.da.sy.run D.da.s (wl SF.init))) (i * SF.L + (x + 1))) s (x + 1)).map zz) hrow) ?_
     rintro ⟨a130, c130⟩ h130
     refine Wl.q rfl rfl (OpQ.assign rfl) ?_
     refine Wl.nil (PX.block_n (PX.then_n (CT.region ?_)))
     refine Wl.q rfl rfl (OpQ.move rfl) ?_
     refine Wl.q rfl rfl (OpQ.add rfl rfl (by omega)) ?_
     refine Wl.q rfl rfl (OpQ.assign rfl) ?_
     refine Wl.nil ?_
     exact PX.loop hK1 (x + 1, a', c', a130, c130) (show x + 1 ≤ SF.L by omega) (show SF.L - (x + 1) < SF.L - x by omega) ⟨rfl, rfl, rfl, (lkV rfl (by rw [hs2])), rfl, rfl, rfl, rfl, rfl, rfl, trivial⟩ (.drop (.drop (by dsimp only; rw [hs2]; exact HSub.refl _)))
  ·
   have h68 := of_decide_eq_false h68
   obtain rfl : x = SF.L := by omega
   have hrows2 := (hrows.grow hi (bfs_pre (i * SF.L) SF.L)).snoc (fun y hy => by rw [bfs_get (show i * SF.L ≤ i * SF.L + SF.L by omega) hlt]; exact bfs_row_mem (Nat.le_refl _) hlt y hy)
   rw [bfs_get (show i * SF.L ≤ i * SF.L + SF.L by omega) hlt] at hrows2
   have hrg : (rowG (rvf SF.sq D.da) (bfs (rvf SF.sq D.da) SF.L (some (SF.s, D.da.sy.run D.da.s (wl SF.init))) (i * SF.L + SF.L)) s SF.L).length = SF.L := rowG_len _ _ _
   refine CT.exit (PX.then_x (PX.then_x (PX.block_x (PX.then_n (CT.seq (CT.region ?_))))))
   refine Wl.q rfl rfl (OpQ.fieldAddr zf19 rfl) ?_
   refine Wl.q rfl rfl (OpQ.loadF (b := b10) zf20 rfl (by repeat (first | exact Has.here | apply Has.there)) (by rfl)) ?_
   refine Wl.q rfl rfl (OpQ.move rfl) ?_
   refine Wl.g rfl rfl (OpG.lit1 zf21 zf41 rfl rfl rfl) ?_
   rintro b134 _
   refine Wl.g rfl rfl (OpG.append zf21 zf41 (by rfl) (by decide) rfl rfl (p := 5) rfl (fun w hH => hH.rd .here) ⟨rfl, (by simp [Value.oneCell']), (by omega), (by omega)⟩ (nm := (i + 1)) rfl (all := (rs ++ [(⟨xa, xc, rowG (rvf SF.sq D.da) (bfs (rvf SF.sq D.da) SF.L (some (SF.s, D.da.sy.run D.da.s (wl SF.init))) (i * SF.L + SF.L)) s SF.L⟩ : Rw)]).map rv) (by rw [List.map_append, List.map_singleton, show rv (⟨xa, xc, rowG (rvf SF.sq D.da) (bfs (rvf SF.sq D.da) SF.L (some (SF.s, D.da.sy.run D.da.s (wl SF.init))) (i * SF.L + SF.L)) s SF.L⟩ : Rw) = .slice xa SF.L xc from by show Value.slice _ (rowG (rvf SF.sq D.da) (bfs (rvf SF.sq D.da) SF.L (some (SF.s, D.da.sy.run D.da.s (wl SF.init))) (i * SF.L + SF.L)) s SF.L).length _ = _; rw [hrg]])) ?_
   rintro ⟨a135, c135⟩ h135
   refine Wl.q rfl rfl (OpQ.fieldAddr zf19 rfl) ?_
   refine Wl.g rfl rfl (OpG.storeRow (a := some ⟨b10, 0, none⟩) zf42 rfl rfl rfl (by repeat (first | exact Upd.here | apply Upd.there)) (by simp)) ?_
   rintro _ _
   refine Wl.nil (PX.then_n ?_)
   refine CT.draw' (Hc := [.row 22 1 (.slice (some ⟨b134, 0, none⟩) 1 1) 1 [.slice xa SF.L xc], .row 3 1 (.slice xa SF.L xc) SF.L ((rowG (rvf SF.sq D.da) (bfs (rvf SF.sq D.da) SF.L (some (SF.s, D.da.sy.run D.da.s (wl SF.init))) (i * SF.L + SF.L)) s SF.L).map zz), .row 115 2 (vb b12) 1 (kqv s), .frag bs (rws rs), .row 22 1 (.slice a135 (i + 1) c135) (i + 1) ((rs ++ [(⟨xa, xc, rowG (rvf SF.sq D.da) (bfs (rvf SF.sq D.da) SF.L (some (SF.s, D.da.sy.run D.da.s (wl SF.init))) (i * SF.L + SF.L)) s SF.L⟩ : Rw)]).map rv), .row 49 4 (vb b10) 1 [zn SF.L, .int .i64 0, .slice fa' (i) fc', .slice a135 (i + 1) c135], .row 115 2 (.slice a' (bfs (rvf SF.sq D.da) SF.L (some (SF.s, D.da.sy.run D.da.s (wl SF.init))) (i * SF.L + SF.L)).length c') (bfs (rvf SF.sq D.da) SF.L (some (SF.s, D.da.sy.run D.da.s (wl SF.init))) (i * SF.L + SF.L)).length ((bfs (rvf SF.sq D.da) SF.L (some (SF.s, D.da.sy.run D.da.s (wl SF.init))) (i * SF.L + SF.L)).flatMap kqv), .blk b47 (mapO kq (itA 0 (bfs (rvf SF.sq D.da) SF.L (some (SF.s, D.da.sy.run D.da.s (wl SF.init))) (i * SF.L + SF.L)))), .row 49 4 (vb b4) 1 [.int .i64 0, .int .i64 0, .slice none 0 0, .slice none 0 0], .row 49 4 (vb b3) 1 (dvc D), .row 30 7 (vb b2) 1 (svc SF)]) 32 zf6 ?_
   refine RA.q 0 (by kernel_rfl) rfl rfl rfl (.cons_cons _ (.cons_cons _ (.cons_cons _ (.cons_cons _ (.cons _ (.cons_cons _ (.cons_cons _ (.cons_cons _ (.cons_cons _ (.cons_cons _ (.cons_cons _ (.cons_cons _ (.refl _))))))))))))) (OpQ.fieldAddr zf16 rfl) ?_
   refine RA.q 1 (by kernel_rfl) rfl rfl rfl (.cons_cons _ (.cons_cons _ (.cons_cons _ (.cons_cons _ (.cons _ (.cons_cons _ (.cons_cons _ (.cons_cons _ (.cons_cons _ (.cons_cons _ (.cons_cons _ (.cons_cons _ (.refl _))))))))))))) (OpQ.loadF (b := b10) zf17 rfl (by repeat (first | exact Has.here | apply Has.there)) (by rfl)) ?_
   refine RA.q 2 (by kernel_rfl) rfl rfl rfl (.cons_cons _ (.cons_cons _ (.cons_cons _ (.cons_cons _ (.cons _ (.cons_cons _ (.cons_cons _ (.cons_cons _ (.cons_cons _ (.cons_cons _ (.cons_cons _ (.cons_cons _ (.refl _))))))))))))) (OpQ.fieldAddr zf145 rfl) ?_
   refine RA.q 3 (by kernel_rfl) rfl rfl rfl (.cons_cons _ (.cons_cons _ (.cons_cons _ (.cons_cons _ (.cons _ (.cons_cons _ (.cons_cons _ (.cons_cons _ (.cons_cons _ (.cons_cons _ (.cons_cons _ (.cons_cons _ (.refl _))))))))))))) (OpQ.loadF (b := b12) zf8 rfl (by repeat (first | exact Has.here | apply Has.there)) (by rfl)) ?_
   refine RA.q 4 (by kernel_rfl) rfl rfl rfl (.cons_cons _ (.cons_cons _ (.cons_cons _ (.cons_cons _ (.cons _ (.cons_cons _ (.cons_cons _ (.cons_cons _ (.cons_cons _ (.cons_cons _ (.cons_cons _ (.cons_cons _ (.refl _))))))))))))) (OpQ.geq rfl rfl) ?_
   refine RA.q 5 (by kernel_rfl) rfl rfl rfl (.cons_cons _ (.cons_cons _ (.cons_cons _ (.cons_cons _ (.cons _ (.cons_cons _ (.cons_cons _ (.cons_cons _ (.cons_cons _ (.cons_cons _ (.cons_cons _ (.cons_cons _ (.refl _))))))))))))) (OpQ.move rfl) ?_
   refine RA.split 142 rfl (fun hg142 => ?_) (fun hg142 => ?_)
   ·
    obtain ⟨p, hp⟩ := q1_pos (of_decide_eq_true hg142)
    obtain ⟨hp1, hp2⟩ := hsp p hp
    have hp1n : p.1 < SF.rs.length := by rw [← SF.n_eq]; exact hp1
    have hft := hvF.tf p.1 hp1
    have hfo := hoD.f p.1 hp1
    have hfr : D.da.sy.run p.2 (wl (SF.sq.f p.1)) < D.fin.length := iv_ltF hvF hvD.daOk ho hp1 hp2
    refine RA.q 6 (by kernel_rfl) rfl rfl rfl (.cons_cons _ (.cons_cons _ (.cons_cons _ (.cons_cons _ (.cons _ (.cons_cons _ (.cons_cons _ (.cons_cons _ (.cons_cons _ (.cons_cons _ (.cons_cons _ (.cons_cons _ (.refl _))))))))))))) (OpQ.fieldAddr zf75 rfl) ?_
    refine RA.q 7 (by kernel_rfl) rfl rfl rfl (.cons_cons _ (.cons_cons _ (.cons_cons _ (.cons_cons _ (.cons _ (.cons_cons _ (.cons_cons _ (.cons_cons _ (.cons_cons _ (.cons_cons _ (.cons_cons _ (.cons_cons _ (.refl _))))))))))))) (OpQ.loadF (b := b2) zf17 rfl (by repeat (first | exact Has.here | apply Has.there)) (by rfl)) ?_
    refine RA.q 8 (by kernel_rfl) rfl rfl rfl (.cons_cons _ (.cons_cons _ (.cons_cons _ (.cons_cons _ (.cons _ (.cons_cons _ (.cons_cons _ (.cons_cons _ (.cons_cons _ (.cons_cons _ (.cons_cons _ (.cons_cons _ (.refl _))))))))))))) (OpQ.fieldAddr zf145 rfl) ?_
    refine RA.q 9 (by kernel_rfl) rfl rfl rfl (.cons_cons _ (.cons_cons _ (.cons_cons _ (.cons_cons _ (.cons _ (.cons_cons _ (.cons_cons _ (.cons_cons _ (.cons_cons _ (.cons_cons _ (.cons_cons _ (.cons_cons _ (.refl _))))))))))))) (OpQ.loadF (b := b12) zf8 rfl (by repeat (first | exact Has.here | apply Has.there)) (by rfl)) ?_
    refine RA.know 146 (v' := .int .i64 ((p.1 : Nat) : Int)) rfl (by rw [hp]; rfl) ?_
    refine RA.q 10 (by kernel_rfl) rfl rfl rfl (.cons_cons _ (.cons_cons _ (.cons_cons _ (.cons_cons _ (.cons _ (.cons_cons _ (.cons_cons _ (.cons_cons _ (.cons_cons _ (.cons_cons _ (.cons_cons _ (.cons_cons _ (.refl _))))))))))))) (OpQ.index1 zf18 zf29 rfl rfl (by omega) (hesF (by omega))) ?_
    refine RA.q 11 (by kernel_rfl) rfl rfl rfl (.cons_cons _ (.cons_cons _ (.cons_cons _ (.cons_cons _ (.cons _ (.cons_cons _ (.cons_cons _ (.cons_cons _ (.cons_cons _ (.cons_cons _ (.cons_cons _ (.cons_cons _ (.refl _))))))))))))) (OpQ.loadG zf30 rfl (fun w hH => (hH.use hSF).e) (getMap bo SF.en false (j := p.1) (by omega))) ?_
    refine RA.know 148 (v' := .bool (SF.sq.e p.1)) rfl rfl ?_
    refine RA.q 12 (by kernel_rfl) rfl rfl rfl (.cons_cons _ (.cons_cons _ (.cons_cons _ (.cons_cons _ (.cons _ (.cons_cons _ (.cons_cons _ (.cons_cons _ (.cons_cons _ (.cons_cons _ (.cons_cons _ (.cons_cons _ (.refl _))))))))))))) (OpQ.pickT rfl rfl) ?_
    refine RA.q 13 (by kernel_rfl) rfl rfl rfl (.cons_cons _ (.cons_cons _ (.cons_cons _ (.cons_cons _ (.cons _ (.cons_cons _ (.cons_cons _ (.cons_cons _ (.cons_cons _ (.cons_cons _ (.cons_cons _ (.cons_cons _ (.refl _))))))))))))) (OpQ.move rfl) ?_
    refine RA.split 150 rfl (fun hg150 => ?_) (fun hg150 => ?_)
    ·
     have hrv : (rve SF.sq D.da) s = D.da.fi (D.da.sy.run p.2 (wl (SF.sq.f p.1))) := by
      rw [hp]
      show (SF.sq.e p.1 && _) = _
      rw [show SF.sq.e p.1 = true from hg150, Bool.true_and]
     refine RA.q 14 (by kernel_rfl) rfl rfl rfl (.cons_cons _ (.cons_cons _ (.cons_cons _ (.cons_cons _ (.cons _ (.cons_cons _ (.cons_cons _ (.cons_cons _ (.cons_cons _ (.cons_cons _ (.cons_cons _ (.cons_cons _ (.refl _))))))))))))) (OpQ.fieldAddr zf16 rfl) ?_
     refine RA.q 15 (by kernel_rfl) rfl rfl rfl (.cons_cons _ (.cons_cons _ (.cons_cons _ (.cons_cons _ (.cons _ (.cons_cons _ (.cons_cons _ (.cons_cons _ (.cons_cons _ (.cons_cons _ (.cons_cons _ (.cons_cons _ (.refl _))))))))))))) (OpQ.loadF (b := b3) zf17 rfl (by repeat (first | exact Has.here | apply Has.there)) (by rfl)) ?_
     refine RA.q 16 (by kernel_rfl) rfl rfl rfl (.cons_cons _ (.cons_cons _ (.cons_cons _ (.cons_cons _ (.cons _ (.cons_cons _ (.cons_cons _ (.cons_cons _ (.cons_cons _ (.cons_cons _ (.cons_cons _ (.cons_cons _ (.refl _))))))))))))) (OpQ.loadV (b := b3) zf24 zf25 rfl (by repeat (first | exact Has.here | apply Has.there)) (by rfl)) ?_
     refine RA.know 153 (v' := dvv D) rfl rfl ?_
     refine RA.q 17 (by kernel_rfl) rfl rfl rfl (.cons_cons _ (.cons_cons _ (.cons_cons _ (.cons_cons _ (.cons _ (.cons_cons _ (.cons_cons _ (.cons_cons _ (.cons_cons _ (.cons_cons _ (.cons_cons _ (.cons_cons _ (.refl _))))))))))))) (OpQ.fieldAddr zf146 rfl) ?_
     refine RA.q 18 (by kernel_rfl) rfl rfl rfl (.cons_cons _ (.cons_cons _ (.cons_cons _ (.cons_cons _ (.cons _ (.cons_cons _ (.cons_cons _ (.cons_cons _ (.cons_cons _ (.cons_cons _ (.cons_cons _ (.cons_cons _ (.refl _))))))))))))) (OpQ.loadF (b := b12) zf8 rfl (by repeat (first | exact Has.here | apply Has.there)) (by rfl)) ?_
     refine RA.know 155 (v' := .int .i64 ((p.2 : Nat) : Int)) rfl (by rw [hp]; rfl) ?_
     refine RA.q 19 (by kernel_rfl) rfl rfl rfl (.cons_cons _ (.cons_cons _ (.cons_cons _ (.cons_cons _ (.cons _ (.cons_cons _ (.cons_cons _ (.cons_cons _ (.cons_cons _ (.cons_cons _ (.cons_cons _ (.cons_cons _ (.refl _))))))))))))) (OpQ.fieldAddr zf74 rfl) ?_
     refine RA.q 20 (by kernel_rfl) rfl rfl rfl (.cons_cons _ (.cons_cons _ (.cons_cons _ (.cons_cons _ (.cons _ (.cons_cons _ (.cons_cons _ (.cons_cons _ (.cons_cons _ (.cons_cons _ (.cons_cons _ (.cons_cons _ (.refl _))))))))))))) (OpQ.loadF (b := b2) zf69 rfl (by repeat (first | exact Has.here | apply Has.there)) (by rfl)) ?_
     refine RA.q 21 (by kernel_rfl) rfl rfl rfl (.cons_cons _ (.cons_cons _ (.cons_cons _ (.cons_cons _ (.cons _ (.cons_cons _ (.cons_cons _ (.cons_cons _ (.cons_cons _ (.cons_cons _ (.cons_cons _ (.cons_cons _ (.refl _))))))))))))) (OpQ.fieldAddr zf145 rfl) ?_
     refine RA.q 22 (by kernel_rfl) rfl rfl rfl (.cons_cons _ (.cons_cons _ (.cons_cons _ (.cons_cons _ (.cons _ (.cons_cons _ (.cons_cons _ (.cons_cons _ (.cons_cons _ (.cons_cons _ (.cons_cons _ (.cons_cons _ (.refl _))))))))))))) (OpQ.loadF (b := b12) zf8 rfl (by repeat (first | exact Has.here | apply Has.there)) (by rfl)) ?_
     refine RA.know 159 (v' := .int .i64 ((p.1 : Nat) : Int)) rfl (by rw [hp]; rfl) ?_
     refine RA.q 23 (by kernel_rfl) rfl rfl rfl (.cons_cons _ (.cons_cons _ (.cons_cons _ (.cons_cons _ (.cons _ (.cons_cons _ (.cons_cons _ (.cons_cons _ (.cons_cons _ (.cons_cons _ (.cons_cons _ (.cons_cons _ (.refl _))))))))))))) (OpQ.max rfl rfl) ?_
     refine RA.know 160 (v' := .int .i64 ((p.1 : Nat) : Int)) rfl (congrArg (Value.int .i64) (by omega)) ?_
     refine RA.q 24 (by kernel_rfl) rfl rfl rfl (.cons_cons _ (.cons_cons _ (.cons_cons _ (.cons_cons _ (.cons _ (.cons_cons _ (.cons_cons _ (.cons_cons _ (.cons_cons _ (.cons_cons _ (.cons_cons _ (.cons_cons _ (.refl _))))))))))))) (OpQ.index1 zf70 zf71 rfl rfl (by omega) (hfsF (by omega))) ?_
     refine RA.q 25 (by kernel_rfl) rfl rfl rfl (.cons_cons _ (.cons_cons _ (.cons_cons _ (.cons_cons _ (.cons _ (.cons_cons _ (.cons_cons _ (.cons_cons _ (.cons_cons _ (.cons_cons _ (.cons_cons _ (.cons_cons _ (.refl _))))))))))))) (OpQ.loadG zf72 rfl (fun w hH => (hH.use hSF).f) (getMap sv SF.fi [] (j := p.1) (by omega))) ?_
     refine RA.know 162 (v' := sv (SF.sq.f p.1)) rfl rfl ?_
     refine RA.f 26 (by kernel_rfl) rfl rfl rfl (OpG.callV zf142 rfl (fun w hH => walk42_spec w D (hH.stays0 hD) hvD p.2 hp2 (SF.sq.f p.1) hft hfo)) (fun _ _ => (.cons_cons _ (.cons_cons _ (.cons_cons _ (.cons_cons _ (.cons _ (.cons_cons _ (.cons_cons _ (.cons_cons _ (.cons_cons _ (.cons_cons _ (.cons_cons _ (.cons_cons _ (.refl _)))))))))))))) ?_
     rintro _ _
     refine RA.q 27 (by kernel_rfl) rfl rfl rfl (.cons_cons _ (.cons_cons _ (.cons_cons _ (.cons_cons _ (.cons _ (.cons_cons _ (.cons_cons _ (.cons_cons _ (.cons_cons _ (.cons_cons _ (.cons_cons _ (.cons_cons _ (.refl _))))))))))))) (OpQ.index1 zf18 zf29 rfl rfl (by omega) (hfD (by omega))) ?_
     refine RA.q 28 (by kernel_rfl) rfl rfl rfl (.cons_cons _ (.cons_cons _ (.cons_cons _ (.cons_cons _ (.cons _ (.cons_cons _ (.cons_cons _ (.cons_cons _ (.cons_cons _ (.cons_cons _ (.cons_cons _ (.cons_cons _ (.refl _))))))))))))) (OpQ.loadG zf30 rfl (fun w hH => (hH.use hD).1) (getMap bo D.fin false (j := (D.da.sy.run p.2 (wl (SF.sq.f p.1)))) (by omega))) ?_
     refine RA.q 29 (by kernel_rfl) rfl rfl rfl (.cons_cons _ (.cons_cons _ (.cons_cons _ (.cons_cons _ (.cons _ (.cons_cons _ (.cons_cons _ (.cons_cons _ (.cons_cons _ (.cons_cons _ (.cons_cons _ (.cons_cons _ (.refl _))))))))))))) (OpQ.pickT rfl rfl) ?_
     refine RA.know 166 (v' := .bool ((rve SF.sq D.da) s)) rfl (congrArg Value.bool hrv.symm) ?_
     refine RA.f 30 (by kernel_rfl) rfl rfl rfl (OpG.lit1 zf18 zf43 rfl rfl rfl) (fun _ _ => (.cons _ (.cons_cons _ (.cons_cons _ (.cons_cons _ (.cons_cons _ (.cons _ (.cons_cons _ (.cons_cons _ (.cons_cons _ (.cons_cons _ (.cons_cons _ (.cons_cons _ (.cons_cons _ (.refl _))))))))))))))) ?_
     rintro b167 _
     refine RA.f 31 (by kernel_rfl) rfl rfl rfl (OpG.append zf18 zf43 (by rfl) (by decide) rfl rfl (p := 5) rfl (fun w hH => hH.rd .here) ⟨rfl, (by simp [Value.oneCell']), (by omega), (by omega)⟩ (nm := (i + 1)) rfl (all := (fl ++ [(rve SF.sq D.da) s]).map bo) (by rw [List.map_append]; rfl)) (fun _ _ => (.cons _ (.cons_cons _ (.cons_cons _ (.cons_cons _ (.cons_cons _ (.cons _ (.cons_cons _ (.cons_cons _ (.cons_cons _ (.cons_cons _ (.cons_cons _ (.cons_cons _ (.cons_cons _ (.refl _))))))))))))))) ?_
     rintro ⟨a168, c168⟩ h168
     refine RA.tail ?_
     refine RT.q 32 (by kernel_rfl) rfl rfl rfl (OpQ.fieldAddr zf16 rfl) ?_
     refine RT.f 33 (by kernel_rfl) rfl rfl rfl (OpG.storeRow (a := some ⟨b10, 0, none⟩) zf44 rfl rfl rfl (by repeat (first | exact Upd.here | apply Upd.there)) (by simp)) ?_
     rintro _ _
     refine RT.done (by kernel_rfl) ?_
     refine PX.block_n (PX.then_n (CT.region ?_))
     refine Wl.q rfl rfl (OpQ.move rfl) ?_
     refine Wl.q rfl rfl (OpQ.add rfl rfl (by omega)) ?_
     refine Wl.q rfl rfl (OpQ.assign rfl) ?_
     refine Wl.nil ?_
     refine PX.as (fun _ h => h.bind (L := [.frag bs (rws rs), .row 3 1 (.slice xa SF.L xc) SF.L ((rowG (rvf SF.sq D.da) (bfs (rvf SF.sq D.da) SF.L (some (SF.s, D.da.sy.run D.da.s (wl SF.init))) (i * SF.L + SF.L)) s SF.L).map zz)]) (p := rws (rs ++ [(⟨xa, xc, rowG (rvf SF.sq D.da) (bfs (rvf SF.sq D.da) SF.L (some (SF.s, D.da.sy.run D.da.s (wl SF.init))) (i * SF.L + SF.L)) s SF.L⟩ : Rw)])) (.cons (.there (.there (.there (.there .here)))) (.cons (.there (.there .here)) .nil)) (fun w hk => rws_snoc (r := (⟨xa, xc, rowG (rvf SF.sq D.da) (bfs (rvf SF.sq D.da) SF.L (some (SF.s, D.da.sy.run D.da.s (wl SF.init))) (i * SF.L + SF.L)) s SF.L⟩ : Rw)) ((hk _ List.mem_cons_self).2 w (fun _ _ => rfl)) (Rd.of_owns (hk _ (List.mem_cons_of_mem _ List.mem_cons_self))))) ?_
     refine PX.as (fun _ h => h.take (.cons .here (.cons (.there (.there (.there .here))) (.cons (.there (.there (.there .here))) (.cons (.there (.there (.there .here))) (.cons (.there (.there (.there .here))) (.cons (.there (.there (.there .here))) (.cons (.there (.there (.there .here))) (.cons (.there (.there (.there .here))) (.cons (.there (.there (.there .here))) .nil)))))))))) ?_
     exact PX.loop hK0 (i + 1, a', c', a168, c168, fl ++ [(rve SF.sq D.da) s], a135, c135, rs ++ [(⟨xa, xc, rowG (rvf SF.sq D.da) (bfs (rvf SF.sq D.da) SF.L (some (SF.s, D.da.sy.run D.da.s (wl SF.init))) (i * SF.L + SF.L)) s SF.L⟩ : Rw)], _) ⟨hg.next hlt, by have := bfs_le (f := (rvf SF.sq D.da)) (L := SF.L) (s := (some (SF.s, D.da.sy.run D.da.s (wl SF.init)))) (show i * SF.L ≤ (i + 1) * SF.L by rw [Nat.add_mul]; omega); omega, by rw [hs]; exact fl_next hfl hlt bfs_succ_row, by rw [List.map_append, Nat.add_mul, Nat.one_mul]; rw [hs, List.map_singleton, rowG_full]; exact hrows2⟩ (show 600 - (i + 1) < 600 - i by omega) ⟨rfl, rfl, rfl, (lkV rfl (by rw [Nat.add_mul, Nat.one_mul])), rfl, rfl, rfl, trivial⟩ (by dsimp only; rw [Nat.add_mul, Nat.one_mul]; exact HSub.refl _)
    ·
     have hrv : (rve SF.sq D.da) s = false := by
      rw [hp]
      show (SF.sq.e p.1 && _) = _
      rw [show SF.sq.e p.1 = false from hg150, Bool.false_and]
     refine RA.skip 14 (by kernel_rfl) rfl rfl rfl (.cons_cons _ (.cons_cons _ (.cons_cons _ (.cons_cons _ (.cons _ (.cons_cons _ (.cons_cons _ (.cons_cons _ (.cons_cons _ (.cons_cons _ (.cons_cons _ (.cons_cons _ (.refl _))))))))))))) ?_
     refine RA.skip 15 (by kernel_rfl) rfl rfl rfl (.cons_cons _ (.cons_cons _ (.cons_cons _ (.cons_cons _ (.cons _ (.cons_cons _ (.cons_cons _ (.cons_cons _ (.cons_cons _ (.cons_cons _ (.cons_cons _ (.cons_cons _ (.refl _))))))))))))) ?_
     refine RA.skip 16 (by kernel_rfl) rfl rfl rfl (.cons_cons _ (.cons_cons _ (.cons_cons _ (.cons_cons _ (.cons _ (.cons_cons _ (.cons_cons _ (.cons_cons _ (.cons_cons _ (.cons_cons _ (.cons_cons _ (.cons_cons _ (.refl _))))))))))))) ?_
     refine RA.skip 17 (by kernel_rfl) rfl rfl rfl (.cons_cons _ (.cons_cons _ (.cons_cons _ (.cons_cons _ (.cons _ (.cons_cons _ (.cons_cons _ (.cons_cons _ (.cons_cons _ (.cons_cons _ (.cons_cons _ (.cons_cons _ (.refl _))))))))))))) ?_
     refine RA.skip 18 (by kernel_rfl) rfl rfl rfl (.cons_cons _ (.cons_cons _ (.cons_cons _ (.cons_cons _ (.cons _ (.cons_cons _ (.cons_cons _ (.cons_cons _ (.cons_cons _ (.cons_cons _ (.cons_cons _ (.cons_cons _ (.refl _))))))))))))) ?_
     refine RA.skip 19 (by kernel_rfl) rfl rfl rfl (.cons_cons _ (.cons_cons _ (.cons_cons _ (.cons_cons _ (.cons _ (.cons_cons _ (.cons_cons _ (.cons_cons _ (.cons_cons _ (.cons_cons _ (.cons_cons _ (.cons_cons _ (.refl _))))))))))))) ?_
     refine RA.skip 20 (by kernel_rfl) rfl rfl rfl (.cons_cons _ (.cons_cons _ (.cons_cons _ (.cons_cons _ (.cons _ (.cons_cons _ (.cons_cons _ (.cons_cons _ (.cons_cons _ (.cons_cons _ (.cons_cons _ (.cons_cons _ (.refl _))))))))))))) ?_
     refine RA.skip 21 (by kernel_rfl) rfl rfl rfl (.cons_cons _ (.cons_cons _ (.cons_cons _ (.cons_cons _ (.cons _ (.cons_cons _ (.cons_cons _ (.cons_cons _ (.cons_cons _ (.cons_cons _ (.cons_cons _ (.cons_cons _ (.refl _))))))))))))) ?_
     refine RA.skip 22 (by kernel_rfl) rfl rfl rfl (.cons_cons _ (.cons_cons _ (.cons_cons _ (.cons_cons _ (.cons _ (.cons_cons _ (.cons_cons _ (.cons_cons _ (.cons_cons _ (.cons_cons _ (.cons_cons _ (.cons_cons _ (.refl _))))))))))))) ?_
     refine RA.skip 23 (by kernel_rfl) rfl rfl rfl (.cons_cons _ (.cons_cons _ (.cons_cons _ (.cons_cons _ (.cons _ (.cons_cons _ (.cons_cons _ (.cons_cons _ (.cons_cons _ (.cons_cons _ (.cons_cons _ (.cons_cons _ (.refl _))))))))))))) ?_
     refine RA.skip 24 (by kernel_rfl) rfl rfl rfl (.cons_cons _ (.cons_cons _ (.cons_cons _ (.cons_cons _ (.cons _ (.cons_cons _ (.cons_cons _ (.cons_cons _ (.cons_cons _ (.cons_cons _ (.cons_cons _ (.cons_cons _ (.refl _))))))))))))) ?_
     refine RA.skip 25 (by kernel_rfl) rfl rfl rfl (.cons_cons _ (.cons_cons _ (.cons_cons _ (.cons_cons _ (.cons _ (.cons_cons _ (.cons_cons _ (.cons_cons _ (.cons_cons _ (.cons_cons _ (.cons_cons _ (.cons_cons _ (.refl _))))))))))))) ?_
     refine RA.skip 26 (by kernel_rfl) rfl rfl rfl (.cons_cons _ (.cons_cons _ (.cons_cons _ (.cons_cons _ (.cons _ (.cons_cons _ (.cons_cons _ (.cons_cons _ (.cons_cons _ (.cons_cons _ (.cons_cons _ (.cons_cons _ (.refl _))))))))))))) ?_
     refine RA.skip 27 (by kernel_rfl) rfl rfl rfl (.cons_cons _ (.cons_cons _ (.cons_cons _ (.cons_cons _ (.cons _ (.cons_cons _ (.cons_cons _ (.cons_cons _ (.cons_cons _ (.cons_cons _ (.cons_cons _ (.cons_cons _ (.refl _))))))))))))) ?_
     refine RA.skip 28 (by kernel_rfl) rfl rfl rfl (.cons_cons _ (.cons_cons _ (.cons_cons _ (.cons_cons _ (.cons _ (.cons_cons _ (.cons_cons _ (.cons_cons _ (.cons_cons _ (.cons_cons _ (.cons_cons _ (.cons_cons _ (.refl _))))))))))))) ?_
     refine RA.q 29 (by kernel_rfl) rfl rfl rfl (.cons_cons _ (.cons_cons _ (.cons_cons _ (.cons_cons _ (.cons _ (.cons_cons _ (.cons_cons _ (.cons_cons _ (.cons_cons _ (.cons_cons _ (.cons_cons _ (.cons_cons _ (.refl _))))))))))))) (OpQ.pickF rfl rfl) ?_
     refine RA.know 166 (v' := .bool ((rve SF.sq D.da) s)) rfl (congrArg Value.bool hrv.symm) ?_
     refine RA.f 30 (by kernel_rfl) rfl rfl rfl (OpG.lit1 zf18 zf43 rfl rfl rfl) (fun _ _ => (.cons _ (.cons_cons _ (.cons_cons _ (.cons_cons _ (.cons_cons _ (.cons _ (.cons_cons _ (.cons_cons _ (.cons_cons _ (.cons_cons _ (.cons_cons _ (.cons_cons _ (.cons_cons _ (.refl _))))))))))))))) ?_
     rintro b167 _
     refine RA.f 31 (by kernel_rfl) rfl rfl rfl (OpG.append zf18 zf43 (by rfl) (by decide) rfl rfl (p := 5) rfl (fun w hH => hH.rd .here) ⟨rfl, (by simp [Value.oneCell']), (by omega), (by omega)⟩ (nm := (i + 1)) rfl (all := (fl ++ [(rve SF.sq D.da) s]).map bo) (by rw [List.map_append]; rfl)) (fun _ _ => (.cons _ (.cons_cons _ (.cons_cons _ (.cons_cons _ (.cons_cons _ (.cons _ (.cons_cons _ (.cons_cons _ (.cons_cons _ (.cons_cons _ (.cons_cons _ (.cons_cons _ (.cons_cons _ (.refl _))))))))))))))) ?_
     rintro ⟨a168, c168⟩ h168
     refine RA.tail ?_
     refine RT.q 32 (by kernel_rfl) rfl rfl rfl (OpQ.fieldAddr zf16 rfl) ?_
     refine RT.f 33 (by kernel_rfl) rfl rfl rfl (OpG.storeRow (a := some ⟨b10, 0, none⟩) zf44 rfl rfl rfl (by repeat (first | exact Upd.here | apply Upd.there)) (by simp)) ?_
     rintro _ _
     refine RT.done (by kernel_rfl) ?_
     refine PX.block_n (PX.then_n (CT.region ?_))
     refine Wl.q rfl rfl (OpQ.move rfl) ?_
     refine Wl.q rfl rfl (OpQ.add rfl rfl (by omega)) ?_
     refine Wl.q rfl rfl (OpQ.assign rfl) ?_
     refine Wl.nil ?_
     refine PX.as (fun _ h => h.bind (L := [.frag bs (rws rs), .row 3 1 (.slice xa SF.L xc) SF.L ((rowG (rvf SF.sq D.da) (bfs (rvf SF.sq D.da) SF.L (some (SF.s, D.da.sy.run D.da.s (wl SF.init))) (i * SF.L + SF.L)) s SF.L).map zz)]) (p := rws (rs ++ [(⟨xa, xc, rowG (rvf SF.sq D.da) (bfs (rvf SF.sq D.da) SF.L (some (SF.s, D.da.sy.run D.da.s (wl SF.init))) (i * SF.L + SF.L)) s SF.L⟩ : Rw)])) (.cons (.there (.there (.there (.there .here)))) (.cons (.there (.there .here)) .nil)) (fun w hk => rws_snoc (r := (⟨xa, xc, rowG (rvf SF.sq D.da) (bfs (rvf SF.sq D.da) SF.L (some (SF.s, D.da.sy.run D.da.s (wl SF.init))) (i * SF.L + SF.L)) s SF.L⟩ : Rw)) ((hk _ List.mem_cons_self).2 w (fun _ _ => rfl)) (Rd.of_owns (hk _ (List.mem_cons_of_mem _ List.mem_cons_self))))) ?_
     refine PX.as (fun _ h => h.take (.cons .here (.cons (.there (.there (.there .here))) (.cons (.there (.there (.there .here))) (.cons (.there (.there (.there .here))) (.cons (.there (.there (.there .here))) (.cons (.there (.there (.there .here))) (.cons (.there (.there (.there .here))) (.cons (.there (.there (.there .here))) (.cons (.there (.there (.there .here))) .nil)))))))))) ?_
     exact PX.loop hK0 (i + 1, a', c', a168, c168, fl ++ [(rve SF.sq D.da) s], a135, c135, rs ++ [(⟨xa, xc, rowG (rvf SF.sq D.da) (bfs (rvf SF.sq D.da) SF.L (some (SF.s, D.da.sy.run D.da.s (wl SF.init))) (i * SF.L + SF.L)) s SF.L⟩ : Rw)], _) ⟨hg.next hlt, by have := bfs_le (f := (rvf SF.sq D.da)) (L := SF.L) (s := (some (SF.s, D.da.sy.run D.da.s (wl SF.init)))) (show i * SF.L ≤ (i + 1) * SF.L by rw [Nat.add_mul]; omega); omega, by rw [hs]; exact fl_next hfl hlt bfs_succ_row, by rw [List.map_append, Nat.add_mul, Nat.one_mul]; rw [hs, List.map_singleton, rowG_full]; exact hrows2⟩ (show 600 - (i + 1) < 600 - i by omega) ⟨rfl, rfl, rfl, (lkV rfl (by rw [Nat.add_mul, Nat.one_mul])), rfl, rfl, rfl, trivial⟩ (by dsimp only; rw [Nat.add_mul, Nat.one_mul]; exact HSub.refl _)
   ·
    have hrv : (rve SF.sq D.da) s = false := by rw [q1_neg (of_decide_eq_false hg142)]; rfl
    refine RA.skip 6 (by kernel_rfl) rfl rfl rfl (.cons_cons _ (.cons_cons _ (.cons_cons _ (.cons_cons _ (.cons _ (.cons_cons _ (.cons_cons _ (.cons_cons _ (.cons_cons _ (.cons_cons _ (.cons_cons _ (.cons_cons _ (.refl _))))))))))))) ?_
    refine RA.skip 7 (by kernel_rfl) rfl rfl rfl (.cons_cons _ (.cons_cons _ (.cons_cons _ (.cons_cons _ (.cons _ (.cons_cons _ (.cons_cons _ (.cons_cons _ (.cons_cons _ (.cons_cons _ (.cons_cons _ (.cons_cons _ (.refl _))))))))))))) ?_
    refine RA.skip 8 (by kernel_rfl) rfl rfl rfl (.cons_cons _ (.cons_cons _ (.cons_cons _ (.cons_cons _ (.cons _ (.cons_cons _ (.cons_cons _ (.cons_cons _ (.cons_cons _ (.cons_cons _ (.cons_cons _ (.cons_cons _ (.refl _))))))))))))) ?_
    refine RA.skip 9 (by kernel_rfl) rfl rfl rfl (.cons_cons _ (.cons_cons _ (.cons_cons _ (.cons_cons _ (.cons _ (.cons_cons _ (.cons_cons _ (.cons_cons _ (.cons_cons _ (.cons_cons _ (.cons_cons _ (.cons_cons _ (.refl _))))))))))))) ?_
    refine RA.skip 10 (by kernel_rfl) rfl rfl rfl (.cons_cons _ (.cons_cons _ (.cons_cons _ (.cons_cons _ (.cons _ (.cons_cons _ (.cons_cons _ (.cons_cons _ (.cons_cons _ (.cons_cons _ (.cons_cons _ (.cons_cons _ (.refl _))))))))))))) ?_
    refine RA.skip 11 (by kernel_rfl) rfl rfl rfl (.cons_cons _ (.cons_cons _ (.cons_cons _ (.cons_cons _ (.cons _ (.cons_cons _ (.cons_cons _ (.cons_cons _ (.cons_cons _ (.cons_cons _ (.cons_cons _ (.cons_cons _ (.refl _))))))))))))) ?_
    refine RA.q 12 (by kernel_rfl) rfl rfl rfl (.cons_cons _ (.cons_cons _ (.cons_cons _ (.cons_cons _ (.cons _ (.cons_cons _ (.cons_cons _ (.cons_cons _ (.cons_cons _ (.cons_cons _ (.cons_cons _ (.cons_cons _ (.refl _))))))))))))) (OpQ.pickF rfl rfl) ?_
    refine RA.q 13 (by kernel_rfl) rfl rfl rfl (.cons_cons _ (.cons_cons _ (.cons_cons _ (.cons_cons _ (.cons _ (.cons_cons _ (.cons_cons _ (.cons_cons _ (.cons_cons _ (.cons_cons _ (.cons_cons _ (.cons_cons _ (.refl _))))))))))))) (OpQ.move rfl) ?_
    refine RA.skip 14 (by kernel_rfl) rfl rfl rfl (.cons_cons _ (.cons_cons _ (.cons_cons _ (.cons_cons _ (.cons _ (.cons_cons _ (.cons_cons _ (.cons_cons _ (.cons_cons _ (.cons_cons _ (.cons_cons _ (.cons_cons _ (.refl _))))))))))))) ?_
    refine RA.skip 15 (by kernel_rfl) rfl rfl rfl (.cons_cons _ (.cons_cons _ (.cons_cons _ (.cons_cons _ (.cons _ (.cons_cons _ (.cons_cons _ (.cons_cons _ (.cons_cons _ (.cons_cons _ (.cons_cons _ (.cons_cons _ (.refl _))))))))))))) ?_
    refine RA.skip 16 (by kernel_rfl) rfl rfl rfl (.cons_cons _ (.cons_cons _ (.cons_cons _ (.cons_cons _ (.cons _ (.cons_cons _ (.cons_cons _ (.cons_cons _ (.cons_cons _ (.cons_cons _ (.cons_cons _ (.cons_cons _ (.refl _))))))))))))) ?_
    refine RA.skip 17 (by kernel_rfl) rfl rfl rfl (.cons_cons _ (.cons_cons _ (.cons_cons _ (.cons_cons _ (.cons _ (.cons_cons _ (.cons_cons _ (.cons_cons _ (.cons_cons _ (.cons_cons _ (.cons_cons _ (.cons_cons _ (.refl _))))))))))))) ?_
    refine RA.skip 18 (by kernel_rfl) rfl rfl rfl (.cons_cons _ (.cons_cons _ (.cons_cons _ (.cons_cons _ (.cons _ (.cons_cons _ (.cons_cons _ (.cons_cons _ (.cons_cons _ (.cons_cons _ (.cons_cons _ (.cons_cons _ (.refl _))))))))))))) ?_
    refine RA.skip 19 (by kernel_rfl) rfl rfl rfl (.cons_cons _ (.cons_cons _ (.cons_cons _ (.cons_cons _ (.cons _ (.cons_cons _ (.cons_cons _ (.cons_cons _ (.cons_cons _ (.cons_cons _ (.cons_cons _ (.cons_cons _ (.refl _))))))))))))) ?_
    refine RA.skip 20 (by kernel_rfl) rfl rfl rfl (.cons_cons _ (.cons_cons _ (.cons_cons _ (.cons_cons _ (.cons _ (.cons_cons _ (.cons_cons _ (.cons_cons _ (.cons_cons _ (.cons_cons _ (.cons_cons _ (.cons_cons _ (.refl _))))))))))))) ?_
    refine RA.skip 21 (by kernel_rfl) rfl rfl rfl (.cons_cons _ (.cons_cons _ (.cons_cons _ (.cons_cons _ (.cons _ (.cons_cons _ (.cons_cons _ (.cons_cons _ (.cons_cons _ (.cons_cons _ (.cons_cons _ (.cons_cons _ (.refl _))))))))))))) ?_
    refine RA.skip 22 (by kernel_rfl) rfl rfl rfl (.cons_cons _ (.cons_cons _ (.cons_cons _ (.cons_cons _ (.cons _ (.cons_cons _ (.cons_cons _ (.cons_cons _ (.cons_cons _ (.cons_cons _ (.cons_cons _ (.cons_cons _ (.refl _))))))))))))) ?_
    refine RA.skip 23 (by kernel_rfl) rfl rfl rfl (.cons_cons _ (.cons_cons _ (.cons_cons _ (.cons_cons _ (.cons _ (.cons_cons _ (.cons_cons _ (.cons_cons _ (.cons_cons _ (.cons_cons _ (.cons_cons _ (.cons_cons _ (.refl _))))))))))))) ?_
    refine RA.skip 24 (by kernel_rfl) rfl rfl rfl (.cons_cons _ (.cons_cons _ (.cons_cons _ (.cons_cons _ (.cons _ (.cons_cons _ (.cons_cons _ (.cons_cons _ (.cons_cons _ (.cons_cons _ (.cons_cons _ (.cons_cons _ (.refl _))))))))))))) ?_
    refine RA.skip 25 (by kernel_rfl) rfl rfl rfl (.cons_cons _ (.cons_cons _ (.cons_cons _ (.cons_cons _ (.cons _ (.cons_cons _ (.cons_cons _ (.cons_cons _ (.cons_cons _ (.cons_cons _ (.cons_cons _ (.cons_cons _ (.refl _))))))))))))) ?_
    refine RA.skip 26 (by kernel_rfl) rfl rfl rfl (.cons_cons _ (.cons_cons _ (.cons_cons _ (.cons_cons _ (.cons _ (.cons_cons _ (.cons_cons _ (.cons_cons _ (.cons_cons _ (.cons_cons _ (.cons_cons _ (.cons_cons _ (.refl _))))))))))))) ?_
    refine RA.skip 27 (by kernel_rfl) rfl rfl rfl (.cons_cons _ (.cons_cons _ (.cons_cons _ (.cons_cons _ (.cons _ (.cons_cons _ (.cons_cons _ (.cons_cons _ (.cons_cons _ (.cons_cons _ (.cons_cons _ (.cons_cons _ (.refl _))))))))))))) ?_
    refine RA.skip 28 (by kernel_rfl) rfl rfl rfl (.cons_cons _ (.cons_cons _ (.cons_cons _ (.cons_cons _ (.cons _ (.cons_cons _ (.cons_cons _ (.cons_cons _ (.cons_cons _ (.cons_cons _ (.cons_cons _ (.cons_cons _ (.refl _))))))))))))) ?_
    refine RA.q 29 (by kernel_rfl) rfl rfl rfl (.cons_cons _ (.cons_cons _ (.cons_cons _ (.cons_cons _ (.cons _ (.cons_cons _ (.cons_cons _ (.cons_cons _ (.cons_cons _ (.cons_cons _ (.cons_cons _ (.cons_cons _ (.refl _))))))))))))) (OpQ.pickF rfl rfl) ?_
    refine RA.know 166 (v' := .bool ((rve SF.sq D.da) s)) rfl (congrArg Value.bool hrv.symm) ?_
    refine RA.f 30 (by kernel_rfl) rfl rfl rfl (OpG.lit1 zf18 zf43 rfl rfl rfl) (fun _ _ => (.cons _ (.cons_cons _ (.cons_cons _ (.cons_cons _ (.cons_cons _ (.cons _ (.cons_cons _ (.cons_cons _ (.cons_cons _ (.cons_cons _ (.cons_cons _ (.cons_cons _ (.cons_cons _ (.refl _))))))))))))))) ?_
    rintro b167 _
    refine RA.f 31 (by kernel_rfl) rfl rfl rfl (OpG.append zf18 zf43 (by rfl) (by decide) rfl rfl (p := 5) rfl (fun w hH => hH.rd .here) ⟨rfl, (by simp [Value.oneCell']), (by omega), (by omega)⟩ (nm := (i + 1)) rfl (all := (fl ++ [(rve SF.sq D.da) s]).map bo) (by rw [List.map_append]; rfl)) (fun _ _ => (.cons _ (.cons_cons _ (.cons_cons _ (.cons_cons _ (.cons_cons _ (.cons _ (.cons_cons _ (.cons_cons _ (.cons_cons _ (.cons_cons _ (.cons_cons _ (.cons_cons _ (.cons_cons _ (.refl _))))))))))))))) ?_
    rintro ⟨a168, c168⟩ h168
    refine RA.tail ?_
    refine RT.q 32 (by kernel_rfl) rfl rfl rfl (OpQ.fieldAddr zf16 rfl) ?_
    refine RT.f 33 (by kernel_rfl) rfl rfl rfl (OpG.storeRow (a := some ⟨b10, 0, none⟩) zf44 rfl rfl rfl (by repeat (first | exact Upd.here | apply Upd.there)) (by simp)) ?_
    rintro _ _
    refine RT.done (by kernel_rfl) ?_
    refine PX.block_n (PX.then_n (CT.region ?_))
    refine Wl.q rfl rfl (OpQ.move rfl) ?_
    refine Wl.q rfl rfl (OpQ.add rfl rfl (by omega)) ?_
    refine Wl.q rfl rfl (OpQ.assign rfl) ?_
    refine Wl.nil ?_
    refine PX.as (fun _ h => h.bind (L := [.frag bs (rws rs), .row 3 1 (.slice xa SF.L xc) SF.L ((rowG (rvf SF.sq D.da) (bfs (rvf SF.sq D.da) SF.L (some (SF.s, D.da.sy.run D.da.s (wl SF.init))) (i * SF.L + SF.L)) s SF.L).map zz)]) (p := rws (rs ++ [(⟨xa, xc, rowG (rvf SF.sq D.da) (bfs (rvf SF.sq D.da) SF.L (some (SF.s, D.da.sy.run D.da.s (wl SF.init))) (i * SF.L + SF.L)) s SF.L⟩ : Rw)])) (.cons (.there (.there (.there (.there .here)))) (.cons (.there (.there .here)) .nil)) (fun w hk => rws_snoc (r := (⟨xa, xc, rowG (rvf SF.sq D.da) (bfs (rvf SF.sq D.da) SF.L (some (SF.s, D.da.sy.run D.da.s (wl SF.init))) (i * SF.L + SF.L)) s SF.L⟩ : Rw)) ((hk _ List.mem_cons_self).2 w (fun _ _ => rfl)) (Rd.of_owns (hk _ (List.mem_cons_of_mem _ List.mem_cons_self))))) ?_
    refine PX.as (fun _ h => h.take (.cons .here (.cons (.there (.there (.there .here))) (.cons (.there (.there (.there .here))) (.cons (.there (.there (.there .here))) (.cons (.there (.there (.there .here))) (.cons (.there (.there (.there .here))) (.cons (.there (.there (.there .here))) (.cons (.there (.there (.there .here))) (.cons (.there (.there (.there .here))) .nil)))))))))) ?_
    exact PX.loop hK0 (i + 1, a', c', a168, c168, fl ++ [(rve SF.sq D.da) s], a135, c135, rs ++ [(⟨xa, xc, rowG (rvf SF.sq D.da) (bfs (rvf SF.sq D.da) SF.L (some (SF.s, D.da.sy.run D.da.s (wl SF.init))) (i * SF.L + SF.L)) s SF.L⟩ : Rw)], _) ⟨hg.next hlt, by have := bfs_le (f := (rvf SF.sq D.da)) (L := SF.L) (s := (some (SF.s, D.da.sy.run D.da.s (wl SF.init)))) (show i * SF.L ≤ (i + 1) * SF.L by rw [Nat.add_mul]; omega); omega, by rw [hs]; exact fl_next hfl hlt bfs_succ_row, by rw [List.map_append, Nat.add_mul, Nat.one_mul]; rw [hs, List.map_singleton, rowG_full]; exact hrows2⟩ (show 600 - (i + 1) < 600 - i by omega) ⟨rfl, rfl, rfl, (lkV rfl (by rw [Nat.add_mul, Nat.one_mul])), rfl, rfl, rfl, trivial⟩ (by dsimp only; rw [Nat.add_mul, Nat.one_mul]; exact HSub.refl _)
 ·
  have h58 := of_decide_eq_false h58
  have hii : i = (bfs (rvf SF.sq D.da) SF.L (some (SF.s, D.da.sy.run D.da.s (wl SF.init))) (i * SF.L)).length := by omega
  have hK : Done (rvf SF.sq D.da) SF.L (some (SF.s, D.da.sy.run D.da.s (wl SF.init))) (i * SF.L) := Done.of (by omega) hg hii
  have hIs : Dv.Is (⟨(SF.L : Int), 0, fa', fc', fl, na', nc', rs⟩ : Dv) (autoD (rvf SF.sq D.da) SF.L (some (SF.s, D.da.sy.run D.da.s (wl SF.init))) (i * SF.L) (rve SF.sq D.da)) := ⟨rfl, rfl, by show fl = _; rw [hfl, List.take_of_length_le (Nat.le_of_eq hii.symm)]; rfl, hrows.auto' hii (rve SF.sq D.da)⟩
  have hAn : (autoD (rvf SF.sq D.da) SF.L (some (SF.s, D.da.sy.run D.da.s (wl SF.init))) (i * SF.L) (rve SF.sq D.da)).n ≤ 501 := by rw [autoD_n]; exact hwl _
  have hv3 : (⟨(SF.L : Int), 0, fa', fc', fl, na', nc', rs⟩ : Dv).Ok := hIs.ok (autoD_ok hK _) ⟨hb1F, hb2F⟩ (by omega)
  have hval : dvv (⟨(SF.L : Int), 0, fa', fc', fl, na', nc', rs⟩ : Dv) = .agg #[zn SF.L, .int .i64 0, .slice fa' i fc', .slice na' i nc'] := by simp only [dvv, dvc, hfll, hrll]
  refine CT.exit (PX.then_x (PX.then_x (PX.block_x (PX.then_n (CT.seq (CT.region ?_))))))
  refine Wl.q rfl rfl (OpQ.loadV (b := b10) zf24 zf25 rfl (by repeat (first | exact Has.here | apply Has.there)) (by rfl)) ?_
  refine Wl.know 170 (v' := dvv (⟨(SF.L : Int), 0, fa', fc', fl, na', nc', rs⟩ : Dv)) rfl hval.symm ?_
  refine Wl.g rfl rfl (OpG.callX zf147 rfl .nil (fun _ => (.cons .nil)) (fun w hH hp => minimizeR_spec w (⟨(SF.L : Int), 0, fa', fc', fl, na', nc', rs⟩ : Dv) (fun w2 he => ⟨Stays.rd (hH.staysK0 (.there .here)) w2 he, Stays.rd (hH.staysK0 (.there (.there .here))) w2 he, Stays.frag (hH.staysK0 .here) w2 he⟩) hv3)) ?_
  rintro ⟨D4, bs4⟩ h4
  dsimp only at h4
  obtain ⟨hv4, hm4⟩ := h4
  rw [hIs.da] at hm4
  have hn4 : D4.da.n ≤ 501 := Nat.le_trans (min_n (autoD_ok hK _) hm4) hAn
  have hn4f : D4.fin.length ≤ 501 := hn4
  refine Wl.know 171 (v' := dvv D4) rfl rfl ?_
  refine Wl.g rfl rfl (OpG.alloc (zs := [.int .i64 0, .int .i64 0, .slice none 0 0, .slice none 0 0]) zf37 rfl rfl) ?_
  rintro b18 _
  refine Wl.g rfl rfl (OpG.storeV (b := b18) zf25 rfl rfl rfl rfl (by repeat (first | exact Upd.here | apply Upd.there))) ?_
  rintro _ _
  refine Wl.nil (PX.then_n (CT.seq (CT.seq (CT.region ?_))))
  refine Wl.q rfl rfl (OpQ.fieldAddr zf16 rfl) ?_
  refine Wl.q rfl rfl (OpQ.loadF (b := b18) zf17 rfl (by repeat (first | exact Has.here | apply Has.there)) (by rfl)) ?_
  refine Wl.q rfl rfl (OpQ.len zf18 rfl) ?_
  refine Wl.q rfl rfl (OpQ.gtr rfl rfl) ?_
  refine Wl.know 175 (v' := .bool false) rfl (congrArg Value.bool (decide_eq_false (by omega))) ?_
  refine Wl.nil (PX.then_n ?_)
  refine CT.condF rfl ?_
  refine CT.skip (PX.then_n (CT.seq (CT.region ?_)))
  refine Wl.q rfl rfl (OpQ.loadV (b := b18) zf24 zf25 rfl (by repeat (first | exact Has.here | apply Has.there)) (by rfl)) ?_
  refine Wl.know 177 (v' := dvv D4) rfl rfl ?_
  refine Wl.g rfl rfl (OpG.storeV (b := b4) zf25 rfl rfl rfl rfl (by repeat (first | exact Upd.here | apply Upd.there))) ?_
  rintro _ _
  refine Wl.q rfl rfl (OpQ.assign rfl) ?_
  refine Wl.nil (PX.then_n (CT.ret ?_))
  refine PX.retC2 rfl rfl rfl (by repeat (first | exact Has.here | apply Has.there)) zf24 zf25 (by rfl) (fun w' hH => ?_)
  exact ⟨(D4, bs4), ⟨hv4, hn4, rv_done hK hm4⟩, rfl, (hH.take (.cons (.there .here) .nil)).post⟩

end Go.Proofs.Ytamolakhpcofhaa

