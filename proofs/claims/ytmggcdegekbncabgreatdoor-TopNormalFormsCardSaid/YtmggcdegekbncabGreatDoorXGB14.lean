/-
  What functions of the program compute, each by its walk. Conditions: those that each theorem names.
-/
import Derived.Test.YtmggcdegekbncabGreatDoorEng1
import Derived.Test.YtmggcdegekbncabGreatDoorXGB13
import Derived.Test.YtmggcdegekbncabGreatDoorXF
set_option linter.unusedSimpArgs false
namespace Go.Proofs.YtmggcdegekbncabGreatDoor
open Go Go.Eng Go.Am Go.Ex
open Go.Tp (zi)
open Go.Tl (mayL Wd okW okB bo)
open Go.Ex.simp (simpL)
open Go.Ex.dv (dvL dvC)
open Go.Ex.hasU (hasAny hasAll)
open Go.Ex.wf (wfL)
open Go.Ex.szE (szL)
open Go.Ex.dpE (dpL)
open Go.Ex.cmpE (cmpL)
open Go.Ex.fmtE (fmtK fmtR)
theorem K14_in24 : (Tryz.prog.info? 24).map (fun i => (i.zero, i.size, i.bytes)) = some (some (.agg #[.int .i64 0, .int .i64 0, .slice none 0 0]), 3, 40) := by kernel_rfl
theorem K14_fa137_1 : fieldB Tryz.prog 137 1 = some 1 := by kernel_rfl
theorem K14_sc4 : scalarB Tryz.prog 4 = some true := by kernel_rfl
theorem K14_ag24 : isAggB Tryz.prog 24 = some true := by kernel_rfl
theorem K14_sz24 : sizeB Tryz.prog 24 = some 3 := by kernel_rfl
theorem K14_go39 : isGo Tryz.prog 39 = true := by kernel_rfl
set_option maxRecDepth 100000 in
/-- (semigroup/derive.deriver).simplify -/
theorem dsimp_spec (w : World) (n : Bool) (x : Int) (v : Xv) (hz : szE (toE v) ≤ 400) (hw : wf 6 (toE v) = true) (hv : Stays [] w (evm v)) : Calls Tryz.prog 126 #[.agg #[.int .i64 x, .bool n], evv v] w (fun e w' => ∃ i : Xv × List Nat, (toE i.1 = if n = true then toE v else simp (toE v)) ∧ e = .returned (evv i.1) ∧ Post [] [fx (AllM [v]) [i.1] i.2] w w') := by
 refine enter (args := [.agg #[.int .i64 x, .bool n], evv v]) [] 10 Tryz.func126 rfl rfl rfl ?_
 refine CT.seq (CT.region ?_)
 refine Wl.g rfl rfl (OpG.box (size := 2) rfl rfl rfl) ?_
 rintro b2 _
 refine Wl.g rfl rfl (OpG.box (size := 3) rfl rfl rfl) ?_
 rintro b3 _
 refine Wl.g rfl rfl (OpG.alloc (zs := [.int .i64 0, .int .i64 0, .slice none 0 0]) K14_in24 rfl rfl) ?_
 rintro b4 _
 refine Wl.nil (PX.then_n (CT.seq (CT.seq (CT.region ?_))))
 refine Wl.q rfl rfl (OpQ.fieldAddr K14_fa137_1 rfl) ?_
 refine Wl.q rfl rfl (OpQ.loadF (b := b2) K14_sc4 rfl (by repeat (first | exact Has.here | apply Has.there)) (by rfl)) ?_
 refine Wl.nil (PX.then_n ?_)
 refine CT.cond rfl (fun h6 => ?_) (fun h6 => ?_)
 ·
  refine CT.seq (CT.region ?_)
  refine Wl.q rfl rfl (OpQ.loadV (b := b3) K14_ag24 K14_sz24 rfl (by repeat (first | exact Has.here | apply Has.there)) (by rfl)) ?_
  refine Wl.know 7 (v' := evv v) rfl rfl ?_
  refine Wl.g rfl rfl (OpG.storeV (b := b4) K14_sz24 rfl rfl rfl rfl (by repeat (first | exact Upd.here | apply Upd.there))) ?_
  rintro _ _
  refine Wl.nil (PX.then_n (CT.ret (PX.then_r ?_)))
  refine PX.retC rfl rfl (by repeat (first | exact Has.here | apply Has.there)) K14_ag24 K14_sz24 (by rfl) (fun w' hH => ?_)
  exact ⟨(v, []), by rw [if_pos h6], rfl, HOk.post (HOk.fx0 (A := AllM [v]) (vs := [v]) (hH.take .nil) (fun w h => h))⟩
 ·
  refine CT.skip (PX.then_n (CT.seq (CT.region ?_)))
  refine Wl.q rfl rfl (OpQ.loadV (b := b3) K14_ag24 K14_sz24 rfl (by repeat (first | exact Has.here | apply Has.there)) (by rfl)) ?_
  refine Wl.know 8 (v' := evv v) rfl rfl ?_
  refine Wl.g rfl rfl (OpG.callX K14_go39 rfl .nil (fun _ => (.cons .nil)) (fun w hH hp => simplify_spec v w (by omega) hw (hH.stays0 hv))) ?_
  rintro ⟨r9, bs9⟩ h9
  refine Wl.g rfl rfl (OpG.storeV (b := b4) K14_sz24 rfl rfl rfl rfl (by repeat (first | exact Upd.here | apply Upd.there))) ?_
  rintro _ _
  refine Wl.nil (PX.then_n (CT.ret ?_))
  refine PX.retC rfl rfl (by repeat (first | exact Has.here | apply Has.there)) K14_ag24 K14_sz24 (by rfl) (fun w' hH => ?_)
  exact ⟨(r9, bs9), by rw [if_neg (by rw [h6]; decide)]; exact h9, rfl, HOk.post (hH.take (.cons .here .nil))⟩

theorem K14_un22 : Tryz.prog.underlying 22 = some (.slice 24) := by kernel_rfl
theorem K14_in135 : (Tryz.prog.info? 135).map (fun i => (i.zero, i.size, i.bytes)) = some (some (.agg #[.int .i64 0, .int .i64 0, .slice none 0 0, .int .i64 0, .int .i64 0, .slice none 0 0, .bool false]), 7, 88) := by kernel_rfl
theorem K14_mixed : Tryz.prog.follows .mixedOrders = true := by kernel_rfl
theorem K14_fa24_2 : fieldB Tryz.prog 24 2 = some 2 := by kernel_rfl
theorem K14_sc22 : scalarB Tryz.prog 22 = some true := by kernel_rfl
theorem K14_ag137 : isAggB Tryz.prog 137 = some true := by kernel_rfl
theorem K14_sz137 : sizeB Tryz.prog 137 = some 2 := by kernel_rfl
theorem K14_go83 : isGo Tryz.prog 83 = true := by kernel_rfl
theorem K14_sz135 : sizeB Tryz.prog 135 = some 7 := by kernel_rfl
theorem K14_fa135_0 : fieldB Tryz.prog 135 0 = some 0 := by kernel_rfl
theorem K14_fa135_1 : fieldB Tryz.prog 135 1 = some 3 := by kernel_rfl
theorem K14_fa135_2 : fieldB Tryz.prog 135 2 = some 6 := by kernel_rfl
theorem K14_fa24_0 : fieldB Tryz.prog 24 0 = some 0 := by kernel_rfl
theorem K14_sc3 : scalarB Tryz.prog 3 = some true := by kernel_rfl
theorem K14_go64 : isGo Tryz.prog 64 = true := by kernel_rfl
theorem K14_pl135 : placesB Tryz.prog 135 = some (#[.int .i64 0, .int .i64 0, .slice none 0 0, .int .i64 0, .int .i64 0, .slice none 0 0, .bool false], [(0, 3), (3, 3), (6, 1)]) := by kernel_rfl
theorem K14_sz4 : sizeB Tryz.prog 4 = some 1 := by kernel_rfl
theorem K14_ag135 : isAggB Tryz.prog 135 = some true := by kernel_rfl
set_option maxRecDepth 100000 in
set_option maxHeartbeats 4000000 in
/-- (semigroup/derive.deriver).boolean -/
theorem bool_spec (w : World) (n : Bool) (x : Int) (v : Xv) (ih : ∀ k ∈ v.ks, ∀ w : World, szE (toE k) ≤ 400 → wf 6 (toE k) = true → Stays [] w (evm k) → Calls Tryz.prog 83 #[.agg #[.int .i64 x, .bool n], evv k] w (fun e w' => ∃ i : Xv × Xv × List Nat, (toE i.1 = (dv n x (toE k)).by' ∧ toE i.2.1 = (dv n x (toE k)).self) ∧ e = .returned (drv i.1 i.2.1 (dv n x (toE k)).nl) ∧ Post [] [fx (AllM [k]) [i.1, i.2.1] i.2.2] w w')) (hz : szE (toE v) ≤ 400) (hw : wf 6 (toE v) = true) (hv : Stays [] w (evm v)) : Calls Tryz.prog 111 #[.agg #[.int .i64 x, .bool n], evv v] w (fun e w' => ∃ i : Xv × Xv × List Nat, (toE i.1 = (dBool v.op (dks n x v.ks)).by' ∧ toE i.2.1 = (dBool v.op (dks n x v.ks)).self) ∧ e = .returned (drv i.1 i.2.1 (dBool v.op (dks n x v.ks)).nl) ∧ Post [] [fx (AllM [v]) [i.1, i.2.1] i.2.2] w w') := by
 have hva : 0 < v.ks.length → v.a.isSome = true := fun h => (evm_iff.1 hv.now).1.isSome (j := 0) (by rw [flat_len evc_len]; omega)
 have hvl := (evm_iff.1 hv.now).2.2
 have hkn := kids_len v
 refine enter (args := [.agg #[.int .i64 x, .bool n], evv v]) [] 76 Tryz.func111 rfl rfl rfl ?_
 refine CT.seq (CT.region ?_)
 refine Wl.g rfl rfl (OpG.box (size := 2) rfl rfl rfl) ?_
 rintro b2 _
 refine Wl.g rfl rfl (OpG.box (size := 3) rfl rfl rfl) ?_
 rintro b3 _
 refine Wl.g rfl rfl (OpG.alloc (zs := [.int .i64 0, .int .i64 0, .slice none 0 0, .int .i64 0, .int .i64 0, .slice none 0 0, .bool false]) K14_in135 rfl rfl) ?_
 rintro b4 _
 refine Wl.nil (PX.then_n ?_)
 refine CT.cut (ι := Nat × Nat) (Φ := fun (b15, b19) => True) (E' := fun (b15, b19) => [(2, .pointer (some ⟨b2, 0, none⟩)), (3, .pointer (some ⟨b3, 0, none⟩)), (4, .pointer (some ⟨b4, 0, none⟩)), (5, .slice (some ⟨b15, 0, none⟩) v.ks.length v.ks.length), (6, .slice (some ⟨b19, 0, none⟩) v.ks.length v.ks.length)]) (H' := fun (b15, b19) => [.row 24 3 (.slice (some ⟨b19, 0, none⟩) v.ks.length v.ks.length) v.ks.length (List.replicate v.ks.length (evc ev0)).flatten, .row 24 3 (.slice (some ⟨b15, 0, none⟩) v.ks.length v.ks.length) v.ks.length (List.replicate v.ks.length (evc ev0)).flatten, .row 135 7 (vb b4) 1 [.int .i64 0, .int .i64 0, .slice none 0 0, .int .i64 0, .int .i64 0, .slice none 0 0, .bool false], .row 24 3 (vb b3) 1 (evc v), .row 137 2 (vb b2) 1 [.int .i64 x, .bool n]]) (fun K0 hK0 => ?_) (fun ⟨b15, b19⟩ _ => ?_)
 ·
  refine CT.draw 10 K14_mixed ?_
  refine RA.q 0 (by kernel_rfl) rfl rfl rfl (.refl _) (OpQ.fieldAddr K14_fa24_2 rfl) ?_
  refine RA.q 1 (by kernel_rfl) rfl rfl rfl (.refl _) (OpQ.loadF (b := b3) K14_sc22 rfl (by repeat (first | exact Has.here | apply Has.there)) (by rfl)) ?_
  refine RA.q 2 (by kernel_rfl) rfl rfl rfl (.refl _) (OpQ.len K14_un22 rfl) ?_
  refine RA.q 4 (by kernel_rfl) rfl rfl rfl (.refl _) (OpQ.fieldAddr K14_fa24_2 rfl) ?_
  refine RA.q 5 (by kernel_rfl) rfl rfl rfl (.refl _) (OpQ.loadF (b := b3) K14_sc22 rfl (by repeat (first | exact Has.here | apply Has.there)) (by rfl)) ?_
  refine RA.q 6 (by kernel_rfl) rfl rfl rfl (.refl _) (OpQ.len K14_un22 rfl) ?_
  refine RA.two 3 7 (by kernel_rfl) rfl rfl rfl (OpG.makeN K14_un22 K14_in24 rfl rfl (by decide) rfl rfl rfl (by omega) (by omega)) (fun _ _ => (.cons _ (.refl _))) rfl rfl rfl (OpG.makeN K14_un22 K14_in24 rfl rfl (by decide) rfl rfl rfl (by omega) (by omega)) (fun _ _ => (.cons _ (.refl _))) ?_ ?_
  ·
   rintro b15 _
   refine RA.q 8 (by kernel_rfl) rfl rfl rfl (.cons _ (.refl _)) (OpQ.assign rfl) ?_
   refine RA.f 7 (by kernel_rfl) rfl rfl rfl (OpG.makeN K14_un22 K14_in24 rfl rfl (by decide) rfl rfl rfl (by omega) (by omega)) (fun _ _ => (.cons _ (.cons _ (.refl _)))) ?_
   rintro b19 _
   refine RA.q 9 (by kernel_rfl) rfl rfl rfl (.cons _ (.cons _ (.refl _))) (OpQ.assign rfl) ?_
   refine RA.tail ?_
   refine RT.done (by kernel_rfl) ?_
   exact PX.cut hK0 (b15, b19) trivial ⟨rfl, rfl, rfl, rfl, rfl, trivial⟩ (HSub.refl _)
  ·
   rintro b19 _
   refine RA.f 3 (by kernel_rfl) rfl rfl rfl (OpG.makeN K14_un22 K14_in24 rfl rfl (by decide) rfl rfl rfl (by omega) (by omega)) (fun _ _ => (.cons _ (.cons _ (.refl _)))) ?_
   rintro b15 _
   refine RA.q 8 (by kernel_rfl) rfl rfl rfl (.cons _ (.cons _ (.refl _))) (OpQ.assign rfl) ?_
   refine RA.q 9 (by kernel_rfl) rfl rfl rfl (.cons _ (.cons _ (.refl _))) (OpQ.assign rfl) ?_
   refine RA.tail ?_
   refine RT.perm (.swap _ _ _) ?_
   refine RT.done (by kernel_rfl) ?_
   exact PX.cut hK0 (b15, b19) trivial ⟨rfl, rfl, rfl, rfl, rfl, trivial⟩ (HSub.refl _)
 ·
  dsimp only
  refine CT.seq (CT.region ?_)
  refine Wl.q rfl rfl (OpQ.assign rfl) ?_
  refine Wl.nil (PX.then_n (CT.seq (CT.seq (CT.region ?_))))
  refine Wl.q rfl rfl (OpQ.fieldAddr K14_fa24_2 rfl) ?_
  refine Wl.q rfl rfl (OpQ.loadF (b := b3) K14_sc22 rfl (by repeat (first | exact Has.here | apply Has.there)) (by rfl)) ?_
  refine Wl.q rfl rfl (OpQ.len K14_un22 rfl) ?_
  refine Wl.q rfl rfl (OpQ.move rfl) ?_
  refine Wl.nil (PX.then_n (CT.block ?_))
  refine CT.as (fun w hH => hH.fx0 (A := AllM [v]) (vs := List.replicate v.ks.length ev0 ++ List.replicate v.ks.length ev0) (fun w _ x hx => by rw [(List.mem_append.1 hx).elim (fun h => (List.mem_replicate.1 h).2) (fun h => (List.mem_replicate.1 h).2)]; exact ev0_m w)) ?_
  refine CT.loop (ι := Nat × List Xv × List Xv × List Nat) (fun (k, L, M, bs) => k ≤ v.ks.length ∧ L.length = v.ks.length ∧ M.length = v.ks.length ∧ (∀ j, j < k → toE (L.getD j ev0) = (dv n x (toE (v.ks.getD j ev0))).by') ∧ (∀ j, j < k → toE (M.getD j ev0) = (dv n x (toE (v.ks.getD j ev0))).self)) (fun (k, L, M, bs) => [(2, .pointer (some ⟨b2, 0, none⟩)), (3, .pointer (some ⟨b3, 0, none⟩)), (4, .pointer (some ⟨b4, 0, none⟩)), (5, .slice (some ⟨b15, 0, none⟩) v.ks.length v.ks.length), (6, .slice (some ⟨b19, 0, none⟩) v.ks.length v.ks.length), (7, .int .i64 ((cntT n x v.ks k : Nat) : Int)), (21, .slice v.a v.ks.length v.c), (22, .int .i64 ((v.ks.length : Nat) : Int)), (23, .int .i64 ((k : Nat) : Int))]) (fun (k, L, M, bs) => [fx (AllM [v]) (L ++ M) bs, .row 24 3 (.slice (some ⟨b19, 0, none⟩) v.ks.length v.ks.length) v.ks.length ((M).flatMap evc), .row 24 3 (.slice (some ⟨b15, 0, none⟩) v.ks.length v.ks.length) v.ks.length ((L).flatMap evc), .row 135 7 (vb b4) 1 [.int .i64 0, .int .i64 0, .slice none 0 0, .int .i64 0, .int .i64 0, .slice none 0 0, .bool false], .row 24 3 (vb b3) 1 (evc v), .row 137 2 (vb b2) 1 [.int .i64 x, .bool n]]) (fun (k, L, M, bs) => v.ks.length - k) (0, List.replicate v.ks.length ev0, List.replicate v.ks.length ev0, []) ⟨Nat.zero_le _, List.length_replicate, List.length_replicate, fun j hj => absurd hj (Nat.not_lt_zero j), fun j hj => absurd hj (Nat.not_lt_zero j)⟩ ⟨rfl, rfl, rfl, rfl, rfl, rfl, rfl, rfl, rfl, trivial⟩ (.keep rfl (.keep (row_eq (repl_evc _).symm) (.keep (row_eq (repl_evc _).symm) (HSub.refl _)))) (fun ⟨k, L, M, bs⟩ ⟨hk, hlL, hlM, hjL, hjM⟩ K1 hK1 => ?_)
  dsimp only
  refine CT.seq (CT.region ?_)
  refine Wl.q rfl rfl (OpQ.lss rfl rfl) ?_
  refine Wl.nil (PX.then_n (CT.seq ?_))
  refine CT.cond rfl (fun h24 => ?_) (fun h24 => ?_)
  ·
   have h24 := of_decide_eq_true h24
   refine CT.skip (PX.then_n (CT.seq (CT.block (CT.seq (CT.region ?_)))))
   refine Wl.q rfl rfl (OpQ.move rfl) ?_
   have hkl : k < v.ks.length := by omega
   have hct := cntT_le n x v.ks k
   refine Wl.q rfl rfl (OpQ.index K14_un22 K14_sz24 rfl rfl (by omega) (hva (by omega))) ?_
   refine Wl.q rfl rfl (OpQ.loadAggG (cs := evc (v.ks.getD k ev0)) K14_ag24 K14_sz24 rfl (fun w hH => (evm_iff.1 (hH.use hv)).1) (flat_cells evc_len v.ks ev0 (by omega))) ?_
   refine Wl.know 27 (v' := evv (v.ks.getD k ev0)) rfl rfl ?_
   refine Wl.g rfl rfl (OpG.alloc (zs := [.int .i64 0, .int .i64 0, .slice none 0 0]) K14_in24 rfl rfl) ?_
   rintro b9 _
   refine Wl.q rfl rfl (OpQ.assign rfl) ?_
   refine Wl.g rfl rfl (OpG.storeV (b := b9) K14_sz24 rfl rfl rfl rfl (by repeat (first | exact Upd.here | apply Upd.there))) ?_
   rintro _ _
   refine Wl.nil (PX.then_n (CT.seq (CT.region ?_)))
   refine Wl.q rfl rfl (OpQ.loadV (b := b2) K14_ag137 K14_sz137 rfl (by repeat (first | exact Has.here | apply Has.there)) (by rfl)) ?_
   refine Wl.know 28 (v' := .agg #[.int .i64 x, .bool n]) rfl rfl ?_
   refine Wl.q rfl rfl (OpQ.loadV (b := b9) K14_ag24 K14_sz24 rfl (by repeat (first | exact Has.here | apply Has.there)) (by rfl)) ?_
   refine Wl.know 29 (v' := evv (v.ks.getD k ev0)) rfl rfl ?_
   refine Wl.g rfl rfl (OpG.callX K14_go83 rfl .nil (fun _ => (.cons .nil)) (fun w hH hp => ih _ (kid_mem hkl) w (by have := kid_sz (kid_mem hkl); omega) (wf_kid hw _ (kid_mem hkl)) ((hH.stays0 hv).mono (fun w h => (evm_iff.1 h).2.1 _ (kid_mem hkl))))) ?_
   rintro ⟨a30, c30, bs30⟩ ⟨h30b, h30s⟩
   refine Wl.g rfl rfl (OpG.alloc (zs := [.int .i64 0, .int .i64 0, .slice none 0 0, .int .i64 0, .int .i64 0, .slice none 0 0, .bool false]) K14_in135 rfl rfl) ?_
   rintro b10 _
   refine Wl.g rfl rfl (OpG.storeV (b := b10) K14_sz135 rfl rfl rfl rfl (by repeat (first | exact Upd.here | apply Upd.there))) ?_
   rintro _ _
   refine Wl.nil (PX.then_n (CT.seq ?_))
   refine CT.draw' (Hc := [.row 135 7 (vb b10) 1 (drl a30 c30 (dv n x (toE (v.ks.getD k ev0))).nl)]) 11 K14_mixed ?_
   refine RA.q 0 (by kernel_rfl) rfl rfl rfl (.cons_cons _ (.cons _ (.cons _ (.cons _ (.cons _ (.cons _ (.cons _ (.cons _ (.cons _ (.refl _)))))))))) (OpQ.move rfl) ?_
   refine RA.q 1 (by kernel_rfl) rfl rfl rfl (.cons_cons _ (.cons _ (.cons _ (.cons _ (.cons _ (.cons _ (.cons _ (.cons _ (.cons _ (.refl _)))))))))) (OpQ.move rfl) ?_
   refine RA.q 2 (by kernel_rfl) rfl rfl rfl (.cons_cons _ (.cons _ (.cons _ (.cons _ (.cons _ (.cons _ (.cons _ (.cons _ (.cons _ (.refl _)))))))))) (OpQ.move rfl) ?_
   refine RA.q 3 (by kernel_rfl) rfl rfl rfl (.cons_cons _ (.cons _ (.cons _ (.cons _ (.cons _ (.cons _ (.cons _ (.cons _ (.cons _ (.refl _)))))))))) (OpQ.move rfl) ?_
   refine RA.q 4 (by kernel_rfl) rfl rfl rfl (.cons_cons _ (.cons _ (.cons _ (.cons _ (.cons _ (.cons _ (.cons _ (.cons _ (.cons _ (.refl _)))))))))) (OpQ.fieldAddr K14_fa135_0 rfl) ?_
   refine RA.q 5 (by kernel_rfl) rfl rfl rfl (.cons_cons _ (.cons _ (.cons _ (.cons _ (.cons _ (.cons _ (.cons _ (.cons _ (.cons _ (.refl _)))))))))) (OpQ.loadFA (b := b10) (cs := evc a30) K14_ag24 K14_sz24 rfl (by repeat (first | exact Has.here | apply Has.there)) (fun _ _ h => drl_by h)) ?_
   refine RA.know 36 (v' := evv a30) rfl rfl ?_
   refine RA.q 6 (by kernel_rfl) rfl rfl rfl (.cons_cons _ (.cons _ (.cons _ (.cons _ (.cons _ (.cons _ (.cons _ (.cons _ (.cons _ (.refl _)))))))))) (OpQ.fieldAddr K14_fa135_1 rfl) ?_
   refine RA.q 7 (by kernel_rfl) rfl rfl rfl (.cons_cons _ (.cons _ (.cons _ (.cons _ (.cons _ (.cons _ (.cons _ (.cons _ (.cons _ (.refl _)))))))))) (OpQ.loadFA (b := b10) (cs := evc c30) K14_ag24 K14_sz24 rfl (by repeat (first | exact Has.here | apply Has.there)) (fun _ _ h => drl_self h)) ?_
   refine RA.know 38 (v' := evv c30) rfl rfl ?_
   refine RA.q 8 (by kernel_rfl) rfl rfl rfl (.cons_cons _ (.cons _ (.cons _ (.cons _ (.cons _ (.cons _ (.cons _ (.cons _ (.cons _ (.refl _)))))))))) (OpQ.index K14_un22 K14_sz24 rfl rfl (by omega) rfl) ?_
   refine RA.f 9 (by kernel_rfl) rfl rfl rfl (OpG.storeAggRow (xs := (L).flatMap evc) (j := k * 3) (cs := evc a30) K14_sz24 rfl rfl rfl (by rw [evcs_len, evc_len]; omega) (by rw [evc_len]; decide) (by repeat (first | exact Upd.here | apply Upd.there))) (fun _ _ => (.cons_cons _ (.cons _ (.cons _ (.cons _ (.cons _ (.cons _ (.cons _ (.cons _ (.cons _ (.refl _))))))))))) ?_
   rintro _ _
   refine RA.q 10 (by kernel_rfl) rfl rfl rfl (.cons_cons _ (.cons _ (.cons _ (.cons _ (.cons _ (.cons _ (.cons _ (.cons _ (.cons _ (.refl _)))))))))) (OpQ.index K14_un22 K14_sz24 rfl rfl (by omega) rfl) ?_
   refine RA.tail ?_
   refine RT.f 11 (by kernel_rfl) rfl rfl rfl (OpG.storeAggRow (xs := (M).flatMap evc) (j := k * 3) (cs := evc c30) K14_sz24 rfl rfl rfl (by rw [evcs_len, evc_len]; omega) (by rw [evc_len]; decide) (by repeat (first | exact Upd.here | apply Upd.there))) ?_
   rintro _ _
   refine RT.done (by kernel_rfl) ?_
   refine PX.then_n (CT.seq (CT.region ?_))
   refine Wl.q rfl rfl (OpQ.fieldAddr K14_fa135_2 rfl) ?_
   refine Wl.q rfl rfl (OpQ.loadF (b := b10) K14_sc4 rfl (by repeat (first | exact Has.here | apply Has.there)) (by rfl)) ?_
   refine Wl.nil (PX.then_n ?_)
   refine CT.cond rfl (fun h42 => ?_) (fun h42 => ?_)
   ·
    refine CT.region ?_
    refine Wl.q rfl rfl (OpQ.move rfl) ?_
    refine Wl.q rfl rfl (OpQ.add rfl rfl (by omega)) ?_
    refine Wl.q rfl rfl (OpQ.assign rfl) ?_
    refine Wl.nil (PX.block_n (PX.then_n (CT.region ?_)))
    refine Wl.q rfl rfl (OpQ.add rfl rfl (by omega)) ?_
    refine Wl.q rfl rfl (OpQ.move rfl) ?_
    refine Wl.nil ?_
    refine PX.as (fun _ h => ((h.take (.cons (.there .here) (.cons (.there (.there .here)) (.cons (.there (.there .here)) (.cons (.there (.there .here)) (.cons (.there (.there .here)) (.cons (.there (.there .here)) (.cons (.there (.there .here)) .nil)))))))).fxAddA (us := [(v.ks.getD k ev0)]) (fun w h => AllM.one.2 ((evm_iff.1 (AllM.one.1 h)).2.1 _ (kid_mem hkl)))).fxLess (us := L.set k a30 ++ M.set k c30) (fun w h => AllM.app.2 ⟨set_m2 (AllM.app.1 (AllM.app.1 h).2).1 (AllM.two.1 (AllM.app.1 h).1).1, set_m2 (AllM.app.1 (AllM.app.1 h).2).2 (AllM.two.1 (AllM.app.1 h).1).2⟩)) ?_
    exact PX.loop hK1 (k + 1, L.set k a30, M.set k c30, _) ⟨by omega, by rw [List.length_set]; exact hlL, by rw [List.length_set]; exact hlM, (at_s (p := fun j => (dv n x (toE (v.ks.getD j ev0))).by') (by omega) hjL h30b), (at_s (p := fun j => (dv n x (toE (v.ks.getD j ev0))).self) (by omega) hjM h30s)⟩ (show v.ks.length - (k + 1) < v.ks.length - k by omega) ⟨rfl, rfl, rfl, rfl, rfl, (lkV rfl (congrArg (Value.int .i64) (by rw [cntT_s hkl]; simp only [h42]; first | rfl | (simp; done) | omega))), rfl, rfl, rfl, trivial⟩ (.keep rfl (.keep (row_eq (evcs_set (by omega) _).symm) (.keep (row_eq (evcs_set (by omega) _).symm) (HSub.refl _))))
   ·
    refine CT.skip (PX.block_n (PX.then_n (CT.region ?_)))
    refine Wl.q rfl rfl (OpQ.add rfl rfl (by omega)) ?_
    refine Wl.q rfl rfl (OpQ.move rfl) ?_
    refine Wl.nil ?_
    refine PX.as (fun _ h => ((h.take (.cons (.there .here) (.cons (.there (.there .here)) (.cons (.there (.there .here)) (.cons (.there (.there .here)) (.cons (.there (.there .here)) (.cons (.there (.there .here)) (.cons (.there (.there .here)) .nil)))))))).fxAddA (us := [(v.ks.getD k ev0)]) (fun w h => AllM.one.2 ((evm_iff.1 (AllM.one.1 h)).2.1 _ (kid_mem hkl)))).fxLess (us := L.set k a30 ++ M.set k c30) (fun w h => AllM.app.2 ⟨set_m2 (AllM.app.1 (AllM.app.1 h).2).1 (AllM.two.1 (AllM.app.1 h).1).1, set_m2 (AllM.app.1 (AllM.app.1 h).2).2 (AllM.two.1 (AllM.app.1 h).1).2⟩)) ?_
    exact PX.loop hK1 (k + 1, L.set k a30, M.set k c30, _) ⟨by omega, by rw [List.length_set]; exact hlL, by rw [List.length_set]; exact hlM, (at_s (p := fun j => (dv n x (toE (v.ks.getD j ev0))).by') (by omega) hjL h30b), (at_s (p := fun j => (dv n x (toE (v.ks.getD j ev0))).self) (by omega) hjM h30s)⟩ (show v.ks.length - (k + 1) < v.ks.length - k by omega) ⟨rfl, rfl, rfl, rfl, rfl, (lkV rfl (congrArg (Value.int .i64) (by rw [cntT_s hkl]; simp only [h42]; first | rfl | (simp; done) | omega))), rfl, rfl, rfl, trivial⟩ (.keep rfl (.keep (row_eq (evcs_set (by omega) _).symm) (.keep (row_eq (evcs_set (by omega) _).symm) (HSub.refl _))))
  ·
   have h24 := of_decide_eq_false h24
   refine CT.exit (PX.then_x (PX.then_x (PX.block_x (PX.then_n ?_))))
   refine CT.cut (ι := Nat × Xv × Xv × List Nat) (Φ := fun (b11, p, q, bs2) => toE p = (dBool v.op (dks n x v.ks)).by' ∧ toE q = (dBool v.op (dks n x v.ks)).self) (E' := fun (b11, p, q, bs2) => [(2, .pointer (some ⟨b2, 0, none⟩)), (3, .pointer (some ⟨b3, 0, none⟩)), (4, .pointer (some ⟨b4, 0, none⟩)), (7, .int .i64 ((cntT n x v.ks v.ks.length : Nat) : Int)), (11, .pointer (some ⟨b11, 0, none⟩))]) (H' := fun (b11, p, q, bs2) => [fx (AllM [v]) [p, q] bs2, .row 135 7 (vb b11) 1 (drl p q false), .row 135 7 (vb b4) 1 [.int .i64 0, .int .i64 0, .slice none 0 0, .int .i64 0, .int .i64 0, .slice none 0 0, .bool false], .row 24 3 (vb b3) 1 (evc v), .row 137 2 (vb b2) 1 [.int .i64 x, .bool n]]) (fun K2 hK2 => ?_) (fun ⟨b11, p, q, bs2⟩ ⟨hp, hq⟩ => ?_)
   ·
    refine CT.draw 10 K14_mixed ?_
    obtain rfl : k = v.ks.length := by omega
    have hz1 := dsz_by (n := n) (x := x) hw hz
    have hz2 := dsz_self (n := n) (x := x) hw hz
    refine RA.q 0 (by kernel_rfl) rfl rfl rfl (.refl _) (OpQ.fieldAddr K14_fa24_0 rfl) ?_
    refine RA.q 1 (by kernel_rfl) rfl rfl rfl (.refl _) (OpQ.loadF (b := b3) K14_sc3 rfl (by repeat (first | exact Has.here | apply Has.there)) (by rfl)) ?_
    refine RA.q 2 (by kernel_rfl) rfl rfl rfl (.refl _) (OpQ.move rfl) ?_
    refine RA.know 48 (v' := .slice (some ⟨b15, 0, none⟩) L.length v.ks.length) rfl (by rw [hlL]) ?_
    refine RA.q 4 (by kernel_rfl) rfl rfl rfl (.refl _) (OpQ.fieldAddr K14_fa24_0 rfl) ?_
    refine RA.q 5 (by kernel_rfl) rfl rfl rfl (.refl _) (OpQ.loadF (b := b3) K14_sc3 rfl (by repeat (first | exact Has.here | apply Has.there)) (by rfl)) ?_
    refine RA.q 6 (by kernel_rfl) rfl rfl rfl (.refl _) (OpQ.move rfl) ?_
    refine RA.know 52 (v' := .slice (some ⟨b19, 0, none⟩) M.length v.ks.length) rfl (by rw [hlM]) ?_
    refine RA.two 3 9 (by kernel_rfl) rfl rfl rfl (OpG.callX K14_go64 rfl .nil (fun _ => (.cons .nil)) (fun w hH hp => join_spec w v.op L (some ⟨b15, 0, none⟩) v.ks.length (hH.kinS (e := 24) (n := v.ks.length) (cp := v.ks.length) (by repeat (first | exact Has.here | apply Has.there)) (fun w' he => AllM.fst ((hH.staysK0 (show Has _ (fx (AllM [v]) (L ++ M) bs) from (by repeat (first | exact Has.here | apply Has.there)))).frag w' he (((hH.stays0 hv).mono (fun w h => AllM.one.2 h)) w' he)))) (by rw [map_at (f := (·.by')) hlL hjL]; omega))) (fun _ _ => (.cons _ (.refl _))) rfl rfl rfl (OpG.alloc (zs := [.int .i64 0, .int .i64 0, .slice none 0 0, .int .i64 0, .int .i64 0, .slice none 0 0, .bool false]) K14_in135 rfl rfl) (fun _ _ => (.cons _ (.refl _))) ?_ ?_
    ·
     rintro ⟨r49, bs49⟩ h49
     refine RA.two 7 9 (by kernel_rfl) rfl rfl rfl (OpG.callX K14_go64 rfl .nil (fun _ => (.cons .nil)) (fun w hH hp => join_spec w v.op M (some ⟨b19, 0, none⟩) v.ks.length (hH.kinS (e := 24) (n := v.ks.length) (cp := v.ks.length) (by repeat (first | exact Has.here | apply Has.there)) (fun w' he => AllM.snd ((hH.staysK0 (show Has _ (fx (AllM [v]) (L ++ M) bs) from (by repeat (first | exact Has.here | apply Has.there)))).frag w' he (((hH.stays0 hv).mono (fun w h => AllM.one.2 h)) w' he)))) (by rw [map_at (f := (·.self)) hlM hjM]; omega))) (fun _ _ => (.cons _ (.cons _ (.refl _)))) rfl rfl rfl (OpG.alloc (zs := [.int .i64 0, .int .i64 0, .slice none 0 0, .int .i64 0, .int .i64 0, .slice none 0 0, .bool false]) K14_in135 rfl rfl) (fun _ _ => (.cons _ (.cons _ (.refl _)))) ?_ ?_
     ·
      rintro ⟨r53, bs53⟩ h53
      refine RA.q 8 (by kernel_rfl) rfl rfl rfl (.cons _ (.cons _ (.refl _))) (OpQ.build (cells := #[.int .i64 r49.op, .int .i64 r49.lt, .slice r49.a r49.ks.length r49.c, .int .i64 r53.op, .int .i64 r53.lt, .slice r53.a r53.ks.length r53.c, .bool false]) K14_pl135 rfl (by kernel_rfl)) ?_
      refine RA.f 9 (by kernel_rfl) rfl rfl rfl (OpG.alloc (zs := [.int .i64 0, .int .i64 0, .slice none 0 0, .int .i64 0, .int .i64 0, .slice none 0 0, .bool false]) K14_in135 rfl rfl) (fun _ _ => (.cons _ (.cons _ (.cons _ (.refl _))))) ?_
      rintro b11 _
      refine RA.tail ?_
      refine RT.f 10 (by kernel_rfl) rfl rfl rfl (OpG.storeV (b := b11) K14_sz135 rfl rfl rfl rfl (by repeat (first | exact Upd.here | apply Upd.there))) ?_
      rintro _ _
      refine RT.done (by kernel_rfl) ?_
      refine PX.as (fun _ h => ((((h.take (.cons (.there (.there .here)) (.cons (.there (.there .here)) (.cons (.there .here) (.cons .here (.cons (.there (.there .here)) (.cons (.there (.there .here)) (.cons (.there (.there .here)) .nil)))))))).fxAdd (us := L) (fun w h => h.fst)).perm (.swap _ _ _)).fxAdd (us := M) (fun w h => h.snd.snd)).fxLess (us := [r49, r53]) (fun w h => AllM.two.2 ⟨h.snd r49 List.mem_cons_self, h r53 List.mem_cons_self⟩)) ?_
      exact PX.cut hK2 (b11, r49, r53, _) ⟨(show toE r49 = _ from by rw [h49, map_at (f := (·.by')) hlL hjL]; rfl), (show toE r53 = _ from by rw [h53, map_at (f := (·.self)) hlM hjM]; rfl)⟩ ⟨rfl, rfl, rfl, rfl, rfl, trivial⟩ (HSub.refl _)
     ·
      rintro b11 _
      refine RA.f 7 (by kernel_rfl) rfl rfl rfl (OpG.callX K14_go64 rfl .nil (fun _ => (.cons .nil)) (fun w hH hp => join_spec w v.op M (some ⟨b19, 0, none⟩) v.ks.length (hH.kinS (e := 24) (n := v.ks.length) (cp := v.ks.length) (by repeat (first | exact Has.here | apply Has.there)) (fun w' he => AllM.snd ((hH.staysK0 (show Has _ (fx (AllM [v]) (L ++ M) bs) from (by repeat (first | exact Has.here | apply Has.there)))).frag w' he (((hH.stays0 hv).mono (fun w h => AllM.one.2 h)) w' he)))) (by rw [map_at (f := (·.self)) hlM hjM]; omega))) (fun _ _ => (.cons _ (.cons _ (.cons _ (.refl _))))) ?_
      rintro ⟨r53, bs53⟩ h53
      refine RA.q 8 (by kernel_rfl) rfl rfl rfl (.cons _ (.cons _ (.cons _ (.refl _)))) (OpQ.build (cells := #[.int .i64 r49.op, .int .i64 r49.lt, .slice r49.a r49.ks.length r49.c, .int .i64 r53.op, .int .i64 r53.lt, .slice r53.a r53.ks.length r53.c, .bool false]) K14_pl135 rfl (by kernel_rfl)) ?_
      refine RA.tail ?_
      refine RT.f 10 (by kernel_rfl) rfl rfl rfl (OpG.storeV (b := b11) K14_sz135 rfl rfl rfl rfl (by repeat (first | exact Upd.here | apply Upd.there))) ?_
      rintro _ _
      refine RT.as (fun _ h => h.take (.cons (.there .here) (.cons .here (.cons .here (.cons .here (.cons .here (.cons .here (.cons .here (.cons .here (.cons .here .nil)))))))))) ?_
      refine RT.done (by kernel_rfl) ?_
      refine PX.as (fun _ h => ((((h.take (.cons (.there (.there .here)) (.cons (.there (.there .here)) (.cons (.there .here) (.cons .here (.cons (.there (.there .here)) (.cons (.there (.there .here)) (.cons (.there (.there .here)) .nil)))))))).fxAdd (us := L) (fun w h => h.fst)).perm (.swap _ _ _)).fxAdd (us := M) (fun w h => h.snd.snd)).fxLess (us := [r49, r53]) (fun w h => AllM.two.2 ⟨h.snd r49 List.mem_cons_self, h r53 List.mem_cons_self⟩)) ?_
      exact PX.cut hK2 (b11, r49, r53, _) ⟨(show toE r49 = _ from by rw [h49, map_at (f := (·.by')) hlL hjL]; rfl), (show toE r53 = _ from by rw [h53, map_at (f := (·.self)) hlM hjM]; rfl)⟩ ⟨rfl, rfl, rfl, rfl, rfl, trivial⟩ (HSub.refl _)
    ·
     rintro b11 _
     refine RA.f 3 (by kernel_rfl) rfl rfl rfl (OpG.callX K14_go64 rfl .nil (fun _ => (.cons .nil)) (fun w hH hp => join_spec w v.op L (some ⟨b15, 0, none⟩) v.ks.length (hH.kinS (e := 24) (n := v.ks.length) (cp := v.ks.length) (by repeat (first | exact Has.here | apply Has.there)) (fun w' he => AllM.fst ((hH.staysK0 (show Has _ (fx (AllM [v]) (L ++ M) bs) from (by repeat (first | exact Has.here | apply Has.there)))).frag w' he (((hH.stays0 hv).mono (fun w h => AllM.one.2 h)) w' he)))) (by rw [map_at (f := (·.by')) hlL hjL]; omega))) (fun _ _ => (.cons _ (.cons _ (.refl _)))) ?_
     rintro ⟨r49, bs49⟩ h49
     refine RA.f 7 (by kernel_rfl) rfl rfl rfl (OpG.callX K14_go64 rfl .nil (fun _ => (.cons .nil)) (fun w hH hp => join_spec w v.op M (some ⟨b19, 0, none⟩) v.ks.length (hH.kinS (e := 24) (n := v.ks.length) (cp := v.ks.length) (by repeat (first | exact Has.here | apply Has.there)) (fun w' he => AllM.snd ((hH.staysK0 (show Has _ (fx (AllM [v]) (L ++ M) bs) from (by repeat (first | exact Has.here | apply Has.there)))).frag w' he (((hH.stays0 hv).mono (fun w h => AllM.one.2 h)) w' he)))) (by rw [map_at (f := (·.self)) hlM hjM]; omega))) (fun _ _ => (.cons _ (.cons _ (.cons _ (.refl _))))) ?_
     rintro ⟨r53, bs53⟩ h53
     refine RA.q 8 (by kernel_rfl) rfl rfl rfl (.cons _ (.cons _ (.cons _ (.refl _)))) (OpQ.build (cells := #[.int .i64 r49.op, .int .i64 r49.lt, .slice r49.a r49.ks.length r49.c, .int .i64 r53.op, .int .i64 r53.lt, .slice r53.a r53.ks.length r53.c, .bool false]) K14_pl135 rfl (by kernel_rfl)) ?_
     refine RA.tail ?_
     refine RT.f 10 (by kernel_rfl) rfl rfl rfl (OpG.storeV (b := b11) K14_sz135 rfl rfl rfl rfl (by repeat (first | exact Upd.here | apply Upd.there))) ?_
     rintro _ _
     refine RT.as (fun _ h => h.take (.cons (.there (.there .here)) (.cons .here (.cons .here (.cons .here (.cons .here (.cons .here (.cons .here (.cons .here (.cons .here .nil)))))))))) ?_
     refine RT.done (by kernel_rfl) ?_
     refine PX.as (fun _ h => ((((h.take (.cons (.there (.there .here)) (.cons (.there (.there .here)) (.cons (.there .here) (.cons .here (.cons (.there (.there .here)) (.cons (.there (.there .here)) (.cons (.there (.there .here)) .nil)))))))).fxAdd (us := L) (fun w h => h.fst)).perm (.swap _ _ _)).fxAdd (us := M) (fun w h => h.snd.snd)).fxLess (us := [r49, r53]) (fun w h => AllM.two.2 ⟨h.snd r49 List.mem_cons_self, h r53 List.mem_cons_self⟩)) ?_
     exact PX.cut hK2 (b11, r49, r53, _) ⟨(show toE r49 = _ from by rw [h49, map_at (f := (·.by')) hlL hjL]; rfl), (show toE r53 = _ from by rw [h53, map_at (f := (·.self)) hlM hjM]; rfl)⟩ ⟨rfl, rfl, rfl, rfl, rfl, trivial⟩ (HSub.refl _)
   ·
    dsimp only
    refine CT.seq (CT.seq (CT.region ?_))
    refine Wl.q rfl rfl (OpQ.fieldAddr K14_fa24_0 rfl) ?_
    refine Wl.q rfl rfl (OpQ.loadF (b := b3) K14_sc3 rfl (by repeat (first | exact Has.here | apply Has.there)) (by rfl)) ?_
    refine Wl.nil (PX.then_n (CT.block (CT.seq (CT.region ?_))))
    refine Wl.q rfl rfl (OpQ.eql rfl rfl) ?_
    refine Wl.q rfl rfl (OpQ.assign rfl) ?_
    refine Wl.nil (PX.then_n ?_)
    refine CT.cond rfl (fun h57 => ?_) (fun h57 => ?_)
    ·
     have h57 := of_decide_eq_true h57
     refine CT.region ?_
     refine Wl.q rfl rfl (OpQ.move rfl) ?_
     refine Wl.q rfl rfl (OpQ.gtr rfl rfl) ?_
     refine Wl.q rfl rfl (OpQ.fieldAddr K14_fa135_2 rfl) ?_
     refine Wl.g rfl rfl (OpG.storeRow (a := some ⟨b11, 0, none⟩) K14_sz4 rfl rfl rfl (by repeat (first | exact Upd.here | apply Upd.there)) (by simp)) ?_
     rintro _ _
     refine Wl.nil (PX.block_n (PX.then_n (CT.seq (CT.region ?_))))
     refine Wl.q rfl rfl (OpQ.loadV (b := b11) K14_ag135 K14_sz135 rfl (by repeat (first | exact Has.here | apply Has.there)) (by rfl)) ?_
     refine Wl.g rfl rfl (OpG.storeV (b := b4) K14_sz135 rfl rfl rfl rfl (by repeat (first | exact Upd.here | apply Upd.there))) ?_
     rintro _ _
     refine Wl.nil (PX.then_n (CT.ret ?_))
     refine PX.retC rfl rfl (by repeat (first | exact Has.here | apply Has.there)) K14_ag135 K14_sz135 (by rfl) (fun w' hH => ?_)
     exact ⟨(p, q, bs2), ⟨hp, hq⟩, congrArg (fun z => Ending.returned (drv p q z)) (nl_4 h57), HOk.post (hH.take (.cons .here .nil))⟩
    ·
     have h57 := of_decide_eq_false h57
     refine CT.seq (CT.region ?_)
     refine Wl.q rfl rfl (OpQ.eql rfl rfl) ?_
     refine Wl.q rfl rfl (OpQ.assign rfl) ?_
     refine Wl.nil (PX.then_n ?_)
     refine CT.cond rfl (fun h62 => ?_) (fun h62 => ?_)
     ·
      have h62 := of_decide_eq_true h62
      refine CT.region ?_
      refine Wl.q rfl rfl (OpQ.move rfl) ?_
      refine Wl.q rfl rfl (OpQ.fieldAddr K14_fa24_2 rfl) ?_
      refine Wl.q rfl rfl (OpQ.loadF (b := b3) K14_sc22 rfl (by repeat (first | exact Has.here | apply Has.there)) (by rfl)) ?_
      refine Wl.q rfl rfl (OpQ.len K14_un22 rfl) ?_
      refine Wl.q rfl rfl (OpQ.eql rfl rfl) ?_
      refine Wl.q rfl rfl (OpQ.fieldAddr K14_fa135_2 rfl) ?_
      refine Wl.g rfl rfl (OpG.storeRow (a := some ⟨b11, 0, none⟩) K14_sz4 rfl rfl rfl (by repeat (first | exact Upd.here | apply Upd.there)) (by simp)) ?_
      rintro _ _
      refine Wl.nil (PX.block_n (PX.then_n (CT.seq (CT.region ?_))))
      refine Wl.q rfl rfl (OpQ.loadV (b := b11) K14_ag135 K14_sz135 rfl (by repeat (first | exact Has.here | apply Has.there)) (by rfl)) ?_
      refine Wl.g rfl rfl (OpG.storeV (b := b4) K14_sz135 rfl rfl rfl rfl (by repeat (first | exact Upd.here | apply Upd.there))) ?_
      rintro _ _
      refine Wl.nil (PX.then_n (CT.ret ?_))
      refine PX.retC rfl rfl (by repeat (first | exact Has.here | apply Has.there)) K14_ag135 K14_sz135 (by rfl) (fun w' hH => ?_)
      exact ⟨(p, q, bs2), ⟨hp, hq⟩, congrArg (fun z => Ending.returned (drv p q z)) (nl_6 h57 h62), HOk.post (hH.take (.cons .here .nil))⟩
     ·
      have h62 := of_decide_eq_false h62
      refine CT.seq (CT.region ?_)
      refine Wl.q rfl rfl (OpQ.eql rfl rfl) ?_
      refine Wl.q rfl rfl (OpQ.assign rfl) ?_
      refine Wl.nil (PX.then_n ?_)
      refine CT.cond rfl (fun h70 => ?_) (fun h70 => ?_)
      ·
       have h70 := of_decide_eq_true h70
       refine CT.region ?_
       refine Wl.q rfl rfl (OpQ.move rfl) ?_
       refine Wl.q rfl rfl (OpQ.eql rfl rfl) ?_
       refine Wl.q rfl rfl (OpQ.fieldAddr K14_fa135_2 rfl) ?_
       refine Wl.g rfl rfl (OpG.storeRow (a := some ⟨b11, 0, none⟩) K14_sz4 rfl rfl rfl (by repeat (first | exact Upd.here | apply Upd.there)) (by simp)) ?_
       rintro _ _
       refine Wl.nil (PX.block_n (PX.then_n (CT.seq (CT.region ?_))))
       refine Wl.q rfl rfl (OpQ.loadV (b := b11) K14_ag135 K14_sz135 rfl (by repeat (first | exact Has.here | apply Has.there)) (by rfl)) ?_
       refine Wl.g rfl rfl (OpG.storeV (b := b4) K14_sz135 rfl rfl rfl rfl (by repeat (first | exact Upd.here | apply Upd.there))) ?_
       rintro _ _
       refine Wl.nil (PX.then_n (CT.ret ?_))
       refine PX.retC rfl rfl (by repeat (first | exact Has.here | apply Has.there)) K14_ag135 K14_sz135 (by rfl) (fun w' hH => ?_)
       exact ⟨(p, q, bs2), ⟨hp, hq⟩, congrArg (fun z => Ending.returned (drv p q z)) (nl_8 h57 h62 h70), HOk.post (hH.take (.cons .here .nil))⟩
      ·
       have h70 := of_decide_eq_false h70
       refine CT.skip (PX.block_n (PX.then_n (CT.seq (CT.region ?_))))
       refine Wl.q rfl rfl (OpQ.loadV (b := b11) K14_ag135 K14_sz135 rfl (by repeat (first | exact Has.here | apply Has.there)) (by rfl)) ?_
       refine Wl.g rfl rfl (OpG.storeV (b := b4) K14_sz135 rfl rfl rfl rfl (by repeat (first | exact Upd.here | apply Upd.there))) ?_
       rintro _ _
       refine Wl.nil (PX.then_n (CT.ret ?_))
       refine PX.retC rfl rfl (by repeat (first | exact Has.here | apply Has.there)) K14_ag135 K14_sz135 (by rfl) (fun w' hH => ?_)
       exact ⟨(p, q, bs2), ⟨hp, hq⟩, congrArg (fun z => Ending.returned (drv p q z)) (nl_0 h57 h62 h70), HOk.post (hH.take (.cons .here .nil))⟩

theorem K14_go126 : isGo Tryz.prog 126 = true := by kernel_rfl
set_option maxRecDepth 100000 in
set_option maxHeartbeats 4000000 in
/-- (semigroup/derive.deriver).concat -/
theorem cat_spec (w : World) (n : Bool) (x : Int) (v : Xv) (ih : ∀ k ∈ v.ks, ∀ w : World, szE (toE k) ≤ 400 → wf 6 (toE k) = true → Stays [] w (evm k) → Calls Tryz.prog 83 #[.agg #[.int .i64 x, .bool n], evv k] w (fun e w' => ∃ i : Xv × Xv × List Nat, (toE i.1 = (dv n x (toE k)).by' ∧ toE i.2.1 = (dv n x (toE k)).self) ∧ e = .returned (drv i.1 i.2.1 (dv n x (toE k)).nl) ∧ Post [] [fx (AllM [k]) [i.1, i.2.1] i.2.2] w w')) (hz : szE (toE v) ≤ 400) (hw : wf 6 (toE v) = true) (hv : Stays [] w (evm v)) (ho : v.op = 5) : Calls Tryz.prog 112 #[.agg #[.int .i64 x, .bool n], evv v] w (fun e w' => ∃ i : Xv × Xv × List Nat, (toE i.1 = (dv n x (toE v)).by' ∧ toE i.2.1 = (dv n x (toE v)).self) ∧ e = .returned (drv i.1 i.2.1 (dv n x (toE v)).nl) ∧ Post [] [fx (AllM [v]) [i.1, i.2.1] i.2.2] w w') := by
 have hva : 0 < v.ks.length → v.a.isSome = true := fun h => (evm_iff.1 hv.now).1.isSome (j := 0) (by rw [flat_len evc_len]; omega)
 have hvl := (evm_iff.1 hv.now).2.2
 have hkn := kids_len v
 refine enter (args := [.agg #[.int .i64 x, .bool n], evv v]) [] 87 Tryz.func112 rfl rfl rfl ?_
 refine CT.seq (CT.region ?_)
 refine Wl.g rfl rfl (OpG.box (size := 2) rfl rfl rfl) ?_
 rintro b2 _
 refine Wl.g rfl rfl (OpG.box (size := 3) rfl rfl rfl) ?_
 rintro b3 _
 refine Wl.g rfl rfl (OpG.alloc (zs := [.int .i64 0, .int .i64 0, .slice none 0 0, .int .i64 0, .int .i64 0, .slice none 0 0, .bool false]) K14_in135 rfl rfl) ?_
 rintro b4 _
 refine Wl.nil (PX.then_n (CT.seq (CT.region ?_)))
 refine Wl.q rfl rfl (OpQ.assign rfl) ?_
 refine Wl.nil (PX.then_n (CT.seq (CT.region ?_)))
 refine Wl.q rfl rfl (OpQ.fieldAddr K14_fa24_2 rfl) ?_
 refine Wl.q rfl rfl (OpQ.loadF (b := b3) K14_sc22 rfl (by repeat (first | exact Has.here | apply Has.there)) (by rfl)) ?_
 refine Wl.q rfl rfl (OpQ.len K14_un22 rfl) ?_
 refine Wl.g rfl rfl (OpG.makeN K14_un22 K14_in24 rfl rfl (by decide) rfl rfl rfl (by omega) (by omega)) ?_
 rintro b18 _
 refine Wl.q rfl rfl (OpQ.assign rfl) ?_
 refine Wl.nil (PX.then_n (CT.seq (CT.region ?_)))
 refine Wl.q rfl rfl (OpQ.assign rfl) ?_
 refine Wl.nil (PX.then_n (CT.seq (CT.seq (CT.region ?_))))
 refine Wl.q rfl rfl (OpQ.fieldAddr K14_fa24_2 rfl) ?_
 refine Wl.q rfl rfl (OpQ.loadF (b := b3) K14_sc22 rfl (by repeat (first | exact Has.here | apply Has.there)) (by rfl)) ?_
 refine Wl.q rfl rfl (OpQ.len K14_un22 rfl) ?_
 refine Wl.q rfl rfl (OpQ.move rfl) ?_
 refine Wl.nil (PX.then_n (CT.block ?_))
 refine CT.nilrow 24 3 ?_
 refine CT.as (fun w hH => hH.fx0 (A := AllM [v]) (vs := [] ++ List.replicate v.ks.length ev0) (fun w _ x hx => by rw [(List.mem_replicate.1 (show x ∈ List.replicate v.ks.length ev0 from hx)).2]; exact ev0_m w)) ?_
 refine CT.loop (ι := Nat × Bool × List Xv × Option Addr × Nat × List Xv × List Nat) (fun (k, q, B, aB, cB, M, bs) => CatI n x v.ks B M k q) (fun (k, q, B, aB, cB, M, bs) => [(2, .pointer (some ⟨b2, 0, none⟩)), (3, .pointer (some ⟨b3, 0, none⟩)), (4, .pointer (some ⟨b4, 0, none⟩)), (5, .slice aB B.length cB), (6, .slice (some ⟨b18, 0, none⟩) v.ks.length v.ks.length), (7, .bool q), (20, .slice v.a v.ks.length v.c), (21, .int .i64 ((v.ks.length : Nat) : Int)), (22, .int .i64 ((k : Nat) : Int))]) (fun (k, q, B, aB, cB, M, bs) => [fx (AllM [v]) (B ++ M) bs, .row 24 3 (.slice aB (B).length cB) (B).length ((B).flatMap evc), .row 24 3 (.slice (some ⟨b18, 0, none⟩) v.ks.length v.ks.length) v.ks.length ((M).flatMap evc), .row 135 7 (vb b4) 1 [.int .i64 0, .int .i64 0, .slice none 0 0, .int .i64 0, .int .i64 0, .slice none 0 0, .bool false], .row 24 3 (vb b3) 1 (evc v), .row 137 2 (vb b2) 1 [.int .i64 x, .bool n]]) (fun (k, q, B, aB, cB, M, bs) => v.ks.length - k) (0, true, [], none, 0, List.replicate v.ks.length ev0, []) (CatI.start n x v.ks) ⟨rfl, rfl, rfl, rfl, rfl, rfl, rfl, rfl, rfl, trivial⟩ (.keep rfl (.keep rfl (.keep (row_eq (repl_evc _).symm) (HSub.refl _)))) (fun ⟨k, q, B, aB, cB, M, bs⟩ hC K0 hK0 => ?_)
 dsimp only
 have hk := hC.le
 have hlM := hC.len
 have hlB := hC.blen
 refine CT.seq (CT.region ?_)
 refine Wl.q rfl rfl (OpQ.lss rfl rfl) ?_
 refine Wl.nil (PX.then_n (CT.seq ?_))
 refine CT.cond rfl (fun h23 => ?_) (fun h23 => ?_)
 ·
  have h23 := of_decide_eq_true h23
  refine CT.skip (PX.then_n (CT.seq (CT.block (CT.seq (CT.region ?_)))))
  refine Wl.q rfl rfl (OpQ.move rfl) ?_
  have hkl : k < v.ks.length := by omega
  refine Wl.q rfl rfl (OpQ.index K14_un22 K14_sz24 rfl rfl (by omega) (hva (by omega))) ?_
  refine Wl.q rfl rfl (OpQ.loadAggG (cs := evc (v.ks.getD k ev0)) K14_ag24 K14_sz24 rfl (fun w hH => (evm_iff.1 (hH.use hv)).1) (flat_cells evc_len v.ks ev0 (by omega))) ?_
  refine Wl.know 26 (v' := evv (v.ks.getD k ev0)) rfl rfl ?_
  refine Wl.g rfl rfl (OpG.alloc (zs := [.int .i64 0, .int .i64 0, .slice none 0 0]) K14_in24 rfl rfl) ?_
  rintro b9 _
  refine Wl.q rfl rfl (OpQ.assign rfl) ?_
  refine Wl.g rfl rfl (OpG.storeV (b := b9) K14_sz24 rfl rfl rfl rfl (by repeat (first | exact Upd.here | apply Upd.there))) ?_
  rintro _ _
  refine Wl.nil (PX.then_n (CT.seq (CT.seq (CT.region ?_))))
  refine Wl.q rfl rfl (OpQ.move rfl) ?_
  refine Wl.q rfl rfl (OpQ.not rfl) ?_
  refine Wl.nil (PX.then_n ?_)
  refine CT.cond rfl (fun h28 => ?_) (fun h28 => ?_)
  ·
   refine CT.seq (CT.region ?_)
   refine Wl.q rfl rfl (OpQ.move rfl) ?_
   refine Wl.q rfl rfl (OpQ.move rfl) ?_
   refine Wl.q rfl rfl (OpQ.loadV (b := b2) K14_ag137 K14_sz137 rfl (by repeat (first | exact Has.here | apply Has.there)) (by rfl)) ?_
   refine Wl.know 31 (v' := .agg #[.int .i64 x, .bool n]) rfl rfl ?_
   refine Wl.q rfl rfl (OpQ.loadV (b := b9) K14_ag24 K14_sz24 rfl (by repeat (first | exact Has.here | apply Has.there)) (by rfl)) ?_
   refine Wl.know 32 (v' := evv (v.ks.getD k ev0)) rfl rfl ?_
   refine Wl.g rfl rfl (OpG.callX K14_go126 rfl .nil (fun _ => (.cons .nil)) (fun w hH hp => dsimp_spec w n x (v.ks.getD k ev0) (by have := kid_sz (kid_mem hkl); omega) (wf_kid hw _ (kid_mem hkl)) ((hH.stays0 hv).mono (fun w h => (evm_iff.1 h).2.1 _ (kid_mem hkl))))) ?_
   rintro ⟨r33, bs33⟩ h33
   refine Wl.q rfl rfl (OpQ.index K14_un22 K14_sz24 rfl rfl (by omega) rfl) ?_
   refine Wl.g rfl rfl (OpG.storeAggRow (xs := (M).flatMap evc) (j := k * 3) (cs := evc r33) K14_sz24 rfl rfl rfl (by rw [evcs_len, evc_len]; omega) (by rw [evc_len]; decide) (by repeat (first | exact Upd.here | apply Upd.there))) ?_
   rintro _ _
   refine Wl.nil (PX.then_n (CT.exit (PX.then_x (PX.block_x (PX.then_n (CT.region ?_))))))
   refine Wl.q rfl rfl (OpQ.add rfl rfl (by omega)) ?_
   refine Wl.q rfl rfl (OpQ.move rfl) ?_
   refine Wl.nil ?_
   refine PX.as (fun _ h => ((h.take (.cons .here (.cons (.there .here) (.cons (.there .here) (.cons (.there .here) (.cons (.there .here) (.cons (.there .here) (.cons (.there .here) .nil)))))))).fxAddA (us := [(v.ks.getD k ev0)]) (fun w h => AllM.one.2 ((evm_iff.1 (AllM.one.1 h)).2.1 _ (kid_mem hkl)))).fxLess (us := B ++ M.set k r33) (fun w h => AllM.app.2 ⟨h.snd.fst, set_m2 h.snd.snd (AllM.one.1 h.fst)⟩)) ?_
   exact PX.loop hK0 (k + 1, false, B, aB, cB, M.set k r33, _) (hC.stop hkl (by simpa using h28) h33) (show v.ks.length - (k + 1) < v.ks.length - k by omega) ⟨rfl, rfl, rfl, rfl, rfl, (lkV rfl (congrArg Value.bool (show q = false by simpa using h28))), rfl, rfl, rfl, trivial⟩ (.keep rfl (.keep rfl (.keep (row_eq (evcs_set (by omega) _).symm) (HSub.refl _))))
  ·
   refine CT.skip (PX.then_n (CT.seq (CT.region ?_)))
   refine Wl.q rfl rfl (OpQ.loadV (b := b2) K14_ag137 K14_sz137 rfl (by repeat (first | exact Has.here | apply Has.there)) (by rfl)) ?_
   refine Wl.know 35 (v' := .agg #[.int .i64 x, .bool n]) rfl rfl ?_
   refine Wl.q rfl rfl (OpQ.loadV (b := b9) K14_ag24 K14_sz24 rfl (by repeat (first | exact Has.here | apply Has.there)) (by rfl)) ?_
   refine Wl.know 36 (v' := evv (v.ks.getD k ev0)) rfl rfl ?_
   refine Wl.g rfl rfl (OpG.callX K14_go83 rfl .nil (fun _ => (.cons .nil)) (fun w hH hp => ih _ (kid_mem hkl) w (by have := kid_sz (kid_mem hkl); omega) (wf_kid hw _ (kid_mem hkl)) ((hH.stays0 hv).mono (fun w h => (evm_iff.1 h).2.1 _ (kid_mem hkl))))) ?_
   rintro ⟨a37, c37, bs37⟩ ⟨h37b, h37s⟩
   refine Wl.g rfl rfl (OpG.alloc (zs := [.int .i64 0, .int .i64 0, .slice none 0 0, .int .i64 0, .int .i64 0, .slice none 0 0, .bool false]) K14_in135 rfl rfl) ?_
   rintro b10 _
   refine Wl.g rfl rfl (OpG.storeV (b := b10) K14_sz135 rfl rfl rfl rfl (by repeat (first | exact Upd.here | apply Upd.there))) ?_
   rintro _ _
   refine Wl.nil (PX.then_n ?_)
   refine CT.draw' (Hc := [.row 135 7 (vb b10) 1 (drl a37 c37 (dv n x (toE (v.ks.getD k ev0))).nl)]) 15 K14_mixed ?_
   refine RA.q 0 (by kernel_rfl) rfl rfl rfl (.cons_cons _ (.cons _ (.cons _ (.cons _ (.cons _ (.cons _ (.cons _ (.cons _ (.cons _ (.refl _)))))))))) (OpQ.move rfl) ?_
   refine RA.q 1 (by kernel_rfl) rfl rfl rfl (.cons_cons _ (.cons _ (.cons _ (.cons _ (.cons _ (.cons _ (.cons _ (.cons _ (.cons _ (.refl _)))))))))) (OpQ.move rfl) ?_
   refine RA.q 2 (by kernel_rfl) rfl rfl rfl (.cons_cons _ (.cons _ (.cons _ (.cons _ (.cons _ (.cons _ (.cons _ (.cons _ (.cons _ (.refl _)))))))))) (OpQ.move rfl) ?_
   refine RA.q 3 (by kernel_rfl) rfl rfl rfl (.cons_cons _ (.cons _ (.cons _ (.cons _ (.cons _ (.cons _ (.cons _ (.cons _ (.cons _ (.refl _)))))))))) (OpQ.fieldAddr K14_fa135_0 rfl) ?_
   refine RA.q 4 (by kernel_rfl) rfl rfl rfl (.cons_cons _ (.cons _ (.cons _ (.cons _ (.cons _ (.cons _ (.cons _ (.cons _ (.cons _ (.refl _)))))))))) (OpQ.loadFA (b := b10) (cs := evc a37) K14_ag24 K14_sz24 rfl (by repeat (first | exact Has.here | apply Has.there)) (fun _ _ h => drl_by h)) ?_
   refine RA.know 42 (v' := evv a37) rfl rfl ?_
   refine RA.q 7 (by kernel_rfl) rfl rfl rfl (.cons_cons _ (.cons _ (.cons _ (.cons _ (.cons _ (.cons _ (.cons _ (.cons _ (.cons _ (.refl _)))))))))) (OpQ.fieldAddr K14_fa135_1 rfl) ?_
   refine RA.q 8 (by kernel_rfl) rfl rfl rfl (.cons_cons _ (.cons _ (.cons _ (.cons _ (.cons _ (.cons _ (.cons _ (.cons _ (.cons _ (.refl _)))))))))) (OpQ.loadFA (b := b10) (cs := evc c37) K14_ag24 K14_sz24 rfl (by repeat (first | exact Has.here | apply Has.there)) (fun _ _ h => drl_self h)) ?_
   refine RA.know 46 (v' := evv c37) rfl rfl ?_
   refine RA.q 9 (by kernel_rfl) rfl rfl rfl (.cons_cons _ (.cons _ (.cons _ (.cons _ (.cons _ (.cons _ (.cons _ (.cons _ (.cons _ (.refl _)))))))))) (OpQ.fieldAddr K14_fa135_2 rfl) ?_
   refine RA.q 10 (by kernel_rfl) rfl rfl rfl (.cons_cons _ (.cons _ (.cons _ (.cons _ (.cons _ (.cons _ (.cons _ (.cons _ (.cons _ (.refl _)))))))))) (OpQ.loadF (b := b10) K14_sc4 rfl (by repeat (first | exact Has.here | apply Has.there)) (by rfl)) ?_
   refine RA.f 5 (by kernel_rfl) rfl rfl rfl (OpG.litS1 K14_un22 K14_in24 rfl (by decide) rfl) (fun _ _ => (.cons _ (.cons_cons _ (.cons _ (.cons _ (.cons _ (.cons _ (.cons _ (.cons _ (.cons _ (.cons _ (.refl _)))))))))))) ?_
   rintro b43 _
   refine RA.f 6 (by kernel_rfl) rfl rfl rfl (OpG.append K14_un22 K14_in24 (by rfl) (by decide) rfl rfl (p := 5) rfl (fun w hH => hH.rd (show Has _ (.row 24 3 (.slice (some ⟨b43, 0, none⟩) 1 1) 1 ([a37].flatMap evc)) from (by repeat (first | exact Has.here | apply Has.there)))) ⟨(show ([a37].flatMap evc).length = 1 * 3 from evcs_len _), evcs_one [a37], by omega, by omega⟩ (nm := (B ++ [a37]).length) (by rw [List.length_append]; rfl) (all := (B ++ [a37]).flatMap evc) (by rw [List.flatMap_append])) (fun _ _ => (.cons _ (.cons_cons _ (.cons _ (.cons _ (.cons _ (.cons _ (.cons _ (.cons _ (.cons _ (.cons _ (.refl _)))))))))))) ?_
   rintro ⟨a44, c44⟩ h44
   refine RA.q 11 (by kernel_rfl) rfl rfl rfl (.cons _ (.cons_cons _ (.cons _ (.cons _ (.cons _ (.cons _ (.cons _ (.cons _ (.cons _ (.cons _ (.refl _))))))))))) (OpQ.assign rfl) ?_
   refine RA.q 12 (by kernel_rfl) rfl rfl rfl (.cons _ (.cons_cons _ (.cons _ (.cons _ (.cons _ (.cons _ (.cons _ (.cons _ (.cons _ (.cons _ (.refl _))))))))))) (OpQ.index K14_un22 K14_sz24 rfl rfl (by omega) rfl) ?_
   refine RA.f 13 (by kernel_rfl) rfl rfl rfl (OpG.storeAggRow (xs := (M).flatMap evc) (j := k * 3) (cs := evc c37) K14_sz24 rfl rfl rfl (by rw [evcs_len, evc_len]; omega) (by rw [evc_len]; decide) (by repeat (first | exact Upd.here | apply Upd.there))) (fun _ _ => (.cons _ (.cons_cons _ (.cons _ (.cons _ (.cons _ (.cons _ (.cons _ (.cons _ (.cons _ (.cons _ (.refl _)))))))))))) ?_
   rintro _ _
   refine RA.q 14 (by kernel_rfl) rfl rfl rfl (.cons _ (.cons_cons _ (.cons _ (.cons _ (.cons _ (.cons _ (.cons _ (.cons _ (.cons _ (.cons _ (.refl _))))))))))) (OpQ.assign rfl) ?_
   refine RA.tail ?_
   refine RT.done (by kernel_rfl) ?_
   refine PX.block_n (PX.then_n (CT.region ?_))
   refine Wl.q rfl rfl (OpQ.add rfl rfl (by omega)) ?_
   refine Wl.q rfl rfl (OpQ.move rfl) ?_
   refine Wl.nil ?_
   refine PX.as (fun _ h => ((h.take (.cons (.there (.there .here)) (.cons (.there (.there (.there .here))) (.cons (.there (.there (.there .here))) (.cons (.there (.there (.there .here))) (.cons (.there (.there (.there .here))) (.cons (.there (.there (.there .here))) (.cons (.there (.there (.there .here))) .nil)))))))).fxAddA (us := [(v.ks.getD k ev0)]) (fun w h => AllM.one.2 ((evm_iff.1 (AllM.one.1 h)).2.1 _ (kid_mem hkl)))).fxLess (us := (B ++ [a37]) ++ M.set k c37) (fun w h => AllM.app.2 ⟨AllM.app.2 ⟨h.snd.fst, AllM.one.2 (AllM.two.1 h.fst).1⟩, set_m2 h.snd.snd (AllM.two.1 h.fst).2⟩)) ?_
   exact PX.loop hK0 (k + 1, (dv n x (toE (v.ks.getD k ev0))).nl, B ++ [a37], a44, c44, M.set k c37, _) (hC.go hkl (by simpa using h28) h37b h37s) (show v.ks.length - (k + 1) < v.ks.length - k by omega) ⟨rfl, rfl, rfl, rfl, rfl, rfl, rfl, rfl, rfl, trivial⟩ (.keep rfl (.keep rfl (.keep (row_eq (evcs_set (by omega) _).symm) (HSub.refl _))))
 ·
  have h23 := of_decide_eq_false h23
  refine CT.exit (PX.then_x (PX.then_x (PX.block_x (PX.then_n (CT.seq (CT.region ?_))))))
  obtain rfl : k = v.ks.length := by omega
  obtain ⟨hzB, hzM⟩ := cat_sz hw hz hC
  have hlB4 : B.length ≤ 400 := by omega
  refine Wl.q rfl rfl (OpQ.move rfl) ?_
  refine Wl.q rfl rfl (OpQ.len K14_un22 rfl) ?_
  refine Wl.g rfl rfl (OpG.makeN K14_un22 K14_in24 rfl rfl (by decide) rfl rfl rfl (by omega) (by omega)) ?_
  rintro b53 _
  refine Wl.q rfl rfl (OpQ.assign rfl) ?_
  refine Wl.nil (PX.then_n (CT.seq (CT.seq (CT.region ?_))))
  refine Wl.fact (p := 0 < B.length → aB.isSome = true) (fun w hH h => (hH.rd (show Has _ (.row 24 3 (.slice aB (B).length cB) (B).length ((B).flatMap evc)) from (by repeat (first | exact Has.here | apply Has.there)))).isSome (j := 0) (by rw [flat_len evc_len]; omega)) (fun haB => ?_)
  refine Wl.q rfl rfl (OpQ.move rfl) ?_
  refine Wl.q rfl rfl (OpQ.len K14_un22 rfl) ?_
  refine Wl.q rfl rfl (OpQ.move rfl) ?_
  refine Wl.nil (PX.then_n (CT.block ?_))
  refine CT.as (fun w hH => (hH.take (.cons (.there .here) (.cons .here (.cons .here (.cons .here (.cons .here (.cons .here (.cons .here .nil)))))))).fxLess (us := List.replicate B.length ev0 ++ (B ++ M)) (fun w h => AllM.app.2 ⟨fun x hx => by rw [(List.mem_replicate.1 hx).2]; exact ev0_m w, h⟩)) ?_
  refine CT.loop (ι := Nat × List Xv × List Nat) (fun (i, Q, bs2) => i ≤ B.length ∧ ParI M B Q i) (fun (i, Q, bs2) => [(2, .pointer (some ⟨b2, 0, none⟩)), (3, .pointer (some ⟨b3, 0, none⟩)), (4, .pointer (some ⟨b4, 0, none⟩)), (5, .slice aB B.length cB), (6, .slice (some ⟨b18, 0, none⟩) v.ks.length v.ks.length), (7, .bool q), (11, .slice (some ⟨b53, 0, none⟩) B.length B.length), (54, .slice aB B.length cB), (55, .int .i64 ((B.length : Nat) : Int)), (56, .int .i64 ((i : Nat) : Int))]) (fun (i, Q, bs2) => [fx (AllM [v]) (Q ++ (B ++ M)) bs2, .row 24 3 (.slice (some ⟨b53, 0, none⟩) B.length B.length) B.length ((Q).flatMap evc), .row 24 3 (.slice aB (B).length cB) (B).length ((B).flatMap evc), .row 24 3 (.slice (some ⟨b18, 0, none⟩) v.ks.length v.ks.length) v.ks.length ((M).flatMap evc), .row 135 7 (vb b4) 1 [.int .i64 0, .int .i64 0, .slice none 0 0, .int .i64 0, .int .i64 0, .slice none 0 0, .bool false], .row 24 3 (vb b3) 1 (evc v), .row 137 2 (vb b2) 1 [.int .i64 x, .bool n]]) (fun (i, Q, bs2) => B.length - i) (0, List.replicate B.length ev0, bs) ⟨Nat.zero_le _, ParI.start M B⟩ ⟨rfl, rfl, rfl, rfl, rfl, rfl, rfl, rfl, rfl, rfl, trivial⟩ (.keep rfl (.keep (row_eq (repl_evc _).symm) (HSub.refl _))) (fun ⟨i, Q, bs2⟩ ⟨hi, hQ⟩ K1 hK1 => ?_)
  dsimp only
  have hlQ := hQ.len
  refine CT.seq (CT.region ?_)
  refine Wl.q rfl rfl (OpQ.lss rfl rfl) ?_
  refine Wl.nil (PX.then_n (CT.seq ?_))
  refine CT.cond rfl (fun h57 => ?_) (fun h57 => ?_)
  ·
   have h57 := of_decide_eq_true h57
   refine CT.skip (PX.then_n (CT.seq (CT.block (CT.seq (CT.region ?_)))))
   refine Wl.q rfl rfl (OpQ.move rfl) ?_
   have hil : i < B.length := by omega
   refine Wl.q rfl rfl (OpQ.index K14_un22 K14_sz24 rfl rfl (by omega) (haB (by omega))) ?_
   refine Wl.q rfl rfl (OpQ.loadAggG (cs := evc (B.getD i ev0)) K14_ag24 K14_sz24 rfl (fun w hH => hH.rd (show Has _ (.row 24 3 (.slice aB (B).length cB) (B).length ((B).flatMap evc)) from (by repeat (first | exact Has.here | apply Has.there)))) (flat_cells evc_len B ev0 hil)) ?_
   refine Wl.know 60 (v' := evv (B.getD i ev0)) rfl rfl ?_
   refine Wl.g rfl rfl (OpG.alloc (zs := [.int .i64 0, .int .i64 0, .slice none 0 0]) K14_in24 rfl rfl) ?_
   rintro b13 _
   refine Wl.q rfl rfl (OpQ.assign rfl) ?_
   refine Wl.g rfl rfl (OpG.storeV (b := b13) K14_sz24 rfl rfl rfl rfl (by repeat (first | exact Upd.here | apply Upd.there))) ?_
   rintro _ _
   refine Wl.nil (PX.then_n (CT.seq (CT.seq (CT.region ?_))))
   refine Wl.q rfl rfl (OpQ.fieldAddr K14_fa24_0 rfl) ?_
   refine Wl.q rfl rfl (OpQ.loadF (b := b13) K14_sc3 rfl (by repeat (first | exact Has.here | apply Has.there)) (by rfl)) ?_
   refine Wl.q rfl rfl (OpQ.eql rfl rfl) ?_
   refine Wl.nil (PX.then_n ?_)
   refine CT.cond rfl (fun h63 => ?_) (fun h63 => ?_)
   ·
    have h63 := of_decide_eq_true h63
    refine CT.seq (CT.region ?_)
    refine Wl.q rfl rfl (OpQ.move rfl) ?_
    refine Wl.q rfl rfl (OpQ.move rfl) ?_
    refine Wl.q rfl rfl (OpQ.loadV (b := b13) K14_ag24 K14_sz24 rfl (by repeat (first | exact Has.here | apply Has.there)) (by rfl)) ?_
    refine Wl.know 66 (v' := evv (B.getD i ev0)) rfl rfl ?_
    refine Wl.q rfl rfl (OpQ.index K14_un22 K14_sz24 rfl rfl (by omega) rfl) ?_
    refine Wl.g rfl rfl (OpG.storeAggRow (xs := (Q).flatMap evc) (j := i * 3) (cs := evc (B.getD i ev0)) K14_sz24 rfl rfl rfl (by rw [evcs_len, evc_len]; omega) (by rw [evc_len]; decide) (by repeat (first | exact Upd.here | apply Upd.there))) ?_
    rintro _ _
    refine Wl.nil (PX.then_n (CT.exit (PX.then_x (PX.block_x (PX.then_n (CT.region ?_))))))
    refine Wl.q rfl rfl (OpQ.add rfl rfl (by omega)) ?_
    refine Wl.q rfl rfl (OpQ.move rfl) ?_
    refine Wl.nil ?_
    refine PX.as (fun _ h => (h.take (.cons (.there .here) (.cons (.there .here) (.cons (.there .here) (.cons (.there .here) (.cons (.there .here) (.cons (.there .here) (.cons (.there .here) .nil)))))))).fxLess (us := Q.set i (B.getD i ev0) ++ (B ++ M)) (fun w h => AllM.app.2 ⟨set_m2 h.fst (h.snd.fst.at hil), h.snd⟩)) ?_
    exact PX.loop hK1 (i + 1, Q.set i (B.getD i ev0), _) ⟨by omega, hQ.one hil h63⟩ (show B.length - (i + 1) < B.length - i by omega) ⟨rfl, rfl, rfl, rfl, rfl, rfl, rfl, rfl, rfl, rfl, trivial⟩ (.keep rfl (.keep (row_eq (evcs_set (by omega) _).symm) (HSub.refl _)))
   ·
    have h63 := of_decide_eq_false h63
    refine CT.skip (PX.then_n (CT.seq ?_))
    refine CT.draw 8 K14_mixed ?_
    refine RA.q 0 (by kernel_rfl) rfl rfl rfl (.refl _) (OpQ.loadV (b := b13) K14_ag24 K14_sz24 rfl (by repeat (first | exact Has.here | apply Has.there)) (by rfl)) ?_
    refine RA.know 68 (v' := evv (B.getD i ev0)) rfl rfl ?_
    refine RA.q 2 (by kernel_rfl) rfl rfl rfl (.refl _) (OpQ.move rfl) ?_
    refine RA.q 3 (by kernel_rfl) rfl rfl rfl (.refl _) (OpQ.move rfl) ?_
    refine RA.q 4 (by kernel_rfl) rfl rfl rfl (.refl _) (OpQ.add rfl rfl (by omega)) ?_
    refine RA.know 72 (v' := .int .i64 (((i + 1) : Nat) : Int)) rfl rfl ?_
    refine RA.q 5 (by kernel_rfl) rfl rfl rfl (.refl _) (OpQ.sliceFromN (k := i + 1) K14_un22 K14_sz24 rfl rfl rfl (by omega)) ?_
    refine RA.f 1 (by kernel_rfl) rfl rfl rfl (OpG.litS1 K14_un22 K14_in24 rfl (by decide) rfl) (fun _ _ => (.cons _ (.refl _))) ?_
    rintro b69 _
    refine RA.f 6 (by kernel_rfl) rfl rfl rfl (OpG.append K14_un22 K14_in24 (by rfl) (by decide) rfl rfl (p := 0) rfl (fun w hH => Rd.fr (k := i + 1) (cp := v.ks.length) (hH.rd (show Has _ (.row 24 3 (.slice (some ⟨b18, 0, none⟩) v.ks.length v.ks.length) v.ks.length ((M).flatMap evc)) from (by repeat (first | exact Has.here | apply Has.there)))) (by rw [evcs_len]; omega)) ⟨by rw [evcs_drop, evcs_len, List.length_drop, hlM], (fun u hu => by rw [evcs_drop] at hu; exact evcs_one _ u hu), by omega, by omega⟩ (nm := ((B.getD i ev0) :: M.drop (i + 1)).length) (by rw [List.length_cons, List.length_drop]; omega) (all := ((B.getD i ev0) :: M.drop (i + 1)).flatMap evc) (by rw [evcs_drop]; rfl)) (fun _ _ => (.cons _ (.refl _))) ?_
    rintro ⟨a74, c74⟩ h74
    refine RA.q 7 (by kernel_rfl) rfl rfl rfl (.cons _ (.refl _)) (OpQ.assign rfl) ?_
    refine RA.tail ?_
    refine RT.done (by kernel_rfl) ?_
    refine PX.then_n (CT.region ?_)
    refine Wl.q rfl rfl (OpQ.move rfl) ?_
    refine Wl.q rfl rfl (OpQ.move rfl) ?_
    refine Wl.q rfl rfl (OpQ.move rfl) ?_
    refine Wl.g rfl rfl (OpG.callX K14_go64 rfl .nil (fun _ => (.cons .nil)) (fun w hH hp => join_spec w 5 ((B.getD i ev0) :: M.drop (i + 1)) a74 c74 (hH.kinS (e := 24) (n := ((B.getD i ev0) :: M.drop (i + 1)).length) (cp := c74) (by repeat (first | exact Has.here | apply Has.there)) (fun w' he => (fun h => AllM.cons ((AllM.fst (AllM.snd h)).at hil) ((AllM.snd (AllM.snd h)).drop _)) ((hH.staysK0 (show Has _ (fx (AllM [v]) (Q ++ (B ++ M)) bs2) from (by repeat (first | exact Has.here | apply Has.there)))).frag w' he (((hH.stays0 hv).mono (fun w h => AllM.one.2 h)) w' he)))) (tail_sz hil hzB hzM))) ?_
    rintro ⟨r78, bs78⟩ h78
    refine Wl.q rfl rfl (OpQ.index K14_un22 K14_sz24 rfl rfl (by omega) rfl) ?_
    refine Wl.g rfl rfl (OpG.storeAggRow (xs := (Q).flatMap evc) (j := i * 3) (cs := evc r78) K14_sz24 rfl rfl rfl (by rw [evcs_len, evc_len]; omega) (by rw [evc_len]; decide) (by repeat (first | exact Upd.here | apply Upd.there))) ?_
    rintro _ _
    refine Wl.nil (PX.block_n (PX.then_n (CT.region ?_)))
    refine Wl.q rfl rfl (OpQ.add rfl rfl (by omega)) ?_
    refine Wl.q rfl rfl (OpQ.move rfl) ?_
    refine Wl.nil ?_
    refine PX.as (fun _ h => ((h.take (.cons .here (.cons (.there (.there .here)) (.cons (.there (.there .here)) (.cons (.there (.there .here)) (.cons (.there (.there .here)) (.cons (.there (.there .here)) (.cons (.there (.there .here)) (.cons (.there (.there .here)) .nil))))))))).fxAdd (us := (B.getD i ev0) :: M.drop (i + 1)) (fun w h => AllM.cons (h.snd.fst.at hil) (h.snd.snd.drop _))).fxLess (us := Q.set i r78 ++ (B ++ M)) (fun w h => AllM.app.2 ⟨set_m2 h.snd.fst (AllM.one.1 h.fst), h.snd.snd⟩)) ?_
    exact PX.loop hK1 (i + 1, Q.set i r78, _) ⟨by omega, hQ.two hil h63 h78⟩ (show B.length - (i + 1) < B.length - i by omega) ⟨rfl, rfl, rfl, rfl, rfl, rfl, rfl, rfl, rfl, rfl, trivial⟩ (.keep rfl (.keep (row_eq (evcs_set (by omega) _).symm) (HSub.refl _)))
  ·
   have h57 := of_decide_eq_false h57
   refine CT.exit (PX.then_x (PX.then_x (PX.block_x (PX.then_n (CT.seq (CT.region ?_))))))
   obtain rfl : i = B.length := by omega
   refine Wl.q rfl rfl (OpQ.move rfl) ?_
   refine Wl.know 81 (v' := .slice (some ⟨b53, 0, none⟩) Q.length B.length) rfl (by rw [hlQ]) ?_
   refine Wl.g rfl rfl (OpG.callX K14_go64 rfl .nil (fun _ => (.cons .nil)) (fun w hH hp => join_spec w 4 Q (some ⟨b53, 0, none⟩) B.length (hH.kinS (e := 24) (n := B.length) (cp := B.length) (by repeat (first | exact Has.here | apply Has.there)) (fun w' he => AllM.fst ((hH.staysK0 (show Has _ (fx (AllM [v]) (Q ++ (B ++ M)) bs2) from (by repeat (first | exact Has.here | apply Has.there)))).frag w' he (((hH.stays0 hv).mono (fun w h => AllM.one.2 h)) w' he)))) (parts_sz hQ hlB4 hzB hzM))) ?_
   rintro ⟨r82, bs82⟩ h82
   refine Wl.q rfl rfl (OpQ.move rfl) ?_
   refine Wl.know 83 (v' := .slice (some ⟨b18, 0, none⟩) M.length v.ks.length) rfl (by rw [hlM]) ?_
   refine Wl.g rfl rfl (OpG.callX K14_go64 rfl .nil (fun _ => (.cons .nil)) (fun w hH hp => join_spec w 5 M (some ⟨b18, 0, none⟩) v.ks.length (hH.kinS (e := 24) (n := v.ks.length) (cp := v.ks.length) (by repeat (first | exact Has.here | apply Has.there)) (fun w' he => (fun h => AllM.snd (AllM.snd h)) ((hH.staysK0 (show Has _ (fx (AllM [v]) (Q ++ (B ++ M)) bs2) from (by repeat (first | exact Has.here | apply Has.there)))).frag w' he (((hH.stays0 hv).mono (fun w h => AllM.one.2 h)) w' he)))) (by omega))) ?_
   rintro ⟨r84, bs84⟩ h84
   refine Wl.q rfl rfl (OpQ.move rfl) ?_
   refine Wl.q rfl rfl (OpQ.build (cells := #[.int .i64 r82.op, .int .i64 r82.lt, .slice r82.a r82.ks.length r82.c, .int .i64 r84.op, .int .i64 r84.lt, .slice r84.a r84.ks.length r84.c, .bool q]) K14_pl135 rfl (by kernel_rfl)) ?_
   refine Wl.g rfl rfl (OpG.storeV (b := b4) K14_sz135 rfl rfl rfl rfl (by repeat (first | exact Upd.here | apply Upd.there))) ?_
   rintro _ _
   refine Wl.nil (PX.then_n (CT.ret ?_))
   refine PX.retC rfl rfl (by repeat (first | exact Has.here | apply Has.there)) K14_ag135 K14_sz135 (by rfl) (fun w' hH => ?_)
   have hby := hC.by'
   rw [List.take_length] at hby
   have hnl := hC.nl
   rw [List.take_length] at hnl
   rw [dv_5 ho]
   refine ⟨(r82, r84, _), ⟨(show toE r82 = _ from by rw [h82, hQ.done, hby, hC.selfs]), (show toE r84 = _ from by rw [h84, hC.selfs])⟩, congrArg (fun z => Ending.returned (drv r82 r84 z)) hnl, HOk.post ((((((hH.take (.cons (.there .here) (.cons (.there .here) (.cons .here .nil)))).fxAdd (us := Q) (fun w h => h.fst)).perm (.swap _ _ _)).fxAdd (us := M) (fun w h => h.snd.snd.snd)).fxLess (us := [r82, r84]) (fun w h => AllM.two.2 ⟨h.snd r82 List.mem_cons_self, h r84 List.mem_cons_self⟩)))⟩

end Go.Proofs.YtmggcdegekbncabGreatDoor

