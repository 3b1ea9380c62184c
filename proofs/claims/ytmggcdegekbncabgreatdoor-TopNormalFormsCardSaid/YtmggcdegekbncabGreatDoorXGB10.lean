/-
  What functions of the program compute, each by its walk. Conditions: those that each theorem names.
-/
import Derived.Test.YtmggcdegekbncabGreatDoorEng1
import Derived.Test.YtmggcdegekbncabGreatDoorXGB9
import Derived.Test.YtmggcdegekbncabGreatDoorXF
set_option linter.unusedSimpArgs false
namespace Go.Proofs.YtmggcdegekbncabGreatDoor
open Go Go.Eng Go.Am Go.Ex
open Go.Tp (zi)
open Go.Tl (mayL Wd okW okB bo)
open Go.Ex.simp (simpL)
open Go.Ex.dv (dvL dvC)
open Go.Ex.hasU (hasAny hasAll)
open Go.Ex.wf (wfL)
open Go.Ex.szE (szL)
open Go.Ex.dpE (dpL)
open Go.Ex.cmpE (cmpL)
open Go.Ex.fmtE (fmtK fmtR)
theorem K10_un22 : Tryz.prog.underlying 22 = some (.slice 24) := by kernel_rfl
theorem K10_sz24 : sizeB Tryz.prog 24 = some 3 := by kernel_rfl
theorem K10_ag24 : isAggB Tryz.prog 24 = some true := by kernel_rfl
theorem K10_in24 : (Tryz.prog.info? 24).map (fun i => (i.zero, i.size, i.bytes)) = some (some (.agg #[.int .i64 0, .int .i64 0, .slice none 0 0]), 3, 40) := by kernel_rfl
theorem K10_fa24_0 : fieldB Tryz.prog 24 0 = some 0 := by kernel_rfl
theorem K10_sc3 : scalarB Tryz.prog 3 = some true := by kernel_rfl
theorem K10_fa24_2 : fieldB Tryz.prog 24 2 = some 2 := by kernel_rfl
theorem K10_sc22 : scalarB Tryz.prog 22 = some true := by kernel_rfl
set_option maxRecDepth 100000 in
/-- semigroup/expr.flatten -/
theorem flatten_spec (w : World) (ks : List Xv) (ka : Option Addr) (kc : Nat) (hk : Stays [] w (kin ka ks)) (o : Int) (hs : szE.szL (ks.map toE) ≤ 1000000000) : Calls Tryz.prog 117 #[.int .i64 o, .slice ka ks.length kc] w (fun e w' => New 24 3 w w' e (flx o ks).length ((flx o ks).flatMap evc)) := by
 have hka : 0 < ks.length → ka.isSome = true := fun h => hk.now.1.isSome (j := 0) (by rw [flat_len evc_len]; omega)
 have hkn := hk.now.2.2
 refine enter (args := [.int .i64 o, .slice ka ks.length kc]) [] 28 Tryz.func117 rfl rfl rfl ?_
 refine CT.seq (CT.region ?_)
 refine Wl.q rfl rfl (OpQ.assign rfl) ?_
 refine Wl.nil (PX.then_n (CT.seq (CT.region ?_)))
 refine Wl.q rfl rfl (OpQ.assign rfl) ?_
 refine Wl.nil (PX.then_n (CT.seq (CT.seq (CT.region ?_))))
 refine Wl.q rfl rfl (OpQ.move rfl) ?_
 refine Wl.q rfl rfl (OpQ.len K10_un22 rfl) ?_
 refine Wl.q rfl rfl (OpQ.move rfl) ?_
 refine Wl.nil (PX.then_n (CT.block ?_))
 refine CT.nilrow 24 3 ?_
 refine CT.loop (ι := Nat × Option Addr × Nat) (fun (k, a, c) => k ≤ ks.length) (fun (k, a, c) => [(0, .int .i64 o), (5, .slice a (flx o (ks.take k)).length c), (8, .slice ka ks.length kc), (9, .int .i64 ((ks.length : Nat) : Int)), (10, .int .i64 ((k : Nat) : Int))]) (fun (k, a, c) => [.row 24 3 (.slice a (flx o (ks.take k)).length c) (flx o (ks.take k)).length ((flx o (ks.take k)).flatMap evc)]) (fun (k, a, c) => ks.length - k) (0, none, 0) (Nat.zero_le _) ⟨rfl, rfl, rfl, rfl, rfl, trivial⟩ (HSub.refl _) (fun ⟨k, a, c⟩ hkb K0 hK0 => ?_)
 dsimp only
 refine CT.seq (CT.region ?_)
 refine Wl.q rfl rfl (OpQ.lss rfl rfl) ?_
 refine Wl.nil (PX.then_n (CT.seq ?_))
 refine CT.cond rfl (fun h11 => ?_) (fun h11 => ?_)
 ·
  have h11 := of_decide_eq_true h11
  refine CT.skip (PX.then_n (CT.seq (CT.block (CT.seq (CT.region ?_)))))
  have hkl : k < ks.length := by omega
  have hfl := flx_take_len (o := o) hkl
  refine Wl.q rfl rfl (OpQ.index K10_un22 K10_sz24 rfl rfl (by omega) (hka (by omega))) ?_
  refine Wl.q rfl rfl (OpQ.loadAggG (cs := evc (ks.getD k ev0)) K10_ag24 K10_sz24 rfl (fun w hH => (hH.use hk).1) (flat_cells evc_len ks ev0 (by omega))) ?_
  refine Wl.know 13 (v' := evv (ks.getD k ev0)) rfl rfl ?_
  refine Wl.g rfl rfl (OpG.alloc (zs := [.int .i64 0, .int .i64 0, .slice none 0 0]) K10_in24 rfl rfl) ?_
  rintro b7 _
  refine Wl.g rfl rfl (OpG.storeV (b := b7) K10_sz24 rfl rfl rfl rfl (by repeat (first | exact Upd.here | apply Upd.there))) ?_
  rintro _ _
  refine Wl.nil (PX.then_n (CT.seq (CT.region ?_)))
  refine Wl.q rfl rfl (OpQ.fieldAddr K10_fa24_0 rfl) ?_
  refine Wl.q rfl rfl (OpQ.loadF (b := b7) K10_sc3 rfl (by repeat (first | exact Has.here | apply Has.there)) (by rfl)) ?_
  refine Wl.q rfl rfl (OpQ.move rfl) ?_
  refine Wl.q rfl rfl (OpQ.eql rfl rfl) ?_
  refine Wl.nil (PX.then_n ?_)
  refine CT.cond rfl (fun h17 => ?_) (fun h17 => ?_)
  ·
   have h17 := of_decide_eq_true h17
   have hf1 := fl1_yes h17
   rw [hf1] at hfl
   refine CT.region ?_
   refine Wl.q rfl rfl (OpQ.move rfl) ?_
   refine Wl.q rfl rfl (OpQ.fieldAddr K10_fa24_2 rfl) ?_
   refine Wl.q rfl rfl (OpQ.loadF (b := b7) K10_sc22 rfl (by repeat (first | exact Has.here | apply Has.there)) (by rfl)) ?_
   refine Wl.g rfl rfl (OpG.append K10_un22 K10_in24 (by rfl) (by decide) rfl rfl (p := 1) rfl (fun w hH => (evm_iff.1 ((hH.use hk).2.1 _ (by rw [getD_get hkl]; exact List.getElem_mem hkl))).1) ⟨(show (((ks.getD k ev0).ks).flatMap evc).length = (ks.getD k ev0).ks.length * 3 from evcs_len _), evcs_one ((ks.getD k ev0).ks), by omega, by omega⟩ (nm := (flx o (ks.take (k + 1))).length) (by rw [flx_take_s hkl, hf1, List.length_append]; first | done | rfl) (all := (flx o (ks.take (k + 1))).flatMap evc) (by rw [flx_take_s hkl, hf1, List.flatMap_append])) ?_
   rintro ⟨a21, c21⟩ h21
   refine Wl.q rfl rfl (OpQ.assign rfl) ?_
   refine Wl.nil (PX.block_n (PX.then_n (CT.region ?_)))
   refine Wl.q rfl rfl (OpQ.add rfl rfl (by omega)) ?_
   refine Wl.q rfl rfl (OpQ.move rfl) ?_
   refine Wl.nil ?_
   exact PX.loop hK0 (k + 1, a21, c21) (show k + 1 ≤ ks.length by omega) (show ks.length - (k + 1) < ks.length - k by omega) ⟨rfl, rfl, rfl, rfl, rfl, trivial⟩ (.drop (HSub.refl _))
  ·
   have h17 := of_decide_eq_false h17
   have hf1 := fl1_no h17
   rw [hf1, List.length_singleton] at hfl
   refine CT.region ?_
   refine Wl.q rfl rfl (OpQ.move rfl) ?_
   refine Wl.q rfl rfl (OpQ.loadV (b := b7) K10_ag24 K10_sz24 rfl (by repeat (first | exact Has.here | apply Has.there)) (by rfl)) ?_
   refine Wl.g rfl rfl (OpG.litS1 K10_un22 K10_in24 rfl (by decide) rfl) ?_
   rintro b24 _
   refine Wl.g rfl rfl (OpG.append K10_un22 K10_in24 (by rfl) (by decide) rfl rfl (p := 2) rfl (fun w hH => hH.rd (show Has _ (.row 24 3 (.slice (some ⟨b24, 0, none⟩) 1 1) 1 ([ks.getD k ev0].flatMap evc)) from .here)) ⟨(show (([ks.getD k ev0]).flatMap evc).length = 1 * 3 from evcs_len _), evcs_one ([ks.getD k ev0]), by omega, by omega⟩ (nm := (flx o (ks.take (k + 1))).length) (by rw [flx_take_s hkl, hf1, List.length_append]; first | done | rfl) (all := (flx o (ks.take (k + 1))).flatMap evc) (by rw [flx_take_s hkl, hf1, List.flatMap_append])) ?_
   rintro ⟨a25, c25⟩ h25
   refine Wl.q rfl rfl (OpQ.assign rfl) ?_
   refine Wl.nil (PX.block_n (PX.then_n (CT.region ?_)))
   refine Wl.q rfl rfl (OpQ.add rfl rfl (by omega)) ?_
   refine Wl.q rfl rfl (OpQ.move rfl) ?_
   refine Wl.nil ?_
   exact PX.loop hK0 (k + 1, a25, c25) (show k + 1 ≤ ks.length by omega) (show ks.length - (k + 1) < ks.length - k by omega) ⟨rfl, rfl, rfl, rfl, rfl, trivial⟩ (.drop (.drop (HSub.refl _)))
 ·
  have h11 := of_decide_eq_false h11
  refine CT.exit (PX.then_x (PX.then_x (PX.block_x (PX.then_n (CT.seq (CT.region ?_))))))
  refine Wl.q rfl rfl (OpQ.move rfl) ?_
  refine Wl.q rfl rfl (OpQ.assign rfl) ?_
  refine Wl.nil (PX.then_n (CT.ret ?_))
  refine PX.ret1 rfl rfl (fun w' hH => ?_)
  have e1 : ks.take k = ks := List.take_of_length_le (by omega)
  rw [e1] at hH
  rw [e1]
  exact hH.newRow .here

theorem K10_pl24 : placesB Tryz.prog 24 = some (#[.int .i64 0, .int .i64 0, .slice none 0 0], [(0, 1), (1, 1), (2, 1)]) := by kernel_rfl
set_option maxRecDepth 100000 in
/-- semigroup/expr.collect -/
theorem collect_spec (w : World) (ks : List Xv) (ka : Option Addr) (kc : Nat) (hk : Stays [] w (kin ka ks)) (o : Int) (vn : Xv) : Calls Tryz.prog 119 #[.int .i64 o, .slice ka ks.length kc, evv vn] w (fun e w' => ∃ v : Xv, (toE v = coll o (ks.map toE) (toE vn) ∧ ∀ w, kin ka ks w → evm vn w → evm v w) ∧ e = .returned (evv v) ∧ Ext [] w w') := by
 have hka : 0 < ks.length → ka.isSome = true := fun h => hk.now.1.isSome (j := 0) (by rw [flat_len evc_len]; omega)
 refine enter (args := [.int .i64 o, .slice ka ks.length kc, evv vn]) [] 20 Tryz.func119 rfl rfl rfl ?_
 refine CT.seq (CT.region ?_)
 refine Wl.g rfl rfl (OpG.box (size := 3) rfl rfl rfl) ?_
 rintro b5 _
 refine Wl.g rfl rfl (OpG.alloc (zs := [.int .i64 0, .int .i64 0, .slice none 0 0]) K10_in24 rfl rfl) ?_
 rintro b6 _
 refine Wl.nil (PX.then_n (CT.seq (CT.seq (CT.region ?_))))
 refine Wl.q rfl rfl (OpQ.move rfl) ?_
 refine Wl.q rfl rfl (OpQ.len K10_un22 rfl) ?_
 refine Wl.nil (PX.then_n (CT.block (CT.seq (CT.region ?_))))
 refine Wl.q rfl rfl (OpQ.eql rfl rfl) ?_
 refine Wl.q rfl rfl (OpQ.assign rfl) ?_
 refine Wl.nil (PX.then_n ?_)
 refine CT.cond rfl (fun h9 => ?_) (fun h9 => ?_)
 ·
  have h9 := of_decide_eq_true h9
  refine CT.seq (CT.region ?_)
  refine Wl.q rfl rfl (OpQ.loadV (b := b5) K10_ag24 K10_sz24 rfl (by repeat (first | exact Has.here | apply Has.there)) (by rfl)) ?_
  refine Wl.g rfl rfl (OpG.storeV (b := b6) K10_sz24 rfl rfl rfl rfl (by repeat (first | exact Upd.here | apply Upd.there))) ?_
  rintro _ _
  refine Wl.nil (PX.then_n (CT.ret (PX.block_r (PX.then_r ?_))))
  refine PX.retC rfl rfl (by repeat (first | exact Has.here | apply Has.there)) K10_ag24 K10_sz24 (by rfl) (fun w' hH => ?_)
  obtain rfl : ks = [] := List.eq_nil_of_length_eq_zero (by omega)
  exact ⟨vn, ⟨rfl, fun w _ h => h⟩, rfl, hH.ext⟩
 ·
  have h9 := of_decide_eq_false h9
  refine CT.seq (CT.region ?_)
  refine Wl.q rfl rfl (OpQ.eql rfl rfl) ?_
  refine Wl.q rfl rfl (OpQ.assign rfl) ?_
  refine Wl.nil (PX.then_n ?_)
  refine CT.cond rfl (fun h12 => ?_) (fun h12 => ?_)
  ·
   have h12 := of_decide_eq_true h12
   refine CT.seq (CT.region ?_)
   refine Wl.q rfl rfl (OpQ.move rfl) ?_
   refine Wl.q rfl rfl (OpQ.index K10_un22 K10_sz24 rfl rfl (by omega) (hka (by omega))) ?_
   refine Wl.q rfl rfl (OpQ.loadAggG (cs := evc (ks.getD 0 ev0)) K10_ag24 K10_sz24 rfl (fun w hH => (hH.use hk).1) (flat_cells evc_len ks ev0 (by omega))) ?_
   refine Wl.know 16 (v' := evv (ks.getD 0 ev0)) rfl rfl ?_
   refine Wl.g rfl rfl (OpG.storeV (b := b6) K10_sz24 rfl rfl rfl rfl (by repeat (first | exact Upd.here | apply Upd.there))) ?_
   rintro _ _
   refine Wl.nil (PX.then_n (CT.ret (PX.block_r (PX.then_r ?_))))
   refine PX.retC rfl rfl (by repeat (first | exact Has.here | apply Has.there)) K10_ag24 K10_sz24 (by rfl) (fun w' hH => ?_)
   obtain ⟨x, rfl⟩ := List.length_eq_one_iff.1 (show ks.length = 1 by omega)
   exact ⟨x, ⟨rfl, fun w h _ => h.2.1 x List.mem_cons_self⟩, rfl, hH.ext⟩
  ·
   have h12 := of_decide_eq_false h12
   refine CT.skip (PX.block_n (PX.then_n (CT.seq (CT.region ?_))))
   refine Wl.q rfl rfl (OpQ.move rfl) ?_
   refine Wl.q rfl rfl (OpQ.move rfl) ?_
   refine Wl.q rfl rfl (OpQ.build (cells := #[.int .i64 o, .int .i64 0, .slice ka ks.length kc]) K10_pl24 rfl rfl) ?_
   refine Wl.g rfl rfl (OpG.storeV (b := b6) K10_sz24 rfl rfl rfl rfl (by repeat (first | exact Upd.here | apply Upd.there))) ?_
   rintro _ _
   refine Wl.nil (PX.then_n (CT.ret ?_))
   refine PX.retC rfl rfl (by repeat (first | exact Has.here | apply Has.there)) K10_ag24 K10_sz24 (by rfl) (fun w' hH => ?_)
   exact ⟨.mk o 0 ka kc ks, ⟨by rw [toE_eq, coll_two (by rw [List.length_map]; omega)]; rfl, fun w h _ => evm_iff.2 h⟩, rfl, hH.ext⟩

theorem K10_go113 : isGo Tryz.prog 113 = true := by kernel_rfl
set_option maxRecDepth 100000 in
/-- slices.DeleteFunc[[]semigroup/api.Expr,semigroup/api.Expr] -/
theorem deleteF_spec (w : World) (ks : List Xv) (ka : Option Addr) (kc : Nat) (hk : Stays (blks [.row 24 3 (.slice ka ks.length kc) ks.length ((ks).flatMap evc)]) w (AllM ks)) (hpre : Pre [.row 24 3 (.slice ka ks.length kc) ks.length ((ks).flatMap evc)] w) (g : Nat) (hgo : isGo Tryz.prog g = true) (p : Xv → Bool) (hp : ∀ k ∈ ks, ∀ w : World, Stays [] w (evm k) → Calls Tryz.prog g #[evv k] w (fun e w' => e = .returned (.bool (p k)) ∧ Ext [] w w')) : Calls Tryz.prog 116 #[.slice ka ks.length kc, .func (.func g) #[] #[]] w (fun e w' => e = .returned (.slice ka (notp p ks).length kc) ∧ Post (blks [.row 24 3 (.slice ka ks.length kc) ks.length ((ks).flatMap evc)]) [.row 24 3 (.slice ka (notp p ks).length kc) (notp p ks).length ((notp p ks).flatMap evc)] w w') := by
 have hown : World.ownsRow w 0 24 3 (.slice ka ks.length kc) ks.length (ks.flatMap evc) := hpre.holds _ List.mem_cons_self
 have hka : 0 < ks.length → ka.isSome = true := fun h => owns_isSome hown (by omega)
 have hcap := owns_cap hown
 have hmx := owns_max hown
 refine enterX (args := [.slice ka ks.length kc, .func (.func g) #[] #[]]) hpre 42 Tryz.func116 rfl rfl rfl ?_
 refine CT.seq (CT.region ?_)
 refine Wl.q rfl rfl (OpQ.assign rfl) ?_
 refine Wl.nil (PX.then_n (CT.seq (CT.region ?_)))
 refine Wl.q rfl rfl (OpQ.move rfl) ?_
 refine Wl.q rfl rfl (OpQ.move rfl) ?_
 refine Wl.g rfl rfl (OpG.callV K10_go113 rfl (fun w hH => indexF_spec w ks ka kc (hH.kinS .here (hH.stays hk .nil)) g hgo p hp)) ?_
 rintro _ _
 refine Wl.q rfl rfl (OpQ.assign rfl) ?_
 refine Wl.nil (PX.then_n (CT.seq (CT.seq (CT.region ?_))))
 refine Wl.q rfl rfl (OpQ.move rfl) ?_
 refine Wl.q rfl rfl (OpQ.eql rfl rfl) ?_
 refine Wl.nil (PX.then_n ?_)
 refine CT.cond rfl (fun h12 => ?_) (fun h12 => ?_)
 ·
  have h12 := of_decide_eq_true h12
  refine CT.seq (CT.region ?_)
  refine Wl.q rfl rfl (OpQ.move rfl) ?_
  refine Wl.q rfl rfl (OpQ.assign rfl) ?_
  refine Wl.nil (PX.then_n (CT.ret (PX.then_r ?_)))
  refine PX.ret1 rfl rfl (fun w' hH => ?_)
  rw [notp_none h12]
  exact ⟨rfl, HOk.post hH⟩
 ·
  have h12 := of_decide_eq_false h12
  obtain ⟨i0, hi0, he0, hall0, hp0⟩ := ixf_pos h12
  refine CT.skip (PX.then_n (CT.seq (CT.seq (CT.region ?_))))
  refine Wl.q rfl rfl (OpQ.move rfl) ?_
  refine Wl.q rfl rfl (OpQ.add rfl rfl (by omega)) ?_
  refine Wl.q rfl rfl (OpQ.assign rfl) ?_
  refine Wl.nil (PX.then_n (CT.block ?_))
  refine CT.loop (ι := Nat × Nat × List Xv) (fun (i, j, L) => DelI p ks L i j) (fun (i, j, L) => [(0, .slice ka ks.length kc), (1, .func (.func g) #[] #[]), (5, .int .i64 ((i : Nat) : Int)), (6, .int .i64 ((j : Nat) : Int))]) (fun (i, j, L) => [.row 24 3 (.slice ka ks.length kc) ks.length ((L).flatMap evc)]) (fun (i, j, L) => ks.length - j) (i0, i0 + 1, ks) (DelI.start hi0 hall0 hp0) ⟨rfl, rfl, (lkV rfl (congrArg (Value.int .i64) he0)), (lkV rfl (congrArg (Value.int .i64) (by omega))), trivial⟩ (HSub.refl _) (fun ⟨i, j, L⟩ hI K0 hK0 => ?_)
  dsimp only
  have hI1 := hI.le
  have hI2 := hI.le2
  have hI3 := hI.len
  refine CT.seq (CT.seq (CT.region ?_))
  refine Wl.q rfl rfl (OpQ.move rfl) ?_
  refine Wl.q rfl rfl (OpQ.move rfl) ?_
  refine Wl.q rfl rfl (OpQ.len K10_un22 rfl) ?_
  refine Wl.q rfl rfl (OpQ.lss rfl rfl) ?_
  refine Wl.nil (PX.then_n ?_)
  refine CT.cond rfl (fun h19 => ?_) (fun h19 => ?_)
  ·
   have h19 := of_decide_eq_true h19
   refine CT.skip (PX.then_n (CT.seq (CT.block (CT.seq (CT.region ?_)))))
   refine Wl.q rfl rfl (OpQ.move rfl) ?_
   refine Wl.q rfl rfl (OpQ.move rfl) ?_
   have hjl : j < ks.length := by omega
   refine Wl.q rfl rfl (OpQ.index K10_un22 K10_sz24 rfl rfl (by omega) (hka (by omega))) ?_
   refine Wl.q rfl rfl (OpQ.loadAggG (cs := evc (L.getD j ev0)) K10_ag24 K10_sz24 rfl (fun w hH => hH.rd (show Has _ (.row 24 3 (.slice ka ks.length kc) ks.length ((L).flatMap evc)) from .here)) (flat_cells evc_len L ev0 (by rw [hI.len]; omega))) ?_
   refine Wl.know 25 (v' := evv (ks.getD j ev0)) rfl (congrArg evv hI.at) ?_
   refine Wl.g rfl rfl (OpG.alloc (zs := [.int .i64 0, .int .i64 0, .slice none 0 0]) K10_in24 rfl rfl) ?_
   rintro b7 _
   refine Wl.g rfl rfl (OpG.storeV (b := b7) K10_sz24 rfl rfl rfl rfl (by repeat (first | exact Upd.here | apply Upd.there))) ?_
   rintro _ _
   refine Wl.nil (PX.then_n (CT.seq (CT.region ?_)))
   refine Wl.q rfl rfl (OpQ.move rfl) ?_
   refine Wl.q rfl rfl (OpQ.loadV (b := b7) K10_ag24 K10_sz24 rfl (by repeat (first | exact Has.here | apply Has.there)) (by rfl)) ?_
   refine Wl.know 27 (v' := evv (ks.getD j ev0)) rfl rfl ?_
   refine Wl.g rfl rfl (OpG.callFV rfl hgo rfl (fun w hH => hp _ (by rw [getD_get hjl]; exact List.getElem_mem hjl) w ((hH.stays hk .nil).mono (fun w h => h _ (by rw [getD_get hjl]; exact List.getElem_mem hjl))))) ?_
   rintro _ _
   refine Wl.q rfl rfl (OpQ.not rfl) ?_
   refine Wl.nil (PX.then_n ?_)
   refine CT.cond rfl (fun h29 => ?_) (fun h29 => ?_)
   ·
    refine CT.seq (CT.region ?_)
    refine Wl.q rfl rfl (OpQ.move rfl) ?_
    refine Wl.q rfl rfl (OpQ.move rfl) ?_
    refine Wl.q rfl rfl (OpQ.loadV (b := b7) K10_ag24 K10_sz24 rfl (by repeat (first | exact Has.here | apply Has.there)) (by rfl)) ?_
    refine Wl.know 32 (v' := evv (ks.getD j ev0)) rfl rfl ?_
    refine Wl.q rfl rfl (OpQ.index K10_un22 K10_sz24 rfl rfl (by omega) (hka (by omega))) ?_
    refine Wl.g rfl rfl (OpG.storeAggRow (j := i * 3) (cs := evc (ks.getD j ev0)) K10_sz24 rfl rfl rfl (by rw [evcs_len, hI.len, evc_len]; omega) (by rw [evc_len]; decide) (by repeat (first | exact Upd.here | apply Upd.there))) ?_
    rintro _ _
    refine Wl.nil (PX.then_n (CT.region ?_))
    refine Wl.q rfl rfl (OpQ.move rfl) ?_
    refine Wl.q rfl rfl (OpQ.add rfl rfl (by omega)) ?_
    refine Wl.q rfl rfl (OpQ.assign rfl) ?_
    refine Wl.nil (PX.block_n (PX.then_n (CT.region ?_)))
    refine Wl.q rfl rfl (OpQ.move rfl) ?_
    refine Wl.q rfl rfl (OpQ.add rfl rfl (by omega)) ?_
    refine Wl.q rfl rfl (OpQ.assign rfl) ?_
    refine Wl.nil ?_
    exact PX.loop hK0 (i + 1, j + 1, L.set i (ks.getD j ev0)) (hI.keep hjl (by simpa using h29)) (show ks.length - (j + 1) < ks.length - j by omega) ⟨rfl, rfl, rfl, rfl, trivial⟩ (.drop (.keep (row_eq (evcs_set (by omega) _).symm) (HSub.refl _)))
   ·
    refine CT.skip (PX.block_n (PX.then_n (CT.region ?_)))
    refine Wl.q rfl rfl (OpQ.move rfl) ?_
    refine Wl.q rfl rfl (OpQ.add rfl rfl (by omega)) ?_
    refine Wl.q rfl rfl (OpQ.assign rfl) ?_
    refine Wl.nil ?_
    exact PX.loop hK0 (i, j + 1, L) (hI.skip hjl (by simpa using h29)) (show ks.length - (j + 1) < ks.length - j by omega) ⟨rfl, rfl, rfl, rfl, trivial⟩ (.drop (HSub.refl _))
  ·
   have h19 := of_decide_eq_false h19
   refine CT.exit (PX.then_x (PX.then_x (PX.block_x (PX.then_n (CT.seq (CT.region ?_))))))
   refine Wl.q rfl rfl (OpQ.move rfl) ?_
   refine Wl.q rfl rfl (OpQ.move rfl) ?_
   refine Wl.q rfl rfl (OpQ.sliceFromN (k := i) K10_un22 K10_sz24 rfl rfl rfl (by omega)) ?_
   refine Wl.g rfl rfl (OpG.clear (k := i) K10_un22 K10_in24 rfl rfl rfl (by omega) (by repeat (first | exact Upd.here | apply Upd.there))) ?_
   rintro _ _
   refine Wl.nil (PX.then_n (CT.seq (CT.region ?_)))
   refine Wl.q rfl rfl (OpQ.move rfl) ?_
   refine Wl.q rfl rfl (OpQ.move rfl) ?_
   refine Wl.q rfl rfl (OpQ.sliceToN (k := i) K10_un22 K10_sz24 rfl rfl rfl (by omega)) ?_
   refine Wl.q rfl rfl (OpQ.assign rfl) ?_
   refine Wl.nil (PX.then_n (CT.ret ?_))
   refine PX.ret1 rfl rfl (fun w' hH => ?_)
   have e1 := hI.done (by omega)
   have e2 := hI.fin (by omega)
   rw [evcs_take, e1] at hH
   rw [e2]
   exact ⟨rfl, HOk.post hH⟩

theorem K10_mixed : Tryz.prog.follows .mixedOrders = true := by kernel_rfl
set_option maxRecDepth 100000 in
/-- slices.CompactFunc[[]semigroup/api.Expr,semigroup/api.Expr] -/
theorem compactF_spec (w : World) (ks : List Xv) (ka : Option Addr) (kc : Nat) (hk : Stays (blks [.row 24 3 (.slice ka ks.length kc) ks.length ((ks).flatMap evc)]) w (AllM ks)) (hpre : Pre [.row 24 3 (.slice ka ks.length kc) ks.length ((ks).flatMap evc)] w) (g : Nat) (hgo : isGo Tryz.prog g = true) (hq : ∀ x ∈ ks, ∀ y ∈ ks, ∀ w : World, Stays [] w (evm x) → Stays [] w (evm y) → Calls Tryz.prog g #[evv x, evv y] w (fun e w' => e = .returned (.bool (eqx x y)) ∧ Ext [] w w')) : Calls Tryz.prog 128 #[.slice ka ks.length kc, .func (.func g) #[] #[]] w (fun e w' => e = .returned (.slice ka (kp ks ks.length).length kc) ∧ Post (blks [.row 24 3 (.slice ka ks.length kc) ks.length ((ks).flatMap evc)]) [.row 24 3 (.slice ka (kp ks ks.length).length kc) (kp ks ks.length).length ((kp ks ks.length).flatMap evc)] w w') := by
 have hown : World.ownsRow w 0 24 3 (.slice ka ks.length kc) ks.length (ks.flatMap evc) := hpre.holds _ List.mem_cons_self
 have hka : 0 < ks.length → ka.isSome = true := fun h => owns_isSome hown (by omega)
 have hcap := owns_cap hown
 have hmx := owns_max hown
 refine enterX (args := [.slice ka ks.length kc, .func (.func g) #[] #[]]) hpre 66 Tryz.func128 rfl rfl rfl ?_
 refine CT.seq (CT.region ?_)
 refine Wl.q rfl rfl (OpQ.assign rfl) ?_
 refine Wl.nil (PX.then_n (CT.seq (CT.seq (CT.region ?_))))
 refine Wl.q rfl rfl (OpQ.move rfl) ?_
 refine Wl.q rfl rfl (OpQ.len K10_un22 rfl) ?_
 refine Wl.q rfl rfl (OpQ.lss rfl rfl) ?_
 refine Wl.nil (PX.then_n ?_)
 refine CT.cond rfl (fun h10 => ?_) (fun h10 => ?_)
 ·
  have h10 := of_decide_eq_true h10
  refine CT.seq (CT.region ?_)
  refine Wl.q rfl rfl (OpQ.move rfl) ?_
  refine Wl.q rfl rfl (OpQ.assign rfl) ?_
  refine Wl.nil (PX.then_n (CT.ret (PX.then_r ?_)))
  refine PX.ret1 rfl rfl (fun w' hH => ?_)
  rw [kp_short (by omega)]
  exact ⟨rfl, HOk.post hH⟩
 ·
  have h10 := of_decide_eq_false h10
  refine CT.skip (PX.then_n (CT.seq (CT.seq (CT.region ?_))))
  refine Wl.q rfl rfl (OpQ.assign rfl) ?_
  refine Wl.nil (PX.then_n (CT.block ?_))
  refine CT.loop (ι := Nat) (fun k => 0 < k ∧ k ≤ ks.length ∧ ∀ j, 0 < j → j < k → eqx (ks.getD j ev0) (ks.getD (j - 1) ev0) = false) (fun k => [(0, .slice ka ks.length kc), (1, .func (.func g) #[] #[]), (5, .int .i64 ((k : Nat) : Int))]) (fun _ => [.row 24 3 (.slice ka ks.length kc) ks.length ((ks).flatMap evc)]) (fun k => ks.length - k) 1 ⟨by omega, by omega, fun j h1 h2 => by omega⟩ ⟨rfl, rfl, rfl, trivial⟩ (HSub.refl _) (fun k ⟨hk0, hkl, hall⟩ K0 hK0 => ?_)
  refine CT.seq (CT.seq (CT.region ?_))
  refine Wl.q rfl rfl (OpQ.move rfl) ?_
  refine Wl.q rfl rfl (OpQ.move rfl) ?_
  refine Wl.q rfl rfl (OpQ.len K10_un22 rfl) ?_
  refine Wl.q rfl rfl (OpQ.lss rfl rfl) ?_
  refine Wl.nil (PX.then_n ?_)
  refine CT.cond rfl (fun h15 => ?_) (fun h15 => ?_)
  ·
   have h15 := of_decide_eq_true h15
   have hkk : k < ks.length := by omega
   refine CT.skip (PX.then_n (CT.seq (CT.block (CT.seq ?_))))
   refine CT.draw 11 K10_mixed ?_
   refine RA.q 0 (by kernel_rfl) rfl rfl rfl (.refl _) (OpQ.move rfl) ?_
   refine RA.q 1 (by kernel_rfl) rfl rfl rfl (.refl _) (OpQ.move rfl) ?_
   refine RA.q 2 (by kernel_rfl) rfl rfl rfl (.refl _) (OpQ.move rfl) ?_
   refine RA.q 3 (by kernel_rfl) rfl rfl rfl (.refl _) (OpQ.index K10_un22 K10_sz24 rfl rfl (by omega) (hka (by omega))) ?_
   refine RA.q 4 (by kernel_rfl) rfl rfl rfl (.refl _) (OpQ.loadAggG (cs := evc (ks.getD k ev0)) K10_ag24 K10_sz24 rfl (fun w hH => hH.rd (show Has _ (.row 24 3 (.slice ka ks.length kc) ks.length ((ks).flatMap evc)) from .here)) (flat_cells evc_len ks ev0 (by omega))) ?_
   refine RA.know 22 (v' := evv (ks.getD k ev0)) rfl rfl ?_
   refine RA.q 5 (by kernel_rfl) rfl rfl rfl (.refl _) (OpQ.move rfl) ?_
   refine RA.q 6 (by kernel_rfl) rfl rfl rfl (.refl _) (OpQ.move rfl) ?_
   refine RA.q 7 (by kernel_rfl) rfl rfl rfl (.refl _) (OpQ.sub rfl rfl (by omega)) ?_
   refine RA.know 25 (v' := .int .i64 (((k - 1) : Nat) : Int)) rfl (congrArg (Value.int .i64) (by omega)) ?_
   refine RA.q 8 (by kernel_rfl) rfl rfl rfl (.refl _) (OpQ.index K10_un22 K10_sz24 rfl rfl (by omega) (hka (by omega))) ?_
   refine RA.q 9 (by kernel_rfl) rfl rfl rfl (.refl _) (OpQ.loadAggG (cs := evc (ks.getD (k - 1) ev0)) K10_ag24 K10_sz24 rfl (fun w hH => hH.rd (show Has _ (.row 24 3 (.slice ka ks.length kc) ks.length ((ks).flatMap evc)) from .here)) (flat_cells evc_len ks ev0 (by omega))) ?_
   refine RA.know 27 (v' := evv (ks.getD (k - 1) ev0)) rfl rfl ?_
   refine RA.f 10 (by kernel_rfl) rfl rfl rfl (OpG.callFV rfl hgo rfl (fun w hH => hq _ (by rw [getD_get (show k < ks.length by omega)]; exact List.getElem_mem (show k < ks.length by omega)) _ (by rw [getD_get (show k - 1 < ks.length by omega)]; exact List.getElem_mem (show k - 1 < ks.length by omega)) w ((hH.stays hk .nil).mono (fun w h => h _ (by rw [getD_get (show k < ks.length by omega)]; exact List.getElem_mem (show k < ks.length by omega)))) ((hH.stays hk .nil).mono (fun w h => h _ (by rw [getD_get (show k - 1 < ks.length by omega)]; exact List.getElem_mem (show k - 1 < ks.length by omega)))))) (fun _ _ => (.refl _)) ?_
   rintro _ _
   refine RA.tail ?_
   refine RT.done (by kernel_rfl) ?_
   refine PX.then_n ?_
   refine CT.cond rfl (fun h28 => ?_) (fun h28 => ?_)
   ·
    refine CT.seq (CT.region ?_)
    refine Wl.q rfl rfl (OpQ.move rfl) ?_
    refine Wl.q rfl rfl (OpQ.move rfl) ?_
    refine Wl.q rfl rfl (OpQ.sliceFromN (k := k) K10_un22 K10_sz24 rfl rfl rfl (by omega)) ?_
    refine Wl.q rfl rfl (OpQ.assign rfl) ?_
    refine Wl.nil (PX.then_n (CT.seq (CT.seq (CT.region ?_))))
    refine Wl.q rfl rfl (OpQ.assign rfl) ?_
    refine Wl.nil (PX.then_n (CT.block ?_))
    refine CT.loop (ι := Nat × Nat × List Xv) (fun (i, m, L) => 1 ≤ m ∧ CpI ks L i (k + m)) (fun (i, m, L) => [(0, .slice ka ks.length kc), (1, .func (.func g) #[] #[]), (5, .int .i64 ((i : Nat) : Int)), (6, .slice (sfr ka kc k 3) (ks.length - k) (kc - k)), (7, .int .i64 ((m : Nat) : Int))]) (fun (i, m, L) => [.row 24 3 (.slice ka ks.length kc) ks.length ((L).flatMap evc)]) (fun (i, m, L) => ks.length - (k + m)) (k, 1, ks) ⟨by omega, CpI.start hk0 hkk hall h28⟩ ⟨rfl, rfl, rfl, rfl, rfl, trivial⟩ (HSub.refl _) (fun ⟨i, m, L⟩ ⟨hm0, hI⟩ K1 hK1 => ?_)
    dsimp only
    have hI1 := hI.le
    have hI2 := hI.le2
    have hI3 := hI.len
    refine CT.seq (CT.seq (CT.region ?_))
    refine Wl.q rfl rfl (OpQ.move rfl) ?_
    refine Wl.q rfl rfl (OpQ.move rfl) ?_
    refine Wl.q rfl rfl (OpQ.len K10_un22 rfl) ?_
    refine Wl.q rfl rfl (OpQ.lss rfl rfl) ?_
    refine Wl.nil (PX.then_n ?_)
    refine CT.cond rfl (fun h35 => ?_) (fun h35 => ?_)
    ·
     have h35 := of_decide_eq_true h35
     have hjl : k + m < ks.length := by omega
     refine CT.skip (PX.then_n (CT.seq (CT.block (CT.seq ?_))))
     refine CT.draw 12 K10_mixed ?_
     refine RA.q 0 (by kernel_rfl) rfl rfl rfl (.refl _) (OpQ.move rfl) ?_
     refine RA.q 1 (by kernel_rfl) rfl rfl rfl (.refl _) (OpQ.move rfl) ?_
     refine RA.q 2 (by kernel_rfl) rfl rfl rfl (.refl _) (OpQ.move rfl) ?_
     refine RA.q 3 (by kernel_rfl) rfl rfl rfl (.refl _) (OpQ.index K10_un22 K10_sz24 rfl rfl (by omega) (by unfold sfr; split <;> simp [hka (by omega)])) ?_
     refine RA.q 4 (by kernel_rfl) rfl rfl rfl (.refl _) (OpQ.loadAggG (cs := evc ((L.drop k).getD (m) ev0)) K10_ag24 K10_sz24 rfl (fun w hH => Rd.fr (k := k) (cp := kc) (hH.rd (show Has _ (.row 24 3 (.slice ka ks.length kc) ks.length ((L).flatMap evc)) from .here)) (by rw [evcs_len]; omega)) (by rw [evcs_drop]; exact flat_cells evc_len (L.drop k) ev0 (by rw [List.length_drop, hI.len]; omega))) ?_
     refine RA.know 42 (v' := evv (ks.getD (k + m) ev0)) rfl (congrArg evv (by rw [drop_getD]; exact hI.at.1)) ?_
     refine RA.q 5 (by kernel_rfl) rfl rfl rfl (.refl _) (OpQ.move rfl) ?_
     refine RA.q 6 (by kernel_rfl) rfl rfl rfl (.refl _) (OpQ.move rfl) ?_
     refine RA.q 7 (by kernel_rfl) rfl rfl rfl (.refl _) (OpQ.sub rfl rfl (by omega)) ?_
     refine RA.know 45 (v' := .int .i64 (((m - 1) : Nat) : Int)) rfl (congrArg (Value.int .i64) (by omega)) ?_
     refine RA.q 8 (by kernel_rfl) rfl rfl rfl (.refl _) (OpQ.index K10_un22 K10_sz24 rfl rfl (by omega) (by unfold sfr; split <;> simp [hka (by omega)])) ?_
     refine RA.q 9 (by kernel_rfl) rfl rfl rfl (.refl _) (OpQ.loadAggG (cs := evc ((L.drop k).getD (m - 1) ev0)) K10_ag24 K10_sz24 rfl (fun w hH => Rd.fr (k := k) (cp := kc) (hH.rd (show Has _ (.row 24 3 (.slice ka ks.length kc) ks.length ((L).flatMap evc)) from .here)) (by rw [evcs_len]; omega)) (by rw [evcs_drop]; exact flat_cells evc_len (L.drop k) ev0 (by rw [List.length_drop, hI.len]; omega))) ?_
     refine RA.know 47 (v' := evv (ks.getD (k + m - 1) ev0)) rfl (congrArg evv (by rw [drop_getD, show k + (m - 1) = k + m - 1 by omega]; exact hI.at.2)) ?_
     refine RA.f 10 (by kernel_rfl) rfl rfl rfl (OpG.callFV rfl hgo rfl (fun w hH => hq _ (by rw [getD_get (show (k + m) < ks.length by omega)]; exact List.getElem_mem (show (k + m) < ks.length by omega)) _ (by rw [getD_get (show (k + m) - 1 < ks.length by omega)]; exact List.getElem_mem (show (k + m) - 1 < ks.length by omega)) w ((hH.stays hk .nil).mono (fun w h => h _ (by rw [getD_get (show (k + m) < ks.length by omega)]; exact List.getElem_mem (show (k + m) < ks.length by omega)))) ((hH.stays hk .nil).mono (fun w h => h _ (by rw [getD_get (show (k + m) - 1 < ks.length by omega)]; exact List.getElem_mem (show (k + m) - 1 < ks.length by omega)))))) (fun _ _ => (.refl _)) ?_
     rintro _ _
     refine RA.q 11 (by kernel_rfl) rfl rfl rfl (.refl _) (OpQ.not rfl) ?_
     refine RA.tail ?_
     refine RT.done (by kernel_rfl) ?_
     refine PX.then_n ?_
     refine CT.cond rfl (fun h49 => ?_) (fun h49 => ?_)
     ·
      refine CT.seq (CT.region ?_)
      refine Wl.q rfl rfl (OpQ.move rfl) ?_
      refine Wl.q rfl rfl (OpQ.move rfl) ?_
      refine Wl.q rfl rfl (OpQ.move rfl) ?_
      refine Wl.q rfl rfl (OpQ.move rfl) ?_
      refine Wl.q rfl rfl (OpQ.index K10_un22 K10_sz24 rfl rfl (by omega) (by unfold sfr; split <;> simp [hka (by omega)])) ?_
      refine Wl.q rfl rfl (OpQ.loadAggG (cs := evc ((L.drop k).getD (m) ev0)) K10_ag24 K10_sz24 rfl (fun w hH => Rd.fr (k := k) (cp := kc) (hH.rd (show Has _ (.row 24 3 (.slice ka ks.length kc) ks.length ((L).flatMap evc)) from .here)) (by rw [evcs_len]; omega)) (by rw [evcs_drop]; exact flat_cells evc_len (L.drop k) ev0 (by rw [List.length_drop, hI.len]; omega))) ?_
      refine Wl.know 55 (v' := evv (ks.getD (k + m) ev0)) rfl (congrArg evv (by rw [drop_getD]; exact hI.at.1)) ?_
      refine Wl.q rfl rfl (OpQ.index K10_un22 K10_sz24 rfl rfl (by omega) (hka (by omega))) ?_
      refine Wl.g rfl rfl (OpG.storeAggRow (j := i * 3) (cs := evc (ks.getD (k + m) ev0)) K10_sz24 rfl rfl rfl (by rw [evcs_len, hI.len, evc_len]; omega) (by rw [evc_len]; decide) (by repeat (first | exact Upd.here | apply Upd.there))) ?_
      rintro _ _
      refine Wl.nil (PX.then_n (CT.region ?_))
      refine Wl.q rfl rfl (OpQ.move rfl) ?_
      refine Wl.q rfl rfl (OpQ.add rfl rfl (by omega)) ?_
      refine Wl.q rfl rfl (OpQ.assign rfl) ?_
      refine Wl.nil (PX.block_n (PX.then_n (CT.region ?_)))
      refine Wl.q rfl rfl (OpQ.move rfl) ?_
      refine Wl.q rfl rfl (OpQ.add rfl rfl (by omega)) ?_
      refine Wl.q rfl rfl (OpQ.assign rfl) ?_
      refine Wl.nil ?_
      exact PX.loop hK1 (i + 1, m + 1, L.set i (ks.getD (k + m) ev0)) ⟨by omega, hI.keep hjl (by simpa using h49)⟩ (show ks.length - (k + (m + 1)) < ks.length - (k + m) by omega) ⟨rfl, rfl, rfl, rfl, rfl, trivial⟩ (.keep (row_eq (evcs_set (by omega) _).symm) (HSub.refl _))
     ·
      refine CT.skip (PX.block_n (PX.then_n (CT.region ?_)))
      refine Wl.q rfl rfl (OpQ.move rfl) ?_
      refine Wl.q rfl rfl (OpQ.add rfl rfl (by omega)) ?_
      refine Wl.q rfl rfl (OpQ.assign rfl) ?_
      refine Wl.nil ?_
      exact PX.loop hK1 (i, m + 1, L) ⟨by omega, hI.skip hjl (by simpa using h49)⟩ (show ks.length - (k + (m + 1)) < ks.length - (k + m) by omega) ⟨rfl, rfl, rfl, rfl, rfl, trivial⟩ (HSub.refl _)
    ·
     have h35 := of_decide_eq_false h35
     refine CT.exit (PX.then_x (PX.then_x (PX.block_x (PX.then_n (CT.seq (CT.region ?_))))))
     refine Wl.q rfl rfl (OpQ.move rfl) ?_
     refine Wl.q rfl rfl (OpQ.move rfl) ?_
     refine Wl.q rfl rfl (OpQ.sliceFromN (k := i) K10_un22 K10_sz24 rfl rfl rfl (by omega)) ?_
     refine Wl.g rfl rfl (OpG.clear (k := i) K10_un22 K10_in24 rfl rfl rfl (by omega) (by repeat (first | exact Upd.here | apply Upd.there))) ?_
     rintro _ _
     refine Wl.nil (PX.then_n (CT.seq (CT.region ?_)))
     refine Wl.q rfl rfl (OpQ.move rfl) ?_
     refine Wl.q rfl rfl (OpQ.move rfl) ?_
     refine Wl.q rfl rfl (OpQ.sliceToN (k := i) K10_un22 K10_sz24 rfl rfl rfl (by omega)) ?_
     refine Wl.q rfl rfl (OpQ.assign rfl) ?_
     refine Wl.nil (PX.then_n (CT.ret (PX.block_r (PX.then_r (PX.then_r (PX.block_r (PX.then_r ?_)))))))
     refine PX.ret1 rfl rfl (fun w' hH => ?_)
     obtain ⟨e1, e2⟩ := hI.fin (by omega)
     rw [evcs_take, e1] at hH
     rw [e2]
     exact ⟨rfl, HOk.post hH⟩
   ·
    refine CT.skip (PX.block_n (PX.then_n (CT.region ?_)))
    refine Wl.q rfl rfl (OpQ.move rfl) ?_
    refine Wl.q rfl rfl (OpQ.add rfl rfl (by omega)) ?_
    refine Wl.q rfl rfl (OpQ.assign rfl) ?_
    refine Wl.nil ?_
    exact PX.loop hK0 (k + 1) ⟨by omega, by omega, firsts_s (p := fun j => eqx (ks.getD j ev0) (ks.getD (j - 1) ev0)) hall h28⟩ (by first | omega | (dsimp only; omega)) ⟨rfl, rfl, rfl, trivial⟩ (HSub.refl _)
  ·
   have h15 := of_decide_eq_false h15
   refine CT.exit (PX.then_x (PX.then_x (PX.block_x (PX.then_n (CT.seq (CT.region ?_))))))
   refine Wl.q rfl rfl (OpQ.move rfl) ?_
   refine Wl.q rfl rfl (OpQ.assign rfl) ?_
   refine Wl.nil (PX.then_n (CT.ret ?_))
   refine PX.ret1 rfl rfl (fun w' hH => ?_)
   obtain rfl : k = ks.length := by omega
   rw [kp_all hall]
   exact ⟨rfl, HOk.post hH⟩

theorem K10_go62 : isGo Tryz.prog 62 = true := by kernel_rfl
set_option maxRecDepth 100000 in
/-- semigroup/expr.ordered$1 -/
theorem eqE_spec (w : World) (x y : Xv) (hx : Stays [] w (evm x)) (hy : Stays [] w (evm y)) : Calls Tryz.prog 129 #[evv x, evv y] w (fun e w' => e = .returned (.bool (eqx x y)) ∧ Ext [] w w') := by
 refine enter (args := [evv x, evv y]) [] 9 Tryz.func129 rfl rfl rfl ?_
 refine CT.seq (CT.region ?_)
 refine Wl.g rfl rfl (OpG.box (size := 3) rfl rfl rfl) ?_
 rintro b2 _
 refine Wl.g rfl rfl (OpG.box (size := 3) rfl rfl rfl) ?_
 rintro b3 _
 refine Wl.q rfl rfl (OpQ.assign rfl) ?_
 refine Wl.nil (PX.then_n (CT.seq (CT.region ?_)))
 refine Wl.q rfl rfl (OpQ.loadV (b := b2) K10_ag24 K10_sz24 rfl (by repeat (first | exact Has.here | apply Has.there)) (by rfl)) ?_
 refine Wl.know 5 (v' := evv x) rfl rfl ?_
 refine Wl.q rfl rfl (OpQ.loadV (b := b3) K10_ag24 K10_sz24 rfl (by repeat (first | exact Has.here | apply Has.there)) (by rfl)) ?_
 refine Wl.know 6 (v' := evv y) rfl rfl ?_
 refine Wl.g rfl rfl (OpG.callV K10_go62 rfl (fun w hH => compare_spec x w y (hH.stays0 hx) (hH.stays0 hy))) ?_
 rintro _ _
 refine Wl.q rfl rfl (OpQ.eql rfl rfl) ?_
 refine Wl.q rfl rfl (OpQ.assign rfl) ?_
 refine Wl.nil (PX.then_n (CT.ret ?_))
 refine PX.ret1 rfl rfl (fun w' hH => ?_)
 exact ⟨rfl, hH.ext⟩

end Go.Proofs.YtmggcdegekbncabGreatDoor

