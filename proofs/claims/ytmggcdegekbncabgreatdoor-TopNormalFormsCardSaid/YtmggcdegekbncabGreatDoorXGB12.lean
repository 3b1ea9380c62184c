/-
  What functions of the program compute, each by its walk. Conditions: those that each theorem names.
-/
import Derived.Test.YtmggcdegekbncabGreatDoorXGB11
import Derived.Test.YtmggcdegekbncabGreatDoorXF
set_option linter.unusedSimpArgs false
namespace Go.Proofs.YtmggcdegekbncabGreatDoor
open Go Go.Eng Go.Am Go.Ex
open Go.Tp (zi)
open Go.Tl (mayL Wd okW okB bo)
open Go.Ex.simp (simpL)
open Go.Ex.dv (dvL dvC)
open Go.Ex.hasU (hasAny hasAll)
open Go.Ex.wf (wfL)
open Go.Ex.szE (szL)
open Go.Ex.dpE (dpL)
open Go.Ex.cmpE (cmpL)
open Go.Ex.fmtE (fmtK fmtR)
theorem K12_go62 : isGo Tryz.prog 62 = true := by kernel_rfl
theorem K12_go129 : isGo Tryz.prog 129 = true := by kernel_rfl
theorem K12_go127 : isGo Tryz.prog 127 = true := by kernel_rfl
theorem K12_go128 : isGo Tryz.prog 128 = true := by kernel_rfl
set_option maxRecDepth 100000 in
/-- semigroup/expr.ordered -/
theorem ordered_spec (w : World) (ks : List Xv) (ka : Option Addr) (kc : Nat) (hk : Stays (blks [.row 24 3 (.slice ka ks.length kc) ks.length ((ks).flatMap evc)]) w (AllM ks)) (hpre : Pre [.row 24 3 (.slice ka ks.length kc) ks.length ((ks).flatMap evc)] w) (hsz : ks.length < 4611686018427387904) : Calls Tryz.prog 120 #[.slice ka ks.length kc] w (fun e w' => ∃ us : List Xv, (us.map toE = cmpt (srt (ks.map toE)) ∧ ∀ v ∈ us, v ∈ ks) ∧ e = .returned (.slice ka us.length kc) ∧ Post (blks [.row 24 3 (.slice ka ks.length kc) ks.length ((ks).flatMap evc)]) [.row 24 3 (.slice ka us.length kc) us.length ((us).flatMap evc)] w w') := by
 refine enterX (args := [.slice ka ks.length kc]) hpre 7 Tryz.func120 rfl rfl rfl ?_
 refine CT.seq (CT.region ?_)
 refine Wl.q rfl rfl (OpQ.assign rfl) ?_
 refine Wl.nil (PX.then_n (CT.seq (CT.region ?_)))
 refine Wl.q rfl rfl (OpQ.move rfl) ?_
 refine Wl.g rfl rfl (OpG.callX K12_go127 rfl (.cons .here .nil) (fun _ => (.cons .nil)) (fun w hH hp => sortF_spec w ks ka kc (hH.stays hk (.cons .here .nil)) hp hsz 62 K12_go62 (fun x y w h1 h2 => compare_spec x w y h1 h2))) ?_
 rintro us ⟨hperm, hsort, hulen⟩
 refine Wl.nil (PX.then_n (CT.seq (CT.region ?_)))
 refine Wl.q rfl rfl (OpQ.move rfl) ?_
 refine Wl.know 5 (v' := .slice ka us.length kc) rfl (by rw [hulen]) ?_
 refine Wl.g rfl rfl (OpG.callX K12_go128 rfl (.cons .here .nil) (fun _ => (.cons .nil)) (fun w hH hp => (compactF_spec w us ka kc ((hH.stays hk (Take.cons .here .nil)).mono (fun w h v hv => h v (hperm.mem_iff.1 hv))) hp 129 K12_go129 (fun x _ y _ w h1 h2 => eqE_spec w x y h1 h2)).mono fun e w' ⟨h1, h2⟩ => (⟨(), trivial, h1, h2⟩ : ∃ i : Unit, True ∧ _ ∧ _))) ?_
 rintro _ _
 refine Wl.q rfl rfl (OpQ.assign rfl) ?_
 refine Wl.nil (PX.then_n (CT.ret ?_))
 refine PX.ret1 rfl rfl (fun w' hH => ?_)
 refine ⟨kp us us.length, ⟨?_, fun v hv => hperm.mem_iff.1 (kp_mem (Nat.le_refl _) hv)⟩, rfl, HOk.post hH⟩
 rw [kp_toE, srt_unique (hperm.map toE) hsort]

theorem K12_go118 : isGo Tryz.prog 118 = true := by kernel_rfl
theorem K12_go122 : isGo Tryz.prog 122 = true := by kernel_rfl
theorem K12_in24 : (Tryz.prog.info? 24).map (fun i => (i.zero, i.size, i.bytes)) = some (some (.agg #[.int .i64 0, .int .i64 0, .slice none 0 0]), 3, 40) := by kernel_rfl
theorem K12_go84 : isGo Tryz.prog 84 = true := by kernel_rfl
theorem K12_go121 : isGo Tryz.prog 121 = true := by kernel_rfl
theorem K12_sz24 : sizeB Tryz.prog 24 = some 3 := by kernel_rfl
theorem K12_ag24 : isAggB Tryz.prog 24 = some true := by kernel_rfl
theorem K12_go117 : isGo Tryz.prog 117 = true := by kernel_rfl
theorem K12_go116 : isGo Tryz.prog 116 = true := by kernel_rfl
theorem K12_go94 : isGo Tryz.prog 94 = true := by kernel_rfl
theorem K12_go119 : isGo Tryz.prog 119 = true := by kernel_rfl
set_option maxRecDepth 100000 in
/-- semigroup/expr.joinConcat -/
theorem joinC_spec (w : World) (ks : List Xv) (ka : Option Addr) (kc : Nat) (hk : Stays [] w (kin ka ks)) (hs : szE.szL (ks.map toE) ≤ 1000000000) : Calls Tryz.prog 92 #[.slice ka ks.length kc] w (fun e w' => ∃ i : Xv × List Nat, (toE i.1 = jCat (ks.map toE)) ∧ e = .returned (evv i.1) ∧ Post [] [fx (AllM ks) [i.1] i.2] w w') := by
 refine enter (args := [.slice ka ks.length kc]) [] 13 Tryz.func92 rfl rfl rfl ?_
 refine CT.seq (CT.region ?_)
 refine Wl.g rfl rfl (OpG.alloc (zs := [.int .i64 0, .int .i64 0, .slice none 0 0]) K12_in24 rfl rfl) ?_
 rintro b2 _
 refine Wl.nil (PX.then_n (CT.seq (CT.seq (CT.region ?_))))
 refine Wl.q rfl rfl (OpQ.move rfl) ?_
 refine Wl.g rfl rfl (OpG.callV K12_go84 rfl (fun w hH => containsF_spec w ks ka kc (hH.stays0 hk) 118 K12_go118 (fun k => isOp 1 (toE k)) (fun k _ w hw => isEmpty_spec w k))) ?_
 rintro _ _
 refine Wl.nil (PX.then_n ?_)
 refine CT.cond rfl (fun h5 => ?_) (fun h5 => ?_)
 ·
  rw [any_isOp] at h5
  refine CT.seq (CT.region ?_)
  refine Wl.g rfl rfl (OpG.callV K12_go121 rfl (fun w hH => empty_spec' w)) ?_
  rintro _ _
  refine Wl.g rfl rfl (OpG.storeV (b := b2) K12_sz24 rfl rfl rfl rfl (by repeat (first | exact Upd.here | apply Upd.there))) ?_
  rintro _ _
  refine Wl.nil (PX.then_n (CT.ret (PX.then_r ?_)))
  refine PX.retC rfl rfl (by repeat (first | exact Has.here | apply Has.there)) K12_ag24 K12_sz24 (by rfl) (fun w' hH => ?_)
  exact ⟨(lfv 1 0, []), by rw [jCat, if_pos h5]; rfl, rfl, HOk.post (HOk.fx0 (A := AllM ks) (vs := [lfv 1 0]) (hH.take .nil) (fun w _ => AllM.one.2 (lfv_m 1 0 w)))⟩
 ·
  rw [any_isOp] at h5
  have h5 := fun hh => Bool.false_ne_true (h5.symm.trans hh)
  refine CT.skip (PX.then_n (CT.seq (CT.region ?_)))
  refine Wl.q rfl rfl (OpQ.move rfl) ?_
  refine Wl.g rfl rfl (OpG.callR K12_go117 rfl (fun w hH => flatten_spec w ks ka kc (hH.stays0 hk) 5 hs)) ?_
  rintro ⟨a8, c8⟩ h8
  refine Wl.g rfl rfl (OpG.callX K12_go116 rfl (.cons .here .nil) (fun _ => (.cons .nil)) (fun w hH hp => (deleteF_spec w (flx 5 ks) a8 c8 ((hH.stays hk (Take.cons .here .nil)).mono (fun w h => flx_m h.2.1)) hp 122 K12_go122 (fun k => isOp 2 (toE k)) (fun k _ w hw => isUnit_spec w k)).mono fun e w' ⟨h1, h2⟩ => (⟨(), trivial, h1, h2⟩ : ∃ i : Unit, True ∧ _ ∧ _))) ?_
  rintro _ _
  refine Wl.q rfl rfl (OpQ.assign rfl) ?_
  refine Wl.nil (PX.then_n (CT.seq (CT.region ?_)))
  refine Wl.q rfl rfl (OpQ.move rfl) ?_
  refine Wl.g rfl rfl (OpG.callV K12_go94 rfl (fun w hH => unit_spec' w)) ?_
  rintro _ _
  refine Wl.g rfl rfl (OpG.call K12_go119 rfl (fun w hH => (collect_spec w (notp (fun k => isOp 2 (toE k)) (flx 5 ks)) a8 c8 (hH.kinS .here ((hH.stays0 hk).mono (fun w h => notp_m (flx_m h.2.1)))) 5 (lfv 2 0)).mono fun e w' ⟨i, h1, h2, h3⟩ => ⟨i, h1, h2, hH.ext_nil h3⟩)) ?_
  rintro v12 ⟨hv12, hm12⟩
  refine Wl.g rfl rfl (OpG.storeV (b := b2) K12_sz24 rfl rfl rfl rfl (by repeat (first | exact Upd.here | apply Upd.there))) ?_
  rintro _ _
  refine Wl.nil (PX.then_n (CT.ret ?_))
  refine PX.retC rfl rfl (by repeat (first | exact Has.here | apply Has.there)) K12_ag24 K12_sz24 (by rfl) (fun w' hH => ?_)
  refine ⟨(v12, _), ?_, rfl, HOk.post (HOk.fxRow (A := AllM ks) (hH.take (.cons .here .nil)) (fun w h => notp_m (flx_m h)) (fun w _ hkn => hm12 w hkn (lfv_m 2 0 w)))⟩
  rw [hv12, notp_toE (q := isOp 2) (fun _ => rfl), flx_toE, jCat, if_neg h5]; rfl

theorem K12_go95 : isGo Tryz.prog 95 = true := by kernel_rfl
theorem K12_go115 : isGo Tryz.prog 115 = true := by kernel_rfl
theorem K12_go120 : isGo Tryz.prog 120 = true := by kernel_rfl
set_option maxRecDepth 100000 in
/-- semigroup/expr.joinUnion -/
theorem joinU_spec (w : World) (ks : List Xv) (ka : Option Addr) (kc : Nat) (hk : Stays [] w (kin ka ks)) (hs : szE.szL (ks.map toE) ≤ 1000000000) : Calls Tryz.prog 91 #[.slice ka ks.length kc] w (fun e w' => ∃ i : Xv × List Nat, (toE i.1 = jUni (ks.map toE)) ∧ e = .returned (evv i.1) ∧ Post [] [fx (AllM ks) [i.1] i.2] w w') := by
 refine enter (args := [.slice ka ks.length kc]) [] 14 Tryz.func91 rfl rfl rfl ?_
 refine CT.seq (CT.region ?_)
 refine Wl.g rfl rfl (OpG.alloc (zs := [.int .i64 0, .int .i64 0, .slice none 0 0]) K12_in24 rfl rfl) ?_
 rintro b2 _
 refine Wl.nil (PX.then_n (CT.seq (CT.seq (CT.region ?_))))
 refine Wl.q rfl rfl (OpQ.move rfl) ?_
 refine Wl.g rfl rfl (OpG.callV K12_go84 rfl (fun w hH => containsF_spec w ks ka kc (hH.stays0 hk) 95 K12_go95 (fun k => isUni (toE k)) (fun k _ w hw => isUniv_spec w k hw))) ?_
 rintro _ _
 refine Wl.nil (PX.then_n ?_)
 refine CT.cond rfl (fun h5 => ?_) (fun h5 => ?_)
 ·
  rw [any_isUni] at h5
  refine CT.seq (CT.region ?_)
  refine Wl.g rfl rfl (OpG.callX K12_go115 rfl .nil (fun _ => (.cons .nil)) (fun w hH hp => universal_spec w)) ?_
  rintro ⟨u6, bs6⟩ h6
  refine Wl.g rfl rfl (OpG.storeV (b := b2) K12_sz24 rfl rfl rfl rfl (by repeat (first | exact Upd.here | apply Upd.there))) ?_
  rintro _ _
  refine Wl.nil (PX.then_n (CT.ret (PX.then_r ?_)))
  refine PX.retC rfl rfl (by repeat (first | exact Has.here | apply Has.there)) K12_ag24 K12_sz24 (by rfl) (fun w' hH => ?_)
  exact ⟨(u6, bs6), by rw [jUni, if_pos h5]; exact h6, rfl, HOk.post (HOk.fxUp (A := AllM []) (hH.take (.cons .here .nil)) (fun w _ => AllM.nil w))⟩
 ·
  rw [any_isUni] at h5
  have h5 := fun hh => Bool.false_ne_true (h5.symm.trans hh)
  refine CT.skip (PX.then_n (CT.seq (CT.region ?_)))
  refine Wl.q rfl rfl (OpQ.move rfl) ?_
  refine Wl.g rfl rfl (OpG.callR K12_go117 rfl (fun w hH => flatten_spec w ks ka kc (hH.stays0 hk) 4 hs)) ?_
  rintro ⟨a8, c8⟩ h8
  refine Wl.g rfl rfl (OpG.callX K12_go116 rfl (.cons .here .nil) (fun _ => (.cons .nil)) (fun w hH hp => (deleteF_spec w (flx 4 ks) a8 c8 ((hH.stays hk (Take.cons .here .nil)).mono (fun w h => flx_m h.2.1)) hp 118 K12_go118 (fun k => isOp 1 (toE k)) (fun k _ w hw => isEmpty_spec w k)).mono fun e w' ⟨h1, h2⟩ => (⟨(), trivial, h1, h2⟩ : ∃ i : Unit, True ∧ _ ∧ _))) ?_
  rintro _ _
  refine Wl.q rfl rfl (OpQ.assign rfl) ?_
  refine Wl.nil (PX.then_n (CT.seq (CT.region ?_)))
  refine Wl.q rfl rfl (OpQ.move rfl) ?_
  refine Wl.g rfl rfl (OpG.callX K12_go120 rfl (.cons .here .nil) (fun _ => (.cons .nil)) (fun w hH hp => ordered_spec w (notp (fun k => isOp 1 (toE k)) (flx 4 ks)) a8 c8 ((hH.stays hk (Take.cons .here .nil)).mono (fun w h => notp_m (flx_m h.2.1))) hp (by have h1 := notp_len (fun k => isOp 1 (toE k)) (flx 4 ks); have h2 := flx_len 4 ks; omega))) ?_
  rintro us ⟨hus, hum⟩
  refine Wl.g rfl rfl (OpG.callV K12_go121 rfl (fun w hH => empty_spec' w)) ?_
  rintro _ _
  refine Wl.g rfl rfl (OpG.call K12_go119 rfl (fun w hH => (collect_spec w us a8 c8 (hH.kinS .here ((hH.stays0 hk).mono (fun w h v hv => notp_m (flx_m h.2.1) v (hum v hv)))) 4 (lfv 1 0)).mono fun e w' ⟨i, h1, h2, h3⟩ => ⟨i, h1, h2, hH.ext_nil h3⟩)) ?_
  rintro v13 ⟨hv13, hm13⟩
  refine Wl.g rfl rfl (OpG.storeV (b := b2) K12_sz24 rfl rfl rfl rfl (by repeat (first | exact Upd.here | apply Upd.there))) ?_
  rintro _ _
  refine Wl.nil (PX.then_n (CT.ret ?_))
  refine PX.retC rfl rfl (by repeat (first | exact Has.here | apply Has.there)) K12_ag24 K12_sz24 (by rfl) (fun w' hH => ?_)
  refine ⟨(v13, _), ?_, rfl, HOk.post (HOk.fxRow (A := AllM ks) (hH.take (.cons .here .nil)) (fun w h v hv => notp_m (flx_m h) v (hum v hv)) (fun w _ hkn => hm13 w hkn (lfv_m 1 0 w)))⟩
  rw [hv13, hus, notp_toE (q := isOp 1) (fun _ => rfl), flx_toE, jUni, if_neg h5]; rfl

set_option maxRecDepth 100000 in
/-- semigroup/expr.joinAnd -/
theorem joinA_spec (w : World) (ks : List Xv) (ka : Option Addr) (kc : Nat) (hk : Stays [] w (kin ka ks)) (hs : szE.szL (ks.map toE) ≤ 1000000000) : Calls Tryz.prog 93 #[.slice ka ks.length kc] w (fun e w' => ∃ i : Xv × List Nat, (toE i.1 = jAnd (ks.map toE)) ∧ e = .returned (evv i.1) ∧ Post [] [fx (AllM ks) [i.1] i.2] w w') := by
 refine enter (args := [.slice ka ks.length kc]) [] 14 Tryz.func93 rfl rfl rfl ?_
 refine CT.seq (CT.region ?_)
 refine Wl.g rfl rfl (OpG.alloc (zs := [.int .i64 0, .int .i64 0, .slice none 0 0]) K12_in24 rfl rfl) ?_
 rintro b2 _
 refine Wl.nil (PX.then_n (CT.seq (CT.seq (CT.region ?_))))
 refine Wl.q rfl rfl (OpQ.move rfl) ?_
 refine Wl.g rfl rfl (OpG.callV K12_go84 rfl (fun w hH => containsF_spec w ks ka kc (hH.stays0 hk) 118 K12_go118 (fun k => isOp 1 (toE k)) (fun k _ w hw => isEmpty_spec w k))) ?_
 rintro _ _
 refine Wl.nil (PX.then_n ?_)
 refine CT.cond rfl (fun h5 => ?_) (fun h5 => ?_)
 ·
  rw [any_isOp] at h5
  refine CT.seq (CT.region ?_)
  refine Wl.g rfl rfl (OpG.callV K12_go121 rfl (fun w hH => empty_spec' w)) ?_
  rintro _ _
  refine Wl.g rfl rfl (OpG.storeV (b := b2) K12_sz24 rfl rfl rfl rfl (by repeat (first | exact Upd.here | apply Upd.there))) ?_
  rintro _ _
  refine Wl.nil (PX.then_n (CT.ret (PX.then_r ?_)))
  refine PX.retC rfl rfl (by repeat (first | exact Has.here | apply Has.there)) K12_ag24 K12_sz24 (by rfl) (fun w' hH => ?_)
  exact ⟨(lfv 1 0, []), by rw [jAnd, if_pos h5]; rfl, rfl, HOk.post (HOk.fx0 (A := AllM ks) (vs := [lfv 1 0]) (hH.take .nil) (fun w _ => AllM.one.2 (lfv_m 1 0 w)))⟩
 ·
  rw [any_isOp] at h5
  have h5 := fun hh => Bool.false_ne_true (h5.symm.trans hh)
  refine CT.skip (PX.then_n (CT.seq (CT.region ?_)))
  refine Wl.q rfl rfl (OpQ.move rfl) ?_
  refine Wl.g rfl rfl (OpG.callR K12_go117 rfl (fun w hH => flatten_spec w ks ka kc (hH.stays0 hk) 6 hs)) ?_
  rintro ⟨a8, c8⟩ h8
  refine Wl.g rfl rfl (OpG.callX K12_go116 rfl (.cons .here .nil) (fun _ => (.cons .nil)) (fun w hH hp => (deleteF_spec w (flx 6 ks) a8 c8 ((hH.stays hk (Take.cons .here .nil)).mono (fun w h => flx_m h.2.1)) hp 95 K12_go95 (fun k => isUni (toE k)) (fun k _ w hw => isUniv_spec w k hw)).mono fun e w' ⟨h1, h2⟩ => (⟨(), trivial, h1, h2⟩ : ∃ i : Unit, True ∧ _ ∧ _))) ?_
  rintro _ _
  refine Wl.q rfl rfl (OpQ.assign rfl) ?_
  refine Wl.nil (PX.then_n (CT.seq (CT.region ?_)))
  refine Wl.q rfl rfl (OpQ.move rfl) ?_
  refine Wl.g rfl rfl (OpG.callX K12_go120 rfl (.cons .here .nil) (fun _ => (.cons .nil)) (fun w hH hp => ordered_spec w (notp (fun k => isUni (toE k)) (flx 6 ks)) a8 c8 ((hH.stays hk (Take.cons .here .nil)).mono (fun w h => notp_m (flx_m h.2.1))) hp (by have h1 := notp_len (fun k => isUni (toE k)) (flx 6 ks); have h2 := flx_len 6 ks; omega))) ?_
  rintro us ⟨hus, hum⟩
  refine Wl.g rfl rfl (OpG.callX K12_go115 rfl .nil (fun _ => (.cons .nil)) (fun w hH hp => universal_spec w)) ?_
  rintro ⟨u12, bs12⟩ h12
  refine Wl.g rfl rfl (OpG.call K12_go119 rfl (fun w hH => (collect_spec w us a8 c8 (hH.kinS (.there .here) ((hH.stays0 hk).mono (fun w h v hv => notp_m (flx_m h.2.1) v (hum v hv)))) 6 u12).mono fun e w' ⟨i, h1, h2, h3⟩ => ⟨i, h1, h2, hH.ext_nil h3⟩)) ?_
  rintro v13 ⟨hv13, hm13⟩
  refine Wl.g rfl rfl (OpG.storeV (b := b2) K12_sz24 rfl rfl rfl rfl (by repeat (first | exact Upd.here | apply Upd.there))) ?_
  rintro _ _
  refine Wl.nil (PX.then_n (CT.ret ?_))
  refine PX.retC rfl rfl (by repeat (first | exact Has.here | apply Has.there)) K12_ag24 K12_sz24 (by rfl) (fun w' hH => ?_)
  refine ⟨(v13, _), ?_, rfl, HOk.post (HOk.fxRow2 (A := AllM ks) (B := AllM []) (hH.take (.cons (.there .here) (.cons .here .nil))) (fun w _ => AllM.nil w) (fun w h _ v hv => notp_m (flx_m h) v (hum v hv)) (fun w _ h2 hkn => hm13 w hkn (AllM.one.1 h2)))⟩
  rw [hv13, hus, h12, notp_toE (q := isUni) (fun _ => rfl), flx_toE, jAnd, if_neg h5]

theorem K12_go91 : isGo Tryz.prog 91 = true := by kernel_rfl
theorem K12_go92 : isGo Tryz.prog 92 = true := by kernel_rfl
theorem K12_go93 : isGo Tryz.prog 93 = true := by kernel_rfl
theorem K12_un22 : Tryz.prog.underlying 22 = some (.slice 24) := by kernel_rfl
theorem K12_pl24 : placesB Tryz.prog 24 = some (#[.int .i64 0, .int .i64 0, .slice none 0 0], [(0, 1), (1, 1), (2, 1)]) := by kernel_rfl
theorem K12_fa24_0 : fieldB Tryz.prog 24 0 = some 0 := by kernel_rfl
theorem K12_sc3 : scalarB Tryz.prog 3 = some true := by kernel_rfl
theorem K12_fa24_2 : fieldB Tryz.prog 24 2 = some 2 := by kernel_rfl
theorem K12_sc22 : scalarB Tryz.prog 22 = some true := by kernel_rfl
set_option maxRecDepth 100000 in
/-- semigroup/expr.Join -/
theorem join_spec (w : World) (o : Int) (ks : List Xv) (ka : Option Addr) (kc : Nat) (hk : Stays [] w (kin ka ks)) (hs : szE.szL (ks.map toE) ≤ 1000000000) : Calls Tryz.prog 64 #[.int .i64 o, .slice ka ks.length kc] w (fun e w' => ∃ i : Xv × List Nat, (toE i.1 = join o (ks.map toE)) ∧ e = .returned (evv i.1) ∧ Post [] [fx (AllM ks) [i.1] i.2] w w') := by
 have hka : 0 < ks.length → ka.isSome = true := fun h => hk.now.1.isSome (j := 0) (by rw [flat_len evc_len]; omega)
 refine enter (args := [.int .i64 o, .slice ka ks.length kc]) [] 70 Tryz.func64 rfl rfl rfl ?_
 refine CT.seq (CT.region ?_)
 refine Wl.g rfl rfl (OpG.alloc (zs := [.int .i64 0, .int .i64 0, .slice none 0 0]) K12_in24 rfl rfl) ?_
 rintro b4 _
 refine Wl.nil (PX.then_n (CT.seq (CT.seq (CT.region ?_))))
 refine Wl.q rfl rfl (OpQ.move rfl) ?_
 refine Wl.nil (PX.then_n (CT.block (CT.seq (CT.region ?_))))
 refine Wl.q rfl rfl (OpQ.eql rfl rfl) ?_
 refine Wl.q rfl rfl (OpQ.assign rfl) ?_
 refine Wl.nil (PX.then_n ?_)
 refine CT.cond rfl (fun h7 => ?_) (fun h7 => ?_)
 ·
  have h7 := of_decide_eq_true h7
  refine CT.seq (CT.region ?_)
  refine Wl.q rfl rfl (OpQ.move rfl) ?_
  refine Wl.g rfl rfl (OpG.callX K12_go91 rfl .nil (fun _ => (.cons .nil)) (fun w hH hp => joinU_spec w ks ka kc (hH.stays0 hk) hs)) ?_
  rintro ⟨v10, bs10⟩ h10
  refine Wl.g rfl rfl (OpG.storeV (b := b4) K12_sz24 rfl rfl rfl rfl (by repeat (first | exact Upd.here | apply Upd.there))) ?_
  rintro _ _
  refine Wl.nil (PX.then_n (CT.ret (PX.block_r (PX.then_r ?_))))
  refine PX.retC rfl rfl (by repeat (first | exact Has.here | apply Has.there)) K12_ag24 K12_sz24 (by rfl) (fun w' hH => ?_)
  exact ⟨(v10, bs10), by rw [join_4 h7]; exact h10, rfl, HOk.post (hH.take (.cons .here .nil))⟩
 ·
  have h7 := of_decide_eq_false h7
  refine CT.seq (CT.region ?_)
  refine Wl.q rfl rfl (OpQ.eql rfl rfl) ?_
  refine Wl.q rfl rfl (OpQ.assign rfl) ?_
  refine Wl.nil (PX.then_n ?_)
  refine CT.cond rfl (fun h11 => ?_) (fun h11 => ?_)
  ·
   have h11 := of_decide_eq_true h11
   refine CT.seq (CT.region ?_)
   refine Wl.q rfl rfl (OpQ.move rfl) ?_
   refine Wl.g rfl rfl (OpG.callX K12_go92 rfl .nil (fun _ => (.cons .nil)) (fun w hH hp => joinC_spec w ks ka kc (hH.stays0 hk) hs)) ?_
   rintro ⟨v14, bs14⟩ h14
   refine Wl.g rfl rfl (OpG.storeV (b := b4) K12_sz24 rfl rfl rfl rfl (by repeat (first | exact Upd.here | apply Upd.there))) ?_
   rintro _ _
   refine Wl.nil (PX.then_n (CT.ret (PX.block_r (PX.then_r ?_))))
   refine PX.retC rfl rfl (by repeat (first | exact Has.here | apply Has.there)) K12_ag24 K12_sz24 (by rfl) (fun w' hH => ?_)
   exact ⟨(v14, bs14), by rw [join_5 h7 h11]; exact h14, rfl, HOk.post (hH.take (.cons .here .nil))⟩
  ·
   have h11 := of_decide_eq_false h11
   refine CT.seq (CT.region ?_)
   refine Wl.q rfl rfl (OpQ.eql rfl rfl) ?_
   refine Wl.q rfl rfl (OpQ.assign rfl) ?_
   refine Wl.nil (PX.then_n ?_)
   refine CT.cond rfl (fun h15 => ?_) (fun h15 => ?_)
   ·
    have h15 := of_decide_eq_true h15
    refine CT.seq (CT.region ?_)
    refine Wl.q rfl rfl (OpQ.move rfl) ?_
    refine Wl.g rfl rfl (OpG.callX K12_go93 rfl .nil (fun _ => (.cons .nil)) (fun w hH hp => joinA_spec w ks ka kc (hH.stays0 hk) hs)) ?_
    rintro ⟨v18, bs18⟩ h18
    refine Wl.g rfl rfl (OpG.storeV (b := b4) K12_sz24 rfl rfl rfl rfl (by repeat (first | exact Upd.here | apply Upd.there))) ?_
    rintro _ _
    refine Wl.nil (PX.then_n (CT.ret (PX.block_r (PX.then_r ?_))))
    refine PX.retC rfl rfl (by repeat (first | exact Has.here | apply Has.there)) K12_ag24 K12_sz24 (by rfl) (fun w' hH => ?_)
    exact ⟨(v18, bs18), by rw [join_6 h7 h11 h15]; exact h18, rfl, HOk.post (hH.take (.cons .here .nil))⟩
   ·
    have h15 := of_decide_eq_false h15
    refine CT.skip (PX.block_n (PX.then_n (CT.seq (CT.seq (CT.region ?_)))))
    refine Wl.q rfl rfl (OpQ.move rfl) ?_
    refine Wl.q rfl rfl (OpQ.len K12_un22 rfl) ?_
    refine Wl.q rfl rfl (OpQ.neq rfl rfl) ?_
    refine Wl.nil (PX.then_n ?_)
    refine CT.cond rfl (fun h21 => ?_) (fun h21 => ?_)
    ·
     have h21 := of_nd_t h21
     refine CT.seq (CT.region ?_)
     refine Wl.q rfl rfl (OpQ.build (cells := #[.int .i64 0, .int .i64 0, .slice none 0 0]) K12_pl24 rfl rfl) ?_
     refine Wl.g rfl rfl (OpG.storeV (b := b4) K12_sz24 rfl rfl rfl rfl (by repeat (first | exact Upd.here | apply Upd.there))) ?_
     rintro _ _
     refine Wl.nil (PX.then_n (CT.ret (PX.then_r ?_)))
     refine PX.retC rfl rfl (by repeat (first | exact Has.here | apply Has.there)) K12_ag24 K12_sz24 (by rfl) (fun w' hH => ?_)
     exact ⟨(lfv 0 0, []), (by rw [join_n h7 h11 h15 (by rw [List.length_map]; omega)]; rfl), rfl, HOk.post (HOk.fx0 (A := AllM ks) (vs := [lfv 0 0]) (hH.take .nil) (fun w h => AllM.one.2 (lfv_m 0 0 w)))⟩
    ·
     have h21 := of_nd_f h21
     obtain ⟨x, rfl⟩ := List.length_eq_one_iff.1 (show ks.length = 1 by omega)
     have hxa : 0 < x.ks.length → x.a.isSome = true := fun h => (evm_iff.1 (hk.now.2.1 x List.mem_cons_self)).1.isSome (j := 0) (by rw [flat_len evc_len]; omega)
     refine CT.skip (PX.then_n (CT.seq (CT.region ?_)))
     refine Wl.q rfl rfl (OpQ.move rfl) ?_
     refine Wl.q rfl rfl (OpQ.index K12_un22 K12_sz24 rfl rfl (by omega) (hka (Nat.zero_lt_succ 0))) ?_
     refine Wl.q rfl rfl (OpQ.loadAggG (cs := evc ([x].getD 0 ev0)) K12_ag24 K12_sz24 rfl (fun w hH => (hH.use hk).1) (flat_cells evc_len [x] ev0 (by omega))) ?_
     refine Wl.know 25 (v' := evv x) rfl rfl ?_
     refine Wl.g rfl rfl (OpG.alloc (zs := [.int .i64 0, .int .i64 0, .slice none 0 0]) K12_in24 rfl rfl) ?_
     rintro b5 _
     refine Wl.g rfl rfl (OpG.storeV (b := b5) K12_sz24 rfl rfl rfl rfl (by repeat (first | exact Upd.here | apply Upd.there))) ?_
     rintro _ _
     refine Wl.nil (PX.then_n (CT.seq (CT.seq (CT.region ?_))))
     refine Wl.q rfl rfl (OpQ.move rfl) ?_
     refine Wl.nil (PX.then_n (CT.block (CT.seq (CT.region ?_))))
     refine Wl.q rfl rfl (OpQ.eql rfl rfl) ?_
     refine Wl.q rfl rfl (OpQ.assign rfl) ?_
     refine Wl.nil (PX.then_n ?_)
     refine CT.cond rfl (fun h27 => ?_) (fun h27 => ?_)
     ·
      have h27 := of_decide_eq_true h27
      refine CT.seq (CT.seq (CT.region ?_))
      refine Wl.q rfl rfl (OpQ.fieldAddr K12_fa24_0 rfl) ?_
      refine Wl.q rfl rfl (OpQ.loadF (b := b5) K12_sc3 rfl (by repeat (first | exact Has.here | apply Has.there)) (by rfl)) ?_
      refine Wl.q rfl rfl (OpQ.eql rfl rfl) ?_
      refine Wl.q rfl rfl (OpQ.move rfl) ?_
      refine Wl.split 32 rfl (fun hg32 => ?_) (fun hg32 => ?_)
      ·
       have hg32 := of_decide_eq_true hg32
       refine Wl.q rfl rfl (OpQ.fieldAddr K12_fa24_2 rfl) ?_
       refine Wl.q rfl rfl (OpQ.loadF (b := b5) K12_sc22 rfl (by repeat (first | exact Has.here | apply Has.there)) (by rfl)) ?_
       refine Wl.q rfl rfl (OpQ.len K12_un22 rfl) ?_
       refine Wl.q rfl rfl (OpQ.eql rfl rfl) ?_
       refine Wl.q rfl rfl (OpQ.pickT rfl rfl) ?_
       refine Wl.nil (PX.then_n ?_)
       refine CT.cond rfl (fun h37 => ?_) (fun h37 => ?_)
       ·
        have h37 := of_decide_eq_true h37
        refine CT.seq (CT.region ?_)
        refine Wl.q rfl rfl (OpQ.fieldAddr K12_fa24_2 rfl) ?_
        refine Wl.q rfl rfl (OpQ.loadF (b := b5) K12_sc22 rfl (by repeat (first | exact Has.here | apply Has.there)) (by rfl)) ?_
        refine Wl.q rfl rfl (OpQ.index K12_un22 K12_sz24 rfl rfl (by omega) (hxa (by omega))) ?_
        refine Wl.q rfl rfl (OpQ.loadAggG (cs := evc (x.ks.getD 0 ev0)) K12_ag24 K12_sz24 rfl (fun w hH => (evm_iff.1 ((hH.use hk).2.1 x List.mem_cons_self)).1) (flat_cells evc_len x.ks ev0 (by omega))) ?_
        refine Wl.know 41 (v' := evv (x.ks.getD 0 ev0)) rfl rfl ?_
        refine Wl.g rfl rfl (OpG.storeV (b := b4) K12_sz24 rfl rfl rfl rfl (by repeat (first | exact Upd.here | apply Upd.there))) ?_
        rintro _ _
        refine Wl.nil (PX.then_n (CT.ret (PX.then_r (PX.block_r (PX.then_r ?_)))))
        refine PX.retC rfl rfl (by repeat (first | exact Has.here | apply Has.there)) K12_ag24 K12_sz24 (by rfl) (fun w' hH => ?_)
        exact ⟨(x.ks.getD 0 ev0, []), (by show _ = join o [toE x]; rw [join_8 h27, jNot_in hg32 (by omega)]), rfl, HOk.post (HOk.fx0 (A := AllM [x]) (vs := [x.ks.getD 0 ev0]) (hH.take .nil) (fun w h => AllM.one.2 ((evm_iff.1 (h x List.mem_cons_self)).2.1 _ (kid_mem (show 0 < x.ks.length by omega)))))⟩
       ·
        have h37 := of_decide_eq_false h37
        refine CT.skip (PX.then_n (CT.seq (CT.region ?_)))
        refine Wl.q rfl rfl (OpQ.loadV (b := b5) K12_ag24 K12_sz24 rfl (by repeat (first | exact Has.here | apply Has.there)) (by rfl)) ?_
        refine Wl.know 42 (v' := evv x) rfl rfl ?_
        refine Wl.g rfl rfl (OpG.litS1 K12_un22 K12_in24 rfl (by decide) rfl) ?_
        rintro b43 _
        refine Wl.q rfl rfl (OpQ.build (cells := #[.int .i64 8, .int .i64 0, .slice (some ⟨b43, 0, none⟩) 1 1]) K12_pl24 rfl rfl) ?_
        refine Wl.g rfl rfl (OpG.storeV (b := b4) K12_sz24 rfl rfl rfl rfl (by repeat (first | exact Upd.here | apply Upd.there))) ?_
        rintro _ _
        refine Wl.nil (PX.then_n (CT.ret (PX.block_r (PX.then_r ?_))))
        refine PX.retC rfl rfl (by repeat (first | exact Has.here | apply Has.there)) K12_ag24 K12_sz24 (by rfl) (fun w' hH => ?_)
        exact ⟨(.mk 8 0 (some ⟨b43, 0, none⟩) 1 [x], _), (by show _ = join o [toE x]; rw [join_8 h27, jNot_out (fun hh => by omega)]; rfl), rfl, HOk.post (HOk.fxRow (A := AllM [x]) (us := [x]) (hH.take (.cons .here .nil)) (fun w h => h) (fun w _ hkn => evm_iff.2 hkn))⟩
      ·
       have hg32 := of_decide_eq_false hg32
       refine Wl.skip rfl rfl ?_
       refine Wl.skip rfl rfl ?_
       refine Wl.skip rfl rfl ?_
       refine Wl.skip rfl rfl ?_
       refine Wl.q rfl rfl (OpQ.pickF rfl rfl) ?_
       refine Wl.nil (PX.then_n ?_)
       refine CT.condF rfl ?_
       refine CT.skip (PX.then_n (CT.seq (CT.region ?_)))
       refine Wl.q rfl rfl (OpQ.loadV (b := b5) K12_ag24 K12_sz24 rfl (by repeat (first | exact Has.here | apply Has.there)) (by rfl)) ?_
       refine Wl.know 42 (v' := evv x) rfl rfl ?_
       refine Wl.g rfl rfl (OpG.litS1 K12_un22 K12_in24 rfl (by decide) rfl) ?_
       rintro b43 _
       refine Wl.q rfl rfl (OpQ.build (cells := #[.int .i64 8, .int .i64 0, .slice (some ⟨b43, 0, none⟩) 1 1]) K12_pl24 rfl rfl) ?_
       refine Wl.g rfl rfl (OpG.storeV (b := b4) K12_sz24 rfl rfl rfl rfl (by repeat (first | exact Upd.here | apply Upd.there))) ?_
       rintro _ _
       refine Wl.nil (PX.then_n (CT.ret (PX.block_r (PX.then_r ?_))))
       refine PX.retC rfl rfl (by repeat (first | exact Has.here | apply Has.there)) K12_ag24 K12_sz24 (by rfl) (fun w' hH => ?_)
       exact ⟨(.mk 8 0 (some ⟨b43, 0, none⟩) 1 [x], _), (by show _ = join o [toE x]; rw [join_8 h27, jNot_out (fun hh => hg32 hh.1)]; rfl), rfl, HOk.post (HOk.fxRow (A := AllM [x]) (us := [x]) (hH.take (.cons .here .nil)) (fun w h => h) (fun w _ hkn => evm_iff.2 hkn))⟩
     ·
      have h27 := of_decide_eq_false h27
      refine CT.seq (CT.region ?_)
      refine Wl.q rfl rfl (OpQ.eql rfl rfl) ?_
      refine Wl.q rfl rfl (OpQ.assign rfl) ?_
      refine Wl.nil (PX.then_n ?_)
      refine CT.cond rfl (fun h45 => ?_) (fun h45 => ?_)
      ·
       have h45 := of_decide_eq_true h45
       refine CT.seq (CT.block (CT.seq (CT.region ?_)))
       refine Wl.q rfl rfl (OpQ.fieldAddr K12_fa24_0 rfl) ?_
       refine Wl.q rfl rfl (OpQ.loadF (b := b5) K12_sc3 rfl (by repeat (first | exact Has.here | apply Has.there)) (by rfl)) ?_
       refine Wl.q rfl rfl (OpQ.eql rfl rfl) ?_
       refine Wl.q rfl rfl (OpQ.move rfl) ?_
       refine Wl.split 51 rfl (fun hg51 => ?_) (fun hg51 => ?_)
       ·
        have hg51 := of_decide_eq_true hg51
        refine Wl.skip rfl rfl ?_
        refine Wl.skip rfl rfl ?_
        refine Wl.skip rfl rfl ?_
        refine Wl.q rfl rfl (OpQ.pickT rfl rfl) ?_
        refine Wl.q rfl rfl (OpQ.assign rfl) ?_
        refine Wl.nil (PX.then_n ?_)
        refine CT.condT rfl ?_
        refine CT.seq (CT.region ?_)
        refine Wl.g rfl rfl (OpG.callV K12_go94 rfl (fun w hH => unit_spec' w)) ?_
        rintro _ _
        refine Wl.g rfl rfl (OpG.storeV (b := b4) K12_sz24 rfl rfl rfl rfl (by repeat (first | exact Upd.here | apply Upd.there))) ?_
        rintro _ _
        refine Wl.nil (PX.then_n (CT.ret (PX.block_r (PX.then_r (PX.block_r (PX.then_r ?_))))))
        refine PX.retC rfl rfl (by repeat (first | exact Has.here | apply Has.there)) K12_ag24 K12_sz24 (by rfl) (fun w' hH => ?_)
        exact ⟨(lfv 2 0, []), (by show _ = join o [toE x]; rw [join_7 h45, jStar_u (.inl hg51)]; rfl), rfl, HOk.post (HOk.fx0 (A := AllM [x]) (vs := [lfv 2 0]) (hH.take .nil) (fun w h => AllM.one.2 (lfv_m 2 0 w)))⟩
       ·
        have hg51 := of_decide_eq_false hg51
        refine Wl.q rfl rfl (OpQ.fieldAddr K12_fa24_0 rfl) ?_
        refine Wl.q rfl rfl (OpQ.loadF (b := b5) K12_sc3 rfl (by repeat (first | exact Has.here | apply Has.there)) (by rfl)) ?_
        refine Wl.q rfl rfl (OpQ.eql rfl rfl) ?_
        refine Wl.q rfl rfl (OpQ.pickF rfl rfl) ?_
        refine Wl.q rfl rfl (OpQ.assign rfl) ?_
        refine Wl.nil (PX.then_n ?_)
        refine CT.cond rfl (fun h47 => ?_) (fun h47 => ?_)
        ·
         have h47 := of_decide_eq_true h47
         refine CT.seq (CT.region ?_)
         refine Wl.g rfl rfl (OpG.callV K12_go94 rfl (fun w hH => unit_spec' w)) ?_
         rintro _ _
         refine Wl.g rfl rfl (OpG.storeV (b := b4) K12_sz24 rfl rfl rfl rfl (by repeat (first | exact Upd.here | apply Upd.there))) ?_
         rintro _ _
         refine Wl.nil (PX.then_n (CT.ret (PX.block_r (PX.then_r (PX.block_r (PX.then_r ?_))))))
         refine PX.retC rfl rfl (by repeat (first | exact Has.here | apply Has.there)) K12_ag24 K12_sz24 (by rfl) (fun w' hH => ?_)
         exact ⟨(lfv 2 0, []), (by show _ = join o [toE x]; rw [join_7 h45, jStar_u (.inr h47)]; rfl), rfl, HOk.post (HOk.fx0 (A := AllM [x]) (vs := [lfv 2 0]) (hH.take .nil) (fun w h => AllM.one.2 (lfv_m 2 0 w)))⟩
        ·
         have h47 := of_decide_eq_false h47
         refine CT.seq (CT.region ?_)
         refine Wl.q rfl rfl (OpQ.fieldAddr K12_fa24_0 rfl) ?_
         refine Wl.q rfl rfl (OpQ.loadF (b := b5) K12_sc3 rfl (by repeat (first | exact Has.here | apply Has.there)) (by rfl)) ?_
         refine Wl.q rfl rfl (OpQ.eql rfl rfl) ?_
         refine Wl.q rfl rfl (OpQ.move rfl) ?_
         refine Wl.split 61 rfl (fun hg61 => ?_) (fun hg61 => ?_)
         ·
          have hg61 := of_decide_eq_true hg61
          refine Wl.skip rfl rfl ?_
          refine Wl.skip rfl rfl ?_
          refine Wl.q rfl rfl (OpQ.pickT rfl rfl) ?_
          refine Wl.q rfl rfl (OpQ.assign rfl) ?_
          refine Wl.nil (PX.then_n ?_)
          refine CT.condT rfl ?_
          refine CT.seq (CT.region ?_)
          refine Wl.q rfl rfl (OpQ.loadV (b := b5) K12_ag24 K12_sz24 rfl (by repeat (first | exact Has.here | apply Has.there)) (by rfl)) ?_
          refine Wl.know 65 (v' := evv x) rfl rfl ?_
          refine Wl.g rfl rfl (OpG.storeV (b := b4) K12_sz24 rfl rfl rfl rfl (by repeat (first | exact Upd.here | apply Upd.there))) ?_
          rintro _ _
          refine Wl.nil (PX.then_n (CT.ret (PX.block_r (PX.then_r (PX.block_r (PX.then_r ?_))))))
          refine PX.retC rfl rfl (by repeat (first | exact Has.here | apply Has.there)) K12_ag24 K12_sz24 (by rfl) (fun w' hH => ?_)
          exact ⟨(x, []), (by show _ = join o [toE x]; rw [join_7 h45, jStar_k (by omega) (.inl hg61)]), rfl, HOk.post (HOk.fx0 (A := AllM [x]) (vs := [x]) (hH.take .nil) (fun w h => AllM.one.2 (h x List.mem_cons_self)))⟩
         ·
          have hg61 := of_decide_eq_false hg61
          refine Wl.q rfl rfl (OpQ.loadV (b := b5) K12_ag24 K12_sz24 rfl (by repeat (first | exact Has.here | apply Has.there)) (by rfl)) ?_
          refine Wl.know 62 (v' := evv x) rfl rfl ?_
          refine Wl.g rfl rfl (OpG.callV K12_go95 rfl (fun w hH => isUniv_spec w x ((hH.stays0 hk).mono (fun w h => h.2.1 x List.mem_cons_self)))) ?_
          rintro _ _
          refine Wl.q rfl rfl (OpQ.pickF rfl rfl) ?_
          refine Wl.q rfl rfl (OpQ.assign rfl) ?_
          refine Wl.nil (PX.then_n ?_)
          refine CT.cond rfl (fun h57 => ?_) (fun h57 => ?_)
          ·
           refine CT.seq (CT.region ?_)
           refine Wl.q rfl rfl (OpQ.loadV (b := b5) K12_ag24 K12_sz24 rfl (by repeat (first | exact Has.here | apply Has.there)) (by rfl)) ?_
           refine Wl.know 65 (v' := evv x) rfl rfl ?_
           refine Wl.g rfl rfl (OpG.storeV (b := b4) K12_sz24 rfl rfl rfl rfl (by repeat (first | exact Upd.here | apply Upd.there))) ?_
           rintro _ _
           refine Wl.nil (PX.then_n (CT.ret (PX.block_r (PX.then_r (PX.block_r (PX.then_r ?_))))))
           refine PX.retC rfl rfl (by repeat (first | exact Has.here | apply Has.there)) K12_ag24 K12_sz24 (by rfl) (fun w' hH => ?_)
           exact ⟨(x, []), (by show _ = join o [toE x]; rw [join_7 h45, jStar_k (by omega) (.inr h57)]), rfl, HOk.post (HOk.fx0 (A := AllM [x]) (vs := [x]) (hH.take .nil) (fun w h => AllM.one.2 (h x List.mem_cons_self)))⟩
          ·
           refine CT.skip (PX.block_n (PX.then_n (CT.seq (CT.region ?_))))
           refine Wl.q rfl rfl (OpQ.loadV (b := b5) K12_ag24 K12_sz24 rfl (by repeat (first | exact Has.here | apply Has.there)) (by rfl)) ?_
           refine Wl.know 66 (v' := evv x) rfl rfl ?_
           refine Wl.g rfl rfl (OpG.litS1 K12_un22 K12_in24 rfl (by decide) rfl) ?_
           rintro b67 _
           refine Wl.q rfl rfl (OpQ.build (cells := #[.int .i64 7, .int .i64 0, .slice (some ⟨b67, 0, none⟩) 1 1]) K12_pl24 rfl rfl) ?_
           refine Wl.g rfl rfl (OpG.storeV (b := b4) K12_sz24 rfl rfl rfl rfl (by repeat (first | exact Upd.here | apply Upd.there))) ?_
           rintro _ _
           refine Wl.nil (PX.then_n (CT.ret (PX.block_r (PX.then_r ?_))))
           refine PX.retC rfl rfl (by repeat (first | exact Has.here | apply Has.there)) K12_ag24 K12_sz24 (by rfl) (fun w' hH => ?_)
           exact ⟨(.mk 7 0 (some ⟨b67, 0, none⟩) 1 [x], _), (by show _ = join o [toE x]; rw [join_7 h45, jStar_n (by omega) (fun hh => hh.elim hg61 (fun hh => Bool.noConfusion (hh.symm.trans h57)))]; rfl), rfl, HOk.post (HOk.fxRow (A := AllM [x]) (us := [x]) (hH.take (.cons .here .nil)) (fun w h => h) (fun w _ hkn => evm_iff.2 hkn))⟩
      ·
       have h45 := of_decide_eq_false h45
       refine CT.skip (PX.block_n (PX.then_n (CT.seq (CT.region ?_))))
       refine Wl.q rfl rfl (OpQ.build (cells := #[.int .i64 0, .int .i64 0, .slice none 0 0]) K12_pl24 rfl rfl) ?_
       refine Wl.g rfl rfl (OpG.storeV (b := b4) K12_sz24 rfl rfl rfl rfl (by repeat (first | exact Upd.here | apply Upd.there))) ?_
       rintro _ _
       refine Wl.nil (PX.then_n (CT.ret ?_))
       refine PX.retC rfl rfl (by repeat (first | exact Has.here | apply Has.there)) K12_ag24 K12_sz24 (by rfl) (fun w' hH => ?_)
       exact ⟨(lfv 0 0, []), (by show _ = join o [toE x]; rw [join_0 h7 h11 h15 h45 h27]; rfl), rfl, HOk.post (HOk.fx0 (A := AllM [x]) (vs := [lfv 0 0]) (hH.take .nil) (fun w h => AllM.one.2 (lfv_m 0 0 w)))⟩

theorem K12_fa24_1 : fieldB Tryz.prog 24 1 = some 1 := by kernel_rfl
theorem K12_go39 : isGo Tryz.prog 39 = true := by kernel_rfl
theorem K12_go64 : isGo Tryz.prog 64 = true := by kernel_rfl
set_option maxRecDepth 100000 in
/-- semigroup/expr.Simplify -/
theorem simplifyI (w : World) (v : Xv) (ih : ∀ k ∈ v.ks, ∀ w : World, szE (toE k) ≤ 1000000000 → wf 6 (toE k) = true → Stays [] w (evm k) → Calls Tryz.prog 39 #[evv k] w (fun e w' => ∃ i : Xv × List Nat, (toE i.1 = simp (toE k)) ∧ e = .returned (evv i.1) ∧ Post [] [fx (AllM [k]) [i.1] i.2] w w')) (hz : szE (toE v) ≤ 1000000000) (hw : wf 6 (toE v) = true) (hv : Stays [] w (evm v)) : Calls Tryz.prog 39 #[evv v] w (fun e w' => ∃ i : Xv × List Nat, (toE i.1 = simp (toE v)) ∧ e = .returned (evv i.1) ∧ Post [] [fx (AllM [v]) [i.1] i.2] w w') := by
 have hva : 0 < v.ks.length → v.a.isSome = true := fun h => (evm_iff.1 hv.now).1.isSome (j := 0) (by rw [flat_len evc_len]; omega)
 have hvl := (evm_iff.1 hv.now).2.2
 have hkn := kids_len v
 refine enter (args := [evv v]) [] 37 Tryz.func39 rfl rfl rfl ?_
 refine CT.seq (CT.region ?_)
 refine Wl.g rfl rfl (OpG.box (size := 3) rfl rfl rfl) ?_
 rintro b1 _
 refine Wl.g rfl rfl (OpG.alloc (zs := [.int .i64 0, .int .i64 0, .slice none 0 0]) K12_in24 rfl rfl) ?_
 rintro b2 _
 refine Wl.nil (PX.then_n (CT.seq (CT.seq (CT.region ?_))))
 refine Wl.q rfl rfl (OpQ.fieldAddr K12_fa24_2 rfl) ?_
 refine Wl.q rfl rfl (OpQ.loadF (b := b1) K12_sc22 rfl (by repeat (first | exact Has.here | apply Has.there)) (by rfl)) ?_
 refine Wl.q rfl rfl (OpQ.len K12_un22 rfl) ?_
 refine Wl.q rfl rfl (OpQ.eql rfl rfl) ?_
 refine Wl.nil (PX.then_n ?_)
 refine CT.cond rfl (fun h9 => ?_) (fun h9 => ?_)
 ·
  have h9 := of_decide_eq_true h9
  refine CT.seq (CT.region ?_)
  refine Wl.q rfl rfl (OpQ.fieldAddr K12_fa24_0 rfl) ?_
  refine Wl.q rfl rfl (OpQ.loadF (b := b1) K12_sc3 rfl (by repeat (first | exact Has.here | apply Has.there)) (by rfl)) ?_
  refine Wl.q rfl rfl (OpQ.fieldAddr K12_fa24_1 rfl) ?_
  refine Wl.q rfl rfl (OpQ.loadF (b := b1) K12_sc3 rfl (by repeat (first | exact Has.here | apply Has.there)) (by rfl)) ?_
  refine Wl.q rfl rfl (OpQ.build (cells := #[.int .i64 v.op, .int .i64 v.lt, .slice none 0 0]) K12_pl24 rfl rfl) ?_
  refine Wl.g rfl rfl (OpG.storeV (b := b2) K12_sz24 rfl rfl rfl rfl (by repeat (first | exact Upd.here | apply Upd.there))) ?_
  rintro _ _
  refine Wl.nil (PX.then_n (CT.ret (PX.then_r ?_)))
  refine PX.retC rfl rfl (by repeat (first | exact Has.here | apply Has.there)) K12_ag24 K12_sz24 (by rfl) (fun w' hH => ?_)
  exact ⟨(lfv v.op v.lt, []), simp_toE_nil (by omega), rfl, HOk.post (HOk.fx0 (A := AllM [v]) (vs := [lfv v.op v.lt]) (hH.take .nil) (fun w h => AllM.one.2 (lfv_m _ _ w)))⟩
 ·
  have h9 := of_decide_eq_false h9
  refine CT.skip (PX.then_n (CT.seq (CT.region ?_)))
  refine Wl.q rfl rfl (OpQ.fieldAddr K12_fa24_2 rfl) ?_
  refine Wl.q rfl rfl (OpQ.loadF (b := b1) K12_sc22 rfl (by repeat (first | exact Has.here | apply Has.there)) (by rfl)) ?_
  refine Wl.q rfl rfl (OpQ.len K12_un22 rfl) ?_
  refine Wl.g rfl rfl (OpG.makeN K12_un22 K12_in24 rfl rfl (by decide) rfl rfl rfl (by omega) (by omega)) ?_
  rintro b18 _
  refine Wl.q rfl rfl (OpQ.assign rfl) ?_
  refine Wl.nil (PX.then_n (CT.seq (CT.seq (CT.region ?_))))
  refine Wl.q rfl rfl (OpQ.fieldAddr K12_fa24_2 rfl) ?_
  refine Wl.q rfl rfl (OpQ.loadF (b := b1) K12_sc22 rfl (by repeat (first | exact Has.here | apply Has.there)) (by rfl)) ?_
  refine Wl.q rfl rfl (OpQ.len K12_un22 rfl) ?_
  refine Wl.q rfl rfl (OpQ.move rfl) ?_
  refine Wl.nil (PX.then_n (CT.block ?_))
  refine CT.as (fun w hH => hH.fx0 (A := AllM [v]) (vs := List.replicate v.ks.length ev0) (fun w _ x hx => by rw [(List.mem_replicate.1 hx).2]; exact ev0_m w)) ?_
  refine CT.loop (ι := Nat × List Xv × List Nat) (fun (k, L, bs) => k ≤ v.ks.length ∧ L.length = v.ks.length ∧ ∀ j, j < k → toE (L.getD j ev0) = simp (toE (v.ks.getD j ev0))) (fun (k, L, bs) => [(1, .pointer (some ⟨b1, 0, none⟩)), (2, .pointer (some ⟨b2, 0, none⟩)), (3, .slice (some ⟨b18, 0, none⟩) v.ks.length v.ks.length), (20, .slice v.a v.ks.length v.c), (21, .int .i64 ((v.ks.length : Nat) : Int)), (22, .int .i64 ((k : Nat) : Int))]) (fun (k, L, bs) => [fx (AllM [v]) L bs, .row 24 3 (.slice (some ⟨b18, 0, none⟩) v.ks.length v.ks.length) v.ks.length ((L).flatMap evc), .row 24 3 (vb b2) 1 [.int .i64 0, .int .i64 0, .slice none 0 0], .row 24 3 (vb b1) 1 (evc v)]) (fun (k, L, bs) => v.ks.length - k) (0, List.replicate v.ks.length ev0, []) ⟨Nat.zero_le _, List.length_replicate, fun j hj => absurd hj (Nat.not_lt_zero j)⟩ ⟨rfl, rfl, rfl, rfl, rfl, rfl, trivial⟩ (.keep rfl (.keep (row_eq (repl_evc _).symm) (HSub.refl _))) (fun ⟨k, L, bs⟩ ⟨hk, hl, hj⟩ K0 hK0 => ?_)
  dsimp only
  refine CT.seq (CT.region ?_)
  refine Wl.q rfl rfl (OpQ.lss rfl rfl) ?_
  refine Wl.nil (PX.then_n (CT.seq ?_))
  refine CT.cond rfl (fun h23 => ?_) (fun h23 => ?_)
  ·
   have h23 := of_decide_eq_true h23
   refine CT.skip (PX.then_n (CT.seq (CT.block (CT.seq (CT.region ?_)))))
   refine Wl.q rfl rfl (OpQ.move rfl) ?_
   have hkl : k < v.ks.length := by omega
   refine Wl.q rfl rfl (OpQ.index K12_un22 K12_sz24 rfl rfl (by omega) (hva (by omega))) ?_
   refine Wl.q rfl rfl (OpQ.loadAggG (cs := evc (v.ks.getD k ev0)) K12_ag24 K12_sz24 rfl (fun w hH => (evm_iff.1 (hH.use hv)).1) (flat_cells evc_len v.ks ev0 (by omega))) ?_
   refine Wl.know 26 (v' := evv (v.ks.getD k ev0)) rfl rfl ?_
   refine Wl.g rfl rfl (OpG.alloc (zs := [.int .i64 0, .int .i64 0, .slice none 0 0]) K12_in24 rfl rfl) ?_
   rintro b5 _
   refine Wl.q rfl rfl (OpQ.assign rfl) ?_
   refine Wl.g rfl rfl (OpG.storeV (b := b5) K12_sz24 rfl rfl rfl rfl (by repeat (first | exact Upd.here | apply Upd.there))) ?_
   rintro _ _
   refine Wl.nil (PX.then_n (CT.region ?_))
   refine Wl.q rfl rfl (OpQ.move rfl) ?_
   refine Wl.q rfl rfl (OpQ.move rfl) ?_
   refine Wl.q rfl rfl (OpQ.loadV (b := b5) K12_ag24 K12_sz24 rfl (by repeat (first | exact Has.here | apply Has.there)) (by rfl)) ?_
   refine Wl.know 29 (v' := evv (v.ks.getD k ev0)) rfl rfl ?_
   refine Wl.g rfl rfl (OpG.callX K12_go39 rfl .nil (fun _ => (.cons .nil)) (fun w hH hp => ih _ (kid_mem hkl) w (by have := kid_sz (kid_mem hkl); omega) (wf_kid hw _ (kid_mem hkl)) ((hH.stays0 hv).mono (fun w h => (evm_iff.1 h).2.1 _ (kid_mem hkl))))) ?_
   rintro ⟨r30, bs30⟩ h30
   refine Wl.q rfl rfl (OpQ.index K12_un22 K12_sz24 rfl rfl (by omega) rfl) ?_
   refine Wl.g rfl rfl (OpG.storeAggRow (xs := L.flatMap evc) (j := k * 3) (cs := evc r30) K12_sz24 rfl rfl rfl (by rw [evcs_len, evc_len]; omega) (by rw [evc_len]; decide) (by repeat (first | exact Upd.here | apply Upd.there))) ?_
   rintro _ _
   refine Wl.nil (PX.block_n (PX.then_n (CT.region ?_)))
   refine Wl.q rfl rfl (OpQ.add rfl rfl (by omega)) ?_
   refine Wl.q rfl rfl (OpQ.move rfl) ?_
   refine Wl.nil ?_
   refine PX.as (fun _ h => ((h.take (.cons .here (.cons (.there .here) (.cons (.there .here) (.cons (.there .here) (.cons (.there .here) .nil)))))).fxAddA (us := [v.ks.getD k ev0]) (fun w h => AllM.one.2 ((evm_iff.1 (AllM.one.1 h)).2.1 _ (kid_mem hkl)))).fxLess (us := L.set k r30) (fun w h => set_m h)) ?_
   exact PX.loop hK0 (k + 1, L.set k r30, _) ⟨by omega, by rw [List.length_set]; exact hl, at_s (p := fun j => simp (toE (v.ks.getD j ev0))) (by omega) hj h30⟩ (show v.ks.length - (k + 1) < v.ks.length - k by omega) ⟨rfl, rfl, rfl, rfl, rfl, rfl, trivial⟩ (.keep rfl (.keep (row_eq (evcs_set (by omega) _).symm) (HSub.refl _)))
  ·
   have h23 := of_decide_eq_false h23
   refine CT.exit (PX.then_x (PX.then_x (PX.block_x (PX.then_n (CT.seq (CT.region ?_))))))
   refine Wl.q rfl rfl (OpQ.fieldAddr K12_fa24_0 rfl) ?_
   refine Wl.q rfl rfl (OpQ.loadF (b := b1) K12_sc3 rfl (by repeat (first | exact Has.here | apply Has.there)) (by rfl)) ?_
   obtain rfl : k = v.ks.length := by omega
   refine Wl.q rfl rfl (OpQ.move rfl) ?_
   refine Wl.know 35 (v' := .slice (some ⟨b18, 0, none⟩) L.length v.ks.length) rfl (by rw [hl]) ?_
   refine Wl.g rfl rfl (OpG.callX K12_go64 rfl .nil (fun _ => (.cons .nil)) (fun w hH hp => join_spec w v.op L (some ⟨b18, 0, none⟩) v.ks.length (hH.kinS (.there .here) (fun w' he => (hH.staysK0 .here).frag w' he (((hH.stays0 hv).mono (fun w h => AllM.one.2 h)) w' he))) (Nat.le_of_lt (Nat.lt_of_lt_of_le (simp_res_sz hw hl hj) hz)))) ?_
   rintro ⟨r36, bs36⟩ h36
   refine Wl.g rfl rfl (OpG.storeV (b := b2) K12_sz24 rfl rfl rfl rfl (by repeat (first | exact Upd.here | apply Upd.there))) ?_
   rintro _ _
   refine Wl.nil (PX.then_n (CT.ret ?_))
   refine PX.retC rfl rfl (by repeat (first | exact Has.here | apply Has.there)) K12_ag24 K12_sz24 (by rfl) (fun w' hH => ?_)
   exact ⟨(r36, blks [fx (AllM L) [r36] bs36, fx (AllM [v]) L bs]), (show toE r36 = _ from h36.trans (simp_toE (by omega) hl hj)), rfl, HOk.post (((hH.take (.cons .here (.cons .here .nil))).fxAdd (us := L) (fun w h => h)).fxLess (us := [r36]) (fun w h => AllM.one.2 (h r36 List.mem_cons_self)))⟩
theorem simplify_spec (v : Xv) : ∀ w : World, szE (toE v) ≤ 1000000000 → wf 6 (toE v) = true → Stays [] w (evm v) → Calls Tryz.prog 39 #[evv v] w (fun e w' => ∃ i : Xv × List Nat, (toE i.1 = simp (toE v)) ∧ e = .returned (evv i.1) ∧ Post [] [fx (AllM [v]) [i.1] i.2] w w') := Xv.ind (p := fun v => ∀ w : World, szE (toE v) ≤ 1000000000 → wf 6 (toE v) = true → Stays [] w (evm v) → Calls Tryz.prog 39 #[evv v] w (fun e w' => ∃ i : Xv × List Nat, (toE i.1 = simp (toE v)) ∧ e = .returned (evv i.1) ∧ Post [] [fx (AllM [v]) [i.1] i.2] w w')) (fun v ih w hz hw hv => simplifyI w v ih hz hw hv) v

theorem K12_go38 : isGo Tryz.prog 38 = true := by kernel_rfl
set_option maxRecDepth 100000 in
/-- semigroup/expr.Normal -/
theorem normal_spec (w : World) (v : Xv) (hv : Stays [] w (evm v)) : Calls Tryz.prog 21 #[evv v] w (fun e w' => ∃ i : Xv × List Nat, (toE i.1 = if vdE 6 (toE v) = 0 then simp (toE v) else zeroE) ∧ e = .returned (evv i.1) ∧ Post [] [fx (AllM [v]) [i.1] i.2] w w') := by
 refine enter (args := [evv v]) [] 9 Tryz.func21 rfl rfl rfl ?_
 refine CT.seq (CT.region ?_)
 refine Wl.g rfl rfl (OpG.box (size := 3) rfl rfl rfl) ?_
 rintro b1 _
 refine Wl.g rfl rfl (OpG.alloc (zs := [.int .i64 0, .int .i64 0, .slice none 0 0]) K12_in24 rfl rfl) ?_
 rintro b2 _
 refine Wl.nil (PX.then_n (CT.seq (CT.seq (CT.region ?_))))
 refine Wl.q rfl rfl (OpQ.loadV (b := b1) K12_ag24 K12_sz24 rfl (by repeat (first | exact Has.here | apply Has.there)) (by rfl)) ?_
 refine Wl.know 3 (v' := evv v) rfl rfl ?_
 refine Wl.g rfl rfl (OpG.callV K12_go38 rfl (fun w hH => exok_spec w v (hH.stays0 hv))) ?_
 rintro _ _
 refine Wl.q rfl rfl (OpQ.not rfl) ?_
 refine Wl.nil (PX.then_n ?_)
 refine CT.cond rfl (fun h5 => ?_) (fun h5 => ?_)
 ·
  have h5 : ¬ vdE 6 (toE v) = 0 := by simpa using h5
  refine CT.seq (CT.region ?_)
  refine Wl.q rfl rfl (OpQ.build (cells := #[.int .i64 0, .int .i64 0, .slice none 0 0]) K12_pl24 rfl rfl) ?_
  refine Wl.g rfl rfl (OpG.storeV (b := b2) K12_sz24 rfl rfl rfl rfl (by repeat (first | exact Upd.here | apply Upd.there))) ?_
  rintro _ _
  refine Wl.nil (PX.then_n (CT.ret (PX.then_r ?_)))
  refine PX.retC rfl rfl (by repeat (first | exact Has.here | apply Has.there)) K12_ag24 K12_sz24 (by rfl) (fun w' hH => ?_)
  exact ⟨(lfv 0 0, []), by rw [if_neg h5]; rfl, rfl, HOk.post (HOk.fx0 (A := AllM [v]) (vs := [lfv 0 0]) (hH.take .nil) (fun w h => AllM.one.2 (lfv_m _ _ w)))⟩
 ·
  have h5 : vdE 6 (toE v) = 0 := by simpa using h5
  obtain ⟨_, hlim, hw⟩ := vdE_zero.1 h5
  have hlim := (inLim_iff.1 hlim).1
  refine CT.skip (PX.then_n (CT.seq (CT.region ?_)))
  refine Wl.q rfl rfl (OpQ.loadV (b := b1) K12_ag24 K12_sz24 rfl (by repeat (first | exact Has.here | apply Has.there)) (by rfl)) ?_
  refine Wl.know 7 (v' := evv v) rfl rfl ?_
  refine Wl.g rfl rfl (OpG.callX K12_go39 rfl .nil (fun _ => (.cons .nil)) (fun w hH hp => simplify_spec v w (by omega) hw (hH.stays0 hv))) ?_
  rintro ⟨r8, bs8⟩ h8
  refine Wl.g rfl rfl (OpG.storeV (b := b2) K12_sz24 rfl rfl rfl rfl (by repeat (first | exact Upd.here | apply Upd.there))) ?_
  rintro _ _
  refine Wl.nil (PX.then_n (CT.ret ?_))
  refine PX.retC rfl rfl (by repeat (first | exact Has.here | apply Has.there)) K12_ag24 K12_sz24 (by rfl) (fun w' hH => ?_)
  exact ⟨(r8, bs8), by rw [if_pos h5]; exact h8, rfl, HOk.post (hH.take (.cons .here .nil))⟩

end Go.Proofs.YtmggcdegekbncabGreatDoor

