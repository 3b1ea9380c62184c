/-
  What functions of the program compute, each by its walk. Conditions: those that each theorem names.
-/
import Derived.Test.YtmggcdegekbncabGreatDoorXGB7
import Derived.Test.YtmggcdegekbncabGreatDoorXF
set_option linter.unusedSimpArgs false
namespace Go.Proofs.YtmggcdegekbncabGreatDoor
open Go Go.Eng Go.Am Go.Ex
open Go.Tp (zi)
open Go.Tl (mayL Wd okW okB bo)
open Go.Ex.simp (simpL)
open Go.Ex.dv (dvL dvC)
open Go.Ex.hasU (hasAny hasAll)
open Go.Ex.wf (wfL)
open Go.Ex.szE (szL)
open Go.Ex.dpE (dpL)
open Go.Ex.cmpE (cmpL)
open Go.Ex.fmtE (fmtK fmtR)
theorem K8_sc3 : scalarB Tryz.prog 3 = some true := by kernel_rfl
theorem K8_sz3 : sizeB Tryz.prog 3 = some 1 := by kernel_rfl
theorem K8_fa24_2 : fieldB Tryz.prog 24 2 = some 2 := by kernel_rfl
theorem K8_sc22 : scalarB Tryz.prog 22 = some true := by kernel_rfl
theorem K8_un22 : Tryz.prog.underlying 22 = some (.slice 24) := by kernel_rfl
theorem K8_sz24 : sizeB Tryz.prog 24 = some 3 := by kernel_rfl
theorem K8_ag24 : isAggB Tryz.prog 24 = some true := by kernel_rfl
theorem K8_in24 : (Tryz.prog.info? 24).map (fun i => (i.zero, i.size, i.bytes)) = some (some (.agg #[.int .i64 0, .int .i64 0, .slice none 0 0]), 3, 40) := by kernel_rfl
theorem K8_go69 : isGo Tryz.prog 69 = true := by kernel_rfl
set_option maxRecDepth 100000 in
/-- semigroup/expr.fits -/
theorem fitsI (w : World) (pb : Nat) (v : Xv) (ih : ∀ k ∈ v.ks, ∀ w : World, ∀ (d n : Nat), d ≤ 1000 → n ≤ 100000 → Stays [pb] w (evm k) → Pre [.row 3 1 (vb pb) 1 [.int .i64 ((n : Nat) : Int)]] w → Calls Tryz.prog 69 #[evv k, .int .i64 ((d : Nat) : Int), .pointer (some ⟨pb, 0, none⟩)] w (fun e w' => ∃ n' : Nat, (fitB k n d = true → n' + szE (toE k) = n) ∧ e = .returned (.bool (fitB k n d)) ∧ Post [pb] [.row 3 1 (vb pb) 1 [.int .i64 ((n' : Nat) : Int)]] w w')) (d n : Nat) (hd : d ≤ 1000) (hn : n ≤ 100000) (hv : Stays [pb] w (evm v)) (hpre : Pre [.row 3 1 (vb pb) 1 [.int .i64 ((n : Nat) : Int)]] w) : Calls Tryz.prog 69 #[evv v, .int .i64 ((d : Nat) : Int), .pointer (some ⟨pb, 0, none⟩)] w (fun e w' => ∃ n' : Nat, (fitB v n d = true → n' + szE (toE v) = n) ∧ e = .returned (.bool (fitB v n d)) ∧ Post [pb] [.row 3 1 (vb pb) 1 [.int .i64 ((n' : Nat) : Int)]] w w') := by
 have hva : 0 < v.ks.length → v.a.isSome = true := fun h => (evm_iff.1 hv.now).1.isSome (j := 0) (by rw [flat_len evc_len]; omega)
 have hvl := (evm_iff.1 hv.now).2.2
 refine enterX (args := [evv v, .int .i64 ((d : Nat) : Int), .pointer (some ⟨pb, 0, none⟩)]) hpre 36 Tryz.func69 rfl rfl rfl ?_
 refine CT.seq (CT.region ?_)
 refine Wl.g rfl rfl (OpG.box (size := 3) rfl rfl rfl) ?_
 rintro b3 _
 refine Wl.q rfl rfl (OpQ.assign rfl) ?_
 refine Wl.nil (PX.then_n (CT.seq (CT.seq (CT.region ?_))))
 refine Wl.q rfl rfl (OpQ.move rfl) ?_
 refine Wl.q rfl rfl (OpQ.eql rfl rfl) ?_
 refine Wl.q rfl rfl (OpQ.move rfl) ?_
 refine Wl.split 11 rfl (fun hg11 => ?_) (fun hg11 => ?_)
 ·
  have hg11 := of_decide_eq_true hg11
  refine Wl.skip rfl rfl ?_
  refine Wl.skip rfl rfl ?_
  refine Wl.skip rfl rfl ?_
  refine Wl.skip rfl rfl ?_
  refine Wl.q rfl rfl (OpQ.pickT rfl rfl) ?_
  refine Wl.nil (PX.then_n ?_)
  refine CT.condT rfl ?_
  refine CT.seq (CT.region ?_)
  refine Wl.q rfl rfl (OpQ.assign rfl) ?_
  refine Wl.nil (PX.then_n (CT.ret (PX.then_r ?_)))
  refine PX.ret1 rfl rfl (fun w' hH => ?_)
  have hf : fitB v n d = false := fit_zero (by omega)
  exact ⟨n, (fun h => by rw [hf] at h; cases h), by rw [hf], HOk.post (hH.take (.cons (.there .here) .nil))⟩
 ·
  have hg11 := of_decide_eq_false hg11
  refine Wl.q rfl rfl (OpQ.move rfl) ?_
  refine Wl.q rfl rfl (OpQ.nilCheckP rfl) ?_
  refine Wl.q rfl rfl (OpQ.loadV1 (b := pb) K8_sc3 rfl (by repeat (first | exact Has.here | apply Has.there))) ?_
  refine Wl.q rfl rfl (OpQ.eql rfl rfl) ?_
  refine Wl.q rfl rfl (OpQ.pickF rfl rfl) ?_
  refine Wl.nil (PX.then_n ?_)
  refine CT.cond rfl (fun h16 => ?_) (fun h16 => ?_)
  ·
   have h16 := of_decide_eq_true h16
   refine CT.seq (CT.region ?_)
   refine Wl.q rfl rfl (OpQ.assign rfl) ?_
   refine Wl.nil (PX.then_n (CT.ret (PX.then_r ?_)))
   refine PX.ret1 rfl rfl (fun w' hH => ?_)
   have hf : fitB v n d = false := fit_zero (by omega)
   exact ⟨n, (fun h => by rw [hf] at h; cases h), by rw [hf], HOk.post (hH.take (.cons (.there .here) .nil))⟩
  ·
   have h16 := of_decide_eq_false h16
   have hd0 : 0 < d := by omega
   have hn0 : 0 < n := by omega
   refine CT.skip (PX.then_n (CT.seq (CT.region ?_)))
   refine Wl.q rfl rfl (OpQ.move rfl) ?_
   refine Wl.q rfl rfl (OpQ.nilCheckP rfl) ?_
   refine Wl.q rfl rfl (OpQ.loadV1 (b := pb) K8_sc3 rfl (by repeat (first | exact Has.here | apply Has.there))) ?_
   refine Wl.q rfl rfl (OpQ.sub rfl rfl (by omega)) ?_
   refine Wl.know 20 (v' := .int .i64 ((n - 1 : Nat) : Int)) rfl (congrArg (Value.int .i64) (by omega)) ?_
   refine Wl.q rfl rfl (OpQ.nilCheckP rfl) ?_
   refine Wl.g rfl rfl (OpG.storeV1 (b := pb) K8_sz3 rfl rfl rfl (by repeat (first | exact Upd.here | apply Upd.there))) ?_
   rintro _ _
   refine Wl.nil (PX.then_n (CT.seq (CT.seq (CT.region ?_))))
   refine Wl.q rfl rfl (OpQ.fieldAddr K8_fa24_2 rfl) ?_
   refine Wl.q rfl rfl (OpQ.loadF (b := b3) K8_sc22 rfl (by repeat (first | exact Has.here | apply Has.there)) (by rfl)) ?_
   refine Wl.q rfl rfl (OpQ.len K8_un22 rfl) ?_
   refine Wl.q rfl rfl (OpQ.move rfl) ?_
   refine Wl.nil (PX.then_n (CT.block ?_))
   refine CT.loop (ι := Nat) (fun k => k ≤ v.ks.length ∧ szT v.ks k + 1 ≤ n ∧ dpT v.ks k + 1 ≤ d) (fun k => [(1, .int .i64 ((d : Nat) : Int)), (2, .pointer (some ⟨pb, 0, none⟩)), (3, .pointer (some ⟨b3, 0, none⟩)), (23, .slice v.a v.ks.length v.c), (24, .int .i64 ((v.ks.length : Nat) : Int)), (25, .int .i64 ((k : Nat) : Int))]) (fun k => [.row 24 3 (vb b3) 1 (evc v), .row 3 1 (vb pb) 1 [.int .i64 ((n - 1 - szT v.ks k : Nat) : Int)]]) (fun k => v.ks.length - k) 0 ⟨Nat.zero_le _, by rw [szT_0]; omega, by rw [dpT_0]; omega⟩ ⟨rfl, rfl, rfl, rfl, rfl, rfl, trivial⟩ (.keep rfl (.keep (row_eq (by rw [szT_0]; rfl)) (HSub.refl _))) (fun k ⟨hk, hs, hdp⟩ K0 hK0 => ?_)
   refine CT.seq (CT.region ?_)
   refine Wl.q rfl rfl (OpQ.lss rfl rfl) ?_
   refine Wl.nil (PX.then_n (CT.seq ?_))
   refine CT.cond rfl (fun h26 => ?_) (fun h26 => ?_)
   ·
    have h26 := of_decide_eq_true h26
    refine CT.skip (PX.then_n (CT.seq (CT.block (CT.seq (CT.region ?_)))))
    have hkl : k < v.ks.length := by omega
    refine Wl.q rfl rfl (OpQ.index K8_un22 K8_sz24 rfl rfl (by omega) (hva (by omega))) ?_
    refine Wl.q rfl rfl (OpQ.loadAggG (cs := evc (v.ks.getD k ev0)) K8_ag24 K8_sz24 rfl (fun w hH => (evm_iff.1 (hH.use hv)).1) (flat_cells evc_len v.ks ev0 (by omega))) ?_
    refine Wl.know 28 (v' := evv (v.ks.getD k ev0)) rfl rfl ?_
    refine Wl.g rfl rfl (OpG.alloc (zs := [.int .i64 0, .int .i64 0, .slice none 0 0]) K8_in24 rfl rfl) ?_
    rintro b8 _
    refine Wl.g rfl rfl (OpG.storeV (b := b8) K8_sz24 rfl rfl rfl rfl (by repeat (first | exact Upd.here | apply Upd.there))) ?_
    rintro _ _
    refine Wl.nil (PX.then_n (CT.seq (CT.region ?_)))
    refine Wl.q rfl rfl (OpQ.loadV (b := b8) K8_ag24 K8_sz24 rfl (by repeat (first | exact Has.here | apply Has.there)) (by rfl)) ?_
    refine Wl.know 29 (v' := evv (v.ks.getD k ev0)) rfl rfl ?_
    refine Wl.q rfl rfl (OpQ.move rfl) ?_
    refine Wl.q rfl rfl (OpQ.sub rfl rfl (by omega)) ?_
    refine Wl.know 31 (v' := .int .i64 ((d - 1 : Nat) : Int)) rfl (congrArg (Value.int .i64) (by omega)) ?_
    refine Wl.q rfl rfl (OpQ.move rfl) ?_
    refine Wl.g rfl rfl (OpG.callX K8_go69 rfl (.cons (.there (.there .here)) .nil) (fun _ => (.cons .nil)) (fun w hH hp => ih _ (kid_mem hkl) w (d - 1) (n - 1 - szT v.ks k) (by omega) (by omega) ((hH.stays hv (.cons (.there (.there .here)) .nil)).mono (fun w h => (evm_iff.1 h).2.1 _ (kid_mem hkl))) hp)) ?_
    rintro n33 h33
    refine Wl.q rfl rfl (OpQ.not rfl) ?_
    refine Wl.nil (PX.then_n ?_)
    refine CT.cond rfl (fun h34 => ?_) (fun h34 => ?_)
    ·
     have h34 : fitB (v.ks.getD k ev0) (n - 1 - szT v.ks k) (d - 1) = false := by simpa using h34
     refine CT.seq (CT.region ?_)
     refine Wl.q rfl rfl (OpQ.assign rfl) ?_
     refine Wl.nil (PX.then_n (CT.ret (PX.block_r (PX.then_r (PX.then_r (PX.block_r (PX.then_r ?_)))))))
     refine PX.ret1 rfl rfl (fun w' hH => ?_)
     have hf : fitB v n d = false := fit_no hkl hd0 hs h34
     exact ⟨n33, (fun h => by rw [hf] at h; cases h), by rw [hf], HOk.post (hH.take (.cons .here .nil))⟩
    ·
     have h34 : fitB (v.ks.getD k ev0) (n - 1 - szT v.ks k) (d - 1) = true := by simpa using h34
     have h33 := h33 h34
     refine CT.skip (PX.block_n (PX.then_n (CT.region ?_)))
     refine Wl.q rfl rfl (OpQ.add rfl rfl (by omega)) ?_
     refine Wl.q rfl rfl (OpQ.move rfl) ?_
     refine Wl.nil ?_
     refine PX.as (fun _ h => h.take (.cons (.there (.there .here)) (.cons .here .nil))) ?_
     exact PX.loop hK0 (k + 1) ⟨by omega, fit_yes hkl hd0 hs h34 hdp⟩ (by first | omega | (dsimp only; omega)) ⟨rfl, rfl, rfl, rfl, rfl, rfl, trivial⟩ (.keep rfl (.keep (row_eq (by rw [show n - 1 - szT v.ks (k + 1) = n33 by have := szT_s hkl; omega])) (HSub.refl _)))
   ·
    have h26 := of_decide_eq_false h26
    refine CT.exit (PX.then_x (PX.then_x (PX.block_x (PX.then_n (CT.seq (CT.region ?_))))))
    refine Wl.q rfl rfl (OpQ.assign rfl) ?_
    refine Wl.nil (PX.then_n (CT.ret ?_))
    refine PX.ret1 rfl rfl (fun w' hH => ?_)
    have hf : fitB v n d = true := fit_done (by omega) hk hs hdp
    exact ⟨n - 1 - szT v.ks k, (fun _ => by have h1 := sz_full v; obtain rfl : k = v.ks.length := (by omega); omega), by rw [hf], HOk.post (hH.take (.cons (.there .here) .nil))⟩
theorem fits_spec (pb : Nat) (v : Xv) : ∀ w : World, ∀ (d n : Nat), d ≤ 1000 → n ≤ 100000 → Stays [pb] w (evm v) → Pre [.row 3 1 (vb pb) 1 [.int .i64 ((n : Nat) : Int)]] w → Calls Tryz.prog 69 #[evv v, .int .i64 ((d : Nat) : Int), .pointer (some ⟨pb, 0, none⟩)] w (fun e w' => ∃ n' : Nat, (fitB v n d = true → n' + szE (toE v) = n) ∧ e = .returned (.bool (fitB v n d)) ∧ Post [pb] [.row 3 1 (vb pb) 1 [.int .i64 ((n' : Nat) : Int)]] w w') := Xv.ind (p := fun v => ∀ w : World, ∀ (d n : Nat), d ≤ 1000 → n ≤ 100000 → Stays [pb] w (evm v) → Pre [.row 3 1 (vb pb) 1 [.int .i64 ((n : Nat) : Int)]] w → Calls Tryz.prog 69 #[evv v, .int .i64 ((d : Nat) : Int), .pointer (some ⟨pb, 0, none⟩)] w (fun e w' => ∃ n' : Nat, (fitB v n d = true → n' + szE (toE v) = n) ∧ e = .returned (.bool (fitB v n d)) ∧ Post [pb] [.row 3 1 (vb pb) 1 [.int .i64 ((n' : Nat) : Int)]] w w')) (fun v ih w d n hd hn hv hp => fitsI w pb v ih d n hd hn hv hp) v

theorem K8_in3 : (Tryz.prog.info? 3).map (fun i => (i.zero, i.size, i.bytes)) = some (some (.int .i64 0), 1, 8) := by kernel_rfl
set_option maxRecDepth 100000 in
/-- semigroup/expr.withinLimits -/
theorem withinL_spec (w : World) (v : Xv) (hv : Stays [] w (evm v)) : Calls Tryz.prog 41 #[evv v] w (fun e w' => e = .returned (.bool (inLim (toE v))) ∧ Ext [] w w') := by
 refine enter (args := [evv v]) [] 6 Tryz.func41 rfl rfl rfl ?_
 refine CT.seq (CT.region ?_)
 refine Wl.g rfl rfl (OpG.box (size := 3) rfl rfl rfl) ?_
 rintro b1 _
 refine Wl.q rfl rfl (OpQ.assign rfl) ?_
 refine Wl.nil (PX.then_n (CT.seq (CT.region ?_)))
 refine Wl.g rfl rfl (OpG.alloc (zs := [.int .i64 0]) K8_in3 rfl rfl) ?_
 rintro b3 _
 refine Wl.g rfl rfl (OpG.storeV1 (b := b3) K8_sz3 rfl rfl rfl (by repeat (first | exact Upd.here | apply Upd.there))) ?_
 rintro _ _
 refine Wl.nil (PX.then_n (CT.seq (CT.region ?_)))
 refine Wl.q rfl rfl (OpQ.loadV (b := b1) K8_ag24 K8_sz24 rfl (by repeat (first | exact Has.here | apply Has.there)) (by rfl)) ?_
 refine Wl.know 4 (v' := evv v) rfl rfl ?_
 refine Wl.g rfl rfl (OpG.callX K8_go69 rfl (.cons .here .nil) (fun _ => (.cons .nil)) (fun w hH hp => fits_spec b3 v w 40 400 (by decide) (by decide) (hH.stays hv (.cons .here .nil)) hp)) ?_
 rintro n5 _
 refine Wl.q rfl rfl (OpQ.assign rfl) ?_
 refine Wl.nil (PX.then_n (CT.ret ?_))
 refine PX.ret1 rfl rfl (fun w' hH => ?_)
 exact ⟨by rw [fit_lim], hH.ext⟩

theorem K8_fa24_0 : fieldB Tryz.prog 24 0 = some 0 := by kernel_rfl
theorem K8_fa24_1 : fieldB Tryz.prog 24 1 = some 1 := by kernel_rfl
theorem K8_go58 : isGo Tryz.prog 58 = true := by kernel_rfl
set_option maxRecDepth 100000 in
/-- semigroup/expr.wellFormed -/
theorem wellF_specI (w : World) (L : Int) (v : Xv) (hv : Stays [] w (evm v)) (ih : ∀ k ∈ v.ks, ∀ w : World, Stays [] w (evm k) → Calls Tryz.prog 58 #[evv k, .int .i64 L] w (fun e w' => e = .returned (.bool (wf L (toE k))) ∧ Ext [] w w')) : Calls Tryz.prog 58 #[evv v, .int .i64 L] w (fun e w' => e = .returned (.bool (wf L (toE v))) ∧ Ext [] w w') := by
 have hva : 0 < v.ks.length → v.a.isSome = true := fun h => (evm_iff.1 hv.now).1.isSome (j := 0) (by rw [flat_len evc_len]; omega)
 have hvl := (evm_iff.1 hv.now).2.2
 refine enter (args := [evv v, .int .i64 L]) [] 64 Tryz.func58 rfl rfl rfl ?_
 refine CT.seq (CT.region ?_)
 refine Wl.g rfl rfl (OpG.box (size := 3) rfl rfl rfl) ?_
 rintro b2 _
 refine Wl.q rfl rfl (OpQ.assign rfl) ?_
 refine Wl.nil (PX.then_n (CT.seq (CT.seq (CT.region ?_))))
 refine Wl.q rfl rfl (OpQ.fieldAddr K8_fa24_0 rfl) ?_
 refine Wl.q rfl rfl (OpQ.loadF (b := b2) K8_sc3 rfl (by repeat (first | exact Has.here | apply Has.there)) (by rfl)) ?_
 refine Wl.q rfl rfl (OpQ.eql rfl rfl) ?_
 refine Wl.nil (PX.then_n ?_)
 refine CT.cond rfl (fun h9 => ?_) (fun h9 => ?_)
 ·
  have h9 := of_decide_eq_true h9
  refine CT.seq (CT.region ?_)
  refine Wl.q rfl rfl (OpQ.fieldAddr K8_fa24_2 rfl) ?_
  refine Wl.q rfl rfl (OpQ.loadF (b := b2) K8_sc22 rfl (by repeat (first | exact Has.here | apply Has.there)) (by rfl)) ?_
  refine Wl.q rfl rfl (OpQ.len K8_un22 rfl) ?_
  refine Wl.q rfl rfl (OpQ.eql rfl rfl) ?_
  refine Wl.q rfl rfl (OpQ.move rfl) ?_
  refine Wl.split 14 rfl (fun hg14 => ?_) (fun hg14 => ?_)
  ·
   have hg14 := of_decide_eq_true hg14
   refine Wl.q rfl rfl (OpQ.fieldAddr K8_fa24_1 rfl) ?_
   refine Wl.q rfl rfl (OpQ.loadF (b := b2) K8_sc3 rfl (by repeat (first | exact Has.here | apply Has.there)) (by rfl)) ?_
   refine Wl.q rfl rfl (OpQ.geq rfl rfl) ?_
   refine Wl.q rfl rfl (OpQ.pickT rfl rfl) ?_
   refine Wl.q rfl rfl (OpQ.move rfl) ?_
   refine Wl.split 19 rfl (fun hg19 => ?_) (fun hg19 => ?_)
   ·
    have hg19 := of_decide_eq_true hg19
    refine Wl.q rfl rfl (OpQ.fieldAddr K8_fa24_1 rfl) ?_
    refine Wl.q rfl rfl (OpQ.loadF (b := b2) K8_sc3 rfl (by repeat (first | exact Has.here | apply Has.there)) (by rfl)) ?_
    refine Wl.q rfl rfl (OpQ.move rfl) ?_
    refine Wl.q rfl rfl (OpQ.lss rfl rfl) ?_
    refine Wl.q rfl rfl (OpQ.pickT rfl rfl) ?_
    refine Wl.q rfl rfl (OpQ.assign rfl) ?_
    refine Wl.nil (PX.then_n (CT.ret (PX.then_r ?_)))
    refine PX.ret1 rfl rfl (fun w' hH => ?_)
    exact ⟨by rw [wf_op3 h9]; exact congrArg (fun b => Ending.returned (.bool b)) (by rw [decide_eq_decide]; omega), hH.ext⟩
   ·
    have hg19 := of_decide_eq_false hg19
    refine Wl.skip rfl rfl ?_
    refine Wl.skip rfl rfl ?_
    refine Wl.skip rfl rfl ?_
    refine Wl.skip rfl rfl ?_
    refine Wl.q rfl rfl (OpQ.pickF rfl rfl) ?_
    refine Wl.q rfl rfl (OpQ.assign rfl) ?_
    refine Wl.nil (PX.then_n (CT.ret (PX.then_r ?_)))
    refine PX.ret1 rfl rfl (fun w' hH => ?_)
    exact ⟨by rw [wf_op3 h9]; exact congrArg (fun b => Ending.returned (.bool b)) (decide_eq_false (by omega)).symm, hH.ext⟩
  ·
   have hg14 := of_decide_eq_false hg14
   refine Wl.skip rfl rfl ?_
   refine Wl.skip rfl rfl ?_
   refine Wl.skip rfl rfl ?_
   refine Wl.q rfl rfl (OpQ.pickF rfl rfl) ?_
   refine Wl.q rfl rfl (OpQ.move rfl) ?_
   refine Wl.skip rfl rfl ?_
   refine Wl.skip rfl rfl ?_
   refine Wl.skip rfl rfl ?_
   refine Wl.skip rfl rfl ?_
   refine Wl.q rfl rfl (OpQ.pickF rfl rfl) ?_
   refine Wl.q rfl rfl (OpQ.assign rfl) ?_
   refine Wl.nil (PX.then_n (CT.ret (PX.then_r ?_)))
   refine PX.ret1 rfl rfl (fun w' hH => ?_)
   exact ⟨by rw [wf_op3 h9]; exact congrArg (fun b => Ending.returned (.bool b)) (decide_eq_false (by omega)).symm, hH.ext⟩
 ·
  have h9 := of_decide_eq_false h9
  refine CT.skip (PX.then_n (CT.seq (CT.seq (CT.region ?_))))
  refine Wl.q rfl rfl (OpQ.fieldAddr K8_fa24_1 rfl) ?_
  refine Wl.q rfl rfl (OpQ.loadF (b := b2) K8_sc3 rfl (by repeat (first | exact Has.here | apply Has.there)) (by rfl)) ?_
  refine Wl.q rfl rfl (OpQ.neq rfl rfl) ?_
  refine Wl.nil (PX.then_n ?_)
  refine CT.cond rfl (fun h27 => ?_) (fun h27 => ?_)
  ·
   have h27 := of_nd_t h27
   refine CT.seq (CT.region ?_)
   refine Wl.q rfl rfl (OpQ.assign rfl) ?_
   refine Wl.nil (PX.then_n (CT.ret (PX.then_r ?_)))
   refine PX.ret1 rfl rfl (fun w' hH => ?_)
   have hw : wf L (toE v) = false := wfN_no (by rw [wfN_iff]; exact decide_eq_false (by omega))
   exact ⟨by rw [hw], hH.ext⟩
  ·
   have h27 := of_nd_f h27
   refine CT.skip (PX.then_n ?_)
   refine CT.cut (ι := Unit) (Φ := fun _ => wfN L v.op v.lt v.ks.length = true) (E' := fun _ => [(1, .int .i64 L), (2, .pointer (some ⟨b2, 0, none⟩))]) (H' := fun _ => [.row 24 3 (vb b2) 1 (evc v)]) (fun K0 hK0 => ?_) (fun _ hwn => ?_)
   ·
    refine CT.seq (CT.region ?_)
    refine Wl.q rfl rfl (OpQ.fieldAddr K8_fa24_0 rfl) ?_
    refine Wl.q rfl rfl (OpQ.loadF (b := b2) K8_sc3 rfl (by repeat (first | exact Has.here | apply Has.there)) (by rfl)) ?_
    refine Wl.nil (PX.then_n (CT.block ?_))
    refine CT.cut (ι := Unit) (Φ := fun _ => True) (E' := fun _ => [(1, .int .i64 L), (2, .pointer (some ⟨b2, 0, none⟩)), (29, .int .i64 v.op), (30, .bool (decide (v.op = 1 ∨ v.op = 2)))]) (H' := fun _ => [.row 24 3 (vb b2) 1 (evc v)]) (fun K1 hK1 => ?_) (fun _ _ => ?_)
    ·
     refine CT.seq (CT.region ?_)
     refine Wl.q rfl rfl (OpQ.eql rfl rfl) ?_
     refine Wl.q rfl rfl (OpQ.assign rfl) ?_
     refine Wl.nil (PX.then_n ?_)
     refine CT.cond rfl (fun h30 => ?_) (fun h30 => ?_)
     ·
      have h30 := of_decide_eq_true h30
      refine CT.skip ?_
      exact PX.cut hK1 () trivial ⟨rfl, rfl, rfl, (lkV rfl (congrArg Value.bool (by rw [decide_eq_decide]; omega))), trivial⟩ (HSub.refl _)
     ·
      have h30 := of_decide_eq_false h30
      refine CT.region ?_
      refine Wl.q rfl rfl (OpQ.eql rfl rfl) ?_
      refine Wl.q rfl rfl (OpQ.assign rfl) ?_
      refine Wl.nil ?_
      exact PX.cut hK1 () trivial ⟨rfl, rfl, rfl, (lkV rfl (congrArg Value.bool (by rw [decide_eq_decide]; omega))), trivial⟩ (HSub.refl _)
    ·
     refine CT.cond rfl (fun h30 => ?_) (fun h30 => ?_)
     ·
      have h30 := of_decide_eq_true h30
      refine CT.seq (CT.region ?_)
      refine Wl.q rfl rfl (OpQ.fieldAddr K8_fa24_2 rfl) ?_
      refine Wl.q rfl rfl (OpQ.loadF (b := b2) K8_sc22 rfl (by repeat (first | exact Has.here | apply Has.there)) (by rfl)) ?_
      refine Wl.q rfl rfl (OpQ.len K8_un22 rfl) ?_
      refine Wl.q rfl rfl (OpQ.eql rfl rfl) ?_
      refine Wl.q rfl rfl (OpQ.assign rfl) ?_
      refine Wl.nil (PX.then_n (CT.ret (PX.block_r (PX.then_r ?_))))
      refine PX.ret1 rfl rfl (fun w' hH => ?_)
      exact ⟨by rw [wf_leaf (by omega) (by omega)], hH.ext⟩
     ·
      have h30 := of_decide_eq_false h30
      refine CT.cut (ι := Unit) (Φ := fun _ => True) (E' := fun _ => [(1, .int .i64 L), (2, .pointer (some ⟨b2, 0, none⟩)), (29, .int .i64 v.op), (37, .bool (decide (v.op = 4 ∨ v.op = 5 ∨ v.op = 6)))]) (H' := fun _ => [.row 24 3 (vb b2) 1 (evc v)]) (fun K2 hK2 => ?_) (fun _ _ => ?_)
      ·
       refine CT.seq (CT.region ?_)
       refine Wl.q rfl rfl (OpQ.eql rfl rfl) ?_
       refine Wl.q rfl rfl (OpQ.assign rfl) ?_
       refine Wl.nil (PX.then_n ?_)
       refine CT.cond rfl (fun h37 => ?_) (fun h37 => ?_)
       ·
        have h37 := of_decide_eq_true h37
        refine CT.skip ?_
        exact PX.cut hK2 () trivial ⟨rfl, rfl, rfl, (lkV rfl (congrArg Value.bool (by rw [decide_eq_decide]; omega))), trivial⟩ (HSub.refl _)
       ·
        have h37 := of_decide_eq_false h37
        refine CT.seq (CT.region ?_)
        refine Wl.q rfl rfl (OpQ.eql rfl rfl) ?_
        refine Wl.q rfl rfl (OpQ.assign rfl) ?_
        refine Wl.nil (PX.then_n ?_)
        refine CT.cond rfl (fun h37 => ?_) (fun h37 => ?_)
        ·
         have h37 := of_decide_eq_true h37
         refine CT.skip ?_
         exact PX.cut hK2 () trivial ⟨rfl, rfl, rfl, (lkV rfl (congrArg Value.bool (by rw [decide_eq_decide]; omega))), trivial⟩ (HSub.refl _)
        ·
         have h37 := of_decide_eq_false h37
         refine CT.region ?_
         refine Wl.q rfl rfl (OpQ.eql rfl rfl) ?_
         refine Wl.q rfl rfl (OpQ.assign rfl) ?_
         refine Wl.nil ?_
         exact PX.cut hK2 () trivial ⟨rfl, rfl, rfl, (lkV rfl (congrArg Value.bool (by rw [decide_eq_decide]; omega))), trivial⟩ (HSub.refl _)
      ·
       refine CT.cond rfl (fun h37 => ?_) (fun h37 => ?_)
       ·
        have h37 := of_decide_eq_true h37
        refine CT.seq (CT.region ?_)
        refine Wl.q rfl rfl (OpQ.fieldAddr K8_fa24_2 rfl) ?_
        refine Wl.q rfl rfl (OpQ.loadF (b := b2) K8_sc22 rfl (by repeat (first | exact Has.here | apply Has.there)) (by rfl)) ?_
        refine Wl.q rfl rfl (OpQ.len K8_un22 rfl) ?_
        refine Wl.q rfl rfl (OpQ.lss rfl rfl) ?_
        refine Wl.nil (PX.then_n ?_)
        refine CT.cond rfl (fun h44 => ?_) (fun h44 => ?_)
        ·
         have h44 := of_decide_eq_true h44
         refine CT.seq (CT.region ?_)
         refine Wl.q rfl rfl (OpQ.assign rfl) ?_
         refine Wl.nil (PX.then_n (CT.ret (PX.block_r (PX.then_r ?_))))
         refine PX.ret1 rfl rfl (fun w' hH => ?_)
         have hw : wf L (toE v) = false := wfN_no (by rw [wfN_iff]; exact decide_eq_false (by omega))
         exact ⟨by rw [hw], hH.ext⟩
        ·
         have h44 := of_decide_eq_false h44
         refine CT.skip (PX.block_n ?_)
         exact PX.cut hK0 () (by rw [wfN_iff]; exact decide_eq_true (by omega)) ⟨rfl, rfl, trivial⟩ (HSub.refl _)
       ·
        have h37 := of_decide_eq_false h37
        refine CT.cut (ι := Unit) (Φ := fun _ => True) (E' := fun _ => [(1, .int .i64 L), (2, .pointer (some ⟨b2, 0, none⟩)), (29, .int .i64 v.op), (45, .bool (decide (v.op = 7 ∨ v.op = 8)))]) (H' := fun _ => [.row 24 3 (vb b2) 1 (evc v)]) (fun K3 hK3 => ?_) (fun _ _ => ?_)
        ·
         refine CT.seq (CT.region ?_)
         refine Wl.q rfl rfl (OpQ.eql rfl rfl) ?_
         refine Wl.q rfl rfl (OpQ.assign rfl) ?_
         refine Wl.nil (PX.then_n ?_)
         refine CT.cond rfl (fun h45 => ?_) (fun h45 => ?_)
         ·
          have h45 := of_decide_eq_true h45
          refine CT.skip ?_
          exact PX.cut hK3 () trivial ⟨rfl, rfl, rfl, (lkV rfl (congrArg Value.bool (by rw [decide_eq_decide]; omega))), trivial⟩ (HSub.refl _)
         ·
          have h45 := of_decide_eq_false h45
          refine CT.region ?_
          refine Wl.q rfl rfl (OpQ.eql rfl rfl) ?_
          refine Wl.q rfl rfl (OpQ.assign rfl) ?_
          refine Wl.nil ?_
          exact PX.cut hK3 () trivial ⟨rfl, rfl, rfl, (lkV rfl (congrArg Value.bool (by rw [decide_eq_decide]; omega))), trivial⟩ (HSub.refl _)
        ·
         refine CT.cond rfl (fun h45 => ?_) (fun h45 => ?_)
         ·
          have h45 := of_decide_eq_true h45
          refine CT.seq (CT.region ?_)
          refine Wl.q rfl rfl (OpQ.fieldAddr K8_fa24_2 rfl) ?_
          refine Wl.q rfl rfl (OpQ.loadF (b := b2) K8_sc22 rfl (by repeat (first | exact Has.here | apply Has.there)) (by rfl)) ?_
          refine Wl.q rfl rfl (OpQ.len K8_un22 rfl) ?_
          refine Wl.q rfl rfl (OpQ.neq rfl rfl) ?_
          refine Wl.nil (PX.then_n ?_)
          refine CT.cond rfl (fun h51 => ?_) (fun h51 => ?_)
          ·
           have h51 := of_nd_t h51
           refine CT.seq (CT.region ?_)
           refine Wl.q rfl rfl (OpQ.assign rfl) ?_
           refine Wl.nil (PX.then_n (CT.ret (PX.block_r (PX.then_r ?_))))
           refine PX.ret1 rfl rfl (fun w' hH => ?_)
           have hw : wf L (toE v) = false := wfN_no (by rw [wfN_iff]; exact decide_eq_false (by omega))
           exact ⟨by rw [hw], hH.ext⟩
          ·
           have h51 := of_nd_f h51
           refine CT.skip (PX.block_n ?_)
           exact PX.cut hK0 () (by rw [wfN_iff]; exact decide_eq_true (by omega)) ⟨rfl, rfl, trivial⟩ (HSub.refl _)
         ·
          have h45 := of_decide_eq_false h45
          refine CT.seq (CT.region ?_)
          refine Wl.q rfl rfl (OpQ.assign rfl) ?_
          refine Wl.nil (PX.then_n (CT.ret (PX.block_r (PX.then_r ?_))))
          refine PX.ret1 rfl rfl (fun w' hH => ?_)
          have hw : wf L (toE v) = false := wfN_no (by rw [wfN_iff]; exact decide_eq_false (by omega))
          exact ⟨by rw [hw], hH.ext⟩
   ·
    refine CT.seq (CT.seq (CT.region ?_))
    refine Wl.q rfl rfl (OpQ.fieldAddr K8_fa24_2 rfl) ?_
    refine Wl.q rfl rfl (OpQ.loadF (b := b2) K8_sc22 rfl (by repeat (first | exact Has.here | apply Has.there)) (by rfl)) ?_
    refine Wl.q rfl rfl (OpQ.len K8_un22 rfl) ?_
    refine Wl.q rfl rfl (OpQ.move rfl) ?_
    refine Wl.nil (PX.then_n (CT.block ?_))
    refine CT.loop (ι := Nat) (fun k => k ≤ v.ks.length ∧ wfT L v.ks k = true) (fun k => [(1, .int .i64 L), (2, .pointer (some ⟨b2, 0, none⟩)), (53, .slice v.a v.ks.length v.c), (54, .int .i64 ((v.ks.length : Nat) : Int)), (55, .int .i64 ((k : Nat) : Int))]) (fun _ => [.row 24 3 (vb b2) 1 (evc v)]) (fun k => v.ks.length - k) 0 ⟨Nat.zero_le _, wfT_0 _ _⟩ ⟨rfl, rfl, rfl, rfl, rfl, trivial⟩ (HSub.refl _) (fun k ⟨hk, hwt⟩ K4 hK4 => ?_)
    refine CT.seq (CT.region ?_)
    refine Wl.q rfl rfl (OpQ.lss rfl rfl) ?_
    refine Wl.nil (PX.then_n (CT.seq ?_))
    refine CT.cond rfl (fun h56 => ?_) (fun h56 => ?_)
    ·
     have h56 := of_decide_eq_true h56
     refine CT.skip (PX.then_n (CT.seq (CT.block (CT.seq (CT.region ?_)))))
     have hkl : k < v.ks.length := by omega
     refine Wl.q rfl rfl (OpQ.index K8_un22 K8_sz24 rfl rfl (by omega) (hva (by omega))) ?_
     refine Wl.q rfl rfl (OpQ.loadAggG (cs := evc (v.ks.getD k ev0)) K8_ag24 K8_sz24 rfl (fun w hH => (evm_iff.1 (hH.use hv)).1) (flat_cells evc_len v.ks ev0 (by omega))) ?_
     refine Wl.know 58 (v' := evv (v.ks.getD k ev0)) rfl rfl ?_
     refine Wl.g rfl rfl (OpG.alloc (zs := [.int .i64 0, .int .i64 0, .slice none 0 0]) K8_in24 rfl rfl) ?_
     rintro b6 _
     refine Wl.g rfl rfl (OpG.storeV (b := b6) K8_sz24 rfl rfl rfl rfl (by repeat (first | exact Upd.here | apply Upd.there))) ?_
     rintro _ _
     refine Wl.nil (PX.then_n (CT.seq (CT.region ?_)))
     refine Wl.q rfl rfl (OpQ.loadV (b := b6) K8_ag24 K8_sz24 rfl (by repeat (first | exact Has.here | apply Has.there)) (by rfl)) ?_
     refine Wl.know 59 (v' := evv (v.ks.getD k ev0)) rfl rfl ?_
     refine Wl.q rfl rfl (OpQ.move rfl) ?_
     refine Wl.g rfl rfl (OpG.callV K8_go58 rfl (fun w hH => ih _ (kid_mem hkl) w ((hH.stays0 hv).mono (fun w h => (evm_iff.1 h).2.1 _ (kid_mem hkl))))) ?_
     rintro _ _
     refine Wl.q rfl rfl (OpQ.not rfl) ?_
     refine Wl.nil (PX.then_n ?_)
     refine CT.cond rfl (fun h62 => ?_) (fun h62 => ?_)
     ·
      have hk1 : wf L (toE (v.ks.getD k ev0)) = false := by simpa using h62
      refine CT.seq (CT.region ?_)
      refine Wl.q rfl rfl (OpQ.assign rfl) ?_
      refine Wl.nil (PX.then_n (CT.ret (PX.block_r (PX.then_r (PX.then_r (PX.block_r (PX.then_r ?_)))))))
      refine PX.ret1 rfl rfl (fun w' hH => ?_)
      exact ⟨by rw [wfT_no hkl hk1], hH.ext⟩
     ·
      have hk1 : wf L (toE (v.ks.getD k ev0)) = true := by simpa using h62
      refine CT.skip (PX.block_n (PX.then_n (CT.region ?_)))
      refine Wl.q rfl rfl (OpQ.add rfl rfl (by omega)) ?_
      refine Wl.q rfl rfl (OpQ.move rfl) ?_
      refine Wl.nil ?_
      exact PX.loop hK4 (k + 1) ⟨by omega, by rw [wfT_s hkl, hwt, hk1]; rfl⟩ (by first | omega | (dsimp only; omega)) ⟨rfl, rfl, rfl, rfl, rfl, trivial⟩ (.drop (HSub.refl _))
    ·
     have h56 := of_decide_eq_false h56
     refine CT.exit (PX.then_x (PX.then_x (PX.block_x (PX.then_n (CT.seq (CT.region ?_))))))
     refine Wl.q rfl rfl (OpQ.assign rfl) ?_
     refine Wl.nil (PX.then_n (CT.ret ?_))
     refine PX.ret1 rfl rfl (fun w' hH => ?_)
     exact ⟨by rw [wfT_yes hwn (by omega) hk hwt], hH.ext⟩
theorem wellF_spec (L : Int) (v : Xv) : ∀ w : World, Stays [] w (evm v) → Calls Tryz.prog 58 #[evv v, .int .i64 L] w (fun e w' => e = .returned (.bool (wf L (toE v))) ∧ Ext [] w w') := Xv.ind (p := fun v => ∀ w : World, Stays [] w (evm v) → Calls Tryz.prog 58 #[evv v, .int .i64 L] w (fun e w' => e = .returned (.bool (wf L (toE v))) ∧ Ext [] w w')) (fun v ih w hv => wellF_specI w L v hv ih) v

theorem K8_go41 : isGo Tryz.prog 41 = true := by kernel_rfl
set_option maxRecDepth 100000 in
/-- semigroup/expr.Validate -/
theorem exvalid_spec (w : World) (v : Xv) (hv : Stays [] w (evm v)) (L : Int) : Calls Tryz.prog 32 #[evv v, .int .i64 L] w (fun e w' => e = .returned (.int .i64 (vdE L (toE v))) ∧ Ext [] w w') := by
 refine enter (args := [evv v, .int .i64 L]) [] 18 Tryz.func32 rfl rfl rfl ?_
 refine CT.seq (CT.region ?_)
 refine Wl.g rfl rfl (OpG.box (size := 3) rfl rfl rfl) ?_
 rintro b2 _
 refine Wl.q rfl rfl (OpQ.assign rfl) ?_
 refine Wl.nil (PX.then_n (CT.seq (CT.seq (CT.region ?_))))
 refine Wl.q rfl rfl (OpQ.move rfl) ?_
 refine Wl.q rfl rfl (OpQ.lss rfl rfl) ?_
 refine Wl.q rfl rfl (OpQ.move rfl) ?_
 refine Wl.split 7 rfl (fun hg7 => ?_) (fun hg7 => ?_)
 ·
  have hg7 := of_decide_eq_true hg7
  refine Wl.skip rfl rfl ?_
  refine Wl.skip rfl rfl ?_
  refine Wl.q rfl rfl (OpQ.pickT rfl rfl) ?_
  refine Wl.nil (PX.then_n ?_)
  refine CT.condT rfl ?_
  refine CT.seq (CT.region ?_)
  refine Wl.q rfl rfl (OpQ.assign rfl) ?_
  refine Wl.nil (PX.then_n (CT.ret (PX.then_r ?_)))
  refine PX.ret1 rfl rfl (fun w' hH => ?_)
  exact ⟨by rw [vdE_arg (by omega)], hH.ext⟩
 ·
  have hg7 := of_decide_eq_false hg7
  refine Wl.q rfl rfl (OpQ.move rfl) ?_
  refine Wl.q rfl rfl (OpQ.gtr rfl rfl) ?_
  refine Wl.q rfl rfl (OpQ.pickF rfl rfl) ?_
  refine Wl.nil (PX.then_n ?_)
  refine CT.cond rfl (fun h10 => ?_) (fun h10 => ?_)
  ·
   have h10 := of_decide_eq_true h10
   refine CT.seq (CT.region ?_)
   refine Wl.q rfl rfl (OpQ.assign rfl) ?_
   refine Wl.nil (PX.then_n (CT.ret (PX.then_r ?_)))
   refine PX.ret1 rfl rfl (fun w' hH => ?_)
   exact ⟨by rw [vdE_arg (by omega)], hH.ext⟩
  ·
   have h10 := of_decide_eq_false h10
   refine CT.skip (PX.then_n (CT.seq (CT.seq (CT.region ?_))))
   refine Wl.q rfl rfl (OpQ.loadV (b := b2) K8_ag24 K8_sz24 rfl (by repeat (first | exact Has.here | apply Has.there)) (by rfl)) ?_
   refine Wl.know 11 (v' := evv v) rfl rfl ?_
   refine Wl.g rfl rfl (OpG.callV K8_go41 rfl (fun w hH => withinL_spec w v (hH.stays0 hv))) ?_
   rintro _ _
   refine Wl.q rfl rfl (OpQ.not rfl) ?_
   refine Wl.nil (PX.then_n ?_)
   refine CT.cond rfl (fun h13 => ?_) (fun h13 => ?_)
   ·
    refine CT.seq (CT.region ?_)
    refine Wl.q rfl rfl (OpQ.assign rfl) ?_
    refine Wl.nil (PX.then_n (CT.ret (PX.then_r ?_)))
    refine PX.ret1 rfl rfl (fun w' hH => ?_)
    exact ⟨by rw [vdE_lim (by omega) (by simpa using h13)], hH.ext⟩
   ·
    refine CT.skip (PX.then_n (CT.seq (CT.seq (CT.region ?_))))
    refine Wl.q rfl rfl (OpQ.loadV (b := b2) K8_ag24 K8_sz24 rfl (by repeat (first | exact Has.here | apply Has.there)) (by rfl)) ?_
    refine Wl.know 14 (v' := evv v) rfl rfl ?_
    refine Wl.q rfl rfl (OpQ.move rfl) ?_
    refine Wl.g rfl rfl (OpG.callV K8_go58 rfl (fun w hH => wellF_spec L v w (hH.stays0 hv))) ?_
    rintro _ _
    refine Wl.q rfl rfl (OpQ.not rfl) ?_
    refine Wl.nil (PX.then_n ?_)
    refine CT.cond rfl (fun h17 => ?_) (fun h17 => ?_)
    ·
     refine CT.seq (CT.region ?_)
     refine Wl.q rfl rfl (OpQ.assign rfl) ?_
     refine Wl.nil (PX.then_n (CT.ret (PX.then_r ?_)))
     refine PX.ret1 rfl rfl (fun w' hH => ?_)
     exact ⟨by rw [vdE_wf (by omega) (by simpa using h13) (by simpa using h17)], hH.ext⟩
    ·
     refine CT.skip (PX.then_n (CT.seq (CT.region ?_)))
     refine Wl.q rfl rfl (OpQ.assign rfl) ?_
     refine Wl.nil (PX.then_n (CT.ret ?_))
     refine PX.ret1 rfl rfl (fun w' hH => ?_)
     exact ⟨by rw [vdE_ok (by omega) (by simpa using h13) (by simpa using h17)], hH.ext⟩

theorem K8_go32 : isGo Tryz.prog 32 = true := by kernel_rfl
set_option maxRecDepth 100000 in
/-- semigroup/expr.valid -/
theorem exok_spec (w : World) (v : Xv) (hv : Stays [] w (evm v)) : Calls Tryz.prog 38 #[evv v] w (fun e w' => e = .returned (.bool (decide (vdE 6 (toE v) = 0))) ∧ Ext [] w w') := by
 refine enter (args := [evv v]) [] 6 Tryz.func38 rfl rfl rfl ?_
 refine CT.seq (CT.region ?_)
 refine Wl.g rfl rfl (OpG.box (size := 3) rfl rfl rfl) ?_
 rintro b1 _
 refine Wl.q rfl rfl (OpQ.assign rfl) ?_
 refine Wl.nil (PX.then_n (CT.seq (CT.region ?_)))
 refine Wl.q rfl rfl (OpQ.loadV (b := b1) K8_ag24 K8_sz24 rfl (by repeat (first | exact Has.here | apply Has.there)) (by rfl)) ?_
 refine Wl.know 3 (v' := evv v) rfl rfl ?_
 refine Wl.g rfl rfl (OpG.callV K8_go32 rfl (fun w hH => exvalid_spec w v (hH.stays0 hv) 6)) ?_
 rintro _ _
 refine Wl.q rfl rfl (OpQ.eql rfl rfl) ?_
 refine Wl.q rfl rfl (OpQ.assign rfl) ?_
 refine Wl.nil (PX.then_n (CT.ret ?_))
 refine PX.ret1 rfl rfl (fun w' hH => ?_)
 exact ⟨rfl, hH.ext⟩

end Go.Proofs.YtmggcdegekbncabGreatDoor

