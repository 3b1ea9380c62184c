/-
  What functions of the program compute, each by its walk. Conditions: those that each theorem names.
-/
import Derived.Test.YtmggcdegekbncabGreatDoorXGB28
import Derived.Test.YtmggcdegekbncabGreatDoorXF
set_option linter.unusedSimpArgs false
namespace Go.Proofs.YtmggcdegekbncabGreatDoor
open Go Go.Eng Go.Am Go.Ex
open Go.Tp (zi)
open Go.Tl (mayL Wd okW okB bo)
open Go.Ex.simp (simpL)
open Go.Ex.dv (dvL dvC)
open Go.Ex.hasU (hasAny hasAll)
open Go.Ex.wf (wfL)
open Go.Ex.szE (szL)
open Go.Ex.dpE (dpL)
open Go.Ex.cmpE (cmpL)
open Go.Ex.fmtE (fmtK fmtR)
open Go.Rel (tz Tab tz_bound tz_load tz_lt)
theorem K29_un5 : Tryz.prog.underlying 5 = some (.int .u8) := by kernel_rfl
theorem K29_un3 : Tryz.prog.underlying 3 = some (.int .i64) := by kernel_rfl
theorem K29_ag24 : isAggB Tryz.prog 24 = some true := by kernel_rfl
theorem K29_sz24 : sizeB Tryz.prog 24 = some 3 := by kernel_rfl
theorem K29_go6 : isGo Tryz.prog 6 = true := by kernel_rfl
theorem K29_go7 : isGo Tryz.prog 7 = true := by kernel_rfl
theorem K29_un41 : Tryz.prog.underlying 41 = some (.slice 5) := by kernel_rfl
theorem K29_go16 : isGo Tryz.prog 16 = true := by kernel_rfl
theorem K29_in43 : (Tryz.prog.info? 43).map (fun i => (i.zero, i.size, i.bytes)) = some (some (.agg #[.int .i64 0, .slice none 0 0, .slice none 0 0, .int .i64 0]), 4, 64) := by kernel_rfl
theorem K29_sz43 : sizeB Tryz.prog 43 = some 4 := by kernel_rfl
theorem K29_go17 : isGo Tryz.prog 17 = true := by kernel_rfl
theorem K29_in30 : (Tryz.prog.info? 30).map (fun i => (i.zero, i.size, i.bytes)) = some (some (.agg #[.int .i64 0, .int .i64 0, .slice none 0 0, .slice none 0 0]), 4, 64) := by kernel_rfl
theorem K29_sz30 : sizeB Tryz.prog 30 = some 4 := by kernel_rfl
theorem K29_sz5 : sizeB Tryz.prog 5 = some 1 := by kernel_rfl
theorem K29_sc5 : scalarB Tryz.prog 5 = some true := by kernel_rfl
theorem K29_ag43 : isAggB Tryz.prog 43 = some true := by kernel_rfl
theorem K29_go18 : isGo Tryz.prog 18 = true := by kernel_rfl
theorem K29_go19 : isGo Tryz.prog 19 = true := by kernel_rfl
theorem K29_go20 : isGo Tryz.prog 20 = true := by kernel_rfl
theorem K29_ag30 : isAggB Tryz.prog 30 = some true := by kernel_rfl
theorem K29_go13 : isGo Tryz.prog 13 = true := by kernel_rfl
set_option maxRecDepth 100000 in
set_option maxHeartbeats 4000000 in
/-- semigroup/semigrouptop.TopAnyBudgets -/
theorem TopAnyBudgets_spec (w : World) (v : Xv) (hv : Stays [] w (evm v)) (ba : Option Addr) (bs : List (BitVec 8)) (bc : Nat) (hb : Stays [] w (fun w => Rd w ba (bs.map b8v))) (hbl : bs.length ≤ 9223372036854775807) (hT : Stays [] w Tab) : Calls Tryz.prog 4 #[evv v, .slice ba bs.length bc] w (fun e w' => e = .returned (.bool true) ∧ Ext [] w w') := by
 have hba : 0 < bs.length → ba.isSome = true := fun h => hb.now.isSome (j := 0) (by rw [List.length_map]; omega)
 refine enter (args := [evv v, .slice ba bs.length bc]) [] 99 Tryz.func4 rfl rfl rfl ?_
 refine CT.seq (CT.region ?_)
 refine Wl.g rfl rfl (OpG.box (size := 3) rfl rfl rfl) ?_
 rintro b2 _
 refine Wl.q rfl rfl (OpQ.assign rfl) ?_
 refine Wl.nil (PX.then_n (CT.seq (CT.seq (CT.region ?_))))
 refine Wl.q rfl rfl (OpQ.loadV (b := b2) K29_ag24 K29_sz24 rfl (by repeat (first | exact Has.here | apply Has.there)) (by rfl)) ?_
 refine Wl.know 13 (v' := evv v) rfl rfl ?_
 refine Wl.g rfl rfl (OpG.callV K29_go6 rfl (fun w hH => little_spec w v (hH.stays0 hv) 10)) ?_
 rintro _ _
 refine Wl.q rfl rfl (OpQ.not rfl) ?_
 refine Wl.q rfl rfl (OpQ.move rfl) ?_
 refine Wl.split 16 rfl (fun hg16 => ?_) (fun hg16 => ?_)
 ·
  have hg16 := of_nd_t hg16
  refine Wl.skip rfl rfl ?_
  refine Wl.skip rfl rfl ?_
  refine Wl.skip rfl rfl ?_
  refine Wl.q rfl rfl (OpQ.pickT rfl rfl) ?_
  refine Wl.nil (PX.then_n ?_)
  refine CT.condT rfl ?_
  refine CT.seq (CT.region ?_)
  refine Wl.g rfl rfl (OpG.callV K29_go7 rfl (fun w hH => awake_spec w (hH.stays0 hT))) ?_
  rintro _ _
  refine Wl.know 21 (v' := .bool true) rfl (congrArg Value.bool rfl) ?_
  refine Wl.q rfl rfl (OpQ.assign rfl) ?_
  refine Wl.nil (PX.then_n (CT.ret (PX.then_r ?_)))
  refine PX.ret1 rfl rfl (fun w' hH => ?_)
  exact ⟨rfl, hH.ext⟩
 ·
  have hg16 := of_nd_f hg16
  refine Wl.q rfl rfl (OpQ.move rfl) ?_
  refine Wl.q rfl rfl (OpQ.len K29_un41 rfl) ?_
  refine Wl.q rfl rfl (OpQ.gtr rfl rfl) ?_
  refine Wl.q rfl rfl (OpQ.pickF rfl rfl) ?_
  refine Wl.nil (PX.then_n ?_)
  refine CT.cond rfl (fun h20 => ?_) (fun h20 => ?_)
  ·
   have h20 := of_decide_eq_true h20
   refine CT.seq (CT.region ?_)
   refine Wl.g rfl rfl (OpG.callV K29_go7 rfl (fun w hH => awake_spec w (hH.stays0 hT))) ?_
   rintro _ _
   refine Wl.know 21 (v' := .bool true) rfl (congrArg Value.bool rfl) ?_
   refine Wl.q rfl rfl (OpQ.assign rfl) ?_
   refine Wl.nil (PX.then_n (CT.ret (PX.then_r ?_)))
   refine PX.ret1 rfl rfl (fun w' hH => ?_)
   exact ⟨rfl, hH.ext⟩
  ·
   have h20 := of_decide_eq_false h20
   have hvd := hg16.1
   have hs2 := simp_vd2 hvd
   have hsf := simp_simp (vd_wf2 hvd)
   refine CT.skip (PX.then_n (CT.seq (CT.region ?_)))
   refine Wl.q rfl rfl (OpQ.loadV (b := b2) K29_ag24 K29_sz24 rfl (by repeat (first | exact Has.here | apply Has.there)) (by rfl)) ?_
   refine Wl.know 23 (v' := evv v) rfl rfl ?_
   refine Wl.g rfl rfl (OpG.callX K29_go16 rfl .nil (fun _ => (.cons .nil)) (fun w hH hp => start_spec w v (hH.stays0 hv) hvd)) ?_
   rintro ⟨X, xs⟩ ⟨hX, _⟩
   dsimp only at hX
   refine Wl.q rfl rfl (OpQ.move rfl) ?_
   refine Wl.q rfl rfl (OpQ.extract rfl rfl) ?_
   refine Wl.know 25 (v' := drvL 2 X) rfl rfl ?_
   refine Wl.q rfl rfl (OpQ.extract rfl rfl) ?_
   refine Wl.know 26 (v' := .int .i64 0) rfl rfl ?_
   refine Wl.g rfl rfl (OpG.alloc (zs := [.int .i64 0, .slice none 0 0, .slice none 0 0, .int .i64 0]) K29_in43 rfl rfl) ?_
   rintro b5 _
   refine Wl.g rfl rfl (OpG.storeV (b := b5) K29_sz43 rfl rfl rfl rfl (by repeat (first | exact Upd.here | apply Upd.there))) ?_
   rintro _ _
   refine Wl.q rfl rfl (OpQ.assign rfl) ?_
   refine Wl.nil (PX.then_n (CT.seq (CT.region ?_)))
   refine Wl.q rfl rfl (OpQ.loadV (b := b2) K29_ag24 K29_sz24 rfl (by repeat (first | exact Has.here | apply Has.there)) (by rfl)) ?_
   refine Wl.know 28 (v' := evv v) rfl rfl ?_
   refine Wl.g rfl rfl (OpG.callX K29_go17 rfl .nil (fun _ => (.cons .nil)) (fun w hH hp => build_spec w v (hH.stays0 hv))) ?_
   rintro ⟨D, ds, e8⟩ ⟨hB, hO⟩
   dsimp only at hB hO
   have rB := hB.err hvd
   refine Wl.q rfl rfl (OpQ.move rfl) ?_
   refine Wl.q rfl rfl (OpQ.extract rfl rfl) ?_
   refine Wl.know 30 (v' := dvv D) rfl rfl ?_
   refine Wl.q rfl rfl (OpQ.extract rfl rfl) ?_
   refine Wl.know 31 (v' := .int .i64 e8) rfl rfl ?_
   refine Wl.g rfl rfl (OpG.alloc (zs := [.int .i64 0, .int .i64 0, .slice none 0 0, .slice none 0 0]) K29_in30 rfl rfl) ?_
   rintro b7 _
   refine Wl.g rfl rfl (OpG.storeV (b := b7) K29_sz30 rfl rfl rfl rfl (by repeat (first | exact Upd.here | apply Upd.there))) ?_
   rintro _ _
   refine Wl.q rfl rfl (OpQ.assign rfl) ?_
   refine Wl.nil (PX.then_n (CT.seq (CT.seq (CT.region ?_))))
   refine Wl.q rfl rfl (OpQ.move rfl) ?_
   refine Wl.q rfl rfl (OpQ.neq rfl rfl) ?_
   refine Wl.know 33 (v' := .bool false) rfl (congrArg Value.bool rfl) ?_
   refine Wl.nil (PX.then_n ?_)
   refine CT.condF rfl ?_
   refine CT.skip (PX.then_n (CT.seq (CT.seq (CT.region ?_))))
   refine Wl.q rfl rfl (OpQ.move rfl) ?_
   refine Wl.q rfl rfl (OpQ.len K29_un41 rfl) ?_
   refine Wl.q rfl rfl (OpQ.move rfl) ?_
   refine Wl.nil (PX.then_n (CT.block ?_))
   refine CT.as (fun _ h => h.take (.cons (.there (.there (.there .here))) (.cons (.there (.there .here)) (.cons (.there .here) (.cons .here .nil))))) ?_
   refine CT.loop (ι := Nat × Drv × List Nat) (fun (k, X, xs) => k ≤ bs.length ∧ DrX (simp (toE v)) X) (fun (k, X, xs) => [(5, .pointer (some ⟨b5, 0, none⟩)), (7, .pointer (some ⟨b7, 0, none⟩)), (8, .int .i64 e8), (34, .slice ba bs.length bc), (35, .int .i64 ((bs.length : Nat) : Int)), (36, .int .i64 ((k : Nat) : Int))]) (fun (k, X, xs) => [dfr (AllM [v]) X xs, .row 43 4 (vb b5) 1 (drcL 2 X), .frag ds (dvm D), .row 30 4 (vb b7) 1 (dvc D)]) (fun (k, X, xs) => bs.length - k) (0, X, xs) ⟨Nat.zero_le _, hX⟩ ⟨rfl, rfl, rfl, rfl, rfl, rfl, trivial⟩ (HSub.refl _) (fun ⟨k, X, xs⟩ ⟨hk, hX⟩ K0 hK0 => ?_)
   dsimp only
   refine CT.seq (CT.region ?_)
   refine Wl.q rfl rfl (OpQ.lss rfl rfl) ?_
   refine Wl.nil (PX.then_n (CT.seq ?_))
   refine CT.cond rfl (fun h37 => ?_) (fun h37 => ?_)
   ·
    have h37 := of_decide_eq_true h37
    have hkl : k < bs.length := by omega
    refine CT.skip (PX.then_n (CT.seq (CT.block (CT.seq (CT.region ?_)))))
    refine Wl.q rfl rfl (OpQ.index1 K29_un41 K29_sz5 rfl rfl (by omega) (hba (by omega))) ?_
    refine Wl.q rfl rfl (OpQ.loadG K29_sc5 rfl (fun w hH => hH.use hb) (getMap b8v bs 0#8 (j := k) (by omega))) ?_
    refine Wl.know 39 (v' := b8v (bs.getD k 0#8)) rfl rfl ?_
    refine Wl.q rfl rfl (OpQ.assign rfl) ?_
    refine Wl.nil (PX.then_n (CT.seq (CT.region ?_)))
    refine Wl.q rfl rfl (OpQ.loadV (b := b5) K29_ag43 K29_sz43 rfl (by repeat (first | exact Has.here | apply Has.there)) (by rfl)) ?_
    refine Wl.know 41 (v' := drvv X) rfl rfl ?_
    refine Wl.q rfl rfl (OpQ.move rfl) ?_
    refine Wl.q rfl rfl (OpQ.and8 (q := 7#8) rfl rfl) ?_
    refine Wl.q rfl rfl (OpQ.conv rfl (conv_u8_i64 K29_un5 K29_un3 _ (by have h9 := ((bs.getD k 0#8) &&& 7#8).isLt; omega))) ?_
    refine Wl.know 44 (v' := .int .i64 ((((bs.getD k 0#8) &&& 7#8).toNat : Nat) : Int)) rfl rfl ?_
    refine Wl.g rfl rfl (OpG.callX K29_go18 rfl .nil (fun _ => (.cons .nil)) (fun w hH hp => step_spec w (simp (toE v)) X (fun w' he => ((hH.staysK0 (show Has _ (dfr (AllM [v]) X xs) from (by repeat (first | exact Has.here | apply Has.there)))).frag w' he (((hH.stays0 hv).mono (fun w h => AllM.one.2 h)) w' he))) hX hs2 hsf ((bs.getD k 0#8) &&& 7#8).toNat (by have h9 := ((bs.getD k 0#8) &&& 7#8).isLt; omega))) ?_
    rintro ⟨Y, Ys, eY, LY⟩ hY
    dsimp only at hY
    have rY : eY = 0 ∨ eY = 3 := hY.imp (fun h => h.1) (fun h => h.1)
    refine Wl.q rfl rfl (OpQ.move rfl) ?_
    refine Wl.q rfl rfl (OpQ.extract rfl rfl) ?_
    refine Wl.know 46 (v' := drvL LY Y) rfl rfl ?_
    refine Wl.q rfl rfl (OpQ.extract rfl rfl) ?_
    refine Wl.know 47 (v' := .int .i64 eY) rfl rfl ?_
    refine Wl.g rfl rfl (OpG.storeV (b := b5) K29_sz43 rfl rfl rfl rfl (by repeat (first | exact Upd.here | apply Upd.there))) ?_
    rintro _ _
    refine Wl.q rfl rfl (OpQ.assign rfl) ?_
    refine Wl.nil (PX.then_n (CT.seq (CT.region ?_)))
    refine Wl.q rfl rfl (OpQ.move rfl) ?_
    refine Wl.q rfl rfl (OpQ.neq rfl rfl) ?_
    refine Wl.nil (PX.then_n ?_)
    refine CT.cond rfl (fun h49 => ?_) (fun h49 => ?_)
    ·
     have h49 := of_nd_t h49
     obtain ⟨rfl, j, hbad⟩ := hY.resolve_left (fun hh => h49 hh.1)
     have h8 := bad_build hB hvd hbad
     refine CT.seq (CT.region ?_)
     refine Wl.q rfl rfl (OpQ.move rfl) ?_
     refine Wl.q rfl rfl (OpQ.eql rfl rfl) ?_
     refine Wl.know 51 (v' := .bool true) rfl (congrArg Value.bool rfl) ?_
     refine Wl.q rfl rfl (OpQ.move rfl) ?_
     refine Wl.q rfl rfl (OpQ.move rfl) ?_
     refine Wl.q rfl rfl (OpQ.eql rfl rfl) ?_
     refine Wl.know 54 (v' := .bool true) rfl (congrArg Value.bool (decide_eq_true h8)) ?_
     refine Wl.q rfl rfl (OpQ.pickT rfl rfl) ?_
     refine Wl.q rfl rfl (OpQ.move rfl) ?_
     refine Wl.g rfl rfl (OpG.callV K29_go7 rfl (fun w hH => awake_spec w (hH.stays0 hT))) ?_
     rintro _ _
     refine Wl.know 57 (v' := .bool true) rfl (congrArg Value.bool rfl) ?_
     refine Wl.q rfl rfl (OpQ.pickT rfl rfl) ?_
     refine Wl.q rfl rfl (OpQ.assign rfl) ?_
     refine Wl.nil (PX.then_n (CT.ret (PX.block_r (PX.then_r (PX.then_r (PX.block_r (PX.then_r ?_)))))))
     refine PX.ret1 rfl rfl (fun w' hH => ?_)
     exact ⟨rfl, hH.ext⟩
    ·
     have h49 := of_nd_f h49
     obtain rfl : eY = 0 := h49
     obtain ⟨_, rfl, hYX, _⟩ := hY.resolve_right (fun hh => by have := hh.1; omega)
     refine CT.as (fun _ h => h.dfrAdd) ?_
     refine CT.skip (PX.block_n (PX.then_n (CT.region ?_)))
     refine Wl.q rfl rfl (OpQ.add rfl rfl (by omega)) ?_
     refine Wl.q rfl rfl (OpQ.move rfl) ?_
     refine Wl.nil ?_
     exact PX.loop hK0 (k + 1, Y, _) ⟨by omega, hYX⟩ (show bs.length - (k + 1) < bs.length - k by omega) ⟨rfl, rfl, rfl, rfl, rfl, rfl, trivial⟩ (HSub.refl _)
   ·
    have h37 := of_decide_eq_false h37
    refine CT.exit (PX.then_x (PX.then_x (PX.block_x (PX.then_n (CT.seq (CT.region ?_))))))
    refine Wl.q rfl rfl (OpQ.loadV (b := b5) K29_ag43 K29_sz43 rfl (by repeat (first | exact Has.here | apply Has.there)) (by rfl)) ?_
    refine Wl.know 61 (v' := drvv X) rfl rfl ?_
    refine Wl.g rfl rfl (OpG.callX K29_go18 rfl .nil (fun _ => (.cons .nil)) (fun w hH hp => step_spec w (simp (toE v)) X (fun w' he => ((hH.staysK0 (show Has _ (dfr (AllM [v]) X xs) from (by repeat (first | exact Has.here | apply Has.there)))).frag w' he (((hH.stays0 hv).mono (fun w h => AllM.one.2 h)) w' he))) hX hs2 hsf 512 (by decide))) ?_
    rintro ⟨Z, Zs, eZ, LZ⟩ hZ
    dsimp only at hZ
    have rZ : eZ = 0 ∨ eZ = 3 := hZ.imp (fun h => h.1) (fun h => h.1)
    refine Wl.q rfl rfl (OpQ.move rfl) ?_
    refine Wl.q rfl rfl (OpQ.extract rfl rfl) ?_
    refine Wl.know 63 (v' := drvL LZ Z) rfl rfl ?_
    refine Wl.q rfl rfl (OpQ.extract rfl rfl) ?_
    refine Wl.know 64 (v' := .int .i64 eZ) rfl rfl ?_
    refine Wl.g rfl rfl (OpG.storeV (b := b5) K29_sz43 rfl rfl rfl rfl (by repeat (first | exact Upd.here | apply Upd.there))) ?_
    rintro _ _
    refine Wl.q rfl rfl (OpQ.assign rfl) ?_
    refine Wl.nil (PX.then_n (CT.seq (CT.seq (CT.region ?_))))
    refine Wl.q rfl rfl (OpQ.move rfl) ?_
    refine Wl.q rfl rfl (OpQ.neq rfl rfl) ?_
    refine Wl.q rfl rfl (OpQ.move rfl) ?_
    refine Wl.split 67 rfl (fun hg67 => ?_) (fun hg67 => ?_)
    ·
     have hg67 := of_nd_t hg67
     refine Wl.skip rfl rfl ?_
     refine Wl.skip rfl rfl ?_
     refine Wl.q rfl rfl (OpQ.pickT rfl rfl) ?_
     refine Wl.nil (PX.then_n ?_)
     refine CT.condT rfl ?_
     refine CT.seq (CT.region ?_)
     have h8 : eZ = 3 ∧ e8 = 3 := by
      rcases hZ with ⟨h1, _, h3, h4⟩ | ⟨h1, j, hbad⟩
      ·
       exfalso
       have h5 := (done_build hB hvd h3 (by have := h3.le; have := h3.vl; omega)).1
       first | exact hg67 h1 | exact of_nd_t h70 h5
      ·
       exact ⟨h1, bad_build hB hvd hbad⟩
     refine Wl.q rfl rfl (OpQ.move rfl) ?_
     refine Wl.q rfl rfl (OpQ.eql rfl rfl) ?_
     refine Wl.know 72 (v' := .bool true) rfl (congrArg Value.bool (decide_eq_true h8.1)) ?_
     refine Wl.q rfl rfl (OpQ.move rfl) ?_
     refine Wl.q rfl rfl (OpQ.move rfl) ?_
     refine Wl.q rfl rfl (OpQ.eql rfl rfl) ?_
     refine Wl.know 75 (v' := .bool true) rfl (congrArg Value.bool (decide_eq_true h8.2)) ?_
     refine Wl.q rfl rfl (OpQ.pickT rfl rfl) ?_
     refine Wl.q rfl rfl (OpQ.move rfl) ?_
     refine Wl.g rfl rfl (OpG.callV K29_go7 rfl (fun w hH => awake_spec w (hH.stays0 hT))) ?_
     rintro _ _
     refine Wl.know 78 (v' := .bool true) rfl (congrArg Value.bool rfl) ?_
     refine Wl.q rfl rfl (OpQ.pickT rfl rfl) ?_
     refine Wl.q rfl rfl (OpQ.assign rfl) ?_
     refine Wl.nil (PX.then_n (CT.ret (PX.then_r ?_)))
     refine PX.ret1 rfl rfl (fun w' hH => ?_)
     exact ⟨rfl, hH.ext⟩
    ·
     have hg67 := of_nd_f hg67
     refine Wl.q rfl rfl (OpQ.move rfl) ?_
     refine Wl.q rfl rfl (OpQ.neq rfl rfl) ?_
     refine Wl.q rfl rfl (OpQ.pickF rfl rfl) ?_
     refine Wl.nil (PX.then_n ?_)
     refine CT.cond rfl (fun h70 => ?_) (fun h70 => ?_)
     ·
      refine CT.seq (CT.region ?_)
      have h8 : eZ = 3 ∧ e8 = 3 := by
       rcases hZ with ⟨h1, _, h3, h4⟩ | ⟨h1, j, hbad⟩
       ·
        exfalso
        have h5 := (done_build hB hvd h3 (by have := h3.le; have := h3.vl; omega)).1
        first | exact hg67 h1 | exact of_nd_t h70 h5
       ·
        exact ⟨h1, bad_build hB hvd hbad⟩
      refine Wl.q rfl rfl (OpQ.move rfl) ?_
      refine Wl.q rfl rfl (OpQ.eql rfl rfl) ?_
      refine Wl.know 72 (v' := .bool true) rfl (congrArg Value.bool (decide_eq_true h8.1)) ?_
      refine Wl.q rfl rfl (OpQ.move rfl) ?_
      refine Wl.q rfl rfl (OpQ.move rfl) ?_
      refine Wl.q rfl rfl (OpQ.eql rfl rfl) ?_
      refine Wl.know 75 (v' := .bool true) rfl (congrArg Value.bool (decide_eq_true h8.2)) ?_
      refine Wl.q rfl rfl (OpQ.pickT rfl rfl) ?_
      refine Wl.q rfl rfl (OpQ.move rfl) ?_
      refine Wl.g rfl rfl (OpG.callV K29_go7 rfl (fun w hH => awake_spec w (hH.stays0 hT))) ?_
      rintro _ _
      refine Wl.know 78 (v' := .bool true) rfl (congrArg Value.bool rfl) ?_
      refine Wl.q rfl rfl (OpQ.pickT rfl rfl) ?_
      refine Wl.q rfl rfl (OpQ.assign rfl) ?_
      refine Wl.nil (PX.then_n (CT.ret (PX.then_r ?_)))
      refine PX.ret1 rfl rfl (fun w' hH => ?_)
      exact ⟨rfl, hH.ext⟩
     ·
      have h70 := of_nd_f h70
      obtain rfl : eZ = 0 := hg67
      obtain rfl : e8 = 0 := h70
      obtain ⟨_, rfl, hZX, hZ4⟩ := hZ.resolve_right (fun hh => by have := hh.1; omega)
      have hZi : Z.i = Z.vs.length := by have := hZX.le; have := hZX.vl; omega
      obtain ⟨_, hDa⟩ := done_build hB hvd hZX hZi
      have hDO := hO rfl
      refine CT.as (fun _ h => h.dfrAdd) ?_
      refine CT.skip (PX.then_n (CT.seq (CT.region ?_)))
      refine Wl.q rfl rfl (OpQ.loadV (b := b5) K29_ag43 K29_sz43 rfl (by repeat (first | exact Has.here | apply Has.there)) (by rfl)) ?_
      refine Wl.know 81 (v' := drvv Z) rfl rfl ?_
      refine Wl.g rfl rfl (OpG.callX K29_go19 rfl .nil (fun _ => (.cons .nil)) (fun w hH hp => sauto_spec w (simp (toE v)) Z (fun w' he => ((hH.staysK0 (show Has _ (dfr (AllM [v]) Z _) from (by repeat (first | exact Has.here | apply Has.there)))).frag w' he (((hH.stays0 hv).mono (fun w h => AllM.one.2 h)) w' he))) hZX hs2 hsf hZi)) ?_
      rintro ⟨F, fs⟩ hF
      dsimp only at hF
      have hFO : F.Ok := hF.ok (by rw [← hDa]; exact hDO.daOk) (by show 1 ≤ 2 ∧ 2 ≤ 6; omega) (by rw [← hDa]; exact hDO.n)
      have hF5 := hFO.n
      have hn5 := BuildR.n hB rfl
      have hfin := (sameD_da hFO hDO).2 (by rw [hF.da, hDa])
      refine Wl.q rfl rfl (OpQ.move rfl) ?_
      refine Wl.q rfl rfl (OpQ.extract rfl rfl) ?_
      refine Wl.know 83 (v' := dvv F) rfl rfl ?_
      refine Wl.q rfl rfl (OpQ.extract rfl rfl) ?_
      refine Wl.know 84 (v' := .int .i64 0) rfl rfl ?_
      refine Wl.g rfl rfl (OpG.alloc (zs := [.int .i64 0, .int .i64 0, .slice none 0 0, .slice none 0 0]) K29_in30 rfl rfl) ?_
      rintro b11 _
      refine Wl.g rfl rfl (OpG.storeV (b := b11) K29_sz30 rfl rfl rfl rfl (by repeat (first | exact Upd.here | apply Upd.there))) ?_
      rintro _ _
      refine Wl.q rfl rfl (OpQ.assign rfl) ?_
      refine Wl.nil (PX.then_n (CT.seq (CT.region ?_)))
      refine Wl.q rfl rfl (OpQ.move rfl) ?_
      refine Wl.q rfl rfl (OpQ.eql rfl rfl) ?_
      refine Wl.know 86 (v' := .bool true) rfl (congrArg Value.bool rfl) ?_
      refine Wl.q rfl rfl (OpQ.move rfl) ?_
      refine Wl.q rfl rfl (OpQ.loadV (b := b5) K29_ag43 K29_sz43 rfl (by repeat (first | exact Has.here | apply Has.there)) (by rfl)) ?_
      refine Wl.know 88 (v' := drvv Z) rfl rfl ?_
      refine Wl.g rfl rfl (OpG.callV K29_go20 rfl (fun w hH => sfin_spec w (simp (toE v)) Z (fun w' he => ((hH.staysK0 (show Has _ (dfr (AllM [v]) Z _) from (by repeat (first | exact Has.here | apply Has.there)))).frag w' he (((hH.stays0 hv).mono (fun w h => AllM.one.2 h)) w' he))) hZX hs2 hsf hZi)) ?_
      rintro _ _
      refine Wl.know 89 (v' := .bool true) rfl (congrArg Value.bool rfl) ?_
      refine Wl.q rfl rfl (OpQ.pickT rfl rfl) ?_
      refine Wl.q rfl rfl (OpQ.move rfl) ?_
      refine Wl.q rfl rfl (OpQ.loadV (b := b11) K29_ag30 K29_sz30 rfl (by repeat (first | exact Has.here | apply Has.there)) (by rfl)) ?_
      refine Wl.know 92 (v' := dvv F) rfl rfl ?_
      refine Wl.q rfl rfl (OpQ.loadV (b := b7) K29_ag30 K29_sz30 rfl (by repeat (first | exact Has.here | apply Has.there)) (by rfl)) ?_
      refine Wl.know 93 (v' := dvv D) rfl rfl ?_
      refine Wl.g rfl rfl (OpG.callV K29_go13 rfl (fun w hH => same_spec w F D (Stays.frag (hH.staysK0 (show Has _ (.frag fs (dvm F)) from (by repeat (first | exact Has.here | apply Has.there))))) (Stays.frag (hH.staysK0 (show Has _ (.frag ds (dvm D)) from (by repeat (first | exact Has.here | apply Has.there))))) (by omega) (by have := hFO.len; omega) (fun q hq => by have := hFO.len; have := hFO.may; have := (hFO.row q (by omega)).1; omega))) ?_
      rintro _ _
      refine Wl.know 94 (v' := .bool true) rfl (congrArg Value.bool hfin) ?_
      refine Wl.q rfl rfl (OpQ.pickT rfl rfl) ?_
      refine Wl.q rfl rfl (OpQ.move rfl) ?_
      refine Wl.g rfl rfl (OpG.callV K29_go7 rfl (fun w hH => awake_spec w (hH.stays0 hT))) ?_
      rintro _ _
      refine Wl.know 97 (v' := .bool true) rfl (congrArg Value.bool rfl) ?_
      refine Wl.q rfl rfl (OpQ.pickT rfl rfl) ?_
      refine Wl.q rfl rfl (OpQ.assign rfl) ?_
      refine Wl.nil (PX.then_n (CT.ret ?_))
      refine PX.ret1 rfl rfl (fun w' hH => ?_)
      exact ⟨rfl, hH.ext⟩

end Go.Proofs.YtmggcdegekbncabGreatDoor

