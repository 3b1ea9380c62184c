/-
  What functions of the program compute, each by its walk. Conditions: those that each theorem names.
-/
import Derived.Test.YtmggcdegekbncaaGreatDoorMod
import Derived.Test.YtmggcdegekbncaaGreatDoorXGA15
import Derived.Test.YtmggcdegekbncaaGreatDoorXF
set_option linter.unusedSimpArgs false
namespace Go.Proofs.YtmggcdegekbncaaGreatDoor
open Go Go.Eng Go.Am Go.Ex
open Go.Tp (zi)
open Go.Tl (mayL Wd okW okB bo)
open Go.Ex.simp (simpL)
open Go.Ex.dv (dvL dvC)
open Go.Ex.hasU (hasAny hasAll)
open Go.Ex.wf (wfL)
open Go.Ex.szE (szL)
open Go.Ex.dpE (dpL)
open Go.Ex.cmpE (cmpL)
open Go.Ex.fmtE (fmtK fmtR)
theorem K16_in39 : (Tryz.prog.info? 39).map (fun i => (i.zero, i.size, i.bytes)) = some (some (.agg #[.int .i64 0, .int .i64 0, .slice none 0 0]), 3, 40) := by kernel_rfl
theorem K16_fa86_0 : fieldB Tryz.prog 86 0 = some 0 := by kernel_rfl
theorem K16_ag39 : isAggB Tryz.prog 39 = some true := by kernel_rfl
theorem K16_sz39 : sizeB Tryz.prog 39 = some 3 := by kernel_rfl
theorem K16_go33 : isGo Tryz.prog 33 = true := by kernel_rfl
theorem K16_pl39 : placesB Tryz.prog 39 = some (#[.int .i64 0, .int .i64 0, .slice none 0 0], [(0, 1), (1, 1), (2, 1)]) := by kernel_rfl
set_option maxRecDepth 100000 in
/-- semigroup/derive.limited -/
theorem limited_spec (w : World) (a b : Xv) (q : Bool) (ha : Stays [] w (evm a)) : Calls Tryz.prog 58 #[drv a b q] w (fun e w' => e = .returned (.tuple #[evv (if vdE 6 (toE a) = 0 then a else lfv 0 0), .int .i64 (if vdE 6 (toE a) = 0 then (0 : Int) else 3)]) ∧ Ext [] w w') := by
 refine enter (args := [drv a b q]) [] 11 Tryz.func58 rfl rfl rfl ?_
 refine CT.seq (CT.region ?_)
 refine Wl.g rfl rfl (OpG.box (size := 7) rfl rfl rfl) ?_
 rintro b1 _
 refine Wl.g rfl rfl (OpG.alloc (zs := [.int .i64 0, .int .i64 0, .slice none 0 0]) K16_in39 rfl rfl) ?_
 rintro b2 _
 refine Wl.q rfl rfl (OpQ.assign rfl) ?_
 refine Wl.nil (PX.then_n (CT.seq (CT.seq (CT.region ?_))))
 refine Wl.q rfl rfl (OpQ.fieldAddr K16_fa86_0 rfl) ?_
 refine Wl.q rfl rfl (OpQ.loadFA (b := b1) (cs := evc a) K16_ag39 K16_sz39 rfl (by repeat (first | exact Has.here | apply Has.there)) (fun _ _ h => drl_by h)) ?_
 refine Wl.know 5 (v' := evv a) rfl rfl ?_
 refine Wl.g rfl rfl (OpG.callV K16_go33 rfl (fun w hH => exvalid_spec w a (hH.stays0 ha) 6)) ?_
 rintro _ _
 refine Wl.q rfl rfl (OpQ.neq rfl rfl) ?_
 refine Wl.nil (PX.then_n ?_)
 refine CT.cond rfl (fun h7 => ?_) (fun h7 => ?_)
 ·
  have h7 := of_nd_t h7
  refine CT.seq (CT.region ?_)
  refine Wl.q rfl rfl (OpQ.build (cells := #[.int .i64 0, .int .i64 0, .slice none 0 0]) K16_pl39 rfl rfl) ?_
  refine Wl.g rfl rfl (OpG.storeV (b := b2) K16_sz39 rfl rfl rfl rfl (by repeat (first | exact Upd.here | apply Upd.there))) ?_
  rintro _ _
  refine Wl.q rfl rfl (OpQ.assign rfl) ?_
  refine Wl.nil (PX.then_n (CT.ret (PX.then_r ?_)))
  refine PX.retC2 rfl rfl rfl (by repeat (first | exact Has.here | apply Has.there)) K16_ag39 K16_sz39 (by rfl) (fun w' hH => ?_)
  exact ⟨by rw [if_neg h7, if_neg h7]; rfl, hH.ext⟩
 ·
  have h7 := of_nd_f h7
  refine CT.skip (PX.then_n (CT.seq (CT.region ?_)))
  refine Wl.q rfl rfl (OpQ.fieldAddr K16_fa86_0 rfl) ?_
  refine Wl.q rfl rfl (OpQ.loadFA (b := b1) (cs := evc a) K16_ag39 K16_sz39 rfl (by repeat (first | exact Has.here | apply Has.there)) (fun _ _ h => drl_by h)) ?_
  refine Wl.know 10 (v' := evv a) rfl rfl ?_
  refine Wl.g rfl rfl (OpG.storeV (b := b2) K16_sz39 rfl rfl rfl rfl (by repeat (first | exact Upd.here | apply Upd.there))) ?_
  rintro _ _
  refine Wl.q rfl rfl (OpQ.assign rfl) ?_
  refine Wl.nil (PX.then_n (CT.ret ?_))
  refine PX.retC2 rfl rfl rfl (by repeat (first | exact Has.here | apply Has.there)) K16_ag39 K16_sz39 (by rfl) (fun w' hH => ?_)
  exact ⟨by rw [if_pos h7, if_pos h7], hH.ext⟩

theorem K16_pl88 : placesB Tryz.prog 88 = some (#[.int .i64 0, .bool false], [(0, 1), (1, 1)]) := by kernel_rfl
theorem K16_go59 : isGo Tryz.prog 59 = true := by kernel_rfl
theorem K16_go58 : isGo Tryz.prog 58 = true := by kernel_rfl
set_option maxRecDepth 100000 in
/-- semigroup/derive.byLetter -/
theorem byL_spec (w : World) (v : Xv) (x : Int) (hz : szE (toE v) ≤ 400) (hw : wf 6 (toE v) = true) (hv : Stays [] w (evm v)) : Calls Tryz.prog 35 #[evv v, .int .i64 x] w (fun e w' => ∃ i : Xv × List Nat, (toE i.1 = if vdE 6 ((dv true x (toE v)).by') = 0 then (dv true x (toE v)).by' else zeroE) ∧ e = .returned (.tuple #[evv i.1, .int .i64 (if vdE 6 ((dv true x (toE v)).by') = 0 then (0 : Int) else 3)]) ∧ Post [] [fx (AllM [v]) [i.1] i.2] w w') := by
 refine enter (args := [evv v, .int .i64 x]) [] 13 Tryz.func35 rfl rfl rfl ?_
 refine CT.seq (CT.region ?_)
 refine Wl.g rfl rfl (OpG.box (size := 3) rfl rfl rfl) ?_
 rintro b2 _
 refine Wl.g rfl rfl (OpG.alloc (zs := [.int .i64 0, .int .i64 0, .slice none 0 0]) K16_in39 rfl rfl) ?_
 rintro b4 _
 refine Wl.q rfl rfl (OpQ.assign rfl) ?_
 refine Wl.nil (PX.then_n (CT.seq (CT.region ?_)))
 refine Wl.q rfl rfl (OpQ.move rfl) ?_
 refine Wl.q rfl rfl (OpQ.build (cells := #[.int .i64 x, .bool true]) K16_pl88 rfl rfl) ?_
 refine Wl.q rfl rfl (OpQ.loadV (b := b2) K16_ag39 K16_sz39 rfl (by repeat (first | exact Has.here | apply Has.there)) (by rfl)) ?_
 refine Wl.know 8 (v' := evv v) rfl rfl ?_
 refine Wl.g rfl rfl (OpG.callX K16_go59 rfl .nil (fun _ => (.cons .nil)) (fun w hH hp => deriv_spec true x v w hz hw (hH.stays0 hv))) ?_
 rintro ⟨p, q, bs⟩ ⟨hp, hq⟩
 refine Wl.g rfl rfl (OpG.callV K16_go58 rfl (fun w hH => limited_spec w p q _ (fun w' he => (AllM.two.1 ((hH.staysK0 (show Has _ (fx (AllM [v]) [p, q] bs) from (by repeat (first | exact Has.here | apply Has.there)))).frag w' he (((hH.stays0 hv).mono (fun w h => AllM.one.2 h)) w' he))).1))) ?_
 rintro _ _
 refine Wl.q rfl rfl (OpQ.extract rfl rfl) ?_
 refine Wl.q rfl rfl (OpQ.extract rfl rfl) ?_
 refine Wl.g rfl rfl (OpG.storeV (b := b4) K16_sz39 rfl rfl rfl rfl (by repeat (first | exact Upd.here | apply Upd.there))) ?_
 rintro _ _
 refine Wl.q rfl rfl (OpQ.assign rfl) ?_
 refine Wl.nil (PX.then_n (CT.ret ?_))
 refine PX.retC2 rfl rfl rfl (by repeat (first | exact Has.here | apply Has.there)) K16_ag39 K16_sz39 (by rfl) (fun w' hH => ?_)
 refine ⟨(if vdE 6 (toE p) = 0 then p else lfv 0 0, bs), ?_, ?_, HOk.post ((hH.take (.cons .here .nil)).fxLess (us := [if vdE 6 (toE p) = 0 then p else lfv 0 0]) (fun w h => AllM.one.2 ?_))⟩
 ·
  rw [← show toE p = (dv true x (toE v)).by' from hp]; show toE (if _ then _ else _) = _; split <;> rfl
 ·
  rw [← show toE p = (dv true x (toE v)).by' from hp]; rfl
 ·
  split
  ·
   exact (AllM.two.1 h).1
  ·
   exact lfv_m 0 0 w

theorem K16_go30 : isGo Tryz.prog 30 = true := by kernel_rfl
theorem K16_go34 : isGo Tryz.prog 34 = true := by kernel_rfl
theorem K16_un9 : Tryz.prog.underlying 9 = some .string := by kernel_rfl
theorem K16_mixed : Tryz.prog.follows .mixedOrders = true := by kernel_rfl
theorem K16_un5 : Tryz.prog.underlying 5 = some (.int .u8) := by kernel_rfl
theorem K16_un3 : Tryz.prog.underlying 3 = some (.int .i64) := by kernel_rfl
theorem K16_go35 : isGo Tryz.prog 35 = true := by kernel_rfl
set_option maxRecDepth 100000 in
/-- semigroup/derive.ByWord -/
theorem byW_spec (w : World) (v : Xv) (hv : Stays [] w (evm v)) (ws : Tl.Wd) (hn : ws.length ≤ 9223372036854775807) : Calls Tryz.prog 15 #[evv v, sv ws] w (fun e w' => ∃ i : Xv × List Nat, (toE i.1 = (dwR (toE v) ws).1) ∧ e = .returned (.tuple #[evv i.1, .int .i64 (dwR (toE v) ws).2]) ∧ Post [] [fx (AllM [v]) [i.1] i.2] w w') := by
 refine enter (args := [evv v, sv ws]) [] 44 Tryz.func15 rfl rfl rfl ?_
 refine CT.seq (CT.region ?_)
 refine Wl.g rfl rfl (OpG.box (size := 3) rfl rfl rfl) ?_
 rintro b2 _
 refine Wl.g rfl rfl (OpG.alloc (zs := [.int .i64 0, .int .i64 0, .slice none 0 0]) K16_in39 rfl rfl) ?_
 rintro b4 _
 refine Wl.q rfl rfl (OpQ.assign rfl) ?_
 refine Wl.nil (PX.then_n (CT.seq (CT.seq (CT.region ?_))))
 refine Wl.q rfl rfl (OpQ.loadV (b := b2) K16_ag39 K16_sz39 rfl (by repeat (first | exact Has.here | apply Has.there)) (by rfl)) ?_
 refine Wl.know 10 (v' := evv v) rfl rfl ?_
 refine Wl.g rfl rfl (OpG.callV K16_go33 rfl (fun w hH => exvalid_spec w v (hH.stays0 hv) 6)) ?_
 rintro _ _
 refine Wl.q rfl rfl (OpQ.assign rfl) ?_
 refine Wl.nil (PX.then_n (CT.seq (CT.region ?_)))
 refine Wl.q rfl rfl (OpQ.move rfl) ?_
 refine Wl.q rfl rfl (OpQ.neq rfl rfl) ?_
 refine Wl.nil (PX.then_n ?_)
 refine CT.cond rfl (fun h13 => ?_) (fun h13 => ?_)
 ·
  have h13 := of_nd_t h13
  refine CT.seq (CT.region ?_)
  refine Wl.q rfl rfl (OpQ.build (cells := #[.int .i64 0, .int .i64 0, .slice none 0 0]) K16_pl39 rfl rfl) ?_
  refine Wl.q rfl rfl (OpQ.move rfl) ?_
  refine Wl.g rfl rfl (OpG.storeV (b := b4) K16_sz39 rfl rfl rfl rfl (by repeat (first | exact Upd.here | apply Upd.there))) ?_
  rintro _ _
  refine Wl.q rfl rfl (OpQ.assign rfl) ?_
  refine Wl.nil (PX.then_n (CT.ret (PX.then_r ?_)))
  refine PX.retC2 rfl rfl rfl (by repeat (first | exact Has.here | apply Has.there)) K16_ag39 K16_sz39 (by rfl) (fun w' hH => ?_)
  exact ⟨(lfv 0 0, []), by rw [dwR_bad h13]; rfl, by rw [dwR_bad h13]; rfl, HOk.post (HOk.fx0 (A := AllM [v]) (vs := [lfv 0 0]) (hH.take .nil) (fun w h => AllM.one.2 (lfv_m _ _ w)))⟩
 ·
  have h13 := of_nd_f h13
  refine CT.skip (PX.then_n (CT.seq (CT.seq (CT.region ?_))))
  refine Wl.q rfl rfl (OpQ.move rfl) ?_
  refine Wl.g rfl rfl (OpG.callV K16_go30 rfl (fun w hH => wvalid_spec w ws hn 6)) ?_
  rintro _ _
  refine Wl.q rfl rfl (OpQ.not rfl) ?_
  refine Wl.nil (PX.then_n ?_)
  refine CT.cond rfl (fun h18 => ?_) (fun h18 => ?_)
  ·
   have h18 : okW ws 6 = false := by simpa using h18
   refine CT.seq (CT.region ?_)
   refine Wl.q rfl rfl (OpQ.build (cells := #[.int .i64 0, .int .i64 0, .slice none 0 0]) K16_pl39 rfl rfl) ?_
   refine Wl.g rfl rfl (OpG.storeV (b := b4) K16_sz39 rfl rfl rfl rfl (by repeat (first | exact Upd.here | apply Upd.there))) ?_
   rintro _ _
   refine Wl.q rfl rfl (OpQ.assign rfl) ?_
   refine Wl.nil (PX.then_n (CT.ret (PX.then_r ?_)))
   refine PX.retC2 rfl rfl rfl (by repeat (first | exact Has.here | apply Has.there)) K16_ag39 K16_sz39 (by rfl) (fun w' hH => ?_)
   exact ⟨(lfv 0 0, []), by rw [dwR_word h13 h18]; rfl, by rw [dwR_word h13 h18]; rfl, HOk.post (HOk.fx0 (A := AllM [v]) (vs := [lfv 0 0]) (hH.take .nil) (fun w h => AllM.one.2 (lfv_m _ _ w)))⟩
  ·
   have h18 : okW ws 6 = true := by simpa using h18
   refine CT.skip (PX.then_n (CT.seq (CT.region ?_)))
   refine Wl.q rfl rfl (OpQ.loadV (b := b2) K16_ag39 K16_sz39 rfl (by repeat (first | exact Has.here | apply Has.there)) (by rfl)) ?_
   refine Wl.know 20 (v' := evv v) rfl rfl ?_
   refine Wl.g rfl rfl (OpG.callX K16_go34 rfl .nil (fun _ => (.cons .nil)) (fun w hH hp => normal_spec w v (hH.stays0 hv))) ?_
   rintro ⟨r21, bs21⟩ h21
   refine Wl.g rfl rfl (OpG.storeV (b := b2) K16_sz39 rfl rfl rfl rfl (by repeat (first | exact Upd.here | apply Upd.there))) ?_
   rintro _ _
   refine Wl.nil (PX.then_n (CT.seq (CT.seq (CT.region ?_))))
   refine Wl.q rfl rfl (OpQ.move rfl) ?_
   refine Wl.q rfl rfl (OpQ.lenSv K16_un9 rfl) ?_
   refine Wl.q rfl rfl (OpQ.move rfl) ?_
   refine Wl.nil (PX.then_n (CT.block ?_))
   refine CT.loop (ι := Nat × Xv × List Nat) (fun (k, f, bs) => k ≤ ws.length ∧ derW (simp (toE v)) ((wl ws).take k) = some (toE f) ∧ vdE 6 (toE f) = 0) (fun (k, f, bs) => [(1, sv ws), (2, .pointer (some ⟨b2, 0, none⟩)), (4, .pointer (some ⟨b4, 0, none⟩)), (22, sv ws), (23, .int .i64 ((ws.length : Nat) : Int)), (24, .int .i64 ((k : Nat) : Int))]) (fun (k, f, bs) => [fx (AllM [v]) [f] bs, .row 39 3 (vb b4) 1 [.int .i64 0, .int .i64 0, .slice none 0 0], .row 39 3 (vb b2) 1 (evc f)]) (fun (k, f, bs) => ws.length - k) (0, r21, bs21) ⟨Nat.zero_le _, by rw [List.take_zero, derW]; exact congrArg some (show toE r21 = _ from by rw [h21, if_pos h13]).symm, by show vdE 6 (toE r21) = 0; rw [h21, if_pos h13]; exact simp_vd h13⟩ ⟨rfl, rfl, rfl, rfl, rfl, rfl, trivial⟩ (HSub.refl _) (fun ⟨k, f, bs⟩ ⟨hk, hd, hvd⟩ K0 hK0 => ?_)
   dsimp only
   obtain ⟨hfz, hfw⟩ := vd_sz hvd
   refine CT.seq (CT.region ?_)
   refine Wl.q rfl rfl (OpQ.lss rfl rfl) ?_
   refine Wl.nil (PX.then_n (CT.seq ?_))
   refine CT.cond rfl (fun h25 => ?_) (fun h25 => ?_)
   ·
    have h25 := of_decide_eq_true h25
    have hkl : k < ws.length := by omega
    have hby := okW_byte h18 hkl
    refine CT.skip (PX.then_n (CT.seq (CT.block (CT.seq (CT.region ?_)))))
    refine Wl.q rfl rfl (OpQ.move rfl) ?_
    refine Wl.q rfl rfl (OpQ.assign rfl) ?_
    refine Wl.nil (PX.then_n ?_)
    refine CT.cut (ι := Nat × Xv × List Nat) (Φ := fun (b8, r, bsr) => toE r = if vdE 6 ((dv true (((ws.getD k 0).toNat - 97 : Nat) : Int) (toE f)).by') = 0 then (dv true (((ws.getD k 0).toNat - 97 : Nat) : Int) (toE f)).by' else zeroE) (E' := fun (b8, r, bsr) => [(1, sv ws), (2, .pointer (some ⟨b2, 0, none⟩)), (4, .pointer (some ⟨b4, 0, none⟩)), (22, sv ws), (23, .int .i64 ((ws.length : Nat) : Int)), (24, .int .i64 ((k : Nat) : Int)), (8, .pointer (some ⟨b8, 0, none⟩)), (9, .int .i64 (if vdE 6 ((dv true (((ws.getD k 0).toNat - 97 : Nat) : Int) (toE f)).by') = 0 then (0 : Int) else 3))]) (H' := fun (b8, r, bsr) => [.row 39 3 (vb b8) 1 (evc r), fx (AllM [f]) [r] bsr, fx (AllM [v]) [f] bs, .row 39 3 (vb b4) 1 [.int .i64 0, .int .i64 0, .slice none 0 0], .row 39 3 (vb b2) 1 (evc f)]) (fun K1 hK1 => ?_) (fun ⟨b8, r, bsr⟩ hr0 => ?_)
    ·
     refine CT.draw 13 K16_mixed ?_
     refine RA.q 0 (by kernel_rfl) rfl rfl rfl (.refl _) (OpQ.loadV (b := b2) K16_ag39 K16_sz39 rfl (by repeat (first | exact Has.here | apply Has.there)) (by rfl)) ?_
     refine RA.know 28 (v' := evv f) rfl rfl ?_
     refine RA.q 1 (by kernel_rfl) rfl rfl rfl (.refl _) (OpQ.move rfl) ?_
     refine RA.q 2 (by kernel_rfl) rfl rfl rfl (.refl _) (OpQ.move rfl) ?_
     refine RA.q 3 (by kernel_rfl) rfl rfl rfl (.refl _) (OpQ.indexSvN K16_un9 rfl rfl (by omega)) ?_
     refine RA.q 4 (by kernel_rfl) rfl rfl rfl (.refl _) (OpQ.sub8 rfl rfl (by omega)) ?_
     refine RA.q 5 (by kernel_rfl) rfl rfl rfl (.refl _) (OpQ.conv rfl (conv_u8_i64 K16_un5 K16_un3 _ (by omega))) ?_
     refine RA.know 33 (v' := .int .i64 (((ws.getD k 0).toNat - 97 : Nat) : Int)) rfl (congrArg (Value.int .i64) (by omega)) ?_
     refine RA.two 6 10 (by kernel_rfl) rfl rfl rfl (OpG.callX K16_go35 rfl .nil (fun _ => (.cons .nil)) (fun w hH hp => byL_spec w f (((ws.getD k 0).toNat - 97 : Nat) : Int) hfz hfw (fun w' he => AllM.one.1 ((hH.staysK0 (show Has _ (fx (AllM [v]) [f] bs) from (by repeat (first | exact Has.here | apply Has.there)))).frag w' he (((hH.stays0 hv).mono (fun w h => AllM.one.2 h)) w' he))))) (fun _ _ => (.cons _ (.refl _))) rfl rfl rfl (OpG.alloc (zs := [.int .i64 0, .int .i64 0, .slice none 0 0]) K16_in39 rfl rfl) (fun _ _ => (.cons _ (.refl _))) ?_ ?_
     ·
      rintro ⟨r, bsr⟩ hr0
      refine RA.q 7 (by kernel_rfl) rfl rfl rfl (.cons _ (.refl _)) (OpQ.move rfl) ?_
      refine RA.q 8 (by kernel_rfl) rfl rfl rfl (.cons _ (.refl _)) (OpQ.extract rfl rfl) ?_
      refine RA.q 9 (by kernel_rfl) rfl rfl rfl (.cons _ (.refl _)) (OpQ.extract rfl rfl) ?_
      refine RA.f 10 (by kernel_rfl) rfl rfl rfl (OpG.alloc (zs := [.int .i64 0, .int .i64 0, .slice none 0 0]) K16_in39 rfl rfl) (fun _ _ => (.cons _ (.cons _ (.refl _)))) ?_
      rintro b8 _
      refine RA.f 11 (by kernel_rfl) rfl rfl rfl (OpG.storeV (b := b8) K16_sz39 rfl rfl rfl rfl (by repeat (first | exact Upd.here | apply Upd.there))) (fun _ _ => (.cons _ (.cons _ (.refl _)))) ?_
      rintro _ _
      refine RA.q 12 (by kernel_rfl) rfl rfl rfl (.cons _ (.cons _ (.refl _))) (OpQ.assign rfl) ?_
      refine RA.tail ?_
      refine RT.done (by kernel_rfl) ?_
      exact PX.cut hK1 (b8, r, bsr) hr0 ⟨rfl, rfl, rfl, rfl, rfl, rfl, rfl, rfl, trivial⟩ (HSub.refl _)
     ·
      rintro b8 _
      refine RA.f 6 (by kernel_rfl) rfl rfl rfl (OpG.callX K16_go35 rfl .nil (fun _ => (.cons .nil)) (fun w hH hp => byL_spec w f (((ws.getD k 0).toNat - 97 : Nat) : Int) hfz hfw (fun w' he => AllM.one.1 ((hH.staysK0 (show Has _ (fx (AllM [v]) [f] bs) from (by repeat (first | exact Has.here | apply Has.there)))).frag w' he (((hH.stays0 hv).mono (fun w h => AllM.one.2 h)) w' he))))) (fun _ _ => (.cons _ (.cons _ (.refl _)))) ?_
      rintro ⟨r, bsr⟩ hr0
      refine RA.q 7 (by kernel_rfl) rfl rfl rfl (.cons _ (.cons _ (.refl _))) (OpQ.move rfl) ?_
      refine RA.q 8 (by kernel_rfl) rfl rfl rfl (.cons _ (.cons _ (.refl _))) (OpQ.extract rfl rfl) ?_
      refine RA.q 9 (by kernel_rfl) rfl rfl rfl (.cons _ (.cons _ (.refl _))) (OpQ.extract rfl rfl) ?_
      refine RA.f 11 (by kernel_rfl) rfl rfl rfl (OpG.storeV (b := b8) K16_sz39 rfl rfl rfl rfl (by repeat (first | exact Upd.here | apply Upd.there))) (fun _ _ => (.cons _ (.cons _ (.refl _)))) ?_
      rintro _ _
      refine RA.q 12 (by kernel_rfl) rfl rfl rfl (.cons _ (.cons _ (.refl _))) (OpQ.assign rfl) ?_
      refine RA.tail ?_
      refine RT.perm (.swap _ _ _) ?_
      refine RT.done (by kernel_rfl) ?_
      exact PX.cut hK1 (b8, r, bsr) hr0 ⟨rfl, rfl, rfl, rfl, rfl, rfl, rfl, rfl, trivial⟩ (HSub.refl _)
    ·
     dsimp only
     refine CT.seq (CT.seq (CT.region ?_))
     refine Wl.q rfl rfl (OpQ.move rfl) ?_
     refine Wl.q rfl rfl (OpQ.neq rfl rfl) ?_
     refine Wl.nil (PX.then_n ?_)
     refine CT.cond rfl (fun h38 => ?_) (fun h38 => ?_)
     ·
      have hb : ¬ vdE 6 ((dv true (((ws.getD k 0).toNat - 97 : Nat) : Int) (toE f)).by') = 0 := fun hh => by rw [if_pos hh] at h38; exact absurd h38 (by decide)
      refine CT.seq (CT.region ?_)
      refine Wl.q rfl rfl (OpQ.build (cells := #[.int .i64 0, .int .i64 0, .slice none 0 0]) K16_pl39 rfl rfl) ?_
      refine Wl.q rfl rfl (OpQ.move rfl) ?_
      refine Wl.know 40 (v' := .int .i64 3) rfl (congrArg (Value.int .i64) (if_neg hb)) ?_
      refine Wl.g rfl rfl (OpG.storeV (b := b4) K16_sz39 rfl rfl rfl rfl (by repeat (first | exact Upd.here | apply Upd.there))) ?_
      rintro _ _
      refine Wl.q rfl rfl (OpQ.assign rfl) ?_
      refine Wl.nil (PX.then_n (CT.ret (PX.then_r (PX.block_r (PX.then_r (PX.then_r (PX.block_r (PX.then_r ?_))))))))
      refine PX.retC2 rfl rfl rfl (by repeat (first | exact Has.here | apply Has.there)) K16_ag39 K16_sz39 (by rfl) (fun w' hH => ?_)
      exact ⟨(lfv 0 0, []), by rw [dwR_none h13 h18 (der_stop hkl hd hb)]; rfl, by rw [dwR_none h13 h18 (der_stop hkl hd hb)]; rfl, HOk.post (HOk.fx0 (A := AllM [v]) (vs := [lfv 0 0]) (hH.take .nil) (fun w h => AllM.one.2 (lfv_m _ _ w)))⟩
     ·
      have hb : vdE 6 ((dv true (((ws.getD k 0).toNat - 97 : Nat) : Int) (toE f)).by') = 0 := Classical.byContradiction fun hh => by rw [if_neg hh] at h38; exact absurd h38 (by decide)
      have hr := hr0
      rw [if_pos hb] at hr
      refine CT.skip (PX.then_n (CT.region ?_))
      refine Wl.q rfl rfl (OpQ.loadV (b := b8) K16_ag39 K16_sz39 rfl (by repeat (first | exact Has.here | apply Has.there)) (by rfl)) ?_
      refine Wl.know 41 (v' := evv r) rfl rfl ?_
      refine Wl.g rfl rfl (OpG.storeV (b := b2) K16_sz39 rfl rfl rfl rfl (by repeat (first | exact Upd.here | apply Upd.there))) ?_
      rintro _ _
      refine Wl.nil (PX.block_n (PX.then_n (CT.region ?_)))
      refine Wl.q rfl rfl (OpQ.add rfl rfl (by omega)) ?_
      refine Wl.q rfl rfl (OpQ.move rfl) ?_
      refine Wl.nil ?_
      refine PX.as (fun _ h => ((h.take (.cons (.there .here) (.cons (.there .here) (.cons (.there .here) (.cons (.there .here) .nil))))).fxAdd (us := [f]) (fun w h => h)).fxLess (us := [r]) (fun w h => h.fst)) ?_
      exact PX.loop hK0 (k + 1, r, _) ⟨by omega, by rw [hr]; exact der_go hkl hd hb, by rw [hr]; exact hb⟩ (show ws.length - (k + 1) < ws.length - k by omega) ⟨rfl, rfl, rfl, rfl, rfl, rfl, trivial⟩ (HSub.refl _)
   ·
    have h25 := of_decide_eq_false h25
    refine CT.exit (PX.then_x (PX.then_x (PX.block_x (PX.then_n (CT.seq (CT.region ?_))))))
    refine Wl.q rfl rfl (OpQ.loadV (b := b2) K16_ag39 K16_sz39 rfl (by repeat (first | exact Has.here | apply Has.there)) (by rfl)) ?_
    refine Wl.know 43 (v' := evv f) rfl rfl ?_
    refine Wl.g rfl rfl (OpG.storeV (b := b4) K16_sz39 rfl rfl rfl rfl (by repeat (first | exact Upd.here | apply Upd.there))) ?_
    rintro _ _
    refine Wl.q rfl rfl (OpQ.assign rfl) ?_
    refine Wl.nil (PX.then_n (CT.ret ?_))
    refine PX.retC2 rfl rfl rfl (by repeat (first | exact Has.here | apply Has.there)) K16_ag39 K16_sz39 (by rfl) (fun w' hH => ?_)
    have hd2 := hd
    rw [List.take_of_length_le (by rw [wl_len]; omega)] at hd2
    exact ⟨(f, bs), by rw [dwR_some h13 h18 hd2], by rw [dwR_some h13 h18 hd2], HOk.post (hH.take (.cons .here .nil))⟩

end Go.Proofs.YtmggcdegekbncaaGreatDoor

