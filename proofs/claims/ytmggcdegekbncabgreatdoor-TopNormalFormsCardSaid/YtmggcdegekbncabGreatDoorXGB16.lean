/-
  What functions of the program compute, each by its walk. Conditions: those that each theorem names.
-/
import Derived.Test.YtmggcdegekbncabGreatDoorMod
import Derived.Test.YtmggcdegekbncabGreatDoorXGB15
import Derived.Test.YtmggcdegekbncabGreatDoorXF
set_option linter.unusedSimpArgs false
namespace Go.Proofs.YtmggcdegekbncabGreatDoor
open Go Go.Eng Go.Am Go.Ex
open Go.Tp (zi)
open Go.Tl (mayL Wd okW okB bo)
open Go.Ex.simp (simpL)
open Go.Ex.dv (dvL dvC)
open Go.Ex.hasU (hasAny hasAll)
open Go.Ex.wf (wfL)
open Go.Ex.szE (szL)
open Go.Ex.dpE (dpL)
open Go.Ex.cmpE (cmpL)
open Go.Ex.fmtE (fmtK fmtR)
theorem K16_in24 : (Tryz.prog.info? 24).map (fun i => (i.zero, i.size, i.bytes)) = some (some (.agg #[.int .i64 0, .int .i64 0, .slice none 0 0]), 3, 40) := by kernel_rfl
theorem K16_fa135_0 : fieldB Tryz.prog 135 0 = some 0 := by kernel_rfl
theorem K16_ag24 : isAggB Tryz.prog 24 = some true := by kernel_rfl
theorem K16_sz24 : sizeB Tryz.prog 24 = some 3 := by kernel_rfl
theorem K16_go32 : isGo Tryz.prog 32 = true := by kernel_rfl
theorem K16_pl24 : placesB Tryz.prog 24 = some (#[.int .i64 0, .int .i64 0, .slice none 0 0], [(0, 1), (1, 1), (2, 1)]) := by kernel_rfl
set_option maxRecDepth 100000 in
/-- semigroup/derive.limited -/
theorem limited_spec (w : World) (a b : Xv) (q : Bool) (ha : Stays [] w (evm a)) : Calls Tryz.prog 82 #[drv a b q] w (fun e w' => e = .returned (.tuple #[evv (if vdE 6 (toE a) = 0 then a else lfv 0 0), .int .i64 (if vdE 6 (toE a) = 0 then (0 : Int) else 3)]) ∧ Ext [] w w') := by
 refine enter (args := [drv a b q]) [] 11 Tryz.func82 rfl rfl rfl ?_
 refine CT.seq (CT.region ?_)
 refine Wl.g rfl rfl (OpG.box (size := 7) rfl rfl rfl) ?_
 rintro b1 _
 refine Wl.g rfl rfl (OpG.alloc (zs := [.int .i64 0, .int .i64 0, .slice none 0 0]) K16_in24 rfl rfl) ?_
 rintro b2 _
 refine Wl.q rfl rfl (OpQ.assign rfl) ?_
 refine Wl.nil (PX.then_n (CT.seq (CT.seq (CT.region ?_))))
 refine Wl.q rfl rfl (OpQ.fieldAddr K16_fa135_0 rfl) ?_
 refine Wl.q rfl rfl (OpQ.loadFA (b := b1) (cs := evc a) K16_ag24 K16_sz24 rfl (by repeat (first | exact Has.here | apply Has.there)) (fun _ _ h => drl_by h)) ?_
 refine Wl.know 5 (v' := evv a) rfl rfl ?_
 refine Wl.g rfl rfl (OpG.callV K16_go32 rfl (fun w hH => exvalid_spec w a (hH.stays0 ha) 6)) ?_
 rintro _ _
 refine Wl.q rfl rfl (OpQ.neq rfl rfl) ?_
 refine Wl.nil (PX.then_n ?_)
 refine CT.cond rfl (fun h7 => ?_) (fun h7 => ?_)
 ·
  have h7 := of_nd_t h7
  refine CT.seq (CT.region ?_)
  refine Wl.q rfl rfl (OpQ.build (cells := #[.int .i64 0, .int .i64 0, .slice none 0 0]) K16_pl24 rfl rfl) ?_
  refine Wl.g rfl rfl (OpG.storeV (b := b2) K16_sz24 rfl rfl rfl rfl (by repeat (first | exact Upd.here | apply Upd.there))) ?_
  rintro _ _
  refine Wl.q rfl rfl (OpQ.assign rfl) ?_
  refine Wl.nil (PX.then_n (CT.ret (PX.then_r ?_)))
  refine PX.retC2 rfl rfl rfl (by repeat (first | exact Has.here | apply Has.there)) K16_ag24 K16_sz24 (by rfl) (fun w' hH => ?_)
  exact ⟨by rw [if_neg h7, if_neg h7]; rfl, hH.ext⟩
 ·
  have h7 := of_nd_f h7
  refine CT.skip (PX.then_n (CT.seq (CT.region ?_)))
  refine Wl.q rfl rfl (OpQ.fieldAddr K16_fa135_0 rfl) ?_
  refine Wl.q rfl rfl (OpQ.loadFA (b := b1) (cs := evc a) K16_ag24 K16_sz24 rfl (by repeat (first | exact Has.here | apply Has.there)) (fun _ _ h => drl_by h)) ?_
  refine Wl.know 10 (v' := evv a) rfl rfl ?_
  refine Wl.g rfl rfl (OpG.storeV (b := b2) K16_sz24 rfl rfl rfl rfl (by repeat (first | exact Upd.here | apply Upd.there))) ?_
  rintro _ _
  refine Wl.q rfl rfl (OpQ.assign rfl) ?_
  refine Wl.nil (PX.then_n (CT.ret ?_))
  refine PX.retC2 rfl rfl rfl (by repeat (first | exact Has.here | apply Has.there)) K16_ag24 K16_sz24 (by rfl) (fun w' hH => ?_)
  exact ⟨by rw [if_pos h7, if_pos h7], hH.ext⟩

theorem K16_pl137 : placesB Tryz.prog 137 = some (#[.int .i64 0, .bool false], [(0, 1), (1, 1)]) := by kernel_rfl
theorem K16_go83 : isGo Tryz.prog 83 = true := by kernel_rfl
theorem K16_go82 : isGo Tryz.prog 82 = true := by kernel_rfl
set_option maxRecDepth 100000 in
/-- semigroup/derive.byLetter -/
theorem byL_spec (w : World) (v : Xv) (x : Int) (hz : szE (toE v) ≤ 400) (hw : wf 6 (toE v) = true) (hv : Stays [] w (evm v)) : Calls Tryz.prog 60 #[evv v, .int .i64 x] w (fun e w' => ∃ i : Xv × List Nat, (toE i.1 = if vdE 6 ((dv true x (toE v)).by') = 0 then (dv true x (toE v)).by' else zeroE) ∧ e = .returned (.tuple #[evv i.1, .int .i64 (if vdE 6 ((dv true x (toE v)).by') = 0 then (0 : Int) else 3)]) ∧ Post [] [fx (AllM [v]) [i.1] i.2] w w') := by
 refine enter (args := [evv v, .int .i64 x]) [] 13 Tryz.func60 rfl rfl rfl ?_
 refine CT.seq (CT.region ?_)
 refine Wl.g rfl rfl (OpG.box (size := 3) rfl rfl rfl) ?_
 rintro b2 _
 refine Wl.g rfl rfl (OpG.alloc (zs := [.int .i64 0, .int .i64 0, .slice none 0 0]) K16_in24 rfl rfl) ?_
 rintro b4 _
 refine Wl.q rfl rfl (OpQ.assign rfl) ?_
 refine Wl.nil (PX.then_n (CT.seq (CT.region ?_)))
 refine Wl.q rfl rfl (OpQ.move rfl) ?_
 refine Wl.q rfl rfl (OpQ.build (cells := #[.int .i64 x, .bool true]) K16_pl137 rfl rfl) ?_
 refine Wl.q rfl rfl (OpQ.loadV (b := b2) K16_ag24 K16_sz24 rfl (by repeat (first | exact Has.here | apply Has.there)) (by rfl)) ?_
 refine Wl.know 8 (v' := evv v) rfl rfl ?_
 refine Wl.g rfl rfl (OpG.callX K16_go83 rfl .nil (fun _ => (.cons .nil)) (fun w hH hp => deriv_spec true x v w hz hw (hH.stays0 hv))) ?_
 rintro ⟨p, q, bs⟩ ⟨hp, hq⟩
 refine Wl.g rfl rfl (OpG.callV K16_go82 rfl (fun w hH => limited_spec w p q _ (fun w' he => (AllM.two.1 ((hH.staysK0 (show Has _ (fx (AllM [v]) [p, q] bs) from (by repeat (first | exact Has.here | apply Has.there)))).frag w' he (((hH.stays0 hv).mono (fun w h => AllM.one.2 h)) w' he))).1))) ?_
 rintro _ _
 refine Wl.q rfl rfl (OpQ.extract rfl rfl) ?_
 refine Wl.q rfl rfl (OpQ.extract rfl rfl) ?_
 refine Wl.g rfl rfl (OpG.storeV (b := b4) K16_sz24 rfl rfl rfl rfl (by repeat (first | exact Upd.here | apply Upd.there))) ?_
 rintro _ _
 refine Wl.q rfl rfl (OpQ.assign rfl) ?_
 refine Wl.nil (PX.then_n (CT.ret ?_))
 refine PX.retC2 rfl rfl rfl (by repeat (first | exact Has.here | apply Has.there)) K16_ag24 K16_sz24 (by rfl) (fun w' hH => ?_)
 refine ⟨(if vdE 6 (toE p) = 0 then p else lfv 0 0, bs), ?_, ?_, HOk.post ((hH.take (.cons .here .nil)).fxLess (us := [if vdE 6 (toE p) = 0 then p else lfv 0 0]) (fun w h => AllM.one.2 ?_))⟩
 ·
  rw [← show toE p = (dv true x (toE v)).by' from hp]; show toE (if _ then _ else _) = _; split <;> rfl
 ·
  rw [← show toE p = (dv true x (toE v)).by' from hp]; rfl
 ·
  split
  ·
   exact (AllM.two.1 h).1
  ·
   exact lfv_m 0 0 w

end Go.Proofs.YtmggcdegekbncabGreatDoor

