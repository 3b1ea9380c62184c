/-
  What functions of the program compute, each by its walk. Conditions: those that each theorem names.
-/
import Derived.Test.YtmggcdegekbncaaGreatDoorXGA21
import Derived.Test.YtmggcdegekbncaaGreatDoorXF
set_option linter.unusedSimpArgs false
namespace Go.Proofs.YtmggcdegekbncaaGreatDoor
open Go Go.Eng Go.Am Go.Ex
open Go.Tp (zi)
open Go.Tl (mayL Wd okW okB bo)
open Go.Ex.simp (simpL)
open Go.Ex.dv (dvL dvC)
open Go.Ex.hasU (hasAny hasAll)
open Go.Ex.wf (wfL)
open Go.Ex.szE (szL)
open Go.Ex.dpE (dpL)
open Go.Ex.cmpE (cmpL)
open Go.Ex.fmtE (fmtK fmtR)
open Go.Rel (tz Tab tz_bound tz_load tz_lt)
theorem K22_ag25 : isAggB Tryz.prog 25 = some true := by kernel_rfl
theorem K22_sz25 : sizeB Tryz.prog 25 = some 4 := by kernel_rfl
theorem K22_go6 : isGo Tryz.prog 6 = true := by kernel_rfl
theorem K22_go8 : isGo Tryz.prog 8 = true := by kernel_rfl
theorem K22_fa25_0 : fieldB Tryz.prog 25 0 = some 0 := by kernel_rfl
theorem K22_sc3 : scalarB Tryz.prog 3 = some true := by kernel_rfl
theorem K22_go7 : isGo Tryz.prog 7 = true := by kernel_rfl
theorem K22_go9 : isGo Tryz.prog 9 = true := by kernel_rfl
theorem K22_in25 : (Tryz.prog.info? 25).map (fun i => (i.zero, i.size, i.bytes)) = some (some (.agg #[.int .i64 0, .int .i64 0, .slice none 0 0, .slice none 0 0]), 4, 64) := by kernel_rfl
theorem K22_go10 : isGo Tryz.prog 10 = true := by kernel_rfl
theorem K22_mixed : Tryz.prog.follows .mixedOrders = true := by kernel_rfl
theorem K22_go11 : isGo Tryz.prog 11 = true := by kernel_rfl
theorem K22_go12 : isGo Tryz.prog 12 = true := by kernel_rfl
theorem K22_go13 : isGo Tryz.prog 13 = true := by kernel_rfl
theorem K22_un4 : Tryz.prog.underlying 4 = some .bool := by kernel_rfl
set_option maxRecDepth 100000 in
set_option maxHeartbeats 2000000 in
/-- semigroup/semigrouptop.TopResiduals -/
theorem TopResiduals_spec (w : World) (D : Dv) (hD : Stays [] w (dvm D)) (us : Wd) (hu : us.length ≤ 9223372036854775807) (vs : Wd) (hv : vs.length ≤ 9223372036854775807) (hT : Stays [] w Tab) : Calls Tryz.prog 3 #[dvv D, sv us, sv vs] w (fun e w' => e = .returned (.bool true) ∧ Ext [] w w') := by
 refine enter (args := [dvv D, sv us, sv vs]) [] 71 Tryz.func3 rfl rfl rfl ?_
 refine CT.seq (CT.region ?_)
 refine Wl.g rfl rfl (OpG.box (size := 4) rfl rfl rfl) ?_
 rintro b3 _
 refine Wl.q rfl rfl (OpQ.assign rfl) ?_
 refine Wl.nil (PX.then_n (CT.seq (CT.seq (CT.region ?_))))
 refine Wl.q rfl rfl (OpQ.loadV (b := b3) K22_ag25 K22_sz25 rfl (by repeat (first | exact Has.here | apply Has.there)) (by rfl)) ?_
 refine Wl.know 12 (v' := dvv D) rfl rfl ?_
 refine Wl.g rfl rfl (OpG.callV K22_go6 rfl (fun w hH => small_spec w D (hH.stays0 hD) 8)) ?_
 rintro _ _
 refine Wl.q rfl rfl (OpQ.not rfl) ?_
 refine Wl.q rfl rfl (OpQ.move rfl) ?_
 refine Wl.split 15 rfl (fun hg15 => ?_) (fun hg15 => ?_)
 ·
  have hg15 := of_nd_t hg15
  refine Wl.skip rfl rfl ?_
  refine Wl.skip rfl rfl ?_
  refine Wl.skip rfl rfl ?_
  refine Wl.skip rfl rfl ?_
  refine Wl.skip rfl rfl ?_
  refine Wl.q rfl rfl (OpQ.pickT rfl rfl) ?_
  refine Wl.q rfl rfl (OpQ.move rfl) ?_
  refine Wl.skip rfl rfl ?_
  refine Wl.skip rfl rfl ?_
  refine Wl.skip rfl rfl ?_
  refine Wl.skip rfl rfl ?_
  refine Wl.skip rfl rfl ?_
  refine Wl.q rfl rfl (OpQ.pickT rfl rfl) ?_
  refine Wl.nil (PX.then_n ?_)
  refine CT.condT rfl ?_
  refine CT.seq (CT.region ?_)
  refine Wl.g rfl rfl (OpG.callV K22_go8 rfl (fun w hH => awake_spec w (hH.stays0 hT))) ?_
  rintro _ _
  refine Wl.q rfl rfl (OpQ.assign rfl) ?_
  refine Wl.nil (PX.then_n (CT.ret (PX.then_r ?_)))
  refine PX.ret1 rfl rfl (fun w' hH => ?_)
  exact ⟨rfl, hH.ext⟩
 ·
  have hg15 := of_nd_f hg15
  refine Wl.q rfl rfl (OpQ.move rfl) ?_
  refine Wl.q rfl rfl (OpQ.fieldAddr K22_fa25_0 rfl) ?_
  refine Wl.q rfl rfl (OpQ.loadF (b := b3) K22_sc3 rfl (by repeat (first | exact Has.here | apply Has.there)) (by rfl)) ?_
  refine Wl.g rfl rfl (OpG.callV K22_go7 rfl (fun w hH => wvalidR_spec w us hu D.L)) ?_
  rintro _ _
  refine Wl.q rfl rfl (OpQ.not rfl) ?_
  refine Wl.q rfl rfl (OpQ.pickF rfl rfl) ?_
  refine Wl.q rfl rfl (OpQ.move rfl) ?_
  refine Wl.split 22 rfl (fun hg22 => ?_) (fun hg22 => ?_)
  ·
   have hg22 : okW us D.L = false := by simpa using hg22
   refine Wl.skip rfl rfl ?_
   refine Wl.skip rfl rfl ?_
   refine Wl.skip rfl rfl ?_
   refine Wl.skip rfl rfl ?_
   refine Wl.skip rfl rfl ?_
   refine Wl.q rfl rfl (OpQ.pickT rfl rfl) ?_
   refine Wl.nil (PX.then_n ?_)
   refine CT.condT rfl ?_
   refine CT.seq (CT.region ?_)
   refine Wl.g rfl rfl (OpG.callV K22_go8 rfl (fun w hH => awake_spec w (hH.stays0 hT))) ?_
   rintro _ _
   refine Wl.q rfl rfl (OpQ.assign rfl) ?_
   refine Wl.nil (PX.then_n (CT.ret (PX.then_r ?_)))
   refine PX.ret1 rfl rfl (fun w' hH => ?_)
   exact ⟨rfl, hH.ext⟩
  ·
   have hg22 : okW us D.L = true := by simpa using hg22
   refine Wl.q rfl rfl (OpQ.move rfl) ?_
   refine Wl.q rfl rfl (OpQ.fieldAddr K22_fa25_0 rfl) ?_
   refine Wl.q rfl rfl (OpQ.loadF (b := b3) K22_sc3 rfl (by repeat (first | exact Has.here | apply Has.there)) (by rfl)) ?_
   refine Wl.g rfl rfl (OpG.callV K22_go7 rfl (fun w hH => wvalidR_spec w vs hv D.L)) ?_
   rintro _ _
   refine Wl.q rfl rfl (OpQ.not rfl) ?_
   refine Wl.q rfl rfl (OpQ.pickF rfl rfl) ?_
   refine Wl.nil (PX.then_n ?_)
   refine CT.cond rfl (fun h28 => ?_) (fun h28 => ?_)
   ·
    have h28 : okW vs D.L = false := by simpa using h28
    refine CT.seq (CT.region ?_)
    refine Wl.g rfl rfl (OpG.callV K22_go8 rfl (fun w hH => awake_spec w (hH.stays0 hT))) ?_
    rintro _ _
    refine Wl.q rfl rfl (OpQ.assign rfl) ?_
    refine Wl.nil (PX.then_n (CT.ret (PX.then_r ?_)))
    refine PX.ret1 rfl rfl (fun w' hH => ?_)
    exact ⟨rfl, hH.ext⟩
   ·
    have h28 : okW vs D.L = true := by simpa using h28
    obtain ⟨hO, h5⟩ := dvE_zero' hg15.2.2
    have hin := wl_in hg22
    have hin2 := wl_in h28
    refine CT.skip (PX.then_n (CT.seq (CT.region ?_)))
    refine Wl.q rfl rfl (OpQ.loadV (b := b3) K22_ag25 K22_sz25 rfl (by repeat (first | exact Has.here | apply Has.there)) (by rfl)) ?_
    refine Wl.know 30 (v' := dvv D) rfl rfl ?_
    refine Wl.g rfl rfl (OpG.callX K22_go9 rfl .nil (fun _ => (.cons .nil)) (fun w hH hp => minimize_spec w D (hH.stays0 hD) hO h5)) ?_
    rintro ⟨M, ms⟩ ⟨hM, hMm⟩
    dsimp only at hM hMm
    have hMn := Nat.le_trans (min_n hO hMm) h5
    have hML : M.L = D.L := by rw [hM.L_eq, hO.L_eq, hMm.letters]
    have hst : 0 < M.fin.length := by have := hM.daOk.st; rw [hMm.canon.st] at this; exact this
    refine Wl.g rfl rfl (OpG.alloc (zs := [.int .i64 0, .int .i64 0, .slice none 0 0, .slice none 0 0]) K22_in25 rfl rfl) ?_
    rintro b7 _
    refine Wl.g rfl rfl (OpG.storeV (b := b7) K22_sz25 rfl rfl rfl rfl (by repeat (first | exact Upd.here | apply Upd.there))) ?_
    rintro _ _
    refine Wl.nil (PX.then_n (CT.seq (CT.region ?_)))
    refine Wl.q rfl rfl (OpQ.loadV (b := b3) K22_ag25 K22_sz25 rfl (by repeat (first | exact Has.here | apply Has.there)) (by rfl)) ?_
    refine Wl.know 33 (v' := dvv D) rfl rfl ?_
    refine Wl.q rfl rfl (OpQ.move rfl) ?_
    refine Wl.g rfl rfl (OpG.callX K22_go10 rfl .nil (fun _ => (.cons .nil)) (fun w hH hp => lquot_spec w D (hH.stays0 hD) hO h5 us hg22 hu)) ?_
    rintro ⟨X, xs⟩ ⟨hX, hXn, hXm⟩
    dsimp only at hX hXn hXm
    refine Wl.q rfl rfl (OpQ.move rfl) ?_
    refine Wl.q rfl rfl (OpQ.extract rfl rfl) ?_
    refine Wl.know 36 (v' := dvv X) rfl rfl ?_
    refine Wl.q rfl rfl (OpQ.extract rfl rfl) ?_
    refine Wl.know 37 (v' := .int .i64 0) rfl rfl ?_
    refine Wl.g rfl rfl (OpG.alloc (zs := [.int .i64 0, .int .i64 0, .slice none 0 0, .slice none 0 0]) K22_in25 rfl rfl) ?_
    rintro b8 _
    refine Wl.g rfl rfl (OpG.storeV (b := b8) K22_sz25 rfl rfl rfl rfl (by repeat (first | exact Upd.here | apply Upd.there))) ?_
    rintro _ _
    refine Wl.q rfl rfl (OpQ.assign rfl) ?_
    refine Wl.nil (PX.then_n (CT.seq (CT.region ?_)))
    refine Wl.q rfl rfl (OpQ.loadV (b := b3) K22_ag25 K22_sz25 rfl (by repeat (first | exact Has.here | apply Has.there)) (by rfl)) ?_
    refine Wl.know 39 (v' := dvv D) rfl rfl ?_
    refine Wl.q rfl rfl (OpQ.move rfl) ?_
    refine Wl.g rfl rfl (OpG.callX K22_go10 rfl .nil (fun _ => (.cons .nil)) (fun w hH hp => lquot_spec w D (hH.stays0 hD) hO h5 vs h28 hv)) ?_
    rintro ⟨Y, ys⟩ ⟨hY, hYn, hYm⟩
    dsimp only at hY hYn hYm
    have hfin := res_same hX hY hMm hin hin2 hXm hYm
    refine Wl.q rfl rfl (OpQ.move rfl) ?_
    refine Wl.q rfl rfl (OpQ.extract rfl rfl) ?_
    refine Wl.know 42 (v' := dvv Y) rfl rfl ?_
    refine Wl.q rfl rfl (OpQ.extract rfl rfl) ?_
    refine Wl.know 43 (v' := .int .i64 0) rfl rfl ?_
    refine Wl.g rfl rfl (OpG.alloc (zs := [.int .i64 0, .int .i64 0, .slice none 0 0, .slice none 0 0]) K22_in25 rfl rfl) ?_
    rintro b10 _
    refine Wl.g rfl rfl (OpG.storeV (b := b10) K22_sz25 rfl rfl rfl rfl (by repeat (first | exact Upd.here | apply Upd.there))) ?_
    rintro _ _
    refine Wl.q rfl rfl (OpQ.assign rfl) ?_
    refine Wl.nil (PX.then_n (CT.seq ?_))
    refine CT.draw 28 K22_mixed ?_
    refine RA.q 0 (by kernel_rfl) rfl rfl rfl (.refl _) (OpQ.move rfl) ?_
    refine RA.q 1 (by kernel_rfl) rfl rfl rfl (.refl _) (OpQ.eql rfl rfl) ?_
    refine RA.know 45 (v' := .bool true) rfl (congrArg Value.bool rfl) ?_
    refine RA.q 2 (by kernel_rfl) rfl rfl rfl (.refl _) (OpQ.move rfl) ?_
    refine RA.q 3 (by kernel_rfl) rfl rfl rfl (.refl _) (OpQ.move rfl) ?_
    refine RA.q 4 (by kernel_rfl) rfl rfl rfl (.refl _) (OpQ.eql rfl rfl) ?_
    refine RA.know 48 (v' := .bool true) rfl (congrArg Value.bool rfl) ?_
    refine RA.q 5 (by kernel_rfl) rfl rfl rfl (.refl _) (OpQ.pickT rfl rfl) ?_
    refine RA.q 6 (by kernel_rfl) rfl rfl rfl (.refl _) (OpQ.move rfl) ?_
    refine RA.q 7 (by kernel_rfl) rfl rfl rfl (.refl _) (OpQ.loadV (b := b8) K22_ag25 K22_sz25 rfl (by repeat (first | exact Has.here | apply Has.there)) (by rfl)) ?_
    refine RA.know 51 (v' := dvv X) rfl rfl ?_
    refine RA.f 8 (by kernel_rfl) rfl rfl rfl (OpG.callV K22_go11 rfl (fun w hH => dvalid_spec w X (Stays.frag (hH.staysK0 (show Has _ (.frag xs (dvm X)) from (by repeat (first | exact Has.here | apply Has.there))))))) (fun _ _ => (.refl _)) ?_
    rintro _ _
    refine RA.know 52 (v' := .int .i64 0) rfl (congrArg (Value.int .i64) (hX.zero hXn)) ?_
    refine RA.q 9 (by kernel_rfl) rfl rfl rfl (.refl _) (OpQ.eql rfl rfl) ?_
    refine RA.know 53 (v' := .bool true) rfl (congrArg Value.bool rfl) ?_
    refine RA.q 10 (by kernel_rfl) rfl rfl rfl (.refl _) (OpQ.pickT rfl rfl) ?_
    refine RA.q 11 (by kernel_rfl) rfl rfl rfl (.refl _) (OpQ.move rfl) ?_
    refine RA.q 12 (by kernel_rfl) rfl rfl rfl (.refl _) (OpQ.loadV (b := b8) K22_ag25 K22_sz25 rfl (by repeat (first | exact Has.here | apply Has.there)) (by rfl)) ?_
    refine RA.know 56 (v' := dvv X) rfl rfl ?_
    refine RA.q 13 (by kernel_rfl) rfl rfl rfl (.refl _) (OpQ.loadV (b := b10) K22_ag25 K22_sz25 rfl (by repeat (first | exact Has.here | apply Has.there)) (by rfl)) ?_
    refine RA.know 57 (v' := dvv Y) rfl rfl ?_
    refine RA.q 15 (by kernel_rfl) rfl rfl rfl (.refl _) (OpQ.loadV (b := b7) K22_ag25 K22_sz25 rfl (by repeat (first | exact Has.here | apply Has.there)) (by rfl)) ?_
    refine RA.know 59 (v' := dvv M) rfl rfl ?_
    refine RA.q 16 (by kernel_rfl) rfl rfl rfl (.refl _) (OpQ.move rfl) ?_
    refine RA.q 18 (by kernel_rfl) rfl rfl rfl (.refl _) (OpQ.loadV (b := b7) K22_ag25 K22_sz25 rfl (by repeat (first | exact Has.here | apply Has.there)) (by rfl)) ?_
    refine RA.know 62 (v' := dvv M) rfl rfl ?_
    refine RA.q 19 (by kernel_rfl) rfl rfl rfl (.refl _) (OpQ.move rfl) ?_
    refine RA.f 14 (by kernel_rfl) rfl rfl rfl (OpG.callV K22_go12 rfl (fun w hH => same_spec w X Y (Stays.frag (hH.staysK0 (show Has _ (.frag xs (dvm X)) from (by repeat (first | exact Has.here | apply Has.there))))) (Stays.frag (hH.staysK0 (show Has _ (.frag ys (dvm Y)) from (by repeat (first | exact Has.here | apply Has.there))))) (by omega) (by have := hX.len; omega) (fun q hq => by have := hX.len; have := hX.may; have := (hX.row q (by omega)).1; omega))) (fun _ _ => (.refl _)) ?_
    rintro _ _
    refine RA.f 17 (by kernel_rfl) rfl rfl rfl (OpG.callV K22_go13 rfl (fun w hH => drun_spec w M (Stays.frag (hH.staysK0 (show Has _ (.frag ms (dvm M)) from (by repeat (first | exact Has.here | apply Has.there))))) hM hMn 0 hst us (by rw [hML]; exact hg22))) (fun _ _ => (.refl _)) ?_
    rintro _ _
    refine RA.f 20 (by kernel_rfl) rfl rfl rfl (OpG.callV K22_go13 rfl (fun w hH => drun_spec w M (Stays.frag (hH.staysK0 (show Has _ (.frag ms (dvm M)) from (by repeat (first | exact Has.here | apply Has.there))))) hM hMn 0 hst vs (by rw [hML]; exact h28))) (fun _ _ => (.refl _)) ?_
    rintro _ _
    refine RA.q 21 (by kernel_rfl) rfl rfl rfl (.refl _) (OpQ.eql rfl rfl) ?_
    refine RA.q 22 (by kernel_rfl) rfl rfl rfl (.refl _) (OpQ.eqlB K22_un4 rfl rfl) ?_
    refine RA.know 66 (v' := .bool true) rfl (congrArg Value.bool hfin) ?_
    refine RA.q 23 (by kernel_rfl) rfl rfl rfl (.refl _) (OpQ.pickT rfl rfl) ?_
    refine RA.q 24 (by kernel_rfl) rfl rfl rfl (.refl _) (OpQ.move rfl) ?_
    refine RA.f 25 (by kernel_rfl) rfl rfl rfl (OpG.callV K22_go8 rfl (fun w hH => awake_spec w (hH.stays0 hT))) (fun _ _ => (.refl _)) ?_
    rintro _ _
    refine RA.know 69 (v' := .bool true) rfl (congrArg Value.bool rfl) ?_
    refine RA.q 26 (by kernel_rfl) rfl rfl rfl (.refl _) (OpQ.pickT rfl rfl) ?_
    refine RA.q 27 (by kernel_rfl) rfl rfl rfl (.refl _) (OpQ.assign rfl) ?_
    refine RA.tail ?_
    refine RT.done (by kernel_rfl) ?_
    refine PX.then_n (CT.ret ?_)
    refine PX.ret1 rfl rfl (fun w' hH => ?_)
    exact ⟨rfl, hH.ext⟩

end Go.Proofs.YtmggcdegekbncaaGreatDoor

