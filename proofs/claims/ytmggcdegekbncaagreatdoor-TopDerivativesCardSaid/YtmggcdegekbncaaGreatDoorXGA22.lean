/-
  What functions of the program compute, each by its walk. Conditions: those that each theorem names.
-/
import Derived.Test.YtmggcdegekbncaaGreatDoorXGA21
import Derived.Test.YtmggcdegekbncaaGreatDoorXF
set_option linter.unusedSimpArgs false
namespace Go.Proofs.YtmggcdegekbncaaGreatDoor
open Go Go.Eng Go.Am Go.Ex
open Go.Tp (zi)
open Go.Tl (mayL Wd okW okB bo)
open Go.Ex.simp (simpL)
open Go.Ex.dv (dvL dvC)
open Go.Ex.hasU (hasAny hasAll)
open Go.Ex.wf (wfL)
open Go.Ex.szE (szL)
open Go.Ex.dpE (dpL)
open Go.Ex.cmpE (cmpL)
open Go.Ex.fmtE (fmtK fmtR)
open Go.Rel (tz Tab tz_bound tz_load tz_lt)
theorem K22_ag25 : isAggB Tryz.prog 25 = some true := by kernel_rfl
theorem K22_sz25 : sizeB Tryz.prog 25 = some 4 := by kernel_rfl
theorem K22_go8 : isGo Tryz.prog 8 = true := by kernel_rfl
theorem K22_go7 : isGo Tryz.prog 7 = true := by kernel_rfl
theorem K22_in25 : (Tryz.prog.info? 25).map (fun i => (i.zero, i.size, i.bytes)) = some (some (.agg #[.int .i64 0, .int .i64 0, .slice none 0 0, .slice none 0 0]), 4, 64) := by kernel_rfl
theorem K22_go10 : isGo Tryz.prog 10 = true := by kernel_rfl
theorem K22_go11 : isGo Tryz.prog 11 = true := by kernel_rfl
theorem K22_go12 : isGo Tryz.prog 12 = true := by kernel_rfl
theorem K22_ag39 : isAggB Tryz.prog 39 = some true := by kernel_rfl
theorem K22_sz39 : sizeB Tryz.prog 39 = some 3 := by kernel_rfl
theorem K22_go14 : isGo Tryz.prog 14 = true := by kernel_rfl
theorem K22_un9 : Tryz.prog.underlying 9 = some .string := by kernel_rfl
theorem K22_go15 : isGo Tryz.prog 15 = true := by kernel_rfl
theorem K22_in39 : (Tryz.prog.info? 39).map (fun i => (i.zero, i.size, i.bytes)) = some (some (.agg #[.int .i64 0, .int .i64 0, .slice none 0 0]), 3, 40) := by kernel_rfl
theorem K22_go16 : isGo Tryz.prog 16 = true := by kernel_rfl
theorem K22_go17 : isGo Tryz.prog 17 = true := by kernel_rfl
set_option maxRecDepth 100000 in
set_option maxHeartbeats 2000000 in
/-- semigroup/semigrouptop.TopDerivatives -/
theorem TopDerivatives_spec (w : World) (v : Xv) (hv : Stays [] w (evm v)) (ws : Wd) (hn : ws.length ≤ 9223372036854775807) (hT : Stays [] w Tab) : Calls Tryz.prog 4 #[evv v, sv ws] w (fun e w' => e = .returned (.bool true) ∧ Ext [] w w') := by
 refine enter (args := [evv v, sv ws]) [] 86 Tryz.func4 rfl rfl rfl ?_
 refine CT.seq (CT.region ?_)
 refine Wl.g rfl rfl (OpG.box (size := 3) rfl rfl rfl) ?_
 rintro b2 _
 refine Wl.q rfl rfl (OpQ.assign rfl) ?_
 refine Wl.nil (PX.then_n (CT.seq (CT.seq (CT.region ?_))))
 refine Wl.q rfl rfl (OpQ.loadV (b := b2) K22_ag39 K22_sz39 rfl (by repeat (first | exact Has.here | apply Has.there)) (by rfl)) ?_
 refine Wl.know 13 (v' := evv v) rfl rfl ?_
 refine Wl.g rfl rfl (OpG.callV K22_go14 rfl (fun w hH => little_spec w v (hH.stays0 hv) 9)) ?_
 rintro _ _
 refine Wl.q rfl rfl (OpQ.not rfl) ?_
 refine Wl.q rfl rfl (OpQ.move rfl) ?_
 refine Wl.split 16 rfl (fun hg16 => ?_) (fun hg16 => ?_)
 ·
  have hg16 := of_nd_t hg16
  refine Wl.skip rfl rfl ?_
  refine Wl.skip rfl rfl ?_
  refine Wl.skip rfl rfl ?_
  refine Wl.q rfl rfl (OpQ.pickT rfl rfl) ?_
  refine Wl.q rfl rfl (OpQ.move rfl) ?_
  refine Wl.skip rfl rfl ?_
  refine Wl.skip rfl rfl ?_
  refine Wl.skip rfl rfl ?_
  refine Wl.q rfl rfl (OpQ.pickT rfl rfl) ?_
  refine Wl.nil (PX.then_n ?_)
  refine CT.condT rfl ?_
  refine CT.seq (CT.region ?_)
  refine Wl.g rfl rfl (OpG.callV K22_go8 rfl (fun w hH => awake_spec w (hH.stays0 hT))) ?_
  rintro _ _
  refine Wl.q rfl rfl (OpQ.assign rfl) ?_
  refine Wl.nil (PX.then_n (CT.ret (PX.then_r ?_)))
  refine PX.ret1 rfl rfl (fun w' hH => ?_)
  exact ⟨rfl, hH.ext⟩
 ·
  have hg16 := of_nd_f hg16
  refine Wl.q rfl rfl (OpQ.move rfl) ?_
  refine Wl.q rfl rfl (OpQ.lenSv K22_un9 rfl) ?_
  refine Wl.q rfl rfl (OpQ.gtr rfl rfl) ?_
  refine Wl.q rfl rfl (OpQ.pickF rfl rfl) ?_
  refine Wl.q rfl rfl (OpQ.move rfl) ?_
  refine Wl.split 21 rfl (fun hg21 => ?_) (fun hg21 => ?_)
  ·
   have hg21 := of_decide_eq_true hg21
   refine Wl.skip rfl rfl ?_
   refine Wl.skip rfl rfl ?_
   refine Wl.skip rfl rfl ?_
   refine Wl.q rfl rfl (OpQ.pickT rfl rfl) ?_
   refine Wl.nil (PX.then_n ?_)
   refine CT.condT rfl ?_
   refine CT.seq (CT.region ?_)
   refine Wl.g rfl rfl (OpG.callV K22_go8 rfl (fun w hH => awake_spec w (hH.stays0 hT))) ?_
   rintro _ _
   refine Wl.q rfl rfl (OpQ.assign rfl) ?_
   refine Wl.nil (PX.then_n (CT.ret (PX.then_r ?_)))
   refine PX.ret1 rfl rfl (fun w' hH => ?_)
   exact ⟨rfl, hH.ext⟩
  ·
   have hg21 := of_decide_eq_false hg21
   refine Wl.q rfl rfl (OpQ.move rfl) ?_
   refine Wl.g rfl rfl (OpG.callV K22_go7 rfl (fun w hH => wvalidR_spec w ws hn 2)) ?_
   rintro _ _
   refine Wl.q rfl rfl (OpQ.not rfl) ?_
   refine Wl.q rfl rfl (OpQ.pickF rfl rfl) ?_
   refine Wl.nil (PX.then_n ?_)
   refine CT.cond rfl (fun h25 => ?_) (fun h25 => ?_)
   ·
    have h25 : okW ws 2 = false := by simpa using h25
    refine CT.seq (CT.region ?_)
    refine Wl.g rfl rfl (OpG.callV K22_go8 rfl (fun w hH => awake_spec w (hH.stays0 hT))) ?_
    rintro _ _
    refine Wl.q rfl rfl (OpQ.assign rfl) ?_
    refine Wl.nil (PX.then_n (CT.ret (PX.then_r ?_)))
    refine PX.ret1 rfl rfl (fun w' hH => ?_)
    exact ⟨rfl, hH.ext⟩
   ·
    have hws : okW ws 2 = true := by simpa using h25
    have hvd := hg16.1
    have hw6 : okW ws 6 = true := okW_more hws (by decide) (by decide)
    have her := dwR_err (vd26 hvd) hw6
    have hin := wl_in hws
    refine CT.skip (PX.then_n (CT.seq (CT.region ?_)))
    refine Wl.q rfl rfl (OpQ.loadV (b := b2) K22_ag39 K22_sz39 rfl (by repeat (first | exact Has.here | apply Has.there)) (by rfl)) ?_
    refine Wl.know 28 (v' := evv v) rfl rfl ?_
    refine Wl.q rfl rfl (OpQ.move rfl) ?_
    refine Wl.g rfl rfl (OpG.callX K22_go15 rfl .nil (fun _ => (.cons .nil)) (fun w hH hp => byW_spec w v (hH.stays0 hv) ws hn)) ?_
    rintro ⟨f, fs⟩ hf
    dsimp only at hf
    refine Wl.q rfl rfl (OpQ.move rfl) ?_
    refine Wl.q rfl rfl (OpQ.extract rfl rfl) ?_
    refine Wl.know 31 (v' := evv f) rfl rfl ?_
    refine Wl.q rfl rfl (OpQ.extract rfl rfl) ?_
    refine Wl.g rfl rfl (OpG.alloc (zs := [.int .i64 0, .int .i64 0, .slice none 0 0]) K22_in39 rfl rfl) ?_
    rintro b5 _
    refine Wl.g rfl rfl (OpG.storeV (b := b5) K22_sz39 rfl rfl rfl rfl (by repeat (first | exact Upd.here | apply Upd.there))) ?_
    rintro _ _
    refine Wl.q rfl rfl (OpQ.assign rfl) ?_
    refine Wl.nil (PX.then_n (CT.seq (CT.region ?_)))
    refine Wl.q rfl rfl (OpQ.loadV (b := b2) K22_ag39 K22_sz39 rfl (by repeat (first | exact Has.here | apply Has.there)) (by rfl)) ?_
    refine Wl.know 34 (v' := evv v) rfl rfl ?_
    refine Wl.g rfl rfl (OpG.callX K22_go16 rfl .nil (fun _ => (.cons .nil)) (fun w hH hp => built_spec w v (hH.stays0 hv))) ?_
    rintro ⟨M, ms, er2⟩ hBM
    dsimp only at hBM
    have her2 := hBM.err hvd
    refine Wl.q rfl rfl (OpQ.move rfl) ?_
    refine Wl.q rfl rfl (OpQ.extract rfl rfl) ?_
    refine Wl.know 36 (v' := dvv M) rfl rfl ?_
    refine Wl.q rfl rfl (OpQ.extract rfl rfl) ?_
    refine Wl.know 37 (v' := .int .i64 er2) rfl rfl ?_
    refine Wl.g rfl rfl (OpG.alloc (zs := [.int .i64 0, .int .i64 0, .slice none 0 0, .slice none 0 0]) K22_in25 rfl rfl) ?_
    rintro b7 _
    refine Wl.g rfl rfl (OpG.storeV (b := b7) K22_sz25 rfl rfl rfl rfl (by repeat (first | exact Upd.here | apply Upd.there))) ?_
    rintro _ _
    refine Wl.q rfl rfl (OpQ.assign rfl) ?_
    refine Wl.nil (PX.then_n (CT.seq (CT.seq (CT.region ?_))))
    refine Wl.q rfl rfl (OpQ.move rfl) ?_
    refine Wl.q rfl rfl (OpQ.neq rfl rfl) ?_
    refine Wl.q rfl rfl (OpQ.move rfl) ?_
    refine Wl.split 40 rfl (fun hg40 => ?_) (fun hg40 => ?_)
    ·
     have hg40 := of_nd_t hg40
     refine Wl.skip rfl rfl ?_
     refine Wl.skip rfl rfl ?_
     refine Wl.q rfl rfl (OpQ.pickT rfl rfl) ?_
     refine Wl.nil (PX.then_n ?_)
     refine CT.condT rfl ?_
     refine CT.seq (CT.region ?_)
     refine Wl.q rfl rfl (OpQ.move rfl) ?_
     refine Wl.g rfl rfl (OpG.callV K22_go17 rfl (fun w hH => lim_spec w _)) ?_
     rintro _ _
     refine Wl.know 45 (v' := .bool true) rfl (congrArg Value.bool (decide_eq_true her)) ?_
     refine Wl.q rfl rfl (OpQ.move rfl) ?_
     refine Wl.q rfl rfl (OpQ.move rfl) ?_
     refine Wl.g rfl rfl (OpG.callV K22_go17 rfl (fun w hH => lim_spec w _)) ?_
     rintro _ _
     refine Wl.know 48 (v' := .bool true) rfl (congrArg Value.bool (decide_eq_true her2)) ?_
     refine Wl.q rfl rfl (OpQ.pickT rfl rfl) ?_
     refine Wl.q rfl rfl (OpQ.move rfl) ?_
     refine Wl.g rfl rfl (OpG.callV K22_go8 rfl (fun w hH => awake_spec w (hH.stays0 hT))) ?_
     rintro _ _
     refine Wl.know 51 (v' := .bool true) rfl (congrArg Value.bool rfl) ?_
     refine Wl.q rfl rfl (OpQ.pickT rfl rfl) ?_
     refine Wl.q rfl rfl (OpQ.assign rfl) ?_
     refine Wl.nil (PX.then_n (CT.ret (PX.then_r ?_)))
     refine PX.ret1 rfl rfl (fun w' hH => ?_)
     exact ⟨rfl, hH.ext⟩
    ·
     have hg40 := of_nd_f hg40
     refine Wl.q rfl rfl (OpQ.move rfl) ?_
     refine Wl.q rfl rfl (OpQ.neq rfl rfl) ?_
     refine Wl.q rfl rfl (OpQ.pickF rfl rfl) ?_
     refine Wl.nil (PX.then_n ?_)
     refine CT.cond rfl (fun h43 => ?_) (fun h43 => ?_)
     ·
      have h43 := of_nd_t h43
      refine CT.seq (CT.region ?_)
      refine Wl.q rfl rfl (OpQ.move rfl) ?_
      refine Wl.g rfl rfl (OpG.callV K22_go17 rfl (fun w hH => lim_spec w _)) ?_
      rintro _ _
      refine Wl.know 45 (v' := .bool true) rfl (congrArg Value.bool (decide_eq_true her)) ?_
      refine Wl.q rfl rfl (OpQ.move rfl) ?_
      refine Wl.q rfl rfl (OpQ.move rfl) ?_
      refine Wl.g rfl rfl (OpG.callV K22_go17 rfl (fun w hH => lim_spec w _)) ?_
      rintro _ _
      refine Wl.know 48 (v' := .bool true) rfl (congrArg Value.bool (decide_eq_true her2)) ?_
      refine Wl.q rfl rfl (OpQ.pickT rfl rfl) ?_
      refine Wl.q rfl rfl (OpQ.move rfl) ?_
      refine Wl.g rfl rfl (OpG.callV K22_go8 rfl (fun w hH => awake_spec w (hH.stays0 hT))) ?_
      rintro _ _
      refine Wl.know 51 (v' := .bool true) rfl (congrArg Value.bool rfl) ?_
      refine Wl.q rfl rfl (OpQ.pickT rfl rfl) ?_
      refine Wl.q rfl rfl (OpQ.assign rfl) ?_
      refine Wl.nil (PX.then_n (CT.ret (PX.then_r ?_)))
      refine PX.ret1 rfl rfl (fun w' hH => ?_)
      exact ⟨rfl, hH.ext⟩
     ·
      obtain rfl : er2 = 0 := of_nd_f h43
      obtain ⟨hM, hMn⟩ := hBM.ok
      have hML := hBM.L
      obtain ⟨hfv, hfl⟩ := dwR_ok hvd hw6 hg40
      rw [← show toE f = _ from hf] at hfv hfl
      refine CT.skip (PX.then_n (CT.seq (CT.region ?_)))
      refine Wl.q rfl rfl (OpQ.loadV (b := b5) K22_ag39 K22_sz39 rfl (by repeat (first | exact Has.here | apply Has.there)) (by rfl)) ?_
      refine Wl.know 54 (v' := evv f) rfl rfl ?_
      refine Wl.g rfl rfl (OpG.callX K22_go16 rfl .nil (fun _ => (.cons .nil)) (fun w hH hp => built_spec w f (fun w' he => AllM.one.1 ((hH.staysK0 (show Has _ (fx (AllM [v]) [f] fs) from (by repeat (first | exact Has.here | apply Has.there)))).frag w' he (AllM.one.2 ((hH.stays0 hv) w' he)))))) ?_
      rintro ⟨Y, ys, er3⟩ hBY
      dsimp only at hBY
      have her3 := hBY.err hfv
      refine Wl.q rfl rfl (OpQ.move rfl) ?_
      refine Wl.q rfl rfl (OpQ.extract rfl rfl) ?_
      refine Wl.know 56 (v' := dvv Y) rfl rfl ?_
      refine Wl.q rfl rfl (OpQ.extract rfl rfl) ?_
      refine Wl.know 57 (v' := .int .i64 er3) rfl rfl ?_
      refine Wl.g rfl rfl (OpG.alloc (zs := [.int .i64 0, .int .i64 0, .slice none 0 0, .slice none 0 0]) K22_in25 rfl rfl) ?_
      rintro b9 _
      refine Wl.g rfl rfl (OpG.storeV (b := b9) K22_sz25 rfl rfl rfl rfl (by repeat (first | exact Upd.here | apply Upd.there))) ?_
      rintro _ _
      refine Wl.q rfl rfl (OpQ.assign rfl) ?_
      refine Wl.nil (PX.then_n (CT.seq (CT.region ?_)))
      refine Wl.q rfl rfl (OpQ.loadV (b := b7) K22_ag25 K22_sz25 rfl (by repeat (first | exact Has.here | apply Has.there)) (by rfl)) ?_
      refine Wl.know 59 (v' := dvv M) rfl rfl ?_
      refine Wl.q rfl rfl (OpQ.move rfl) ?_
      refine Wl.g rfl rfl (OpG.callX K22_go10 rfl .nil (fun _ => (.cons .nil)) (fun w hH hp => lquot_spec w M (Stays.frag (hH.staysK0 (show Has _ (.frag ms (dvm M)) from (by repeat (first | exact Has.here | apply Has.there))))) hM hMn ws (by rw [hML]; exact hws) hn)) ?_
      rintro ⟨Q, qs⟩ ⟨hQ, hQn, hQm⟩
      dsimp only at hQ hQn hQm
      refine Wl.q rfl rfl (OpQ.move rfl) ?_
      refine Wl.q rfl rfl (OpQ.extract rfl rfl) ?_
      refine Wl.know 62 (v' := dvv Q) rfl rfl ?_
      refine Wl.q rfl rfl (OpQ.extract rfl rfl) ?_
      refine Wl.know 63 (v' := .int .i64 0) rfl rfl ?_
      refine Wl.g rfl rfl (OpG.alloc (zs := [.int .i64 0, .int .i64 0, .slice none 0 0, .slice none 0 0]) K22_in25 rfl rfl) ?_
      rintro b11 _
      refine Wl.g rfl rfl (OpG.storeV (b := b11) K22_sz25 rfl rfl rfl rfl (by repeat (first | exact Upd.here | apply Upd.there))) ?_
      rintro _ _
      refine Wl.q rfl rfl (OpQ.assign rfl) ?_
      refine Wl.nil (PX.then_n (CT.seq (CT.seq (CT.region ?_))))
      refine Wl.q rfl rfl (OpQ.move rfl) ?_
      refine Wl.q rfl rfl (OpQ.neq rfl rfl) ?_
      refine Wl.nil (PX.then_n ?_)
      refine CT.cond rfl (fun h65 => ?_) (fun h65 => ?_)
      ·
       have h65 := of_nd_t h65
       have h3 : er3 = 3 := her3.resolve_left h65
       refine CT.seq (CT.region ?_)
       refine Wl.q rfl rfl (OpQ.move rfl) ?_
       refine Wl.q rfl rfl (OpQ.eql rfl rfl) ?_
       refine Wl.know 67 (v' := .bool true) rfl (congrArg Value.bool (decide_eq_true h3)) ?_
       refine Wl.q rfl rfl (OpQ.move rfl) ?_
       refine Wl.g rfl rfl (OpG.callV K22_go8 rfl (fun w hH => awake_spec w (hH.stays0 hT))) ?_
       rintro _ _
       refine Wl.know 69 (v' := .bool true) rfl (congrArg Value.bool rfl) ?_
       refine Wl.q rfl rfl (OpQ.pickT rfl rfl) ?_
       refine Wl.q rfl rfl (OpQ.assign rfl) ?_
       refine Wl.nil (PX.then_n (CT.ret (PX.then_r ?_)))
       refine PX.ret1 rfl rfl (fun w' hH => ?_)
       exact ⟨rfl, hH.ext⟩
      ·
       have h65 := of_nd_f h65
       obtain rfl : er3 = 0 := h65
       obtain ⟨hY, hYn⟩ := hBY.ok
       have hfin := (sameD_da hY hQ).2 (der_same hBM hBY hin hfl hQm)
       refine CT.skip (PX.then_n (CT.seq (CT.region ?_)))
       refine Wl.q rfl rfl (OpQ.move rfl) ?_
       refine Wl.q rfl rfl (OpQ.eql rfl rfl) ?_
       refine Wl.know 72 (v' := .bool true) rfl (congrArg Value.bool rfl) ?_
       refine Wl.q rfl rfl (OpQ.move rfl) ?_
       refine Wl.q rfl rfl (OpQ.loadV (b := b9) K22_ag25 K22_sz25 rfl (by repeat (first | exact Has.here | apply Has.there)) (by rfl)) ?_
       refine Wl.know 74 (v' := dvv Y) rfl rfl ?_
       refine Wl.g rfl rfl (OpG.callV K22_go11 rfl (fun w hH => dvalid_spec w Y (Stays.frag (hH.staysK0 (show Has _ (.frag ys (dvm Y)) from (by repeat (first | exact Has.here | apply Has.there))))))) ?_
       rintro _ _
       refine Wl.know 75 (v' := .int .i64 0) rfl (congrArg (Value.int .i64) (hY.zero hYn)) ?_
       refine Wl.q rfl rfl (OpQ.eql rfl rfl) ?_
       refine Wl.know 76 (v' := .bool true) rfl (congrArg Value.bool rfl) ?_
       refine Wl.q rfl rfl (OpQ.pickT rfl rfl) ?_
       refine Wl.q rfl rfl (OpQ.move rfl) ?_
       refine Wl.q rfl rfl (OpQ.loadV (b := b9) K22_ag25 K22_sz25 rfl (by repeat (first | exact Has.here | apply Has.there)) (by rfl)) ?_
       refine Wl.know 79 (v' := dvv Y) rfl rfl ?_
       refine Wl.q rfl rfl (OpQ.loadV (b := b11) K22_ag25 K22_sz25 rfl (by repeat (first | exact Has.here | apply Has.there)) (by rfl)) ?_
       refine Wl.know 80 (v' := dvv Q) rfl rfl ?_
       refine Wl.g rfl rfl (OpG.callV K22_go12 rfl (fun w hH => same_spec w Y Q (Stays.frag (hH.staysK0 (show Has _ (.frag ys (dvm Y)) from (by repeat (first | exact Has.here | apply Has.there))))) (Stays.frag (hH.staysK0 (show Has _ (.frag qs (dvm Q)) from (by repeat (first | exact Has.here | apply Has.there))))) (by omega) (by have := hY.len; omega) (fun q hq => by have := hY.len; have := hY.may; have := (hY.row q (by omega)).1; omega))) ?_
       rintro _ _
       refine Wl.know 81 (v' := .bool true) rfl (congrArg Value.bool hfin) ?_
       refine Wl.q rfl rfl (OpQ.pickT rfl rfl) ?_
       refine Wl.q rfl rfl (OpQ.move rfl) ?_
       refine Wl.g rfl rfl (OpG.callV K22_go8 rfl (fun w hH => awake_spec w (hH.stays0 hT))) ?_
       rintro _ _
       refine Wl.know 84 (v' := .bool true) rfl (congrArg Value.bool rfl) ?_
       refine Wl.q rfl rfl (OpQ.pickT rfl rfl) ?_
       refine Wl.q rfl rfl (OpQ.assign rfl) ?_
       refine Wl.nil (PX.then_n (CT.ret ?_))
       refine PX.ret1 rfl rfl (fun w' hH => ?_)
       exact ⟨rfl, hH.ext⟩

end Go.Proofs.YtmggcdegekbncaaGreatDoor

