/-
  What functions of the program compute, each by its walk. Conditions: those that each theorem names.
-/
import Derived.Test.YtmggcdegekbncabGreatDoorXGB26
import Derived.Test.YtmggcdegekbncabGreatDoorXF
set_option linter.unusedSimpArgs false
namespace Go.Proofs.YtmggcdegekbncabGreatDoor
open Go Go.Eng Go.Am Go.Ex
open Go.Tp (zi)
open Go.Tl (mayL Wd okW okB bo)
open Go.Ex.simp (simpL)
open Go.Ex.dv (dvL dvC)
open Go.Ex.hasU (hasAny hasAll)
open Go.Ex.wf (wfL)
open Go.Ex.szE (szL)
open Go.Ex.dpE (dpL)
open Go.Ex.cmpE (cmpL)
open Go.Ex.fmtE (fmtK fmtR)
open Go.Rel (tz Tab tz_bound tz_load tz_lt)
theorem K27_un22 : Tryz.prog.underlying 22 = some (.slice 24) := by kernel_rfl
theorem K27_in24 : (Tryz.prog.info? 24).map (fun i => (i.zero, i.size, i.bytes)) = some (some (.agg #[.int .i64 0, .int .i64 0, .slice none 0 0]), 3, 40) := by kernel_rfl
theorem K27_ag24 : isAggB Tryz.prog 24 = some true := by kernel_rfl
theorem K27_sz24 : sizeB Tryz.prog 24 = some 3 := by kernel_rfl
theorem K27_go6 : isGo Tryz.prog 6 = true := by kernel_rfl
theorem K27_go7 : isGo Tryz.prog 7 = true := by kernel_rfl
theorem K27_go8 : isGo Tryz.prog 8 = true := by kernel_rfl
theorem K27_in30 : (Tryz.prog.info? 30).map (fun i => (i.zero, i.size, i.bytes)) = some (some (.agg #[.int .i64 0, .int .i64 0, .slice none 0 0, .slice none 0 0]), 4, 64) := by kernel_rfl
theorem K27_sz30 : sizeB Tryz.prog 30 = some 4 := by kernel_rfl
theorem K27_go9 : isGo Tryz.prog 9 = true := by kernel_rfl
theorem K27_go10 : isGo Tryz.prog 10 = true := by kernel_rfl
theorem K27_ag30 : isAggB Tryz.prog 30 = some true := by kernel_rfl
theorem K27_go11 : isGo Tryz.prog 11 = true := by kernel_rfl
theorem K27_mixed : Tryz.prog.follows .mixedOrders = true := by kernel_rfl
theorem K27_go12 : isGo Tryz.prog 12 = true := by kernel_rfl
theorem K27_go13 : isGo Tryz.prog 13 = true := by kernel_rfl
theorem K27_go15 : isGo Tryz.prog 15 = true := by kernel_rfl
theorem K27_go14 : isGo Tryz.prog 14 = true := by kernel_rfl
set_option maxRecDepth 100000 in
set_option maxHeartbeats 4000000 in
/-- semigroup/semigrouptop.TopUnions -/
theorem TopUnions_spec (w : World) (v : Xv) (hv : Stays [] w (evm v)) (u : Xv) (hu : Stays [] w (evm u)) (hT : Stays [] w Tab) : Calls Tryz.prog 3 #[evv v, evv u] w (fun e w' => e = .returned (.bool true) ∧ Ext [] w w') := by
 refine enter (args := [evv v, evv u]) [] 150 Tryz.func3 rfl rfl rfl ?_
 refine CT.seq (CT.region ?_)
 refine Wl.g rfl rfl (OpG.box (size := 3) rfl rfl rfl) ?_
 rintro b2 _
 refine Wl.g rfl rfl (OpG.box (size := 3) rfl rfl rfl) ?_
 rintro b3 _
 refine Wl.q rfl rfl (OpQ.assign rfl) ?_
 refine Wl.nil (PX.then_n (CT.seq (CT.seq (CT.region ?_))))
 refine Wl.q rfl rfl (OpQ.loadV (b := b2) K27_ag24 K27_sz24 rfl (by repeat (first | exact Has.here | apply Has.there)) (by rfl)) ?_
 refine Wl.know 19 (v' := evv v) rfl rfl ?_
 refine Wl.g rfl rfl (OpG.callV K27_go6 rfl (fun w hH => little_spec w v (hH.stays0 hv) 6)) ?_
 rintro _ _
 refine Wl.q rfl rfl (OpQ.not rfl) ?_
 refine Wl.q rfl rfl (OpQ.move rfl) ?_
 refine Wl.split 22 rfl (fun hg22 => ?_) (fun hg22 => ?_)
 ·
  have hg22 := of_nd_t hg22
  refine Wl.skip rfl rfl ?_
  refine Wl.skip rfl rfl ?_
  refine Wl.skip rfl rfl ?_
  refine Wl.q rfl rfl (OpQ.pickT rfl rfl) ?_
  refine Wl.nil (PX.then_n ?_)
  refine CT.condT rfl ?_
  refine CT.seq (CT.region ?_)
  refine Wl.g rfl rfl (OpG.callV K27_go7 rfl (fun w hH => awake_spec w (hH.stays0 hT))) ?_
  rintro _ _
  refine Wl.know 27 (v' := .bool true) rfl (congrArg Value.bool rfl) ?_
  refine Wl.q rfl rfl (OpQ.assign rfl) ?_
  refine Wl.nil (PX.then_n (CT.ret (PX.then_r ?_)))
  refine PX.ret1 rfl rfl (fun w' hH => ?_)
  exact ⟨rfl, hH.ext⟩
 ·
  have hg22 := of_nd_f hg22
  refine Wl.q rfl rfl (OpQ.loadV (b := b3) K27_ag24 K27_sz24 rfl (by repeat (first | exact Has.here | apply Has.there)) (by rfl)) ?_
  refine Wl.know 23 (v' := evv u) rfl rfl ?_
  refine Wl.g rfl rfl (OpG.callV K27_go6 rfl (fun w hH => little_spec w u (hH.stays0 hu) 6)) ?_
  rintro _ _
  refine Wl.q rfl rfl (OpQ.not rfl) ?_
  refine Wl.q rfl rfl (OpQ.pickF rfl rfl) ?_
  refine Wl.nil (PX.then_n ?_)
  refine CT.cond rfl (fun h26 => ?_) (fun h26 => ?_)
  ·
   have h26 := of_nd_t h26
   refine CT.seq (CT.region ?_)
   refine Wl.g rfl rfl (OpG.callV K27_go7 rfl (fun w hH => awake_spec w (hH.stays0 hT))) ?_
   rintro _ _
   refine Wl.know 27 (v' := .bool true) rfl (congrArg Value.bool rfl) ?_
   refine Wl.q rfl rfl (OpQ.assign rfl) ?_
   refine Wl.nil (PX.then_n (CT.ret (PX.then_r ?_)))
   refine PX.ret1 rfl rfl (fun w' hH => ?_)
   exact ⟨rfl, hH.ext⟩
  ·
   have h26 := of_nd_f h26
   refine CT.skip (PX.then_n (CT.seq (CT.region ?_)))
   refine Wl.q rfl rfl (OpQ.loadV (b := b2) K27_ag24 K27_sz24 rfl (by repeat (first | exact Has.here | apply Has.there)) (by rfl)) ?_
   refine Wl.know 29 (v' := evv v) rfl rfl ?_
   refine Wl.g rfl rfl (OpG.callX K27_go8 rfl .nil (fun _ => (.cons .nil)) (fun w hH hp => built_spec w v (hH.stays0 hv))) ?_
   rintro ⟨A, avs, e1⟩ hA
   dsimp only at hA
   have rA := hA.err hg22.1
   refine Wl.q rfl rfl (OpQ.move rfl) ?_
   refine Wl.q rfl rfl (OpQ.extract rfl rfl) ?_
   refine Wl.know 31 (v' := dvv A) rfl rfl ?_
   refine Wl.q rfl rfl (OpQ.extract rfl rfl) ?_
   refine Wl.know 32 (v' := .int .i64 e1) rfl rfl ?_
   refine Wl.g rfl rfl (OpG.alloc (zs := [.int .i64 0, .int .i64 0, .slice none 0 0, .slice none 0 0]) K27_in30 rfl rfl) ?_
   rintro b5 _
   refine Wl.g rfl rfl (OpG.storeV (b := b5) K27_sz30 rfl rfl rfl rfl (by repeat (first | exact Upd.here | apply Upd.there))) ?_
   rintro _ _
   refine Wl.q rfl rfl (OpQ.assign rfl) ?_
   refine Wl.nil (PX.then_n (CT.seq (CT.region ?_)))
   refine Wl.q rfl rfl (OpQ.loadV (b := b3) K27_ag24 K27_sz24 rfl (by repeat (first | exact Has.here | apply Has.there)) (by rfl)) ?_
   refine Wl.know 34 (v' := evv u) rfl rfl ?_
   refine Wl.g rfl rfl (OpG.callX K27_go8 rfl .nil (fun _ => (.cons .nil)) (fun w hH hp => built_spec w u (hH.stays0 hu))) ?_
   rintro ⟨B, bs, e2⟩ hB
   dsimp only at hB
   have rB := hB.err h26.1
   refine Wl.q rfl rfl (OpQ.move rfl) ?_
   refine Wl.q rfl rfl (OpQ.extract rfl rfl) ?_
   refine Wl.know 36 (v' := dvv B) rfl rfl ?_
   refine Wl.q rfl rfl (OpQ.extract rfl rfl) ?_
   refine Wl.know 37 (v' := .int .i64 e2) rfl rfl ?_
   refine Wl.g rfl rfl (OpG.alloc (zs := [.int .i64 0, .int .i64 0, .slice none 0 0, .slice none 0 0]) K27_in30 rfl rfl) ?_
   rintro b7 _
   refine Wl.g rfl rfl (OpG.storeV (b := b7) K27_sz30 rfl rfl rfl rfl (by repeat (first | exact Upd.here | apply Upd.there))) ?_
   rintro _ _
   refine Wl.q rfl rfl (OpQ.assign rfl) ?_
   refine Wl.nil (PX.then_n (CT.seq (CT.region ?_)))
   refine Wl.q rfl rfl (OpQ.loadV (b := b2) K27_ag24 K27_sz24 rfl (by repeat (first | exact Has.here | apply Has.there)) (by rfl)) ?_
   refine Wl.know 39 (v' := evv v) rfl rfl ?_
   refine Wl.q rfl rfl (OpQ.loadV (b := b3) K27_ag24 K27_sz24 rfl (by repeat (first | exact Has.here | apply Has.there)) (by rfl)) ?_
   refine Wl.know 40 (v' := evv u) rfl rfl ?_
   refine Wl.g rfl rfl (OpG.litS (vs := [.int .i64 v.op, .int .i64 v.lt, .slice v.a v.ks.length v.c, .int .i64 u.op, .int .i64 u.lt, .slice u.a u.ks.length u.c]) K27_un22 K27_in24 rfl (by decide) (by kernel_rfl) rfl) ?_
   rintro b41 _
   refine Wl.g rfl rfl (OpG.callV K27_go9 rfl (fun w hH => node_spec w 4 (some ⟨b41, 0, none⟩) 2 2)) ?_
   rintro _ _
   refine Wl.know 42 (v' := evv (nd2 4 b41 v u)) rfl rfl ?_
   refine Wl.g rfl rfl (OpG.callX K27_go8 rfl .nil (fun _ => (.cons .nil)) (fun w hH hp => built_spec w (nd2 4 b41 v u) (fun w' he => nd2_m (Stays.rd (hH.staysK0 (show Has _ (.row 24 3 (.slice (some ⟨b41, 0, none⟩) 2 2) 2 ([v, u].flatMap evc)) from (by repeat (first | exact Has.here | apply Has.there)))) w' he) ((hH.stays0 hv) w' he) ((hH.stays0 hu) w' he)))) ?_
   rintro ⟨M, ms, e3⟩ hM
   dsimp only at hM
   have rM := hM.err (vd_nd2 (by decide) hg22 h26)
   refine Wl.q rfl rfl (OpQ.move rfl) ?_
   refine Wl.q rfl rfl (OpQ.extract rfl rfl) ?_
   refine Wl.know 44 (v' := dvv M) rfl rfl ?_
   refine Wl.q rfl rfl (OpQ.extract rfl rfl) ?_
   refine Wl.know 45 (v' := .int .i64 e3) rfl rfl ?_
   refine Wl.g rfl rfl (OpG.alloc (zs := [.int .i64 0, .int .i64 0, .slice none 0 0, .slice none 0 0]) K27_in30 rfl rfl) ?_
   rintro b9 _
   refine Wl.g rfl rfl (OpG.storeV (b := b9) K27_sz30 rfl rfl rfl rfl (by repeat (first | exact Upd.here | apply Upd.there))) ?_
   rintro _ _
   refine Wl.q rfl rfl (OpQ.assign rfl) ?_
   refine Wl.nil (PX.then_n (CT.seq (CT.region ?_)))
   refine Wl.q rfl rfl (OpQ.loadV (b := b2) K27_ag24 K27_sz24 rfl (by repeat (first | exact Has.here | apply Has.there)) (by rfl)) ?_
   refine Wl.know 47 (v' := evv v) rfl rfl ?_
   refine Wl.q rfl rfl (OpQ.loadV (b := b3) K27_ag24 K27_sz24 rfl (by repeat (first | exact Has.here | apply Has.there)) (by rfl)) ?_
   refine Wl.know 48 (v' := evv u) rfl rfl ?_
   refine Wl.g rfl rfl (OpG.litS (vs := [.int .i64 v.op, .int .i64 v.lt, .slice v.a v.ks.length v.c, .int .i64 u.op, .int .i64 u.lt, .slice u.a u.ks.length u.c]) K27_un22 K27_in24 rfl (by decide) (by kernel_rfl) rfl) ?_
   rintro b49 _
   refine Wl.g rfl rfl (OpG.callV K27_go9 rfl (fun w hH => node_spec w 6 (some ⟨b49, 0, none⟩) 2 2)) ?_
   rintro _ _
   refine Wl.know 50 (v' := evv (nd2 6 b49 v u)) rfl rfl ?_
   refine Wl.g rfl rfl (OpG.callX K27_go8 rfl .nil (fun _ => (.cons .nil)) (fun w hH hp => built_spec w (nd2 6 b49 v u) (fun w' he => nd2_m (Stays.rd (hH.staysK0 (show Has _ (.row 24 3 (.slice (some ⟨b49, 0, none⟩) 2 2) 2 ([v, u].flatMap evc)) from (by repeat (first | exact Has.here | apply Has.there)))) w' he) ((hH.stays0 hv) w' he) ((hH.stays0 hu) w' he)))) ?_
   rintro ⟨N, ns, e4⟩ hN
   dsimp only at hN
   have rN := hN.err (vd_nd2 (by decide) hg22 h26)
   refine Wl.q rfl rfl (OpQ.move rfl) ?_
   refine Wl.q rfl rfl (OpQ.extract rfl rfl) ?_
   refine Wl.know 52 (v' := dvv N) rfl rfl ?_
   refine Wl.q rfl rfl (OpQ.extract rfl rfl) ?_
   refine Wl.know 53 (v' := .int .i64 e4) rfl rfl ?_
   refine Wl.g rfl rfl (OpG.alloc (zs := [.int .i64 0, .int .i64 0, .slice none 0 0, .slice none 0 0]) K27_in30 rfl rfl) ?_
   rintro b11 _
   refine Wl.g rfl rfl (OpG.storeV (b := b11) K27_sz30 rfl rfl rfl rfl (by repeat (first | exact Upd.here | apply Upd.there))) ?_
   rintro _ _
   refine Wl.q rfl rfl (OpQ.assign rfl) ?_
   refine Wl.nil (PX.then_n (CT.seq (CT.region ?_)))
   refine Wl.q rfl rfl (OpQ.loadV (b := b2) K27_ag24 K27_sz24 rfl (by repeat (first | exact Has.here | apply Has.there)) (by rfl)) ?_
   refine Wl.know 55 (v' := evv v) rfl rfl ?_
   refine Wl.g rfl rfl (OpG.litS1 K27_un22 K27_in24 rfl (by decide) rfl) ?_
   rintro b56 _
   refine Wl.g rfl rfl (OpG.callV K27_go9 rfl (fun w hH => node_spec w 8 (some ⟨b56, 0, none⟩) 1 1)) ?_
   rintro _ _
   refine Wl.know 57 (v' := evv (nd1 8 b56 v)) rfl rfl ?_
   refine Wl.g rfl rfl (OpG.callX K27_go8 rfl .nil (fun _ => (.cons .nil)) (fun w hH hp => built_spec w (nd1 8 b56 v) (fun w' he => nd1_m (Stays.rd (hH.staysK0 (show Has _ (.row 24 3 (.slice (some ⟨b56, 0, none⟩) 1 1) 1 ([v].flatMap evc)) from (by repeat (first | exact Has.here | apply Has.there)))) w' he) ((hH.stays0 hv) w' he)))) ?_
   rintro ⟨K, ks, e5⟩ hK
   dsimp only at hK
   have rK := hK.err (vd_nd1 hg22)
   refine Wl.q rfl rfl (OpQ.move rfl) ?_
   refine Wl.q rfl rfl (OpQ.extract rfl rfl) ?_
   refine Wl.know 59 (v' := dvv K) rfl rfl ?_
   refine Wl.q rfl rfl (OpQ.extract rfl rfl) ?_
   refine Wl.know 60 (v' := .int .i64 e5) rfl rfl ?_
   refine Wl.g rfl rfl (OpG.alloc (zs := [.int .i64 0, .int .i64 0, .slice none 0 0, .slice none 0 0]) K27_in30 rfl rfl) ?_
   rintro b13 _
   refine Wl.g rfl rfl (OpG.storeV (b := b13) K27_sz30 rfl rfl rfl rfl (by repeat (first | exact Upd.here | apply Upd.there))) ?_
   rintro _ _
   refine Wl.q rfl rfl (OpQ.assign rfl) ?_
   refine Wl.nil (PX.then_n (CT.seq (CT.seq (CT.region ?_))))
   refine Wl.q rfl rfl (OpQ.move rfl) ?_
   refine Wl.q rfl rfl (OpQ.neq rfl rfl) ?_
   refine Wl.q rfl rfl (OpQ.move rfl) ?_
   refine Wl.split 63 rfl (fun hg63 => ?_) (fun hg63 => ?_)
   ·
    have hg63 := of_nd_t hg63
    refine Wl.skip rfl rfl ?_
    refine Wl.skip rfl rfl ?_
    refine Wl.q rfl rfl (OpQ.pickT rfl rfl) ?_
    refine Wl.q rfl rfl (OpQ.move rfl) ?_
    refine Wl.skip rfl rfl ?_
    refine Wl.skip rfl rfl ?_
    refine Wl.q rfl rfl (OpQ.pickT rfl rfl) ?_
    refine Wl.q rfl rfl (OpQ.move rfl) ?_
    refine Wl.skip rfl rfl ?_
    refine Wl.skip rfl rfl ?_
    refine Wl.q rfl rfl (OpQ.pickT rfl rfl) ?_
    refine Wl.q rfl rfl (OpQ.move rfl) ?_
    refine Wl.skip rfl rfl ?_
    refine Wl.skip rfl rfl ?_
    refine Wl.q rfl rfl (OpQ.pickT rfl rfl) ?_
    refine Wl.nil (PX.then_n ?_)
    refine CT.condT rfl ?_
    refine CT.seq (CT.region ?_)
    refine Wl.q rfl rfl (OpQ.move rfl) ?_
    refine Wl.g rfl rfl (OpG.callV K27_go10 rfl (fun w hH => lim_spec w _)) ?_
    rintro _ _
    refine Wl.know 80 (v' := .bool true) rfl (congrArg Value.bool (decide_eq_true rA)) ?_
    refine Wl.q rfl rfl (OpQ.move rfl) ?_
    refine Wl.q rfl rfl (OpQ.move rfl) ?_
    refine Wl.g rfl rfl (OpG.callV K27_go10 rfl (fun w hH => lim_spec w _)) ?_
    rintro _ _
    refine Wl.know 83 (v' := .bool true) rfl (congrArg Value.bool (decide_eq_true rB)) ?_
    refine Wl.q rfl rfl (OpQ.pickT rfl rfl) ?_
    refine Wl.q rfl rfl (OpQ.move rfl) ?_
    refine Wl.q rfl rfl (OpQ.move rfl) ?_
    refine Wl.g rfl rfl (OpG.callV K27_go10 rfl (fun w hH => lim_spec w _)) ?_
    rintro _ _
    refine Wl.know 87 (v' := .bool true) rfl (congrArg Value.bool (decide_eq_true rM)) ?_
    refine Wl.q rfl rfl (OpQ.pickT rfl rfl) ?_
    refine Wl.q rfl rfl (OpQ.move rfl) ?_
    refine Wl.q rfl rfl (OpQ.move rfl) ?_
    refine Wl.g rfl rfl (OpG.callV K27_go10 rfl (fun w hH => lim_spec w _)) ?_
    rintro _ _
    refine Wl.know 91 (v' := .bool true) rfl (congrArg Value.bool (decide_eq_true rN)) ?_
    refine Wl.q rfl rfl (OpQ.pickT rfl rfl) ?_
    refine Wl.q rfl rfl (OpQ.move rfl) ?_
    refine Wl.q rfl rfl (OpQ.move rfl) ?_
    refine Wl.g rfl rfl (OpG.callV K27_go10 rfl (fun w hH => lim_spec w _)) ?_
    rintro _ _
    refine Wl.know 95 (v' := .bool true) rfl (congrArg Value.bool (decide_eq_true rK)) ?_
    refine Wl.q rfl rfl (OpQ.pickT rfl rfl) ?_
    refine Wl.q rfl rfl (OpQ.move rfl) ?_
    refine Wl.g rfl rfl (OpG.callV K27_go7 rfl (fun w hH => awake_spec w (hH.stays0 hT))) ?_
    rintro _ _
    refine Wl.know 98 (v' := .bool true) rfl (congrArg Value.bool rfl) ?_
    refine Wl.q rfl rfl (OpQ.pickT rfl rfl) ?_
    refine Wl.q rfl rfl (OpQ.assign rfl) ?_
    refine Wl.nil (PX.then_n (CT.ret (PX.then_r ?_)))
    refine PX.ret1 rfl rfl (fun w' hH => ?_)
    exact ⟨rfl, hH.ext⟩
   ·
    have hg63 := of_nd_f hg63
    refine Wl.q rfl rfl (OpQ.move rfl) ?_
    refine Wl.q rfl rfl (OpQ.neq rfl rfl) ?_
    refine Wl.q rfl rfl (OpQ.pickF rfl rfl) ?_
    refine Wl.q rfl rfl (OpQ.move rfl) ?_
    refine Wl.split 67 rfl (fun hg67 => ?_) (fun hg67 => ?_)
    ·
     have hg67 := of_nd_t hg67
     refine Wl.skip rfl rfl ?_
     refine Wl.skip rfl rfl ?_
     refine Wl.q rfl rfl (OpQ.pickT rfl rfl) ?_
     refine Wl.q rfl rfl (OpQ.move rfl) ?_
     refine Wl.skip rfl rfl ?_
     refine Wl.skip rfl rfl ?_
     refine Wl.q rfl rfl (OpQ.pickT rfl rfl) ?_
     refine Wl.q rfl rfl (OpQ.move rfl) ?_
     refine Wl.skip rfl rfl ?_
     refine Wl.skip rfl rfl ?_
     refine Wl.q rfl rfl (OpQ.pickT rfl rfl) ?_
     refine Wl.nil (PX.then_n ?_)
     refine CT.condT rfl ?_
     refine CT.seq (CT.region ?_)
     refine Wl.q rfl rfl (OpQ.move rfl) ?_
     refine Wl.g rfl rfl (OpG.callV K27_go10 rfl (fun w hH => lim_spec w _)) ?_
     rintro _ _
     refine Wl.know 80 (v' := .bool true) rfl (congrArg Value.bool (decide_eq_true rA)) ?_
     refine Wl.q rfl rfl (OpQ.move rfl) ?_
     refine Wl.q rfl rfl (OpQ.move rfl) ?_
     refine Wl.g rfl rfl (OpG.callV K27_go10 rfl (fun w hH => lim_spec w _)) ?_
     rintro _ _
     refine Wl.know 83 (v' := .bool true) rfl (congrArg Value.bool (decide_eq_true rB)) ?_
     refine Wl.q rfl rfl (OpQ.pickT rfl rfl) ?_
     refine Wl.q rfl rfl (OpQ.move rfl) ?_
     refine Wl.q rfl rfl (OpQ.move rfl) ?_
     refine Wl.g rfl rfl (OpG.callV K27_go10 rfl (fun w hH => lim_spec w _)) ?_
     rintro _ _
     refine Wl.know 87 (v' := .bool true) rfl (congrArg Value.bool (decide_eq_true rM)) ?_
     refine Wl.q rfl rfl (OpQ.pickT rfl rfl) ?_
     refine Wl.q rfl rfl (OpQ.move rfl) ?_
     refine Wl.q rfl rfl (OpQ.move rfl) ?_
     refine Wl.g rfl rfl (OpG.callV K27_go10 rfl (fun w hH => lim_spec w _)) ?_
     rintro _ _
     refine Wl.know 91 (v' := .bool true) rfl (congrArg Value.bool (decide_eq_true rN)) ?_
     refine Wl.q rfl rfl (OpQ.pickT rfl rfl) ?_
     refine Wl.q rfl rfl (OpQ.move rfl) ?_
     refine Wl.q rfl rfl (OpQ.move rfl) ?_
     refine Wl.g rfl rfl (OpG.callV K27_go10 rfl (fun w hH => lim_spec w _)) ?_
     rintro _ _
     refine Wl.know 95 (v' := .bool true) rfl (congrArg Value.bool (decide_eq_true rK)) ?_
     refine Wl.q rfl rfl (OpQ.pickT rfl rfl) ?_
     refine Wl.q rfl rfl (OpQ.move rfl) ?_
     refine Wl.g rfl rfl (OpG.callV K27_go7 rfl (fun w hH => awake_spec w (hH.stays0 hT))) ?_
     rintro _ _
     refine Wl.know 98 (v' := .bool true) rfl (congrArg Value.bool rfl) ?_
     refine Wl.q rfl rfl (OpQ.pickT rfl rfl) ?_
     refine Wl.q rfl rfl (OpQ.assign rfl) ?_
     refine Wl.nil (PX.then_n (CT.ret (PX.then_r ?_)))
     refine PX.ret1 rfl rfl (fun w' hH => ?_)
     exact ⟨rfl, hH.ext⟩
    ·
     have hg67 := of_nd_f hg67
     refine Wl.q rfl rfl (OpQ.move rfl) ?_
     refine Wl.q rfl rfl (OpQ.neq rfl rfl) ?_
     refine Wl.q rfl rfl (OpQ.pickF rfl rfl) ?_
     refine Wl.q rfl rfl (OpQ.move rfl) ?_
     refine Wl.split 71 rfl (fun hg71 => ?_) (fun hg71 => ?_)
     ·
      have hg71 := of_nd_t hg71
      refine Wl.skip rfl rfl ?_
      refine Wl.skip rfl rfl ?_
      refine Wl.q rfl rfl (OpQ.pickT rfl rfl) ?_
      refine Wl.q rfl rfl (OpQ.move rfl) ?_
      refine Wl.skip rfl rfl ?_
      refine Wl.skip rfl rfl ?_
      refine Wl.q rfl rfl (OpQ.pickT rfl rfl) ?_
      refine Wl.nil (PX.then_n ?_)
      refine CT.condT rfl ?_
      refine CT.seq (CT.region ?_)
      refine Wl.q rfl rfl (OpQ.move rfl) ?_
      refine Wl.g rfl rfl (OpG.callV K27_go10 rfl (fun w hH => lim_spec w _)) ?_
      rintro _ _
      refine Wl.know 80 (v' := .bool true) rfl (congrArg Value.bool (decide_eq_true rA)) ?_
      refine Wl.q rfl rfl (OpQ.move rfl) ?_
      refine Wl.q rfl rfl (OpQ.move rfl) ?_
      refine Wl.g rfl rfl (OpG.callV K27_go10 rfl (fun w hH => lim_spec w _)) ?_
      rintro _ _
      refine Wl.know 83 (v' := .bool true) rfl (congrArg Value.bool (decide_eq_true rB)) ?_
      refine Wl.q rfl rfl (OpQ.pickT rfl rfl) ?_
      refine Wl.q rfl rfl (OpQ.move rfl) ?_
      refine Wl.q rfl rfl (OpQ.move rfl) ?_
      refine Wl.g rfl rfl (OpG.callV K27_go10 rfl (fun w hH => lim_spec w _)) ?_
      rintro _ _
      refine Wl.know 87 (v' := .bool true) rfl (congrArg Value.bool (decide_eq_true rM)) ?_
      refine Wl.q rfl rfl (OpQ.pickT rfl rfl) ?_
      refine Wl.q rfl rfl (OpQ.move rfl) ?_
      refine Wl.q rfl rfl (OpQ.move rfl) ?_
      refine Wl.g rfl rfl (OpG.callV K27_go10 rfl (fun w hH => lim_spec w _)) ?_
      rintro _ _
      refine Wl.know 91 (v' := .bool true) rfl (congrArg Value.bool (decide_eq_true rN)) ?_
      refine Wl.q rfl rfl (OpQ.pickT rfl rfl) ?_
      refine Wl.q rfl rfl (OpQ.move rfl) ?_
      refine Wl.q rfl rfl (OpQ.move rfl) ?_
      refine Wl.g rfl rfl (OpG.callV K27_go10 rfl (fun w hH => lim_spec w _)) ?_
      rintro _ _
      refine Wl.know 95 (v' := .bool true) rfl (congrArg Value.bool (decide_eq_true rK)) ?_
      refine Wl.q rfl rfl (OpQ.pickT rfl rfl) ?_
      refine Wl.q rfl rfl (OpQ.move rfl) ?_
      refine Wl.g rfl rfl (OpG.callV K27_go7 rfl (fun w hH => awake_spec w (hH.stays0 hT))) ?_
      rintro _ _
      refine Wl.know 98 (v' := .bool true) rfl (congrArg Value.bool rfl) ?_
      refine Wl.q rfl rfl (OpQ.pickT rfl rfl) ?_
      refine Wl.q rfl rfl (OpQ.assign rfl) ?_
      refine Wl.nil (PX.then_n (CT.ret (PX.then_r ?_)))
      refine PX.ret1 rfl rfl (fun w' hH => ?_)
      exact ⟨rfl, hH.ext⟩
     ·
      have hg71 := of_nd_f hg71
      refine Wl.q rfl rfl (OpQ.move rfl) ?_
      refine Wl.q rfl rfl (OpQ.neq rfl rfl) ?_
      refine Wl.q rfl rfl (OpQ.pickF rfl rfl) ?_
      refine Wl.q rfl rfl (OpQ.move rfl) ?_
      refine Wl.split 75 rfl (fun hg75 => ?_) (fun hg75 => ?_)
      ·
       have hg75 := of_nd_t hg75
       refine Wl.skip rfl rfl ?_
       refine Wl.skip rfl rfl ?_
       refine Wl.q rfl rfl (OpQ.pickT rfl rfl) ?_
       refine Wl.nil (PX.then_n ?_)
       refine CT.condT rfl ?_
       refine CT.seq (CT.region ?_)
       refine Wl.q rfl rfl (OpQ.move rfl) ?_
       refine Wl.g rfl rfl (OpG.callV K27_go10 rfl (fun w hH => lim_spec w _)) ?_
       rintro _ _
       refine Wl.know 80 (v' := .bool true) rfl (congrArg Value.bool (decide_eq_true rA)) ?_
       refine Wl.q rfl rfl (OpQ.move rfl) ?_
       refine Wl.q rfl rfl (OpQ.move rfl) ?_
       refine Wl.g rfl rfl (OpG.callV K27_go10 rfl (fun w hH => lim_spec w _)) ?_
       rintro _ _
       refine Wl.know 83 (v' := .bool true) rfl (congrArg Value.bool (decide_eq_true rB)) ?_
       refine Wl.q rfl rfl (OpQ.pickT rfl rfl) ?_
       refine Wl.q rfl rfl (OpQ.move rfl) ?_
       refine Wl.q rfl rfl (OpQ.move rfl) ?_
       refine Wl.g rfl rfl (OpG.callV K27_go10 rfl (fun w hH => lim_spec w _)) ?_
       rintro _ _
       refine Wl.know 87 (v' := .bool true) rfl (congrArg Value.bool (decide_eq_true rM)) ?_
       refine Wl.q rfl rfl (OpQ.pickT rfl rfl) ?_
       refine Wl.q rfl rfl (OpQ.move rfl) ?_
       refine Wl.q rfl rfl (OpQ.move rfl) ?_
       refine Wl.g rfl rfl (OpG.callV K27_go10 rfl (fun w hH => lim_spec w _)) ?_
       rintro _ _
       refine Wl.know 91 (v' := .bool true) rfl (congrArg Value.bool (decide_eq_true rN)) ?_
       refine Wl.q rfl rfl (OpQ.pickT rfl rfl) ?_
       refine Wl.q rfl rfl (OpQ.move rfl) ?_
       refine Wl.q rfl rfl (OpQ.move rfl) ?_
       refine Wl.g rfl rfl (OpG.callV K27_go10 rfl (fun w hH => lim_spec w _)) ?_
       rintro _ _
       refine Wl.know 95 (v' := .bool true) rfl (congrArg Value.bool (decide_eq_true rK)) ?_
       refine Wl.q rfl rfl (OpQ.pickT rfl rfl) ?_
       refine Wl.q rfl rfl (OpQ.move rfl) ?_
       refine Wl.g rfl rfl (OpG.callV K27_go7 rfl (fun w hH => awake_spec w (hH.stays0 hT))) ?_
       rintro _ _
       refine Wl.know 98 (v' := .bool true) rfl (congrArg Value.bool rfl) ?_
       refine Wl.q rfl rfl (OpQ.pickT rfl rfl) ?_
       refine Wl.q rfl rfl (OpQ.assign rfl) ?_
       refine Wl.nil (PX.then_n (CT.ret (PX.then_r ?_)))
       refine PX.ret1 rfl rfl (fun w' hH => ?_)
       exact ⟨rfl, hH.ext⟩
      ·
       have hg75 := of_nd_f hg75
       refine Wl.q rfl rfl (OpQ.move rfl) ?_
       refine Wl.q rfl rfl (OpQ.neq rfl rfl) ?_
       refine Wl.q rfl rfl (OpQ.pickF rfl rfl) ?_
       refine Wl.nil (PX.then_n ?_)
       refine CT.cond rfl (fun h78 => ?_) (fun h78 => ?_)
       ·
        refine CT.seq (CT.region ?_)
        refine Wl.q rfl rfl (OpQ.move rfl) ?_
        refine Wl.g rfl rfl (OpG.callV K27_go10 rfl (fun w hH => lim_spec w _)) ?_
        rintro _ _
        refine Wl.know 80 (v' := .bool true) rfl (congrArg Value.bool (decide_eq_true rA)) ?_
        refine Wl.q rfl rfl (OpQ.move rfl) ?_
        refine Wl.q rfl rfl (OpQ.move rfl) ?_
        refine Wl.g rfl rfl (OpG.callV K27_go10 rfl (fun w hH => lim_spec w _)) ?_
        rintro _ _
        refine Wl.know 83 (v' := .bool true) rfl (congrArg Value.bool (decide_eq_true rB)) ?_
        refine Wl.q rfl rfl (OpQ.pickT rfl rfl) ?_
        refine Wl.q rfl rfl (OpQ.move rfl) ?_
        refine Wl.q rfl rfl (OpQ.move rfl) ?_
        refine Wl.g rfl rfl (OpG.callV K27_go10 rfl (fun w hH => lim_spec w _)) ?_
        rintro _ _
        refine Wl.know 87 (v' := .bool true) rfl (congrArg Value.bool (decide_eq_true rM)) ?_
        refine Wl.q rfl rfl (OpQ.pickT rfl rfl) ?_
        refine Wl.q rfl rfl (OpQ.move rfl) ?_
        refine Wl.q rfl rfl (OpQ.move rfl) ?_
        refine Wl.g rfl rfl (OpG.callV K27_go10 rfl (fun w hH => lim_spec w _)) ?_
        rintro _ _
        refine Wl.know 91 (v' := .bool true) rfl (congrArg Value.bool (decide_eq_true rN)) ?_
        refine Wl.q rfl rfl (OpQ.pickT rfl rfl) ?_
        refine Wl.q rfl rfl (OpQ.move rfl) ?_
        refine Wl.q rfl rfl (OpQ.move rfl) ?_
        refine Wl.g rfl rfl (OpG.callV K27_go10 rfl (fun w hH => lim_spec w _)) ?_
        rintro _ _
        refine Wl.know 95 (v' := .bool true) rfl (congrArg Value.bool (decide_eq_true rK)) ?_
        refine Wl.q rfl rfl (OpQ.pickT rfl rfl) ?_
        refine Wl.q rfl rfl (OpQ.move rfl) ?_
        refine Wl.g rfl rfl (OpG.callV K27_go7 rfl (fun w hH => awake_spec w (hH.stays0 hT))) ?_
        rintro _ _
        refine Wl.know 98 (v' := .bool true) rfl (congrArg Value.bool rfl) ?_
        refine Wl.q rfl rfl (OpQ.pickT rfl rfl) ?_
        refine Wl.q rfl rfl (OpQ.assign rfl) ?_
        refine Wl.nil (PX.then_n (CT.ret (PX.then_r ?_)))
        refine PX.ret1 rfl rfl (fun w' hH => ?_)
        exact ⟨rfl, hH.ext⟩
       ·
        have h78 := of_nd_f h78
        obtain rfl : e1 = 0 := hg63
        obtain rfl : e2 = 0 := hg67
        obtain rfl : e3 = 0 := hg71
        obtain rfl : e4 = 0 := hg75
        obtain rfl : e5 = 0 := h78
        obtain ⟨oA, nA⟩ := hA.ok
        obtain ⟨oB, nB⟩ := hB.ok
        obtain ⟨oM, nM⟩ := hM.ok
        obtain ⟨oN, nN⟩ := hN.ok
        obtain ⟨oK, nK⟩ := hK.ok
        have hAB : A.L = B.L := by rw [hA.L, hB.L]
        refine CT.skip (PX.then_n (CT.seq (CT.region ?_)))
        refine Wl.q rfl rfl (OpQ.loadV (b := b5) K27_ag30 K27_sz30 rfl (by repeat (first | exact Has.here | apply Has.there)) (by rfl)) ?_
        refine Wl.know 101 (v' := dvv A) rfl rfl ?_
        refine Wl.q rfl rfl (OpQ.loadV (b := b7) K27_ag30 K27_sz30 rfl (by repeat (first | exact Has.here | apply Has.there)) (by rfl)) ?_
        refine Wl.know 102 (v' := dvv B) rfl rfl ?_
        refine Wl.g rfl rfl (OpG.callX K27_go11 rfl .nil (fun _ => (.cons .nil)) (fun w hH hp => comb_spec w A (Stays.frag (hH.staysK0 (show Has _ (.frag avs (dvm A)) from (by repeat (first | exact Has.here | apply Has.there))))) B (Stays.frag (hH.staysK0 (show Has _ (.frag bs (dvm B)) from (by repeat (first | exact Has.here | apply Has.there))))) oA oB nA nB hAB 14 (by decide))) ?_
        rintro ⟨Q, qs, e6⟩ hQ
        dsimp only at hQ
        have rQ : e6 = 0 ∨ e6 = 3 := hQ.imp (fun h => h.1) id
        refine Wl.q rfl rfl (OpQ.move rfl) ?_
        refine Wl.q rfl rfl (OpQ.extract rfl rfl) ?_
        refine Wl.know 104 (v' := dvv Q) rfl rfl ?_
        refine Wl.q rfl rfl (OpQ.extract rfl rfl) ?_
        refine Wl.know 105 (v' := .int .i64 e6) rfl rfl ?_
        refine Wl.g rfl rfl (OpG.alloc (zs := [.int .i64 0, .int .i64 0, .slice none 0 0, .slice none 0 0]) K27_in30 rfl rfl) ?_
        rintro b15 _
        refine Wl.g rfl rfl (OpG.storeV (b := b15) K27_sz30 rfl rfl rfl rfl (by repeat (first | exact Upd.here | apply Upd.there))) ?_
        rintro _ _
        refine Wl.q rfl rfl (OpQ.assign rfl) ?_
        refine Wl.nil (PX.then_n (CT.seq (CT.region ?_)))
        refine Wl.q rfl rfl (OpQ.loadV (b := b5) K27_ag30 K27_sz30 rfl (by repeat (first | exact Has.here | apply Has.there)) (by rfl)) ?_
        refine Wl.know 107 (v' := dvv A) rfl rfl ?_
        refine Wl.q rfl rfl (OpQ.loadV (b := b7) K27_ag30 K27_sz30 rfl (by repeat (first | exact Has.here | apply Has.there)) (by rfl)) ?_
        refine Wl.know 108 (v' := dvv B) rfl rfl ?_
        refine Wl.g rfl rfl (OpG.callX K27_go11 rfl .nil (fun _ => (.cons .nil)) (fun w hH hp => comb_spec w A (Stays.frag (hH.staysK0 (show Has _ (.frag avs (dvm A)) from (by repeat (first | exact Has.here | apply Has.there))))) B (Stays.frag (hH.staysK0 (show Has _ (.frag bs (dvm B)) from (by repeat (first | exact Has.here | apply Has.there))))) oA oB nA nB hAB 8 (by decide))) ?_
        rintro ⟨Z, zs, e7⟩ hZ
        dsimp only at hZ
        have rZ : e7 = 0 ∨ e7 = 3 := hZ.imp (fun h => h.1) id
        refine Wl.q rfl rfl (OpQ.move rfl) ?_
        refine Wl.q rfl rfl (OpQ.extract rfl rfl) ?_
        refine Wl.know 110 (v' := dvv Z) rfl rfl ?_
        refine Wl.q rfl rfl (OpQ.extract rfl rfl) ?_
        refine Wl.know 111 (v' := .int .i64 e7) rfl rfl ?_
        refine Wl.g rfl rfl (OpG.alloc (zs := [.int .i64 0, .int .i64 0, .slice none 0 0, .slice none 0 0]) K27_in30 rfl rfl) ?_
        rintro b17 _
        refine Wl.g rfl rfl (OpG.storeV (b := b17) K27_sz30 rfl rfl rfl rfl (by repeat (first | exact Upd.here | apply Upd.there))) ?_
        rintro _ _
        refine Wl.q rfl rfl (OpQ.assign rfl) ?_
        refine Wl.nil (PX.then_n (CT.seq (CT.seq (CT.region ?_))))
        refine Wl.q rfl rfl (OpQ.move rfl) ?_
        refine Wl.q rfl rfl (OpQ.neq rfl rfl) ?_
        refine Wl.q rfl rfl (OpQ.move rfl) ?_
        refine Wl.split 114 rfl (fun hg114 => ?_) (fun hg114 => ?_)
        ·
         have hg114 := of_nd_t hg114
         refine Wl.skip rfl rfl ?_
         refine Wl.skip rfl rfl ?_
         refine Wl.q rfl rfl (OpQ.pickT rfl rfl) ?_
         refine Wl.nil (PX.then_n ?_)
         refine CT.condT rfl ?_
         refine CT.seq (CT.region ?_)
         refine Wl.q rfl rfl (OpQ.move rfl) ?_
         refine Wl.g rfl rfl (OpG.callV K27_go10 rfl (fun w hH => lim_spec w _)) ?_
         rintro _ _
         refine Wl.know 119 (v' := .bool true) rfl (congrArg Value.bool (decide_eq_true rQ)) ?_
         refine Wl.q rfl rfl (OpQ.move rfl) ?_
         refine Wl.q rfl rfl (OpQ.move rfl) ?_
         refine Wl.g rfl rfl (OpG.callV K27_go10 rfl (fun w hH => lim_spec w _)) ?_
         rintro _ _
         refine Wl.know 122 (v' := .bool true) rfl (congrArg Value.bool (decide_eq_true rZ)) ?_
         refine Wl.q rfl rfl (OpQ.pickT rfl rfl) ?_
         refine Wl.q rfl rfl (OpQ.move rfl) ?_
         refine Wl.g rfl rfl (OpG.callV K27_go7 rfl (fun w hH => awake_spec w (hH.stays0 hT))) ?_
         rintro _ _
         refine Wl.know 125 (v' := .bool true) rfl (congrArg Value.bool rfl) ?_
         refine Wl.q rfl rfl (OpQ.pickT rfl rfl) ?_
         refine Wl.q rfl rfl (OpQ.assign rfl) ?_
         refine Wl.nil (PX.then_n (CT.ret (PX.then_r ?_)))
         refine PX.ret1 rfl rfl (fun w' hH => ?_)
         exact ⟨rfl, hH.ext⟩
        ·
         have hg114 := of_nd_f hg114
         refine Wl.q rfl rfl (OpQ.move rfl) ?_
         refine Wl.q rfl rfl (OpQ.neq rfl rfl) ?_
         refine Wl.q rfl rfl (OpQ.pickF rfl rfl) ?_
         refine Wl.nil (PX.then_n ?_)
         refine CT.cond rfl (fun h117 => ?_) (fun h117 => ?_)
         ·
          refine CT.seq (CT.region ?_)
          refine Wl.q rfl rfl (OpQ.move rfl) ?_
          refine Wl.g rfl rfl (OpG.callV K27_go10 rfl (fun w hH => lim_spec w _)) ?_
          rintro _ _
          refine Wl.know 119 (v' := .bool true) rfl (congrArg Value.bool (decide_eq_true rQ)) ?_
          refine Wl.q rfl rfl (OpQ.move rfl) ?_
          refine Wl.q rfl rfl (OpQ.move rfl) ?_
          refine Wl.g rfl rfl (OpG.callV K27_go10 rfl (fun w hH => lim_spec w _)) ?_
          rintro _ _
          refine Wl.know 122 (v' := .bool true) rfl (congrArg Value.bool (decide_eq_true rZ)) ?_
          refine Wl.q rfl rfl (OpQ.pickT rfl rfl) ?_
          refine Wl.q rfl rfl (OpQ.move rfl) ?_
          refine Wl.g rfl rfl (OpG.callV K27_go7 rfl (fun w hH => awake_spec w (hH.stays0 hT))) ?_
          rintro _ _
          refine Wl.know 125 (v' := .bool true) rfl (congrArg Value.bool rfl) ?_
          refine Wl.q rfl rfl (OpQ.pickT rfl rfl) ?_
          refine Wl.q rfl rfl (OpQ.assign rfl) ?_
          refine Wl.nil (PX.then_n (CT.ret (PX.then_r ?_)))
          refine PX.ret1 rfl rfl (fun w' hH => ?_)
          exact ⟨rfl, hH.ext⟩
         ·
          have h117 := of_nd_f h117
          obtain rfl : e6 = 0 := hg114
          obtain rfl : e7 = 0 := h117
          obtain ⟨_, oQ, nQ, mQ⟩ := hQ.resolve_right (by decide)
          obtain ⟨_, oZ, nZ, mZ⟩ := hZ.resolve_right (by decide)
          have k1 := (sameD_da oM oQ).2 (un_same hA hB hM mQ)
          have k2 := (sameD_da oN oZ).2 (in_same hA hB hN mZ)
          refine CT.skip (PX.then_n (CT.seq ?_))
          refine CT.draw 24 K27_mixed ?_
          refine RA.q 0 (by kernel_rfl) rfl rfl rfl (.refl _) (OpQ.loadV (b := b9) K27_ag30 K27_sz30 rfl (by repeat (first | exact Has.here | apply Has.there)) (by rfl)) ?_
          refine RA.know 127 (v' := dvv M) rfl rfl ?_
          refine RA.f 1 (by kernel_rfl) rfl rfl rfl (OpG.callV K27_go12 rfl (fun w hH => dvalid_spec w M (Stays.frag (hH.staysK0 (show Has _ (.frag ms (dvm M)) from (by repeat (first | exact Has.here | apply Has.there))))))) (fun _ _ => (.refl _)) ?_
          rintro _ _
          refine RA.know 128 (v' := .int .i64 0) rfl (congrArg (Value.int .i64) (oM.zero nM)) ?_
          refine RA.q 2 (by kernel_rfl) rfl rfl rfl (.refl _) (OpQ.eql rfl rfl) ?_
          refine RA.know 129 (v' := .bool true) rfl (congrArg Value.bool rfl) ?_
          refine RA.q 3 (by kernel_rfl) rfl rfl rfl (.refl _) (OpQ.move rfl) ?_
          refine RA.q 4 (by kernel_rfl) rfl rfl rfl (.refl _) (OpQ.loadV (b := b9) K27_ag30 K27_sz30 rfl (by repeat (first | exact Has.here | apply Has.there)) (by rfl)) ?_
          refine RA.know 131 (v' := dvv M) rfl rfl ?_
          refine RA.q 5 (by kernel_rfl) rfl rfl rfl (.refl _) (OpQ.loadV (b := b15) K27_ag30 K27_sz30 rfl (by repeat (first | exact Has.here | apply Has.there)) (by rfl)) ?_
          refine RA.know 132 (v' := dvv Q) rfl rfl ?_
          refine RA.f 6 (by kernel_rfl) rfl rfl rfl (OpG.callV K27_go13 rfl (fun w hH => same_spec w M Q (Stays.frag (hH.staysK0 (show Has _ (.frag ms (dvm M)) from (by repeat (first | exact Has.here | apply Has.there))))) (Stays.frag (hH.staysK0 (show Has _ (.frag qs (dvm Q)) from (by repeat (first | exact Has.here | apply Has.there))))) (by omega) (by have := oM.len; omega) (fun q hq => by have := oM.len; have := oM.may; have := (oM.row q (by omega)).1; omega))) (fun _ _ => (.refl _)) ?_
          rintro _ _
          refine RA.know 133 (v' := .bool true) rfl (congrArg Value.bool k1) ?_
          refine RA.q 7 (by kernel_rfl) rfl rfl rfl (.refl _) (OpQ.pickT rfl rfl) ?_
          refine RA.q 8 (by kernel_rfl) rfl rfl rfl (.refl _) (OpQ.move rfl) ?_
          refine RA.q 9 (by kernel_rfl) rfl rfl rfl (.refl _) (OpQ.loadV (b := b11) K27_ag30 K27_sz30 rfl (by repeat (first | exact Has.here | apply Has.there)) (by rfl)) ?_
          refine RA.know 136 (v' := dvv N) rfl rfl ?_
          refine RA.q 10 (by kernel_rfl) rfl rfl rfl (.refl _) (OpQ.loadV (b := b17) K27_ag30 K27_sz30 rfl (by repeat (first | exact Has.here | apply Has.there)) (by rfl)) ?_
          refine RA.know 137 (v' := dvv Z) rfl rfl ?_
          refine RA.f 11 (by kernel_rfl) rfl rfl rfl (OpG.callV K27_go13 rfl (fun w hH => same_spec w N Z (Stays.frag (hH.staysK0 (show Has _ (.frag ns (dvm N)) from (by repeat (first | exact Has.here | apply Has.there))))) (Stays.frag (hH.staysK0 (show Has _ (.frag zs (dvm Z)) from (by repeat (first | exact Has.here | apply Has.there))))) (by omega) (by have := oN.len; omega) (fun q hq => by have := oN.len; have := oN.may; have := (oN.row q (by omega)).1; omega))) (fun _ _ => (.refl _)) ?_
          rintro _ _
          refine RA.know 138 (v' := .bool true) rfl (congrArg Value.bool k2) ?_
          refine RA.q 12 (by kernel_rfl) rfl rfl rfl (.refl _) (OpQ.pickT rfl rfl) ?_
          refine RA.q 13 (by kernel_rfl) rfl rfl rfl (.refl _) (OpQ.move rfl) ?_
          refine RA.q 14 (by kernel_rfl) rfl rfl rfl (.refl _) (OpQ.loadV (b := b13) K27_ag30 K27_sz30 rfl (by repeat (first | exact Has.here | apply Has.there)) (by rfl)) ?_
          refine RA.know 141 (v' := dvv K) rfl rfl ?_
          refine RA.q 15 (by kernel_rfl) rfl rfl rfl (.refl _) (OpQ.loadV (b := b5) K27_ag30 K27_sz30 rfl (by repeat (first | exact Has.here | apply Has.there)) (by rfl)) ?_
          refine RA.know 142 (v' := dvv A) rfl rfl ?_
          refine RA.f 16 (by kernel_rfl) rfl rfl rfl (OpG.callX K27_go15 rfl .nil (fun _ => (.cons .nil)) (fun w hH hp => compl_spec w A (Stays.frag (hH.staysK0 (show Has _ (.frag avs (dvm A)) from (by repeat (first | exact Has.here | apply Has.there))))) oA nA)) (fun _ _ => (.cons _ (.refl _))) ?_
          rintro ⟨C, cs⟩ ⟨oC, nC, hC⟩
          dsimp only at oC nC hC
          refine RA.know 143 (v' := dvv C) rfl rfl ?_
          refine RA.f 17 (by kernel_rfl) rfl rfl rfl (OpG.callX K27_go14 rfl .nil (fun _ => (.cons .nil)) (fun w hH hp => minimize_spec w C (Stays.frag (hH.staysK0 (show Has _ (.frag cs (dvm C)) from (by repeat (first | exact Has.here | apply Has.there))))) oC nC)) (fun _ _ => (.cons _ (.cons _ (.refl _)))) ?_
          rintro ⟨R, rs⟩ ⟨oR, mR⟩
          dsimp only at oR mR
          rw [hC] at mR
          have k3 := (sameD_da oK oR).2 (no_same hA hK oA.daOk mR)
          refine RA.know 144 (v' := dvv R) rfl rfl ?_
          refine RA.f 18 (by kernel_rfl) rfl rfl rfl (OpG.callV K27_go13 rfl (fun w hH => same_spec w K R (Stays.frag (hH.staysK0 (show Has _ (.frag ks (dvm K)) from (by repeat (first | exact Has.here | apply Has.there))))) (Stays.frag (hH.staysK0 (show Has _ (.frag rs (dvm R)) from (by repeat (first | exact Has.here | apply Has.there))))) (by omega) (by have := oK.len; omega) (fun q hq => by have := oK.len; have := oK.may; have := (oK.row q (by omega)).1; omega))) (fun _ _ => (.cons _ (.cons _ (.refl _)))) ?_
          rintro _ _
          refine RA.know 145 (v' := .bool true) rfl (congrArg Value.bool k3) ?_
          refine RA.q 19 (by kernel_rfl) rfl rfl rfl (.cons _ (.cons _ (.refl _))) (OpQ.pickT rfl rfl) ?_
          refine RA.q 20 (by kernel_rfl) rfl rfl rfl (.cons _ (.cons _ (.refl _))) (OpQ.move rfl) ?_
          refine RA.f 21 (by kernel_rfl) rfl rfl rfl (OpG.callV K27_go7 rfl (fun w hH => awake_spec w (hH.stays0 hT))) (fun _ _ => (.cons _ (.cons _ (.refl _)))) ?_
          rintro _ _
          refine RA.know 148 (v' := .bool true) rfl (congrArg Value.bool rfl) ?_
          refine RA.q 22 (by kernel_rfl) rfl rfl rfl (.cons _ (.cons _ (.refl _))) (OpQ.pickT rfl rfl) ?_
          refine RA.q 23 (by kernel_rfl) rfl rfl rfl (.cons _ (.cons _ (.refl _))) (OpQ.assign rfl) ?_
          refine RA.tail ?_
          refine RT.done (by kernel_rfl) ?_
          refine PX.then_n (CT.ret ?_)
          refine PX.ret1 rfl rfl (fun w' hH => ?_)
          exact ⟨rfl, hH.ext⟩

end Go.Proofs.YtmggcdegekbncabGreatDoor

