/-
  What functions of the program compute, each by its walk. Conditions: those that each theorem names.
-/
import Derived.Test.YtmggcdegekbncabGreatDoorEng2
import Derived.Test.YtmggcdegekbncabGreatDoorXGB32
import Derived.Test.YtmggcdegekbncabGreatDoorXF
set_option linter.unusedSimpArgs false
namespace Go.Proofs.YtmggcdegekbncabGreatDoor
open Go Go.Eng Go.Am Go.Ex
open Go.Tp (zi)
open Go.Tl (mayL Wd okW okB bo)
open Go.Ex.simp (simpL)
open Go.Ex.dv (dvL dvC)
open Go.Ex.hasU (hasAny hasAll)
open Go.Ex.wf (wfL)
open Go.Ex.szE (szL)
open Go.Ex.dpE (dpL)
open Go.Ex.cmpE (cmpL)
open Go.Ex.fmtE (fmtK fmtR)
open Go.Rel (tz Tab tz_bound tz_load tz_lt)
theorem K33_in24 : (Tryz.prog.info? 24).map (fun i => (i.zero, i.size, i.bytes)) = some (some (.agg #[.int .i64 0, .int .i64 0, .slice none 0 0]), 3, 40) := by kernel_rfl
theorem K33_un9 : Tryz.prog.underlying 9 = some .string := by kernel_rfl
theorem K33_go40 : isGo Tryz.prog 40 = true := by kernel_rfl
theorem K33_sz24 : sizeB Tryz.prog 24 = some 3 := by kernel_rfl
theorem K33_ag24 : isAggB Tryz.prog 24 = some true := by kernel_rfl
theorem K33_go41 : isGo Tryz.prog 41 = true := by kernel_rfl
set_option maxRecDepth 100000 in
/-- semigroup/expr.Parse -/
theorem parse_spec (w : World) (ts : Tx) (hts : ts.length ≤ 4096) (n : Nat) (hn : n ≤ 1000000) (ex : Ex) (hp0 : pP 2 n 0 ts = some (ex, [])) (hlim : inLim ex = true) : Calls Tryz.prog 22 #[sv ts, .int .i64 2] w (fun e w' => ∃ i : Xv × List Nat, toE i.1 = ex ∧ e = .returned (.tuple #[evv i.1, .int .i64 0, .int .i64 0]) ∧ Post [] [fx (AllM []) [i.1] i.2] w w') := by
 refine enter (args := [sv ts, .int .i64 2]) [] 37 Tryz.func22 rfl rfl rfl ?_
 refine CT.seq (CT.region ?_)
 refine Wl.g rfl rfl (OpG.alloc (zs := [.int .i64 0, .int .i64 0, .slice none 0 0]) K33_in24 rfl rfl) ?_
 rintro b4 _
 refine Wl.q rfl rfl (OpQ.assign rfl) ?_
 refine Wl.q rfl rfl (OpQ.assign rfl) ?_
 refine Wl.nil (PX.then_n (CT.seq (CT.seq (CT.region ?_))))
 refine Wl.q rfl rfl (OpQ.move rfl) ?_
 refine Wl.q rfl rfl (OpQ.lss rfl rfl) ?_
 refine Wl.know 11 (v' := .bool false) rfl (congrArg Value.bool rfl) ?_
 refine Wl.q rfl rfl (OpQ.move rfl) ?_
 refine Wl.q rfl rfl (OpQ.move rfl) ?_
 refine Wl.q rfl rfl (OpQ.gtr rfl rfl) ?_
 refine Wl.know 14 (v' := .bool false) rfl (congrArg Value.bool rfl) ?_
 refine Wl.q rfl rfl (OpQ.pickF rfl rfl) ?_
 refine Wl.nil (PX.then_n ?_)
 refine CT.condF rfl ?_
 refine CT.skip (PX.then_n (CT.seq (CT.seq (CT.region ?_))))
 refine Wl.q rfl rfl (OpQ.move rfl) ?_
 refine Wl.q rfl rfl (OpQ.lenSv K33_un9 rfl) ?_
 refine Wl.q rfl rfl (OpQ.gtr rfl rfl) ?_
 refine Wl.know 19 (v' := .bool false) rfl (congrArg Value.bool (decide_eq_false (by omega))) ?_
 refine Wl.nil (PX.then_n ?_)
 refine CT.condF rfl ?_
 refine CT.skip (PX.then_n (CT.seq (CT.region ?_)))
 refine Wl.q rfl rfl (OpQ.move rfl) ?_
 refine Wl.q rfl rfl (OpQ.move rfl) ?_
 refine Wl.g rfl rfl (OpG.callX K33_go40 rfl .nil (fun _ => (.cons .nil)) (fun w hH hp => ptext_spec w ts hts n hn ex hp0)) ?_
 rintro ⟨x, xb⟩ hx
 refine Wl.q rfl rfl (OpQ.move rfl) ?_
 refine Wl.q rfl rfl (OpQ.extract rfl rfl) ?_
 refine Wl.know 25 (v' := evv x) rfl rfl ?_
 refine Wl.q rfl rfl (OpQ.extract rfl rfl) ?_
 refine Wl.know 26 (v' := .int .i64 0) rfl rfl ?_
 refine Wl.q rfl rfl (OpQ.extract rfl rfl) ?_
 refine Wl.know 27 (v' := .bool true) rfl (congrArg Value.bool rfl) ?_
 refine Wl.g rfl rfl (OpG.alloc (zs := [.int .i64 0, .int .i64 0, .slice none 0 0]) K33_in24 rfl rfl) ?_
 rintro b7 _
 refine Wl.g rfl rfl (OpG.storeV (b := b7) K33_sz24 rfl rfl rfl rfl (by repeat (first | exact Upd.here | apply Upd.there))) ?_
 rintro _ _
 refine Wl.q rfl rfl (OpQ.assign rfl) ?_
 refine Wl.q rfl rfl (OpQ.assign rfl) ?_
 refine Wl.nil (PX.then_n (CT.seq (CT.seq (CT.region ?_))))
 refine Wl.q rfl rfl (OpQ.move rfl) ?_
 refine Wl.q rfl rfl (OpQ.not rfl) ?_
 refine Wl.nil (PX.then_n ?_)
 refine CT.condF rfl ?_
 refine CT.skip (PX.then_n (CT.seq (CT.seq (CT.region ?_))))
 refine Wl.q rfl rfl (OpQ.loadV (b := b7) K33_ag24 K33_sz24 rfl (by repeat (first | exact Has.here | apply Has.there)) (by rfl)) ?_
 refine Wl.know 32 (v' := evv x) rfl rfl ?_
 refine Wl.g rfl rfl (OpG.callV K33_go41 rfl (fun w hH => withinL_spec w x (fun w' he => AllM.one.1 ((hH.staysK0 (show Has _ (fx (AllM []) [x] xb) from (by repeat (first | exact Has.here | apply Has.there)))).frag w' he (AllM.nil w'))))) ?_
 rintro _ _
 refine Wl.know 33 (v' := .bool true) rfl (congrArg Value.bool (by rw [show toE x = ex from hx]; exact hlim)) ?_
 refine Wl.q rfl rfl (OpQ.not rfl) ?_
 refine Wl.nil (PX.then_n ?_)
 refine CT.condF rfl ?_
 refine CT.skip (PX.then_n (CT.seq (CT.region ?_)))
 refine Wl.q rfl rfl (OpQ.loadV (b := b7) K33_ag24 K33_sz24 rfl (by repeat (first | exact Has.here | apply Has.there)) (by rfl)) ?_
 refine Wl.know 36 (v' := evv x) rfl rfl ?_
 refine Wl.g rfl rfl (OpG.storeV (b := b4) K33_sz24 rfl rfl rfl rfl (by repeat (first | exact Upd.here | apply Upd.there))) ?_
 rintro _ _
 refine Wl.q rfl rfl (OpQ.assign rfl) ?_
 refine Wl.q rfl rfl (OpQ.assign rfl) ?_
 refine Wl.nil (PX.then_n (CT.ret ?_))
 refine PX.retC3 rfl rfl rfl rfl (by repeat (first | exact Has.here | apply Has.there)) K33_ag24 K33_sz24 (by rfl) (fun w' hH => ?_)
 exact ⟨(x, xb), hx, rfl, HOk.post (hH.take (.cons (.there .here) .nil))⟩

theorem K33_in30 : (Tryz.prog.info? 30).map (fun i => (i.zero, i.size, i.bytes)) = some (some (.agg #[.int .i64 0, .int .i64 0, .slice none 0 0, .slice none 0 0]), 4, 64) := by kernel_rfl
theorem K33_go32 : isGo Tryz.prog 32 = true := by kernel_rfl
theorem K33_pl30 : placesB Tryz.prog 30 = some (#[.int .i64 0, .int .i64 0, .slice none 0 0, .slice none 0 0], [(0, 1), (1, 1), (2, 1), (3, 1)]) := by kernel_rfl
theorem K33_sz30 : sizeB Tryz.prog 30 = some 4 := by kernel_rfl
theorem K33_ag30 : isAggB Tryz.prog 30 = some true := by kernel_rfl
theorem K33_go21 : isGo Tryz.prog 21 = true := by kernel_rfl
theorem K33_go33 : isGo Tryz.prog 33 = true := by kernel_rfl
theorem K33_go34 : isGo Tryz.prog 34 = true := by kernel_rfl
theorem K33_go35 : isGo Tryz.prog 35 = true := by kernel_rfl
theorem K33_go36 : isGo Tryz.prog 36 = true := by kernel_rfl
set_option maxRecDepth 100000 in
set_option maxHeartbeats 1000000 in
/-- semigroup/derive.Build -/
theorem buildZ_spec (w : World) (v : Xv) (hv : Stays [] w (evm v)) : Calls Tryz.prog 17 #[evv v, .int .i64 2] w (fun e w' => ∃ z : Dv × List Nat × Int, BZ (toE v) z.1 z.2.2 ∧ e = .returned (.tuple #[dvv z.1, .int .i64 z.2.2]) ∧ Post [] [.frag z.2.1 (dvm z.1)] w w') := by
 refine enter (args := [evv v, .int .i64 2]) [] 31 Tryz.func17 rfl rfl rfl ?_
 refine CT.seq (CT.region ?_)
 refine Wl.g rfl rfl (OpG.box (size := 3) rfl rfl rfl) ?_
 rintro b2 _
 refine Wl.g rfl rfl (OpG.alloc (zs := [.int .i64 0, .int .i64 0, .slice none 0 0, .slice none 0 0]) K33_in30 rfl rfl) ?_
 rintro b4 _
 refine Wl.q rfl rfl (OpQ.assign rfl) ?_
 refine Wl.nil (PX.then_n (CT.seq (CT.seq (CT.region ?_))))
 refine Wl.q rfl rfl (OpQ.loadV (b := b2) K33_ag24 K33_sz24 rfl (by repeat (first | exact Has.here | apply Has.there)) (by rfl)) ?_
 refine Wl.know 9 (v' := evv v) rfl rfl ?_
 refine Wl.q rfl rfl (OpQ.move rfl) ?_
 refine Wl.g rfl rfl (OpG.callV K33_go32 rfl (fun w hH => exvalid_spec w v (hH.stays0 hv) 2)) ?_
 rintro _ _
 refine Wl.q rfl rfl (OpQ.assign rfl) ?_
 refine Wl.nil (PX.then_n (CT.seq (CT.region ?_)))
 refine Wl.q rfl rfl (OpQ.move rfl) ?_
 refine Wl.q rfl rfl (OpQ.neq rfl rfl) ?_
 refine Wl.nil (PX.then_n ?_)
 refine CT.cond rfl (fun h13 => ?_) (fun h13 => ?_)
 ·
  have h13 := of_nd_t h13
  refine CT.seq (CT.region ?_)
  refine Wl.q rfl rfl (OpQ.build (cells := #[.int .i64 0, .int .i64 0, .slice none 0 0, .slice none 0 0]) K33_pl30 rfl rfl) ?_
  refine Wl.q rfl rfl (OpQ.move rfl) ?_
  refine Wl.g rfl rfl (OpG.storeV (b := b4) K33_sz30 rfl rfl rfl rfl (by repeat (first | exact Upd.here | apply Upd.there))) ?_
  rintro _ _
  refine Wl.q rfl rfl (OpQ.assign rfl) ?_
  refine Wl.nil (PX.then_n (CT.ret (PX.then_r ?_)))
  refine PX.retC2 rfl rfl rfl (by repeat (first | exact Has.here | apply Has.there)) K33_ag30 K33_sz30 (by rfl) (fun w' hH => ?_)
  exact ⟨(dv0, [], vdE 2 (toE v)), ⟨.inl ⟨h13, rfl⟩, (fun h0 => absurd h0 h13), fun _ => rfl⟩, rfl, ((hH.bind0 (p := dvm dv0) dvm0).take (.cons .here .nil)).post⟩
 ·
  have h13 := of_nd_f h13
  have hs6 := simp_vd (vd26 h13)
  refine CT.skip (PX.then_n (CT.seq (CT.region ?_)))
  refine Wl.q rfl rfl (OpQ.loadV (b := b2) K33_ag24 K33_sz24 rfl (by repeat (first | exact Has.here | apply Has.there)) (by rfl)) ?_
  refine Wl.know 16 (v' := evv v) rfl rfl ?_
  refine Wl.g rfl rfl (OpG.callX K33_go21 rfl .nil (fun _ => (.cons .nil)) (fun w hH hp => normal_spec w v (hH.stays0 hv))) ?_
  rintro ⟨r17, bs17⟩ h17
  have h17 : toE r17 = simp (toE v) := by
   dsimp only at h17; rw [if_pos (vd26 h13)] at h17; exact h17
  refine Wl.q rfl rfl (OpQ.move rfl) ?_
  refine Wl.g rfl rfl (OpG.callX K33_go33 rfl .nil (fun _ => (.cons (.cons (.cons .nil)))) (fun w hH hp => begin_spec w r17 (fun w' he => ((hH.staysK0 (show Has _ (fx (AllM [v]) ([r17]) bs17) from (by repeat (first | exact Has.here | apply Has.there)))).frag w' he (((hH.stays0 hv).mono (fun w h => AllM.one.2 h)) w' he)) r17 List.mem_cons_self) (by rw [h17]; exact hs6))) ?_
  rintro ⟨b, m, a0, c0⟩ _
  refine Wl.q rfl rfl (OpQ.assign rfl) ?_
  refine Wl.nil (PX.then_n (CT.seq (CT.block ?_)))
  refine CT.nilrow 62 1 ?_
  refine CT.as (fun _ h => h.bind0 (p := rws []) (rws_nil)) ?_
  refine CT.as (fun _ h => h.take (.cons (.there (.there .here)) (.cons (.there (.there .here)) (.cons (.there (.there (.there .here))) (.cons (.there .here) (.cons .here (.cons .here (.cons .here (.cons .here .nil))))))))) ?_
  refine CT.loop (ι := Nat × List Xv × Option Addr × Nat × List Nat × Option Addr × Nat × List Rw × List Nat) (fun (i, vs, a, c, bs, na, nc, rs, gs) => DrM (simp (toE v)) vs rs i) (fun (i, vs, a, c, bs, na, nc, rs, gs) => [(4, .pointer (some ⟨b4, 0, none⟩)), (5, .int .i64 0), (7, .pointer (some ⟨b, 0, none⟩))]) (fun (i, vs, a, c, bs, na, nc, rs, gs) => [.row 68 5 (vb b) 1 [.int .i64 2, .slice a (vs).length c, .slice na (rs).length nc, .int .i64 ((i : Nat) : Int), .map (some m)], .row 24 3 (.slice a (vs).length c) (vs).length ((vs).flatMap evc), fx (AllM [v]) (vs) bs, .row 62 1 (.slice na (rs).length nc) (rs).length ((rs).map rv), .frag gs (rws rs), .blk m (mapO sv (itA 0 ((vs).map txk))), .row 30 4 (vb b4) 1 [.int .i64 0, .int .i64 0, .slice none 0 0, .slice none 0 0], .row 24 3 (vb b2) 1 (evc v)]) (fun (i, vs, a, c, bs, na, nc, rs, gs) => 512 - i) (0, [r17], a0, c0, bs17, none, 0, [], []) (DrM.start hs6 h17) ⟨rfl, rfl, rfl, trivial⟩ (HSub.refl _) (fun ⟨i, vs, a, c, bs, na, nc, rs, gs⟩ hM K0 hK0 => ?_)
  dsimp only
  dsimp only at hM
  refine CT.seq (CT.seq (CT.region ?_))
  refine Wl.q rfl rfl (OpQ.move rfl) ?_
  refine Wl.g rfl rfl (OpG.callX K33_go34 rfl (.cons .here .nil) (fun _ => (.cons .nil)) (fun w hH hp => rfin_spec w b (.int .i64 2) (.slice na rs.length nc) (.map (some m)) a vs.length c ((i : Nat) : Int) hp)) ?_
  rintro _ _
  refine Wl.q rfl rfl (OpQ.not rfl) ?_
  refine Wl.nil (PX.then_n ?_)
  refine CT.cond rfl (fun h22 => ?_) (fun h22 => ?_)
  ·
   have hlt : i < vs.length := by have h : ¬ ((i : Nat) : Int) = ((vs.length : Nat) : Int) := of_nd_t h22; have := hM.le; omega
   refine CT.skip (PX.then_n (CT.block (CT.seq (CT.region ?_))))
   refine Wl.q rfl rfl (OpQ.move rfl) ?_
   refine Wl.g rfl rfl (OpG.callX K33_go35 rfl (.cons .here (.cons .here (.cons .here (.cons .here (.cons .here (.cons .here .nil)))))) (fun _ => (.cons (.cons (.cons (.cons (.cons (.cons .nil))))))) (fun w hH hp => rproc_spec w b m (AllM [v]) (simp (toE v)) vs a c bs na nc rs gs i hp (hH.stays (hv.mono (fun w h => AllM.one.2 h)) (.cons .here (.cons .here (.cons .here (.cons .here (.cons .here (.cons .here .nil))))))) hM hlt)) ?_
   rintro ⟨vs2, a2, c2, bs2, na2, nc2, rs2, gs2, i2, er⟩ hp2
   dsimp only at hp2
   refine Wl.q rfl rfl (OpQ.assign rfl) ?_
   refine Wl.nil (PX.then_n (CT.seq (CT.region ?_)))
   refine Wl.q rfl rfl (OpQ.move rfl) ?_
   refine Wl.q rfl rfl (OpQ.neq rfl rfl) ?_
   refine Wl.nil (PX.then_n ?_)
   refine CT.cond rfl (fun h26 => ?_) (fun h26 => ?_)
   ·
    have h26 := of_nd_t h26
    obtain ⟨rfl, hbad⟩ := hp2.resolve_left (fun hh => h26 hh.1)
    refine CT.seq (CT.region ?_)
    refine Wl.q rfl rfl (OpQ.build (cells := #[.int .i64 0, .int .i64 0, .slice none 0 0, .slice none 0 0]) K33_pl30 rfl rfl) ?_
    refine Wl.q rfl rfl (OpQ.move rfl) ?_
    refine Wl.g rfl rfl (OpG.storeV (b := b4) K33_sz30 rfl rfl rfl rfl (by repeat (first | exact Upd.here | apply Upd.there))) ?_
    rintro _ _
    refine Wl.q rfl rfl (OpQ.assign rfl) ?_
    refine Wl.nil (PX.then_n (CT.ret (PX.block_r (PX.then_r (PX.block_r (PX.then_r ?_))))))
    refine PX.retC2 rfl rfl rfl (by repeat (first | exact Has.here | apply Has.there)) K33_ag30 K33_sz30 (by rfl) (fun w' hH => ?_)
    exact ⟨(dv0, [], 3), ⟨.inr ⟨h13, .inr ⟨rfl, hbad.out⟩⟩, (fun h0 => absurd h0 (by decide)), fun _ => rfl⟩, rfl, ((hH.bind0 (p := dvm dv0) dvm0).take (.cons .here .nil)).post⟩
   ·
    have h26 := of_nd_f h26
    obtain ⟨_, hM2, rfl⟩ := hp2.resolve_right (fun hh => by have h1 := hh.1; have h2 : er = 0 := h26; omega)
    refine CT.skip (PX.block_n ?_)
    exact PX.loop hK0 (i + 1, vs2, a2, c2, bs2, na2, nc2, rs2, gs2) hM2 (show 512 - (i + 1) < 512 - i by have := hM.vl; omega) ⟨rfl, rfl, rfl, trivial⟩ (HSub.refl _)
  ·
   have hii : i = vs.length := by have h : ((i : Nat) : Int) = ((vs.length : Nat) : Int) := of_nd_f h22; omega
   refine CT.exit (PX.then_x (PX.then_x (PX.block_x (PX.then_n (CT.seq (CT.region ?_))))))
   refine Wl.q rfl rfl (OpQ.move rfl) ?_
   refine Wl.g rfl rfl (OpG.callX K33_go36 rfl (.cons .here (.cons .here (.cons .here (.cons .here (.cons .here (.cons .here .nil)))))) (fun _ => (.cons .nil)) (fun w hH hp => rauto_spec w b m (AllM [v]) (simp (toE v)) vs a c bs na nc rs gs i hp (hH.stays (hv.mono (fun w h => AllM.one.2 h)) (.cons .here (.cons .here (.cons .here (.cons .here (.cons .here (.cons .here .nil))))))) hM hii)) ?_
   rintro ⟨D, gs3⟩ hIs
   dsimp only at hIs
   refine Wl.g rfl rfl (OpG.storeV (b := b4) K33_sz30 rfl rfl rfl rfl (by repeat (first | exact Upd.here | apply Upd.there))) ?_
   rintro _ _
   refine Wl.q rfl rfl (OpQ.assign rfl) ?_
   refine Wl.nil (PX.then_n (CT.ret ?_))
   refine PX.retC2 rfl rfl rfl (by repeat (first | exact Has.here | apply Has.there)) K33_ag30 K33_sz30 (by rfl) (fun w' hH => ?_)
   have hK := hM.done hii
   exact ⟨(D, gs3, 0), ⟨.inr ⟨h13, .inl ⟨rfl, i * 2, hM.dr, hK, hIs.da⟩⟩, fun _ => hIs.ok (autoD_ok hK _) ⟨by show 1 ≤ 2; omega, by show 2 ≤ 6; omega⟩ (by rw [autoD_n]; have := hM.dr.len; show (dS _ _).length ≤ _; omega), fun h => absurd rfl h⟩, rfl, (hH.take (.cons .here .nil)).post⟩

theorem K33_go6 : isGo Tryz.prog 6 = true := by kernel_rfl
theorem K33_go7 : isGo Tryz.prog 7 = true := by kernel_rfl
theorem K33_go17 : isGo Tryz.prog 17 = true := by kernel_rfl
theorem K33_go23 : isGo Tryz.prog 23 = true := by kernel_rfl
theorem K33_go22 : isGo Tryz.prog 22 = true := by kernel_rfl
theorem K33_go10 : isGo Tryz.prog 10 = true := by kernel_rfl
theorem K33_go13 : isGo Tryz.prog 13 = true := by kernel_rfl
set_option maxRecDepth 100000 in
set_option maxHeartbeats 4000000 in
/-- semigroup/semigrouptop.TopNormalForms -/
theorem TopNormalForms_spec (w : World) (v : Xv) (hv : Stays [] w (evm v)) (hT : Stays [] w Tab) : Calls Tryz.prog 5 #[evv v] w (fun e w' => e = .returned (.bool true) ∧ Ext [] w w') := by
 refine enter (args := [evv v]) [] 68 Tryz.func5 rfl rfl rfl ?_
 refine CT.seq (CT.region ?_)
 refine Wl.g rfl rfl (OpG.box (size := 3) rfl rfl rfl) ?_
 rintro b1 _
 refine Wl.q rfl rfl (OpQ.assign rfl) ?_
 refine Wl.nil (PX.then_n (CT.seq (CT.seq (CT.region ?_))))
 refine Wl.q rfl rfl (OpQ.loadV (b := b1) K33_ag24 K33_sz24 rfl (by repeat (first | exact Has.here | apply Has.there)) (by rfl)) ?_
 refine Wl.know 12 (v' := evv v) rfl rfl ?_
 refine Wl.g rfl rfl (OpG.callV K33_go6 rfl (fun w hH => little_spec w v (hH.stays0 hv) 11)) ?_
 rintro _ _
 refine Wl.q rfl rfl (OpQ.not rfl) ?_
 refine Wl.nil (PX.then_n ?_)
 refine CT.cond rfl (fun h14 => ?_) (fun h14 => ?_)
 ·
  refine CT.seq (CT.region ?_)
  refine Wl.g rfl rfl (OpG.callV K33_go7 rfl (fun w hH => awake_spec w (hH.stays0 hT))) ?_
  rintro _ _
  refine Wl.know 15 (v' := .bool true) rfl (congrArg Value.bool rfl) ?_
  refine Wl.q rfl rfl (OpQ.assign rfl) ?_
  refine Wl.nil (PX.then_n (CT.ret (PX.then_r ?_)))
  refine PX.ret1 rfl rfl (fun w' hH => ?_)
  exact ⟨rfl, hH.ext⟩
 ·
  have h14 := of_nd_f h14
  have hvd := h14.1
  obtain ⟨hf1, hf2, hf3, hf4⟩ := fmt_reads hvd
  refine CT.skip (PX.then_n (CT.seq (CT.region ?_)))
  refine Wl.q rfl rfl (OpQ.loadV (b := b1) K33_ag24 K33_sz24 rfl (by repeat (first | exact Has.here | apply Has.there)) (by rfl)) ?_
  refine Wl.know 17 (v' := evv v) rfl rfl ?_
  refine Wl.g rfl rfl (OpG.callX K33_go17 rfl .nil (fun _ => (.cons .nil)) (fun w hH hp => buildZ_spec w v (hH.stays0 hv))) ?_
  rintro ⟨D, ds, e1⟩ hD
  dsimp only at hD
  refine Wl.q rfl rfl (OpQ.move rfl) ?_
  refine Wl.q rfl rfl (OpQ.extract rfl rfl) ?_
  refine Wl.know 19 (v' := dvv D) rfl rfl ?_
  refine Wl.q rfl rfl (OpQ.extract rfl rfl) ?_
  refine Wl.know 20 (v' := .int .i64 e1) rfl rfl ?_
  refine Wl.g rfl rfl (OpG.alloc (zs := [.int .i64 0, .int .i64 0, .slice none 0 0, .slice none 0 0]) K33_in30 rfl rfl) ?_
  rintro b3 _
  refine Wl.g rfl rfl (OpG.storeV (b := b3) K33_sz30 rfl rfl rfl rfl (by repeat (first | exact Upd.here | apply Upd.there))) ?_
  rintro _ _
  refine Wl.q rfl rfl (OpQ.assign rfl) ?_
  refine Wl.nil (PX.then_n (CT.seq (CT.region ?_)))
  refine Wl.q rfl rfl (OpQ.loadV (b := b1) K33_ag24 K33_sz24 rfl (by repeat (first | exact Has.here | apply Has.there)) (by rfl)) ?_
  refine Wl.know 22 (v' := evv v) rfl rfl ?_
  refine Wl.g rfl rfl (OpG.callX K33_go21 rfl .nil (fun _ => (.cons .nil)) (fun w hH hp => normal_spec w v (hH.stays0 hv))) ?_
  rintro ⟨r, rb⟩ hr
  have hr : toE r = simp (toE v) := by
   dsimp only at hr; rw [if_pos (vd26 hvd)] at hr; exact hr
  have hrv : vdE 2 (toE r) = 0 := by rw [hr]; exact simp_vd2 hvd
  refine Wl.know 23 (v' := evv r) rfl rfl ?_
  refine Wl.g rfl rfl (OpG.callX K33_go17 rfl .nil (fun _ => (.cons .nil)) (fun w hH hp => buildZ_spec w r (fun w' he => ((hH.staysK0 (show Has _ (fx (AllM [v]) [r] rb) from (by repeat (first | exact Has.here | apply Has.there)))).frag w' he (AllM.one.2 ((hH.stays0 hv) w' he))) r List.mem_cons_self))) ?_
  rintro ⟨F, fs, e2⟩ hF
  dsimp only at hF
  refine Wl.q rfl rfl (OpQ.move rfl) ?_
  refine Wl.q rfl rfl (OpQ.extract rfl rfl) ?_
  refine Wl.know 25 (v' := dvv F) rfl rfl ?_
  refine Wl.q rfl rfl (OpQ.extract rfl rfl) ?_
  refine Wl.know 26 (v' := .int .i64 e2) rfl rfl ?_
  refine Wl.g rfl rfl (OpG.alloc (zs := [.int .i64 0, .int .i64 0, .slice none 0 0, .slice none 0 0]) K33_in30 rfl rfl) ?_
  rintro b5 _
  refine Wl.g rfl rfl (OpG.storeV (b := b5) K33_sz30 rfl rfl rfl rfl (by repeat (first | exact Upd.here | apply Upd.there))) ?_
  rintro _ _
  refine Wl.q rfl rfl (OpQ.assign rfl) ?_
  refine Wl.nil (PX.then_n (CT.seq (CT.region ?_)))
  refine Wl.q rfl rfl (OpQ.loadV (b := b1) K33_ag24 K33_sz24 rfl (by repeat (first | exact Has.here | apply Has.there)) (by rfl)) ?_
  refine Wl.know 28 (v' := evv v) rfl rfl ?_
  refine Wl.g rfl rfl (OpG.callV K33_go23 rfl (fun w hH => format_spec w v (hH.stays0 hv))) ?_
  rintro _ _
  refine Wl.know 29 (v' := sv (fmtE (toE v))) rfl (congrArg sv (if_pos (vd26 hvd))) ?_
  refine Wl.g rfl rfl (OpG.callX K33_go22 rfl .nil (fun _ => (.cons .nil)) (fun w hH hp => parse_spec w (fmtE (toE v)) hf1 _ hf2 (toE v) hf3 hf4)) ?_
  rintro ⟨p, pb⟩ hp
  have hp : toE p = toE v := hp
  refine Wl.q rfl rfl (OpQ.move rfl) ?_
  refine Wl.q rfl rfl (OpQ.extract rfl rfl) ?_
  refine Wl.know 31 (v' := evv p) rfl rfl ?_
  refine Wl.q rfl rfl (OpQ.extract rfl rfl) ?_
  refine Wl.know 32 (v' := .int .i64 0) rfl rfl ?_
  refine Wl.q rfl rfl (OpQ.extract rfl rfl) ?_
  refine Wl.know 33 (v' := .int .i64 0) rfl rfl ?_
  refine Wl.g rfl rfl (OpG.alloc (zs := [.int .i64 0, .int .i64 0, .slice none 0 0]) K33_in24 rfl rfl) ?_
  rintro b7 _
  refine Wl.g rfl rfl (OpG.storeV (b := b7) K33_sz24 rfl rfl rfl rfl (by repeat (first | exact Upd.here | apply Upd.there))) ?_
  rintro _ _
  refine Wl.q rfl rfl (OpQ.assign rfl) ?_
  refine Wl.q rfl rfl (OpQ.assign rfl) ?_
  refine Wl.nil (PX.then_n (CT.seq (CT.region ?_)))
  refine Wl.q rfl rfl (OpQ.loadV (b := b7) K33_ag24 K33_sz24 rfl (by repeat (first | exact Has.here | apply Has.there)) (by rfl)) ?_
  refine Wl.know 35 (v' := evv p) rfl rfl ?_
  refine Wl.g rfl rfl (OpG.callX K33_go17 rfl .nil (fun _ => (.cons .nil)) (fun w hH hp => buildZ_spec w p (fun w' he => AllM.one.1 ((hH.staysK0 (show Has _ (fx (AllM []) [p] pb) from (by repeat (first | exact Has.here | apply Has.there)))).frag w' he (AllM.nil w'))))) ?_
  rintro ⟨G, gs, e3⟩ hG
  dsimp only at hG
  refine Wl.q rfl rfl (OpQ.move rfl) ?_
  refine Wl.q rfl rfl (OpQ.extract rfl rfl) ?_
  refine Wl.know 37 (v' := dvv G) rfl rfl ?_
  refine Wl.q rfl rfl (OpQ.extract rfl rfl) ?_
  refine Wl.know 38 (v' := .int .i64 e3) rfl rfl ?_
  refine Wl.g rfl rfl (OpG.alloc (zs := [.int .i64 0, .int .i64 0, .slice none 0 0, .slice none 0 0]) K33_in30 rfl rfl) ?_
  rintro b10 _
  refine Wl.g rfl rfl (OpG.storeV (b := b10) K33_sz30 rfl rfl rfl rfl (by repeat (first | exact Upd.here | apply Upd.there))) ?_
  rintro _ _
  refine Wl.q rfl rfl (OpQ.assign rfl) ?_
  refine Wl.nil (PX.then_n (CT.seq (CT.region ?_)))
  have s1 := hD.same hF hvd hrv (by rw [hr]; exact (simp_simp (vd_wf2 hvd)).symm)
  have s2 := hD.same hG hvd (by rw [hp]; exact hvd) (by rw [hp])
  have r1 := hD.r.err hvd
  refine Wl.q rfl rfl (OpQ.move rfl) ?_
  refine Wl.g rfl rfl (OpG.callV K33_go10 rfl (fun w hH => lim_spec w _)) ?_
  rintro _ _
  refine Wl.know 40 (v' := .bool true) rfl (congrArg Value.bool (decide_eq_true r1)) ?_
  refine Wl.q rfl rfl (OpQ.move rfl) ?_
  refine Wl.q rfl rfl (OpQ.move rfl) ?_
  refine Wl.q rfl rfl (OpQ.move rfl) ?_
  refine Wl.q rfl rfl (OpQ.eql rfl rfl) ?_
  refine Wl.know 44 (v' := .bool true) rfl (congrArg Value.bool (decide_eq_true s1.1)) ?_
  refine Wl.q rfl rfl (OpQ.pickT rfl rfl) ?_
  refine Wl.q rfl rfl (OpQ.move rfl) ?_
  refine Wl.q rfl rfl (OpQ.move rfl) ?_
  refine Wl.q rfl rfl (OpQ.eql rfl rfl) ?_
  refine Wl.know 48 (v' := .bool true) rfl (congrArg Value.bool rfl) ?_
  refine Wl.q rfl rfl (OpQ.pickT rfl rfl) ?_
  refine Wl.q rfl rfl (OpQ.move rfl) ?_
  refine Wl.q rfl rfl (OpQ.move rfl) ?_
  refine Wl.q rfl rfl (OpQ.move rfl) ?_
  refine Wl.q rfl rfl (OpQ.eql rfl rfl) ?_
  refine Wl.know 53 (v' := .bool true) rfl (congrArg Value.bool (decide_eq_true s2.1.symm)) ?_
  refine Wl.q rfl rfl (OpQ.pickT rfl rfl) ?_
  refine Wl.q rfl rfl (OpQ.move rfl) ?_
  refine Wl.q rfl rfl (OpQ.loadV (b := b3) K33_ag30 K33_sz30 rfl (by repeat (first | exact Has.here | apply Has.there)) (by rfl)) ?_
  refine Wl.know 56 (v' := dvv D) rfl rfl ?_
  refine Wl.q rfl rfl (OpQ.loadV (b := b5) K33_ag30 K33_sz30 rfl (by repeat (first | exact Has.here | apply Has.there)) (by rfl)) ?_
  refine Wl.know 57 (v' := dvv F) rfl rfl ?_
  refine Wl.g rfl rfl (OpG.callV K33_go13 rfl (fun w hH => same_spec w D F (Stays.frag (hH.staysK0 (show Has _ (.frag ds (dvm D)) from (by repeat (first | exact Has.here | apply Has.there))))) (Stays.frag (hH.staysK0 (show Has _ (.frag fs (dvm F)) from (by repeat (first | exact Has.here | apply Has.there))))) hD.small.1 hD.small.2.1 hD.small.2.2)) ?_
  rintro _ _
  refine Wl.know 58 (v' := .bool true) rfl (congrArg Value.bool s1.2) ?_
  refine Wl.q rfl rfl (OpQ.pickT rfl rfl) ?_
  refine Wl.q rfl rfl (OpQ.move rfl) ?_
  refine Wl.q rfl rfl (OpQ.loadV (b := b3) K33_ag30 K33_sz30 rfl (by repeat (first | exact Has.here | apply Has.there)) (by rfl)) ?_
  refine Wl.know 61 (v' := dvv D) rfl rfl ?_
  refine Wl.q rfl rfl (OpQ.loadV (b := b10) K33_ag30 K33_sz30 rfl (by repeat (first | exact Has.here | apply Has.there)) (by rfl)) ?_
  refine Wl.know 62 (v' := dvv G) rfl rfl ?_
  refine Wl.g rfl rfl (OpG.callV K33_go13 rfl (fun w hH => same_spec w D G (Stays.frag (hH.staysK0 (show Has _ (.frag ds (dvm D)) from (by repeat (first | exact Has.here | apply Has.there))))) (Stays.frag (hH.staysK0 (show Has _ (.frag gs (dvm G)) from (by repeat (first | exact Has.here | apply Has.there))))) hD.small.1 hD.small.2.1 hD.small.2.2)) ?_
  rintro _ _
  refine Wl.know 63 (v' := .bool true) rfl (congrArg Value.bool s2.2) ?_
  refine Wl.q rfl rfl (OpQ.pickT rfl rfl) ?_
  refine Wl.q rfl rfl (OpQ.move rfl) ?_
  refine Wl.g rfl rfl (OpG.callV K33_go7 rfl (fun w hH => awake_spec w (hH.stays0 hT))) ?_
  rintro _ _
  refine Wl.know 66 (v' := .bool true) rfl (congrArg Value.bool rfl) ?_
  refine Wl.q rfl rfl (OpQ.pickT rfl rfl) ?_
  refine Wl.q rfl rfl (OpQ.assign rfl) ?_
  refine Wl.nil (PX.then_n (CT.ret ?_))
  refine PX.ret1 rfl rfl (fun w' hH => ?_)
  exact ⟨rfl, hH.ext⟩

end Go.Proofs.YtmggcdegekbncabGreatDoor

