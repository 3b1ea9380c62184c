/-
  What functions of the program compute, each by its walk. Conditions: those that each theorem names.
-/
import Derived.Test.YtmggcdegekbncaaGreatDoorEng1
import Derived.Test.YtmggcdegekbncaaGreatDoorXGA20
import Derived.Test.YtmggcdegekbncaaGreatDoorXF
set_option linter.unusedSimpArgs false
namespace Go.Proofs.YtmggcdegekbncaaGreatDoor
open Go Go.Eng Go.Am Go.Ex
open Go.Tp (zi)
open Go.Tl (mayL Wd okW okB bo)
open Go.Ex.simp (simpL)
open Go.Ex.dv (dvL dvC)
open Go.Ex.hasU (hasAny hasAll)
open Go.Ex.wf (wfL)
open Go.Ex.szE (szL)
open Go.Ex.dpE (dpL)
open Go.Ex.cmpE (cmpL)
open Go.Ex.fmtE (fmtK fmtR)
open Go.Rel (tz Tab tz_bound tz_load tz_lt)
theorem K21_in39 : (Tryz.prog.info? 39).map (fun i => (i.zero, i.size, i.bytes)) = some (some (.agg #[.int .i64 0, .int .i64 0, .slice none 0 0]), 3, 40) := by kernel_rfl
theorem K21_pl39 : placesB Tryz.prog 39 = some (#[.int .i64 0, .int .i64 0, .slice none 0 0], [(0, 1), (1, 1), (2, 1)]) := by kernel_rfl
theorem K21_sz39 : sizeB Tryz.prog 39 = some 3 := by kernel_rfl
theorem K21_ag39 : isAggB Tryz.prog 39 = some true := by kernel_rfl
set_option maxRecDepth 100000 in
/-- semigroup/semigrouptop.letter -/
theorem letter_spec (w : World) (x : Int) : Calls Tryz.prog 26 #[.int .i64 x] w (fun e w' => e = .returned (evv (lfv 3 x)) ∧ Ext [] w w') := by
 refine enter (args := [.int .i64 x]) [] 5 Tryz.func26 rfl rfl rfl ?_
 refine CT.seq (CT.region ?_)
 refine Wl.g rfl rfl (OpG.alloc (zs := [.int .i64 0, .int .i64 0, .slice none 0 0]) K21_in39 rfl rfl) ?_
 rintro b2 _
 refine Wl.nil (PX.then_n (CT.seq (CT.region ?_)))
 refine Wl.q rfl rfl (OpQ.move rfl) ?_
 refine Wl.q rfl rfl (OpQ.build (cells := #[.int .i64 3, _, .slice none 0 0]) K21_pl39 rfl rfl) ?_
 refine Wl.g rfl rfl (OpG.storeV (b := b2) K21_sz39 rfl rfl rfl rfl (by repeat (first | exact Upd.here | apply Upd.there))) ?_
 rintro _ _
 refine Wl.nil (PX.then_n (CT.ret ?_))
 refine PX.retC rfl rfl (by repeat (first | exact Has.here | apply Has.there)) K21_ag39 K21_sz39 (by rfl) (fun w' hH => ?_)
 exact ⟨rfl, hH.ext⟩

set_option maxRecDepth 100000 in
/-- semigroup/semigrouptop.node -/
theorem node_spec (w : World) (o : Int) (a : Option Addr) (n c : Nat) : Calls Tryz.prog 25 #[.int .i64 o, .slice a n c] w (fun e w' => e = .returned (.agg #[.int .i64 o, .int .i64 0, .slice a n c]) ∧ Ext [] w w') := by
 refine enter (args := [.int .i64 o, .slice a n c]) [] 8 Tryz.func25 rfl rfl rfl ?_
 refine CT.seq (CT.region ?_)
 refine Wl.g rfl rfl (OpG.alloc (zs := [.int .i64 0, .int .i64 0, .slice none 0 0]) K21_in39 rfl rfl) ?_
 rintro b4 _
 refine Wl.nil (PX.then_n (CT.seq (CT.region ?_)))
 refine Wl.q rfl rfl (OpQ.move rfl) ?_
 refine Wl.q rfl rfl (OpQ.move rfl) ?_
 refine Wl.q rfl rfl (OpQ.build (cells := #[_, .int .i64 0, _]) K21_pl39 rfl rfl) ?_
 refine Wl.g rfl rfl (OpG.storeV (b := b4) K21_sz39 rfl rfl rfl rfl (by repeat (first | exact Upd.here | apply Upd.there))) ?_
 rintro _ _
 refine Wl.nil (PX.then_n (CT.ret ?_))
 refine PX.retC rfl rfl (by repeat (first | exact Has.here | apply Has.there)) K21_ag39 K21_sz39 (by rfl) (fun w' hH => ?_)
 exact ⟨rfl, hH.ext⟩

theorem K21_un37 : Tryz.prog.underlying 37 = some (.slice 39) := by kernel_rfl
theorem K21_go26 : isGo Tryz.prog 26 = true := by kernel_rfl
theorem K21_go25 : isGo Tryz.prog 25 = true := by kernel_rfl
theorem K21_go24 : isGo Tryz.prog 24 = true := by kernel_rfl
theorem K21_in25 : (Tryz.prog.info? 25).map (fun i => (i.zero, i.size, i.bytes)) = some (some (.agg #[.int .i64 0, .int .i64 0, .slice none 0 0, .slice none 0 0]), 4, 64) := by kernel_rfl
theorem K21_sz25 : sizeB Tryz.prog 25 = some 4 := by kernel_rfl
theorem K21_ag25 : isAggB Tryz.prog 25 = some true := by kernel_rfl
theorem K21_go9 : isGo Tryz.prog 9 = true := by kernel_rfl
theorem K21_fs25 : fieldsB Tryz.prog 25 = some [(0, none), (1, none), (2, none), (3, none)] := by kernel_rfl
theorem K21_un22 : Tryz.prog.underlying 22 = some (.slice 4) := by kernel_rfl
theorem K21_go27 : isGo Tryz.prog 27 = true := by kernel_rfl
set_option maxRecDepth 100000 in
/-- semigroup/semigrouptop.awake -/
theorem awake_spec (w : World) (hT : Stays [] w Tab) : Calls Tryz.prog 8 #[] w (fun e w' => e = .returned (.bool true) ∧ Ext [] w w') := by
 refine enter (args := []) [] 26 Tryz.func8 rfl rfl rfl ?_
 refine CT.seq (CT.region ?_)
 refine Wl.q rfl rfl (OpQ.assign rfl) ?_
 refine Wl.nil (PX.then_n (CT.seq (CT.region ?_)))
 refine Wl.g rfl rfl (OpG.callV K21_go26 rfl (fun w hH => letter_spec w 0)) ?_
 rintro _ _
 refine Wl.g rfl rfl (OpG.callV K21_go26 rfl (fun w hH => letter_spec w 1)) ?_
 rintro _ _
 refine Wl.g rfl rfl (OpG.litS (vs := [.int .i64 3, .int .i64 0, .slice none 0 0, .int .i64 3, .int .i64 1, .slice none 0 0]) K21_un37 K21_in39 rfl (by decide) (by kernel_rfl) rfl) ?_
 rintro b6 _
 refine Wl.g rfl rfl (OpG.callV K21_go25 rfl (fun w hH => node_spec w 5 (some ⟨b6, 0, none⟩) 2 2)) ?_
 rintro _ _
 refine Wl.g rfl rfl (OpG.litS1 K21_un37 K21_in39 rfl (by decide) rfl) ?_
 rintro b8 _
 refine Wl.g rfl rfl (OpG.callV K21_go25 rfl (fun w hH => node_spec w 7 (some ⟨b8, 0, none⟩) 1 1)) ?_
 rintro _ _
 refine Wl.know 9 (v' := evv (abX b6 b8)) rfl rfl ?_
 refine Wl.g rfl rfl (OpG.callX K21_go24 rfl .nil (fun _ => (.cons .nil)) (fun w hH hp => build_spec w (abX b6 b8) (fun w' he => abX_m (Stays.rd (hH.staysK0 (show Has _ (.row 39 3 (.slice (some ⟨b6, 0, none⟩) 2 2) 2 ([lfv 3 0, lfv 3 1].flatMap evc)) from (by repeat (first | exact Has.here | apply Has.there)))) w' he) (Stays.rd (hH.staysK0 (show Has _ (.row 39 3 (.slice (some ⟨b8, 0, none⟩) 1 1) 1 ([(Xv.mk 5 0 (some ⟨b6, 0, none⟩) 2 [lfv 3 0, lfv 3 1])].flatMap evc)) from (by repeat (first | exact Has.here | apply Has.there)))) w' he)))) ?_
 rintro ⟨D, gs, er⟩ ⟨hB, hO⟩
 dsimp only at hB hO
 obtain ⟨rfl, hmin⟩ := ab_min hB
 have hO := hO rfl
 have hn := BuildR.n hB rfl
 refine Wl.q rfl rfl (OpQ.move rfl) ?_
 refine Wl.q rfl rfl (OpQ.extract rfl rfl) ?_
 refine Wl.know 11 (v' := dvv D) rfl rfl ?_
 refine Wl.q rfl rfl (OpQ.extract rfl rfl) ?_
 refine Wl.g rfl rfl (OpG.alloc (zs := [.int .i64 0, .int .i64 0, .slice none 0 0, .slice none 0 0]) K21_in25 rfl rfl) ?_
 rintro b1 _
 refine Wl.g rfl rfl (OpG.storeV (b := b1) K21_sz25 rfl rfl rfl rfl (by repeat (first | exact Upd.here | apply Upd.there))) ?_
 rintro _ _
 refine Wl.q rfl rfl (OpQ.assign rfl) ?_
 refine Wl.nil (PX.then_n (CT.seq (CT.region ?_)))
 refine Wl.q rfl rfl (OpQ.move rfl) ?_
 refine Wl.q rfl rfl (OpQ.eql rfl rfl) ?_
 refine Wl.know 14 (v' := .bool true) rfl (congrArg Value.bool rfl) ?_
 refine Wl.q rfl rfl (OpQ.move rfl) ?_
 refine Wl.q rfl rfl (OpQ.loadV (b := b1) K21_ag25 K21_sz25 rfl (by repeat (first | exact Has.here | apply Has.there)) (by rfl)) ?_
 refine Wl.know 16 (v' := dvv D) rfl rfl ?_
 refine Wl.g rfl rfl (OpG.callX K21_go9 rfl .nil (fun _ => (.cons .nil)) (fun w hH hp => minimize_spec w D (Stays.frag (hH.staysK0 (show Has _ (.frag gs (dvm D)) from (by repeat (first | exact Has.here | apply Has.there))))) hO hn)) ?_
 rintro ⟨M, ms⟩ ⟨hM, hMm⟩
 dsimp only at hM hMm
 have hM3 : M.fin.length = 3 := hmin M.da hMm
 refine Wl.q rfl rfl (OpQ.field K21_fs25 rfl rfl rfl) ?_
 refine Wl.q rfl rfl (OpQ.len K21_un22 rfl) ?_
 refine Wl.q rfl rfl (OpQ.eql rfl rfl) ?_
 refine Wl.know 20 (v' := .bool true) rfl (congrArg Value.bool (decide_eq_true (by rw [hM3]; rfl))) ?_
 refine Wl.q rfl rfl (OpQ.pickT rfl rfl) ?_
 refine Wl.q rfl rfl (OpQ.move rfl) ?_
 refine Wl.g rfl rfl (OpG.callV K21_go26 rfl (fun w hH => letter_spec w 0)) ?_
 rintro _ _
 refine Wl.g rfl rfl (OpG.callV K21_go27 rfl (fun w hH => match_spec w (hH.stays0 hT))) ?_
 rintro _ _
 refine Wl.know 24 (v' := .bool true) rfl (congrArg Value.bool rfl) ?_
 refine Wl.q rfl rfl (OpQ.pickT rfl rfl) ?_
 refine Wl.q rfl rfl (OpQ.assign rfl) ?_
 refine Wl.nil (PX.then_n (CT.ret ?_))
 refine PX.ret1 rfl rfl (fun w' hH => ?_)
 exact ⟨rfl, hH.ext⟩

theorem K21_go31 : isGo Tryz.prog 31 = true := by kernel_rfl
theorem K21_go32 : isGo Tryz.prog 32 = true := by kernel_rfl
set_option maxRecDepth 100000 in
/-- semigroup/semigrouptop.little -/
theorem little_spec (w : World) (v : Xv) (hv : Stays [] w (evm v)) (m : Int) : Calls Tryz.prog 14 #[evv v, .int .i64 m] w (fun e w' => e = .returned (.bool (decide (vdE 2 (toE v) = 0 ∧ ((szE (toE v) : Nat) : Int) ≤ m))) ∧ Ext [] w w') := by
 refine enter (args := [evv v, .int .i64 m]) [] 14 Tryz.func14 rfl rfl rfl ?_
 refine CT.seq (CT.region ?_)
 refine Wl.g rfl rfl (OpG.box (size := 3) rfl rfl rfl) ?_
 rintro b2 _
 refine Wl.q rfl rfl (OpQ.assign rfl) ?_
 refine Wl.nil (PX.then_n (CT.seq (CT.region ?_)))
 refine Wl.q rfl rfl (OpQ.loadV (b := b2) K21_ag39 K21_sz39 rfl (by repeat (first | exact Has.here | apply Has.there)) (by rfl)) ?_
 refine Wl.know 5 (v' := evv v) rfl rfl ?_
 refine Wl.g rfl rfl (OpG.callV K21_go31 rfl (fun w hH => valid4_spec w v (hH.stays0 hv) 2)) ?_
 rintro _ _
 refine Wl.q rfl rfl (OpQ.eql rfl rfl) ?_
 refine Wl.q rfl rfl (OpQ.move rfl) ?_
 refine Wl.split 8 rfl (fun hg8 => ?_) (fun hg8 => ?_)
 ·
  have hg8 := of_decide_eq_true hg8
  refine Wl.q rfl rfl (OpQ.loadV (b := b2) K21_ag39 K21_sz39 rfl (by repeat (first | exact Has.here | apply Has.there)) (by rfl)) ?_
  refine Wl.know 9 (v' := evv v) rfl rfl ?_
  refine Wl.g rfl rfl (OpG.callV K21_go32 rfl (fun w hH => size4_spec w v (hH.stays0 hv) (vdE_zero.1 hg8).2.1)) ?_
  rintro _ _
  refine Wl.q rfl rfl (OpQ.move rfl) ?_
  refine Wl.q rfl rfl (OpQ.leq rfl rfl) ?_
  refine Wl.q rfl rfl (OpQ.pickT rfl rfl) ?_
  refine Wl.q rfl rfl (OpQ.assign rfl) ?_
  refine Wl.nil (PX.then_n (CT.ret ?_))
  refine PX.ret1 rfl rfl (fun w' hH => ?_)
  exact ⟨congrArg (fun z => Ending.returned (Value.bool z)) (by rw [decide_eq_decide]; exact ⟨fun h => ⟨hg8, h⟩, fun h => h.2⟩), hH.ext⟩
 ·
  have hg8 := of_decide_eq_false hg8
  refine Wl.skip rfl rfl ?_
  refine Wl.skip rfl rfl ?_
  refine Wl.skip rfl rfl ?_
  refine Wl.skip rfl rfl ?_
  refine Wl.q rfl rfl (OpQ.pickF rfl rfl) ?_
  refine Wl.q rfl rfl (OpQ.assign rfl) ?_
  refine Wl.nil (PX.then_n (CT.ret ?_))
  refine PX.ret1 rfl rfl (fun w' hH => ?_)
  exact ⟨congrArg (fun z => Ending.returned (Value.bool z)) (decide_eq_false fun h => hg8 h.1).symm, hH.ext⟩

set_option maxRecDepth 100000 in
/-- semigroup/semigrouptop.limited -/
theorem lim_spec (w : World) (n : Int) : Calls Tryz.prog 17 #[.int .i64 n] w (fun e w' => e = .returned (.bool (decide (n = 0 ∨ n = 3))) ∧ Ext [] w w') := by
 refine enter (args := [.int .i64 n]) [] 9 Tryz.func17 rfl rfl rfl ?_
 refine CT.seq (CT.region ?_)
 refine Wl.q rfl rfl (OpQ.assign rfl) ?_
 refine Wl.nil (PX.then_n (CT.seq (CT.region ?_)))
 refine Wl.q rfl rfl (OpQ.move rfl) ?_
 refine Wl.q rfl rfl (OpQ.eql rfl rfl) ?_
 refine Wl.q rfl rfl (OpQ.move rfl) ?_
 refine Wl.split 5 rfl (fun hg5 => ?_) (fun hg5 => ?_)
 ·
  have hg5 := of_decide_eq_true hg5
  refine Wl.skip rfl rfl ?_
  refine Wl.skip rfl rfl ?_
  refine Wl.q rfl rfl (OpQ.pickT rfl rfl) ?_
  refine Wl.q rfl rfl (OpQ.assign rfl) ?_
  refine Wl.nil (PX.then_n (CT.ret ?_))
  refine PX.ret1 rfl rfl (fun w' hH => ?_)
  exact ⟨congrArg (fun z => Ending.returned (Value.bool z)) (decide_eq_true (.inl hg5)).symm, hH.ext⟩
 ·
  have hg5 := of_decide_eq_false hg5
  refine Wl.q rfl rfl (OpQ.move rfl) ?_
  refine Wl.q rfl rfl (OpQ.eql rfl rfl) ?_
  refine Wl.q rfl rfl (OpQ.pickF rfl rfl) ?_
  refine Wl.q rfl rfl (OpQ.assign rfl) ?_
  refine Wl.nil (PX.then_n (CT.ret ?_))
  refine PX.ret1 rfl rfl (fun w' hH => ?_)
  exact ⟨congrArg (fun z => Ending.returned (Value.bool z)) (by rw [decide_eq_decide]; exact ⟨fun h => .inr h, fun h => h.resolve_left hg5⟩), hH.ext⟩

theorem K21_pl25 : placesB Tryz.prog 25 = some (#[.int .i64 0, .int .i64 0, .slice none 0 0, .slice none 0 0], [(0, 1), (1, 1), (2, 1), (3, 1)]) := by kernel_rfl
set_option maxRecDepth 100000 in
/-- semigroup/semigrouptop.built -/
theorem built_spec (w : World) (v : Xv) (hv : Stays [] w (evm v)) : Calls Tryz.prog 16 #[evv v] w (fun e w' => ∃ z : Dv × List Nat × Int, BuiltR (toE v) z.1 z.2.2 ∧ e = .returned (.tuple #[dvv z.1, .int .i64 z.2.2]) ∧ Post [] [.frag z.2.1 (dvm z.1)] w w') := by
 refine enter (args := [evv v]) [] 17 Tryz.func16 rfl rfl rfl ?_
 refine CT.seq (CT.region ?_)
 refine Wl.g rfl rfl (OpG.box (size := 3) rfl rfl rfl) ?_
 rintro b1 _
 refine Wl.g rfl rfl (OpG.alloc (zs := [.int .i64 0, .int .i64 0, .slice none 0 0, .slice none 0 0]) K21_in25 rfl rfl) ?_
 rintro b2 _
 refine Wl.q rfl rfl (OpQ.assign rfl) ?_
 refine Wl.nil (PX.then_n (CT.seq (CT.region ?_)))
 refine Wl.q rfl rfl (OpQ.loadV (b := b1) K21_ag39 K21_sz39 rfl (by repeat (first | exact Has.here | apply Has.there)) (by rfl)) ?_
 refine Wl.know 7 (v' := evv v) rfl rfl ?_
 refine Wl.g rfl rfl (OpG.callX K21_go24 rfl .nil (fun _ => (.cons .nil)) (fun w hH hp => build_spec w v (hH.stays0 hv))) ?_
 rintro ⟨D, gs, er⟩ ⟨hB, hO⟩
 dsimp only at hB hO
 refine Wl.q rfl rfl (OpQ.move rfl) ?_
 refine Wl.q rfl rfl (OpQ.extract rfl rfl) ?_
 refine Wl.know 9 (v' := dvv D) rfl rfl ?_
 refine Wl.q rfl rfl (OpQ.extract rfl rfl) ?_
 refine Wl.g rfl rfl (OpG.alloc (zs := [.int .i64 0, .int .i64 0, .slice none 0 0, .slice none 0 0]) K21_in25 rfl rfl) ?_
 rintro b4 _
 refine Wl.g rfl rfl (OpG.storeV (b := b4) K21_sz25 rfl rfl rfl rfl (by repeat (first | exact Upd.here | apply Upd.there))) ?_
 rintro _ _
 refine Wl.q rfl rfl (OpQ.assign rfl) ?_
 refine Wl.nil (PX.then_n (CT.seq (CT.seq (CT.region ?_))))
 refine Wl.q rfl rfl (OpQ.move rfl) ?_
 refine Wl.q rfl rfl (OpQ.neq rfl rfl) ?_
 refine Wl.nil (PX.then_n ?_)
 refine CT.cond rfl (fun h12 => ?_) (fun h12 => ?_)
 ·
  have h12 := of_nd_t h12
  refine CT.seq (CT.region ?_)
  refine Wl.q rfl rfl (OpQ.build (cells := #[.int .i64 0, .int .i64 0, .slice none 0 0, .slice none 0 0]) K21_pl25 rfl rfl) ?_
  refine Wl.q rfl rfl (OpQ.move rfl) ?_
  refine Wl.g rfl rfl (OpG.storeV (b := b2) K21_sz25 rfl rfl rfl rfl (by repeat (first | exact Upd.here | apply Upd.there))) ?_
  rintro _ _
  refine Wl.q rfl rfl (OpQ.assign rfl) ?_
  refine Wl.nil (PX.then_n (CT.ret (PX.then_r ?_)))
  refine PX.retC2 rfl rfl rfl (by repeat (first | exact Has.here | apply Has.there)) K21_ag25 K21_sz25 (by rfl) (fun w' hH => ?_)
  exact ⟨(dv0, [], er), ⟨D.da, hB, fun h0 => absurd h0 h12⟩, rfl, ((hH.bind0 (p := dvm dv0) dvm0).take (.cons .here .nil)).post⟩
 ·
  have h12 := of_nd_f h12
  obtain rfl : er = 0 := h12
  have hO := hO rfl
  have hn := BuildR.n hB rfl
  refine CT.skip (PX.then_n (CT.seq (CT.region ?_)))
  refine Wl.q rfl rfl (OpQ.loadV (b := b4) K21_ag25 K21_sz25 rfl (by repeat (first | exact Has.here | apply Has.there)) (by rfl)) ?_
  refine Wl.know 15 (v' := dvv D) rfl rfl ?_
  refine Wl.g rfl rfl (OpG.callX K21_go9 rfl .nil (fun _ => (.cons .nil)) (fun w hH hp => minimize_spec w D (Stays.frag (hH.staysK0 (show Has _ (.frag gs (dvm D)) from (by repeat (first | exact Has.here | apply Has.there))))) hO hn)) ?_
  rintro ⟨M, ms⟩ ⟨hM, hMm⟩
  dsimp only at hM hMm
  refine Wl.g rfl rfl (OpG.storeV (b := b2) K21_sz25 rfl rfl rfl rfl (by repeat (first | exact Upd.here | apply Upd.there))) ?_
  rintro _ _
  refine Wl.q rfl rfl (OpQ.assign rfl) ?_
  refine Wl.nil (PX.then_n (CT.ret ?_))
  refine PX.retC2 rfl rfl rfl (by repeat (first | exact Has.here | apply Has.there)) K21_ag25 K21_sz25 (by rfl) (fun w' hH => ?_)
  exact ⟨(M, ms, 0), ⟨D.da, hB, fun _ => ⟨hM, Nat.le_trans (min_n hO hMm) hn, hMm⟩⟩, rfl, (hH.take (.cons .here .nil)).post⟩

theorem K21_go11 : isGo Tryz.prog 11 = true := by kernel_rfl
set_option maxRecDepth 100000 in
/-- semigroup/lang.minimal -/
theorem lmin_spec (w : World) (D : Dv) (hD : Stays [] w (dvm D)) (hv : D.Ok) (h5 : D.fin.length ≤ 512) : Calls Tryz.prog 29 #[dvv D] w (fun e w' => ∃ z : Dv × List Nat, (z.1.Ok ∧ IsMin D.da.L D.da.sy D.da.s z.1.da) ∧ e = .returned (.tuple #[dvv z.1, .int .i64 0]) ∧ Post [] [.frag z.2 (dvm z.1)] w w') := by
 refine enter (args := [dvv D]) [] 13 Tryz.func29 rfl rfl rfl ?_
 refine CT.seq (CT.region ?_)
 refine Wl.g rfl rfl (OpG.box (size := 4) rfl rfl rfl) ?_
 rintro b1 _
 refine Wl.g rfl rfl (OpG.alloc (zs := [.int .i64 0, .int .i64 0, .slice none 0 0, .slice none 0 0]) K21_in25 rfl rfl) ?_
 rintro b2 _
 refine Wl.q rfl rfl (OpQ.assign rfl) ?_
 refine Wl.nil (PX.then_n (CT.seq (CT.seq (CT.region ?_))))
 refine Wl.q rfl rfl (OpQ.loadV (b := b1) K21_ag25 K21_sz25 rfl (by repeat (first | exact Has.here | apply Has.there)) (by rfl)) ?_
 refine Wl.know 5 (v' := dvv D) rfl rfl ?_
 refine Wl.g rfl rfl (OpG.callV K21_go11 rfl (fun w hH => dvalid_spec w D (hH.stays0 hD))) ?_
 rintro _ _
 refine Wl.know 6 (v' := .int .i64 0) rfl (congrArg (Value.int .i64) (hv.zero h5)) ?_
 refine Wl.q rfl rfl (OpQ.assign rfl) ?_
 refine Wl.nil (PX.then_n (CT.seq (CT.region ?_)))
 refine Wl.q rfl rfl (OpQ.move rfl) ?_
 refine Wl.q rfl rfl (OpQ.neq rfl rfl) ?_
 refine Wl.know 8 (v' := .bool false) rfl (congrArg Value.bool rfl) ?_
 refine Wl.nil (PX.then_n ?_)
 refine CT.condF rfl ?_
 refine CT.skip (PX.then_n (CT.seq (CT.region ?_)))
 refine Wl.q rfl rfl (OpQ.loadV (b := b1) K21_ag25 K21_sz25 rfl (by repeat (first | exact Has.here | apply Has.there)) (by rfl)) ?_
 refine Wl.know 11 (v' := dvv D) rfl rfl ?_
 refine Wl.g rfl rfl (OpG.callX K21_go9 rfl .nil (fun _ => (.cons .nil)) (fun w hH hp => minimize_spec w D (hH.stays0 hD) hv h5)) ?_
 rintro ⟨M, ms⟩ hM
 refine Wl.g rfl rfl (OpG.storeV (b := b2) K21_sz25 rfl rfl rfl rfl (by repeat (first | exact Upd.here | apply Upd.there))) ?_
 rintro _ _
 refine Wl.q rfl rfl (OpQ.assign rfl) ?_
 refine Wl.nil (PX.then_n (CT.ret ?_))
 refine PX.retC2 rfl rfl rfl (by repeat (first | exact Has.here | apply Has.there)) K21_ag25 K21_sz25 (by rfl) (fun w' hH => ?_)
 exact ⟨(M, ms), hM, rfl, (hH.take (.cons .here .nil)).post⟩

theorem K21_go29 : isGo Tryz.prog 29 = true := by kernel_rfl
theorem K21_fa25_0 : fieldB Tryz.prog 25 0 = some 0 := by kernel_rfl
theorem K21_sc3 : scalarB Tryz.prog 3 = some true := by kernel_rfl
theorem K21_go30 : isGo Tryz.prog 30 = true := by kernel_rfl
theorem K21_fa25_1 : fieldB Tryz.prog 25 1 = some 1 := by kernel_rfl
theorem K21_go13 : isGo Tryz.prog 13 = true := by kernel_rfl
theorem K21_sz3 : sizeB Tryz.prog 3 = some 1 := by kernel_rfl
set_option maxRecDepth 100000 in
/-- semigroup/lang.LeftQuotient -/
theorem lquot_spec (w : World) (D : Dv) (hD : Stays [] w (dvm D)) (hv : D.Ok) (h5 : D.fin.length ≤ 512) (ws : Wd) (hws : okW ws D.L = true) (hn : ws.length ≤ 9223372036854775807) : Calls Tryz.prog 10 #[dvv D, sv ws] w (fun e w' => ∃ z : Dv × List Nat, (z.1.Ok ∧ z.1.fin.length ≤ 512 ∧ IsMin D.da.L D.da.sy (D.da.sy.run D.da.s (wl ws)) z.1.da) ∧ e = .returned (.tuple #[dvv z.1, .int .i64 0]) ∧ Post [] [.frag z.2 (dvm z.1)] w w') := by
 refine enter (args := [dvv D, sv ws]) [] 31 Tryz.func10 rfl rfl rfl ?_
 refine CT.seq (CT.region ?_)
 refine Wl.g rfl rfl (OpG.box (size := 4) rfl rfl rfl) ?_
 rintro b2 _
 refine Wl.g rfl rfl (OpG.alloc (zs := [.int .i64 0, .int .i64 0, .slice none 0 0, .slice none 0 0]) K21_in25 rfl rfl) ?_
 rintro b4 _
 refine Wl.q rfl rfl (OpQ.assign rfl) ?_
 refine Wl.nil (PX.then_n (CT.seq (CT.region ?_)))
 refine Wl.q rfl rfl (OpQ.loadV (b := b2) K21_ag25 K21_sz25 rfl (by repeat (first | exact Has.here | apply Has.there)) (by rfl)) ?_
 refine Wl.know 9 (v' := dvv D) rfl rfl ?_
 refine Wl.g rfl rfl (OpG.callX K21_go29 rfl .nil (fun _ => (.cons .nil)) (fun w hH hp => lmin_spec w D (hH.stays0 hD) hv h5)) ?_
 rintro ⟨M, ms⟩ ⟨hM, hMm⟩
 dsimp only at hM hMm
 have hMn := Nat.le_trans (min_n hv hMm) h5
 have hML : M.L = D.L := by rw [hM.L_eq, hv.L_eq, hMm.letters]
 have hin := wl_in hws
 have hin2 : InW M.da.L (wl ws) := by rw [hMm.letters]; exact hin
 have hst : M.da.s < M.fin.length := hM.daOk.st
 have hq : (M.da.sy.run M.da.s (wl ws)) < M.fin.length := hM.daOk.run_lt hin2 hst
 refine Wl.q rfl rfl (OpQ.move rfl) ?_
 refine Wl.q rfl rfl (OpQ.extract rfl rfl) ?_
 refine Wl.know 11 (v' := dvv M) rfl rfl ?_
 refine Wl.q rfl rfl (OpQ.extract rfl rfl) ?_
 refine Wl.know 12 (v' := .int .i64 0) rfl rfl ?_
 refine Wl.g rfl rfl (OpG.alloc (zs := [.int .i64 0, .int .i64 0, .slice none 0 0, .slice none 0 0]) K21_in25 rfl rfl) ?_
 rintro b6 _
 refine Wl.g rfl rfl (OpG.storeV (b := b6) K21_sz25 rfl rfl rfl rfl (by repeat (first | exact Upd.here | apply Upd.there))) ?_
 rintro _ _
 refine Wl.q rfl rfl (OpQ.assign rfl) ?_
 refine Wl.nil (PX.then_n (CT.seq (CT.seq (CT.region ?_))))
 refine Wl.q rfl rfl (OpQ.move rfl) ?_
 refine Wl.q rfl rfl (OpQ.neq rfl rfl) ?_
 refine Wl.know 14 (v' := .bool false) rfl (congrArg Value.bool rfl) ?_
 refine Wl.nil (PX.then_n ?_)
 refine CT.condF rfl ?_
 refine CT.skip (PX.then_n (CT.seq (CT.seq (CT.region ?_))))
 refine Wl.q rfl rfl (OpQ.move rfl) ?_
 refine Wl.q rfl rfl (OpQ.fieldAddr K21_fa25_0 rfl) ?_
 refine Wl.q rfl rfl (OpQ.loadF (b := b2) K21_sc3 rfl (by repeat (first | exact Has.here | apply Has.there)) (by rfl)) ?_
 refine Wl.g rfl rfl (OpG.callV K21_go30 rfl (fun w hH => wvalid_spec w ws hn D.L)) ?_
 rintro _ _
 refine Wl.know 20 (v' := .bool true) rfl (congrArg Value.bool hws) ?_
 refine Wl.q rfl rfl (OpQ.not rfl) ?_
 refine Wl.know 21 (v' := .bool false) rfl (congrArg Value.bool rfl) ?_
 refine Wl.nil (PX.then_n ?_)
 refine CT.condF rfl ?_
 refine CT.skip (PX.then_n (CT.seq (CT.region ?_)))
 refine Wl.q rfl rfl (OpQ.loadV (b := b6) K21_ag25 K21_sz25 rfl (by repeat (first | exact Has.here | apply Has.there)) (by rfl)) ?_
 refine Wl.know 23 (v' := dvv M) rfl rfl ?_
 refine Wl.q rfl rfl (OpQ.fieldAddr K21_fa25_1 rfl) ?_
 refine Wl.q rfl rfl (OpQ.loadF (b := b6) K21_sc3 rfl (by repeat (first | exact Has.here | apply Has.there)) (by rfl)) ?_
 refine Wl.know 25 (v' := .int .i64 ((M.da.s : Nat) : Int)) rfl (congrArg (Value.int .i64) hM.s_eq) ?_
 refine Wl.q rfl rfl (OpQ.move rfl) ?_
 refine Wl.g rfl rfl (OpG.callV K21_go13 rfl (fun w hH => drun_spec w M (Stays.frag (hH.staysK0 (show Has _ (.frag ms (dvm M)) from (by repeat (first | exact Has.here | apply Has.there))))) hM hMn M.da.s hst ws (by rw [hML]; exact hws))) ?_
 rintro _ _
 refine Wl.q rfl rfl (OpQ.fieldAddr K21_fa25_1 rfl) ?_
 refine Wl.g rfl rfl (OpG.storeRow (a := some ⟨b6, 0, none⟩) K21_sz3 rfl rfl rfl (by repeat (first | exact Upd.here | apply Upd.there)) (by simp)) ?_
 rintro _ _
 refine Wl.nil (PX.then_n (CT.seq (CT.region ?_)))
 refine Wl.q rfl rfl (OpQ.loadV (b := b6) K21_ag25 K21_sz25 rfl (by repeat (first | exact Has.here | apply Has.there)) (by rfl)) ?_
 refine Wl.know 29 (v' := dvv (M.re (M.da.sy.run M.da.s (wl ws)))) rfl rfl ?_
 refine Wl.g rfl rfl (OpG.callX K21_go9 rfl .nil (fun _ => (.cons .nil)) (fun w hH hp => minimize_spec w (M.re (M.da.sy.run M.da.s (wl ws))) (Stays.frag (hH.staysK0 (show Has _ (.frag ms (dvm M)) from (by repeat (first | exact Has.here | apply Has.there))))) (hM.re hq) hMn)) ?_
 rintro ⟨Q, qs⟩ ⟨hQ, hQm⟩
 dsimp only at hQ hQm
 refine Wl.g rfl rfl (OpG.storeV (b := b4) K21_sz25 rfl rfl rfl rfl (by repeat (first | exact Upd.here | apply Upd.there))) ?_
 rintro _ _
 refine Wl.q rfl rfl (OpQ.assign rfl) ?_
 refine Wl.nil (PX.then_n (CT.ret ?_))
 refine PX.retC2 rfl rfl rfl (by repeat (first | exact Has.here | apply Has.there)) K21_ag25 K21_sz25 (by rfl) (fun w' hH => ?_)
 exact ⟨(Q, qs), ⟨hQ, Nat.le_trans (min_n (hM.re hq) hQm) hMn, lq_min hMm hin hQm⟩, rfl, (hH.take (.cons .here .nil)).post⟩

end Go.Proofs.YtmggcdegekbncaaGreatDoor

