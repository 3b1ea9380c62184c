/-
  What functions of the program compute, each by its walk. Conditions: those that each theorem names.
-/
import Derived.Test.YtmggcdegekbncabGreatDoorEng1
import Derived.Test.YtmggcdegekbncabGreatDoorXGB20
import Derived.Test.YtmggcdegekbncabGreatDoorXF
set_option linter.unusedSimpArgs false
namespace Go.Proofs.YtmggcdegekbncabGreatDoor
open Go Go.Eng Go.Am Go.Ex
open Go.Tp (zi)
open Go.Tl (mayL Wd okW okB bo)
open Go.Ex.simp (simpL)
open Go.Ex.dv (dvL dvC)
open Go.Ex.hasU (hasAny hasAll)
open Go.Ex.wf (wfL)
open Go.Ex.szE (szL)
open Go.Ex.dpE (dpL)
open Go.Ex.cmpE (cmpL)
open Go.Ex.fmtE (fmtK fmtR)
open Go.Rel (tz Tab tz_bound tz_load tz_lt)
theorem K21_in24 : (Tryz.prog.info? 24).map (fun i => (i.zero, i.size, i.bytes)) = some (some (.agg #[.int .i64 0, .int .i64 0, .slice none 0 0]), 3, 40) := by kernel_rfl
theorem K21_pl24 : placesB Tryz.prog 24 = some (#[.int .i64 0, .int .i64 0, .slice none 0 0], [(0, 1), (1, 1), (2, 1)]) := by kernel_rfl
theorem K21_sz24 : sizeB Tryz.prog 24 = some 3 := by kernel_rfl
theorem K21_ag24 : isAggB Tryz.prog 24 = some true := by kernel_rfl
set_option maxRecDepth 100000 in
/-- semigroup/semigrouptop.letter -/
theorem letter_spec (w : World) (x : Int) : Calls Tryz.prog 26 #[.int .i64 x] w (fun e w' => e = .returned (evv (lfv 3 x)) ∧ Ext [] w w') := by
 refine enter (args := [.int .i64 x]) [] 5 Tryz.func26 rfl rfl rfl ?_
 refine CT.seq (CT.region ?_)
 refine Wl.g rfl rfl (OpG.alloc (zs := [.int .i64 0, .int .i64 0, .slice none 0 0]) K21_in24 rfl rfl) ?_
 rintro b2 _
 refine Wl.nil (PX.then_n (CT.seq (CT.region ?_)))
 refine Wl.q rfl rfl (OpQ.move rfl) ?_
 refine Wl.q rfl rfl (OpQ.build (cells := #[.int .i64 3, _, .slice none 0 0]) K21_pl24 rfl rfl) ?_
 refine Wl.g rfl rfl (OpG.storeV (b := b2) K21_sz24 rfl rfl rfl rfl (by repeat (first | exact Upd.here | apply Upd.there))) ?_
 rintro _ _
 refine Wl.nil (PX.then_n (CT.ret ?_))
 refine PX.retC rfl rfl (by repeat (first | exact Has.here | apply Has.there)) K21_ag24 K21_sz24 (by rfl) (fun w' hH => ?_)
 exact ⟨rfl, hH.ext⟩

set_option maxRecDepth 100000 in
/-- semigroup/semigrouptop.node -/
theorem node_spec (w : World) (o : Int) (a : Option Addr) (n c : Nat) : Calls Tryz.prog 9 #[.int .i64 o, .slice a n c] w (fun e w' => e = .returned (.agg #[.int .i64 o, .int .i64 0, .slice a n c]) ∧ Ext [] w w') := by
 refine enter (args := [.int .i64 o, .slice a n c]) [] 8 Tryz.func9 rfl rfl rfl ?_
 refine CT.seq (CT.region ?_)
 refine Wl.g rfl rfl (OpG.alloc (zs := [.int .i64 0, .int .i64 0, .slice none 0 0]) K21_in24 rfl rfl) ?_
 rintro b4 _
 refine Wl.nil (PX.then_n (CT.seq (CT.region ?_)))
 refine Wl.q rfl rfl (OpQ.move rfl) ?_
 refine Wl.q rfl rfl (OpQ.move rfl) ?_
 refine Wl.q rfl rfl (OpQ.build (cells := #[_, .int .i64 0, _]) K21_pl24 rfl rfl) ?_
 refine Wl.g rfl rfl (OpG.storeV (b := b4) K21_sz24 rfl rfl rfl rfl (by repeat (first | exact Upd.here | apply Upd.there))) ?_
 rintro _ _
 refine Wl.nil (PX.then_n (CT.ret ?_))
 refine PX.retC rfl rfl (by repeat (first | exact Has.here | apply Has.there)) K21_ag24 K21_sz24 (by rfl) (fun w' hH => ?_)
 exact ⟨rfl, hH.ext⟩

theorem K21_un22 : Tryz.prog.underlying 22 = some (.slice 24) := by kernel_rfl
theorem K21_go26 : isGo Tryz.prog 26 = true := by kernel_rfl
theorem K21_go9 : isGo Tryz.prog 9 = true := by kernel_rfl
theorem K21_go17 : isGo Tryz.prog 17 = true := by kernel_rfl
theorem K21_in30 : (Tryz.prog.info? 30).map (fun i => (i.zero, i.size, i.bytes)) = some (some (.agg #[.int .i64 0, .int .i64 0, .slice none 0 0, .slice none 0 0]), 4, 64) := by kernel_rfl
theorem K21_sz30 : sizeB Tryz.prog 30 = some 4 := by kernel_rfl
theorem K21_ag30 : isAggB Tryz.prog 30 = some true := by kernel_rfl
theorem K21_go14 : isGo Tryz.prog 14 = true := by kernel_rfl
theorem K21_fs30 : fieldsB Tryz.prog 30 = some [(0, none), (1, none), (2, none), (3, none)] := by kernel_rfl
theorem K21_un27 : Tryz.prog.underlying 27 = some (.slice 4) := by kernel_rfl
theorem K21_go27 : isGo Tryz.prog 27 = true := by kernel_rfl
set_option maxRecDepth 100000 in
/-- semigroup/semigrouptop.awake -/
theorem awake_spec (w : World) (hT : Stays [] w Tab) : Calls Tryz.prog 7 #[] w (fun e w' => e = .returned (.bool true) ∧ Ext [] w w') := by
 refine enter (args := []) [] 26 Tryz.func7 rfl rfl rfl ?_
 refine CT.seq (CT.region ?_)
 refine Wl.q rfl rfl (OpQ.assign rfl) ?_
 refine Wl.nil (PX.then_n (CT.seq (CT.region ?_)))
 refine Wl.g rfl rfl (OpG.callV K21_go26 rfl (fun w hH => letter_spec w 0)) ?_
 rintro _ _
 refine Wl.g rfl rfl (OpG.callV K21_go26 rfl (fun w hH => letter_spec w 1)) ?_
 rintro _ _
 refine Wl.g rfl rfl (OpG.litS (vs := [.int .i64 3, .int .i64 0, .slice none 0 0, .int .i64 3, .int .i64 1, .slice none 0 0]) K21_un22 K21_in24 rfl (by decide) (by kernel_rfl) rfl) ?_
 rintro b6 _
 refine Wl.g rfl rfl (OpG.callV K21_go9 rfl (fun w hH => node_spec w 5 (some ⟨b6, 0, none⟩) 2 2)) ?_
 rintro _ _
 refine Wl.g rfl rfl (OpG.litS1 K21_un22 K21_in24 rfl (by decide) rfl) ?_
 rintro b8 _
 refine Wl.g rfl rfl (OpG.callV K21_go9 rfl (fun w hH => node_spec w 7 (some ⟨b8, 0, none⟩) 1 1)) ?_
 rintro _ _
 refine Wl.know 9 (v' := evv (abX b6 b8)) rfl rfl ?_
 refine Wl.g rfl rfl (OpG.callX K21_go17 rfl .nil (fun _ => (.cons .nil)) (fun w hH hp => build_spec w (abX b6 b8) (fun w' he => abX_m (Stays.rd (hH.staysK0 (show Has _ (.row 24 3 (.slice (some ⟨b6, 0, none⟩) 2 2) 2 ([lfv 3 0, lfv 3 1].flatMap evc)) from (by repeat (first | exact Has.here | apply Has.there)))) w' he) (Stays.rd (hH.staysK0 (show Has _ (.row 24 3 (.slice (some ⟨b8, 0, none⟩) 1 1) 1 ([(Xv.mk 5 0 (some ⟨b6, 0, none⟩) 2 [lfv 3 0, lfv 3 1])].flatMap evc)) from (by repeat (first | exact Has.here | apply Has.there)))) w' he)))) ?_
 rintro ⟨D, gs, er⟩ ⟨hB, hO⟩
 dsimp only at hB hO
 obtain ⟨rfl, hmin⟩ := ab_min hB
 have hO := hO rfl
 have hn := BuildR.n hB rfl
 refine Wl.q rfl rfl (OpQ.move rfl) ?_
 refine Wl.q rfl rfl (OpQ.extract rfl rfl) ?_
 refine Wl.know 11 (v' := dvv D) rfl rfl ?_
 refine Wl.q rfl rfl (OpQ.extract rfl rfl) ?_
 refine Wl.g rfl rfl (OpG.alloc (zs := [.int .i64 0, .int .i64 0, .slice none 0 0, .slice none 0 0]) K21_in30 rfl rfl) ?_
 rintro b1 _
 refine Wl.g rfl rfl (OpG.storeV (b := b1) K21_sz30 rfl rfl rfl rfl (by repeat (first | exact Upd.here | apply Upd.there))) ?_
 rintro _ _
 refine Wl.q rfl rfl (OpQ.assign rfl) ?_
 refine Wl.nil (PX.then_n (CT.seq (CT.region ?_)))
 refine Wl.q rfl rfl (OpQ.move rfl) ?_
 refine Wl.q rfl rfl (OpQ.eql rfl rfl) ?_
 refine Wl.know 14 (v' := .bool true) rfl (congrArg Value.bool rfl) ?_
 refine Wl.q rfl rfl (OpQ.move rfl) ?_
 refine Wl.q rfl rfl (OpQ.loadV (b := b1) K21_ag30 K21_sz30 rfl (by repeat (first | exact Has.here | apply Has.there)) (by rfl)) ?_
 refine Wl.know 16 (v' := dvv D) rfl rfl ?_
 refine Wl.g rfl rfl (OpG.callX K21_go14 rfl .nil (fun _ => (.cons .nil)) (fun w hH hp => minimize_spec w D (Stays.frag (hH.staysK0 (show Has _ (.frag gs (dvm D)) from (by repeat (first | exact Has.here | apply Has.there))))) hO hn)) ?_
 rintro ⟨M, ms⟩ ⟨hM, hMm⟩
 dsimp only at hM hMm
 have hM3 : M.fin.length = 3 := hmin M.da hMm
 refine Wl.q rfl rfl (OpQ.field K21_fs30 rfl rfl rfl) ?_
 refine Wl.q rfl rfl (OpQ.len K21_un27 rfl) ?_
 refine Wl.q rfl rfl (OpQ.eql rfl rfl) ?_
 refine Wl.know 20 (v' := .bool true) rfl (congrArg Value.bool (decide_eq_true (by rw [hM3]; rfl))) ?_
 refine Wl.q rfl rfl (OpQ.pickT rfl rfl) ?_
 refine Wl.q rfl rfl (OpQ.move rfl) ?_
 refine Wl.g rfl rfl (OpG.callV K21_go26 rfl (fun w hH => letter_spec w 0)) ?_
 rintro _ _
 refine Wl.g rfl rfl (OpG.callV K21_go27 rfl (fun w hH => match_spec w (hH.stays0 hT))) ?_
 rintro _ _
 refine Wl.know 24 (v' := .bool true) rfl (congrArg Value.bool rfl) ?_
 refine Wl.q rfl rfl (OpQ.pickT rfl rfl) ?_
 refine Wl.q rfl rfl (OpQ.assign rfl) ?_
 refine Wl.nil (PX.then_n (CT.ret ?_))
 refine PX.ret1 rfl rfl (fun w' hH => ?_)
 exact ⟨rfl, hH.ext⟩

theorem K21_go24 : isGo Tryz.prog 24 = true := by kernel_rfl
theorem K21_go25 : isGo Tryz.prog 25 = true := by kernel_rfl
set_option maxRecDepth 100000 in
/-- semigroup/semigrouptop.little -/
theorem little_spec (w : World) (v : Xv) (hv : Stays [] w (evm v)) (m : Int) : Calls Tryz.prog 6 #[evv v, .int .i64 m] w (fun e w' => e = .returned (.bool (decide (vdE 2 (toE v) = 0 ∧ ((szE (toE v) : Nat) : Int) ≤ m))) ∧ Ext [] w w') := by
 refine enter (args := [evv v, .int .i64 m]) [] 14 Tryz.func6 rfl rfl rfl ?_
 refine CT.seq (CT.region ?_)
 refine Wl.g rfl rfl (OpG.box (size := 3) rfl rfl rfl) ?_
 rintro b2 _
 refine Wl.q rfl rfl (OpQ.assign rfl) ?_
 refine Wl.nil (PX.then_n (CT.seq (CT.region ?_)))
 refine Wl.q rfl rfl (OpQ.loadV (b := b2) K21_ag24 K21_sz24 rfl (by repeat (first | exact Has.here | apply Has.there)) (by rfl)) ?_
 refine Wl.know 5 (v' := evv v) rfl rfl ?_
 refine Wl.g rfl rfl (OpG.callV K21_go24 rfl (fun w hH => valid4_spec w v (hH.stays0 hv) 2)) ?_
 rintro _ _
 refine Wl.q rfl rfl (OpQ.eql rfl rfl) ?_
 refine Wl.q rfl rfl (OpQ.move rfl) ?_
 refine Wl.split 8 rfl (fun hg8 => ?_) (fun hg8 => ?_)
 ·
  have hg8 := of_decide_eq_true hg8
  refine Wl.q rfl rfl (OpQ.loadV (b := b2) K21_ag24 K21_sz24 rfl (by repeat (first | exact Has.here | apply Has.there)) (by rfl)) ?_
  refine Wl.know 9 (v' := evv v) rfl rfl ?_
  refine Wl.g rfl rfl (OpG.callV K21_go25 rfl (fun w hH => size4_spec w v (hH.stays0 hv) (vdE_zero.1 hg8).2.1)) ?_
  rintro _ _
  refine Wl.q rfl rfl (OpQ.move rfl) ?_
  refine Wl.q rfl rfl (OpQ.leq rfl rfl) ?_
  refine Wl.q rfl rfl (OpQ.pickT rfl rfl) ?_
  refine Wl.q rfl rfl (OpQ.assign rfl) ?_
  refine Wl.nil (PX.then_n (CT.ret ?_))
  refine PX.ret1 rfl rfl (fun w' hH => ?_)
  exact ⟨congrArg (fun z => Ending.returned (Value.bool z)) (by rw [decide_eq_decide]; exact ⟨fun h => ⟨hg8, h⟩, fun h => h.2⟩), hH.ext⟩
 ·
  have hg8 := of_decide_eq_false hg8
  refine Wl.skip rfl rfl ?_
  refine Wl.skip rfl rfl ?_
  refine Wl.skip rfl rfl ?_
  refine Wl.skip rfl rfl ?_
  refine Wl.q rfl rfl (OpQ.pickF rfl rfl) ?_
  refine Wl.q rfl rfl (OpQ.assign rfl) ?_
  refine Wl.nil (PX.then_n (CT.ret ?_))
  refine PX.ret1 rfl rfl (fun w' hH => ?_)
  exact ⟨congrArg (fun z => Ending.returned (Value.bool z)) (decide_eq_false fun h => hg8 h.1).symm, hH.ext⟩

set_option maxRecDepth 100000 in
/-- semigroup/semigrouptop.limited -/
theorem lim_spec (w : World) (n : Int) : Calls Tryz.prog 10 #[.int .i64 n] w (fun e w' => e = .returned (.bool (decide (n = 0 ∨ n = 3))) ∧ Ext [] w w') := by
 refine enter (args := [.int .i64 n]) [] 9 Tryz.func10 rfl rfl rfl ?_
 refine CT.seq (CT.region ?_)
 refine Wl.q rfl rfl (OpQ.assign rfl) ?_
 refine Wl.nil (PX.then_n (CT.seq (CT.region ?_)))
 refine Wl.q rfl rfl (OpQ.move rfl) ?_
 refine Wl.q rfl rfl (OpQ.eql rfl rfl) ?_
 refine Wl.q rfl rfl (OpQ.move rfl) ?_
 refine Wl.split 5 rfl (fun hg5 => ?_) (fun hg5 => ?_)
 ·
  have hg5 := of_decide_eq_true hg5
  refine Wl.skip rfl rfl ?_
  refine Wl.skip rfl rfl ?_
  refine Wl.q rfl rfl (OpQ.pickT rfl rfl) ?_
  refine Wl.q rfl rfl (OpQ.assign rfl) ?_
  refine Wl.nil (PX.then_n (CT.ret ?_))
  refine PX.ret1 rfl rfl (fun w' hH => ?_)
  exact ⟨congrArg (fun z => Ending.returned (Value.bool z)) (decide_eq_true (.inl hg5)).symm, hH.ext⟩
 ·
  have hg5 := of_decide_eq_false hg5
  refine Wl.q rfl rfl (OpQ.move rfl) ?_
  refine Wl.q rfl rfl (OpQ.eql rfl rfl) ?_
  refine Wl.q rfl rfl (OpQ.pickF rfl rfl) ?_
  refine Wl.q rfl rfl (OpQ.assign rfl) ?_
  refine Wl.nil (PX.then_n (CT.ret ?_))
  refine PX.ret1 rfl rfl (fun w' hH => ?_)
  exact ⟨congrArg (fun z => Ending.returned (Value.bool z)) (by rw [decide_eq_decide]; exact ⟨fun h => .inr h, fun h => h.resolve_left hg5⟩), hH.ext⟩

end Go.Proofs.YtmggcdegekbncabGreatDoor

