/-
  What functions of the program compute, each by its walk. Conditions: those that each theorem names.
-/
import Derived.Test.YtmggcdegekbncabGreatDoorXGB31
import Derived.Test.YtmggcdegekbncabGreatDoorXF
set_option linter.unusedSimpArgs false
namespace Go.Proofs.YtmggcdegekbncabGreatDoor
open Go Go.Eng Go.Am Go.Ex
open Go.Tp (zi)
open Go.Tl (mayL Wd okW okB bo)
open Go.Ex.simp (simpL)
open Go.Ex.dv (dvL dvC)
open Go.Ex.hasU (hasAny hasAll)
open Go.Ex.wf (wfL)
open Go.Ex.szE (szL)
open Go.Ex.dpE (dpL)
open Go.Ex.cmpE (cmpL)
open Go.Ex.fmtE (fmtK fmtR)
theorem recl_spec (x y z : Value) (w : World) : CallsD Tryz.prog 65 ([x, y, z] : List Value).toArray .returning w (fun e u w' => u = .returning ∧ e = .returned (.tuple #[]) ∧ w' = w) := by
 refine callsD_of_wpS Tryz.func65 rfl fun c₀ cs hu => ?_
 apply wpS_seq
 apply wpS_region
 simp [wpOpsS, go_sem, recoverD, hu, Tryz.ntmps65, Exit.thenS]
 apply wpS_seq
 apply wpS_region
 simp [wpOpsS, go_sem, recoverD, hu, Tryz.ntmps65, Exit.thenS]
 refine wpS_cond (t := false) (by simp [Act.eval, Array.replicate]) ?_
 simp only [Bool.false_eq_true, if_false]
 refine wpS_of_wp (wp_skip ?_)
 cases c₀
 simp_all [bodyPostS, results, Tryz.results65]

theorem K32_go65 : isGo Tryz.prog 65 = true := by kernel_rfl
theorem K32_in24 : (Tryz.prog.info? 24).map (fun i => (i.zero, i.size, i.bytes)) = some (some (.agg #[.int .i64 0, .int .i64 0, .slice none 0 0]), 3, 40) := by kernel_rfl
theorem K32_in3 : (Tryz.prog.info? 3).map (fun i => (i.zero, i.size, i.bytes)) = some (some (.int .i64 0), 1, 8) := by kernel_rfl
theorem K32_in4 : (Tryz.prog.info? 4).map (fun i => (i.zero, i.size, i.bytes)) = some (some (.bool false), 1, 1) := by kernel_rfl
theorem K32_pl109 : placesB Tryz.prog 109 = some (#[.string ⟨#[]⟩, .int .i64 0, .int .i64 0], [(0, 1), (1, 1), (2, 1)]) := by kernel_rfl
theorem K32_in109 : (Tryz.prog.info? 109).map (fun i => (i.zero, i.size, i.bytes)) = some (some (.agg #[.string ⟨#[]⟩, .int .i64 0, .int .i64 0]), 3, 32) := by kernel_rfl
theorem K32_sz109 : sizeB Tryz.prog 109 = some 3 := by kernel_rfl
theorem K32_go66 : isGo Tryz.prog 66 = true := by kernel_rfl
theorem K32_sz24 : sizeB Tryz.prog 24 = some 3 := by kernel_rfl
theorem K32_go67 : isGo Tryz.prog 67 = true := by kernel_rfl
theorem K32_fa109_1 : fieldB Tryz.prog 109 1 = some 1 := by kernel_rfl
theorem K32_sc3 : scalarB Tryz.prog 3 = some true := by kernel_rfl
theorem K32_un9 : Tryz.prog.underlying 9 = some .string := by kernel_rfl
theorem K32_ag24 : isAggB Tryz.prog 24 = some true := by kernel_rfl
theorem K32_sz3 : sizeB Tryz.prog 3 = some 1 := by kernel_rfl
theorem K32_sz4 : sizeB Tryz.prog 4 = some 1 := by kernel_rfl
theorem K32_sc4 : scalarB Tryz.prog 4 = some true := by kernel_rfl
set_option maxRecDepth 100000 in
/-- semigroup/expr.parseText -/
theorem ptext_spec (w : World) (ts : Tx) (hts : ts.length ≤ 4096) (n : Nat) (hn : n ≤ 1000000) (ex : Ex) (hp0 : pP 2 n 0 ts = some (ex, [])) : Calls Tryz.prog 40 #[sv ts, .int .i64 2] w (fun e w' => ∃ i : Xv × List Nat, toE i.1 = ex ∧ e = .returned (.tuple #[evv i.1, .int .i64 0, .bool true]) ∧ Post [] [fx (AllM []) [i.1] i.2] w w') := by
 refine enterD (args := [sv ts, .int .i64 2]) [] 21 Tryz.func40 rfl rfl rfl ?_
 refine CT.seq (CT.region ?_)
 refine Wl.g rfl rfl (OpG.alloc (zs := [.int .i64 0, .int .i64 0, .slice none 0 0]) K32_in24 rfl rfl) ?_
 rintro b4 _
 refine Wl.g rfl rfl (OpG.alloc (zs := [.int .i64 0]) K32_in3 rfl rfl) ?_
 rintro b5 _
 refine Wl.g rfl rfl (OpG.alloc (zs := [.bool false]) K32_in4 rfl rfl) ?_
 rintro b6 _
 refine Wl.nil (PX.then_n (CT.seq (CT.region ?_)))
 refine Wl.q rfl rfl (OpQ.makeFunc rfl) ?_
 refine Wl.defer rfl ?_
 refine Wld.nil ?_
 refine PXd.then_n ?_
 refine CTd.seq ?_
 refine CTd.region ?_
 refine Wld.q rfl rfl (OpQ.move rfl) ?_
 refine Wld.q rfl rfl (OpQ.move rfl) ?_
 refine Wld.q rfl rfl (OpQ.build (cells := #[sv ts, .int .i64 0, .int .i64 2]) K32_pl109 rfl rfl) ?_
 refine Wld.g rfl rfl (OpG.alloc (zs := [.string ⟨#[]⟩, .int .i64 0, .int .i64 0]) K32_in109 rfl rfl) ?_
 rintro b7 _
 refine Wld.g rfl rfl (OpG.storeV (b := b7) K32_sz109 rfl rfl rfl rfl (by repeat (first | exact Upd.here | apply Upd.there))) ?_
 rintro _ _
 refine Wld.nil ?_
 refine PXd.then_n ?_
 refine CTd.seq ?_
 refine CTd.region ?_
 refine Wld.g rfl rfl (OpG.callX K32_go66 rfl (.cons .here .nil) (fun _ => (.cons (.cons .nil))) (fun w hH hp => (parts b7 ts hts n hn).1 w 0 _ _ (Nat.zero_le _) hp hp0)) ?_
 rintro ⟨x, xb, j⟩ ⟨hx, hj, hr⟩
 refine Wld.g rfl rfl (OpG.storeV (b := b4) K32_sz24 rfl rfl rfl rfl (by repeat (first | exact Upd.here | apply Upd.there))) ?_
 rintro _ _
 refine Wld.nil ?_
 refine PXd.then_n ?_
 refine CTd.seq ?_
 refine CTd.region ?_
 refine Wld.g rfl rfl (OpG.callX K32_go67 rfl (.cons .here .nil) (fun _ => (.cons .nil)) (fun w hH hp => peek_spec w b7 ts hts j hj hp)) ?_
 rintro j1 ⟨hj1, hd1⟩
 refine Wld.nil ?_
 refine PXd.then_n ?_
 refine CTd.seq ?_
 refine CTd.seq ?_
 refine CTd.region ?_
 have hje : j1 = ts.length := by
  rw [hr] at hd1
  have h9 := congrArg List.length hd1
  rw [List.length_drop] at h9
  have h10 : ts.length - j1 = 0 := h9
  omega
 refine Wld.q rfl rfl (OpQ.fieldAddr K32_fa109_1 rfl) ?_
 refine Wld.q rfl rfl (OpQ.loadF (b := b7) K32_sc3 rfl (by repeat (first | exact Has.here | apply Has.there)) (by rfl)) ?_
 refine Wld.q rfl rfl (OpQ.move rfl) ?_
 refine Wld.q rfl rfl (OpQ.lenSv K32_un9 rfl) ?_
 refine Wld.q rfl rfl (OpQ.lss rfl rfl) ?_
 refine Wld.know 18 (v' := .bool false) rfl (congrArg Value.bool (decide_eq_false (by omega))) ?_
 refine Wld.nil ?_
 refine PXd.then_n ?_
 refine CTd.condF rfl ?_
 refine CTd.skip ?_
 refine PXd.then_n ?_
 refine CTd.seq ?_
 refine CTd.region ?_
 refine Wld.q rfl rfl (OpQ.loadV (b := b4) K32_ag24 K32_sz24 rfl (by repeat (first | exact Has.here | apply Has.there)) (by rfl)) ?_
 refine Wld.know 20 (v' := evv x) rfl rfl ?_
 refine Wld.g rfl rfl (OpG.storeV (b := b4) K32_sz24 rfl rfl rfl rfl (by repeat (first | exact Upd.here | apply Upd.there))) ?_
 rintro _ _
 refine Wld.g rfl rfl (OpG.storeV1 (b := b5) K32_sz3 rfl rfl rfl (by repeat (first | exact Upd.here | apply Upd.there))) ?_
 rintro _ _
 refine Wld.g rfl rfl (OpG.storeV1 (b := b6) K32_sz4 rfl rfl rfl (by repeat (first | exact Upd.here | apply Upd.there))) ?_
 rintro _ _
 refine Wld.nil ?_
 refine PXd.then_n ?_
 refine CTd.ret ?_
 refine PXd.retC3 K32_go65 (fun w => recl_spec _ _ _ w) rfl rfl rfl rfl (by repeat (first | exact Has.here | apply Has.there)) (by repeat (first | exact Has.here | apply Has.there)) (by repeat (first | exact Has.here | apply Has.there)) K32_ag24 K32_sz24 (by rfl) K32_sc3 K32_sc4 (fun w' hH => ?_)
 exact ⟨(x, xb), hx, rfl, HOk.post (hH.take (.cons (.there .here) .nil))⟩

end Go.Proofs.YtmggcdegekbncabGreatDoor

