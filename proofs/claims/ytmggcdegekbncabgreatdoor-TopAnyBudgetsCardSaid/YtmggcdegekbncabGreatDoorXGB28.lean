/-
  What functions of the program compute, each by its walk. Conditions: those that each theorem names.
-/
import Derived.Test.YtmggcdegekbncabGreatDoorEng1
import Derived.Test.YtmggcdegekbncabGreatDoorXGB21
import Derived.Test.YtmggcdegekbncabGreatDoorXF
set_option linter.unusedSimpArgs false
namespace Go.Proofs.YtmggcdegekbncabGreatDoor
open Go Go.Eng Go.Am Go.Ex
open Go.Tp (zi)
open Go.Tl (mayL Wd okW okB bo)
open Go.Ex.simp (simpL)
open Go.Ex.dv (dvL dvC)
open Go.Ex.hasU (hasAny hasAll)
open Go.Ex.wf (wfL)
open Go.Ex.szE (szL)
open Go.Ex.dpE (dpL)
open Go.Ex.cmpE (cmpL)
open Go.Ex.fmtE (fmtK fmtR)
theorem K28_ag24 : isAggB Tryz.prog 24 = some true := by kernel_rfl
theorem K28_sz24 : sizeB Tryz.prog 24 = some 3 := by kernel_rfl
theorem K28_go62 : isGo Tryz.prog 62 = true := by kernel_rfl
set_option maxRecDepth 100000 in
/-- (*semigroup/derive.run).is$1 -/
theorem eqis_spec (w : World) (x y : Xv) (hx : Stays [] w (evm x)) (hy : Stays [] w (evm y)) : Calls Tryz.prog 87 #[evv x, evv y] w (fun e w' => e = .returned (.bool (decide (cmpE (toE x) (toE y) = 0))) ∧ Ext [] w w') := by
 refine enter (args := [evv x, evv y]) [] 9 Tryz.func87 rfl rfl rfl ?_
 refine CT.seq (CT.region ?_)
 refine Wl.g rfl rfl (OpG.box (size := 3) rfl rfl rfl) ?_
 rintro b2 _
 refine Wl.g rfl rfl (OpG.box (size := 3) rfl rfl rfl) ?_
 rintro b3 _
 refine Wl.q rfl rfl (OpQ.assign rfl) ?_
 refine Wl.nil (PX.then_n (CT.seq (CT.region ?_)))
 refine Wl.q rfl rfl (OpQ.loadV (b := b2) K28_ag24 K28_sz24 rfl (by repeat (first | exact Has.here | apply Has.there)) (by rfl)) ?_
 refine Wl.know 5 (v' := evv x) rfl rfl ?_
 refine Wl.q rfl rfl (OpQ.loadV (b := b3) K28_ag24 K28_sz24 rfl (by repeat (first | exact Has.here | apply Has.there)) (by rfl)) ?_
 refine Wl.know 6 (v' := evv y) rfl rfl ?_
 refine Wl.g rfl rfl (OpG.callV K28_go62 rfl (fun w hH => compare_spec x w y (hH.stays0 hx) (hH.stays0 hy))) ?_
 rintro _ _
 refine Wl.q rfl rfl (OpQ.eql rfl rfl) ?_
 refine Wl.q rfl rfl (OpQ.assign rfl) ?_
 refine Wl.nil (PX.then_n (CT.ret ?_))
 refine PX.ret1 rfl rfl (fun w' hH => ?_)
 exact ⟨rfl, hH.ext⟩

theorem K28_go87 : isGo Tryz.prog 87 = true := by kernel_rfl
theorem K28_un22 : Tryz.prog.underlying 22 = some (.slice 24) := by kernel_rfl
theorem K28_in24 : (Tryz.prog.info? 24).map (fun i => (i.zero, i.size, i.bytes)) = some (some (.agg #[.int .i64 0, .int .i64 0, .slice none 0 0]), 3, 40) := by kernel_rfl
set_option maxRecDepth 100000 in
/-- slices.EqualFunc[[]semigroup/api.Expr,[]semigroup/api.Expr,semigroup/api.Expr,semigroup/api.Expr] -/
theorem eqfE_spec (w : World) (vs : List Xv) (a : Option Addr) (c : Nat) (hv : Stays [] w (kin a vs)) (us : List Xv) (a2 : Option Addr) (c2 : Nat) (hu : Stays [] w (kin a2 us)) (he : vs.map toE = us.map toE) : Calls Tryz.prog 88 #[.slice a vs.length c, .slice a2 us.length c2, .func (.func 87) #[] #[]] w (fun e w' => e = .returned (.bool true) ∧ Ext [] w w') := by
 have hl : vs.length = us.length := by have h := congrArg List.length he; rwa [List.length_map, List.length_map] at h
 have ha : 0 < vs.length → a.isSome = true := fun h => hv.now.1.isSome (j := 0) (by rw [evcs_len]; omega)
 have ha2 : 0 < us.length → a2.isSome = true := fun h => hu.now.1.isSome (j := 0) (by rw [evcs_len]; omega)
 have hb := hv.now.2.2
 refine enter (args := [.slice a vs.length c, .slice a2 us.length c2, .func (.func 87) #[] #[]]) [] 32 Tryz.func88 rfl rfl rfl ?_
 refine CT.seq (CT.region ?_)
 refine Wl.q rfl rfl (OpQ.assign rfl) ?_
 refine Wl.nil (PX.then_n (CT.seq (CT.seq (CT.region ?_))))
 refine Wl.q rfl rfl (OpQ.move rfl) ?_
 refine Wl.q rfl rfl (OpQ.len K28_un22 rfl) ?_
 refine Wl.q rfl rfl (OpQ.move rfl) ?_
 refine Wl.q rfl rfl (OpQ.len K28_un22 rfl) ?_
 refine Wl.q rfl rfl (OpQ.neq rfl rfl) ?_
 refine Wl.know 14 (v' := .bool false) rfl (congrArg Value.bool (by rw [hl]; simp)) ?_
 refine Wl.nil (PX.then_n ?_)
 refine CT.condF rfl ?_
 refine CT.skip (PX.then_n (CT.seq (CT.seq (CT.region ?_))))
 refine Wl.q rfl rfl (OpQ.move rfl) ?_
 refine Wl.q rfl rfl (OpQ.len K28_un22 rfl) ?_
 refine Wl.q rfl rfl (OpQ.move rfl) ?_
 refine Wl.nil (PX.then_n (CT.block ?_))
 refine CT.loop (ι := Nat) (fun i => i ≤ vs.length) (fun i => [(1, .slice a2 us.length c2), (2, .func (.func 87) #[] #[]), (15, .slice a vs.length c), (16, .int .i64 ((vs.length : Nat) : Int)), (17, .int .i64 ((i : Nat) : Int))]) (fun _ => []) (fun i => vs.length - i) 0 (Nat.zero_le _) ⟨rfl, rfl, rfl, rfl, rfl, trivial⟩ (HSub.refl _) (fun i hi K0 hK0 => ?_)
 refine CT.seq (CT.region ?_)
 refine Wl.q rfl rfl (OpQ.lss rfl rfl) ?_
 refine Wl.nil (PX.then_n (CT.seq ?_))
 refine CT.cond rfl (fun h18 => ?_) (fun h18 => ?_)
 ·
  have h18 := of_decide_eq_true h18
  have hil : i < vs.length := by omega
  refine CT.skip (PX.then_n (CT.seq (CT.block (CT.seq (CT.region ?_)))))
  refine Wl.q rfl rfl (OpQ.move rfl) ?_
  refine Wl.q rfl rfl (OpQ.index K28_un22 K28_sz24 rfl rfl (by omega) (ha (by omega))) ?_
  refine Wl.q rfl rfl (OpQ.loadAggG (cs := evc (vs.getD i ev0)) K28_ag24 K28_sz24 rfl (fun w hH => (hH.use hv).1) (flat_cells evc_len vs ev0 (by omega))) ?_
  refine Wl.know 21 (v' := evv (vs.getD i ev0)) rfl rfl ?_
  refine Wl.g rfl rfl (OpG.alloc (zs := [.int .i64 0, .int .i64 0, .slice none 0 0]) K28_in24 rfl rfl) ?_
  rintro b8 _
  refine Wl.q rfl rfl (OpQ.assign rfl) ?_
  refine Wl.g rfl rfl (OpG.storeV (b := b8) K28_sz24 rfl rfl rfl rfl (by repeat (first | exact Upd.here | apply Upd.there))) ?_
  rintro _ _
  refine Wl.nil (PX.then_n (CT.seq (CT.region ?_)))
  refine Wl.q rfl rfl (OpQ.move rfl) ?_
  refine Wl.q rfl rfl (OpQ.move rfl) ?_
  refine Wl.q rfl rfl (OpQ.index K28_un22 K28_sz24 rfl rfl (by omega) (ha2 (by omega))) ?_
  refine Wl.q rfl rfl (OpQ.loadAggG (cs := evc (us.getD i ev0)) K28_ag24 K28_sz24 rfl (fun w hH => (hH.use hu).1) (flat_cells evc_len us ev0 (by omega))) ?_
  refine Wl.know 25 (v' := evv (us.getD i ev0)) rfl rfl ?_
  refine Wl.g rfl rfl (OpG.alloc (zs := [.int .i64 0, .int .i64 0, .slice none 0 0]) K28_in24 rfl rfl) ?_
  rintro b9 _
  refine Wl.g rfl rfl (OpG.storeV (b := b9) K28_sz24 rfl rfl rfl rfl (by repeat (first | exact Upd.here | apply Upd.there))) ?_
  rintro _ _
  refine Wl.nil (PX.then_n (CT.seq (CT.region ?_)))
  refine Wl.q rfl rfl (OpQ.move rfl) ?_
  refine Wl.q rfl rfl (OpQ.loadV (b := b8) K28_ag24 K28_sz24 rfl (by repeat (first | exact Has.here | apply Has.there)) (by rfl)) ?_
  refine Wl.know 27 (v' := evv (vs.getD i ev0)) rfl rfl ?_
  refine Wl.q rfl rfl (OpQ.loadV (b := b9) K28_ag24 K28_sz24 rfl (by repeat (first | exact Has.here | apply Has.there)) (by rfl)) ?_
  refine Wl.know 28 (v' := evv (us.getD i ev0)) rfl rfl ?_
  refine Wl.g rfl rfl (OpG.callFV rfl K28_go87 rfl (fun w hH => eqis_spec w (vs.getD i ev0) (us.getD i ev0) (fun w' he' => ((hH.stays0 hv) w' he').2.1 _ (getD_memx (by omega))) (fun w' he' => ((hH.stays0 hu) w' he').2.1 _ (getD_memx (by omega))))) ?_
  rintro _ _
  refine Wl.know 29 (v' := .bool true) rfl (congrArg Value.bool (decide_eq_true ((cmp_zero _ _).2 (elem_eq he hil)))) ?_
  refine Wl.q rfl rfl (OpQ.not rfl) ?_
  refine Wl.know 30 (v' := .bool false) rfl (congrArg Value.bool rfl) ?_
  refine Wl.nil (PX.then_n ?_)
  refine CT.condF rfl ?_
  refine CT.skip (PX.block_n (PX.then_n (CT.region ?_)))
  refine Wl.q rfl rfl (OpQ.add rfl rfl (by omega)) ?_
  refine Wl.q rfl rfl (OpQ.move rfl) ?_
  refine Wl.nil ?_
  exact PX.loop hK0 (i + 1) (by omega) (by first | omega | (dsimp only; omega)) ⟨rfl, rfl, rfl, rfl, rfl, trivial⟩ (HSub.none _)
 ·
  have h18 := of_decide_eq_false h18
  refine CT.exit (PX.then_x (PX.then_x (PX.block_x (PX.then_n (CT.seq (CT.region ?_))))))
  refine Wl.q rfl rfl (OpQ.assign rfl) ?_
  refine Wl.nil (PX.then_n (CT.ret ?_))
  refine PX.ret1 rfl rfl (fun w' hH => ?_)
  exact ⟨rfl, hH.ext⟩

theorem K28_un62 : Tryz.prog.underlying 62 = some (.slice 3) := by kernel_rfl
theorem K28_mixed : Tryz.prog.follows .mixedOrders = true := by kernel_rfl
theorem K28_sz3 : sizeB Tryz.prog 3 = some 1 := by kernel_rfl
theorem K28_sc3 : scalarB Tryz.prog 3 = some true := by kernel_rfl
set_option maxRecDepth 100000 in
/-- slices.Equal[[]int,int] -/
theorem eqI_spec (w : World) (xs : List Int) (a : Option Addr) (c : Nat) (hx : Stays [] w (fun w => Rd w a (xs.map zz))) (ys : List Int) (a2 : Option Addr) (c2 : Nat) (hy : Stays [] w (fun w => Rd w a2 (ys.map zz))) (he : xs = ys) (hb : xs.length ≤ 100000) : Calls Tryz.prog 90 #[.slice a xs.length c, .slice a2 ys.length c2] w (fun e w' => e = .returned (.bool true) ∧ Ext [] w w') := by
 have hl : xs.length = ys.length := by rw [he]
 have ha : 0 < xs.length → a.isSome = true := fun h => hx.now.isSome (j := 0) (by rw [List.length_map]; omega)
 have ha2 : 0 < ys.length → a2.isSome = true := fun h => hy.now.isSome (j := 0) (by rw [List.length_map]; omega)
 refine enter (args := [.slice a xs.length c, .slice a2 ys.length c2]) [] 26 Tryz.func90 rfl rfl rfl ?_
 refine CT.seq (CT.region ?_)
 refine Wl.q rfl rfl (OpQ.assign rfl) ?_
 refine Wl.nil (PX.then_n (CT.seq (CT.seq (CT.region ?_))))
 refine Wl.q rfl rfl (OpQ.move rfl) ?_
 refine Wl.q rfl rfl (OpQ.len K28_un62 rfl) ?_
 refine Wl.q rfl rfl (OpQ.move rfl) ?_
 refine Wl.q rfl rfl (OpQ.len K28_un62 rfl) ?_
 refine Wl.q rfl rfl (OpQ.neq rfl rfl) ?_
 refine Wl.know 10 (v' := .bool false) rfl (congrArg Value.bool (by rw [hl]; simp)) ?_
 refine Wl.nil (PX.then_n ?_)
 refine CT.condF rfl ?_
 refine CT.skip (PX.then_n (CT.seq (CT.seq (CT.region ?_))))
 refine Wl.q rfl rfl (OpQ.move rfl) ?_
 refine Wl.q rfl rfl (OpQ.len K28_un62 rfl) ?_
 refine Wl.q rfl rfl (OpQ.move rfl) ?_
 refine Wl.nil (PX.then_n (CT.block ?_))
 refine CT.loop (ι := Nat) (fun i => i ≤ xs.length) (fun i => [(0, .slice a xs.length c), (1, .slice a2 ys.length c2), (11, .slice a xs.length c), (12, .int .i64 ((xs.length : Nat) : Int)), (13, .int .i64 ((i : Nat) : Int))]) (fun _ => []) (fun i => xs.length - i) 0 (Nat.zero_le _) ⟨rfl, rfl, rfl, rfl, rfl, trivial⟩ (HSub.refl _) (fun i hi K0 hK0 => ?_)
 refine CT.seq (CT.region ?_)
 refine Wl.q rfl rfl (OpQ.lss rfl rfl) ?_
 refine Wl.nil (PX.then_n (CT.seq ?_))
 refine CT.cond rfl (fun h14 => ?_) (fun h14 => ?_)
 ·
  have h14 := of_decide_eq_true h14
  have hil : i < xs.length := by omega
  refine CT.skip (PX.then_n (CT.seq (CT.block (CT.seq (CT.region ?_)))))
  refine Wl.q rfl rfl (OpQ.move rfl) ?_
  refine Wl.q rfl rfl (OpQ.assign rfl) ?_
  refine Wl.nil (PX.then_n (CT.seq ?_))
  refine CT.draw 9 K28_mixed ?_
  refine RA.q 0 (by kernel_rfl) rfl rfl rfl (.refl _) (OpQ.move rfl) ?_
  refine RA.q 1 (by kernel_rfl) rfl rfl rfl (.refl _) (OpQ.move rfl) ?_
  refine RA.q 2 (by kernel_rfl) rfl rfl rfl (.refl _) (OpQ.index1 K28_un62 K28_sz3 rfl rfl (by omega) (ha (by omega))) ?_
  refine RA.q 3 (by kernel_rfl) rfl rfl rfl (.refl _) (OpQ.loadG K28_sc3 rfl (fun w hH => hH.use hx) (getMap zz xs 0 (j := i) (by omega))) ?_
  refine RA.q 4 (by kernel_rfl) rfl rfl rfl (.refl _) (OpQ.move rfl) ?_
  refine RA.q 5 (by kernel_rfl) rfl rfl rfl (.refl _) (OpQ.move rfl) ?_
  refine RA.q 6 (by kernel_rfl) rfl rfl rfl (.refl _) (OpQ.index1 K28_un62 K28_sz3 rfl rfl (by omega) (ha2 (by omega))) ?_
  refine RA.q 7 (by kernel_rfl) rfl rfl rfl (.refl _) (OpQ.loadG K28_sc3 rfl (fun w hH => hH.use hy) (getMap zz ys 0 (j := i) (by omega))) ?_
  refine RA.q 8 (by kernel_rfl) rfl rfl rfl (.refl _) (OpQ.neq rfl rfl) ?_
  refine RA.know 24 (v' := .bool false) rfl (congrArg Value.bool (by rw [he]; simp)) ?_
  refine RA.tail ?_
  refine RT.done (by kernel_rfl) ?_
  refine PX.then_n ?_
  refine CT.condF rfl ?_
  refine CT.skip (PX.block_n (PX.then_n (CT.region ?_)))
  refine Wl.q rfl rfl (OpQ.add rfl rfl (by omega)) ?_
  refine Wl.q rfl rfl (OpQ.move rfl) ?_
  refine Wl.nil ?_
  exact PX.loop hK0 (i + 1) (by omega) (by first | omega | (dsimp only; omega)) ⟨rfl, rfl, rfl, rfl, rfl, trivial⟩ (HSub.refl _)
 ·
  have h14 := of_decide_eq_false h14
  refine CT.exit (PX.then_x (PX.then_x (PX.block_x (PX.then_n (CT.seq (CT.region ?_))))))
  refine Wl.q rfl rfl (OpQ.assign rfl) ?_
  refine Wl.nil (PX.then_n (CT.ret ?_))
  refine PX.ret1 rfl rfl (fun w' hH => ?_)
  exact ⟨rfl, hH.ext⟩

theorem K28_go90 : isGo Tryz.prog 90 = true := by kernel_rfl
theorem K28_un28 : Tryz.prog.underlying 28 = some (.slice 62) := by kernel_rfl
theorem K28_sz62 : sizeB Tryz.prog 62 = some 1 := by kernel_rfl
theorem K28_sc62 : scalarB Tryz.prog 62 = some true := by kernel_rfl
set_option maxRecDepth 100000 in
/-- slices.EqualFunc[[][]int,[][]int,[]int,[]int] -/
theorem eqfR_spec (w : World) (rs : List Rw) (a : Option Addr) (c : Nat) (hv : Stays [] w (fun w => Rd w a (rs.map rv) ∧ rws rs w)) (ss : List Rw) (a2 : Option Addr) (c2 : Nat) (hu : Stays [] w (fun w => Rd w a2 (ss.map rv) ∧ rws ss w)) (he : rs.map (·.xs) = ss.map (·.xs)) (hb : rs.length ≤ 100000) (hx : ∀ i, i < rs.length → (rs.getD i rw0).xs.length ≤ 100000) : Calls Tryz.prog 89 #[.slice a rs.length c, .slice a2 ss.length c2, .func (.func 90) #[] #[]] w (fun e w' => e = .returned (.bool true) ∧ Ext [] w w') := by
 have hl : rs.length = ss.length := by have h := congrArg List.length he; rwa [List.length_map, List.length_map] at h
 have ha : 0 < rs.length → a.isSome = true := fun h => hv.now.1.isSome (j := 0) (by rw [List.length_map]; omega)
 have ha2 : 0 < ss.length → a2.isSome = true := fun h => hu.now.1.isSome (j := 0) (by rw [List.length_map]; omega)
 refine enter (args := [.slice a rs.length c, .slice a2 ss.length c2, .func (.func 90) #[] #[]]) [] 32 Tryz.func89 rfl rfl rfl ?_
 refine CT.seq (CT.region ?_)
 refine Wl.q rfl rfl (OpQ.assign rfl) ?_
 refine Wl.nil (PX.then_n (CT.seq (CT.seq (CT.region ?_))))
 refine Wl.q rfl rfl (OpQ.move rfl) ?_
 refine Wl.q rfl rfl (OpQ.len K28_un28 rfl) ?_
 refine Wl.q rfl rfl (OpQ.move rfl) ?_
 refine Wl.q rfl rfl (OpQ.len K28_un28 rfl) ?_
 refine Wl.q rfl rfl (OpQ.neq rfl rfl) ?_
 refine Wl.know 14 (v' := .bool false) rfl (congrArg Value.bool (by rw [hl]; simp)) ?_
 refine Wl.nil (PX.then_n ?_)
 refine CT.condF rfl ?_
 refine CT.skip (PX.then_n (CT.seq (CT.seq (CT.region ?_))))
 refine Wl.q rfl rfl (OpQ.move rfl) ?_
 refine Wl.q rfl rfl (OpQ.len K28_un28 rfl) ?_
 refine Wl.q rfl rfl (OpQ.move rfl) ?_
 refine Wl.nil (PX.then_n (CT.block ?_))
 refine CT.loop (ι := Nat) (fun i => i ≤ rs.length) (fun i => [(1, .slice a2 ss.length c2), (2, .func (.func 90) #[] #[]), (15, .slice a rs.length c), (16, .int .i64 ((rs.length : Nat) : Int)), (17, .int .i64 ((i : Nat) : Int))]) (fun _ => []) (fun i => rs.length - i) 0 (Nat.zero_le _) ⟨rfl, rfl, rfl, rfl, rfl, trivial⟩ (HSub.refl _) (fun i hi K0 hK0 => ?_)
 refine CT.seq (CT.region ?_)
 refine Wl.q rfl rfl (OpQ.lss rfl rfl) ?_
 refine Wl.nil (PX.then_n (CT.seq ?_))
 refine CT.cond rfl (fun h18 => ?_) (fun h18 => ?_)
 ·
  have h18 := of_decide_eq_true h18
  have hil : i < rs.length := by omega
  refine CT.skip (PX.then_n (CT.seq (CT.block (CT.seq (CT.region ?_)))))
  refine Wl.q rfl rfl (OpQ.move rfl) ?_
  refine Wl.q rfl rfl (OpQ.index1 K28_un28 K28_sz62 rfl rfl (by omega) (ha (by omega))) ?_
  refine Wl.q rfl rfl (OpQ.loadG K28_sc62 rfl (fun w hH => (hH.use hv).1) (getMap rv rs rw0 (j := i) (by omega))) ?_
  refine Wl.q rfl rfl (OpQ.assign rfl) ?_
  refine Wl.q rfl rfl (OpQ.assign rfl) ?_
  refine Wl.nil (PX.then_n (CT.seq (CT.region ?_)))
  refine Wl.q rfl rfl (OpQ.move rfl) ?_
  refine Wl.q rfl rfl (OpQ.move rfl) ?_
  refine Wl.q rfl rfl (OpQ.index1 K28_un28 K28_sz62 rfl rfl (by omega) (ha2 (by omega))) ?_
  refine Wl.q rfl rfl (OpQ.loadG K28_sc62 rfl (fun w hH => (hH.use hu).1) (getMap rv ss rw0 (j := i) (by omega))) ?_
  refine Wl.q rfl rfl (OpQ.assign rfl) ?_
  refine Wl.nil (PX.then_n (CT.seq (CT.region ?_)))
  refine Wl.q rfl rfl (OpQ.move rfl) ?_
  refine Wl.q rfl rfl (OpQ.move rfl) ?_
  refine Wl.q rfl rfl (OpQ.move rfl) ?_
  refine Wl.g rfl rfl (OpG.callFV rfl K28_go90 rfl (fun w hH => eqI_spec w (rs.getD i rw0).xs (rs.getD i rw0).a (rs.getD i rw0).cp (fun w' he' => ((hH.stays0 hv) w' he').2 _ (getDm (by omega))) (ss.getD i rw0).xs (ss.getD i rw0).a (ss.getD i rw0).cp (fun w' he' => ((hH.stays0 hu) w' he').2 _ (getDm (by omega))) (row_eqx he hil) (hx i hil))) ?_
  rintro _ _
  refine Wl.know 29 (v' := .bool true) rfl (congrArg Value.bool rfl) ?_
  refine Wl.q rfl rfl (OpQ.not rfl) ?_
  refine Wl.know 30 (v' := .bool false) rfl (congrArg Value.bool rfl) ?_
  refine Wl.nil (PX.then_n ?_)
  refine CT.condF rfl ?_
  refine CT.skip (PX.block_n (PX.then_n (CT.region ?_)))
  refine Wl.q rfl rfl (OpQ.add rfl rfl (by omega)) ?_
  refine Wl.q rfl rfl (OpQ.move rfl) ?_
  refine Wl.nil ?_
  exact PX.loop hK0 (i + 1) (by omega) (by first | omega | (dsimp only; omega)) ⟨rfl, rfl, rfl, rfl, rfl, trivial⟩ (HSub.refl _)
 ·
  have h18 := of_decide_eq_false h18
  refine CT.exit (PX.then_x (PX.then_x (PX.block_x (PX.then_n (CT.seq (CT.region ?_))))))
  refine Wl.q rfl rfl (OpQ.assign rfl) ?_
  refine Wl.nil (PX.then_n (CT.ret ?_))
  refine PX.ret1 rfl rfl (fun w' hH => ?_)
  exact ⟨rfl, hH.ext⟩

theorem K28_fa68_0 : fieldB Tryz.prog 68 0 = some 0 := by kernel_rfl
theorem K28_fa43_0 : fieldB Tryz.prog 43 0 = some 0 := by kernel_rfl
theorem K28_fa43_3 : fieldB Tryz.prog 43 3 = some 3 := by kernel_rfl
theorem K28_fa43_1 : fieldB Tryz.prog 43 1 = some 1 := by kernel_rfl
theorem K28_sc22 : scalarB Tryz.prog 22 = some true := by kernel_rfl
theorem K28_go88 : isGo Tryz.prog 88 = true := by kernel_rfl
theorem K28_fa43_2 : fieldB Tryz.prog 43 2 = some 2 := by kernel_rfl
theorem K28_sc28 : scalarB Tryz.prog 28 = some true := by kernel_rfl
theorem K28_go89 : isGo Tryz.prog 89 = true := by kernel_rfl
set_option maxRecDepth 100000 in
/-- (*semigroup/derive.run).is -/
theorem ris_spec (w : World) (b m : Nat) (vs : List Xv) (a : Option Addr) (c : Nat) (na : Option Addr) (nc : Nat) (rs : List Rw) (X : Drv) (hpre : Pre [.row 68 5 (vb b) 1 [.int .i64 2, .slice a (vs).length c, .slice na rs.length nc, .int .i64 ((X.i : Nat) : Int), .map (some m)]] w) (hv : Stays (blks [.row 68 5 (vb b) 1 [.int .i64 2, .slice a (vs).length c, .slice na rs.length nc, .int .i64 ((X.i : Nat) : Int), .map (some m)]]) w (kin a vs)) (hr : Stays (blks [.row 68 5 (vb b) 1 [.int .i64 2, .slice a (vs).length c, .slice na rs.length nc, .int .i64 ((X.i : Nat) : Int), .map (some m)]]) w (fun w => Rd w na (rs.map rv) ∧ rws rs w)) (hX : Stays (blks [.row 68 5 (vb b) 1 [.int .i64 2, .slice a (vs).length c, .slice na rs.length nc, .int .i64 ((X.i : Nat) : Int), .map (some m)]]) w (drm X)) (h1 : vs.map toE = X.vs.map toE) (h2 : rs.map (·.xs) = X.rs.map (·.xs)) (hb : X.vs.length ≤ 100000) (hb2 : rs.length ≤ 100000) (hb3 : ∀ i, i < rs.length → (rs.getD i rw0).xs.length ≤ 100000) : Calls Tryz.prog 63 #[.pointer (some ⟨b, 0, none⟩), drvv X] w (fun e w' => ∃ _i : Unit, True ∧ e = .returned (.bool true) ∧ Post (blks [.row 68 5 (vb b) 1 [.int .i64 2, .slice a (vs).length c, .slice na rs.length nc, .int .i64 ((X.i : Nat) : Int), .map (some m)]]) [.row 68 5 (vb b) 1 [.int .i64 2, .slice a (vs).length c, .slice na rs.length nc, .int .i64 ((X.i : Nat) : Int), .map (some m)]] w w') := by
 refine enterX (args := [.pointer (some ⟨b, 0, none⟩), drvv X]) hpre 45 Tryz.func63 rfl rfl rfl ?_
 refine CT.seq (CT.region ?_)
 refine Wl.g rfl rfl (OpG.box (size := 4) rfl rfl rfl) ?_
 rintro b3 _
 refine Wl.q rfl rfl (OpQ.assign rfl) ?_
 refine Wl.nil (PX.then_n (CT.seq (CT.region ?_)))
 refine Wl.q rfl rfl (OpQ.assign rfl) ?_
 refine Wl.nil (PX.then_n (CT.seq ?_))
 refine CT.draw 40 K28_mixed ?_
 refine RA.q 0 (by kernel_rfl) rfl rfl rfl (.refl _) (OpQ.move rfl) ?_
 refine RA.q 1 (by kernel_rfl) rfl rfl rfl (.refl _) (OpQ.nilCheckP rfl) ?_
 refine RA.q 2 (by kernel_rfl) rfl rfl rfl (.refl _) (OpQ.fieldAddr K28_fa68_0 rfl) ?_
 refine RA.q 3 (by kernel_rfl) rfl rfl rfl (.refl _) (OpQ.fieldAddr K28_fa43_0 rfl) ?_
 refine RA.know 9 rfl (add_ptr _ _ _) ?_
 refine RA.q 4 (by kernel_rfl) rfl rfl rfl (.refl _) (OpQ.loadF (b := b) K28_sc3 rfl (by repeat (first | exact Has.here | apply Has.there)) (by rfl)) ?_
 refine RA.q 5 (by kernel_rfl) rfl rfl rfl (.refl _) (OpQ.fieldAddr K28_fa43_0 rfl) ?_
 refine RA.q 6 (by kernel_rfl) rfl rfl rfl (.refl _) (OpQ.loadF (b := b3) K28_sc3 rfl (by repeat (first | exact Has.here | apply Has.there)) (by rfl)) ?_
 refine RA.q 7 (by kernel_rfl) rfl rfl rfl (.refl _) (OpQ.eql rfl rfl) ?_
 refine RA.know 13 (v' := .bool true) rfl (congrArg Value.bool rfl) ?_
 refine RA.q 8 (by kernel_rfl) rfl rfl rfl (.refl _) (OpQ.move rfl) ?_
 refine RA.q 9 (by kernel_rfl) rfl rfl rfl (.refl _) (OpQ.move rfl) ?_
 refine RA.q 10 (by kernel_rfl) rfl rfl rfl (.refl _) (OpQ.nilCheckP rfl) ?_
 refine RA.q 11 (by kernel_rfl) rfl rfl rfl (.refl _) (OpQ.fieldAddr K28_fa68_0 rfl) ?_
 refine RA.q 12 (by kernel_rfl) rfl rfl rfl (.refl _) (OpQ.fieldAddr K28_fa43_3 rfl) ?_
 refine RA.know 18 rfl (add_ptr _ _ _) ?_
 refine RA.q 13 (by kernel_rfl) rfl rfl rfl (.refl _) (OpQ.loadF (b := b) K28_sc3 rfl (by repeat (first | exact Has.here | apply Has.there)) (by rfl)) ?_
 refine RA.q 14 (by kernel_rfl) rfl rfl rfl (.refl _) (OpQ.fieldAddr K28_fa43_3 rfl) ?_
 refine RA.q 15 (by kernel_rfl) rfl rfl rfl (.refl _) (OpQ.loadF (b := b3) K28_sc3 rfl (by repeat (first | exact Has.here | apply Has.there)) (by rfl)) ?_
 refine RA.q 16 (by kernel_rfl) rfl rfl rfl (.refl _) (OpQ.eql rfl rfl) ?_
 refine RA.know 22 (v' := .bool true) rfl (congrArg Value.bool (decide_eq_true rfl)) ?_
 refine RA.q 17 (by kernel_rfl) rfl rfl rfl (.refl _) (OpQ.pickT rfl rfl) ?_
 refine RA.q 18 (by kernel_rfl) rfl rfl rfl (.refl _) (OpQ.move rfl) ?_
 refine RA.q 19 (by kernel_rfl) rfl rfl rfl (.refl _) (OpQ.move rfl) ?_
 refine RA.q 20 (by kernel_rfl) rfl rfl rfl (.refl _) (OpQ.nilCheckP rfl) ?_
 refine RA.q 21 (by kernel_rfl) rfl rfl rfl (.refl _) (OpQ.fieldAddr K28_fa68_0 rfl) ?_
 refine RA.q 22 (by kernel_rfl) rfl rfl rfl (.refl _) (OpQ.fieldAddr K28_fa43_1 rfl) ?_
 refine RA.know 28 rfl (add_ptr _ _ _) ?_
 refine RA.q 23 (by kernel_rfl) rfl rfl rfl (.refl _) (OpQ.loadF (b := b) K28_sc22 rfl (by repeat (first | exact Has.here | apply Has.there)) (by rfl)) ?_
 refine RA.q 24 (by kernel_rfl) rfl rfl rfl (.refl _) (OpQ.fieldAddr K28_fa43_1 rfl) ?_
 refine RA.q 25 (by kernel_rfl) rfl rfl rfl (.refl _) (OpQ.loadF (b := b3) K28_sc22 rfl (by repeat (first | exact Has.here | apply Has.there)) (by rfl)) ?_
 refine RA.q 26 (by kernel_rfl) rfl rfl rfl (.refl _) (OpQ.move rfl) ?_
 refine RA.f 27 (by kernel_rfl) rfl rfl rfl (OpG.callV K28_go88 rfl (fun w hH => eqfE_spec w vs a c (hH.stays0 hv) X.vs X.a X.c ((hH.stays0 hX).mono fun w h => ⟨h.1, h.2.1, by omega⟩) h1)) (fun _ _ => (.refl _)) ?_
 rintro _ _
 refine RA.know 33 (v' := .bool true) rfl (congrArg Value.bool rfl) ?_
 refine RA.q 28 (by kernel_rfl) rfl rfl rfl (.refl _) (OpQ.pickT rfl rfl) ?_
 refine RA.q 29 (by kernel_rfl) rfl rfl rfl (.refl _) (OpQ.move rfl) ?_
 refine RA.q 30 (by kernel_rfl) rfl rfl rfl (.refl _) (OpQ.move rfl) ?_
 refine RA.q 31 (by kernel_rfl) rfl rfl rfl (.refl _) (OpQ.nilCheckP rfl) ?_
 refine RA.q 32 (by kernel_rfl) rfl rfl rfl (.refl _) (OpQ.fieldAddr K28_fa68_0 rfl) ?_
 refine RA.q 33 (by kernel_rfl) rfl rfl rfl (.refl _) (OpQ.fieldAddr K28_fa43_2 rfl) ?_
 refine RA.know 39 rfl (add_ptr _ _ _) ?_
 refine RA.q 34 (by kernel_rfl) rfl rfl rfl (.refl _) (OpQ.loadF (b := b) K28_sc28 rfl (by repeat (first | exact Has.here | apply Has.there)) (by rfl)) ?_
 refine RA.q 35 (by kernel_rfl) rfl rfl rfl (.refl _) (OpQ.fieldAddr K28_fa43_2 rfl) ?_
 refine RA.q 36 (by kernel_rfl) rfl rfl rfl (.refl _) (OpQ.loadF (b := b3) K28_sc28 rfl (by repeat (first | exact Has.here | apply Has.there)) (by rfl)) ?_
 refine RA.f 37 (by kernel_rfl) rfl rfl rfl (OpG.callV K28_go89 rfl (fun w hH => eqfR_spec w rs na nc (hH.stays0 hr) X.rs X.na X.nc ((hH.stays0 hX).mono fun w h => ⟨h.2.2.1, h.2.2.2⟩) h2 hb2 hb3)) (fun _ _ => (.refl _)) ?_
 rintro _ _
 refine RA.know 43 (v' := .bool true) rfl (congrArg Value.bool rfl) ?_
 refine RA.q 38 (by kernel_rfl) rfl rfl rfl (.refl _) (OpQ.pickT rfl rfl) ?_
 refine RA.q 39 (by kernel_rfl) rfl rfl rfl (.refl _) (OpQ.assign rfl) ?_
 refine RA.tail ?_
 refine RT.done (by kernel_rfl) ?_
 refine PX.then_n (CT.ret ?_)
 refine PX.ret1 rfl rfl (fun w' hH => ?_)
 exact ⟨(), trivial, rfl, (hH.take (.cons (.there .here) .nil)).post⟩

theorem K28_ag43 : isAggB Tryz.prog 43 = some true := by kernel_rfl
theorem K28_sz43 : sizeB Tryz.prog 43 = some 4 := by kernel_rfl
theorem K28_in43 : (Tryz.prog.info? 43).map (fun i => (i.zero, i.size, i.bytes)) = some (some (.agg #[.int .i64 0, .slice none 0 0, .slice none 0 0, .int .i64 0]), 4, 64) := by kernel_rfl
theorem K28_go32 : isGo Tryz.prog 32 = true := by kernel_rfl
theorem K28_go21 : isGo Tryz.prog 21 = true := by kernel_rfl
theorem K28_go33 : isGo Tryz.prog 33 = true := by kernel_rfl
set_option maxRecDepth 100000 in
/-- semigroup/derive.Start -/
theorem start_spec (w : World) (v : Xv) (hv : Stays [] w (evm v)) (hvd : vdE 2 (toE v) = 0) : Calls Tryz.prog 16 #[evv v, .int .i64 2] w (fun e w' => ∃ z : Drv × List Nat, (DrX (simp (toE v)) z.1 ∧ z.1.i = 0) ∧ e = .returned (.tuple #[drvv z.1, .int .i64 0]) ∧ Post [] [dfr (AllM [v]) z.1 z.2] w w') := by
 have hs6 := simp_vd (vd26 hvd)
 refine enter (args := [evv v, .int .i64 2]) [] 21 Tryz.func16 rfl rfl rfl ?_
 refine CT.nilrow 62 1 ?_
 refine CT.as (fun _ h => h.bind0 (p := rws []) (rws_nil)) ?_
 refine CT.seq (CT.region ?_)
 refine Wl.g rfl rfl (OpG.box (size := 3) rfl rfl rfl) ?_
 rintro b2 _
 refine Wl.g rfl rfl (OpG.alloc (zs := [.int .i64 0, .slice none 0 0, .slice none 0 0, .int .i64 0]) K28_in43 rfl rfl) ?_
 rintro b4 _
 refine Wl.q rfl rfl (OpQ.assign rfl) ?_
 refine Wl.nil (PX.then_n (CT.seq (CT.seq (CT.region ?_))))
 refine Wl.q rfl rfl (OpQ.loadV (b := b2) K28_ag24 K28_sz24 rfl (by repeat (first | exact Has.here | apply Has.there)) (by rfl)) ?_
 refine Wl.know 7 (v' := evv v) rfl rfl ?_
 refine Wl.q rfl rfl (OpQ.move rfl) ?_
 refine Wl.g rfl rfl (OpG.callV K28_go32 rfl (fun w hH => exvalid_spec w v (hH.stays0 hv) 2)) ?_
 rintro _ _
 refine Wl.know 9 (v' := .int .i64 0) rfl (congrArg (Value.int .i64) hvd) ?_
 refine Wl.q rfl rfl (OpQ.assign rfl) ?_
 refine Wl.nil (PX.then_n (CT.seq (CT.region ?_)))
 refine Wl.q rfl rfl (OpQ.move rfl) ?_
 refine Wl.q rfl rfl (OpQ.neq rfl rfl) ?_
 refine Wl.know 11 (v' := .bool false) rfl (congrArg Value.bool rfl) ?_
 refine Wl.nil (PX.then_n ?_)
 refine CT.condF rfl ?_
 refine CT.skip (PX.then_n (CT.seq (CT.region ?_)))
 refine Wl.q rfl rfl (OpQ.loadV (b := b2) K28_ag24 K28_sz24 rfl (by repeat (first | exact Has.here | apply Has.there)) (by rfl)) ?_
 refine Wl.know 14 (v' := evv v) rfl rfl ?_
 refine Wl.g rfl rfl (OpG.callX K28_go21 rfl .nil (fun _ => (.cons .nil)) (fun w hH hp => normal_spec w v (hH.stays0 hv))) ?_
 rintro ⟨r15, bs15⟩ h15
 have h15 : toE r15 = simp (toE v) := by
  dsimp only at h15; rw [if_pos (vd26 hvd)] at h15; exact h15
 refine Wl.q rfl rfl (OpQ.move rfl) ?_
 refine Wl.g rfl rfl (OpG.callX K28_go33 rfl .nil (fun _ => (.cons (.cons (.cons .nil)))) (fun w hH hp => begin_spec w r15 (fun w' he => ((hH.staysK0 (show Has _ (fx (AllM [v]) ([r15]) bs15) from (by repeat (first | exact Has.here | apply Has.there)))).frag w' he (((hH.stays0 hv).mono (fun w h => AllM.one.2 h)) w' he)) r15 List.mem_cons_self) (by rw [h15]; exact hs6))) ?_
 rintro ⟨b, m, a0, c0⟩ _
 refine Wl.q rfl rfl (OpQ.nilCheckP rfl) ?_
 refine Wl.q rfl rfl (OpQ.fieldAddr K28_fa68_0 rfl) ?_
 refine Wl.q rfl rfl (OpQ.loadFA (b := b) (cs := drc (⟨a0, c0, [r15], none, 0, [], 0⟩ : Drv)) K28_ag43 K28_sz43 rfl (by repeat (first | exact Has.here | apply Has.there)) (fun k v hk => pre4 hk)) ?_
 refine Wl.know 20 (v' := drvv (⟨a0, c0, [r15], none, 0, [], 0⟩ : Drv)) rfl rfl ?_
 refine Wl.g rfl rfl (OpG.storeV (b := b4) K28_sz43 rfl rfl rfl rfl (by repeat (first | exact Upd.here | apply Upd.there))) ?_
 rintro _ _
 refine Wl.q rfl rfl (OpQ.assign rfl) ?_
 refine Wl.nil (PX.then_n (CT.ret ?_))
 refine PX.retC2 rfl rfl rfl (by repeat (first | exact Has.here | apply Has.there)) K28_ag43 K28_sz43 (by rfl) (fun w' hH => ?_)
 exact ⟨((⟨a0, c0, [r15], none, 0, [], 0⟩ : Drv), _), ⟨DrM.start hs6 h15, rfl⟩, rfl, (HOk.dfrRun (vs := [r15]) (rs := []) (na := none) (nc := 0) (i := 0) (hH.take (.cons (.there .here) (.cons (.there (.there .here)) (.cons (.there (.there (.there (.there (.there .here))))) (.cons (.there (.there (.there (.there .here)))) .nil)))))).post⟩

theorem K28_go34 : isGo Tryz.prog 34 = true := by kernel_rfl
theorem K28_go35 : isGo Tryz.prog 35 = true := by kernel_rfl
theorem K28_go63 : isGo Tryz.prog 63 = true := by kernel_rfl
set_option maxRecDepth 100000 in
set_option maxHeartbeats 2000000 in
/-- semigroup/derive.replay -/
theorem replay_spec (w : World) (s : Ex) (X : Drv) (hX : Stays [] w (drm X)) (hM : DrX s X) (h2 : vdE 2 s = 0) (hf : simp s = s) : Calls Tryz.prog 37 #[drvv X] w (fun e w' => ∃ z : Nat × Nat × List Xv × Option Addr × Nat × List Nat × Option Addr × Nat × List Rw × List Nat, DrM s z.2.2.1 z.2.2.2.2.2.2.2.2.1 X.i ∧ e = .returned (.tuple #[.pointer (some ⟨z.1, 0, none⟩), .bool true]) ∧ Post [] [.row 68 5 (vb z.1) 1 [.int .i64 2, .slice z.2.2.2.1 (z.2.2.1).length z.2.2.2.2.1, .slice z.2.2.2.2.2.2.1 (z.2.2.2.2.2.2.2.2.1).length z.2.2.2.2.2.2.2.1, .int .i64 ((X.i : Nat) : Int), .map (some z.2.1)], .row 24 3 (.slice z.2.2.2.1 (z.2.2.1).length z.2.2.2.2.1) (z.2.2.1).length ((z.2.2.1).flatMap evc), fx (drm X) (z.2.2.1) z.2.2.2.2.2.1, .row 62 1 (.slice z.2.2.2.2.2.2.1 (z.2.2.2.2.2.2.2.2.1).length z.2.2.2.2.2.2.2.1) (z.2.2.2.2.2.2.2.2.1).length ((z.2.2.2.2.2.2.2.2.1).map rv), .frag z.2.2.2.2.2.2.2.2.2 (rws z.2.2.2.2.2.2.2.2.1), .blk z.2.1 (mapO sv (itA 0 ((z.2.2.1).map txk)))] w w') := by
 obtain ⟨h0, hd0⟩ := hM.head
 have h512 := hM.vl
 have hxa : X.a.isSome = true := hX.now.1.isSome (j := 0) (by rw [evcs_len]; omega)
 have h2x : vdE 2 (toE (X.vs.getD 0 ev0)) = 0 := by rw [hd0]; exact h2
 have h6 : vdE 6 s = 0 := vd26 h2
 refine enter (args := [drvv X]) [] 61 Tryz.func37 rfl rfl rfl ?_
 refine CT.seq (CT.region ?_)
 refine Wl.g rfl rfl (OpG.box (size := 4) rfl rfl rfl) ?_
 rintro b1 _
 refine Wl.q rfl rfl (OpQ.assign rfl) ?_
 refine Wl.q rfl rfl (OpQ.assign rfl) ?_
 refine Wl.nil (PX.then_n (CT.seq (CT.seq ?_)))
 refine CT.draw 20 K28_mixed ?_
 refine RA.q 0 (by kernel_rfl) rfl rfl rfl (.refl _) (OpQ.fieldAddr K28_fa43_1 rfl) ?_
 refine RA.q 1 (by kernel_rfl) rfl rfl rfl (.refl _) (OpQ.loadF (b := b1) K28_sc22 rfl (by repeat (first | exact Has.here | apply Has.there)) (by rfl)) ?_
 refine RA.q 2 (by kernel_rfl) rfl rfl rfl (.refl _) (OpQ.len K28_un22 rfl) ?_
 refine RA.q 3 (by kernel_rfl) rfl rfl rfl (.refl _) (OpQ.eql rfl rfl) ?_
 refine RA.know 9 (v' := .bool false) rfl (congrArg Value.bool (decide_eq_false (by omega))) ?_
 refine RA.q 4 (by kernel_rfl) rfl rfl rfl (.refl _) (OpQ.move rfl) ?_
 refine RA.q 5 (by kernel_rfl) rfl rfl rfl (.refl _) (OpQ.fieldAddr K28_fa43_1 rfl) ?_
 refine RA.q 6 (by kernel_rfl) rfl rfl rfl (.refl _) (OpQ.loadF (b := b1) K28_sc22 rfl (by repeat (first | exact Has.here | apply Has.there)) (by rfl)) ?_
 refine RA.q 7 (by kernel_rfl) rfl rfl rfl (.refl _) (OpQ.len K28_un22 rfl) ?_
 refine RA.q 8 (by kernel_rfl) rfl rfl rfl (.refl _) (OpQ.gtr rfl rfl) ?_
 refine RA.know 14 (v' := .bool false) rfl (congrArg Value.bool (decide_eq_false (by omega))) ?_
 refine RA.q 9 (by kernel_rfl) rfl rfl rfl (.refl _) (OpQ.pickF rfl rfl) ?_
 refine RA.q 10 (by kernel_rfl) rfl rfl rfl (.refl _) (OpQ.move rfl) ?_
 refine RA.q 11 (by kernel_rfl) rfl rfl rfl (.refl _) (OpQ.fieldAddr K28_fa43_1 rfl) ?_
 refine RA.q 12 (by kernel_rfl) rfl rfl rfl (.refl _) (OpQ.loadF (b := b1) K28_sc22 rfl (by repeat (first | exact Has.here | apply Has.there)) (by rfl)) ?_
 refine RA.q 13 (by kernel_rfl) rfl rfl rfl (.refl _) (OpQ.index K28_un22 K28_sz24 rfl rfl (by omega) hxa) ?_
 refine RA.q 14 (by kernel_rfl) rfl rfl rfl (.refl _) (OpQ.loadAggG (cs := evc (X.vs.getD 0 ev0)) K28_ag24 K28_sz24 rfl (fun w hH => (hH.use hX).1) (flat_cells evc_len X.vs ev0 h0)) ?_
 refine RA.know 20 (v' := evv (X.vs.getD 0 ev0)) rfl rfl ?_
 refine RA.q 15 (by kernel_rfl) rfl rfl rfl (.refl _) (OpQ.fieldAddr K28_fa43_0 rfl) ?_
 refine RA.q 16 (by kernel_rfl) rfl rfl rfl (.refl _) (OpQ.loadF (b := b1) K28_sc3 rfl (by repeat (first | exact Has.here | apply Has.there)) (by rfl)) ?_
 refine RA.f 17 (by kernel_rfl) rfl rfl rfl (OpG.callV K28_go32 rfl (fun w hH => exvalid_spec w (X.vs.getD 0 ev0) (fun w' he => ((hH.stays0 hX) w' he).2.1 _ (getD_memx h0)) 2)) (fun _ _ => (.refl _)) ?_
 rintro _ _
 refine RA.know 23 (v' := .int .i64 0) rfl (congrArg (Value.int .i64) h2x) ?_
 refine RA.q 18 (by kernel_rfl) rfl rfl rfl (.refl _) (OpQ.neq rfl rfl) ?_
 refine RA.know 24 (v' := .bool false) rfl (congrArg Value.bool rfl) ?_
 refine RA.q 19 (by kernel_rfl) rfl rfl rfl (.refl _) (OpQ.pickF rfl rfl) ?_
 refine RA.tail ?_
 refine RT.done (by kernel_rfl) ?_
 refine PX.then_n ?_
 refine CT.condF rfl ?_
 refine CT.skip (PX.then_n (CT.seq (CT.region ?_)))
 refine Wl.q rfl rfl (OpQ.fieldAddr K28_fa43_1 rfl) ?_
 refine Wl.q rfl rfl (OpQ.loadF (b := b1) K28_sc22 rfl (by repeat (first | exact Has.here | apply Has.there)) (by rfl)) ?_
 refine Wl.q rfl rfl (OpQ.index K28_un22 K28_sz24 rfl rfl (by omega) hxa) ?_
 refine Wl.q rfl rfl (OpQ.loadAggG (cs := evc (X.vs.getD 0 ev0)) K28_ag24 K28_sz24 rfl (fun w hH => (hH.use hX).1) (flat_cells evc_len X.vs ev0 h0)) ?_
 refine Wl.know 29 (v' := evv (X.vs.getD 0 ev0)) rfl rfl ?_
 refine Wl.g rfl rfl (OpG.callX K28_go21 rfl .nil (fun _ => (.cons .nil)) (fun w hH hp => normal_spec w (X.vs.getD 0 ev0) (fun w' he => ((hH.stays0 hX) w' he).2.1 _ (getD_memx h0)))) ?_
 rintro ⟨r, br⟩ hr
 have hr : toE r = s := by
  dsimp only at hr; rw [hd0, if_pos h6, hf] at hr; exact hr
 refine Wl.g rfl rfl (OpG.alloc (zs := [.int .i64 0, .int .i64 0, .slice none 0 0]) K28_in24 rfl rfl) ?_
 rintro b4 _
 refine Wl.g rfl rfl (OpG.storeV (b := b4) K28_sz24 rfl rfl rfl rfl (by repeat (first | exact Upd.here | apply Upd.there))) ?_
 rintro _ _
 refine Wl.nil (PX.then_n (CT.seq (CT.seq ?_)))
 refine CT.draw 7 K28_mixed ?_
 refine RA.q 0 (by kernel_rfl) rfl rfl rfl (.refl _) (OpQ.loadV (b := b4) K28_ag24 K28_sz24 rfl (by repeat (first | exact Has.here | apply Has.there)) (by rfl)) ?_
 refine RA.know 31 (v' := evv r) rfl rfl ?_
 refine RA.q 1 (by kernel_rfl) rfl rfl rfl (.refl _) (OpQ.fieldAddr K28_fa43_1 rfl) ?_
 refine RA.q 2 (by kernel_rfl) rfl rfl rfl (.refl _) (OpQ.loadF (b := b1) K28_sc22 rfl (by repeat (first | exact Has.here | apply Has.there)) (by rfl)) ?_
 refine RA.q 3 (by kernel_rfl) rfl rfl rfl (.refl _) (OpQ.index K28_un22 K28_sz24 rfl rfl (by omega) hxa) ?_
 refine RA.q 4 (by kernel_rfl) rfl rfl rfl (.refl _) (OpQ.loadAggG (cs := evc (X.vs.getD 0 ev0)) K28_ag24 K28_sz24 rfl (fun w hH => (hH.use hX).1) (flat_cells evc_len X.vs ev0 h0)) ?_
 refine RA.know 35 (v' := evv (X.vs.getD 0 ev0)) rfl rfl ?_
 refine RA.f 5 (by kernel_rfl) rfl rfl rfl (OpG.callV K28_go62 rfl (fun w hH => compare_spec r w (X.vs.getD 0 ev0) (fun w' he => ((hH.staysK0 (show Has _ (fx (AllM [(X.vs.getD 0 ev0)]) [r] br) from (by repeat (first | exact Has.here | apply Has.there)))).frag w' he (AllM.one.2 (((hH.stays0 hX) w' he).2.1 _ (getD_memx h0)))) r List.mem_cons_self) (fun w' he => ((hH.stays0 hX) w' he).2.1 _ (getD_memx h0)))) (fun _ _ => (.refl _)) ?_
 rintro _ _
 refine RA.know 36 (v' := .int .i64 0) rfl (congrArg (Value.int .i64) (by rw [hr, hd0]; exact cmp_self s)) ?_
 refine RA.q 6 (by kernel_rfl) rfl rfl rfl (.refl _) (OpQ.neq rfl rfl) ?_
 refine RA.know 37 (v' := .bool false) rfl (congrArg Value.bool rfl) ?_
 refine RA.tail ?_
 refine RT.done (by kernel_rfl) ?_
 refine PX.then_n ?_
 refine CT.condF rfl ?_
 refine CT.skip (PX.then_n (CT.seq (CT.region ?_)))
 refine Wl.q rfl rfl (OpQ.loadV (b := b4) K28_ag24 K28_sz24 rfl (by repeat (first | exact Has.here | apply Has.there)) (by rfl)) ?_
 refine Wl.know 38 (v' := evv r) rfl rfl ?_
 refine Wl.q rfl rfl (OpQ.fieldAddr K28_fa43_0 rfl) ?_
 refine Wl.q rfl rfl (OpQ.loadF (b := b1) K28_sc3 rfl (by repeat (first | exact Has.here | apply Has.there)) (by rfl)) ?_
 refine Wl.g rfl rfl (OpG.callX K28_go33 rfl .nil (fun _ => (.cons (.cons (.cons .nil)))) (fun w hH hp => begin_spec w r (fun w' he => ((hH.staysK0 (show Has _ (fx (AllM [(X.vs.getD 0 ev0)]) [r] br) from (by repeat (first | exact Has.here | apply Has.there)))).frag w' he (AllM.one.2 (((hH.stays0 hX) w' he).2.1 _ (getD_memx h0)))) r List.mem_cons_self) (by rw [hr]; exact h6))) ?_
 rintro ⟨b, m, a0, c0⟩ _
 refine Wl.q rfl rfl (OpQ.assign rfl) ?_
 refine Wl.nil (PX.then_n (CT.seq (CT.block ?_)))
 refine CT.as (fun _ h => (h.take (.cons (.there (.there (.there (.there .here)))) (.cons .here (.cons .here (.cons .here (.cons (.there .here) .nil)))))).fxUp (B := drm X) (fun w h => AllM.one.2 (h.2.1 _ (getD_memx h0)))) ?_
 refine CT.nilrow 62 1 ?_
 refine CT.as (fun _ h => h.bind0 (p := rws []) (rws_nil)) ?_
 refine CT.as (fun _ h => h.take (.cons (.there (.there (.there .here))) (.cons (.there (.there (.there .here))) (.cons (.there (.there .here)) (.cons (.there .here) (.cons .here (.cons .here (.cons .here .nil)))))))) ?_
 refine CT.loop (ι := Nat × List Xv × Option Addr × Nat × List Nat × Option Addr × Nat × List Rw × List Nat) (fun (j, vs, a, c, bs, na, nc, rs, gs) => j ≤ X.i ∧ DrM s vs rs j) (fun (j, vs, a, c, bs, na, nc, rs, gs) => [(1, .pointer (some ⟨b1, 0, none⟩)), (5, .pointer (some ⟨b, 0, none⟩))]) (fun (j, vs, a, c, bs, na, nc, rs, gs) => [.row 68 5 (vb b) 1 [.int .i64 2, .slice a (vs).length c, .slice na (rs).length nc, .int .i64 ((j : Nat) : Int), .map (some m)], .row 24 3 (.slice a (vs).length c) (vs).length ((vs).flatMap evc), fx (drm X) (vs) bs, .row 62 1 (.slice na (rs).length nc) (rs).length ((rs).map rv), .frag gs (rws rs), .blk m (mapO sv (itA 0 ((vs).map txk))), .row 43 4 (vb b1) 1 (drc X)]) (fun (j, vs, a, c, bs, na, nc, rs, gs) => X.i - j) (0, [r], a0, c0, br, none, 0, [], []) ⟨Nat.zero_le _, DrM.start h6 hr⟩ ⟨rfl, rfl, trivial⟩ (HSub.refl _) (fun ⟨j, vs, a, c, bs, na, nc, rs, gs⟩ ⟨hj, hMj⟩ K0 hK0 => ?_)
 dsimp only
 refine CT.seq (CT.seq ?_)
 refine CT.draw 8 K28_mixed ?_
 refine RA.q 0 (by kernel_rfl) rfl rfl rfl (.refl _) (OpQ.move rfl) ?_
 refine RA.q 1 (by kernel_rfl) rfl rfl rfl (.refl _) (OpQ.nilCheckP rfl) ?_
 refine RA.q 2 (by kernel_rfl) rfl rfl rfl (.refl _) (OpQ.fieldAddr K28_fa68_0 rfl) ?_
 refine RA.q 3 (by kernel_rfl) rfl rfl rfl (.refl _) (OpQ.fieldAddr K28_fa43_3 rfl) ?_
 refine RA.know 45 rfl (add_ptr _ _ _) ?_
 refine RA.q 4 (by kernel_rfl) rfl rfl rfl (.refl _) (OpQ.loadF (b := b) K28_sc3 rfl (by repeat (first | exact Has.here | apply Has.there)) (by rfl)) ?_
 refine RA.q 5 (by kernel_rfl) rfl rfl rfl (.refl _) (OpQ.fieldAddr K28_fa43_3 rfl) ?_
 refine RA.q 6 (by kernel_rfl) rfl rfl rfl (.refl _) (OpQ.loadF (b := b1) K28_sc3 rfl (by repeat (first | exact Has.here | apply Has.there)) (by rfl)) ?_
 refine RA.q 7 (by kernel_rfl) rfl rfl rfl (.refl _) (OpQ.lss rfl rfl) ?_
 refine RA.tail ?_
 refine RT.done (by kernel_rfl) ?_
 refine PX.then_n ?_
 refine CT.cond rfl (fun h49 => ?_) (fun h49 => ?_)
 ·
  have h49 := of_decide_eq_true h49
  have hji : j < X.i := by omega
  have hlt := hM.lt_of hMj hji
  refine CT.skip (PX.then_n (CT.block (CT.seq (CT.region ?_))))
  refine Wl.q rfl rfl (OpQ.move rfl) ?_
  refine Wl.g rfl rfl (OpG.callX K28_go34 rfl (.cons .here .nil) (fun _ => (.cons .nil)) (fun w hH hp => rfin_spec w b (.int .i64 2) (.slice na rs.length nc) (.map (some m)) a vs.length c ((j : Nat) : Int) hp)) ?_
  rintro _ _
  refine Wl.know 51 (v' := .bool false) rfl (congrArg Value.bool (decide_eq_false (by omega))) ?_
  refine Wl.q rfl rfl (OpQ.move rfl) ?_
  refine Wl.q rfl rfl (OpQ.move rfl) ?_
  refine Wl.g rfl rfl (OpG.callX K28_go35 rfl (.cons .here (.cons .here (.cons .here (.cons .here (.cons .here (.cons .here .nil)))))) (fun _ => (.cons (.cons (.cons (.cons (.cons (.cons .nil))))))) (fun w hH hp => rproc_spec w b m (drm X) s vs a c bs na nc rs gs j hp (hH.stays hX (.cons .here (.cons .here (.cons .here (.cons .here (.cons .here (.cons .here .nil))))))) hMj hlt)) ?_
  rintro ⟨vs2, a2, c2, bs2, na2, nc2, rs2, gs2, i2, er⟩ hp2
  dsimp only at hp2
  obtain ⟨rfl, hM2, rfl⟩ := hp2.resolve_right (fun hh => hM.no_bad hji hh.2)
  refine Wl.q rfl rfl (OpQ.neq rfl rfl) ?_
  refine Wl.know 55 (v' := .bool false) rfl (congrArg Value.bool rfl) ?_
  refine Wl.q rfl rfl (OpQ.pickF rfl rfl) ?_
  refine Wl.nil (PX.then_n ?_)
  refine CT.condF rfl ?_
  refine CT.skip (PX.block_n ?_)
  exact PX.loop hK0 (j + 1, vs2, a2, c2, bs2, na2, nc2, rs2, gs2) ⟨by omega, hM2⟩ (show X.i - (j + 1) < X.i - j by omega) ⟨rfl, rfl, trivial⟩ (HSub.refl _)
 ·
  have h49 := of_decide_eq_false h49
  obtain rfl : j = X.i := by omega
  obtain ⟨hs1, hs2⟩ := hMj.same hM
  have hrl := hMj.rl
  have hvl := hMj.vl
  have hir := hMj.le
  refine CT.exit (PX.then_x (PX.then_x (PX.block_x (PX.then_n (CT.seq (CT.region ?_))))))
  refine Wl.q rfl rfl (OpQ.move rfl) ?_
  refine Wl.q rfl rfl (OpQ.move rfl) ?_
  refine Wl.q rfl rfl (OpQ.loadV (b := b1) K28_ag43 K28_sz43 rfl (by repeat (first | exact Has.here | apply Has.there)) (by rfl)) ?_
  refine Wl.know 59 (v' := drvv X) rfl rfl ?_
  refine Wl.g rfl rfl (OpG.callX K28_go63 rfl (.cons .here .nil) (fun _ => (.cons .nil)) (fun w hH hp => ris_spec w b m vs a c na nc rs X hp (fun w' he => ⟨(hH.staysK (.cons .here .nil) (show Has _ (.row 24 3 (.slice a (vs).length c) (vs).length ((vs).flatMap evc)) from (by repeat (first | exact Has.here | apply Has.there)))).rd w' he, (hH.staysK (.cons .here .nil) (show Has _ (fx (drm X) (vs) bs) from (by repeat (first | exact Has.here | apply Has.there)))).frag w' he ((hH.stays hX (.cons .here .nil)) w' he), by omega⟩) (fun w' he => ⟨(hH.staysK (.cons .here .nil) (show Has _ (.row 62 1 (.slice na (rs).length nc) (rs).length ((rs).map rv)) from (by repeat (first | exact Has.here | apply Has.there)))).rd w' he, (hH.staysK (.cons .here .nil) (show Has _ (.frag gs (rws rs)) from (by repeat (first | exact Has.here | apply Has.there)))).frag w' he⟩) (hH.stays hX (.cons .here .nil)) hs1 hs2 (by omega) (by omega) (fun i hi => by rw [drm_row hMj (by omega)]; omega))) ?_
  rintro _ _
  refine Wl.q rfl rfl (OpQ.assign rfl) ?_
  refine Wl.q rfl rfl (OpQ.assign rfl) ?_
  refine Wl.nil (PX.then_n (CT.ret ?_))
  refine PX.ret2 rfl rfl rfl (fun w' hH => ?_)
  exact ⟨(b, m, vs, a, c, bs, na, nc, rs, gs), hMj, rfl, (hH.take (.cons .here (.cons .here (.cons .here (.cons .here (.cons .here (.cons .here .nil))))))).post⟩

theorem K28_go37 : isGo Tryz.prog 37 = true := by kernel_rfl
theorem K28_pl43 : placesB Tryz.prog 43 = some (#[.int .i64 0, .slice none 0 0, .slice none 0 0, .int .i64 0], [(0, 1), (1, 1), (2, 1), (3, 1)]) := by kernel_rfl
set_option maxRecDepth 100000 in
set_option maxHeartbeats 2000000 in
/-- semigroup/derive.Step -/
theorem step_spec (w : World) (s : Ex) (X : Drv) (hX : Stays [] w (drm X)) (hM : DrX s X) (h2 : vdE 2 s = 0) (hf : simp s = s) (n : Nat) (hn : n ≤ 1000) : Calls Tryz.prog 18 #[drvv X, .int .i64 ((n : Nat) : Int)] w (fun e w' => ∃ z : Drv × List Nat × Int × Int, ((z.2.2.1 = 0 ∧ z.2.2.2 = 2 ∧ DrX s z.1 ∧ (z.1.i = z.1.vs.length ∨ z.1.i = X.i + n)) ∨ (z.2.2.1 = 3 ∧ ∃ j, BadE s j)) ∧ e = .returned (.tuple #[drvL z.2.2.2 z.1, .int .i64 z.2.2.1]) ∧ Post [] [dfr (drm X) z.1 z.2.1] w w') := by
 have hXi := hM.le
 have hXv := hM.vl
 refine enter (args := [drvv X, .int .i64 ((n : Nat) : Int)]) [] 39 Tryz.func18 rfl rfl rfl ?_
 refine CT.seq (CT.region ?_)
 refine Wl.g rfl rfl (OpG.box (size := 4) rfl rfl rfl) ?_
 rintro b2 _
 refine Wl.g rfl rfl (OpG.alloc (zs := [.int .i64 0, .slice none 0 0, .slice none 0 0, .int .i64 0]) K28_in43 rfl rfl) ?_
 rintro b4 _
 refine Wl.q rfl rfl (OpQ.assign rfl) ?_
 refine Wl.nil (PX.then_n (CT.seq (CT.region ?_)))
 refine Wl.q rfl rfl (OpQ.loadV (b := b2) K28_ag43 K28_sz43 rfl (by repeat (first | exact Has.here | apply Has.there)) (by rfl)) ?_
 refine Wl.know 10 (v' := drvv X) rfl rfl ?_
 refine Wl.g rfl rfl (OpG.callX K28_go37 rfl .nil (fun _ => (.cons (.cons (.cons (.cons (.cons (.cons .nil))))))) (fun w hH hp => replay_spec w s X (hH.stays0 hX) hM h2 hf)) ?_
 rintro ⟨b, m, vs, a, c, bs, na, nc, rs, gs⟩ hMj
 dsimp only at hMj
 refine Wl.q rfl rfl (OpQ.move rfl) ?_
 refine Wl.q rfl rfl (OpQ.extract rfl rfl) ?_
 refine Wl.know 12 (v' := .pointer (some ⟨b, 0, none⟩)) rfl rfl ?_
 refine Wl.q rfl rfl (OpQ.extract rfl rfl) ?_
 refine Wl.know 13 (v' := .bool true) rfl (congrArg Value.bool rfl) ?_
 refine Wl.q rfl rfl (OpQ.assign rfl) ?_
 refine Wl.q rfl rfl (OpQ.assign rfl) ?_
 refine Wl.nil (PX.then_n (CT.seq (CT.seq (CT.region ?_))))
 refine Wl.q rfl rfl (OpQ.move rfl) ?_
 refine Wl.q rfl rfl (OpQ.not rfl) ?_
 refine Wl.know 15 (v' := .bool false) rfl (congrArg Value.bool rfl) ?_
 refine Wl.nil (PX.then_n ?_)
 refine CT.condF rfl ?_
 refine CT.skip (PX.then_n (CT.seq (CT.seq (CT.region ?_))))
 refine Wl.q rfl rfl (OpQ.move rfl) ?_
 refine Wl.q rfl rfl (OpQ.lss rfl rfl) ?_
 refine Wl.know 18 (v' := .bool false) rfl (congrArg Value.bool (decide_eq_false (by omega))) ?_
 refine Wl.nil (PX.then_n ?_)
 refine CT.condF rfl ?_
 refine CT.skip (PX.then_n (CT.seq (CT.block ?_)))
 refine CT.loop (ι := Nat × Nat × List Xv × Option Addr × Nat × List Nat × Option Addr × Nat × List Rw × List Nat) (fun (k, j, vs, a, c, bs, na, nc, rs, gs) => j + k = X.i + n ∧ DrM s vs rs j) (fun (k, j, vs, a, c, bs, na, nc, rs, gs) => [(1, .int .i64 ((k : Nat) : Int)), (4, .pointer (some ⟨b4, 0, none⟩)), (6, .pointer (some ⟨b, 0, none⟩))]) (fun (k, j, vs, a, c, bs, na, nc, rs, gs) => [.row 68 5 (vb b) 1 [.int .i64 2, .slice a (vs).length c, .slice na (rs).length nc, .int .i64 ((j : Nat) : Int), .map (some m)], .row 24 3 (.slice a (vs).length c) (vs).length ((vs).flatMap evc), fx (drm X) (vs) bs, .row 62 1 (.slice na (rs).length nc) (rs).length ((rs).map rv), .frag gs (rws rs), .blk m (mapO sv (itA 0 ((vs).map txk))), .row 43 4 (vb b4) 1 [.int .i64 0, .slice none 0 0, .slice none 0 0, .int .i64 0], .row 43 4 (vb b2) 1 (drc X)]) (fun (k, j, vs, a, c, bs, na, nc, rs, gs) => k) (n, X.i, vs, a, c, bs, na, nc, rs, gs) ⟨rfl, hMj⟩ ⟨rfl, rfl, rfl, trivial⟩ (HSub.refl _) (fun ⟨k, j, vs, a, c, bs, na, nc, rs, gs⟩ ⟨hk, hMj⟩ K0 hK0 => ?_)
 dsimp only
 refine CT.seq (CT.seq (CT.region ?_))
 refine Wl.q rfl rfl (OpQ.move rfl) ?_
 refine Wl.q rfl rfl (OpQ.gtr rfl rfl) ?_
 refine Wl.q rfl rfl (OpQ.move rfl) ?_
 refine Wl.split 22 rfl (fun hg22 => ?_) (fun hg22 => ?_)
 ·
  have hg22 := of_decide_eq_true hg22
  refine Wl.q rfl rfl (OpQ.move rfl) ?_
  refine Wl.g rfl rfl (OpG.callX K28_go34 rfl (.cons .here .nil) (fun _ => (.cons .nil)) (fun w hH hp => rfin_spec w b (.int .i64 2) (.slice na rs.length nc) (.map (some m)) a vs.length c ((j : Nat) : Int) hp)) ?_
  rintro _ _
  refine Wl.q rfl rfl (OpQ.not rfl) ?_
  refine Wl.q rfl rfl (OpQ.pickT rfl rfl) ?_
  refine Wl.nil (PX.then_n ?_)
  refine CT.cond rfl (fun h26 => ?_) (fun h26 => ?_)
  ·
   have hlt : j < vs.length := by have h : ¬ ((j : Nat) : Int) = ((vs.length : Nat) : Int) := of_nd_t h26; have := hMj.le; omega
   refine CT.skip (PX.then_n (CT.seq (CT.block (CT.seq (CT.region ?_)))))
   refine Wl.q rfl rfl (OpQ.move rfl) ?_
   refine Wl.g rfl rfl (OpG.callX K28_go35 rfl (.cons .here (.cons .here (.cons .here (.cons .here (.cons .here (.cons .here .nil)))))) (fun _ => (.cons (.cons (.cons (.cons (.cons (.cons .nil))))))) (fun w hH hp => rproc_spec w b m (drm X) s vs a c bs na nc rs gs j hp (hH.stays hX (.cons .here (.cons .here (.cons .here (.cons .here (.cons .here (.cons .here .nil))))))) hMj hlt)) ?_
   rintro ⟨vs2, a2, c2, bs2, na2, nc2, rs2, gs2, i2, er⟩ hp2
   dsimp only at hp2
   refine Wl.q rfl rfl (OpQ.assign rfl) ?_
   refine Wl.nil (PX.then_n (CT.seq (CT.region ?_)))
   refine Wl.q rfl rfl (OpQ.move rfl) ?_
   refine Wl.q rfl rfl (OpQ.neq rfl rfl) ?_
   refine Wl.nil (PX.then_n ?_)
   refine CT.cond rfl (fun h32 => ?_) (fun h32 => ?_)
   ·
    have h32 := of_nd_t h32
    obtain ⟨rfl, hbad⟩ := hp2.resolve_left (fun hh => h32 hh.1)
    refine CT.seq (CT.region ?_)
    refine Wl.q rfl rfl (OpQ.build (cells := #[.int .i64 0, .slice none 0 0, .slice none 0 0, .int .i64 0]) K28_pl43 rfl rfl) ?_
    refine Wl.q rfl rfl (OpQ.move rfl) ?_
    refine Wl.g rfl rfl (OpG.storeV (b := b4) K28_sz43 rfl rfl rfl rfl (by repeat (first | exact Upd.here | apply Upd.there))) ?_
    rintro _ _
    refine Wl.q rfl rfl (OpQ.assign rfl) ?_
    refine Wl.nil (PX.then_n (CT.ret (PX.block_r (PX.then_r (PX.then_r (PX.block_r (PX.then_r ?_)))))))
    refine PX.retC2 rfl rfl rfl (by repeat (first | exact Has.here | apply Has.there)) K28_ag43 K28_sz43 (by rfl) (fun w' hH => ?_)
    exact ⟨(drv0, [], 3, 0), .inr ⟨rfl, j, hbad⟩, rfl, ((hH.bind0 (p := fun w => drm X w → drm drv0 w) (fun w _ => drm0 w)).take (.cons .here .nil)).post⟩
   ·
    have h32 := of_nd_f h32
    obtain ⟨_, hM2, rfl⟩ := hp2.resolve_right (fun hh => by have h1 := hh.1; have h2 : er = 0 := h32; omega)
    refine CT.skip (PX.block_n (PX.then_n (CT.region ?_)))
    refine Wl.q rfl rfl (OpQ.move rfl) ?_
    refine Wl.q rfl rfl (OpQ.sub rfl rfl (by omega)) ?_
    refine Wl.know 28 (v' := .int .i64 (((k - 1) : Nat) : Int)) rfl (congrArg (Value.int .i64) (by omega)) ?_
    refine Wl.q rfl rfl (OpQ.assign rfl) ?_
    refine Wl.nil ?_
    exact PX.loop hK0 (k - 1, j + 1, vs2, a2, c2, bs2, na2, nc2, rs2, gs2) ⟨by omega, hM2⟩ (show k - 1 < k by omega) ⟨rfl, rfl, rfl, trivial⟩ (HSub.refl _)
  ·
   have hii : j = vs.length := by have h : ((j : Nat) : Int) = ((vs.length : Nat) : Int) := of_nd_f h26; omega
   refine CT.exit (PX.then_x (PX.then_x (PX.block_x (PX.then_n (CT.seq (CT.region ?_))))))
   refine Wl.q rfl rfl (OpQ.move rfl) ?_
   refine Wl.q rfl rfl (OpQ.nilCheckP rfl) ?_
   refine Wl.q rfl rfl (OpQ.fieldAddr K28_fa68_0 rfl) ?_
   refine Wl.q rfl rfl (OpQ.loadFA (b := b) (cs := drc (⟨a, c, vs, na, nc, rs, j⟩ : Drv)) K28_ag43 K28_sz43 rfl (by repeat (first | exact Has.here | apply Has.there)) (fun k v hk => pre4 hk)) ?_
   refine Wl.know 38 (v' := drvv (⟨a, c, vs, na, nc, rs, j⟩ : Drv)) rfl rfl ?_
   refine Wl.g rfl rfl (OpG.storeV (b := b4) K28_sz43 rfl rfl rfl rfl (by repeat (first | exact Upd.here | apply Upd.there))) ?_
   rintro _ _
   refine Wl.q rfl rfl (OpQ.assign rfl) ?_
   refine Wl.nil (PX.then_n (CT.ret ?_))
   refine PX.retC2 rfl rfl rfl (by repeat (first | exact Has.here | apply Has.there)) K28_ag43 K28_sz43 (by rfl) (fun w' hH => ?_)
   exact ⟨((⟨a, c, vs, na, nc, rs, j⟩ : Drv), _, 0, 2), .inl ⟨rfl, rfl, hMj, .inl hii⟩, rfl, (HOk.dfrRun (i := j) (hH.take (.cons (.there .here) (.cons (.there .here) (.cons (.there .here) (.cons (.there .here) .nil)))))).post⟩
 ·
  have hg22 := of_decide_eq_false hg22
  refine Wl.skip rfl rfl ?_
  refine Wl.skip rfl rfl ?_
  refine Wl.skip rfl rfl ?_
  refine Wl.q rfl rfl (OpQ.pickF rfl rfl) ?_
  refine Wl.nil (PX.then_n ?_)
  refine CT.condF rfl ?_
  refine CT.exit (PX.then_x (PX.then_x (PX.block_x (PX.then_n (CT.seq (CT.region ?_))))))
  refine Wl.q rfl rfl (OpQ.move rfl) ?_
  refine Wl.q rfl rfl (OpQ.nilCheckP rfl) ?_
  refine Wl.q rfl rfl (OpQ.fieldAddr K28_fa68_0 rfl) ?_
  refine Wl.q rfl rfl (OpQ.loadFA (b := b) (cs := drc (⟨a, c, vs, na, nc, rs, j⟩ : Drv)) K28_ag43 K28_sz43 rfl (by repeat (first | exact Has.here | apply Has.there)) (fun k v hk => pre4 hk)) ?_
  refine Wl.know 38 (v' := drvv (⟨a, c, vs, na, nc, rs, j⟩ : Drv)) rfl rfl ?_
  refine Wl.g rfl rfl (OpG.storeV (b := b4) K28_sz43 rfl rfl rfl rfl (by repeat (first | exact Upd.here | apply Upd.there))) ?_
  rintro _ _
  refine Wl.q rfl rfl (OpQ.assign rfl) ?_
  refine Wl.nil (PX.then_n (CT.ret ?_))
  refine PX.retC2 rfl rfl rfl (by repeat (first | exact Has.here | apply Has.there)) K28_ag43 K28_sz43 (by rfl) (fun w' hH => ?_)
  exact ⟨((⟨a, c, vs, na, nc, rs, j⟩ : Drv), _, 0, 2), .inl ⟨rfl, rfl, hMj, .inr (by show j = X.i + n; omega)⟩, rfl, (HOk.dfrRun (i := j) (hH.take (.cons (.there .here) (.cons (.there .here) (.cons (.there .here) (.cons (.there .here) .nil)))))).post⟩

theorem K28_in30 : (Tryz.prog.info? 30).map (fun i => (i.zero, i.size, i.bytes)) = some (some (.agg #[.int .i64 0, .int .i64 0, .slice none 0 0, .slice none 0 0]), 4, 64) := by kernel_rfl
theorem K28_go36 : isGo Tryz.prog 36 = true := by kernel_rfl
theorem K28_sz30 : sizeB Tryz.prog 30 = some 4 := by kernel_rfl
theorem K28_ag30 : isAggB Tryz.prog 30 = some true := by kernel_rfl
set_option maxRecDepth 100000 in
/-- semigroup/derive.Automaton -/
theorem sauto_spec (w : World) (s : Ex) (X : Drv) (hX : Stays [] w (drm X)) (hM : DrX s X) (h2 : vdE 2 s = 0) (hf : simp s = s) (hi : X.i = X.vs.length) : Calls Tryz.prog 19 #[drvv X] w (fun e w' => ∃ z : Dv × List Nat, z.1.Is (autoD dF 2 s (X.i * 2) hasU) ∧ e = .returned (.tuple #[dvv z.1, .int .i64 0]) ∧ Post [] [.frag z.2 (dvm z.1)] w w') := by
 refine enter (args := [drvv X]) [] 20 Tryz.func19 rfl rfl rfl ?_
 refine CT.seq (CT.region ?_)
 refine Wl.g rfl rfl (OpG.box (size := 4) rfl rfl rfl) ?_
 rintro b1 _
 refine Wl.g rfl rfl (OpG.alloc (zs := [.int .i64 0, .int .i64 0, .slice none 0 0, .slice none 0 0]) K28_in30 rfl rfl) ?_
 rintro b2 _
 refine Wl.q rfl rfl (OpQ.assign rfl) ?_
 refine Wl.nil (PX.then_n (CT.seq (CT.region ?_)))
 refine Wl.q rfl rfl (OpQ.loadV (b := b1) K28_ag43 K28_sz43 rfl (by repeat (first | exact Has.here | apply Has.there)) (by rfl)) ?_
 refine Wl.know 7 (v' := drvv X) rfl rfl ?_
 refine Wl.g rfl rfl (OpG.callX K28_go37 rfl .nil (fun _ => (.cons (.cons (.cons (.cons (.cons (.cons .nil))))))) (fun w hH hp => replay_spec w s X (hH.stays0 hX) hM h2 hf)) ?_
 rintro ⟨b, m, vs, a, c, bs, na, nc, rs, gs⟩ hMj
 dsimp only at hMj
 obtain ⟨hs1, hs2⟩ := hMj.same hM
 have hvl : vs.length = X.vs.length := by have h := congrArg List.length hs1; rwa [List.length_map, List.length_map] at h
 have hii : X.i = vs.length := by omega
 refine Wl.q rfl rfl (OpQ.move rfl) ?_
 refine Wl.q rfl rfl (OpQ.extract rfl rfl) ?_
 refine Wl.know 9 (v' := .pointer (some ⟨b, 0, none⟩)) rfl rfl ?_
 refine Wl.q rfl rfl (OpQ.extract rfl rfl) ?_
 refine Wl.know 10 (v' := .bool true) rfl (congrArg Value.bool rfl) ?_
 refine Wl.q rfl rfl (OpQ.assign rfl) ?_
 refine Wl.q rfl rfl (OpQ.assign rfl) ?_
 refine Wl.nil (PX.then_n (CT.seq (CT.seq (CT.region ?_))))
 refine Wl.q rfl rfl (OpQ.move rfl) ?_
 refine Wl.q rfl rfl (OpQ.not rfl) ?_
 refine Wl.know 12 (v' := .bool false) rfl (congrArg Value.bool rfl) ?_
 refine Wl.nil (PX.then_n ?_)
 refine CT.condF rfl ?_
 refine CT.skip (PX.then_n (CT.seq (CT.seq (CT.region ?_))))
 refine Wl.q rfl rfl (OpQ.move rfl) ?_
 refine Wl.g rfl rfl (OpG.callX K28_go34 rfl (.cons .here .nil) (fun _ => (.cons .nil)) (fun w hH hp => rfin_spec w b (.int .i64 2) (.slice na rs.length nc) (.map (some m)) a vs.length c ((X.i : Nat) : Int) hp)) ?_
 rintro _ _
 refine Wl.know 15 (v' := .bool true) rfl (congrArg Value.bool (decide_eq_true (by omega))) ?_
 refine Wl.q rfl rfl (OpQ.not rfl) ?_
 refine Wl.know 16 (v' := .bool false) rfl (congrArg Value.bool rfl) ?_
 refine Wl.nil (PX.then_n ?_)
 refine CT.condF rfl ?_
 refine CT.skip (PX.then_n (CT.seq (CT.region ?_)))
 refine Wl.q rfl rfl (OpQ.move rfl) ?_
 refine Wl.g rfl rfl (OpG.callX K28_go36 rfl (.cons .here (.cons .here (.cons .here (.cons .here (.cons .here (.cons .here .nil)))))) (fun _ => (.cons .nil)) (fun w hH hp => rauto_spec w b m (drm X) s vs a c bs na nc rs gs X.i hp (hH.stays hX (.cons .here (.cons .here (.cons .here (.cons .here (.cons .here (.cons .here .nil))))))) hMj hii)) ?_
 rintro ⟨D, gs3⟩ hIs
 refine Wl.g rfl rfl (OpG.storeV (b := b2) K28_sz30 rfl rfl rfl rfl (by repeat (first | exact Upd.here | apply Upd.there))) ?_
 rintro _ _
 refine Wl.q rfl rfl (OpQ.assign rfl) ?_
 refine Wl.nil (PX.then_n (CT.ret ?_))
 refine PX.retC2 rfl rfl rfl (by repeat (first | exact Has.here | apply Has.there)) K28_ag30 K28_sz30 (by rfl) (fun w' hH => ?_)
 exact ⟨(D, gs3), hIs, rfl, (hH.take (.cons .here .nil)).post⟩

set_option maxRecDepth 100000 in
/-- semigroup/derive.Finished -/
theorem sfin_spec (w : World) (s : Ex) (X : Drv) (hX : Stays [] w (drm X)) (hM : DrX s X) (h2 : vdE 2 s = 0) (hf : simp s = s) (hi : X.i = X.vs.length) : Calls Tryz.prog 20 #[drvv X] w (fun e w' => e = .returned (.bool true) ∧ Ext [] w w') := by
 refine enter (args := [drvv X]) [] 15 Tryz.func20 rfl rfl rfl ?_
 refine CT.seq (CT.region ?_)
 refine Wl.g rfl rfl (OpG.box (size := 4) rfl rfl rfl) ?_
 rintro b1 _
 refine Wl.q rfl rfl (OpQ.assign rfl) ?_
 refine Wl.nil (PX.then_n (CT.seq (CT.region ?_)))
 refine Wl.q rfl rfl (OpQ.loadV (b := b1) K28_ag43 K28_sz43 rfl (by repeat (first | exact Has.here | apply Has.there)) (by rfl)) ?_
 refine Wl.know 6 (v' := drvv X) rfl rfl ?_
 refine Wl.g rfl rfl (OpG.callX K28_go37 rfl .nil (fun _ => (.cons (.cons (.cons (.cons (.cons (.cons .nil))))))) (fun w hH hp => replay_spec w s X (hH.stays0 hX) hM h2 hf)) ?_
 rintro ⟨b, m, vs, a, c, bs, na, nc, rs, gs⟩ hMj
 dsimp only at hMj
 obtain ⟨hs1, hs2⟩ := hMj.same hM
 have hvl : vs.length = X.vs.length := by have h := congrArg List.length hs1; rwa [List.length_map, List.length_map] at h
 have hii : X.i = vs.length := by omega
 refine Wl.q rfl rfl (OpQ.move rfl) ?_
 refine Wl.q rfl rfl (OpQ.extract rfl rfl) ?_
 refine Wl.know 8 (v' := .pointer (some ⟨b, 0, none⟩)) rfl rfl ?_
 refine Wl.q rfl rfl (OpQ.extract rfl rfl) ?_
 refine Wl.know 9 (v' := .bool true) rfl (congrArg Value.bool rfl) ?_
 refine Wl.q rfl rfl (OpQ.assign rfl) ?_
 refine Wl.q rfl rfl (OpQ.assign rfl) ?_
 refine Wl.nil (PX.then_n (CT.seq (CT.region ?_)))
 refine Wl.q rfl rfl (OpQ.move rfl) ?_
 refine Wl.q rfl rfl (OpQ.move rfl) ?_
 refine Wl.q rfl rfl (OpQ.move rfl) ?_
 refine Wl.g rfl rfl (OpG.callX K28_go34 rfl (.cons .here .nil) (fun _ => (.cons .nil)) (fun w hH hp => rfin_spec w b (.int .i64 2) (.slice na rs.length nc) (.map (some m)) a vs.length c ((X.i : Nat) : Int) hp)) ?_
 rintro _ _
 refine Wl.know 13 (v' := .bool true) rfl (congrArg Value.bool (decide_eq_true (by omega))) ?_
 refine Wl.q rfl rfl (OpQ.pickT rfl rfl) ?_
 refine Wl.q rfl rfl (OpQ.assign rfl) ?_
 refine Wl.nil (PX.then_n (CT.ret ?_))
 refine PX.ret1 rfl rfl (fun w' hH => ?_)
 exact ⟨rfl, hH.ext⟩

end Go.Proofs.YtmggcdegekbncabGreatDoor

