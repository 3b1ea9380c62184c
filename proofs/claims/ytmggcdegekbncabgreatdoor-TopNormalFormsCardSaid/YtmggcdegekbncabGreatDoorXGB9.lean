/-
  What functions of the program compute, each by its walk. Conditions: those that each theorem names.
-/
import Derived.Test.YtmggcdegekbncabGreatDoorEng1
import Derived.Test.YtmggcdegekbncabGreatDoorXGB8
import Derived.Test.YtmggcdegekbncabGreatDoorXF
set_option linter.unusedSimpArgs false
namespace Go.Proofs.YtmggcdegekbncabGreatDoor
open Go Go.Eng Go.Am Go.Ex
open Go.Tp (zi)
open Go.Tl (mayL Wd okW okB bo)
open Go.Ex.simp (simpL)
open Go.Ex.dv (dvL dvC)
open Go.Ex.hasU (hasAny hasAll)
open Go.Ex.wf (wfL)
open Go.Ex.szE (szL)
open Go.Ex.dpE (dpL)
open Go.Ex.cmpE (cmpL)
open Go.Ex.fmtE (fmtK fmtR)
theorem K9_fa24_0 : fieldB Tryz.prog 24 0 = some 0 := by kernel_rfl
theorem K9_sc3 : scalarB Tryz.prog 3 = some true := by kernel_rfl
set_option maxRecDepth 100000 in
/-- semigroup/expr.isEmpty -/
theorem isEmpty_spec (w : World) (v : Xv) : Calls Tryz.prog 118 #[evv v] w (fun e w' => e = .returned (.bool (isOp 1 (toE v))) ∧ Ext [] w w') := by
 refine enter (args := [evv v]) [] 6 Tryz.func118 rfl rfl rfl ?_
 refine CT.seq (CT.region ?_)
 refine Wl.g rfl rfl (OpG.box (size := 3) rfl rfl rfl) ?_
 rintro b1 _
 refine Wl.q rfl rfl (OpQ.assign rfl) ?_
 refine Wl.nil (PX.then_n (CT.seq (CT.region ?_)))
 refine Wl.q rfl rfl (OpQ.fieldAddr K9_fa24_0 rfl) ?_
 refine Wl.q rfl rfl (OpQ.loadF (b := b1) K9_sc3 rfl (by repeat (first | exact Has.here | apply Has.there)) (by rfl)) ?_
 refine Wl.q rfl rfl (OpQ.eql rfl rfl) ?_
 refine Wl.q rfl rfl (OpQ.assign rfl) ?_
 refine Wl.nil (PX.then_n (CT.ret ?_))
 refine PX.ret1 rfl rfl (fun w' hH => ?_)
 exact ⟨by rw [isOp_toE], hH.ext⟩

set_option maxRecDepth 100000 in
/-- semigroup/expr.isUnit -/
theorem isUnit_spec (w : World) (v : Xv) : Calls Tryz.prog 122 #[evv v] w (fun e w' => e = .returned (.bool (isOp 2 (toE v))) ∧ Ext [] w w') := by
 refine enter (args := [evv v]) [] 6 Tryz.func122 rfl rfl rfl ?_
 refine CT.seq (CT.region ?_)
 refine Wl.g rfl rfl (OpG.box (size := 3) rfl rfl rfl) ?_
 rintro b1 _
 refine Wl.q rfl rfl (OpQ.assign rfl) ?_
 refine Wl.nil (PX.then_n (CT.seq (CT.region ?_)))
 refine Wl.q rfl rfl (OpQ.fieldAddr K9_fa24_0 rfl) ?_
 refine Wl.q rfl rfl (OpQ.loadF (b := b1) K9_sc3 rfl (by repeat (first | exact Has.here | apply Has.there)) (by rfl)) ?_
 refine Wl.q rfl rfl (OpQ.eql rfl rfl) ?_
 refine Wl.q rfl rfl (OpQ.assign rfl) ?_
 refine Wl.nil (PX.then_n (CT.ret ?_))
 refine PX.ret1 rfl rfl (fun w' hH => ?_)
 exact ⟨by rw [isOp_toE], hH.ext⟩

theorem K9_fa24_2 : fieldB Tryz.prog 24 2 = some 2 := by kernel_rfl
theorem K9_sc22 : scalarB Tryz.prog 22 = some true := by kernel_rfl
theorem K9_un22 : Tryz.prog.underlying 22 = some (.slice 24) := by kernel_rfl
theorem K9_sz24 : sizeB Tryz.prog 24 = some 3 := by kernel_rfl
theorem K9_ag24 : isAggB Tryz.prog 24 = some true := by kernel_rfl
theorem K9_go118 : isGo Tryz.prog 118 = true := by kernel_rfl
set_option maxRecDepth 100000 in
/-- semigroup/expr.isUniversal -/
theorem isUniv_spec (w : World) (v : Xv) (hv : Stays [] w (evm v)) : Calls Tryz.prog 95 #[evv v] w (fun e w' => e = .returned (.bool (isUni (toE v))) ∧ Ext [] w w') := by
 have hva : 0 < v.ks.length → v.a.isSome = true := fun h => (evm_iff.1 hv.now).1.isSome (j := 0) (by rw [flat_len evc_len]; omega)
 have hvl := (evm_iff.1 hv.now).2.2
 refine enter (args := [evv v]) [] 19 Tryz.func95 rfl rfl rfl ?_
 refine CT.seq (CT.region ?_)
 refine Wl.g rfl rfl (OpG.box (size := 3) rfl rfl rfl) ?_
 rintro b1 _
 refine Wl.q rfl rfl (OpQ.assign rfl) ?_
 refine Wl.nil (PX.then_n (CT.seq (CT.region ?_)))
 refine Wl.q rfl rfl (OpQ.fieldAddr K9_fa24_0 rfl) ?_
 refine Wl.q rfl rfl (OpQ.loadF (b := b1) K9_sc3 rfl (by repeat (first | exact Has.here | apply Has.there)) (by rfl)) ?_
 refine Wl.q rfl rfl (OpQ.eql rfl rfl) ?_
 refine Wl.q rfl rfl (OpQ.move rfl) ?_
 refine Wl.split 6 rfl (fun hg6 => ?_) (fun hg6 => ?_)
 ·
  have hg6 := of_decide_eq_true hg6
  refine Wl.q rfl rfl (OpQ.fieldAddr K9_fa24_2 rfl) ?_
  refine Wl.q rfl rfl (OpQ.loadF (b := b1) K9_sc22 rfl (by repeat (first | exact Has.here | apply Has.there)) (by rfl)) ?_
  refine Wl.q rfl rfl (OpQ.len K9_un22 rfl) ?_
  refine Wl.q rfl rfl (OpQ.eql rfl rfl) ?_
  refine Wl.q rfl rfl (OpQ.pickT rfl rfl) ?_
  refine Wl.q rfl rfl (OpQ.move rfl) ?_
  refine Wl.split 12 rfl (fun hg12 => ?_) (fun hg12 => ?_)
  ·
   have hg12 := of_decide_eq_true hg12
   refine Wl.q rfl rfl (OpQ.fieldAddr K9_fa24_2 rfl) ?_
   refine Wl.q rfl rfl (OpQ.loadF (b := b1) K9_sc22 rfl (by repeat (first | exact Has.here | apply Has.there)) (by rfl)) ?_
   refine Wl.q rfl rfl (OpQ.index K9_un22 K9_sz24 rfl rfl (by omega) (hva (by omega))) ?_
   refine Wl.q rfl rfl (OpQ.loadAggG (cs := evc (v.ks.getD 0 ev0)) K9_ag24 K9_sz24 rfl (fun w hH => (evm_iff.1 (hH.use hv)).1) (flat_cells evc_len v.ks ev0 (by omega))) ?_
   refine Wl.know 16 (v' := evv (v.ks.getD 0 ev0)) rfl rfl ?_
   refine Wl.g rfl rfl (OpG.callV K9_go118 rfl (fun w hH => isEmpty_spec w _)) ?_
   rintro _ _
   refine Wl.q rfl rfl (OpQ.pickT rfl rfl) ?_
   refine Wl.q rfl rfl (OpQ.assign rfl) ?_
   refine Wl.nil (PX.then_n (CT.ret ?_))
   refine PX.ret1 rfl rfl (fun w' hH => ?_)
   exact ⟨by rw [isUni_toE, decide_eq_true hg6, decide_eq_true (show v.ks.length = 1 by omega), isOp_toE]; rfl, hH.ext⟩
  ·
   have hg12 := of_decide_eq_false hg12
   refine Wl.skip rfl rfl ?_
   refine Wl.skip rfl rfl ?_
   refine Wl.skip rfl rfl ?_
   refine Wl.skip rfl rfl ?_
   refine Wl.skip rfl rfl ?_
   refine Wl.q rfl rfl (OpQ.pickF rfl rfl) ?_
   refine Wl.q rfl rfl (OpQ.assign rfl) ?_
   refine Wl.nil (PX.then_n (CT.ret ?_))
   refine PX.ret1 rfl rfl (fun w' hH => ?_)
   exact ⟨by rw [isUni_toE, decide_eq_false (show ¬ v.ks.length = 1 by omega), Bool.false_and, Bool.and_false], hH.ext⟩
 ·
  have hg6 := of_decide_eq_false hg6
  refine Wl.skip rfl rfl ?_
  refine Wl.skip rfl rfl ?_
  refine Wl.skip rfl rfl ?_
  refine Wl.skip rfl rfl ?_
  refine Wl.q rfl rfl (OpQ.pickF rfl rfl) ?_
  refine Wl.q rfl rfl (OpQ.move rfl) ?_
  refine Wl.skip rfl rfl ?_
  refine Wl.skip rfl rfl ?_
  refine Wl.skip rfl rfl ?_
  refine Wl.skip rfl rfl ?_
  refine Wl.skip rfl rfl ?_
  refine Wl.q rfl rfl (OpQ.pickF rfl rfl) ?_
  refine Wl.q rfl rfl (OpQ.assign rfl) ?_
  refine Wl.nil (PX.then_n (CT.ret ?_))
  refine PX.ret1 rfl rfl (fun w' hH => ?_)
  exact ⟨by rw [isUni_toE, decide_eq_false hg6]; rfl, hH.ext⟩

theorem K9_in24 : (Tryz.prog.info? 24).map (fun i => (i.zero, i.size, i.bytes)) = some (some (.agg #[.int .i64 0, .int .i64 0, .slice none 0 0]), 3, 40) := by kernel_rfl
theorem K9_pl24 : placesB Tryz.prog 24 = some (#[.int .i64 0, .int .i64 0, .slice none 0 0], [(0, 1), (1, 1), (2, 1)]) := by kernel_rfl
set_option maxRecDepth 100000 in
/-- semigroup/expr.empty -/
theorem empty_spec' (w : World)  : Calls Tryz.prog 121 #[] w (fun e w' => e = .returned (evv (lfv 1 0)) ∧ Ext [] w w') := by
 refine enter (args := []) [] 2 Tryz.func121 rfl rfl rfl ?_
 refine CT.seq (CT.region ?_)
 refine Wl.g rfl rfl (OpG.alloc (zs := [.int .i64 0, .int .i64 0, .slice none 0 0]) K9_in24 rfl rfl) ?_
 rintro b0 _
 refine Wl.nil (PX.then_n (CT.seq (CT.region ?_)))
 refine Wl.q rfl rfl (OpQ.build (cells := #[.int .i64 1, .int .i64 0, .slice none 0 0]) K9_pl24 rfl rfl) ?_
 refine Wl.g rfl rfl (OpG.storeV (b := b0) K9_sz24 rfl rfl rfl rfl (by repeat (first | exact Upd.here | apply Upd.there))) ?_
 rintro _ _
 refine Wl.nil (PX.then_n (CT.ret ?_))
 refine PX.retC rfl rfl (by repeat (first | exact Has.here | apply Has.there)) K9_ag24 K9_sz24 (by rfl) (fun w' hH => ?_)
 exact ⟨rfl, hH.ext⟩

set_option maxRecDepth 100000 in
/-- semigroup/expr.unit -/
theorem unit_spec' (w : World)  : Calls Tryz.prog 94 #[] w (fun e w' => e = .returned (evv (lfv 2 0)) ∧ Ext [] w w') := by
 refine enter (args := []) [] 2 Tryz.func94 rfl rfl rfl ?_
 refine CT.seq (CT.region ?_)
 refine Wl.g rfl rfl (OpG.alloc (zs := [.int .i64 0, .int .i64 0, .slice none 0 0]) K9_in24 rfl rfl) ?_
 rintro b0 _
 refine Wl.nil (PX.then_n (CT.seq (CT.region ?_)))
 refine Wl.q rfl rfl (OpQ.build (cells := #[.int .i64 2, .int .i64 0, .slice none 0 0]) K9_pl24 rfl rfl) ?_
 refine Wl.g rfl rfl (OpG.storeV (b := b0) K9_sz24 rfl rfl rfl rfl (by repeat (first | exact Upd.here | apply Upd.there))) ?_
 rintro _ _
 refine Wl.nil (PX.then_n (CT.ret ?_))
 refine PX.retC rfl rfl (by repeat (first | exact Has.here | apply Has.there)) K9_ag24 K9_sz24 (by rfl) (fun w' hH => ?_)
 exact ⟨rfl, hH.ext⟩

theorem K9_go121 : isGo Tryz.prog 121 = true := by kernel_rfl
set_option maxRecDepth 100000 in
/-- semigroup/expr.universal -/
theorem universal_spec (w : World)  : Calls Tryz.prog 115 #[] w (fun e w' => ∃ i : Xv × List Nat, (toE i.1 = uni) ∧ e = .returned (evv i.1) ∧ Post [] [fx (AllM []) [i.1] i.2] w w') := by
 refine enter (args := []) [] 4 Tryz.func115 rfl rfl rfl ?_
 refine CT.seq (CT.region ?_)
 refine Wl.g rfl rfl (OpG.alloc (zs := [.int .i64 0, .int .i64 0, .slice none 0 0]) K9_in24 rfl rfl) ?_
 rintro b0 _
 refine Wl.nil (PX.then_n (CT.seq (CT.region ?_)))
 refine Wl.g rfl rfl (OpG.callV K9_go121 rfl (fun w hH => empty_spec' w)) ?_
 rintro _ _
 refine Wl.g rfl rfl (OpG.litS1 K9_un22 K9_in24 rfl (by decide) rfl) ?_
 rintro b2 _
 refine Wl.q rfl rfl (OpQ.build (cells := #[.int .i64 8, .int .i64 0, .slice (some ⟨b2, 0, none⟩) 1 1]) K9_pl24 rfl rfl) ?_
 refine Wl.g rfl rfl (OpG.storeV (b := b0) K9_sz24 rfl rfl rfl rfl (by repeat (first | exact Upd.here | apply Upd.there))) ?_
 rintro _ _
 refine Wl.nil (PX.then_n (CT.ret ?_))
 refine PX.retC rfl rfl (by repeat (first | exact Has.here | apply Has.there)) K9_ag24 K9_sz24 (by rfl) (fun w' hH => ?_)
 exact ⟨(Xv.mk 8 0 (some ⟨b2, 0, none⟩) 1 [lfv 1 0], _), rfl, rfl, (HOk.post (HOk.take (HOk.fxLeaf (A := AllM []) (ks := [lfv 1 0]) (o := 8) (l := 0) (hH.take (.cons .here .nil)) (fun w k hk => by rw [List.mem_singleton] at hk; rw [hk]; exact lfv_m 1 0 w)) (.cons .here .nil)))⟩

set_option maxRecDepth 100000 in
/-- cmp.isNaN[int] -/
theorem isNaN_spec (w : World) (a : Int) : Calls Tryz.prog 114 #[.int .i64 a] w (fun e w' => e = .returned (.bool false) ∧ Ext [] w w') := by
 refine enter (args := [.int .i64 a]) [] 6 Tryz.func114 rfl rfl rfl ?_
 refine CT.seq (CT.region ?_)
 refine Wl.q rfl rfl (OpQ.assign rfl) ?_
 refine Wl.nil (PX.then_n (CT.seq (CT.region ?_)))
 refine Wl.q rfl rfl (OpQ.move rfl) ?_
 refine Wl.q rfl rfl (OpQ.move rfl) ?_
 refine Wl.q rfl rfl (OpQ.neq rfl rfl) ?_
 refine Wl.know 5 (v' := .bool false) rfl (congrArg Value.bool (by simp)) ?_
 refine Wl.q rfl rfl (OpQ.assign rfl) ?_
 refine Wl.nil (PX.then_n (CT.ret ?_))
 refine PX.ret1 rfl rfl (fun w' hH => ?_)
 exact ⟨rfl, hH.ext⟩

theorem K9_go114 : isGo Tryz.prog 114 = true := by kernel_rfl
set_option maxRecDepth 100000 in
/-- cmp.Compare[int] -/
theorem cmpI_spec (w : World) (a b : Int) : Calls Tryz.prog 85 #[.int .i64 a, .int .i64 b] w (fun e w' => e = .returned (.int .i64 (cmpI a b)) ∧ Ext [] w w') := by
 refine enter (args := [.int .i64 a, .int .i64 b]) [] 20 Tryz.func85 rfl rfl rfl ?_
 refine CT.seq (CT.region ?_)
 refine Wl.q rfl rfl (OpQ.assign rfl) ?_
 refine Wl.nil (PX.then_n (CT.seq (CT.region ?_)))
 refine Wl.q rfl rfl (OpQ.move rfl) ?_
 refine Wl.g rfl rfl (OpG.callV K9_go114 rfl (fun w hH => isNaN_spec w a)) ?_
 rintro _ _
 refine Wl.know 8 (v' := .bool false) rfl (congrArg Value.bool rfl) ?_
 refine Wl.q rfl rfl (OpQ.assign rfl) ?_
 refine Wl.nil (PX.then_n (CT.seq (CT.region ?_)))
 refine Wl.q rfl rfl (OpQ.move rfl) ?_
 refine Wl.g rfl rfl (OpG.callV K9_go114 rfl (fun w hH => isNaN_spec w b)) ?_
 rintro _ _
 refine Wl.know 10 (v' := .bool false) rfl (congrArg Value.bool rfl) ?_
 refine Wl.q rfl rfl (OpQ.assign rfl) ?_
 refine Wl.nil (PX.then_n (CT.seq (CT.seq (CT.region ?_))))
 refine Wl.q rfl rfl (OpQ.move rfl) ?_
 refine Wl.nil (PX.then_n ?_)
 refine CT.condF rfl ?_
 refine CT.skip (PX.then_n (CT.seq (CT.seq (CT.region ?_))))
 refine Wl.q rfl rfl (OpQ.move rfl) ?_
 refine Wl.nil (PX.then_n ?_)
 refine CT.condF rfl ?_
 refine CT.skip (PX.then_n (CT.seq (CT.seq (CT.region ?_))))
 refine Wl.q rfl rfl (OpQ.move rfl) ?_
 refine Wl.q rfl rfl (OpQ.move rfl) ?_
 refine Wl.q rfl rfl (OpQ.lss rfl rfl) ?_
 refine Wl.nil (PX.then_n ?_)
 refine CT.cond rfl (fun h16 => ?_) (fun h16 => ?_)
 ·
  have h16 := of_decide_eq_true h16
  refine CT.seq (CT.region ?_)
  refine Wl.q rfl rfl (OpQ.assign rfl) ?_
  refine Wl.nil (PX.then_n (CT.ret (PX.then_r ?_)))
  refine PX.ret1 rfl rfl (fun w' hH => ?_)
  exact ⟨by rw [cmpI, if_pos (by omega)], hH.ext⟩
 ·
  have h16 := of_decide_eq_false h16
  refine CT.skip (PX.then_n (CT.seq (CT.seq (CT.region ?_))))
  refine Wl.q rfl rfl (OpQ.move rfl) ?_
  refine Wl.q rfl rfl (OpQ.move rfl) ?_
  refine Wl.q rfl rfl (OpQ.gtr rfl rfl) ?_
  refine Wl.nil (PX.then_n ?_)
  refine CT.cond rfl (fun h19 => ?_) (fun h19 => ?_)
  ·
   have h19 := of_decide_eq_true h19
   refine CT.seq (CT.region ?_)
   refine Wl.q rfl rfl (OpQ.assign rfl) ?_
   refine Wl.nil (PX.then_n (CT.ret (PX.then_r ?_)))
   refine PX.ret1 rfl rfl (fun w' hH => ?_)
   exact ⟨by rw [cmpI, if_neg (by omega), if_pos (by omega)], hH.ext⟩
  ·
   have h19 := of_decide_eq_false h19
   refine CT.skip (PX.then_n (CT.seq (CT.region ?_)))
   refine Wl.q rfl rfl (OpQ.assign rfl) ?_
   refine Wl.nil (PX.then_n (CT.ret ?_))
   refine PX.ret1 rfl rfl (fun w' hH => ?_)
   exact ⟨by rw [cmpI, if_neg (by omega), if_neg (by omega)], hH.ext⟩

set_option maxRecDepth 100000 in
/-- slices.CompareFunc[[]semigroup/api.Expr,[]semigroup/api.Expr,semigroup/api.Expr,semigroup/api.Expr] -/
theorem cmpF_spec (w : World) (ks : List Xv) (ka : Option Addr) (kc : Nat) (hk : Stays [] w (kin ka ks)) (ms : List Xv) (ma : Option Addr) (mc : Nat) (hm : Stays [] w (kin ma ms)) (g : Nat) (hgo : isGo Tryz.prog g = true) (hc : ∀ x ∈ ks, ∀ y, ∀ w : World, Stays [] w (evm x) → Stays [] w (evm y) → Calls Tryz.prog g #[evv x, evv y] w (fun e w' => e = .returned (.int .i64 (cmpE (toE x) (toE y))) ∧ Ext [] w w')) : Calls Tryz.prog 86 #[.slice ka ks.length kc, .slice ma ms.length mc, .func (.func g) #[] #[]] w (fun e w' => e = .returned (.int .i64 (cmpL (ks.map toE) (ms.map toE))) ∧ Ext [] w w') := by
 have hka : 0 < ks.length → ka.isSome = true := fun h => hk.now.1.isSome (j := 0) (by rw [flat_len evc_len]; omega)
 have hkn := hk.now.2.2
 have hma : 0 < ms.length → ma.isSome = true := fun h => hm.now.1.isSome (j := 0) (by rw [flat_len evc_len]; omega)
 have hmn := hm.now.2.2
 refine enter (args := [.slice ka ks.length kc, .slice ma ms.length mc, .func (.func g) #[] #[]]) [] 39 Tryz.func86 rfl rfl rfl ?_
 refine CT.seq (CT.region ?_)
 refine Wl.q rfl rfl (OpQ.assign rfl) ?_
 refine Wl.nil (PX.then_n (CT.seq (CT.seq (CT.region ?_))))
 refine Wl.q rfl rfl (OpQ.move rfl) ?_
 refine Wl.q rfl rfl (OpQ.len K9_un22 rfl) ?_
 refine Wl.q rfl rfl (OpQ.move rfl) ?_
 refine Wl.nil (PX.then_n (CT.block ?_))
 refine CT.loop (ι := Nat) (fun i => i ≤ ks.length ∧ cmpL (ks.map toE) (ms.map toE) = cmpL ((ks.drop i).map toE) ((ms.drop i).map toE)) (fun i => [(0, .slice ka ks.length kc), (1, .slice ma ms.length mc), (2, .func (.func g) #[] #[]), (11, .slice ka ks.length kc), (12, .int .i64 ((ks.length : Nat) : Int)), (13, .int .i64 ((i : Nat) : Int))]) (fun _ => []) (fun i => ks.length - i) 0 ⟨Nat.zero_le _, rfl⟩ ⟨rfl, rfl, rfl, rfl, rfl, rfl, trivial⟩ (HSub.none _) (fun i ⟨hi, he⟩ K0 hK0 => ?_)
 refine CT.seq (CT.region ?_)
 refine Wl.q rfl rfl (OpQ.lss rfl rfl) ?_
 refine Wl.nil (PX.then_n (CT.seq ?_))
 refine CT.cond rfl (fun h14 => ?_) (fun h14 => ?_)
 ·
  have h14 := of_decide_eq_true h14
  have hil : i < ks.length := by omega
  refine CT.skip (PX.then_n (CT.seq (CT.block (CT.seq (CT.region ?_)))))
  refine Wl.q rfl rfl (OpQ.move rfl) ?_
  refine Wl.q rfl rfl (OpQ.index K9_un22 K9_sz24 rfl rfl (by omega) (hka (by omega))) ?_
  refine Wl.q rfl rfl (OpQ.loadAggG (cs := evc (ks.getD i ev0)) K9_ag24 K9_sz24 rfl (fun w hH => (hH.use hk).1) (flat_cells evc_len ks ev0 (by omega))) ?_
  refine Wl.know 17 (v' := evv (ks.getD i ev0)) rfl rfl ?_
  refine Wl.g rfl rfl (OpG.alloc (zs := [.int .i64 0, .int .i64 0, .slice none 0 0]) K9_in24 rfl rfl) ?_
  rintro b8 _
  refine Wl.q rfl rfl (OpQ.assign rfl) ?_
  refine Wl.g rfl rfl (OpG.storeV (b := b8) K9_sz24 rfl rfl rfl rfl (by repeat (first | exact Upd.here | apply Upd.there))) ?_
  rintro _ _
  refine Wl.nil (PX.then_n (CT.seq (CT.seq (CT.region ?_))))
  refine Wl.q rfl rfl (OpQ.move rfl) ?_
  refine Wl.q rfl rfl (OpQ.move rfl) ?_
  refine Wl.q rfl rfl (OpQ.len K9_un22 rfl) ?_
  refine Wl.q rfl rfl (OpQ.geq rfl rfl) ?_
  refine Wl.nil (PX.then_n ?_)
  refine CT.cond rfl (fun h21 => ?_) (fun h21 => ?_)
  ·
   have h21 := of_decide_eq_true h21
   refine CT.seq (CT.region ?_)
   refine Wl.q rfl rfl (OpQ.assign rfl) ?_
   refine Wl.nil (PX.then_n (CT.ret (PX.then_r (PX.block_r (PX.then_r (PX.then_r (PX.block_r (PX.then_r ?_))))))))
   refine PX.ret1 rfl rfl (fun w' hH => ?_)
   exact ⟨by rw [he, cmpL_gt hil (by omega)], hH.ext⟩
  ·
   have h21 := of_decide_eq_false h21
   refine CT.skip (PX.then_n (CT.seq (CT.region ?_)))
   refine Wl.q rfl rfl (OpQ.move rfl) ?_
   refine Wl.q rfl rfl (OpQ.move rfl) ?_
   refine Wl.q rfl rfl (OpQ.index K9_un22 K9_sz24 rfl rfl (by omega) (hma (by omega))) ?_
   refine Wl.q rfl rfl (OpQ.loadAggG (cs := evc (ms.getD i ev0)) K9_ag24 K9_sz24 rfl (fun w hH => (hH.use hm).1) (flat_cells evc_len ms ev0 (by omega))) ?_
   refine Wl.know 25 (v' := evv (ms.getD i ev0)) rfl rfl ?_
   refine Wl.g rfl rfl (OpG.alloc (zs := [.int .i64 0, .int .i64 0, .slice none 0 0]) K9_in24 rfl rfl) ?_
   rintro b9 _
   refine Wl.g rfl rfl (OpG.storeV (b := b9) K9_sz24 rfl rfl rfl rfl (by repeat (first | exact Upd.here | apply Upd.there))) ?_
   rintro _ _
   refine Wl.nil (PX.then_n (CT.seq (CT.region ?_)))
   refine Wl.q rfl rfl (OpQ.move rfl) ?_
   refine Wl.q rfl rfl (OpQ.loadV (b := b8) K9_ag24 K9_sz24 rfl (by repeat (first | exact Has.here | apply Has.there)) (by rfl)) ?_
   refine Wl.know 27 (v' := evv (ks.getD i ev0)) rfl rfl ?_
   refine Wl.q rfl rfl (OpQ.loadV (b := b9) K9_ag24 K9_sz24 rfl (by repeat (first | exact Has.here | apply Has.there)) (by rfl)) ?_
   refine Wl.know 28 (v' := evv (ms.getD i ev0)) rfl rfl ?_
   refine Wl.g rfl rfl (OpG.callFV rfl hgo rfl (fun w hH => hc _ (by rw [getD_get hil]; exact List.getElem_mem hil) _ w ((hH.stays0 hk).mono (fun w h => h.2.1 _ (by rw [getD_get hil]; exact List.getElem_mem hil))) ((hH.stays0 hm).mono (fun w h => h.2.1 _ (by rw [getD_get (show i < ms.length by omega)]; exact List.getElem_mem _))))) ?_
   rintro _ _
   refine Wl.q rfl rfl (OpQ.assign rfl) ?_
   refine Wl.nil (PX.then_n (CT.seq (CT.region ?_)))
   refine Wl.q rfl rfl (OpQ.move rfl) ?_
   refine Wl.q rfl rfl (OpQ.neq rfl rfl) ?_
   refine Wl.nil (PX.then_n ?_)
   refine CT.cond rfl (fun h31 => ?_) (fun h31 => ?_)
   ·
    have h31 := of_nd_t h31
    refine CT.seq (CT.region ?_)
    refine Wl.q rfl rfl (OpQ.move rfl) ?_
    refine Wl.q rfl rfl (OpQ.assign rfl) ?_
    refine Wl.nil (PX.then_n (CT.ret (PX.block_r (PX.then_r (PX.then_r (PX.block_r (PX.then_r ?_)))))))
    refine PX.ret1 rfl rfl (fun w' hH => ?_)
    exact ⟨by rw [he, cmpL_drop hil (by omega), if_pos h31], hH.ext⟩
   ·
    have h31 := of_nd_f h31
    refine CT.skip (PX.block_n (PX.then_n (CT.region ?_)))
    refine Wl.q rfl rfl (OpQ.add rfl rfl (by omega)) ?_
    refine Wl.q rfl rfl (OpQ.move rfl) ?_
    refine Wl.nil ?_
    exact PX.loop hK0 (i + 1) ⟨by omega, by rw [he, cmpL_drop hil (by omega), if_neg (by rw [h31]; simp)]⟩ (by first | omega | (dsimp only; omega)) ⟨rfl, rfl, rfl, rfl, rfl, rfl, trivial⟩ (HSub.none _)
 ·
  have h14 := of_decide_eq_false h14
  obtain rfl : i = ks.length := by omega
  refine CT.exit (PX.then_x (PX.then_x (PX.block_x (PX.then_n (CT.seq (CT.seq (CT.region ?_)))))))
  refine Wl.q rfl rfl (OpQ.move rfl) ?_
  refine Wl.q rfl rfl (OpQ.len K9_un22 rfl) ?_
  refine Wl.q rfl rfl (OpQ.move rfl) ?_
  refine Wl.q rfl rfl (OpQ.len K9_un22 rfl) ?_
  refine Wl.q rfl rfl (OpQ.lss rfl rfl) ?_
  refine Wl.nil (PX.then_n ?_)
  refine CT.cond rfl (fun h38 => ?_) (fun h38 => ?_)
  ·
   have h38 := of_decide_eq_true h38
   refine CT.seq (CT.region ?_)
   refine Wl.q rfl rfl (OpQ.assign rfl) ?_
   refine Wl.nil (PX.then_n (CT.ret (PX.then_r ?_)))
   refine PX.ret1 rfl rfl (fun w' hH => ?_)
   exact ⟨by rw [he, cmpL_end, if_pos (by omega)], hH.ext⟩
  ·
   have h38 := of_decide_eq_false h38
   refine CT.skip (PX.then_n (CT.seq (CT.region ?_)))
   refine Wl.q rfl rfl (OpQ.assign rfl) ?_
   refine Wl.nil (PX.then_n (CT.ret ?_))
   refine PX.ret1 rfl rfl (fun w' hH => ?_)
   exact ⟨by rw [he, cmpL_end, if_neg (by omega)], hH.ext⟩

theorem K9_go62 : isGo Tryz.prog 62 = true := by kernel_rfl
theorem K9_go85 : isGo Tryz.prog 85 = true := by kernel_rfl
theorem K9_fa24_1 : fieldB Tryz.prog 24 1 = some 1 := by kernel_rfl
theorem K9_go86 : isGo Tryz.prog 86 = true := by kernel_rfl
set_option maxRecDepth 100000 in
/-- semigroup/expr.Compare -/
theorem compareI (w : World) (u : Xv) (ih : ∀ k ∈ u.ks, ∀ w : World, ∀ (v : Xv), Stays [] w (evm k) → Stays [] w (evm v) → Calls Tryz.prog 62 #[evv k, evv v] w (fun e w' => e = .returned (.int .i64 (cmpE (toE k) (toE v))) ∧ Ext [] w w')) (v : Xv) (hu : Stays [] w (evm u)) (hv : Stays [] w (evm v)) : Calls Tryz.prog 62 #[evv u, evv v] w (fun e w' => e = .returned (.int .i64 (cmpE (toE u) (toE v))) ∧ Ext [] w w') := by
 refine enter (args := [evv u, evv v]) [] 30 Tryz.func62 rfl rfl rfl ?_
 refine CT.seq (CT.region ?_)
 refine Wl.g rfl rfl (OpG.box (size := 3) rfl rfl rfl) ?_
 rintro b2 _
 refine Wl.g rfl rfl (OpG.box (size := 3) rfl rfl rfl) ?_
 rintro b3 _
 refine Wl.q rfl rfl (OpQ.assign rfl) ?_
 refine Wl.nil (PX.then_n (CT.seq (CT.seq (CT.region ?_))))
 refine Wl.q rfl rfl (OpQ.fieldAddr K9_fa24_0 rfl) ?_
 refine Wl.q rfl rfl (OpQ.loadF (b := b2) K9_sc3 rfl (by repeat (first | exact Has.here | apply Has.there)) (by rfl)) ?_
 refine Wl.q rfl rfl (OpQ.fieldAddr K9_fa24_0 rfl) ?_
 refine Wl.q rfl rfl (OpQ.loadF (b := b3) K9_sc3 rfl (by repeat (first | exact Has.here | apply Has.there)) (by rfl)) ?_
 refine Wl.q rfl rfl (OpQ.neq rfl rfl) ?_
 refine Wl.nil (PX.then_n ?_)
 refine CT.cond rfl (fun h9 => ?_) (fun h9 => ?_)
 ·
  have h9 := of_nd_t h9
  refine CT.seq (CT.region ?_)
  refine Wl.q rfl rfl (OpQ.fieldAddr K9_fa24_0 rfl) ?_
  refine Wl.q rfl rfl (OpQ.loadF (b := b2) K9_sc3 rfl (by repeat (first | exact Has.here | apply Has.there)) (by rfl)) ?_
  refine Wl.q rfl rfl (OpQ.fieldAddr K9_fa24_0 rfl) ?_
  refine Wl.q rfl rfl (OpQ.loadF (b := b3) K9_sc3 rfl (by repeat (first | exact Has.here | apply Has.there)) (by rfl)) ?_
  refine Wl.g rfl rfl (OpG.callV K9_go85 rfl (fun w hH => cmpI_spec w u.op v.op)) ?_
  rintro _ _
  refine Wl.q rfl rfl (OpQ.assign rfl) ?_
  refine Wl.nil (PX.then_n (CT.ret (PX.then_r ?_)))
  refine PX.ret1 rfl rfl (fun w' hH => ?_)
  exact ⟨by rw [cmpE_toE, if_pos h9], hH.ext⟩
 ·
  have h9 := of_nd_f h9
  refine CT.skip (PX.then_n (CT.seq (CT.seq (CT.region ?_))))
  refine Wl.q rfl rfl (OpQ.fieldAddr K9_fa24_1 rfl) ?_
  refine Wl.q rfl rfl (OpQ.loadF (b := b2) K9_sc3 rfl (by repeat (first | exact Has.here | apply Has.there)) (by rfl)) ?_
  refine Wl.q rfl rfl (OpQ.fieldAddr K9_fa24_1 rfl) ?_
  refine Wl.q rfl rfl (OpQ.loadF (b := b3) K9_sc3 rfl (by repeat (first | exact Has.here | apply Has.there)) (by rfl)) ?_
  refine Wl.q rfl rfl (OpQ.neq rfl rfl) ?_
  refine Wl.nil (PX.then_n ?_)
  refine CT.cond rfl (fun h19 => ?_) (fun h19 => ?_)
  ·
   have h19 := of_nd_t h19
   refine CT.seq (CT.region ?_)
   refine Wl.q rfl rfl (OpQ.fieldAddr K9_fa24_1 rfl) ?_
   refine Wl.q rfl rfl (OpQ.loadF (b := b2) K9_sc3 rfl (by repeat (first | exact Has.here | apply Has.there)) (by rfl)) ?_
   refine Wl.q rfl rfl (OpQ.fieldAddr K9_fa24_1 rfl) ?_
   refine Wl.q rfl rfl (OpQ.loadF (b := b3) K9_sc3 rfl (by repeat (first | exact Has.here | apply Has.there)) (by rfl)) ?_
   refine Wl.g rfl rfl (OpG.callV K9_go85 rfl (fun w hH => cmpI_spec w u.lt v.lt)) ?_
   rintro _ _
   refine Wl.q rfl rfl (OpQ.assign rfl) ?_
   refine Wl.nil (PX.then_n (CT.ret (PX.then_r ?_)))
   refine PX.ret1 rfl rfl (fun w' hH => ?_)
   exact ⟨by rw [cmpE_toE, if_neg (by omega), if_pos h19], hH.ext⟩
  ·
   have h19 := of_nd_f h19
   refine CT.skip (PX.then_n (CT.seq (CT.region ?_)))
   refine Wl.q rfl rfl (OpQ.fieldAddr K9_fa24_2 rfl) ?_
   refine Wl.q rfl rfl (OpQ.loadF (b := b2) K9_sc22 rfl (by repeat (first | exact Has.here | apply Has.there)) (by rfl)) ?_
   refine Wl.q rfl rfl (OpQ.fieldAddr K9_fa24_2 rfl) ?_
   refine Wl.q rfl rfl (OpQ.loadF (b := b3) K9_sc22 rfl (by repeat (first | exact Has.here | apply Has.there)) (by rfl)) ?_
   refine Wl.g rfl rfl (OpG.callV K9_go86 rfl (fun w hH => cmpF_spec w u.ks u.a u.c ((hH.stays0 hu).mono (fun _ h => kin_of h)) v.ks v.a v.c ((hH.stays0 hv).mono (fun _ h => kin_of h)) 62 K9_go62 (fun x hx y w h1 h2 => ih x hx w y h1 h2))) ?_
   rintro _ _
   refine Wl.q rfl rfl (OpQ.assign rfl) ?_
   refine Wl.nil (PX.then_n (CT.ret ?_))
   refine PX.ret1 rfl rfl (fun w' hH => ?_)
   exact ⟨by rw [cmpE_toE, if_neg (by omega), if_neg (by omega)], hH.ext⟩
theorem compare_spec (u : Xv) : ∀ w : World, ∀ (v : Xv), Stays [] w (evm u) → Stays [] w (evm v) → Calls Tryz.prog 62 #[evv u, evv v] w (fun e w' => e = .returned (.int .i64 (cmpE (toE u) (toE v))) ∧ Ext [] w w') := Xv.ind (p := fun u => ∀ w : World, ∀ (v : Xv), Stays [] w (evm u) → Stays [] w (evm v) → Calls Tryz.prog 62 #[evv u, evv v] w (fun e w' => e = .returned (.int .i64 (cmpE (toE u) (toE v))) ∧ Ext [] w w')) (fun u ih w v hu hv => compareI w u ih v hu hv) u

set_option maxRecDepth 100000 in
/-- slices.IndexFunc[[]semigroup/api.Expr,semigroup/api.Expr] -/
theorem indexF_spec (w : World) (ks : List Xv) (ka : Option Addr) (kc : Nat) (hk : Stays [] w (kin ka ks)) (g : Nat) (hgo : isGo Tryz.prog g = true) (p : Xv → Bool) (hp : ∀ k ∈ ks, ∀ w : World, Stays [] w (evm k) → Calls Tryz.prog g #[evv k] w (fun e w' => e = .returned (.bool (p k)) ∧ Ext [] w w')) : Calls Tryz.prog 113 #[.slice ka ks.length kc, .func (.func g) #[] #[]] w (fun e w' => e = .returned (.int .i64 (ixf p ks)) ∧ Ext [] w w') := by
 have hka : 0 < ks.length → ka.isSome = true := fun h => hk.now.1.isSome (j := 0) (by rw [flat_len evc_len]; omega)
 have hkn := hk.now.2.2
 refine enter (args := [.slice ka ks.length kc, .func (.func g) #[] #[]]) [] 19 Tryz.func113 rfl rfl rfl ?_
 refine CT.seq (CT.region ?_)
 refine Wl.q rfl rfl (OpQ.assign rfl) ?_
 refine Wl.nil (PX.then_n (CT.seq (CT.seq (CT.region ?_))))
 refine Wl.q rfl rfl (OpQ.move rfl) ?_
 refine Wl.q rfl rfl (OpQ.len K9_un22 rfl) ?_
 refine Wl.q rfl rfl (OpQ.move rfl) ?_
 refine Wl.nil (PX.then_n (CT.block ?_))
 refine CT.loop (ι := Nat) (fun i => i ≤ ks.length ∧ ∀ j, j < i → p (ks.getD j ev0) = false) (fun i => [(0, .slice ka ks.length kc), (1, .func (.func g) #[] #[]), (7, .int .i64 ((ks.length : Nat) : Int)), (8, .int .i64 ((i : Nat) : Int))]) (fun _ => []) (fun i => ks.length - i) 0 ⟨Nat.zero_le _, fun j hj => absurd hj (Nat.not_lt_zero j)⟩ ⟨rfl, rfl, rfl, rfl, trivial⟩ (HSub.none _) (fun i ⟨hi, hall⟩ K0 hK0 => ?_)
 refine CT.seq (CT.region ?_)
 refine Wl.q rfl rfl (OpQ.lss rfl rfl) ?_
 refine Wl.nil (PX.then_n (CT.seq ?_))
 refine CT.cond rfl (fun h9 => ?_) (fun h9 => ?_)
 ·
  have h9 := of_decide_eq_true h9
  have hil : i < ks.length := by omega
  refine CT.skip (PX.then_n (CT.seq (CT.block (CT.seq (CT.region ?_)))))
  refine Wl.q rfl rfl (OpQ.move rfl) ?_
  refine Wl.q rfl rfl (OpQ.assign rfl) ?_
  refine Wl.nil (PX.then_n (CT.seq (CT.region ?_)))
  refine Wl.q rfl rfl (OpQ.move rfl) ?_
  refine Wl.q rfl rfl (OpQ.move rfl) ?_
  refine Wl.q rfl rfl (OpQ.move rfl) ?_
  refine Wl.q rfl rfl (OpQ.index K9_un22 K9_sz24 rfl rfl (by omega) (hka (by omega))) ?_
  refine Wl.q rfl rfl (OpQ.loadAggG (cs := evc (ks.getD i ev0)) K9_ag24 K9_sz24 rfl (fun w hH => (hH.use hk).1) (flat_cells evc_len ks ev0 (by omega))) ?_
  refine Wl.know 15 (v' := evv (ks.getD i ev0)) rfl rfl ?_
  refine Wl.g rfl rfl (OpG.callFV rfl hgo rfl (fun w hH => hp _ (by rw [getD_get hil]; exact List.getElem_mem hil) w ((hH.stays0 hk).mono (fun w h => h.2.1 _ (by rw [getD_get hil]; exact List.getElem_mem hil))))) ?_
  rintro _ _
  refine Wl.nil (PX.then_n ?_)
  refine CT.cond rfl (fun h16 => ?_) (fun h16 => ?_)
  ·
   refine CT.seq (CT.region ?_)
   refine Wl.q rfl rfl (OpQ.move rfl) ?_
   refine Wl.q rfl rfl (OpQ.assign rfl) ?_
   refine Wl.nil (PX.then_n (CT.ret (PX.block_r (PX.then_r (PX.then_r (PX.block_r (PX.then_r ?_)))))))
   refine PX.ret1 rfl rfl (fun w' hH => ?_)
   exact ⟨by rw [ixf_some hil hall h16], hH.ext⟩
  ·
   refine CT.skip (PX.block_n (PX.then_n (CT.region ?_)))
   refine Wl.q rfl rfl (OpQ.add rfl rfl (by omega)) ?_
   refine Wl.q rfl rfl (OpQ.move rfl) ?_
   refine Wl.nil ?_
   exact PX.loop hK0 (i + 1) ⟨by omega, fun j hj => by
    rcases Nat.lt_or_ge j i with h1 | h1
    ·
     exact hall j h1
    ·
     obtain rfl : j = i := by omega
     exact h16⟩ (by first | omega | (dsimp only; omega)) ⟨rfl, rfl, rfl, rfl, trivial⟩ (HSub.none _)
 ·
  have h9 := of_decide_eq_false h9
  refine CT.exit (PX.then_x (PX.then_x (PX.block_x (PX.then_n (CT.seq (CT.region ?_))))))
  refine Wl.q rfl rfl (OpQ.assign rfl) ?_
  refine Wl.nil (PX.then_n (CT.ret ?_))
  refine PX.ret1 rfl rfl (fun w' hH => ?_)
  exact ⟨by rw [ixf_none (fun j hj => hall j (by omega))], hH.ext⟩

theorem K9_go113 : isGo Tryz.prog 113 = true := by kernel_rfl
set_option maxRecDepth 100000 in
/-- slices.ContainsFunc[[]semigroup/api.Expr,semigroup/api.Expr] -/
theorem containsF_spec (w : World) (ks : List Xv) (ka : Option Addr) (kc : Nat) (hk : Stays [] w (kin ka ks)) (g : Nat) (hgo : isGo Tryz.prog g = true) (p : Xv → Bool) (hp : ∀ k ∈ ks, ∀ w : World, Stays [] w (evm k) → Calls Tryz.prog g #[evv k] w (fun e w' => e = .returned (.bool (p k)) ∧ Ext [] w w')) : Calls Tryz.prog 84 #[.slice ka ks.length kc, .func (.func g) #[] #[]] w (fun e w' => e = .returned (.bool (ks.any p)) ∧ Ext [] w w') := by
 refine enter (args := [.slice ka ks.length kc, .func (.func g) #[] #[]]) [] 9 Tryz.func84 rfl rfl rfl ?_
 refine CT.seq (CT.region ?_)
 refine Wl.q rfl rfl (OpQ.assign rfl) ?_
 refine Wl.nil (PX.then_n (CT.seq (CT.region ?_)))
 refine Wl.q rfl rfl (OpQ.move rfl) ?_
 refine Wl.q rfl rfl (OpQ.move rfl) ?_
 refine Wl.g rfl rfl (OpG.callV K9_go113 rfl (fun w hH => indexF_spec w ks ka kc (hH.stays0 hk) g hgo p hp)) ?_
 rintro _ _
 refine Wl.q rfl rfl (OpQ.geq rfl rfl) ?_
 refine Wl.q rfl rfl (OpQ.assign rfl) ?_
 refine Wl.nil (PX.then_n (CT.ret ?_))
 refine PX.ret1 rfl rfl (fun w' hH => ?_)
 exact ⟨by rw [ixf_any], hH.ext⟩

theorem K9_go61 : isGo Tryz.prog 61 = true := by kernel_rfl
theorem K9_go84 : isGo Tryz.prog 84 = true := by kernel_rfl
set_option maxRecDepth 100000 in
/-- semigroup/expr.HasUnit -/
theorem hasU_specI (w : World)  (v : Xv) (hv : Stays [] w (evm v)) (ih : ∀ k ∈ v.ks, ∀ w : World, Stays [] w (evm k) → Calls Tryz.prog 61 #[evv k] w (fun e w' => e = .returned (.bool (hasU (toE k))) ∧ Ext [] w w')) : Calls Tryz.prog 61 #[evv v] w (fun e w' => e = .returned (.bool (hasU (toE v))) ∧ Ext [] w w') := by
 have hva : 0 < v.ks.length → v.a.isSome = true := fun h => (evm_iff.1 hv.now).1.isSome (j := 0) (by rw [flat_len evc_len]; omega)
 have hvl := (evm_iff.1 hv.now).2.2
 refine enter (args := [evv v]) [] 43 Tryz.func61 rfl rfl rfl ?_
 refine CT.seq (CT.region ?_)
 refine Wl.g rfl rfl (OpG.box (size := 3) rfl rfl rfl) ?_
 rintro b1 _
 refine Wl.q rfl rfl (OpQ.assign rfl) ?_
 refine Wl.nil (PX.then_n (CT.seq (CT.seq (CT.region ?_))))
 refine Wl.q rfl rfl (OpQ.fieldAddr K9_fa24_0 rfl) ?_
 refine Wl.q rfl rfl (OpQ.loadF (b := b1) K9_sc3 rfl (by repeat (first | exact Has.here | apply Has.there)) (by rfl)) ?_
 refine Wl.nil (PX.then_n (CT.block ?_))
 refine CT.cut (ι := Unit) (Φ := fun _ => True) (E' := fun _ => [(1, .pointer (some ⟨b1, 0, none⟩)), (6, .int .i64 v.op), (7, .bool (decide (v.op = 2 ∨ v.op = 7)))]) (H' := fun _ => [.row 24 3 (vb b1) 1 (evc v)]) (fun K0 hK0 => ?_) (fun _ _ => ?_)
 ·
  refine CT.seq (CT.region ?_)
  refine Wl.q rfl rfl (OpQ.eql rfl rfl) ?_
  refine Wl.q rfl rfl (OpQ.assign rfl) ?_
  refine Wl.nil (PX.then_n ?_)
  refine CT.cond rfl (fun h7 => ?_) (fun h7 => ?_)
  ·
   have h7 := of_decide_eq_true h7
   refine CT.skip ?_
   exact PX.cut hK0 () trivial ⟨rfl, rfl, (lkV rfl (congrArg Value.bool (by rw [decide_eq_decide]; omega))), trivial⟩ (HSub.refl _)
  ·
   have h7 := of_decide_eq_false h7
   refine CT.region ?_
   refine Wl.q rfl rfl (OpQ.eql rfl rfl) ?_
   refine Wl.q rfl rfl (OpQ.assign rfl) ?_
   refine Wl.nil ?_
   exact PX.cut hK0 () trivial ⟨rfl, rfl, (lkV rfl (congrArg Value.bool (by rw [decide_eq_decide]; omega))), trivial⟩ (HSub.refl _)
 ·
  refine CT.cond rfl (fun h7 => ?_) (fun h7 => ?_)
  ·
   have h7 := of_decide_eq_true h7
   refine CT.seq (CT.region ?_)
   refine Wl.q rfl rfl (OpQ.assign rfl) ?_
   refine Wl.nil (PX.then_n (CT.ret (PX.block_r (PX.then_r ?_))))
   refine PX.ret1 rfl rfl (fun w' hH => ?_)
   exact ⟨by rw [hasU_mk v, if_pos h7], hH.ext⟩
  ·
   have h7 := of_decide_eq_false h7
   refine CT.seq (CT.region ?_)
   refine Wl.q rfl rfl (OpQ.eql rfl rfl) ?_
   refine Wl.q rfl rfl (OpQ.assign rfl) ?_
   refine Wl.nil (PX.then_n ?_)
   refine CT.cond rfl (fun h10 => ?_) (fun h10 => ?_)
   ·
    have h10 := of_decide_eq_true h10
    refine CT.seq (CT.region ?_)
    refine Wl.q rfl rfl (OpQ.fieldAddr K9_fa24_2 rfl) ?_
    refine Wl.q rfl rfl (OpQ.loadF (b := b1) K9_sc22 rfl (by repeat (first | exact Has.here | apply Has.there)) (by rfl)) ?_
    refine Wl.g rfl rfl (OpG.callV K9_go84 rfl (fun w hH => containsF_spec w v.ks v.a v.c ((hH.stays0 hv).mono (fun _ h => kin_of h)) 61 K9_go61 (fun k => hasU (toE k)) ih)) ?_
    rintro _ _
    refine Wl.q rfl rfl (OpQ.assign rfl) ?_
    refine Wl.nil (PX.then_n (CT.ret (PX.block_r (PX.then_r ?_))))
    refine PX.ret1 rfl rfl (fun w' hH => ?_)
    exact ⟨by rw [hasU_mk v, if_neg h7, if_pos h10], hH.ext⟩
   ·
    have h10 := of_decide_eq_false h10
    refine CT.cut (ι := Unit) (Φ := fun _ => True) (E' := fun _ => [(1, .pointer (some ⟨b1, 0, none⟩)), (6, .int .i64 v.op), (15, .bool (decide (v.op = 5 ∨ v.op = 6)))]) (H' := fun _ => [.row 24 3 (vb b1) 1 (evc v)]) (fun K1 hK1 => ?_) (fun _ _ => ?_)
    ·
     refine CT.seq (CT.region ?_)
     refine Wl.q rfl rfl (OpQ.eql rfl rfl) ?_
     refine Wl.q rfl rfl (OpQ.assign rfl) ?_
     refine Wl.nil (PX.then_n ?_)
     refine CT.cond rfl (fun h15 => ?_) (fun h15 => ?_)
     ·
      have h15 := of_decide_eq_true h15
      refine CT.skip ?_
      exact PX.cut hK1 () trivial ⟨rfl, rfl, (lkV rfl (congrArg Value.bool (by rw [decide_eq_decide]; omega))), trivial⟩ (HSub.refl _)
     ·
      have h15 := of_decide_eq_false h15
      refine CT.region ?_
      refine Wl.q rfl rfl (OpQ.eql rfl rfl) ?_
      refine Wl.q rfl rfl (OpQ.assign rfl) ?_
      refine Wl.nil ?_
      exact PX.cut hK1 () trivial ⟨rfl, rfl, (lkV rfl (congrArg Value.bool (by rw [decide_eq_decide]; omega))), trivial⟩ (HSub.refl _)
    ·
     refine CT.cond rfl (fun h15 => ?_) (fun h15 => ?_)
     ·
      have h15 := of_decide_eq_true h15
      refine CT.seq (CT.seq (CT.region ?_))
      refine Wl.q rfl rfl (OpQ.fieldAddr K9_fa24_2 rfl) ?_
      refine Wl.q rfl rfl (OpQ.loadF (b := b1) K9_sc22 rfl (by repeat (first | exact Has.here | apply Has.there)) (by rfl)) ?_
      refine Wl.q rfl rfl (OpQ.len K9_un22 rfl) ?_
      refine Wl.q rfl rfl (OpQ.move rfl) ?_
      refine Wl.nil (PX.then_n (CT.block ?_))
      refine CT.loop (ι := Nat) (fun i => i ≤ v.ks.length ∧ ∀ j, j < i → hasU (toE (v.ks.getD j ev0)) = true) (fun i => [(19, .slice v.a v.ks.length v.c), (20, .int .i64 ((v.ks.length : Nat) : Int)), (21, .int .i64 ((i : Nat) : Int))]) (fun _ => []) (fun i => v.ks.length - i) 0 ⟨Nat.zero_le _, fun j hj => absurd hj (Nat.not_lt_zero j)⟩ ⟨rfl, rfl, rfl, trivial⟩ (HSub.none _) (fun i ⟨hi, hall⟩ K2 hK2 => ?_)
      refine CT.seq (CT.region ?_)
      refine Wl.q rfl rfl (OpQ.lss rfl rfl) ?_
      refine Wl.nil (PX.then_n (CT.seq ?_))
      refine CT.cond rfl (fun h22 => ?_) (fun h22 => ?_)
      ·
       have h22 := of_decide_eq_true h22
       have hil : i < v.ks.length := by omega
       refine CT.skip (PX.then_n (CT.seq (CT.block (CT.seq (CT.region ?_)))))
       refine Wl.q rfl rfl (OpQ.index K9_un22 K9_sz24 rfl rfl (by omega) (hva (by omega))) ?_
       refine Wl.q rfl rfl (OpQ.loadAggG (cs := evc (v.ks.getD i ev0)) K9_ag24 K9_sz24 rfl (fun w hH => (evm_iff.1 (hH.use hv)).1) (flat_cells evc_len v.ks ev0 (by omega))) ?_
       refine Wl.know 24 (v' := evv (v.ks.getD i ev0)) rfl rfl ?_
       refine Wl.g rfl rfl (OpG.alloc (zs := [.int .i64 0, .int .i64 0, .slice none 0 0]) K9_in24 rfl rfl) ?_
       rintro b4 _
       refine Wl.g rfl rfl (OpG.storeV (b := b4) K9_sz24 rfl rfl rfl rfl (by repeat (first | exact Upd.here | apply Upd.there))) ?_
       rintro _ _
       refine Wl.nil (PX.then_n (CT.seq (CT.region ?_)))
       refine Wl.q rfl rfl (OpQ.loadV (b := b4) K9_ag24 K9_sz24 rfl (by repeat (first | exact Has.here | apply Has.there)) (by rfl)) ?_
       refine Wl.know 25 (v' := evv (v.ks.getD i ev0)) rfl rfl ?_
       refine Wl.g rfl rfl (OpG.callV K9_go61 rfl (fun w hH => ih _ (kid_mem hil) w ((hH.stays0 hv).mono (fun w h => (evm_iff.1 h).2.1 _ (kid_mem hil))))) ?_
       rintro _ _
       refine Wl.q rfl rfl (OpQ.not rfl) ?_
       refine Wl.nil (PX.then_n ?_)
       refine CT.cond rfl (fun h27 => ?_) (fun h27 => ?_)
       ·
        refine CT.seq (CT.region ?_)
        refine Wl.q rfl rfl (OpQ.assign rfl) ?_
        refine Wl.nil (PX.then_n (CT.ret (PX.block_r (PX.then_r (PX.then_r (PX.block_r (PX.then_r (PX.block_r (PX.then_r ?_)))))))))
        refine PX.ret1 rfl rfl (fun w' hH => ?_)
        exact ⟨by rw [hasU_mk v, if_neg h7, if_neg h10, if_pos h15, all_no (p := fun k => hasU (toE k)) hil (by simpa using h27)], hH.ext⟩
       ·
        refine CT.skip (PX.block_n (PX.then_n (CT.region ?_)))
        refine Wl.q rfl rfl (OpQ.add rfl rfl (by omega)) ?_
        refine Wl.q rfl rfl (OpQ.move rfl) ?_
        refine Wl.nil ?_
        exact PX.loop hK2 (i + 1) ⟨by omega, all_take_s (p := fun k => hasU (toE k)) hil hall (by simpa using h27)⟩ (by first | omega | (dsimp only; omega)) ⟨rfl, rfl, rfl, trivial⟩ (HSub.none _)
      ·
       have h22 := of_decide_eq_false h22
       refine CT.exit (PX.then_x (PX.then_x (PX.block_x (PX.then_n (CT.seq (CT.region ?_))))))
       refine Wl.q rfl rfl (OpQ.assign rfl) ?_
       refine Wl.nil (PX.then_n (CT.ret (PX.block_r (PX.then_r ?_))))
       refine PX.ret1 rfl rfl (fun w' hH => ?_)
       exact ⟨by rw [hasU_mk v, if_neg h7, if_neg h10, if_pos h15, all_of (p := fun k => hasU (toE k)) (fun j hj => hall j (by omega))], hH.ext⟩
     ·
      have h15 := of_decide_eq_false h15
      refine CT.seq (CT.region ?_)
      refine Wl.q rfl rfl (OpQ.eql rfl rfl) ?_
      refine Wl.q rfl rfl (OpQ.assign rfl) ?_
      refine Wl.nil (PX.then_n ?_)
      refine CT.cond rfl (fun h29 => ?_) (fun h29 => ?_)
      ·
       have h29 := of_decide_eq_true h29
       refine CT.seq (CT.region ?_)
       refine Wl.q rfl rfl (OpQ.fieldAddr K9_fa24_2 rfl) ?_
       refine Wl.q rfl rfl (OpQ.loadF (b := b1) K9_sc22 rfl (by repeat (first | exact Has.here | apply Has.there)) (by rfl)) ?_
       refine Wl.q rfl rfl (OpQ.len K9_un22 rfl) ?_
       refine Wl.q rfl rfl (OpQ.eql rfl rfl) ?_
       refine Wl.q rfl rfl (OpQ.move rfl) ?_
       refine Wl.split 35 rfl (fun hg35 => ?_) (fun hg35 => ?_)
       ·
        have hg35 := of_decide_eq_true hg35
        refine Wl.q rfl rfl (OpQ.fieldAddr K9_fa24_2 rfl) ?_
        refine Wl.q rfl rfl (OpQ.loadF (b := b1) K9_sc22 rfl (by repeat (first | exact Has.here | apply Has.there)) (by rfl)) ?_
        refine Wl.q rfl rfl (OpQ.index K9_un22 K9_sz24 rfl rfl (by omega) (hva (by omega))) ?_
        refine Wl.q rfl rfl (OpQ.loadAggG (cs := evc (v.ks.getD 0 ev0)) K9_ag24 K9_sz24 rfl (fun w hH => (evm_iff.1 (hH.use hv)).1) (flat_cells evc_len v.ks ev0 (by omega))) ?_
        refine Wl.know 39 (v' := evv (v.ks.getD 0 ev0)) rfl rfl ?_
        refine Wl.g rfl rfl (OpG.callV K9_go61 rfl (fun w hH => ih _ (kid_mem (show 0 < v.ks.length by omega)) w ((hH.stays0 hv).mono (fun w h => (evm_iff.1 h).2.1 _ (kid_mem (show 0 < v.ks.length by omega)))))) ?_
        rintro _ _
        refine Wl.q rfl rfl (OpQ.not rfl) ?_
        refine Wl.q rfl rfl (OpQ.pickT rfl rfl) ?_
        refine Wl.q rfl rfl (OpQ.assign rfl) ?_
        refine Wl.nil (PX.then_n (CT.ret (PX.block_r (PX.then_r ?_))))
        refine PX.ret1 rfl rfl (fun w' hH => ?_)
        have e1 : hasU (toE v) = !hasU (toE (v.ks.getD 0 ev0)) := by
         rw [hasU_mk v, if_neg h7, if_neg h10, if_neg h15, if_pos h29]
         obtain ⟨k, hk1⟩ := List.length_eq_one_iff.1 (show v.ks.length = 1 by omega)
         rw [hk1]; simp
        exact ⟨by rw [e1], hH.ext⟩
       ·
        have hg35 := of_decide_eq_false hg35
        refine Wl.skip rfl rfl ?_
        refine Wl.skip rfl rfl ?_
        refine Wl.skip rfl rfl ?_
        refine Wl.skip rfl rfl ?_
        refine Wl.skip rfl rfl ?_
        refine Wl.skip rfl rfl ?_
        refine Wl.q rfl rfl (OpQ.pickF rfl rfl) ?_
        refine Wl.q rfl rfl (OpQ.assign rfl) ?_
        refine Wl.nil (PX.then_n (CT.ret (PX.block_r (PX.then_r ?_))))
        refine PX.ret1 rfl rfl (fun w' hH => ?_)
        exact ⟨by rw [hasU_mk v, if_neg h7, if_neg h10, if_neg h15, if_pos h29, decide_eq_false (show ¬ v.ks.length = 1 by omega)]; rfl, hH.ext⟩
      ·
       have h29 := of_decide_eq_false h29
       refine CT.skip (PX.block_n (PX.then_n (CT.seq (CT.region ?_))))
       refine Wl.q rfl rfl (OpQ.assign rfl) ?_
       refine Wl.nil (PX.then_n (CT.ret ?_))
       refine PX.ret1 rfl rfl (fun w' hH => ?_)
       exact ⟨by rw [hasU_mk v, if_neg h7, if_neg h10, if_neg h15, if_neg h29], hH.ext⟩
theorem hasU_spec  (v : Xv) : ∀ w : World, Stays [] w (evm v) → Calls Tryz.prog 61 #[evv v] w (fun e w' => e = .returned (.bool (hasU (toE v))) ∧ Ext [] w w') := Xv.ind (p := fun v => ∀ w : World, Stays [] w (evm v) → Calls Tryz.prog 61 #[evv v] w (fun e w' => e = .returned (.bool (hasU (toE v))) ∧ Ext [] w w')) (fun v ih w hv => hasU_specI w  v hv ih) v

end Go.Proofs.YtmggcdegekbncabGreatDoor

