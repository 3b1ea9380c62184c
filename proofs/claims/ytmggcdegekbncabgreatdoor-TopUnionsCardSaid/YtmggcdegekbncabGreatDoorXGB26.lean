/-
  What functions of the program compute, each by its walk. Conditions: those that each theorem names.
-/
import Derived.Test.YtmggcdegekbncabGreatDoorEng1
import Derived.Test.YtmggcdegekbncabGreatDoorXGB25
import Derived.Test.YtmggcdegekbncabGreatDoorXF
set_option linter.unusedSimpArgs false
namespace Go.Proofs.YtmggcdegekbncabGreatDoor
open Go Go.Eng Go.Am Go.Ex
open Go.Tp (zi)
open Go.Tl (mayL Wd okW okB bo)
open Go.Ex.simp (simpL)
open Go.Ex.dv (dvL dvC)
open Go.Ex.hasU (hasAny hasAll)
open Go.Ex.wf (wfL)
open Go.Ex.szE (szL)
open Go.Ex.dpE (dpL)
open Go.Ex.cmpE (cmpL)
open Go.Ex.fmtE (fmtK fmtR)
theorem K26_sc28 : scalarB Tryz.prog 28 = some true := by kernel_rfl
theorem K26_in97 : (Tryz.prog.info? 97).map (fun i => (i.zero, i.size, i.bytes)) = some (some (.agg #[.int .i64 0, .int .i64 0]), 2, 16) := by kernel_rfl
theorem K26_mixed : Tryz.prog.follows .mixedOrders = true := by kernel_rfl
theorem K26_fa30_3 : fieldB Tryz.prog 30 3 = some 3 := by kernel_rfl
theorem K26_un97 : Tryz.prog.underlying 97 = some (.array 2 3) := by kernel_rfl
theorem K26_sz3 : sizeB Tryz.prog 3 = some 1 := by kernel_rfl
theorem K26_sc3 : scalarB Tryz.prog 3 = some true := by kernel_rfl
theorem K26_un28 : Tryz.prog.underlying 28 = some (.slice 62) := by kernel_rfl
theorem K26_sz62 : sizeB Tryz.prog 62 = some 1 := by kernel_rfl
theorem K26_sc62 : scalarB Tryz.prog 62 = some true := by kernel_rfl
theorem K26_un62 : Tryz.prog.underlying 62 = some (.slice 3) := by kernel_rfl
theorem K26_sz97 : sizeB Tryz.prog 97 = some 2 := by kernel_rfl
theorem K26_ag97 : isAggB Tryz.prog 97 = some true := by kernel_rfl
set_option maxRecDepth 100000 in
/-- semigroup/dfa.Product$1 -/
theorem prod1_spec (w : World) (b1 b2 : Nat) (D : Dv) (hD : Stays [] w (dvm D)) (F : Dv) (hF : Stays [] w (dvm F)) (hv : D.Ok) (hw : F.Ok) (hb1 : Stays [] w (fun w => Rd w (some ⟨b1, 0, none⟩) (dvc D))) (hb2 : Stays [] w (fun w => Rd w (some ⟨b2, 0, none⟩) (dvc F))) (p : Nat × Nat) (hp : p.1 < D.fin.length ∧ p.2 < F.fin.length) (x : Nat) (hx : (x : Int) < D.L ∧ (x : Int) < F.L) : Calls Tryz.prog 54 #[kp2 p, .int .i64 ((x : Nat) : Int), .pointer (some ⟨b1, 0, none⟩), .pointer (some ⟨b2, 0, none⟩)] w (fun e w' => e = .returned (kp2 (prF D.da F.da p x)) ∧ Ext [] w w') := by
 have hns : 0 < D.rs.length → D.na.isSome = true := fun h => hD.now.2.1.isSome (j := 0) (by rw [List.length_map]; exact h)
 have hrs : ∀ q, q < D.rs.length → 0 < (D.rs.getD q rw0).xs.length → (D.rs.getD q rw0).a.isSome = true := fun q hq h => (hD.now.2.2 _ (getDm hq)).isSome (j := 0) (by rw [List.length_map]; exact h)
 have hns2 : 0 < F.rs.length → F.na.isSome = true := fun h => hF.now.2.1.isSome (j := 0) (by rw [List.length_map]; exact h)
 have hrs2 : ∀ q, q < F.rs.length → 0 < (F.rs.getD q rw0).xs.length → (F.rs.getD q rw0).a.isSome = true := fun q hq h => (hF.now.2.2 _ (getDm hq)).isSome (j := 0) (by rw [List.length_map]; exact h)
 have hlen := hv.len
 have hlen2 := hw.len
 have hr1 := (hv.row p.1 hp.1).1
 have hr2 := (hw.row p.2 hp.2).1
 refine enter (args := [kp2 p, .int .i64 ((x : Nat) : Int), .pointer (some ⟨b1, 0, none⟩), .pointer (some ⟨b2, 0, none⟩)]) [] 26 Tryz.func54 rfl rfl rfl ?_
 refine CT.seq (CT.region ?_)
 refine Wl.g rfl rfl (OpG.box (size := 2) rfl rfl rfl) ?_
 rintro b4 _
 refine Wl.g rfl rfl (OpG.alloc (zs := [.int .i64 0, .int .i64 0]) K26_in97 rfl rfl) ?_
 rintro b6 _
 refine Wl.nil (PX.then_n (CT.seq ?_))
 refine CT.draw 19 K26_mixed ?_
 refine RA.q 0 (by kernel_rfl) rfl rfl rfl (.refl _) (OpQ.fieldAddr K26_fa30_3 rfl) ?_
 refine RA.q 1 (by kernel_rfl) rfl rfl rfl (.refl _) (OpQ.loadG (a := some ⟨b1, 0, none⟩) (j := 3) K26_sc28 rfl (fun w hH => hH.use hb1) rfl) ?_
 refine RA.q 2 (by kernel_rfl) rfl rfl rfl (.refl _) (OpQ.indexArr1 K26_un97 K26_sz3 rfl rfl (by omega)) ?_
 refine RA.q 3 (by kernel_rfl) rfl rfl rfl (.refl _) (OpQ.loadF (b := b4) K26_sc3 rfl (by repeat (first | exact Has.here | apply Has.there)) (by rfl)) ?_
 refine RA.know 10 (v' := .int .i64 ((p.1 : Nat) : Int)) rfl rfl ?_
 refine RA.q 4 (by kernel_rfl) rfl rfl rfl (.refl _) (OpQ.index1 K26_un28 K26_sz62 rfl rfl (by omega) (hns (by omega))) ?_
 refine RA.q 5 (by kernel_rfl) rfl rfl rfl (.refl _) (OpQ.loadG K26_sc62 rfl (fun w hH => (hH.use hD).2.1) (getMap rv D.rs rw0 (j := p.1) (by omega))) ?_
 refine RA.q 6 (by kernel_rfl) rfl rfl rfl (.refl _) (OpQ.move rfl) ?_
 refine RA.q 7 (by kernel_rfl) rfl rfl rfl (.refl _) (OpQ.index1 K26_un62 K26_sz3 rfl rfl (by omega) (hrs p.1 (by omega) (by omega))) ?_
 refine RA.q 8 (by kernel_rfl) rfl rfl rfl (.refl _) (OpQ.loadG K26_sc3 rfl (fun w hH => (hH.use hD).2.2 _ (getDm (show p.1 < D.rs.length by omega))) (getMap zz (D.rs.getD p.1 rw0).xs 0 (j := x) (by omega))) ?_
 refine RA.know 15 (v' := .int .i64 ((D.da.to p.1 x : Nat) : Int)) rfl (congrArg (Value.int .i64) (hv.to hp.1 hx.1)) ?_
 refine RA.q 9 (by kernel_rfl) rfl rfl rfl (.refl _) (OpQ.fieldAddr K26_fa30_3 rfl) ?_
 refine RA.q 10 (by kernel_rfl) rfl rfl rfl (.refl _) (OpQ.loadG (a := some ⟨b2, 0, none⟩) (j := 3) K26_sc28 rfl (fun w hH => hH.use hb2) rfl) ?_
 refine RA.q 11 (by kernel_rfl) rfl rfl rfl (.refl _) (OpQ.indexArr1 K26_un97 K26_sz3 rfl rfl (by omega)) ?_
 refine RA.q 12 (by kernel_rfl) rfl rfl rfl (.refl _) (OpQ.loadF (b := b4) K26_sc3 rfl (by repeat (first | exact Has.here | apply Has.there)) (by rfl)) ?_
 refine RA.know 19 (v' := .int .i64 ((p.2 : Nat) : Int)) rfl rfl ?_
 refine RA.q 13 (by kernel_rfl) rfl rfl rfl (.refl _) (OpQ.index1 K26_un28 K26_sz62 rfl rfl (by omega) (hns2 (by omega))) ?_
 refine RA.q 14 (by kernel_rfl) rfl rfl rfl (.refl _) (OpQ.loadG K26_sc62 rfl (fun w hH => (hH.use hF).2.1) (getMap rv F.rs rw0 (j := p.2) (by omega))) ?_
 refine RA.q 15 (by kernel_rfl) rfl rfl rfl (.refl _) (OpQ.move rfl) ?_
 refine RA.q 16 (by kernel_rfl) rfl rfl rfl (.refl _) (OpQ.index1 K26_un62 K26_sz3 rfl rfl (by omega) (hrs2 p.2 (by omega) (by omega))) ?_
 refine RA.q 17 (by kernel_rfl) rfl rfl rfl (.refl _) (OpQ.loadG K26_sc3 rfl (fun w hH => (hH.use hF).2.2 _ (getDm (show p.2 < F.rs.length by omega))) (getMap zz (F.rs.getD p.2 rw0).xs 0 (j := x) (by omega))) ?_
 refine RA.know 24 (v' := .int .i64 ((F.da.to p.2 x : Nat) : Int)) rfl (congrArg (Value.int .i64) (hw.to hp.2 hx.2)) ?_
 refine RA.q 18 (by kernel_rfl) rfl rfl rfl (.refl _) (OpQ.buildArr (cells := #[_, _]) K26_un97 K26_sz3 K26_in97 rfl rfl) ?_
 refine RA.tail ?_
 refine RT.f 19 (by kernel_rfl) rfl rfl rfl (OpG.storeV (b := b6) K26_sz97 rfl rfl rfl rfl (by repeat (first | exact Upd.here | apply Upd.there))) ?_
 rintro _ _
 refine RT.done (by kernel_rfl) ?_
 refine PX.then_n (CT.ret ?_)
 refine PX.retC rfl rfl (by repeat (first | exact Has.here | apply Has.there)) K26_ag97 K26_sz97 (by rfl) (fun w' hH => ?_)
 exact ⟨rfl, hH.ext⟩

theorem K26_sc27 : scalarB Tryz.prog 27 = some true := by kernel_rfl
theorem K26_fa30_2 : fieldB Tryz.prog 30 2 = some 2 := by kernel_rfl
theorem K26_un27 : Tryz.prog.underlying 27 = some (.slice 4) := by kernel_rfl
theorem K26_sz4 : sizeB Tryz.prog 4 = some 1 := by kernel_rfl
theorem K26_sc4 : scalarB Tryz.prog 4 = some true := by kernel_rfl
set_option maxRecDepth 100000 in
/-- semigroup/dfa.Product$2 -/
theorem prod2_spec (w : World) (b1 b2 b3 op : Nat) (D : Dv) (hD : Stays [] w (dvm D)) (F : Dv) (hF : Stays [] w (dvm F)) (_hv : D.Ok) (_hw : F.Ok) (hb1 : Stays [] w (fun w => Rd w (some ⟨b1, 0, none⟩) (dvc D))) (hb2 : Stays [] w (fun w => Rd w (some ⟨b2, 0, none⟩) (dvc F))) (hb3 : Stays [] w (fun w => Rd w (some ⟨b3, 0, none⟩) [.int .i64 ((op : Nat) : Int)])) (p : Nat × Nat) (hp : p.1 < D.fin.length ∧ p.2 < F.fin.length) : Calls Tryz.prog 55 #[kp2 p, .pointer (some ⟨b1, 0, none⟩), .pointer (some ⟨b2, 0, none⟩), .pointer (some ⟨b3, 0, none⟩)] w (fun e w' => e = .returned (.bool (prE D.da F.da op p)) ∧ Ext [] w w') := by
 have hfs : 0 < D.fin.length → D.fa.isSome = true := fun h => hD.now.1.isSome (j := 0) (by rw [List.length_map]; exact h)
 have hfs2 : 0 < F.fin.length → F.fa.isSome = true := fun h => hF.now.1.isSome (j := 0) (by rw [List.length_map]; exact h)
 refine enter (args := [kp2 p, .pointer (some ⟨b1, 0, none⟩), .pointer (some ⟨b2, 0, none⟩), .pointer (some ⟨b3, 0, none⟩)]) [] 28 Tryz.func55 rfl rfl rfl ?_
 refine CT.seq (CT.region ?_)
 refine Wl.g rfl rfl (OpG.box (size := 2) rfl rfl rfl) ?_
 rintro b4 _
 refine Wl.q rfl rfl (OpQ.assign rfl) ?_
 refine Wl.nil (PX.then_n (CT.seq (CT.region ?_)))
 refine Wl.q rfl rfl (OpQ.assign rfl) ?_
 refine Wl.nil (PX.then_n ?_)
 refine CT.cut (ι := Unit) (Φ := fun _ => True) (E' := fun _ => [(1, .pointer (some ⟨b1, 0, none⟩)), (2, .pointer (some ⟨b2, 0, none⟩)), (3, .pointer (some ⟨b3, 0, none⟩)), (4, .pointer (some ⟨b4, 0, none⟩)), (6, .int .i64 (((if D.da.fi p.1 then 2 else 0) : Nat) : Int))]) (H' := fun _ => [.row 97 2 (vb b4) 1 (stv p)]) (fun K0 hK0 => ?_) (fun _ _ => ?_)
 ·
  refine CT.seq (CT.region ?_)
  refine Wl.q rfl rfl (OpQ.fieldAddr K26_fa30_2 rfl) ?_
  refine Wl.q rfl rfl (OpQ.loadG (a := some ⟨b1, 0, none⟩) (j := 2) K26_sc27 rfl (fun w hH => hH.use hb1) rfl) ?_
  refine Wl.q rfl rfl (OpQ.indexArr1 K26_un97 K26_sz3 rfl rfl (by omega)) ?_
  refine Wl.q rfl rfl (OpQ.loadF (b := b4) K26_sc3 rfl (by repeat (first | exact Has.here | apply Has.there)) (by rfl)) ?_
  refine Wl.know 10 (v' := .int .i64 ((p.1 : Nat) : Int)) rfl rfl ?_
  refine Wl.q rfl rfl (OpQ.index1 K26_un27 K26_sz4 rfl rfl (by omega) (hfs (by omega))) ?_
  refine Wl.q rfl rfl (OpQ.loadG K26_sc4 rfl (fun w hH => (hH.use hD).1) (getMap bo D.fin false (j := p.1) (by omega))) ?_
  refine Wl.nil (PX.then_n ?_)
  refine CT.cond rfl (fun h12 => ?_) (fun h12 => ?_)
  ·
   refine CT.region ?_
   refine Wl.q rfl rfl (OpQ.move rfl) ?_
   refine Wl.q rfl rfl (OpQ.add rfl rfl (by omega)) ?_
   refine Wl.q rfl rfl (OpQ.assign rfl) ?_
   refine Wl.nil ?_
   exact PX.cut hK0 () trivial ⟨rfl, rfl, rfl, rfl, (lkV rfl (congrArg (Value.int .i64) (by rw [show D.da.fi p.1 = true from h12]; rfl))), trivial⟩ (HSub.refl _)
  ·
   refine CT.skip ?_
   exact PX.cut hK0 () trivial ⟨rfl, rfl, rfl, rfl, (lkV rfl (congrArg (Value.int .i64) (by rw [show D.da.fi p.1 = false from h12]; rfl))), trivial⟩ (HSub.refl _)
 ·
  refine CT.cut (ι := Unit) (Φ := fun _ => True) (E' := fun _ => [(1, .pointer (some ⟨b1, 0, none⟩)), (2, .pointer (some ⟨b2, 0, none⟩)), (3, .pointer (some ⟨b3, 0, none⟩)), (4, .pointer (some ⟨b4, 0, none⟩)), (6, .int .i64 ((((if D.da.fi p.1 then 2 else 0) + (if F.da.fi p.2 then 1 else 0)) : Nat) : Int))]) (H' := fun _ => [.row 97 2 (vb b4) 1 (stv p)]) (fun K1 hK1 => ?_) (fun _ _ => ?_)
  ·
   refine CT.seq (CT.region ?_)
   refine Wl.q rfl rfl (OpQ.fieldAddr K26_fa30_2 rfl) ?_
   refine Wl.q rfl rfl (OpQ.loadG (a := some ⟨b2, 0, none⟩) (j := 2) K26_sc27 rfl (fun w hH => hH.use hb2) rfl) ?_
   refine Wl.q rfl rfl (OpQ.indexArr1 K26_un97 K26_sz3 rfl rfl (by omega)) ?_
   refine Wl.q rfl rfl (OpQ.loadF (b := b4) K26_sc3 rfl (by repeat (first | exact Has.here | apply Has.there)) (by rfl)) ?_
   refine Wl.know 18 (v' := .int .i64 ((p.2 : Nat) : Int)) rfl rfl ?_
   refine Wl.q rfl rfl (OpQ.index1 K26_un27 K26_sz4 rfl rfl (by omega) (hfs2 (by omega))) ?_
   refine Wl.q rfl rfl (OpQ.loadG K26_sc4 rfl (fun w hH => (hH.use hF).1) (getMap bo F.fin false (j := p.2) (by omega))) ?_
   refine Wl.nil (PX.then_n ?_)
   refine CT.cond rfl (fun h20 => ?_) (fun h20 => ?_)
   ·
    refine CT.region ?_
    refine Wl.q rfl rfl (OpQ.move rfl) ?_
    refine Wl.q rfl rfl (OpQ.add rfl rfl (by split <;> omega)) ?_
    refine Wl.q rfl rfl (OpQ.assign rfl) ?_
    refine Wl.nil ?_
    exact PX.cut hK1 () trivial ⟨rfl, rfl, rfl, rfl, (lkV rfl (congrArg (Value.int .i64) (by rw [show F.da.fi p.2 = true from h20]; rfl))), trivial⟩ (HSub.refl _)
   ·
    refine CT.skip ?_
    exact PX.cut hK1 () trivial ⟨rfl, rfl, rfl, rfl, (lkV rfl (congrArg (Value.int .i64) (by rw [show F.da.fi p.2 = false from h20]; rfl))), trivial⟩ (HSub.refl _)
  ·
   refine CT.seq (CT.region ?_)
   refine Wl.q rfl rfl (OpQ.loadG (a := some ⟨b3, 0, none⟩) (j := 0) K26_sc3 rfl (fun w hH => hH.use hb3) rfl) ?_
   refine Wl.q rfl rfl (OpQ.move rfl) ?_
   refine Wl.q rfl rfl (OpQ.ishr (m := op) (n := (if D.da.fi p.1 then 2 else 0) + (if F.da.fi p.2 then 1 else 0)) rfl rfl (by split <;> split <;> omega)) ?_
   refine Wl.q rfl rfl (OpQ.iand1 rfl rfl) ?_
   refine Wl.q rfl rfl (OpQ.eql rfl rfl) ?_
   refine Wl.q rfl rfl (OpQ.assign rfl) ?_
   refine Wl.nil (PX.then_n (CT.ret ?_))
   refine PX.ret1 rfl rfl (fun w' hH => ?_)
   exact ⟨congrArg (fun z => Ending.returned (Value.bool z)) (by unfold prE byOp; rw [decide_eq_decide]; omega), hH.ext⟩

theorem K26_go54 : isGo Tryz.prog 54 = true := by kernel_rfl
theorem K26_go55 : isGo Tryz.prog 55 = true := by kernel_rfl
theorem K26_in30 : (Tryz.prog.info? 30).map (fun i => (i.zero, i.size, i.bytes)) = some (some (.agg #[.int .i64 0, .int .i64 0, .slice none 0 0, .slice none 0 0]), 4, 64) := by kernel_rfl
theorem K26_ag30 : isAggB Tryz.prog 30 = some true := by kernel_rfl
theorem K26_sz30 : sizeB Tryz.prog 30 = some 4 := by kernel_rfl
theorem K26_go12 : isGo Tryz.prog 12 = true := by kernel_rfl
theorem K26_fa30_0 : fieldB Tryz.prog 30 0 = some 0 := by kernel_rfl
theorem K26_fa30_1 : fieldB Tryz.prog 30 1 = some 1 := by kernel_rfl
theorem K26_go53 : isGo Tryz.prog 53 = true := by kernel_rfl
set_option maxRecDepth 100000 in
/-- semigroup/dfa.Product -/
theorem prod_spec (w : World) (D : Dv) (hD : Stays [] w (dvm D)) (F : Dv) (hF : Stays [] w (dvm F)) (hv : D.Ok) (hw : F.Ok) (h5 : D.fin.length ≤ 512) (h6 : F.fin.length ≤ 512) (hLF : D.L = F.L) (op : Nat) (hop : op ≤ 15) : Calls Tryz.prog 29 #[dvv D, dvv F, .int .i64 ((op : Nat) : Int)] w (fun e w' => ∃ z : Dv × List Nat × Int, ((z.2.2 = 0 ∧ ∃ K, Done (prF D.da F.da) D.da.L (D.da.s, F.da.s) K ∧ (bfs (prF D.da F.da) D.da.L (D.da.s, F.da.s) K).length ≤ 512 ∧ z.1.Is (autoD (prF D.da F.da) D.da.L (D.da.s, F.da.s) K (prE D.da F.da op))) ∨ z.2.2 = 3) ∧ e = .returned (.tuple #[dvv z.1, .int .i64 z.2.2]) ∧ Post [] [.frag z.2.1 (dvm z.1)] w w') := by
 have hmay := hv.may
 have hLe := hv.L_eq
 have hLe2 := hw.L_eq
 have hdom : ∀ p x, (fun p : Nat × Nat => p.1 < D.fin.length ∧ p.2 < F.fin.length) p → x < D.da.L → (fun p : Nat × Nat => p.1 < D.fin.length ∧ p.2 < F.fin.length) (prF D.da F.da p x) := fun p x hp hx => ⟨hv.daOk.lt p.1 x hp.1 hx, hw.daOk.lt p.2 x hp.2 (by omega)⟩
 refine enter (args := [dvv D, dvv F, .int .i64 ((op : Nat) : Int)]) [] 55 Tryz.func29 rfl rfl rfl ?_
 refine CT.seq (CT.region ?_)
 refine Wl.g rfl rfl (OpG.box (size := 4) rfl rfl rfl) ?_
 rintro b3 _
 refine Wl.g rfl rfl (OpG.box (size := 4) rfl rfl rfl) ?_
 rintro b4 _
 refine Wl.g rfl rfl (OpG.box (size := 1) rfl rfl rfl) ?_
 rintro b5 _
 refine Wl.g rfl rfl (OpG.alloc (zs := [.int .i64 0, .int .i64 0, .slice none 0 0, .slice none 0 0]) K26_in30 rfl rfl) ?_
 rintro b6 _
 refine Wl.q rfl rfl (OpQ.assign rfl) ?_
 refine Wl.nil (PX.then_n (CT.seq (CT.seq (CT.region ?_))))
 refine Wl.q rfl rfl (OpQ.loadV (b := b3) K26_ag30 K26_sz30 rfl (by repeat (first | exact Has.here | apply Has.there)) (by rfl)) ?_
 refine Wl.know 13 (v' := dvv D) rfl rfl ?_
 refine Wl.g rfl rfl (OpG.callV K26_go12 rfl (fun w hH => dvalid_spec w D (hH.stays0 hD))) ?_
 rintro _ _
 refine Wl.know 14 (v' := .int .i64 0) rfl (congrArg (Value.int .i64) (hv.zero h5)) ?_
 refine Wl.q rfl rfl (OpQ.assign rfl) ?_
 refine Wl.nil (PX.then_n (CT.seq (CT.region ?_)))
 refine Wl.q rfl rfl (OpQ.move rfl) ?_
 refine Wl.q rfl rfl (OpQ.neq rfl rfl) ?_
 refine Wl.know 16 (v' := .bool false) rfl (congrArg Value.bool rfl) ?_
 refine Wl.nil (PX.then_n ?_)
 refine CT.condF rfl ?_
 refine CT.skip (PX.then_n (CT.seq (CT.seq (CT.region ?_))))
 refine Wl.q rfl rfl (OpQ.loadV (b := b4) K26_ag30 K26_sz30 rfl (by repeat (first | exact Has.here | apply Has.there)) (by rfl)) ?_
 refine Wl.know 19 (v' := dvv F) rfl rfl ?_
 refine Wl.g rfl rfl (OpG.callV K26_go12 rfl (fun w hH => dvalid_spec w F (hH.stays0 hF))) ?_
 rintro _ _
 refine Wl.know 20 (v' := .int .i64 0) rfl (congrArg (Value.int .i64) (hw.zero h6)) ?_
 refine Wl.q rfl rfl (OpQ.assign rfl) ?_
 refine Wl.nil (PX.then_n (CT.seq (CT.region ?_)))
 refine Wl.q rfl rfl (OpQ.move rfl) ?_
 refine Wl.q rfl rfl (OpQ.neq rfl rfl) ?_
 refine Wl.know 22 (v' := .bool false) rfl (congrArg Value.bool rfl) ?_
 refine Wl.nil (PX.then_n ?_)
 refine CT.condF rfl ?_
 refine CT.skip (PX.then_n (CT.seq (CT.seq (CT.region ?_))))
 refine Wl.q rfl rfl (OpQ.fieldAddr K26_fa30_0 rfl) ?_
 refine Wl.q rfl rfl (OpQ.loadF (b := b3) K26_sc3 rfl (by repeat (first | exact Has.here | apply Has.there)) (by rfl)) ?_
 refine Wl.q rfl rfl (OpQ.fieldAddr K26_fa30_0 rfl) ?_
 refine Wl.q rfl rfl (OpQ.loadF (b := b4) K26_sc3 rfl (by repeat (first | exact Has.here | apply Has.there)) (by rfl)) ?_
 refine Wl.q rfl rfl (OpQ.neq rfl rfl) ?_
 refine Wl.know 29 (v' := .bool false) rfl (congrArg Value.bool (by rw [hLF]; simp)) ?_
 refine Wl.q rfl rfl (OpQ.move rfl) ?_
 refine Wl.q rfl rfl (OpQ.loadV1 (b := b5) K26_sc3 rfl (by repeat (first | exact Has.here | apply Has.there))) ?_
 refine Wl.q rfl rfl (OpQ.lss rfl rfl) ?_
 refine Wl.know 32 (v' := .bool false) rfl (congrArg Value.bool (decide_eq_false (by omega))) ?_
 refine Wl.q rfl rfl (OpQ.pickF rfl rfl) ?_
 refine Wl.q rfl rfl (OpQ.move rfl) ?_
 refine Wl.q rfl rfl (OpQ.loadV1 (b := b5) K26_sc3 rfl (by repeat (first | exact Has.here | apply Has.there))) ?_
 refine Wl.q rfl rfl (OpQ.gtr rfl rfl) ?_
 refine Wl.know 36 (v' := .bool false) rfl (congrArg Value.bool (decide_eq_false (by omega))) ?_
 refine Wl.q rfl rfl (OpQ.pickF rfl rfl) ?_
 refine Wl.nil (PX.then_n ?_)
 refine CT.condF rfl ?_
 refine CT.skip (PX.then_n (CT.seq (CT.region ?_)))
 refine Wl.q rfl rfl (OpQ.fieldAddr K26_fa30_0 rfl) ?_
 refine Wl.q rfl rfl (OpQ.loadF (b := b3) K26_sc3 rfl (by repeat (first | exact Has.here | apply Has.there)) (by rfl)) ?_
 refine Wl.know 41 (v' := .int .i64 ((D.da.L : Nat) : Int)) rfl (congrArg (Value.int .i64) hv.L_eq) ?_
 refine Wl.q rfl rfl (OpQ.fieldAddr K26_fa30_1 rfl) ?_
 refine Wl.q rfl rfl (OpQ.loadF (b := b3) K26_sc3 rfl (by repeat (first | exact Has.here | apply Has.there)) (by rfl)) ?_
 refine Wl.know 43 (v' := .int .i64 ((D.da.s : Nat) : Int)) rfl (congrArg (Value.int .i64) hv.s_eq) ?_
 refine Wl.q rfl rfl (OpQ.fieldAddr K26_fa30_1 rfl) ?_
 refine Wl.q rfl rfl (OpQ.loadF (b := b4) K26_sc3 rfl (by repeat (first | exact Has.here | apply Has.there)) (by rfl)) ?_
 refine Wl.know 45 (v' := .int .i64 ((F.da.s : Nat) : Int)) rfl (congrArg (Value.int .i64) hw.s_eq) ?_
 refine Wl.q rfl rfl (OpQ.buildArr (cells := #[_, _]) K26_un97 K26_sz3 K26_in97 rfl rfl) ?_
 refine Wl.know 46 (v' := kp2 (D.da.s, F.da.s)) rfl rfl ?_
 refine Wl.q rfl rfl (OpQ.makeFunc rfl) ?_
 refine Wl.q rfl rfl (OpQ.makeFunc rfl) ?_
 refine Wl.g rfl rfl (OpG.callX K26_go53 rfl .nil (fun _ => (.cons .nil)) (fun w hH hp => exploreP_spec w (prF D.da F.da) (prE D.da F.da op) (fun p => p.1 < D.fin.length ∧ p.2 < F.fin.length) D.da.L (D.da.s, F.da.s) (by omega) ⟨hv.daOk.st, hw.daOk.st⟩ hdom 54 55 [.pointer (some ⟨b3, 0, none⟩), .pointer (some ⟨b4, 0, none⟩)] [.pointer (some ⟨b3, 0, none⟩), .pointer (some ⟨b4, 0, none⟩), .pointer (some ⟨b5, 0, none⟩)] K26_go54 K26_go55 (fun w1 he p x hp hx => prod1_spec w1 b3 b4 D ((hH.stays0 hD).ext he) F ((hH.stays0 hF).ext he) hv hw (Stays.ext (Stays.rd (hH.staysK0 (show Has _ (.row 30 4 (vb b3) 1 (dvc D)) from (by repeat (first | exact Has.here | apply Has.there))))) he) (Stays.ext (Stays.rd (hH.staysK0 (show Has _ (.row 30 4 (vb b4) 1 (dvc F)) from (by repeat (first | exact Has.here | apply Has.there))))) he) p hp x ⟨by omega, by omega⟩) (fun w1 he p hp => prod2_spec w1 b3 b4 b5 op D ((hH.stays0 hD).ext he) F ((hH.stays0 hF).ext he) hv hw (Stays.ext (Stays.rd (hH.staysK0 (show Has _ (.row 30 4 (vb b3) 1 (dvc D)) from (by repeat (first | exact Has.here | apply Has.there))))) he) (Stays.ext (Stays.rd (hH.staysK0 (show Has _ (.row 30 4 (vb b4) 1 (dvc F)) from (by repeat (first | exact Has.here | apply Has.there))))) he) (Stays.ext (Stays.rd (hH.staysK0 (show Has _ (.row 3 1 (vb b5) 1 [.int .i64 ((op : Nat) : Int)]) from (by repeat (first | exact Has.here | apply Has.there))))) he) p hp))) ?_
 rintro ⟨Z, zs, zv, er⟩ hZ
 dsimp only at hZ
 refine Wl.q rfl rfl (OpQ.move rfl) ?_
 refine Wl.q rfl rfl (OpQ.extract rfl rfl) ?_
 refine Wl.know 50 (v' := dvv Z) rfl rfl ?_
 refine Wl.q rfl rfl (OpQ.extract rfl rfl) ?_
 refine Wl.know 51 (v' := zv) rfl rfl ?_
 refine Wl.q rfl rfl (OpQ.extract rfl rfl) ?_
 refine Wl.know 52 (v' := .int .i64 er) rfl rfl ?_
 refine Wl.g rfl rfl (OpG.alloc (zs := [.int .i64 0, .int .i64 0, .slice none 0 0, .slice none 0 0]) K26_in30 rfl rfl) ?_
 rintro b10 _
 refine Wl.g rfl rfl (OpG.storeV (b := b10) K26_sz30 rfl rfl rfl rfl (by repeat (first | exact Upd.here | apply Upd.there))) ?_
 rintro _ _
 refine Wl.q rfl rfl (OpQ.assign rfl) ?_
 refine Wl.q rfl rfl (OpQ.assign rfl) ?_
 refine Wl.nil (PX.then_n (CT.seq (CT.region ?_)))
 refine Wl.q rfl rfl (OpQ.loadV (b := b10) K26_ag30 K26_sz30 rfl (by repeat (first | exact Has.here | apply Has.there)) (by rfl)) ?_
 refine Wl.know 53 (v' := dvv Z) rfl rfl ?_
 refine Wl.q rfl rfl (OpQ.move rfl) ?_
 refine Wl.g rfl rfl (OpG.storeV (b := b6) K26_sz30 rfl rfl rfl rfl (by repeat (first | exact Upd.here | apply Upd.there))) ?_
 rintro _ _
 refine Wl.q rfl rfl (OpQ.assign rfl) ?_
 refine Wl.nil (PX.then_n (CT.ret ?_))
 refine PX.retC2 rfl rfl rfl (by repeat (first | exact Has.here | apply Has.there)) K26_ag30 K26_sz30 (by rfl) (fun w' hH => ?_)
 exact ⟨(Z, zs, er), hZ, rfl, (hH.take (.cons (.there .here) .nil)).post⟩

theorem K26_go14 : isGo Tryz.prog 14 = true := by kernel_rfl
set_option maxRecDepth 100000 in
/-- semigroup/lang.both -/
theorem both_spec (w : World) (D : Dv) (hD : Stays [] w (dvm D)) (F : Dv) (hF : Stays [] w (dvm F)) (hv : D.Ok) (hw : F.Ok) (h5 : D.fin.length ≤ 512) (h6 : F.fin.length ≤ 512) (hLF : D.L = F.L) : Calls Tryz.prog 28 #[dvv D, dvv F] w (fun e w' => ∃ z : (Dv × List Nat) × (Dv × List Nat), (z.1.1.Ok ∧ IsMin D.da.L D.da.sy D.da.s z.1.1.da ∧ z.2.1.Ok ∧ IsMin F.da.L F.da.sy F.da.s z.2.1.da) ∧ e = .returned (.tuple #[dvv z.1.1, dvv z.2.1, .int .i64 0]) ∧ Post [] [.frag z.1.2 (dvm z.1.1), .frag z.2.2 (dvm z.2.1)] w w') := by
 refine enter (args := [dvv D, dvv F]) [] 34 Tryz.func28 rfl rfl rfl ?_
 refine CT.seq (CT.region ?_)
 refine Wl.g rfl rfl (OpG.box (size := 4) rfl rfl rfl) ?_
 rintro b2 _
 refine Wl.g rfl rfl (OpG.box (size := 4) rfl rfl rfl) ?_
 rintro b3 _
 refine Wl.g rfl rfl (OpG.alloc (zs := [.int .i64 0, .int .i64 0, .slice none 0 0, .slice none 0 0]) K26_in30 rfl rfl) ?_
 rintro b4 _
 refine Wl.g rfl rfl (OpG.alloc (zs := [.int .i64 0, .int .i64 0, .slice none 0 0, .slice none 0 0]) K26_in30 rfl rfl) ?_
 rintro b5 _
 refine Wl.q rfl rfl (OpQ.assign rfl) ?_
 refine Wl.nil (PX.then_n (CT.seq (CT.seq (CT.region ?_))))
 refine Wl.q rfl rfl (OpQ.loadV (b := b2) K26_ag30 K26_sz30 rfl (by repeat (first | exact Has.here | apply Has.there)) (by rfl)) ?_
 refine Wl.know 9 (v' := dvv D) rfl rfl ?_
 refine Wl.g rfl rfl (OpG.callV K26_go12 rfl (fun w hH => dvalid_spec w D (hH.stays0 hD))) ?_
 rintro _ _
 refine Wl.know 10 (v' := .int .i64 0) rfl (congrArg (Value.int .i64) (hv.zero h5)) ?_
 refine Wl.q rfl rfl (OpQ.assign rfl) ?_
 refine Wl.nil (PX.then_n (CT.seq (CT.region ?_)))
 refine Wl.q rfl rfl (OpQ.move rfl) ?_
 refine Wl.q rfl rfl (OpQ.neq rfl rfl) ?_
 refine Wl.know 12 (v' := .bool false) rfl (congrArg Value.bool rfl) ?_
 refine Wl.nil (PX.then_n ?_)
 refine CT.condF rfl ?_
 refine CT.skip (PX.then_n (CT.seq (CT.seq (CT.region ?_))))
 refine Wl.q rfl rfl (OpQ.loadV (b := b3) K26_ag30 K26_sz30 rfl (by repeat (first | exact Has.here | apply Has.there)) (by rfl)) ?_
 refine Wl.know 16 (v' := dvv F) rfl rfl ?_
 refine Wl.g rfl rfl (OpG.callV K26_go12 rfl (fun w hH => dvalid_spec w F (hH.stays0 hF))) ?_
 rintro _ _
 refine Wl.know 17 (v' := .int .i64 0) rfl (congrArg (Value.int .i64) (hw.zero h6)) ?_
 refine Wl.q rfl rfl (OpQ.assign rfl) ?_
 refine Wl.nil (PX.then_n (CT.seq (CT.region ?_)))
 refine Wl.q rfl rfl (OpQ.move rfl) ?_
 refine Wl.q rfl rfl (OpQ.neq rfl rfl) ?_
 refine Wl.know 19 (v' := .bool false) rfl (congrArg Value.bool rfl) ?_
 refine Wl.nil (PX.then_n ?_)
 refine CT.condF rfl ?_
 refine CT.skip (PX.then_n (CT.seq (CT.seq (CT.region ?_))))
 refine Wl.q rfl rfl (OpQ.fieldAddr K26_fa30_0 rfl) ?_
 refine Wl.q rfl rfl (OpQ.loadF (b := b2) K26_sc3 rfl (by repeat (first | exact Has.here | apply Has.there)) (by rfl)) ?_
 refine Wl.q rfl rfl (OpQ.fieldAddr K26_fa30_0 rfl) ?_
 refine Wl.q rfl rfl (OpQ.loadF (b := b3) K26_sc3 rfl (by repeat (first | exact Has.here | apply Has.there)) (by rfl)) ?_
 refine Wl.q rfl rfl (OpQ.neq rfl rfl) ?_
 refine Wl.know 27 (v' := .bool false) rfl (congrArg Value.bool (by rw [hLF]; simp)) ?_
 refine Wl.nil (PX.then_n ?_)
 refine CT.condF rfl ?_
 refine CT.skip (PX.then_n ?_)
 refine CT.cut (ι := (Dv × List Nat) × (Dv × List Nat)) (Φ := fun i => (i.1.1.Ok ∧ IsMin D.da.L D.da.sy D.da.s i.1.1.da) ∧ (i.2.1.Ok ∧ IsMin F.da.L F.da.sy F.da.s i.2.1.da)) (E' := fun i => [(4, .pointer (some ⟨b4, 0, none⟩)), (5, .pointer (some ⟨b5, 0, none⟩)), (6, .int .i64 0)]) (H' := fun i => [.frag i.2.2 (dvm i.2.1), .frag i.1.2 (dvm i.1.1), .row 30 4 (vb b5) 1 (dvc i.2.1), .row 30 4 (vb b4) 1 (dvc i.1.1)]) (fun K0 hK0 => ?_) (fun ⟨⟨M, ms⟩, ⟨N, ns⟩⟩ ⟨hM, hN⟩ => ?_)
 ·
  refine CT.draw' (Hc := [.row 30 4 (vb b3) 1 (dvc F), .row 30 4 (vb b2) 1 (dvc D)]) 7 K26_mixed ?_
  refine RA.q 0 (by kernel_rfl) rfl rfl rfl (.cons _ (.cons _ (.cons_cons _ (.cons_cons _ (.refl _))))) (OpQ.loadV (b := b2) K26_ag30 K26_sz30 rfl (by repeat (first | exact Has.here | apply Has.there)) (by rfl)) ?_
  refine RA.know 30 (v' := dvv D) rfl rfl ?_
  refine RA.q 2 (by kernel_rfl) rfl rfl rfl (.cons _ (.cons _ (.cons_cons _ (.cons_cons _ (.refl _))))) (OpQ.loadV (b := b3) K26_ag30 K26_sz30 rfl (by repeat (first | exact Has.here | apply Has.there)) (by rfl)) ?_
  refine RA.know 32 (v' := dvv F) rfl rfl ?_
  refine RA.f 1 (by kernel_rfl) rfl rfl rfl (OpG.callX K26_go14 rfl .nil (fun _ => (.cons .nil)) (fun w hH hp => minimize_spec w D (hH.stays0 hD) hv h5)) (fun _ _ => (.cons _ (.cons _ (.cons _ (.cons_cons _ (.cons_cons _ (.refl _))))))) ?_
  rintro ⟨M, ms⟩ hM
  refine RA.f 3 (by kernel_rfl) rfl rfl rfl (OpG.callX K26_go14 rfl .nil (fun _ => (.cons .nil)) (fun w hH hp => minimize_spec w F (hH.stays0 hF) hw h6)) (fun _ _ => (.cons _ (.cons _ (.cons _ (.cons _ (.cons_cons _ (.cons_cons _ (.refl _)))))))) ?_
  rintro ⟨N, ns⟩ hN
  refine RA.f 4 (by kernel_rfl) rfl rfl rfl (OpG.storeV (b := b4) K26_sz30 rfl rfl rfl rfl (by repeat (first | exact Upd.here | apply Upd.there))) (fun _ _ => (.cons _ (.cons _ (.cons _ (.cons _ (.cons_cons _ (.cons_cons _ (.refl _)))))))) ?_
  rintro _ _
  refine RA.f 5 (by kernel_rfl) rfl rfl rfl (OpG.storeV (b := b5) K26_sz30 rfl rfl rfl rfl (by repeat (first | exact Upd.here | apply Upd.there))) (fun _ _ => (.cons _ (.cons _ (.cons _ (.cons _ (.cons_cons _ (.cons_cons _ (.refl _)))))))) ?_
  rintro _ _
  refine RA.q 6 (by kernel_rfl) rfl rfl rfl (.cons _ (.cons _ (.cons _ (.cons _ (.cons_cons _ (.cons_cons _ (.refl _))))))) (OpQ.assign rfl) ?_
  refine RA.tail ?_
  refine RT.done (by kernel_rfl) ?_
  refine PX.as (fun _ h => h.take (.cons .here (.cons .here (.cons .here (.cons .here .nil))))) ?_
  exact PX.cut hK0 ((M, ms), (N, ns)) ⟨hM, hN⟩ ⟨rfl, rfl, rfl, trivial⟩ (HSub.refl _)
 ·
  refine CT.ret ?_
  refine PX.retCC3 rfl rfl rfl rfl (by repeat (first | exact Has.here | apply Has.there)) (by repeat (first | exact Has.here | apply Has.there)) K26_ag30 K26_sz30 (by rfl) K26_ag30 K26_sz30 (by rfl) (fun w' hH => ?_)
  exact ⟨((M, ms), (N, ns)), ⟨hM.1, hM.2, hN.1, hN.2⟩, rfl, (hH.take (.cons (.there .here) (.cons .here .nil))).post⟩

theorem K26_go28 : isGo Tryz.prog 28 = true := by kernel_rfl
theorem K26_go29 : isGo Tryz.prog 29 = true := by kernel_rfl
theorem K26_pl30 : placesB Tryz.prog 30 = some (#[.int .i64 0, .int .i64 0, .slice none 0 0, .slice none 0 0], [(0, 1), (1, 1), (2, 1), (3, 1)]) := by kernel_rfl
set_option maxRecDepth 100000 in
/-- semigroup/lang.Combine -/
theorem comb_spec (w : World) (D : Dv) (hD : Stays [] w (dvm D)) (F : Dv) (hF : Stays [] w (dvm F)) (hv : D.Ok) (hw : F.Ok) (h5 : D.fin.length ≤ 512) (h6 : F.fin.length ≤ 512) (hLF : D.L = F.L) (op : Nat) (hop : op ≤ 15) : Calls Tryz.prog 11 #[dvv D, dvv F, .int .i64 ((op : Nat) : Int)] w (fun e w' => ∃ z : Dv × List Nat × Int, ((z.2.2 = 0 ∧ z.1.Ok ∧ z.1.fin.length ≤ 512 ∧ IsMin D.da.L (prS D.da F.da op) (D.da.s, F.da.s) z.1.da) ∨ z.2.2 = 3) ∧ e = .returned (.tuple #[dvv z.1, .int .i64 z.2.2]) ∧ Post [] [.frag z.2.1 (dvm z.1)] w w') := by
 have hLe := hv.L_eq
 have hLe2 := hw.L_eq
 refine enter (args := [dvv D, dvv F, .int .i64 ((op : Nat) : Int)]) [] 36 Tryz.func11 rfl rfl rfl ?_
 refine CT.seq (CT.region ?_)
 refine Wl.g rfl rfl (OpG.box (size := 4) rfl rfl rfl) ?_
 rintro b3 _
 refine Wl.g rfl rfl (OpG.box (size := 4) rfl rfl rfl) ?_
 rintro b4 _
 refine Wl.g rfl rfl (OpG.alloc (zs := [.int .i64 0, .int .i64 0, .slice none 0 0, .slice none 0 0]) K26_in30 rfl rfl) ?_
 rintro b6 _
 refine Wl.q rfl rfl (OpQ.assign rfl) ?_
 refine Wl.nil (PX.then_n (CT.seq (CT.region ?_)))
 refine Wl.q rfl rfl (OpQ.loadV (b := b3) K26_ag30 K26_sz30 rfl (by repeat (first | exact Has.here | apply Has.there)) (by rfl)) ?_
 refine Wl.know 13 (v' := dvv D) rfl rfl ?_
 refine Wl.q rfl rfl (OpQ.loadV (b := b4) K26_ag30 K26_sz30 rfl (by repeat (first | exact Has.here | apply Has.there)) (by rfl)) ?_
 refine Wl.know 14 (v' := dvv F) rfl rfl ?_
 refine Wl.g rfl rfl (OpG.callX K26_go28 rfl .nil (fun _ => (.cons (.cons .nil))) (fun w hH hp => both_spec w D (hH.stays0 hD) F (hH.stays0 hF) hv hw h5 h6 hLF)) ?_
 rintro ⟨⟨M, ms⟩, ⟨N, ns⟩⟩ ⟨hM, hMm, hN, hNm⟩
 dsimp only at hM hMm hN hNm
 have hM5 := Nat.le_trans (min_n hv hMm) h5
 have hN5 := Nat.le_trans (min_n hw hNm) h6
 have hLM : M.L = N.L := by rw [hM.L_eq, hN.L_eq, hMm.letters, hNm.letters]; omega
 refine Wl.q rfl rfl (OpQ.move rfl) ?_
 refine Wl.q rfl rfl (OpQ.extract rfl rfl) ?_
 refine Wl.know 16 (v' := dvv M) rfl rfl ?_
 refine Wl.q rfl rfl (OpQ.extract rfl rfl) ?_
 refine Wl.know 17 (v' := dvv N) rfl rfl ?_
 refine Wl.q rfl rfl (OpQ.extract rfl rfl) ?_
 refine Wl.know 18 (v' := .int .i64 0) rfl rfl ?_
 refine Wl.g rfl rfl (OpG.alloc (zs := [.int .i64 0, .int .i64 0, .slice none 0 0, .slice none 0 0]) K26_in30 rfl rfl) ?_
 rintro b8 _
 refine Wl.g rfl rfl (OpG.alloc (zs := [.int .i64 0, .int .i64 0, .slice none 0 0, .slice none 0 0]) K26_in30 rfl rfl) ?_
 rintro b9 _
 refine Wl.g rfl rfl (OpG.storeV (b := b8) K26_sz30 rfl rfl rfl rfl (by repeat (first | exact Upd.here | apply Upd.there))) ?_
 rintro _ _
 refine Wl.g rfl rfl (OpG.storeV (b := b9) K26_sz30 rfl rfl rfl rfl (by repeat (first | exact Upd.here | apply Upd.there))) ?_
 rintro _ _
 refine Wl.q rfl rfl (OpQ.assign rfl) ?_
 refine Wl.nil (PX.then_n (CT.seq (CT.seq (CT.region ?_))))
 refine Wl.q rfl rfl (OpQ.move rfl) ?_
 refine Wl.q rfl rfl (OpQ.neq rfl rfl) ?_
 refine Wl.know 20 (v' := .bool false) rfl (congrArg Value.bool rfl) ?_
 refine Wl.nil (PX.then_n ?_)
 refine CT.condF rfl ?_
 refine CT.skip (PX.then_n (CT.seq (CT.region ?_)))
 refine Wl.q rfl rfl (OpQ.loadV (b := b8) K26_ag30 K26_sz30 rfl (by repeat (first | exact Has.here | apply Has.there)) (by rfl)) ?_
 refine Wl.know 24 (v' := dvv M) rfl rfl ?_
 refine Wl.q rfl rfl (OpQ.loadV (b := b9) K26_ag30 K26_sz30 rfl (by repeat (first | exact Has.here | apply Has.there)) (by rfl)) ?_
 refine Wl.know 25 (v' := dvv N) rfl rfl ?_
 refine Wl.q rfl rfl (OpQ.move rfl) ?_
 refine Wl.g rfl rfl (OpG.callX K26_go29 rfl .nil (fun _ => (.cons .nil)) (fun w hH hp => prod_spec w M (Stays.frag (hH.staysK0 (show Has _ (.frag ms (dvm M)) from (by repeat (first | exact Has.here | apply Has.there))))) N (Stays.frag (hH.staysK0 (show Has _ (.frag ns (dvm N)) from (by repeat (first | exact Has.here | apply Has.there))))) hM hN hM5 hN5 hLM op hop)) ?_
 rintro ⟨Z, zs, er⟩ hZ
 dsimp only at hZ
 refine Wl.q rfl rfl (OpQ.move rfl) ?_
 refine Wl.q rfl rfl (OpQ.extract rfl rfl) ?_
 refine Wl.know 28 (v' := dvv Z) rfl rfl ?_
 refine Wl.q rfl rfl (OpQ.extract rfl rfl) ?_
 refine Wl.know 29 (v' := .int .i64 er) rfl rfl ?_
 refine Wl.g rfl rfl (OpG.alloc (zs := [.int .i64 0, .int .i64 0, .slice none 0 0, .slice none 0 0]) K26_in30 rfl rfl) ?_
 rintro b11 _
 refine Wl.g rfl rfl (OpG.storeV (b := b11) K26_sz30 rfl rfl rfl rfl (by repeat (first | exact Upd.here | apply Upd.there))) ?_
 rintro _ _
 refine Wl.q rfl rfl (OpQ.assign rfl) ?_
 refine Wl.nil (PX.then_n (CT.seq (CT.seq (CT.region ?_))))
 refine Wl.q rfl rfl (OpQ.move rfl) ?_
 refine Wl.q rfl rfl (OpQ.neq rfl rfl) ?_
 refine Wl.nil (PX.then_n ?_)
 refine CT.cond rfl (fun h31 => ?_) (fun h31 => ?_)
 ·
  have h31 := of_nd_t h31
  have h3 : er = 3 := hZ.resolve_left (fun hh => h31 hh.1)
  refine CT.seq (CT.region ?_)
  refine Wl.q rfl rfl (OpQ.build (cells := #[.int .i64 0, .int .i64 0, .slice none 0 0, .slice none 0 0]) K26_pl30 rfl rfl) ?_
  refine Wl.q rfl rfl (OpQ.move rfl) ?_
  refine Wl.g rfl rfl (OpG.storeV (b := b6) K26_sz30 rfl rfl rfl rfl (by repeat (first | exact Upd.here | apply Upd.there))) ?_
  rintro _ _
  refine Wl.q rfl rfl (OpQ.assign rfl) ?_
  refine Wl.nil (PX.then_n (CT.ret (PX.then_r ?_)))
  refine PX.retC2 rfl rfl rfl (by repeat (first | exact Has.here | apply Has.there)) K26_ag30 K26_sz30 (by rfl) (fun w' hH => ?_)
  exact ⟨(dv0, [], er), .inr h3, rfl, ((hH.bind0 (p := dvm dv0) dvm0).take (.cons .here .nil)).post⟩
 ·
  have h31 := of_nd_f h31
  obtain ⟨_, K, hK, hK5, hIs⟩ := hZ.resolve_right (fun hh => by have h9 : er = 0 := h31; omega)
  have hZO : Z.Ok := hIs.ok (autoD_ok hK _) (by have := hM.may; have := hM.L_eq; show 1 ≤ M.da.L ∧ M.da.L ≤ 6; omega) (by rw [autoD_n]; omega)
  have hZ5 : Z.fin.length ≤ 512 := by show Z.da.n ≤ 512; rw [hIs.da, autoD_n]; exact hK5
  refine CT.skip (PX.then_n (CT.seq (CT.region ?_)))
  refine Wl.q rfl rfl (OpQ.loadV (b := b11) K26_ag30 K26_sz30 rfl (by repeat (first | exact Has.here | apply Has.there)) (by rfl)) ?_
  refine Wl.know 34 (v' := dvv Z) rfl rfl ?_
  refine Wl.g rfl rfl (OpG.callX K26_go14 rfl .nil (fun _ => (.cons .nil)) (fun w hH hp => minimize_spec w Z (Stays.frag (hH.staysK0 (show Has _ (.frag zs (dvm Z)) from (by repeat (first | exact Has.here | apply Has.there))))) hZO hZ5)) ?_
  rintro ⟨Q, qs⟩ ⟨hQ, hQm⟩
  dsimp only at hQ hQm
  refine Wl.g rfl rfl (OpG.storeV (b := b6) K26_sz30 rfl rfl rfl rfl (by repeat (first | exact Upd.here | apply Upd.there))) ?_
  rintro _ _
  refine Wl.q rfl rfl (OpQ.assign rfl) ?_
  refine Wl.nil (PX.then_n (CT.ret ?_))
  refine PX.retC2 rfl rfl rfl (by repeat (first | exact Has.here | apply Has.there)) K26_ag30 K26_sz30 (by rfl) (fun w' hH => ?_)
  refine ⟨(Q, qs, 0), .inl ⟨rfl, hQ, Nat.le_trans (min_n hZO hQm) hZ5, comb_min hMm hNm (by omega) hK hIs hQm⟩, rfl, (hH.take (.cons .here .nil)).post⟩

theorem K26_in3 : (Tryz.prog.info? 3).map (fun i => (i.zero, i.size, i.bytes)) = some (some (.int .i64 0), 1, 8) := by kernel_rfl
set_option maxRecDepth 100000 in
/-- slices.Clone[[]int,int] -/
theorem clone_spec (w : World) (a : Option Addr) (n c : Nat) (xs : List Int) (hr : Stays [] w (fun w => Rd w a (xs.map zz))) (hn : xs.length = n) (h0 : 0 < n) (h9 : n ≤ 100000) : Calls Tryz.prog 31 #[.slice a n c] w (fun e w' => ∃ i : Option Addr × Nat, True ∧ e = .returned (.slice i.1 n i.2) ∧ Post [] [.row 3 1 (.slice i.1 n i.2) n (xs.map zz)] w w') := by
 have ha : a.isSome = true := hr.now.isSome (j := 0) (by rw [List.length_map]; omega)
 refine enter (args := [.slice a n c]) [] 8 Tryz.func31 rfl rfl rfl ?_
 refine CT.seq (CT.region ?_)
 refine Wl.q rfl rfl (OpQ.assign rfl) ?_
 refine Wl.nil (PX.then_n (CT.seq (CT.seq (CT.region ?_))))
 refine Wl.q rfl rfl (OpQ.move rfl) ?_
 refine Wl.q rfl rfl (OpQ.eqlNilS K26_un62 rfl rfl) ?_
 refine Wl.know 4 (v' := .bool false) rfl (congrArg Value.bool (by cases a <;> simp_all)) ?_
 refine Wl.nil (PX.then_n ?_)
 refine CT.condF rfl ?_
 refine CT.skip (PX.then_n (CT.seq (CT.region ?_)))
 refine Wl.g rfl rfl (OpG.lit0 K26_un62 K26_in3 rfl) ?_
 rintro b5 _
 refine Wl.q rfl rfl (OpQ.move rfl) ?_
 refine Wl.g rfl rfl (OpG.append K26_un62 K26_in3 (by rfl) (by decide) rfl rfl (p := 0) rfl (fun w hH => hH.use hr) ⟨by rw [List.length_map]; omega, (fun v hv => by obtain ⟨z, _, rfl⟩ := List.mem_map.1 hv; rfl), by omega, by omega⟩ (nm := n) (by omega) (all := (xs.map zz)) rfl) ?_
 rintro ⟨a7, c7⟩ h7
 refine Wl.q rfl rfl (OpQ.assign rfl) ?_
 refine Wl.nil (PX.then_n (CT.ret ?_))
 refine PX.ret1 rfl rfl (fun w' hH => ?_)
 exact ⟨(a7, c7), trivial, rfl, (hH.take (.cons .here .nil)).post⟩

theorem K26_in4 : (Tryz.prog.info? 4).map (fun i => (i.zero, i.size, i.bytes)) = some (some (.bool false), 1, 1) := by kernel_rfl
theorem K26_in62 : (Tryz.prog.info? 62).map (fun i => (i.zero, i.size, i.bytes)) = some (some (.slice none 0 0), 1, 24) := by kernel_rfl
theorem K26_sz27 : sizeB Tryz.prog 27 = some 1 := by kernel_rfl
theorem K26_go31 : isGo Tryz.prog 31 = true := by kernel_rfl
theorem K26_sz28 : sizeB Tryz.prog 28 = some 1 := by kernel_rfl
set_option maxRecDepth 100000 in
set_option maxHeartbeats 1000000 in
/-- semigroup/dfa.Complement -/
theorem compl_spec (w : World) (D : Dv) (hD : Stays [] w (dvm D)) (hv : D.Ok) (h5 : D.fin.length ≤ 512) : Calls Tryz.prog 15 #[dvv D] w (fun e w' => ∃ z : Dv × List Nat, (z.1.Ok ∧ z.1.fin.length ≤ 512 ∧ z.1.da = coD D.da) ∧ e = .returned (dvv z.1) ∧ Post [] [.frag z.2 (dvm z.1)] w w') := by
 have hfs : 0 < D.fin.length → D.fa.isSome = true := fun h => hD.now.1.isSome (j := 0) (by rw [List.length_map]; exact h)
 have hns : 0 < D.rs.length → D.na.isSome = true := fun h => hD.now.2.1.isSome (j := 0) (by rw [List.length_map]; exact h)
 have hrs : ∀ q, q < D.rs.length → 0 < (D.rs.getD q rw0).xs.length → (D.rs.getD q rw0).a.isSome = true := fun q hq h => (hD.now.2.2 _ (getDm hq)).isSome (j := 0) (by rw [List.length_map]; exact h)
 have hlen := hv.len
 have hmay := hv.may
 refine enter (args := [dvv D]) [] 43 Tryz.func15 rfl rfl rfl ?_
 refine CT.seq (CT.region ?_)
 refine Wl.g rfl rfl (OpG.box (size := 4) rfl rfl rfl) ?_
 rintro b1 _
 refine Wl.g rfl rfl (OpG.alloc (zs := [.int .i64 0, .int .i64 0, .slice none 0 0, .slice none 0 0]) K26_in30 rfl rfl) ?_
 rintro b2 _
 refine Wl.nil (PX.then_n (CT.seq (CT.seq (CT.region ?_))))
 refine Wl.q rfl rfl (OpQ.loadV (b := b1) K26_ag30 K26_sz30 rfl (by repeat (first | exact Has.here | apply Has.there)) (by rfl)) ?_
 refine Wl.know 6 (v' := dvv D) rfl rfl ?_
 refine Wl.g rfl rfl (OpG.callV K26_go12 rfl (fun w hH => dvalid_spec w D (hH.stays0 hD))) ?_
 rintro _ _
 refine Wl.know 7 (v' := .int .i64 0) rfl (congrArg (Value.int .i64) (hv.zero h5)) ?_
 refine Wl.q rfl rfl (OpQ.neq rfl rfl) ?_
 refine Wl.know 8 (v' := .bool false) rfl (congrArg Value.bool rfl) ?_
 refine Wl.nil (PX.then_n ?_)
 refine CT.condF rfl ?_
 refine CT.skip (PX.then_n (CT.seq (CT.region ?_)))
 refine Wl.q rfl rfl (OpQ.fieldAddr K26_fa30_0 rfl) ?_
 refine Wl.q rfl rfl (OpQ.loadF (b := b1) K26_sc3 rfl (by repeat (first | exact Has.here | apply Has.there)) (by rfl)) ?_
 refine Wl.q rfl rfl (OpQ.fieldAddr K26_fa30_1 rfl) ?_
 refine Wl.q rfl rfl (OpQ.loadF (b := b1) K26_sc3 rfl (by repeat (first | exact Has.here | apply Has.there)) (by rfl)) ?_
 refine Wl.q rfl rfl (OpQ.build (cells := #[_, _, .slice none 0 0, .slice none 0 0]) K26_pl30 rfl rfl) ?_
 refine Wl.g rfl rfl (OpG.alloc (zs := [.int .i64 0, .int .i64 0, .slice none 0 0, .slice none 0 0]) K26_in30 rfl rfl) ?_
 rintro b3 _
 refine Wl.g rfl rfl (OpG.storeV (b := b3) K26_sz30 rfl rfl rfl rfl (by repeat (first | exact Upd.here | apply Upd.there))) ?_
 rintro _ _
 refine Wl.nil (PX.then_n (CT.seq (CT.seq (CT.region ?_))))
 refine Wl.q rfl rfl (OpQ.fieldAddr K26_fa30_2 rfl) ?_
 refine Wl.q rfl rfl (OpQ.loadF (b := b1) K26_sc27 rfl (by repeat (first | exact Has.here | apply Has.there)) (by rfl)) ?_
 refine Wl.q rfl rfl (OpQ.len K26_un27 rfl) ?_
 refine Wl.q rfl rfl (OpQ.move rfl) ?_
 refine Wl.nil (PX.then_n (CT.block ?_))
 refine CT.nilrow 4 1 ?_
 refine CT.nilrow 62 1 ?_
 refine CT.as (fun _ h => h.bind0 (p := rws []) (rws_nil)) ?_
 refine CT.as (fun _ h => h.take (.cons .here (.cons (.there .here) (.cons .here (.cons .here (.cons .here (.cons .here .nil))))))) ?_
 refine CT.loop (ι := Nat × Option Addr × Nat × Option Addr × Nat × List Rw × List Nat) (fun (k, fa, fc, na, nc, rs, gs) => k ≤ D.fin.length ∧ rs.map (·.xs) = (D.rs.take k).map (·.xs)) (fun (k, fa, fc, na, nc, rs, gs) => [(1, .pointer (some ⟨b1, 0, none⟩)), (2, .pointer (some ⟨b2, 0, none⟩)), (3, .pointer (some ⟨b3, 0, none⟩)), (16, .slice D.fa D.fin.length D.fc), (17, .int .i64 ((D.fin.length : Nat) : Int)), (18, .int .i64 ((k : Nat) : Int))]) (fun (k, fa, fc, na, nc, rs, gs) => [.frag gs (rws rs), .row 4 1 (.slice fa (k) fc) (k) (((D.fin.take (k)).map (!·)).map bo), .row 62 1 (.slice na (k) nc) (k) ((rs).map rv), .row 30 4 (vb b3) 1 [.int .i64 D.L, .int .i64 D.s, .slice fa (k) fc, .slice na (k) nc], .row 30 4 (vb b2) 1 [.int .i64 0, .int .i64 0, .slice none 0 0, .slice none 0 0], .row 30 4 (vb b1) 1 (dvc D)]) (fun (k, fa, fc, na, nc, rs, gs) => D.fin.length - k) (0, none, 0, none, 0, [], []) ⟨Nat.zero_le _, rfl⟩ ⟨rfl, rfl, rfl, rfl, rfl, rfl, trivial⟩ (HSub.refl _) (fun ⟨k, fa, fc, na, nc, rs, gs⟩ ⟨hk, hrs2⟩ K0 hK0 => ?_)
 dsimp only
 have hrl : rs.length = k := by have h := congrArg List.length hrs2; rw [List.length_map, List.length_map, List.length_take, Nat.min_eq_left (by omega)] at h; exact h
 refine CT.seq (CT.region ?_)
 refine Wl.q rfl rfl (OpQ.lss rfl rfl) ?_
 refine Wl.nil (PX.then_n (CT.seq ?_))
 refine CT.cond rfl (fun h19 => ?_) (fun h19 => ?_)
 ·
  have h19 := of_decide_eq_true h19
  have hkl : k < D.fin.length := by omega
  have hrow := (hv.row k hkl).1
  refine CT.skip (PX.then_n (CT.seq (CT.block (CT.seq (CT.region ?_)))))
  refine Wl.q rfl rfl (OpQ.move rfl) ?_
  refine Wl.q rfl rfl (OpQ.index1 K26_un27 K26_sz4 rfl rfl (by omega) (hfs (by omega))) ?_
  refine Wl.q rfl rfl (OpQ.loadG K26_sc4 rfl (fun w hH => (hH.use hD).1) (getMap bo D.fin false (j := k) (by omega))) ?_
  refine Wl.q rfl rfl (OpQ.assign rfl) ?_
  refine Wl.q rfl rfl (OpQ.assign rfl) ?_
  refine Wl.nil (PX.then_n (CT.seq (CT.region ?_)))
  refine Wl.q rfl rfl (OpQ.fieldAddr K26_fa30_2 rfl) ?_
  refine Wl.q rfl rfl (OpQ.loadF (b := b3) K26_sc27 rfl (by repeat (first | exact Has.here | apply Has.there)) (by rfl)) ?_
  refine Wl.q rfl rfl (OpQ.move rfl) ?_
  refine Wl.q rfl rfl (OpQ.not rfl) ?_
  refine Wl.g rfl rfl (OpG.lit1 K26_un27 K26_in4 rfl rfl rfl) ?_
  rintro b27 _
  refine Wl.g rfl rfl (OpG.append K26_un27 K26_in4 (by rfl) (by decide) rfl rfl (p := 2) rfl (fun w hH => hH.rd .here) ⟨rfl, (by simp [Value.oneCell']), (by omega), (by omega)⟩ (nm := (k + 1)) rfl (all := ((D.fin.take (k + 1)).map (!·)).map bo) (by rw [← nots_snoc hkl, List.map_append]; rfl)) ?_
  rintro ⟨a28, c28⟩ h28
  refine Wl.q rfl rfl (OpQ.fieldAddr K26_fa30_2 rfl) ?_
  refine Wl.g rfl rfl (OpG.storeRow (a := some ⟨b3, 0, none⟩) K26_sz27 rfl rfl rfl (by repeat (first | exact Upd.here | apply Upd.there)) (by simp)) ?_
  rintro _ _
  refine Wl.nil (PX.then_n ?_)
  refine CT.draw 9 K26_mixed ?_
  refine RA.q 0 (by kernel_rfl) rfl rfl rfl (.refl _) (OpQ.fieldAddr K26_fa30_3 rfl) ?_
  refine RA.q 1 (by kernel_rfl) rfl rfl rfl (.refl _) (OpQ.loadF (b := b3) K26_sc28 rfl (by repeat (first | exact Has.here | apply Has.there)) (by rfl)) ?_
  refine RA.q 2 (by kernel_rfl) rfl rfl rfl (.refl _) (OpQ.fieldAddr K26_fa30_3 rfl) ?_
  refine RA.q 3 (by kernel_rfl) rfl rfl rfl (.refl _) (OpQ.loadF (b := b1) K26_sc28 rfl (by repeat (first | exact Has.here | apply Has.there)) (by rfl)) ?_
  refine RA.q 4 (by kernel_rfl) rfl rfl rfl (.refl _) (OpQ.move rfl) ?_
  refine RA.q 5 (by kernel_rfl) rfl rfl rfl (.refl _) (OpQ.index1 K26_un28 K26_sz62 rfl rfl (by omega) (hns (by omega))) ?_
  refine RA.q 6 (by kernel_rfl) rfl rfl rfl (.refl _) (OpQ.loadG K26_sc62 rfl (fun w hH => (hH.use hD).2.1) (getMap rv D.rs rw0 (j := k) (by omega))) ?_
  refine RA.f 7 (by kernel_rfl) rfl rfl rfl (OpG.callX K26_go31 rfl .nil (fun _ => (.cons .nil)) (fun w hH hp => clone_spec w (D.rs.getD k rw0).a (D.rs.getD k rw0).xs.length (D.rs.getD k rw0).cp (D.rs.getD k rw0).xs (fun w' he => ((hH.stays0 hD) w' he).2.2 _ (getDm (by omega))) rfl (by omega) (by omega))) (fun _ _ => (.cons _ (.refl _))) ?_
  rintro ⟨a37, c37⟩ _
  refine RA.f 8 (by kernel_rfl) rfl rfl rfl (OpG.lit1 K26_un28 K26_in62 rfl rfl rfl) (fun _ _ => (.cons _ (.cons _ (.refl _)))) ?_
  rintro b38 _
  refine RA.tail ?_
  refine RT.f 9 (by kernel_rfl) rfl rfl rfl (OpG.append K26_un28 K26_in62 (by rfl) (by decide) rfl rfl (p := 5) rfl (fun w hH => hH.rd .here) ⟨rfl, (by simp [Value.oneCell']), (by omega), (by omega)⟩ (nm := (k + 1)) rfl (all := (rs ++ [(⟨a37, c37, (D.rs.getD k rw0).xs⟩ : Rw)]).map rv) (by simp)) ?_
  rintro ⟨a39, c39⟩ h39
  refine RT.q 10 (by kernel_rfl) rfl rfl rfl (OpQ.fieldAddr K26_fa30_3 rfl) ?_
  refine RT.f 11 (by kernel_rfl) rfl rfl rfl (OpG.storeRow (a := some ⟨b3, 0, none⟩) K26_sz28 rfl rfl rfl (by repeat (first | exact Upd.here | apply Upd.there)) (by simp)) ?_
  rintro _ _
  refine RT.done (by kernel_rfl) ?_
  refine PX.block_n (PX.then_n (CT.region ?_))
  refine Wl.q rfl rfl (OpQ.add rfl rfl (by omega)) ?_
  refine Wl.q rfl rfl (OpQ.move rfl) ?_
  refine Wl.nil ?_
  refine PX.as (fun _ h => h.bind (L := [.frag gs (rws rs), .row 3 1 (.slice a37 (D.rs.getD k rw0).xs.length c37) (D.rs.getD k rw0).xs.length ((D.rs.getD k rw0).xs.map zz)]) (p := rws (rs ++ [(⟨a37, c37, (D.rs.getD k rw0).xs⟩ : Rw)])) (.cons (.there (.there (.there .here))) (.cons (.there .here) .nil)) (fun w hk => rws_snoc (r := (⟨a37, c37, (D.rs.getD k rw0).xs⟩ : Rw)) ((hk _ List.mem_cons_self).2 w (fun _ _ => rfl)) (Rd.of_owns (hk _ (List.mem_cons_of_mem _ List.mem_cons_self))))) ?_
  refine PX.as (fun _ h => h.take (.cons .here (.cons (.there (.there .here)) (.cons (.there (.there .here)) (.cons (.there (.there .here)) (.cons (.there (.there .here)) (.cons (.there (.there .here)) .nil))))))) ?_
  exact PX.loop hK0 (k + 1, a28, c28, a39, c39, rs ++ [(⟨a37, c37, (D.rs.getD k rw0).xs⟩ : Rw)], _) ⟨by omega, rows_snoc hrs2 (by omega) rfl⟩ (show D.fin.length - (k + 1) < D.fin.length - k by omega) ⟨rfl, rfl, rfl, rfl, rfl, rfl, trivial⟩ (HSub.refl _)
 ·
  have h19 := of_decide_eq_false h19
  have hkn : k = D.fin.length := by omega
  refine CT.exit (PX.then_x (PX.then_x (PX.block_x (PX.then_n (CT.seq (CT.region ?_))))))
  refine Wl.q rfl rfl (OpQ.loadV (b := b3) K26_ag30 K26_sz30 rfl (by repeat (first | exact Has.here | apply Has.there)) (by rfl)) ?_
  refine Wl.g rfl rfl (OpG.storeV (b := b2) K26_sz30 rfl rfl rfl rfl (by repeat (first | exact Upd.here | apply Upd.there))) ?_
  rintro _ _
  refine Wl.nil (PX.then_n (CT.ret ?_))
  refine PX.retC rfl rfl (by repeat (first | exact Has.here | apply Has.there)) K26_ag30 K26_sz30 (by rfl) (fun w' hH => ?_)
  have hrs3 : rs.map (·.xs) = D.rs.map (·.xs) := by rw [hrs2, hkn, ← hlen, List.take_length]
  obtain ⟨hC1, hC2⟩ := co_is (C := (⟨D.L, D.s, fa, fc, D.fin.map (!·), na, nc, rs⟩ : Dv)) hv rfl rfl rfl hrs3
  have hval : dvv (⟨D.L, D.s, fa, fc, D.fin.map (!·), na, nc, rs⟩ : Dv) = .agg #[.int .i64 D.L, .int .i64 D.s, .slice fa k fc, .slice na k nc] := by
   show Value.agg #[.int .i64 D.L, .int .i64 D.s, .slice fa (D.fin.map (!·)).length fc, .slice na rs.length nc] = _
   rw [List.length_map, hrl, hkn]
  have hfk : D.fin.take k = D.fin := by rw [hkn, List.take_length]
  exact ⟨((⟨D.L, D.s, fa, fc, D.fin.map (!·), na, nc, rs⟩ : Dv), _), ⟨hC1, by show (D.fin.map (!·)).length ≤ 512; rw [List.length_map]; exact h5, hC2⟩, by rw [hval], ((hH.bind (L := [.frag gs (rws rs), .row 4 1 (.slice fa (k) fc) (k) (((D.fin.take (k)).map (!·)).map bo), .row 62 1 (.slice na (k) nc) (k) ((rs).map rv)]) (p := dvm (⟨D.L, D.s, fa, fc, D.fin.map (!·), na, nc, rs⟩ : Dv)) (.cons .here (.cons .here (.cons .here .nil))) (fun w hk => ⟨by show Rd w fa ((D.fin.map (!·)).map bo); rw [← hfk]; exact Rd.of_owns (hk _ (List.mem_cons_of_mem _ List.mem_cons_self)), Rd.of_owns (hk _ (List.mem_cons_of_mem _ (List.mem_cons_of_mem _ List.mem_cons_self))), (hk _ List.mem_cons_self).2 w (fun _ _ => rfl)⟩)).take (.cons .here .nil)).post⟩

end Go.Proofs.YtmggcdegekbncabGreatDoor

