/-
  What functions of the packages firstorder, semigroupref38 and semigroupmade compute, each by its walk. Conditions: those that each theorem names.
-/
import Derived.Test.YtdcjemjfliaaiaaWalks12
set_option linter.unusedSimpArgs false
namespace Go.Proofs.Ytdcjemjfliaaiaa
open Go Go.Eng Go.Fo Go.Sf
open Go.Tp (zi)
open Go.Tl (vf mayL Wd okW okB vf_t vf_f bo)

theorem XA_fa40_0 : fieldB Try.prog 40 0 = some 0 := by kernel_rfl
theorem XA_sc38 : scalarB Try.prog 38 = some true := by kernel_rfl
theorem XA_un38 : Try.prog.underlying 38 = some (.slice 72) := by kernel_rfl
theorem XA_ag40 : isAggB Try.prog 40 = some true := by kernel_rfl
theorem XA_sz40 : sizeB Try.prog 40 = some 2 := by kernel_rfl
theorem XA_go18 : isGo Try.prog 18 = true := by kernel_rfl
theorem XA_go25 : isGo Try.prog 25 = true := by kernel_rfl
theorem XA_go14 : isGo Try.prog 14 = true := by kernel_rfl
theorem XA_un26 : Try.prog.underlying 26 = some (.slice 29) := by kernel_rfl
set_option maxRecDepth 100000 in
/-- semigroup/semigrouplaw38.FirstorderErrors -/
theorem FirstorderErrors_spec (w : World) (a : Option Addr) (cp : Nat) (xs : List Nd) (hr : Rd w a (xs.flatMap nv)) (root L : Int) : Calls Try.prog 7 #[.agg #[.slice a xs.length cp, .int .i64 root], .int .i64 (L)] w (fun e w' => e = .returned (.bool true) ∧ Ext [] w w') := by
  refine enter (args := [.agg #[.slice a xs.length cp, .int .i64 root], .int .i64 (L)]) [] 42 Try.func7 rfl rfl rfl ?_
  refine CT.seq ?_
  -- region 0: law.go:117
  refine CT.region ?_
  refine Wl.g rfl rfl (OpG.box (size := 2) rfl rfl rfl) ?_
  rintro b2 _
  refine Wl.q rfl rfl (OpQ.assign rfl) ?_
  refine Wl.nil ?_
  refine PX.then_n ?_
  refine CT.seq ?_
  refine CT.seq ?_
  -- region 1: law.go:118
  refine CT.region ?_
  refine Wl.q rfl rfl (OpQ.fieldAddr XA_fa40_0 rfl) ?_
  refine Wl.q rfl rfl (OpQ.loadF (b := b2) XA_sc38 rfl (by repeat (first | exact Has.here | apply Has.there)) (by rfl)) ?_
  refine Wl.q rfl rfl (OpQ.len XA_un38 rfl) ?_
  refine Wl.q rfl rfl (OpQ.gtr rfl rfl) ?_
  refine Wl.nil ?_
  refine PX.then_n ?_
  refine CT.cond rfl (fun h12 => ?_) (fun h12 => ?_)
  · -- if t12: then
    have h12 := of_decide_eq_true h12
    refine CT.seq ?_
    -- region 2: law.go:119
    refine CT.region ?_
    refine Wl.q rfl rfl (OpQ.assign rfl) ?_
    refine Wl.nil ?_
    refine PX.then_n ?_
    refine CT.ret ?_
    refine PX.then_r ?_
    refine PX.ret1 rfl rfl (fun w' hH => ?_)
    exact ⟨rfl, hH.ext⟩
  · -- if t12: else
    have h12 := of_decide_eq_false h12
    refine CT.skip ?_
    refine PX.then_n ?_
    refine CT.seq ?_
    -- region 3: law.go:121
    refine CT.region ?_
    refine Wl.q rfl rfl (OpQ.loadV (b := b2) XA_ag40 XA_sz40 rfl (by repeat (first | exact Has.here | apply Has.there)) (by rfl)) ?_
    refine Wl.q rfl rfl (OpQ.move rfl) ?_
    refine Wl.g rfl rfl (OpG.callX XA_go18 rfl .nil (fun _ => (.cons .nil)) (fun w hH hp => fof_spec w a cp xs (hH.rd0 hr rfl) (by omega) root L)) ?_
    rintro ⟨fs, ρ, fa, fc⟩ h16
    dsimp only at h16
    obtain ⟨h16a, _⟩ := h16
    refine Wl.q rfl rfl (OpQ.move rfl) ?_
    refine Wl.q rfl rfl (OpQ.extract rfl rfl) ?_
    refine Wl.know 17 (v' := .slice fa fs.length fc) rfl rfl ?_
    refine Wl.q rfl rfl (OpQ.extract rfl rfl) ?_
    refine Wl.know 18 (v' := .int .i64 ((ρ : Nat) : Int)) rfl rfl ?_
    refine Wl.q rfl rfl (OpQ.extract rfl rfl) ?_
    refine Wl.know 19 (v' := .int .i64 (gE xs root L)) rfl rfl ?_
    refine Wl.q rfl rfl (OpQ.assign rfl) ?_
    refine Wl.q rfl rfl (OpQ.assign rfl) ?_
    refine Wl.q rfl rfl (OpQ.assign rfl) ?_
    refine Wl.nil ?_
    refine PX.then_n ?_
    refine CT.seq ?_
    -- region 4: law.go:122
    refine CT.region ?_
    refine Wl.q rfl rfl (OpQ.loadV (b := b2) XA_ag40 XA_sz40 rfl (by repeat (first | exact Has.here | apply Has.there)) (by rfl)) ?_
    refine Wl.q rfl rfl (OpQ.move rfl) ?_
    refine Wl.g rfl rfl (OpG.callV XA_go25 rfl (fun w hH => gvalidR_spec w a cp xs (hH.rd0 hr rfl) (by omega) root L)) ?_
    rintro _ _
    refine Wl.q rfl rfl (OpQ.assign rfl) ?_
    refine Wl.nil ?_
    refine PX.then_n ?_
    refine CT.seq ?_
    -- region 5: law.go:123
    refine CT.region ?_
    refine Wl.q rfl rfl (OpQ.move rfl) ?_
    refine Wl.q rfl rfl (OpQ.move rfl) ?_
    refine Wl.q rfl rfl (OpQ.eql rfl rfl) ?_
    refine Wl.know 25 (v' := .bool true) rfl (congrArg Value.bool (by simp)) ?_
    refine Wl.q rfl rfl (OpQ.move rfl) ?_
    refine Wl.q rfl rfl (OpQ.move rfl) ?_
    refine Wl.q rfl rfl (OpQ.eql rfl rfl) ?_
    refine Wl.q rfl rfl (OpQ.move rfl) ?_
    refine Wl.split 29 rfl (fun hg29 => ?_) (fun hg29 => ?_)
    · -- t29 = True
      refine Wl.skip rfl rfl ?_
      refine Wl.skip rfl rfl ?_
      refine Wl.skip rfl rfl ?_
      refine Wl.skip rfl rfl ?_
      refine Wl.skip rfl rfl ?_
      refine Wl.skip rfl rfl ?_
      refine Wl.skip rfl rfl ?_
      refine Wl.q rfl rfl (OpQ.pickT rfl rfl) ?_
      refine Wl.q rfl rfl (OpQ.pickT rfl rfl) ?_
      refine Wl.q rfl rfl (OpQ.move rfl) ?_
      refine Wl.g rfl rfl (OpG.callV XA_go14 rfl (fun w hH => known_spec w)) ?_
      rintro _ _
      refine Wl.know 40 (v' := .bool true) rfl (congrArg Value.bool rfl) ?_
      refine Wl.q rfl rfl (OpQ.pickT rfl rfl) ?_
      refine Wl.q rfl rfl (OpQ.assign rfl) ?_
      refine Wl.nil ?_
      refine PX.then_n ?_
      refine CT.ret ?_
      refine PX.ret1 rfl rfl (fun w' hH => ?_)
      exact ⟨rfl, hH.ext⟩
    · -- t29 = False
      refine Wl.q rfl rfl (OpQ.move rfl) ?_
      refine Wl.q rfl rfl (OpQ.len XA_un26 rfl) ?_
      refine Wl.q rfl rfl (OpQ.eql rfl rfl) ?_
      refine Wl.know 32 (v' := .bool true) rfl (congrArg Value.bool (by have h := (h16a (of_decide_eq_false hg29)).1; subst h; rfl)) ?_
      refine Wl.q rfl rfl (OpQ.move rfl) ?_
      refine Wl.q rfl rfl (OpQ.move rfl) ?_
      refine Wl.q rfl rfl (OpQ.eql rfl rfl) ?_
      refine Wl.know 35 (v' := .bool true) rfl (congrArg Value.bool (by have h := (h16a (of_decide_eq_false hg29)).2; subst h; rfl)) ?_
      refine Wl.q rfl rfl (OpQ.pickT rfl rfl) ?_
      refine Wl.q rfl rfl (OpQ.pickF rfl rfl) ?_
      refine Wl.q rfl rfl (OpQ.pickT rfl rfl) ?_
      refine Wl.q rfl rfl (OpQ.move rfl) ?_
      refine Wl.g rfl rfl (OpG.callV XA_go14 rfl (fun w hH => known_spec w)) ?_
      rintro _ _
      refine Wl.know 40 (v' := .bool true) rfl (congrArg Value.bool rfl) ?_
      refine Wl.q rfl rfl (OpQ.pickT rfl rfl) ?_
      refine Wl.q rfl rfl (OpQ.assign rfl) ?_
      refine Wl.nil ?_
      refine PX.then_n ?_
      refine CT.ret ?_
      refine PX.ret1 rfl rfl (fun w' hH => ?_)
      exact ⟨rfl, hH.ext⟩

end Go.Proofs.Ytdcjemjfliaaiaa
