/-
  The walks of the laws. Conditions: those that each theorem names.
-/
import Derived.Test.YtbefnlnnnpinnaaWalks
namespace Go.Proofs.Ytbefnlnnnpinnaa
open Go Go.Eng Go.Rel

theorem L_go5 : isGo Try.prog 5 = true := by kernel_rfl
theorem L_go6 : isGo Try.prog 6 = true := by kernel_rfl
theorem L_un22 : Try.prog.underlying 22 = some (.slice 29) := by kernel_rfl
theorem L_go7 : isGo Try.prog 7 = true := by kernel_rfl
theorem L_go9 : isGo Try.prog 9 = true := by kernel_rfl
theorem L_go8 : isGo Try.prog 8 = true := by kernel_rfl
set_option maxRecDepth 100000 in
/-- semigroup/semigrouplaw02.RelationCloses -/
theorem RelationCloses_spec (w : World) (a : Option Addr) (cp : Nat) (xs : List (BitVec 64)) (hr : Rd w a (xs.map u)) (hn : xs.length ≤ 9223372036854775807) : Calls Try.prog 3 #[.slice a xs.length cp] w (fun e w' => e = .returned (.bool true) ∧ Ext [] w w') := by
  refine enter (args := [.slice a xs.length cp]) [] 22 Try.func3 rfl rfl rfl ?_
  refine CT.seq ?_
  -- region 0: law.go:93
  refine CT.region ?_
  refine Wl.q rfl rfl (OpQ.assign rfl) ?_
  refine Wl.nil ?_
  refine PX.then_n ?_
  refine CT.seq ?_
  -- region 1: law.go:94
  refine CT.region ?_
  refine Wl.q rfl rfl (OpQ.move rfl) ?_
  refine Wl.g rfl rfl (OpG.callR L_go5 rfl (fun w hH => closure_spec w a cp xs (hH.rd0 hr rfl) hn)) ?_
  rintro ⟨a5, c5⟩ h5
  refine Wl.q rfl rfl (OpQ.assign rfl) ?_
  refine Wl.nil ?_
  refine PX.then_n ?_
  refine CT.seq ?_
  refine CT.seq ?_
  -- region 2: law.go:95
  refine CT.region ?_
  refine Wl.q rfl rfl (OpQ.move rfl) ?_
  refine Wl.g rfl rfl (OpG.callV L_go6 rfl (fun w hH => validR_spec w a cp xs (hH.rd0 hr rfl) hn)) ?_
  rintro _ _
  refine Wl.q rfl rfl (OpQ.not rfl) ?_
  refine Wl.nil ?_
  refine PX.then_n ?_
  refine CT.cond rfl (fun h8 => ?_) (fun h8 => ?_)
  · -- if t8: then
    have hv : validB xs = false := by simpa using h8
    refine CT.seq ?_
    -- region 3: law.go:96
    refine CT.region ?_
    refine Wl.q rfl rfl (OpQ.move rfl) ?_
    refine Wl.q rfl rfl (OpQ.len L_un22 rfl) ?_
    refine Wl.q rfl rfl (OpQ.eql rfl rfl) ?_
    refine Wl.q rfl rfl (OpQ.move rfl) ?_
    refine Wl.know 12 (v' := .bool true) rfl (congrArg Value.bool (by rw [closR_no hv]; rfl)) ?_
    refine Wl.g rfl rfl (OpG.callV L_go7 rfl (fun w hH => awake_spec w)) ?_
    rintro _ _
    refine Wl.q rfl rfl (OpQ.pickT rfl rfl) ?_
    refine Wl.q rfl rfl (OpQ.assign rfl) ?_
    refine Wl.nil ?_
    refine PX.then_n ?_
    refine CT.ret ?_
    refine PX.then_r ?_
    refine PX.ret1 rfl rfl (fun w' hH => ?_)
    exact ⟨rfl, hH.ext⟩
  · -- if t8: else
    have hv : validB xs = true := by simpa using h8
    have hl := validB_le hv
    refine CT.skip ?_
    refine PX.then_n ?_
    refine CT.seq ?_
    -- region 4: law.go:98
    refine CT.region ?_
    refine Wl.q rfl rfl (OpQ.move rfl) ?_
    refine Wl.q rfl rfl (OpQ.move rfl) ?_
    refine Wl.g rfl rfl (OpG.callR L_go9 rfl (fun w hH => closureR_spec w a cp xs (hH.rd0 hr rfl) (by omega))) ?_
    rintro ⟨a17, c17⟩ h17
    refine Wl.g rfl rfl (OpG.callV L_go8 rfl (fun w hH => same_spec w a5 c5 (closR xs) (hH.rd (.there .here)) a17 c17 (closM xs) (hH.rd .here) (by rw [closR_yes hv, closM_len]; omega))) ?_
    rintro _ _
    refine Wl.q rfl rfl (OpQ.move rfl) ?_
    refine Wl.know 19 (v' := .bool true) rfl (congrArg Value.bool (by rw [closR_yes hv]; simp)) ?_
    refine Wl.g rfl rfl (OpG.callV L_go7 rfl (fun w hH => awake_spec w)) ?_
    rintro _ _
    refine Wl.q rfl rfl (OpQ.pickT rfl rfl) ?_
    refine Wl.q rfl rfl (OpQ.assign rfl) ?_
    refine Wl.nil ?_
    refine PX.then_n ?_
    refine CT.ret ?_
    refine PX.ret1 rfl rfl (fun w' hH => ?_)
    exact ⟨rfl, hH.ext⟩

theorem L_go10 : isGo Try.prog 10 = true := by kernel_rfl
theorem L_go11 : isGo Try.prog 11 = true := by kernel_rfl
theorem L_un4 : Try.prog.underlying 4 = some .bool := by kernel_rfl
theorem L_go12 : isGo Try.prog 12 = true := by kernel_rfl
set_option maxRecDepth 100000 in
/-- semigroup/semigrouplaw02.RelationValid -/
theorem RelationValid_spec (w : World) (a : Option Addr) (cp : Nat) (xs : List (BitVec 64)) (hr : Rd w a (xs.map u)) (hn : xs.length ≤ 9223372036854775807) (m : Int) (_hm : -9223372036854775808 ≤ m ∧ m ≤ 9223372036854775807) : Calls Try.prog 4 #[.slice a xs.length cp, .int .i64 m] w (fun e w' => e = .returned (.bool true) ∧ Ext [] w w') := by
  refine enter (args := [.slice a xs.length cp, .int .i64 m]) [] 45 Try.func4 rfl rfl rfl ?_
  refine CT.seq ?_
  -- region 0: law.go:29
  refine CT.region ?_
  refine Wl.q rfl rfl (OpQ.assign rfl) ?_
  refine Wl.nil ?_
  refine PX.then_n ?_
  refine CT.seq ?_
  -- region 1: law.go:30
  refine CT.region ?_
  refine Wl.q rfl rfl (OpQ.move rfl) ?_
  refine Wl.g rfl rfl (OpG.callR L_go10 rfl (fun w hH => ident_spec w m)) ?_
  rintro ⟨a7, c7⟩ h7
  refine Wl.q rfl rfl (OpQ.assign rfl) ?_
  refine Wl.nil ?_
  refine PX.then_n ?_
  refine CT.seq ?_
  refine CT.seq ?_
  -- region 2: law.go:31
  refine CT.region ?_
  refine Wl.q rfl rfl (OpQ.move rfl) ?_
  refine Wl.q rfl rfl (OpQ.lss rfl rfl) ?_
  refine Wl.q rfl rfl (OpQ.move rfl) ?_
  refine Wl.split 10 rfl (fun hg10 => ?_) (fun hg10 => ?_)
  · -- t10 = True
    have hg10 := of_decide_eq_true hg10
    refine Wl.skip rfl rfl ?_
    refine Wl.skip rfl rfl ?_
    refine Wl.q rfl rfl (OpQ.pickT rfl rfl) ?_
    refine Wl.nil ?_
    refine PX.then_n ?_
    refine CT.condT rfl ?_
    refine CT.seq ?_
    -- region 3: law.go:32
    refine CT.region ?_
    refine Wl.q rfl rfl (OpQ.move rfl) ?_
    refine Wl.g rfl rfl (OpG.callV L_go11 rfl (fun w hH => valid_spec w a cp xs (hH.rd0 hr rfl) hn)) ?_
    rintro _ _
    refine Wl.q rfl rfl (OpQ.move rfl) ?_
    refine Wl.g rfl rfl (OpG.callV L_go6 rfl (fun w hH => validR_spec w a cp xs (hH.rd0 hr rfl) hn)) ?_
    rintro _ _
    refine Wl.q rfl rfl (OpQ.eqlB L_un4 rfl rfl) ?_
    refine Wl.know 18 (v' := .bool true) rfl (congrArg Value.bool (by simp)) ?_
    refine Wl.q rfl rfl (OpQ.move rfl) ?_
    refine Wl.q rfl rfl (OpQ.move rfl) ?_
    refine Wl.q rfl rfl (OpQ.len L_un22 rfl) ?_
    refine Wl.q rfl rfl (OpQ.eql rfl rfl) ?_
    refine Wl.know 22 (v' := .bool true) rfl (congrArg Value.bool (by rw [idR_out (by omega)]; rfl)) ?_
    refine Wl.q rfl rfl (OpQ.pickT rfl rfl) ?_
    refine Wl.q rfl rfl (OpQ.move rfl) ?_
    refine Wl.g rfl rfl (OpG.callV L_go7 rfl (fun w hH => awake_spec w)) ?_
    rintro _ _
    refine Wl.q rfl rfl (OpQ.pickT rfl rfl) ?_
    refine Wl.q rfl rfl (OpQ.assign rfl) ?_
    refine Wl.nil ?_
    refine PX.then_n ?_
    refine CT.ret ?_
    refine PX.then_r ?_
    refine PX.ret1 rfl rfl (fun w' hH => ?_)
    exact ⟨rfl, hH.ext⟩
  · -- t10 = False
    have hg10 := of_decide_eq_false hg10
    refine Wl.q rfl rfl (OpQ.move rfl) ?_
    refine Wl.q rfl rfl (OpQ.gtr rfl rfl) ?_
    refine Wl.q rfl rfl (OpQ.pickF rfl rfl) ?_
    refine Wl.nil ?_
    refine PX.then_n ?_
    refine CT.cond rfl (fun h13 => ?_) (fun h13 => ?_)
    · -- if t13: then
      have h13 := of_decide_eq_true h13
      have ho : m < 0 ∨ 64 < m := by omega
      refine CT.seq ?_
      -- region 3: law.go:32
      refine CT.region ?_
      refine Wl.q rfl rfl (OpQ.move rfl) ?_
      refine Wl.g rfl rfl (OpG.callV L_go11 rfl (fun w hH => valid_spec w a cp xs (hH.rd0 hr rfl) hn)) ?_
      rintro _ _
      refine Wl.q rfl rfl (OpQ.move rfl) ?_
      refine Wl.g rfl rfl (OpG.callV L_go6 rfl (fun w hH => validR_spec w a cp xs (hH.rd0 hr rfl) hn)) ?_
      rintro _ _
      refine Wl.q rfl rfl (OpQ.eqlB L_un4 rfl rfl) ?_
      refine Wl.know 18 (v' := .bool true) rfl (congrArg Value.bool (by simp)) ?_
      refine Wl.q rfl rfl (OpQ.move rfl) ?_
      refine Wl.q rfl rfl (OpQ.move rfl) ?_
      refine Wl.q rfl rfl (OpQ.len L_un22 rfl) ?_
      refine Wl.q rfl rfl (OpQ.eql rfl rfl) ?_
      refine Wl.know 22 (v' := .bool true) rfl (congrArg Value.bool (by rw [idR_out (by omega)]; rfl)) ?_
      refine Wl.q rfl rfl (OpQ.pickT rfl rfl) ?_
      refine Wl.q rfl rfl (OpQ.move rfl) ?_
      refine Wl.g rfl rfl (OpG.callV L_go7 rfl (fun w hH => awake_spec w)) ?_
      rintro _ _
      refine Wl.q rfl rfl (OpQ.pickT rfl rfl) ?_
      refine Wl.q rfl rfl (OpQ.assign rfl) ?_
      refine Wl.nil ?_
      refine PX.then_n ?_
      refine CT.ret ?_
      refine PX.then_r ?_
      refine PX.ret1 rfl rfl (fun w' hH => ?_)
      exact ⟨rfl, hH.ext⟩
    · -- if t13: else
      have h13 := of_decide_eq_false h13
      obtain ⟨n, rfl⟩ := Int.eq_ofNat_of_zero_le (by omega : 0 ≤ m)
      refine CT.skip ?_
      refine PX.then_n ?_
      refine CT.seq ?_
      -- region 4: law.go:34
      refine CT.region ?_
      refine Wl.q rfl rfl (OpQ.move rfl) ?_
      refine Wl.g rfl rfl (OpG.callV L_go11 rfl (fun w hH => valid_spec w a cp xs (hH.rd0 hr rfl) hn)) ?_
      rintro _ _
      refine Wl.q rfl rfl (OpQ.move rfl) ?_
      refine Wl.g rfl rfl (OpG.callV L_go6 rfl (fun w hH => validR_spec w a cp xs (hH.rd0 hr rfl) hn)) ?_
      rintro _ _
      refine Wl.q rfl rfl (OpQ.eqlB L_un4 rfl rfl) ?_
      refine Wl.know 31 (v' := .bool true) rfl (congrArg Value.bool (by simp)) ?_
      refine Wl.q rfl rfl (OpQ.move rfl) ?_
      refine Wl.q rfl rfl (OpQ.move rfl) ?_
      refine Wl.q rfl rfl (OpQ.move rfl) ?_
      refine Wl.g rfl rfl (OpG.callR L_go12 rfl (fun w hH => identR_spec w n (by omega))) ?_
      rintro ⟨a35, c35⟩ h35
      refine Wl.g rfl rfl (OpG.callV L_go8 rfl (fun w hH => same_spec w a7 c7 (idR (n : Int)) (hH.rd (.there .here)) a35 c35 (idL n n) (hH.rd .here) (by have := idR_len (n : Int); omega))) ?_
      rintro _ _
      refine Wl.know 36 (v' := .bool true) rfl (congrArg Value.bool (by rw [idR_in (by omega)]; simp)) ?_
      refine Wl.q rfl rfl (OpQ.pickT rfl rfl) ?_
      refine Wl.q rfl rfl (OpQ.move rfl) ?_
      refine Wl.q rfl rfl (OpQ.move rfl) ?_
      refine Wl.g rfl rfl (OpG.callV L_go11 rfl (fun w hH => valid_spec w a7 c7 (idR (n : Int)) (hH.rd (.there .here)) (by have := idR_len (n : Int); omega))) ?_
      rintro _ _
      refine Wl.know 40 (v' := .bool true) rfl (congrArg Value.bool (by rw [idR_in (by omega)]; exact valid_id (by omega))) ?_
      refine Wl.q rfl rfl (OpQ.pickT rfl rfl) ?_
      refine Wl.q rfl rfl (OpQ.move rfl) ?_
      refine Wl.g rfl rfl (OpG.callV L_go7 rfl (fun w hH => awake_spec w)) ?_
      rintro _ _
      refine Wl.q rfl rfl (OpQ.pickT rfl rfl) ?_
      refine Wl.q rfl rfl (OpQ.assign rfl) ?_
      refine Wl.nil ?_
      refine PX.then_n ?_
      refine CT.ret ?_
      refine PX.ret1 rfl rfl (fun w' hH => ?_)
      exact ⟨rfl, hH.ext⟩

end Go.Proofs.Ytbefnlnnnpinnaa
