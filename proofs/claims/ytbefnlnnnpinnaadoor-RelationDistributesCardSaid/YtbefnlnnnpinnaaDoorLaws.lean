/-
  The walks of the laws. Conditions: those that each theorem names.
-/
import Derived.Test.YtbefnlnnnpinnaaDoorWalks
import Derived.Test.YtbefnlnnnpinnaaDoorMod
namespace Go.Proofs.YtbefnlnnnpinnaaDoor
open Go Go.Eng Go.Rel

theorem L_go15 : isGo Tryd.prog 15 = true := by kernel_rfl
theorem L_go16 : isGo Tryd.prog 16 = true := by kernel_rfl
theorem L_go14 : isGo Tryd.prog 14 = true := by kernel_rfl
theorem L_go17 : isGo Tryd.prog 17 = true := by kernel_rfl
theorem L_go18 : isGo Tryd.prog 18 = true := by kernel_rfl
theorem L_go19 : isGo Tryd.prog 19 = true := by kernel_rfl
theorem L_go20 : isGo Tryd.prog 20 = true := by kernel_rfl
set_option maxRecDepth 100000 in
/-- semigroup/semigrouplaw02.RelationImages -/
theorem RelationImages_spec (w : World) (a : Option Addr) (cp : Nat) (xs : List (BitVec 64)) (hr : Rd w a (xs.map u)) (hn : xs.length ≤ 9223372036854775807) (s : BitVec 64) (hT : Tab w) : Calls Tryd.prog 3 #[.slice a xs.length cp, u s] w (fun e w' => e = .returned (.bool true) ∧ Ext [] w w') := by
  refine enter (args := [.slice a xs.length cp, u s]) [] 31 Tryd.func3 rfl rfl rfl ?_
  refine CT.seq ?_
  -- region 0: law.go:118
  refine CT.region ?_
  refine Wl.q rfl rfl (OpQ.assign rfl) ?_
  refine Wl.nil ?_
  refine PX.then_n ?_
  refine CT.seq ?_
  refine CT.seq ?_
  -- region 1: law.go:119
  refine CT.region ?_
  refine Wl.q rfl rfl (OpQ.move rfl) ?_
  refine Wl.g rfl rfl (OpG.callR L_go15 rfl (fun w hH => members_spec w s (hH.rd0 hT rfl))) ?_
  rintro ⟨a7, c7⟩ h7
  refine Wl.q rfl rfl (OpQ.move rfl) ?_
  refine Wl.g rfl rfl (OpG.callR L_go16 rfl (fun w hH => membersR_spec w s)) ?_
  rintro ⟨a9, c9⟩ h9
  refine Wl.g rfl rfl (OpG.callV L_go14 rfl (fun w hH => sameI_spec w a7 c7 (memM s) (hH.rd (by repeat (first | exact Has.here | apply Has.there))) a9 c9 (memM s) (hH.rd (by repeat (first | exact Has.here | apply Has.there))) (le63 (memM_len s)))) ?_
  rintro _ _
  refine Wl.know 10 (v' := .bool true) rfl (congrArg Value.bool (by simp)) ?_
  refine Wl.q rfl rfl (OpQ.not rfl) ?_
  refine Wl.nil ?_
  refine PX.then_n ?_
  refine CT.condF rfl ?_
  refine CT.skip ?_
  refine PX.then_n ?_
  refine CT.seq ?_
  -- region 3: law.go:122
  refine CT.region ?_
  refine Wl.q rfl rfl (OpQ.move rfl) ?_
  refine Wl.q rfl rfl (OpQ.move rfl) ?_
  refine Wl.g rfl rfl (OpG.callV L_go17 rfl (fun w hH => image_spec w a cp xs (hH.rd0 hr rfl) hn s (hH.rd0 hT rfl))) ?_
  rintro _ _
  refine Wl.q rfl rfl (OpQ.assign rfl) ?_
  refine Wl.nil ?_
  refine PX.then_n ?_
  refine CT.seq ?_
  refine CT.seq ?_
  -- region 4: law.go:123
  refine CT.region ?_
  refine Wl.q rfl rfl (OpQ.move rfl) ?_
  refine Wl.g rfl rfl (OpG.callV L_go18 rfl (fun w hH => validR_spec w a cp xs (hH.rd0 hr rfl) hn )) ?_
  rintro _ _
  refine Wl.q rfl rfl (OpQ.not rfl) ?_
  refine Wl.nil ?_
  refine PX.then_n ?_
  refine CT.cond rfl (fun h17 => ?_) (fun h17 => ?_)
  · -- if t17: then
    have hv : validB xs = false := by simpa using h17
    refine CT.seq ?_
    -- region 5: law.go:124
    refine CT.region ?_
    refine Wl.q rfl rfl (OpQ.move rfl) ?_
    refine Wl.q rfl rfl (OpQ.ueql (q := 0#64) rfl rfl) ?_
    refine Wl.q rfl rfl (OpQ.move rfl) ?_
    refine Wl.know 20 (v' := .bool true) rfl (congrArg Value.bool (by rw [imgR_no hv]; rfl)) ?_
    refine Wl.g rfl rfl (OpG.callV L_go19 rfl (fun w hH => awake_spec w)) ?_
    rintro _ _
    refine Wl.q rfl rfl (OpQ.pickT rfl rfl) ?_
    refine Wl.q rfl rfl (OpQ.assign rfl) ?_
    refine Wl.nil ?_
    refine PX.then_n ?_
    refine CT.ret ?_
    refine PX.then_r ?_
    refine PX.ret1 rfl rfl (fun w' hH => ?_)
    exact ⟨rfl, hH.ext⟩
  · -- if t17: else
    have hv : validB xs = true := by simpa using h17
    have hl := validB_le hv
    refine CT.skip ?_
    refine PX.then_n ?_
    refine CT.seq ?_
    -- region 6: law.go:126
    refine CT.region ?_
    refine Wl.q rfl rfl (OpQ.move rfl) ?_
    refine Wl.q rfl rfl (OpQ.move rfl) ?_
    refine Wl.q rfl rfl (OpQ.move rfl) ?_
    refine Wl.g rfl rfl (OpG.callV L_go20 rfl (fun w hH => imageR_spec w a cp xs (hH.rd0 hr rfl) hn s)) ?_
    rintro _ _
    refine Wl.q rfl rfl (OpQ.ueql rfl rfl) ?_
    refine Wl.q rfl rfl (OpQ.move rfl) ?_
    refine Wl.know 28 (v' := .bool true) rfl (congrArg Value.bool (by rw [imgR_yes hv, img_same hl]; simp)) ?_
    refine Wl.g rfl rfl (OpG.callV L_go19 rfl (fun w hH => awake_spec w)) ?_
    rintro _ _
    refine Wl.q rfl rfl (OpQ.pickT rfl rfl) ?_
    refine Wl.q rfl rfl (OpQ.assign rfl) ?_
    refine Wl.nil ?_
    refine PX.then_n ?_
    refine CT.ret ?_
    refine PX.ret1 rfl rfl (fun w' hH => ?_)
    exact ⟨rfl, hH.ext⟩

theorem L_go21 : isGo Tryd.prog 21 = true := by kernel_rfl
theorem L_go22 : isGo Tryd.prog 22 = true := by kernel_rfl
theorem L_un22 : Tryd.prog.underlying 22 = some (.slice 23) := by kernel_rfl
theorem L_go24 : isGo Tryd.prog 24 = true := by kernel_rfl
theorem L_go23 : isGo Tryd.prog 23 = true := by kernel_rfl
set_option maxRecDepth 100000 in
/-- semigroup/semigrouplaw02.RelationComposes -/
theorem RelationComposes_spec (w : World) (a : Option Addr) (cp : Nat) (xs : List (BitVec 64)) (hr : Rd w a (xs.map u)) (hn : xs.length ≤ 9223372036854775807) (a2 : Option Addr) (cp2 : Nat) (ys : List (BitVec 64)) (hr2 : Rd w a2 (ys.map u)) (hn2 : ys.length ≤ 9223372036854775807) (hT : Tab w) : Calls Tryd.prog 4 #[.slice a xs.length cp, .slice a2 ys.length cp2] w (fun e w' => e = .returned (.bool true) ∧ Ext [] w w') := by
  refine enter (args := [.slice a xs.length cp, .slice a2 ys.length cp2]) [] 27 Tryd.func4 rfl rfl rfl ?_
  refine CT.seq ?_
  -- region 0: law.go:38
  refine CT.region ?_
  refine Wl.q rfl rfl (OpQ.assign rfl) ?_
  refine Wl.nil ?_
  refine PX.then_n ?_
  refine CT.seq ?_
  -- region 1: law.go:39
  refine CT.region ?_
  refine Wl.q rfl rfl (OpQ.move rfl) ?_
  refine Wl.q rfl rfl (OpQ.move rfl) ?_
  refine Wl.g rfl rfl (OpG.callR L_go21 rfl (fun w hH => compose_spec w a cp xs (hH.rd0 hr rfl) a2 cp2 ys (hH.rd0 hr2 rfl) hn hn2 (hH.rd0 hT rfl))) ?_
  rintro ⟨a8, c8⟩ h8
  refine Wl.q rfl rfl (OpQ.assign rfl) ?_
  refine Wl.nil ?_
  refine PX.then_n ?_
  refine CT.seq ?_
  refine CT.seq ?_
  -- region 2: law.go:40
  refine CT.region ?_
  refine Wl.q rfl rfl (OpQ.move rfl) ?_
  refine Wl.q rfl rfl (OpQ.move rfl) ?_
  refine Wl.g rfl rfl (OpG.callV L_go22 rfl (fun w hH => pair_spec w a cp xs (hH.rd0 hr rfl) a2 cp2 ys (hH.rd0 hr2 rfl) hn hn2)) ?_
  rintro _ _
  refine Wl.q rfl rfl (OpQ.not rfl) ?_
  refine Wl.nil ?_
  refine PX.then_n ?_
  refine CT.cond rfl (fun h12 => ?_) (fun h12 => ?_)
  · -- if t12: then
    have hm : matchB xs ys = false := by simpa using h12
    refine CT.seq ?_
    -- region 3: law.go:41
    refine CT.region ?_
    refine Wl.q rfl rfl (OpQ.move rfl) ?_
    refine Wl.q rfl rfl (OpQ.len L_un22 rfl) ?_
    refine Wl.q rfl rfl (OpQ.eql rfl rfl) ?_
    refine Wl.q rfl rfl (OpQ.move rfl) ?_
    refine Wl.know 16 (v' := .bool true) rfl (congrArg Value.bool (by rw [compR_no hm]; rfl)) ?_
    refine Wl.g rfl rfl (OpG.callV L_go19 rfl (fun w hH => awake_spec w)) ?_
    rintro _ _
    refine Wl.q rfl rfl (OpQ.pickT rfl rfl) ?_
    refine Wl.q rfl rfl (OpQ.assign rfl) ?_
    refine Wl.nil ?_
    refine PX.then_n ?_
    refine CT.ret ?_
    refine PX.then_r ?_
    refine PX.ret1 rfl rfl (fun w' hH => ?_)
    exact ⟨rfl, hH.ext⟩
  · -- if t12: else
    have hm : matchB xs ys = true := by simpa using h12
    obtain ⟨hl2, hvx, hvy⟩ := matchB_spec hm
    have hl := validB_le hvx
    refine CT.skip ?_
    refine PX.then_n ?_
    refine CT.seq ?_
    -- region 4: law.go:43
    refine CT.region ?_
    refine Wl.q rfl rfl (OpQ.move rfl) ?_
    refine Wl.q rfl rfl (OpQ.move rfl) ?_
    refine Wl.q rfl rfl (OpQ.move rfl) ?_
    refine Wl.g rfl rfl (OpG.callR L_go24 rfl (fun w hH => composeR_spec w a cp xs (hH.rd0 hr rfl) a2 cp2 ys (hH.rd0 hr2 rfl) hl hl2)) ?_
    rintro ⟨a22, c22⟩ h22
    refine Wl.g rfl rfl (OpG.callV L_go23 rfl (fun w hH => same_spec w a8 c8 (compR xs ys) (hH.rd (by repeat (first | exact Has.here | apply Has.there))) a22 c22 (rc1 xs ys xs.length) (hH.rd (by repeat (first | exact Has.here | apply Has.there))) (le63 (compR_le _ _)) )) ?_
    rintro _ _
    refine Wl.q rfl rfl (OpQ.move rfl) ?_
    refine Wl.know 24 (v' := .bool true) rfl (congrArg Value.bool (by rw [comp_same hm]; simp)) ?_
    refine Wl.g rfl rfl (OpG.callV L_go19 rfl (fun w hH => awake_spec w)) ?_
    rintro _ _
    refine Wl.q rfl rfl (OpQ.pickT rfl rfl) ?_
    refine Wl.q rfl rfl (OpQ.assign rfl) ?_
    refine Wl.nil ?_
    refine PX.then_n ?_
    refine CT.ret ?_
    refine PX.ret1 rfl rfl (fun w' hH => ?_)
    exact ⟨rfl, hH.ext⟩

set_option maxRecDepth 100000 in
/-- semigroup/semigrouplaw02.RelationSteps -/
theorem RelationSteps_spec (w : World) (a : Option Addr) (cp : Nat) (xs : List (BitVec 64)) (hr : Rd w a (xs.map u)) (hn : xs.length ≤ 9223372036854775807) (a2 : Option Addr) (cp2 : Nat) (ys : List (BitVec 64)) (hr2 : Rd w a2 (ys.map u)) (hn2 : ys.length ≤ 9223372036854775807) (s t : BitVec 64) (hT : Tab w) : Calls Tryd.prog 5 #[.slice a xs.length cp, .slice a2 ys.length cp2, u s, u t] w (fun e w' => e = .returned (.bool true) ∧ Ext [] w w') := by
  refine enter (args := [.slice a xs.length cp, .slice a2 ys.length cp2, u s, u t]) [] 43 Tryd.func5 rfl rfl rfl ?_
  refine CT.seq ?_
  -- region 0: law.go:130
  refine CT.region ?_
  refine Wl.q rfl rfl (OpQ.assign rfl) ?_
  refine Wl.nil ?_
  refine PX.then_n ?_
  refine CT.seq ?_
  refine CT.seq ?_
  -- region 1: law.go:131
  refine CT.region ?_
  refine Wl.q rfl rfl (OpQ.move rfl) ?_
  refine Wl.q rfl rfl (OpQ.move rfl) ?_
  refine Wl.g rfl rfl (OpG.callV L_go22 rfl (fun w hH => pair_spec w a cp xs (hH.rd0 hr rfl) a2 cp2 ys (hH.rd0 hr2 rfl) hn hn2)) ?_
  rintro _ _
  refine Wl.q rfl rfl (OpQ.not rfl) ?_
  refine Wl.nil ?_
  refine PX.then_n ?_
  refine CT.cond rfl (fun h12 => ?_) (fun h12 => ?_)
  · -- if t12: then
    have hm : matchB xs ys = false := by simpa using h12
    refine CT.seq ?_
    -- region 2: law.go:132
    refine CT.region ?_
    refine Wl.g rfl rfl (OpG.callV L_go19 rfl (fun w hH => awake_spec w)) ?_
    rintro _ _
    refine Wl.q rfl rfl (OpQ.assign rfl) ?_
    refine Wl.nil ?_
    refine PX.then_n ?_
    refine CT.ret ?_
    refine PX.then_r ?_
    refine PX.ret1 rfl rfl (fun w' hH => ?_)
    exact ⟨rfl, hH.ext⟩
  · -- if t12: else
    have hm : matchB xs ys = true := by simpa using h12
    obtain ⟨hl2, hvx, hvy⟩ := matchB_spec hm
    have hl := validB_le hvx
    refine CT.skip ?_
    refine PX.then_n ?_
    refine CT.seq ?_
    -- region 3: law.go:134
    refine CT.region ?_
    refine Wl.q rfl rfl (OpQ.move rfl) ?_
    refine Wl.q rfl rfl (OpQ.move rfl) ?_
    refine Wl.g rfl rfl (OpG.callR L_go21 rfl (fun w hH => compose_spec w a cp xs (hH.rd0 hr rfl) a2 cp2 ys (hH.rd0 hr2 rfl) hn hn2 (hH.rd0 hT rfl))) ?_
    rintro ⟨a16, c16⟩ h16
    refine Wl.q rfl rfl (OpQ.move rfl) ?_
    refine Wl.g rfl rfl (OpG.callV L_go17 rfl (fun w hH => image_spec w a16 c16 (compR xs ys) (hH.rd (by repeat (first | exact Has.here | apply Has.there))) (le63 (compR_le _ _)) s (hH.rd0 hT rfl))) ?_
    rintro _ _
    refine Wl.q rfl rfl (OpQ.move rfl) ?_
    refine Wl.q rfl rfl (OpQ.move rfl) ?_
    refine Wl.q rfl rfl (OpQ.move rfl) ?_
    refine Wl.g rfl rfl (OpG.callV L_go17 rfl (fun w hH => image_spec w a cp xs (hH.rd0 hr rfl) hn s (hH.rd0 hT rfl))) ?_
    rintro _ _
    refine Wl.g rfl rfl (OpG.callV L_go17 rfl (fun w hH => image_spec w a2 cp2 ys (hH.rd0 hr2 rfl) hn2 _ (hH.rd0 hT rfl))) ?_
    rintro _ _
    refine Wl.q rfl rfl (OpQ.ueql rfl rfl) ?_
    refine Wl.q rfl rfl (OpQ.move rfl) ?_
    refine Wl.know 25 (v' := .bool true) rfl (congrArg Value.bool (by rw [steps1 hm]; simp)) ?_
    refine Wl.q rfl rfl (OpQ.move rfl) ?_
    refine Wl.q rfl rfl (OpQ.move rfl) ?_
    refine Wl.q rfl rfl (OpQ.move rfl) ?_
    refine Wl.q rfl rfl (OpQ.uor rfl rfl) ?_
    refine Wl.g rfl rfl (OpG.callV L_go17 rfl (fun w hH => image_spec w a cp xs (hH.rd0 hr rfl) hn _ (hH.rd0 hT rfl))) ?_
    rintro _ _
    refine Wl.q rfl rfl (OpQ.move rfl) ?_
    refine Wl.q rfl rfl (OpQ.move rfl) ?_
    refine Wl.g rfl rfl (OpG.callV L_go17 rfl (fun w hH => image_spec w a cp xs (hH.rd0 hr rfl) hn s (hH.rd0 hT rfl))) ?_
    rintro _ _
    refine Wl.q rfl rfl (OpQ.move rfl) ?_
    refine Wl.q rfl rfl (OpQ.move rfl) ?_
    refine Wl.g rfl rfl (OpG.callV L_go17 rfl (fun w hH => image_spec w a cp xs (hH.rd0 hr rfl) hn t (hH.rd0 hT rfl))) ?_
    rintro _ _
    refine Wl.q rfl rfl (OpQ.uor rfl rfl) ?_
    refine Wl.q rfl rfl (OpQ.ueql rfl rfl) ?_
    refine Wl.q rfl rfl (OpQ.pickT rfl rfl) ?_
    refine Wl.q rfl rfl (OpQ.move rfl) ?_
    refine Wl.know 40 (v' := .bool true) rfl (congrArg Value.bool (by rw [steps2 hvx]; simp)) ?_
    refine Wl.g rfl rfl (OpG.callV L_go19 rfl (fun w hH => awake_spec w)) ?_
    rintro _ _
    refine Wl.q rfl rfl (OpQ.pickT rfl rfl) ?_
    refine Wl.q rfl rfl (OpQ.assign rfl) ?_
    refine Wl.nil ?_
    refine PX.then_n ?_
    refine CT.ret ?_
    refine PX.ret1 rfl rfl (fun w' hH => ?_)
    exact ⟨rfl, hH.ext⟩

theorem L_go25 : isGo Tryd.prog 25 = true := by kernel_rfl
theorem L_go26 : isGo Tryd.prog 26 = true := by kernel_rfl
theorem L_go27 : isGo Tryd.prog 27 = true := by kernel_rfl
theorem L_go28 : isGo Tryd.prog 28 = true := by kernel_rfl
theorem L_mixed : Tryd.prog.follows .mixedOrders = true := by kernel_rfl
theorem L_sz23 : sizeB Tryd.prog 23 = some 1 := by kernel_rfl
theorem L_sc23 : scalarB Tryd.prog 23 = some true := by kernel_rfl
set_option maxRecDepth 100000 in
/-- semigroup/semigrouplaw02.RelationCombines -/
theorem RelationCombines_spec (w : World) (a : Option Addr) (cp : Nat) (xs : List (BitVec 64)) (hr : Rd w a (xs.map u)) (hn : xs.length ≤ 9223372036854775807) (a2 : Option Addr) (cp2 : Nat) (ys : List (BitVec 64)) (hr2 : Rd w a2 (ys.map u)) (hn2 : ys.length ≤ 9223372036854775807) (hT : Tab w) : Calls Tryd.prog 6 #[.slice a xs.length cp, .slice a2 ys.length cp2] w (fun e w' => e = .returned (.bool true) ∧ Ext [] w w') := by
  have sm : 0 < xs.length → a.isSome = true := fun h => hr.isSome (j := 0) (by simpa using h)
  have sm2 : 0 < ys.length → a2.isSome = true := fun h => hr2.isSome (j := 0) (by simpa using h)
  refine enter (args := [.slice a xs.length cp, .slice a2 ys.length cp2]) [] 105 Tryd.func6 rfl rfl rfl ?_
  refine CT.seq ?_
  -- region 0: law.go:59
  refine CT.region ?_
  refine Wl.q rfl rfl (OpQ.assign rfl) ?_
  refine Wl.nil ?_
  refine PX.then_n ?_
  refine CT.seq ?_
  -- region 1: law.go:60
  refine CT.region ?_
  refine Wl.q rfl rfl (OpQ.move rfl) ?_
  refine Wl.q rfl rfl (OpQ.move rfl) ?_
  refine Wl.g rfl rfl (OpG.callR L_go25 rfl (fun w hH => union_spec w a cp xs (hH.rd0 hr rfl) a2 cp2 ys (hH.rd0 hr2 rfl) hn hn2)) ?_
  rintro ⟨a11, c11⟩ h11
  refine Wl.q rfl rfl (OpQ.move rfl) ?_
  refine Wl.q rfl rfl (OpQ.move rfl) ?_
  refine Wl.g rfl rfl (OpG.callR L_go26 rfl (fun w hH => meet_spec w a cp xs (hH.rd0 hr rfl) a2 cp2 ys (hH.rd0 hr2 rfl) hn hn2)) ?_
  rintro ⟨a14, c14⟩ h14
  refine Wl.q rfl rfl (OpQ.move rfl) ?_
  refine Wl.g rfl rfl (OpG.callR L_go27 rfl (fun w hH => trans_spec w a cp xs (hH.rd0 hr rfl) hn (hH.rd0 hT rfl))) ?_
  rintro ⟨a16, c16⟩ h16
  refine Wl.q rfl rfl (OpQ.assign rfl) ?_
  refine Wl.q rfl rfl (OpQ.assign rfl) ?_
  refine Wl.q rfl rfl (OpQ.assign rfl) ?_
  refine Wl.nil ?_
  refine PX.then_n ?_
  refine CT.seq ?_
  refine CT.seq ?_
  -- region 2: law.go:61
  refine CT.region ?_
  refine Wl.q rfl rfl (OpQ.move rfl) ?_
  refine Wl.g rfl rfl (OpG.callV L_go18 rfl (fun w hH => validR_spec w a cp xs (hH.rd0 hr rfl) hn )) ?_
  rintro _ _
  refine Wl.q rfl rfl (OpQ.not rfl) ?_
  refine Wl.nil ?_
  refine PX.then_n ?_
  refine CT.cond rfl (fun h19 => ?_) (fun h19 => ?_)
  · -- if t19: then
    have hv : validB xs = false := by simpa using h19
    have hm : matchB xs ys = false := by simp [matchB, hv]
    refine CT.seq ?_
    -- region 3: law.go:62
    refine CT.region ?_
    refine Wl.q rfl rfl (OpQ.move rfl) ?_
    refine Wl.q rfl rfl (OpQ.len L_un22 rfl) ?_
    refine Wl.q rfl rfl (OpQ.eql rfl rfl) ?_
    refine Wl.q rfl rfl (OpQ.move rfl) ?_
    refine Wl.know 23 (v' := .bool true) rfl (congrArg Value.bool (by rw [zipR_no hm]; rfl)) ?_
    refine Wl.q rfl rfl (OpQ.move rfl) ?_
    refine Wl.q rfl rfl (OpQ.len L_un22 rfl) ?_
    refine Wl.q rfl rfl (OpQ.eql rfl rfl) ?_
    refine Wl.q rfl rfl (OpQ.pickT rfl rfl) ?_
    refine Wl.q rfl rfl (OpQ.move rfl) ?_
    refine Wl.know 28 (v' := .bool true) rfl (congrArg Value.bool (by rw [zipR_no hm]; rfl)) ?_
    refine Wl.q rfl rfl (OpQ.move rfl) ?_
    refine Wl.q rfl rfl (OpQ.len L_un22 rfl) ?_
    refine Wl.q rfl rfl (OpQ.eql rfl rfl) ?_
    refine Wl.q rfl rfl (OpQ.pickT rfl rfl) ?_
    refine Wl.q rfl rfl (OpQ.move rfl) ?_
    refine Wl.know 33 (v' := .bool true) rfl (congrArg Value.bool (by rw [transR_no hv]; rfl)) ?_
    refine Wl.g rfl rfl (OpG.callV L_go19 rfl (fun w hH => awake_spec w)) ?_
    rintro _ _
    refine Wl.q rfl rfl (OpQ.pickT rfl rfl) ?_
    refine Wl.q rfl rfl (OpQ.assign rfl) ?_
    refine Wl.nil ?_
    refine PX.then_n ?_
    refine CT.ret ?_
    refine PX.then_r ?_
    refine PX.ret1 rfl rfl (fun w' hH => ?_)
    exact ⟨rfl, hH.ext⟩
  · -- if t19: else
    have hv : validB xs = true := by simpa using h19
    have hl := validB_le hv
    refine CT.skip ?_
    refine PX.then_n ?_
    refine CT.seq ?_
    refine CT.seq ?_
    -- region 4: law.go:64
    refine CT.region ?_
    refine Wl.q rfl rfl (OpQ.move rfl) ?_
    refine Wl.q rfl rfl (OpQ.move rfl) ?_
    refine Wl.g rfl rfl (OpG.callR L_go28 rfl (fun w hH => transRef_spec w a cp xs (hH.rd0 hr rfl) hl)) ?_
    rintro ⟨a38, c38⟩ h38
    refine Wl.g rfl rfl (OpG.callV L_go23 rfl (fun w hH => same_spec w a16 c16 (transR xs) (hH.rd (by repeat (first | exact Has.here | apply Has.there))) a38 c38 (rt0 xs xs.length) (hH.rd (by repeat (first | exact Has.here | apply Has.there))) (le63 (transR_le _)) )) ?_
    rintro _ _
    refine Wl.know 39 (v' := .bool true) rfl (congrArg Value.bool (by rw [trans_same hv]; simp)) ?_
    refine Wl.q rfl rfl (OpQ.not rfl) ?_
    refine Wl.nil ?_
    refine PX.then_n ?_
    refine CT.condF rfl ?_
    refine CT.skip ?_
    refine PX.then_n ?_
    refine CT.seq ?_
    refine CT.seq ?_
    -- region 6: law.go:67
    refine CT.region ?_
    refine Wl.q rfl rfl (OpQ.move rfl) ?_
    refine Wl.q rfl rfl (OpQ.move rfl) ?_
    refine Wl.g rfl rfl (OpG.callV L_go22 rfl (fun w hH => pair_spec w a cp xs (hH.rd0 hr rfl) a2 cp2 ys (hH.rd0 hr2 rfl) hn hn2)) ?_
    rintro _ _
    refine Wl.q rfl rfl (OpQ.not rfl) ?_
    refine Wl.nil ?_
    refine PX.then_n ?_
    refine CT.cond rfl (fun h44 => ?_) (fun h44 => ?_)
    · -- if t44: then
      have hm : matchB xs ys = false := by simpa using h44
      refine CT.seq ?_
      -- region 7: law.go:68
      refine CT.region ?_
      refine Wl.q rfl rfl (OpQ.move rfl) ?_
      refine Wl.q rfl rfl (OpQ.len L_un22 rfl) ?_
      refine Wl.q rfl rfl (OpQ.eql rfl rfl) ?_
      refine Wl.q rfl rfl (OpQ.move rfl) ?_
      refine Wl.know 48 (v' := .bool true) rfl (congrArg Value.bool (by rw [zipR_no hm]; rfl)) ?_
      refine Wl.q rfl rfl (OpQ.move rfl) ?_
      refine Wl.q rfl rfl (OpQ.len L_un22 rfl) ?_
      refine Wl.q rfl rfl (OpQ.eql rfl rfl) ?_
      refine Wl.q rfl rfl (OpQ.pickT rfl rfl) ?_
      refine Wl.q rfl rfl (OpQ.move rfl) ?_
      refine Wl.know 53 (v' := .bool true) rfl (congrArg Value.bool (by rw [zipR_no hm]; rfl)) ?_
      refine Wl.g rfl rfl (OpG.callV L_go19 rfl (fun w hH => awake_spec w)) ?_
      rintro _ _
      refine Wl.q rfl rfl (OpQ.pickT rfl rfl) ?_
      refine Wl.q rfl rfl (OpQ.assign rfl) ?_
      refine Wl.nil ?_
      refine PX.then_n ?_
      refine CT.ret ?_
      refine PX.then_r ?_
      refine PX.ret1 rfl rfl (fun w' hH => ?_)
      exact ⟨rfl, hH.ext⟩
    · -- if t44: else
      have hm : matchB xs ys = true := by simpa using h44
      obtain ⟨hl2, hvx, hvy⟩ := matchB_spec hm
      have lu : (zipR (· ||| ·) xs ys).length = xs.length := zipR_len hm
      have lm : (zipR (· &&& ·) xs ys).length = xs.length := zipR_len hm
      refine CT.skip ?_
      refine PX.then_n ?_
      refine CT.seq ?_
      refine CT.seq ?_
      -- region 8: law.go:70
      refine CT.region ?_
      refine Wl.q rfl rfl (OpQ.move rfl) ?_
      refine Wl.q rfl rfl (OpQ.len L_un22 rfl) ?_
      refine Wl.q rfl rfl (OpQ.move rfl) ?_
      refine Wl.q rfl rfl (OpQ.len L_un22 rfl) ?_
      refine Wl.q rfl rfl (OpQ.neq rfl rfl) ?_
      refine Wl.q rfl rfl (OpQ.move rfl) ?_
      refine Wl.know 61 (v' := .bool false) rfl (congrArg Value.bool (by rw [lu]; simp)) ?_
      refine Wl.q rfl rfl (OpQ.move rfl) ?_
      refine Wl.q rfl rfl (OpQ.len L_un22 rfl) ?_
      refine Wl.q rfl rfl (OpQ.move rfl) ?_
      refine Wl.q rfl rfl (OpQ.len L_un22 rfl) ?_
      refine Wl.q rfl rfl (OpQ.neq rfl rfl) ?_
      refine Wl.q rfl rfl (OpQ.pickF rfl rfl) ?_
      refine Wl.know 67 (v' := .bool false) rfl (congrArg Value.bool (by rw [lm]; simp)) ?_
      refine Wl.nil ?_
      refine PX.then_n ?_
      refine CT.condF rfl ?_
      refine CT.skip ?_
      refine PX.then_n ?_
      refine CT.seq ?_
      refine CT.seq ?_
      -- region 10: law.go:73
      refine CT.region ?_
      refine Wl.q rfl rfl (OpQ.move rfl) ?_
      refine Wl.q rfl rfl (OpQ.len L_un22 rfl) ?_
      refine Wl.q rfl rfl (OpQ.move rfl) ?_
      refine Wl.nil ?_
      refine PX.then_n ?_
      refine CT.block ?_
      -- the loop at region 11
      refine CT.loop (ι := Nat) (fun k => k ≤ xs.length) (fun k => [(0, .slice a xs.length cp), (1, .slice a2 ys.length cp2), (5, .slice a11 (zipR (· ||| ·) xs ys).length c11), (6, .slice a14 (zipR (· &&& ·) xs ys).length c14), (69, .int .i64 (xs.length : Int)), (70, .int .i64 (k : Int))]) (fun _ => [.row 23 1 (.slice a14 (zipR (· &&& ·) xs ys).length c14) (zipR (· &&& ·) xs ys).length ((zipR (· &&& ·) xs ys).map u), .row 23 1 (.slice a11 (zipR (· ||| ·) xs ys).length c11) (zipR (· ||| ·) xs ys).length ((zipR (· ||| ·) xs ys).map u)]) (fun k => xs.length - k) 0 (by omega) ⟨rfl, rfl, rfl, rfl, rfl, rfl, trivial⟩ (.drop (.drop (.keep rfl (.keep rfl .nil)))) (fun k hk K0 hK0 => ?_)
      have gu := fun (h : k < xs.length) => zipR_get (f := (· ||| ·)) hm h
      have gm := fun (h : k < xs.length) => zipR_get (f := (· &&& ·)) hm h
      refine CT.seq ?_
      -- region 11: law.go:73
      refine CT.region ?_
      refine Wl.q rfl rfl (OpQ.lss rfl rfl) ?_
      refine Wl.nil ?_
      refine PX.then_n ?_
      refine CT.seq ?_
      refine CT.cond rfl (fun h71 => ?_) (fun h71 => ?_)
      · -- if t71: then
        have h71 := of_decide_eq_true h71
        refine CT.skip ?_
        refine PX.then_n ?_
        refine CT.seq ?_
        refine CT.block ?_
        refine CT.seq ?_
        -- region 12: law.go:73
        refine CT.region ?_
        refine Wl.q rfl rfl (OpQ.move rfl) ?_
        refine Wl.q rfl rfl (OpQ.assign rfl) ?_
        refine Wl.nil ?_
        refine PX.then_n ?_
        refine CT.seq ?_
        -- region 13, drawn: law.go:74
        refine CT.draw 30 L_mixed ?_
        refine RA.q 0 (by kernel_rfl) rfl rfl rfl (.refl _) (OpQ.move rfl) ?_
        refine RA.q 1 (by kernel_rfl) rfl rfl rfl (.refl _) (OpQ.move rfl) ?_
        refine RA.q 2 (by kernel_rfl) rfl rfl rfl (.refl _) (OpQ.index1 L_un22 L_sz23 rfl rfl (by omega) (h11 (by omega))) ?_
        refine RA.q 3 (by kernel_rfl) rfl rfl rfl (.refl _) (OpQ.loadRow L_sc23 rfl (.there .here) (getMap u (zipR (· ||| ·) xs ys) 0#64 (j := k) (by omega))) ?_
        refine RA.q 4 (by kernel_rfl) rfl rfl rfl (.refl _) (OpQ.move rfl) ?_
        refine RA.q 5 (by kernel_rfl) rfl rfl rfl (.refl _) (OpQ.move rfl) ?_
        refine RA.q 6 (by kernel_rfl) rfl rfl rfl (.refl _) (OpQ.index1 L_un22 L_sz23 rfl rfl (by omega) (sm (by omega))) ?_
        refine RA.q 7 (by kernel_rfl) rfl rfl rfl (.refl _) (OpQ.loadRd L_sc23 rfl rfl hr (getMap u xs 0#64 (j := k) (by omega))) ?_
        refine RA.q 8 (by kernel_rfl) rfl rfl rfl (.refl _) (OpQ.move rfl) ?_
        refine RA.q 9 (by kernel_rfl) rfl rfl rfl (.refl _) (OpQ.move rfl) ?_
        refine RA.q 10 (by kernel_rfl) rfl rfl rfl (.refl _) (OpQ.index1 L_un22 L_sz23 rfl rfl (by omega) (sm2 (by omega))) ?_
        refine RA.q 11 (by kernel_rfl) rfl rfl rfl (.refl _) (OpQ.loadRd L_sc23 rfl rfl hr2 (getMap u ys 0#64 (j := k) (by omega))) ?_
        refine RA.q 12 (by kernel_rfl) rfl rfl rfl (.refl _) (OpQ.uor rfl rfl) ?_
        refine RA.q 13 (by kernel_rfl) rfl rfl rfl (.refl _) (OpQ.uneq rfl rfl) ?_
        refine RA.q 14 (by kernel_rfl) rfl rfl rfl (.refl _) (OpQ.move rfl) ?_
        refine RA.know 87 (v' := .bool false) rfl (congrArg Value.bool (by rw [gu (by omega)]; simp)) ?_
        refine RA.q 15 (by kernel_rfl) rfl rfl rfl (.refl _) (OpQ.move rfl) ?_
        refine RA.q 16 (by kernel_rfl) rfl rfl rfl (.refl _) (OpQ.move rfl) ?_
        refine RA.q 17 (by kernel_rfl) rfl rfl rfl (.refl _) (OpQ.index1 L_un22 L_sz23 rfl rfl (by omega) (h14 (by omega))) ?_
        refine RA.q 18 (by kernel_rfl) rfl rfl rfl (.refl _) (OpQ.loadRow L_sc23 rfl .here (getMap u (zipR (· &&& ·) xs ys) 0#64 (j := k) (by omega))) ?_
        refine RA.q 19 (by kernel_rfl) rfl rfl rfl (.refl _) (OpQ.move rfl) ?_
        refine RA.q 20 (by kernel_rfl) rfl rfl rfl (.refl _) (OpQ.move rfl) ?_
        refine RA.q 21 (by kernel_rfl) rfl rfl rfl (.refl _) (OpQ.index1 L_un22 L_sz23 rfl rfl (by omega) (sm (by omega))) ?_
        refine RA.q 22 (by kernel_rfl) rfl rfl rfl (.refl _) (OpQ.loadRd L_sc23 rfl rfl hr (getMap u xs 0#64 (j := k) (by omega))) ?_
        refine RA.q 23 (by kernel_rfl) rfl rfl rfl (.refl _) (OpQ.move rfl) ?_
        refine RA.q 24 (by kernel_rfl) rfl rfl rfl (.refl _) (OpQ.move rfl) ?_
        refine RA.q 25 (by kernel_rfl) rfl rfl rfl (.refl _) (OpQ.index1 L_un22 L_sz23 rfl rfl (by omega) (sm2 (by omega))) ?_
        refine RA.q 26 (by kernel_rfl) rfl rfl rfl (.refl _) (OpQ.loadRd L_sc23 rfl rfl hr2 (getMap u ys 0#64 (j := k) (by omega))) ?_
        refine RA.q 27 (by kernel_rfl) rfl rfl rfl (.refl _) (OpQ.uand rfl rfl) ?_
        refine RA.q 28 (by kernel_rfl) rfl rfl rfl (.refl _) (OpQ.uneq rfl rfl) ?_
        refine RA.q 29 (by kernel_rfl) rfl rfl rfl (.refl _) (OpQ.pickF rfl rfl) ?_
        refine RA.know 102 (v' := .bool false) rfl (congrArg Value.bool (by rw [gm (by omega)]; simp)) ?_
        refine RA.tail ?_
        refine RT.done (by kernel_rfl) ?_
        refine PX.then_n ?_
        refine CT.condF rfl ?_
        refine CT.skip ?_
        refine PX.block_n ?_
        refine PX.then_n ?_
        -- region 15: law.go:73
        refine CT.region ?_
        refine Wl.q rfl rfl (OpQ.add rfl rfl (by omega)) ?_
        refine Wl.q rfl rfl (OpQ.move rfl) ?_
        refine Wl.nil ?_
        exact PX.loop hK0 (k + 1) (by omega) (by first | omega | (dsimp only; omega)) ⟨rfl, rfl, rfl, rfl, rfl, rfl, trivial⟩ (HSub.refl _)
      · -- if t71: else
        have h71 := of_decide_eq_false h71
        refine CT.exit ?_
        refine PX.then_x ?_
        refine PX.then_x ?_
        refine PX.block_x ?_
        refine PX.then_n ?_
        refine CT.seq ?_
        -- region 16: law.go:78
        refine CT.region ?_
        refine Wl.g rfl rfl (OpG.callV L_go19 rfl (fun w hH => awake_spec w)) ?_
        rintro _ _
        refine Wl.q rfl rfl (OpQ.assign rfl) ?_
        refine Wl.nil ?_
        refine PX.then_n ?_
        refine CT.ret ?_
        refine PX.ret1 rfl rfl (fun w' hH => ?_)
        exact ⟨rfl, hH.ext⟩

theorem L_go31 : isGo Tryd.prog 31 = true := by kernel_rfl
theorem L_go32 : isGo Tryd.prog 32 = true := by kernel_rfl
set_option maxRecDepth 100000 in
/-- semigroup/semigrouplaw02.RelationLeast -/
theorem RelationLeast_spec (w : World) (a : Option Addr) (cp : Nat) (xs : List (BitVec 64)) (hr : Rd w a (xs.map u)) (hn : xs.length ≤ 9223372036854775807) (a2 : Option Addr) (cp2 : Nat) (ys : List (BitVec 64)) (hr2 : Rd w a2 (ys.map u)) (hn2 : ys.length ≤ 9223372036854775807) (hT : Tab w) : Calls Tryd.prog 8 #[.slice a xs.length cp, .slice a2 ys.length cp2] w (fun e w' => e = .returned (.bool true) ∧ Ext [] w w') := by
  refine enter (args := [.slice a xs.length cp, .slice a2 ys.length cp2]) [] 81 Tryd.func8 rfl rfl rfl ?_
  refine CT.seq ?_
  -- region 0: law.go:102
  refine CT.region ?_
  refine Wl.q rfl rfl (OpQ.assign rfl) ?_
  refine Wl.nil ?_
  refine PX.then_n ?_
  refine CT.seq ?_
  refine CT.seq ?_
  -- region 1: law.go:103
  refine CT.region ?_
  refine Wl.q rfl rfl (OpQ.move rfl) ?_
  refine Wl.g rfl rfl (OpG.callV L_go18 rfl (fun w hH => validR_spec w a cp xs (hH.rd0 hr rfl) hn )) ?_
  rintro _ _
  refine Wl.q rfl rfl (OpQ.not rfl) ?_
  refine Wl.q rfl rfl (OpQ.move rfl) ?_
  refine Wl.split 10 rfl (fun hg10 => ?_) (fun hg10 => ?_)
  · -- t10 = True
    refine Wl.skip rfl rfl ?_
    refine Wl.skip rfl rfl ?_
    refine Wl.skip rfl rfl ?_
    refine Wl.q rfl rfl (OpQ.pickT rfl rfl) ?_
    refine Wl.nil ?_
    refine PX.then_n ?_
    refine CT.condT rfl ?_
    refine CT.seq ?_
    -- region 2: law.go:104
    refine CT.region ?_
    refine Wl.g rfl rfl (OpG.callV L_go19 rfl (fun w hH => awake_spec w)) ?_
    rintro _ _
    refine Wl.q rfl rfl (OpQ.assign rfl) ?_
    refine Wl.nil ?_
    refine PX.then_n ?_
    refine CT.ret ?_
    refine PX.then_r ?_
    refine PX.ret1 rfl rfl (fun w' hH => ?_)
    exact ⟨rfl, hH.ext⟩
  · -- t10 = False
    have hv : validB xs = true := by simpa using hg10
    have hl := validB_le hv
    have lc := closR_len hv
    have li : (idR (xs.length : Int)).length = xs.length := idR_leng hl
    refine Wl.q rfl rfl (OpQ.move rfl) ?_
    refine Wl.q rfl rfl (OpQ.len L_un22 rfl) ?_
    refine Wl.q rfl rfl (OpQ.gtr rfl rfl) ?_
    refine Wl.q rfl rfl (OpQ.pickF rfl rfl) ?_
    refine Wl.nil ?_
    refine PX.then_n ?_
    refine CT.cond rfl (fun h14 => ?_) (fun h14 => ?_)
    · -- if t14: then
      have h14 := of_decide_eq_true h14
      refine CT.seq ?_
      -- region 2: law.go:104
      refine CT.region ?_
      refine Wl.g rfl rfl (OpG.callV L_go19 rfl (fun w hH => awake_spec w)) ?_
      rintro _ _
      refine Wl.q rfl rfl (OpQ.assign rfl) ?_
      refine Wl.nil ?_
      refine PX.then_n ?_
      refine CT.ret ?_
      refine PX.then_r ?_
      refine PX.ret1 rfl rfl (fun w' hH => ?_)
      exact ⟨rfl, hH.ext⟩
    · -- if t14: else
      have h14 := of_decide_eq_false h14
      refine CT.skip ?_
      refine PX.then_n ?_
      refine CT.seq ?_
      -- region 3: law.go:106
      refine CT.region ?_
      refine Wl.q rfl rfl (OpQ.move rfl) ?_
      refine Wl.g rfl rfl (OpG.callR L_go31 rfl (fun w hH => closure_spec w a cp xs (hH.rd0 hr rfl) hn )) ?_
      rintro ⟨a17, c17⟩ h17
      refine Wl.q rfl rfl (OpQ.assign rfl) ?_
      refine Wl.nil ?_
      refine PX.then_n ?_
      refine CT.seq ?_
      refine CT.seq ?_
      -- region 4: law.go:107
      refine CT.region ?_
      refine Wl.q rfl rfl (OpQ.move rfl) ?_
      refine Wl.q rfl rfl (OpQ.len L_un22 rfl) ?_
      refine Wl.q rfl rfl (OpQ.move rfl) ?_
      refine Wl.q rfl rfl (OpQ.len L_un22 rfl) ?_
      refine Wl.q rfl rfl (OpQ.neq rfl rfl) ?_
      refine Wl.q rfl rfl (OpQ.move rfl) ?_
      refine Wl.know 23 (v' := .bool false) rfl (congrArg Value.bool (by rw [lc]; simp)) ?_
      refine Wl.q rfl rfl (OpQ.move rfl) ?_
      refine Wl.q rfl rfl (OpQ.move rfl) ?_
      refine Wl.g rfl rfl (OpG.callR L_go21 rfl (fun w hH => compose_spec w a17 c17 (closR xs) (hH.rd (by repeat (first | exact Has.here | apply Has.there))) a17 c17 (closR xs) (hH.rd (by repeat (first | exact Has.here | apply Has.there))) (le63 (closR_le _)) (le63 (closR_le _)) (hH.rd0 hT rfl))) ?_
      rintro ⟨a26, c26⟩ h26
      refine Wl.q rfl rfl (OpQ.move rfl) ?_
      refine Wl.g rfl rfl (OpG.callV L_go23 rfl (fun w hH => same_spec w a26 c26 (compR (closR xs) (closR xs)) (hH.rd (by repeat (first | exact Has.here | apply Has.there))) a17 c17 (closR xs) (hH.rd (by repeat (first | exact Has.here | apply Has.there))) (le63 (compR_le _ _)) )) ?_
      rintro _ _
      refine Wl.q rfl rfl (OpQ.not rfl) ?_
      refine Wl.q rfl rfl (OpQ.pickF rfl rfl) ?_
      refine Wl.q rfl rfl (OpQ.move rfl) ?_
      refine Wl.know 31 (v' := .bool false) rfl (congrArg Value.bool (by rw [least1 hv]; simp)) ?_
      refine Wl.q rfl rfl (OpQ.move rfl) ?_
      refine Wl.q rfl rfl (OpQ.move rfl) ?_
      refine Wl.g rfl rfl (OpG.callR L_go25 rfl (fun w hH => union_spec w a17 c17 (closR xs) (hH.rd (by repeat (first | exact Has.here | apply Has.there))) a cp xs (hH.rd0 hr rfl) (le63 (closR_le _)) hn)) ?_
      rintro ⟨a34, c34⟩ h34
      refine Wl.q rfl rfl (OpQ.move rfl) ?_
      refine Wl.g rfl rfl (OpG.callV L_go23 rfl (fun w hH => same_spec w a34 c34 (zipR (· ||| ·) (closR xs) xs) (hH.rd (by repeat (first | exact Has.here | apply Has.there))) a17 c17 (closR xs) (hH.rd (by repeat (first | exact Has.here | apply Has.there))) (le63 (zipR_le _ _ _)) )) ?_
      rintro _ _
      refine Wl.q rfl rfl (OpQ.not rfl) ?_
      refine Wl.q rfl rfl (OpQ.pickF rfl rfl) ?_
      refine Wl.q rfl rfl (OpQ.move rfl) ?_
      refine Wl.know 39 (v' := .bool false) rfl (congrArg Value.bool (by rw [least2 hv]; simp)) ?_
      refine Wl.q rfl rfl (OpQ.move rfl) ?_
      refine Wl.q rfl rfl (OpQ.move rfl) ?_
      refine Wl.q rfl rfl (OpQ.len L_un22 rfl) ?_
      refine Wl.g rfl rfl (OpG.callR L_go32 rfl (fun w hH => ident_spec w (xs.length : Int))) ?_
      rintro ⟨a43, c43⟩ h43
      refine Wl.g rfl rfl (OpG.callR L_go25 rfl (fun w hH => union_spec w a17 c17 (closR xs) (hH.rd (by repeat (first | exact Has.here | apply Has.there))) a43 c43 (idR (xs.length : Int)) (hH.rd (by repeat (first | exact Has.here | apply Has.there))) (le63 (closR_le _)) (le63 (idR_len _)))) ?_
      rintro ⟨a44, c44⟩ h44
      refine Wl.q rfl rfl (OpQ.move rfl) ?_
      refine Wl.g rfl rfl (OpG.callV L_go23 rfl (fun w hH => same_spec w a44 c44 (zipR (· ||| ·) (closR xs) (idR (xs.length : Int))) (hH.rd (by repeat (first | exact Has.here | apply Has.there))) a17 c17 (closR xs) (hH.rd (by repeat (first | exact Has.here | apply Has.there))) (le63 (zipR_le _ _ _)) )) ?_
      rintro _ _
      refine Wl.q rfl rfl (OpQ.not rfl) ?_
      refine Wl.q rfl rfl (OpQ.pickF rfl rfl) ?_
      refine Wl.know 48 (v' := .bool false) rfl (congrArg Value.bool (by rw [least3 hv]; simp)) ?_
      refine Wl.nil ?_
      refine PX.then_n ?_
      refine CT.condF rfl ?_
      refine CT.skip ?_
      refine PX.then_n ?_
      refine CT.seq ?_
      refine CT.seq ?_
      -- region 6: law.go:110
      refine CT.region ?_
      refine Wl.q rfl rfl (OpQ.move rfl) ?_
      refine Wl.q rfl rfl (OpQ.move rfl) ?_
      refine Wl.g rfl rfl (OpG.callV L_go22 rfl (fun w hH => pair_spec w a cp xs (hH.rd0 hr rfl) a2 cp2 ys (hH.rd0 hr2 rfl) hn hn2)) ?_
      rintro _ _
      refine Wl.q rfl rfl (OpQ.not rfl) ?_
      refine Wl.nil ?_
      refine PX.then_n ?_
      refine CT.cond rfl (fun h52 => ?_) (fun h52 => ?_)
      · -- if t52: then
        refine CT.seq ?_
        -- region 7: law.go:111
        refine CT.region ?_
        refine Wl.g rfl rfl (OpG.callV L_go19 rfl (fun w hH => awake_spec w)) ?_
        rintro _ _
        refine Wl.q rfl rfl (OpQ.assign rfl) ?_
        refine Wl.nil ?_
        refine PX.then_n ?_
        refine CT.ret ?_
        refine PX.then_r ?_
        refine PX.ret1 rfl rfl (fun w' hH => ?_)
        exact ⟨rfl, hH.ext⟩
      · -- if t52: else
        have hm : matchB xs ys = true := by simpa using h52
        obtain ⟨e1, e2, e3⟩ := least4 hm
        refine CT.skip ?_
        refine PX.then_n ?_
        refine CT.seq ?_
        -- region 8: law.go:113
        refine CT.region ?_
        refine Wl.q rfl rfl (OpQ.move rfl) ?_
        refine Wl.q rfl rfl (OpQ.move rfl) ?_
        refine Wl.g rfl rfl (OpG.callR L_go25 rfl (fun w hH => union_spec w a cp xs (hH.rd0 hr rfl) a2 cp2 ys (hH.rd0 hr2 rfl) hn hn2)) ?_
        rintro ⟨a56, c56⟩ h56
        refine Wl.g rfl rfl (OpG.callR L_go31 rfl (fun w hH => closure_spec w a56 c56 (zipR (· ||| ·) xs ys) (hH.rd (by repeat (first | exact Has.here | apply Has.there))) (le63 (zipR_le _ _ _)) )) ?_
        rintro ⟨a57, c57⟩ h57
        refine Wl.q rfl rfl (OpQ.assign rfl) ?_
        refine Wl.nil ?_
        refine PX.then_n ?_
        refine CT.seq ?_
        -- region 9: law.go:114
        refine CT.region ?_
        refine Wl.q rfl rfl (OpQ.move rfl) ?_
        refine Wl.q rfl rfl (OpQ.len L_un22 rfl) ?_
        refine Wl.q rfl rfl (OpQ.move rfl) ?_
        refine Wl.q rfl rfl (OpQ.len L_un22 rfl) ?_
        refine Wl.q rfl rfl (OpQ.eql rfl rfl) ?_
        refine Wl.q rfl rfl (OpQ.move rfl) ?_
        refine Wl.know 63 (v' := .bool true) rfl (congrArg Value.bool (by rw [e3]; simp)) ?_
        refine Wl.q rfl rfl (OpQ.move rfl) ?_
        refine Wl.q rfl rfl (OpQ.move rfl) ?_
        refine Wl.g rfl rfl (OpG.callR L_go25 rfl (fun w hH => union_spec w a17 c17 (closR xs) (hH.rd (by repeat (first | exact Has.here | apply Has.there))) a57 c57 (closR (zipR (· ||| ·) xs ys)) (hH.rd (by repeat (first | exact Has.here | apply Has.there))) (le63 (closR_le _)) (le63 (closR_le _)))) ?_
        rintro ⟨a66, c66⟩ h66
        refine Wl.q rfl rfl (OpQ.move rfl) ?_
        refine Wl.g rfl rfl (OpG.callV L_go23 rfl (fun w hH => same_spec w a66 c66 (zipR (· ||| ·) (closR xs) (closR (zipR (· ||| ·) xs ys))) (hH.rd (by repeat (first | exact Has.here | apply Has.there))) a57 c57 (closR (zipR (· ||| ·) xs ys)) (hH.rd (by repeat (first | exact Has.here | apply Has.there))) (le63 (zipR_le _ _ _)) )) ?_
        rintro _ _
        refine Wl.q rfl rfl (OpQ.pickT rfl rfl) ?_
        refine Wl.q rfl rfl (OpQ.move rfl) ?_
        refine Wl.know 70 (v' := .bool true) rfl (congrArg Value.bool (by rw [e1]; simp)) ?_
        refine Wl.q rfl rfl (OpQ.move rfl) ?_
        refine Wl.q rfl rfl (OpQ.move rfl) ?_
        refine Wl.g rfl rfl (OpG.callR L_go25 rfl (fun w hH => union_spec w a17 c17 (closR xs) (hH.rd (by repeat (first | exact Has.here | apply Has.there))) a2 cp2 ys (hH.rd0 hr2 rfl) (le63 (closR_le _)) hn2)) ?_
        rintro ⟨a73, c73⟩ h73
        refine Wl.g rfl rfl (OpG.callR L_go31 rfl (fun w hH => closure_spec w a73 c73 (zipR (· ||| ·) (closR xs) ys) (hH.rd (by repeat (first | exact Has.here | apply Has.there))) (le63 (zipR_le _ _ _)) )) ?_
        rintro ⟨a74, c74⟩ h74
        refine Wl.q rfl rfl (OpQ.move rfl) ?_
        refine Wl.g rfl rfl (OpG.callV L_go23 rfl (fun w hH => same_spec w a74 c74 (closR (zipR (· ||| ·) (closR xs) ys)) (hH.rd (by repeat (first | exact Has.here | apply Has.there))) a57 c57 (closR (zipR (· ||| ·) xs ys)) (hH.rd (by repeat (first | exact Has.here | apply Has.there))) (le63 (closR_le _)) )) ?_
        rintro _ _
        refine Wl.q rfl rfl (OpQ.pickT rfl rfl) ?_
        refine Wl.q rfl rfl (OpQ.move rfl) ?_
        refine Wl.know 78 (v' := .bool true) rfl (congrArg Value.bool (by rw [e2]; simp)) ?_
        refine Wl.g rfl rfl (OpG.callV L_go19 rfl (fun w hH => awake_spec w)) ?_
        rintro _ _
        refine Wl.q rfl rfl (OpQ.pickT rfl rfl) ?_
        refine Wl.q rfl rfl (OpQ.assign rfl) ?_
        refine Wl.nil ?_
        refine PX.then_n ?_
        refine CT.ret ?_
        refine PX.ret1 rfl rfl (fun w' hH => ?_)
        exact ⟨rfl, hH.ext⟩

set_option maxRecDepth 100000 in
/-- semigroup/semigrouplaw02.RelationAssociates -/
theorem RelationAssociates_spec (w : World) (a : Option Addr) (cp : Nat) (xs : List (BitVec 64)) (hr : Rd w a (xs.map u)) (hn : xs.length ≤ 9223372036854775807) (a2 : Option Addr) (cp2 : Nat) (ys : List (BitVec 64)) (hr2 : Rd w a2 (ys.map u)) (hn2 : ys.length ≤ 9223372036854775807) (a3 : Option Addr) (cp3 : Nat) (zs : List (BitVec 64)) (hr3 : Rd w a3 (zs.map u)) (hn3 : zs.length ≤ 9223372036854775807) (hT : Tab w) : Calls Tryd.prog 9 #[.slice a xs.length cp, .slice a2 ys.length cp2, .slice a3 zs.length cp3] w (fun e w' => e = .returned (.bool true) ∧ Ext [] w w') := by
  refine enter (args := [.slice a xs.length cp, .slice a2 ys.length cp2, .slice a3 zs.length cp3]) [] 80 Tryd.func9 rfl rfl rfl ?_
  refine CT.seq ?_
  -- region 0: law.go:47
  refine CT.region ?_
  refine Wl.q rfl rfl (OpQ.assign rfl) ?_
  refine Wl.nil ?_
  refine PX.then_n ?_
  refine CT.seq ?_
  refine CT.seq ?_
  -- region 1: law.go:48
  refine CT.region ?_
  refine Wl.q rfl rfl (OpQ.move rfl) ?_
  refine Wl.q rfl rfl (OpQ.move rfl) ?_
  refine Wl.g rfl rfl (OpG.callV L_go22 rfl (fun w hH => pair_spec w a cp xs (hH.rd0 hr rfl) a2 cp2 ys (hH.rd0 hr2 rfl) hn hn2)) ?_
  rintro _ _
  refine Wl.q rfl rfl (OpQ.not rfl) ?_
  refine Wl.q rfl rfl (OpQ.move rfl) ?_
  refine Wl.split 15 rfl (fun hg15 => ?_) (fun hg15 => ?_)
  · -- t15 = True
    refine Wl.skip rfl rfl ?_
    refine Wl.skip rfl rfl ?_
    refine Wl.skip rfl rfl ?_
    refine Wl.skip rfl rfl ?_
    refine Wl.q rfl rfl (OpQ.pickT rfl rfl) ?_
    refine Wl.q rfl rfl (OpQ.move rfl) ?_
    refine Wl.skip rfl rfl ?_
    refine Wl.skip rfl rfl ?_
    refine Wl.skip rfl rfl ?_
    refine Wl.q rfl rfl (OpQ.pickT rfl rfl) ?_
    refine Wl.nil ?_
    refine PX.then_n ?_
    refine CT.condT rfl ?_
    refine CT.seq ?_
    -- region 2: law.go:49
    refine CT.region ?_
    refine Wl.g rfl rfl (OpG.callV L_go19 rfl (fun w hH => awake_spec w)) ?_
    rintro _ _
    refine Wl.q rfl rfl (OpQ.assign rfl) ?_
    refine Wl.nil ?_
    refine PX.then_n ?_
    refine CT.ret ?_
    refine PX.then_r ?_
    refine PX.ret1 rfl rfl (fun w' hH => ?_)
    exact ⟨rfl, hH.ext⟩
  · -- t15 = False
    have hm : matchB xs ys = true := by simpa using hg15
    obtain ⟨hl2, hvx, hvy⟩ := matchB_spec hm
    have hl := validB_le hvx
    refine Wl.q rfl rfl (OpQ.move rfl) ?_
    refine Wl.q rfl rfl (OpQ.move rfl) ?_
    refine Wl.g rfl rfl (OpG.callV L_go22 rfl (fun w hH => pair_spec w a2 cp2 ys (hH.rd0 hr2 rfl) a3 cp3 zs (hH.rd0 hr3 rfl) hn2 hn3)) ?_
    rintro _ _
    refine Wl.q rfl rfl (OpQ.not rfl) ?_
    refine Wl.q rfl rfl (OpQ.pickF rfl rfl) ?_
    refine Wl.q rfl rfl (OpQ.move rfl) ?_
    refine Wl.split 21 rfl (fun hg21 => ?_) (fun hg21 => ?_)
    · -- t21 = True
      refine Wl.skip rfl rfl ?_
      refine Wl.skip rfl rfl ?_
      refine Wl.skip rfl rfl ?_
      refine Wl.q rfl rfl (OpQ.pickT rfl rfl) ?_
      refine Wl.nil ?_
      refine PX.then_n ?_
      refine CT.condT rfl ?_
      refine CT.seq ?_
      -- region 2: law.go:49
      refine CT.region ?_
      refine Wl.g rfl rfl (OpG.callV L_go19 rfl (fun w hH => awake_spec w)) ?_
      rintro _ _
      refine Wl.q rfl rfl (OpQ.assign rfl) ?_
      refine Wl.nil ?_
      refine PX.then_n ?_
      refine CT.ret ?_
      refine PX.then_r ?_
      refine PX.ret1 rfl rfl (fun w' hH => ?_)
      exact ⟨rfl, hH.ext⟩
    · -- t21 = False
      have hm2 : matchB ys zs = true := by simpa using hg21
      obtain ⟨e1, e2⟩ := assoc hm hm2
      refine Wl.q rfl rfl (OpQ.move rfl) ?_
      refine Wl.q rfl rfl (OpQ.len L_un22 rfl) ?_
      refine Wl.q rfl rfl (OpQ.gtr rfl rfl) ?_
      refine Wl.q rfl rfl (OpQ.pickF rfl rfl) ?_
      refine Wl.nil ?_
      refine PX.then_n ?_
      refine CT.cond rfl (fun h25 => ?_) (fun h25 => ?_)
      · -- if t25: then
        have h25 := of_decide_eq_true h25
        refine CT.seq ?_
        -- region 2: law.go:49
        refine CT.region ?_
        refine Wl.g rfl rfl (OpG.callV L_go19 rfl (fun w hH => awake_spec w)) ?_
        rintro _ _
        refine Wl.q rfl rfl (OpQ.assign rfl) ?_
        refine Wl.nil ?_
        refine PX.then_n ?_
        refine CT.ret ?_
        refine PX.then_r ?_
        refine PX.ret1 rfl rfl (fun w' hH => ?_)
        exact ⟨rfl, hH.ext⟩
      · -- if t25: else
        have h25 := of_decide_eq_false h25
        refine CT.skip ?_
        refine PX.then_n ?_
        refine CT.seq ?_
        -- region 3: law.go:51
        refine CT.region ?_
        refine Wl.q rfl rfl (OpQ.move rfl) ?_
        refine Wl.q rfl rfl (OpQ.move rfl) ?_
        refine Wl.g rfl rfl (OpG.callR L_go21 rfl (fun w hH => compose_spec w a cp xs (hH.rd0 hr rfl) a2 cp2 ys (hH.rd0 hr2 rfl) hn hn2 (hH.rd0 hT rfl))) ?_
        rintro ⟨a29, c29⟩ h29
        refine Wl.q rfl rfl (OpQ.move rfl) ?_
        refine Wl.g rfl rfl (OpG.callR L_go21 rfl (fun w hH => compose_spec w a29 c29 (compR xs ys) (hH.rd (by repeat (first | exact Has.here | apply Has.there))) a3 cp3 zs (hH.rd0 hr3 rfl) (le63 (compR_le _ _)) hn3 (hH.rd0 hT rfl))) ?_
        rintro ⟨a31, c31⟩ h31
        refine Wl.q rfl rfl (OpQ.assign rfl) ?_
        refine Wl.nil ?_
        refine PX.then_n ?_
        refine CT.seq ?_
        -- region 4: law.go:52
        refine CT.region ?_
        refine Wl.q rfl rfl (OpQ.move rfl) ?_
        refine Wl.q rfl rfl (OpQ.move rfl) ?_
        refine Wl.q rfl rfl (OpQ.move rfl) ?_
        refine Wl.g rfl rfl (OpG.callR L_go21 rfl (fun w hH => compose_spec w a2 cp2 ys (hH.rd0 hr2 rfl) a3 cp3 zs (hH.rd0 hr3 rfl) hn2 hn3 (hH.rd0 hT rfl))) ?_
        rintro ⟨a35, c35⟩ h35
        refine Wl.g rfl rfl (OpG.callR L_go21 rfl (fun w hH => compose_spec w a cp xs (hH.rd0 hr rfl) a35 c35 (compR ys zs) (hH.rd (by repeat (first | exact Has.here | apply Has.there))) hn (le63 (compR_le _ _)) (hH.rd0 hT rfl))) ?_
        rintro ⟨a36, c36⟩ h36
        refine Wl.q rfl rfl (OpQ.assign rfl) ?_
        refine Wl.nil ?_
        refine PX.then_n ?_
        refine CT.seq ?_
        -- region 5: law.go:53
        refine CT.region ?_
        refine Wl.q rfl rfl (OpQ.move rfl) ?_
        refine Wl.q rfl rfl (OpQ.len L_un22 rfl) ?_
        refine Wl.g rfl rfl (OpG.callR L_go32 rfl (fun w hH => ident_spec w (xs.length : Int))) ?_
        rintro ⟨a39, c39⟩ h39
        refine Wl.q rfl rfl (OpQ.assign rfl) ?_
        refine Wl.nil ?_
        refine PX.then_n ?_
        refine CT.seq ?_
        -- region 6: law.go:54
        refine CT.region ?_
        refine Wl.q rfl rfl (OpQ.move rfl) ?_
        refine Wl.q rfl rfl (OpQ.move rfl) ?_
        refine Wl.g rfl rfl (OpG.callR L_go21 rfl (fun w hH => compose_spec w a cp xs (hH.rd0 hr rfl) a2 cp2 ys (hH.rd0 hr2 rfl) hn hn2 (hH.rd0 hT rfl))) ?_
        rintro ⟨a42, c42⟩ h42
        refine Wl.g rfl rfl (OpG.callR L_go27 rfl (fun w hH => trans_spec w a42 c42 (compR xs ys) (hH.rd (by repeat (first | exact Has.here | apply Has.there))) (le63 (compR_le _ _)) (hH.rd0 hT rfl))) ?_
        rintro ⟨a43, c43⟩ h43
        refine Wl.q rfl rfl (OpQ.assign rfl) ?_
        refine Wl.nil ?_
        refine PX.then_n ?_
        refine CT.seq ?_
        -- region 7: law.go:55
        refine CT.region ?_
        refine Wl.q rfl rfl (OpQ.move rfl) ?_
        refine Wl.q rfl rfl (OpQ.len L_un22 rfl) ?_
        refine Wl.q rfl rfl (OpQ.move rfl) ?_
        refine Wl.q rfl rfl (OpQ.len L_un22 rfl) ?_
        refine Wl.q rfl rfl (OpQ.eql rfl rfl) ?_
        refine Wl.q rfl rfl (OpQ.move rfl) ?_
        refine Wl.know 49 (v' := .bool true) rfl (congrArg Value.bool (by rw [e2]; simp)) ?_
        refine Wl.q rfl rfl (OpQ.move rfl) ?_
        refine Wl.q rfl rfl (OpQ.move rfl) ?_
        refine Wl.g rfl rfl (OpG.callV L_go23 rfl (fun w hH => same_spec w a31 c31 (compR (compR xs ys) zs) (hH.rd (by repeat (first | exact Has.here | apply Has.there))) a36 c36 (compR xs (compR ys zs)) (hH.rd (by repeat (first | exact Has.here | apply Has.there))) (le63 (compR_le _ _)) )) ?_
        rintro _ _
        refine Wl.q rfl rfl (OpQ.pickT rfl rfl) ?_
        refine Wl.q rfl rfl (OpQ.move rfl) ?_
        refine Wl.know 54 (v' := .bool true) rfl (congrArg Value.bool (by rw [e1]; simp)) ?_
        refine Wl.q rfl rfl (OpQ.move rfl) ?_
        refine Wl.q rfl rfl (OpQ.move rfl) ?_
        refine Wl.g rfl rfl (OpG.callR L_go21 rfl (fun w hH => compose_spec w a39 c39 (idR (xs.length : Int)) (hH.rd (by repeat (first | exact Has.here | apply Has.there))) a cp xs (hH.rd0 hr rfl) (le63 (idR_len _)) hn (hH.rd0 hT rfl))) ?_
        rintro ⟨a57, c57⟩ h57
        refine Wl.q rfl rfl (OpQ.move rfl) ?_
        refine Wl.g rfl rfl (OpG.callV L_go23 rfl (fun w hH => same_spec w a57 c57 (compR (idR (xs.length : Int)) xs) (hH.rd (by repeat (first | exact Has.here | apply Has.there))) a cp xs (hH.rd0 hr rfl) (le63 (compR_le _ _)) )) ?_
        rintro _ _
        refine Wl.q rfl rfl (OpQ.pickT rfl rfl) ?_
        refine Wl.q rfl rfl (OpQ.move rfl) ?_
        refine Wl.know 61 (v' := .bool true) rfl (congrArg Value.bool (by rw [neutral1 hvx]; simp)) ?_
        refine Wl.q rfl rfl (OpQ.move rfl) ?_
        refine Wl.q rfl rfl (OpQ.move rfl) ?_
        refine Wl.g rfl rfl (OpG.callR L_go21 rfl (fun w hH => compose_spec w a cp xs (hH.rd0 hr rfl) a39 c39 (idR (xs.length : Int)) (hH.rd (by repeat (first | exact Has.here | apply Has.there))) hn (le63 (idR_len _)) (hH.rd0 hT rfl))) ?_
        rintro ⟨a64, c64⟩ h64
        refine Wl.q rfl rfl (OpQ.move rfl) ?_
        refine Wl.g rfl rfl (OpG.callV L_go23 rfl (fun w hH => same_spec w a64 c64 (compR xs (idR (xs.length : Int))) (hH.rd (by repeat (first | exact Has.here | apply Has.there))) a cp xs (hH.rd0 hr rfl) (le63 (compR_le _ _)) )) ?_
        rintro _ _
        refine Wl.q rfl rfl (OpQ.pickT rfl rfl) ?_
        refine Wl.q rfl rfl (OpQ.move rfl) ?_
        refine Wl.know 68 (v' := .bool true) rfl (congrArg Value.bool (by rw [neutral2 hvx]; simp)) ?_
        refine Wl.q rfl rfl (OpQ.move rfl) ?_
        refine Wl.q rfl rfl (OpQ.move rfl) ?_
        refine Wl.g rfl rfl (OpG.callR L_go27 rfl (fun w hH => trans_spec w a2 cp2 ys (hH.rd0 hr2 rfl) hn2 (hH.rd0 hT rfl))) ?_
        rintro ⟨a71, c71⟩ h71
        refine Wl.q rfl rfl (OpQ.move rfl) ?_
        refine Wl.g rfl rfl (OpG.callR L_go27 rfl (fun w hH => trans_spec w a cp xs (hH.rd0 hr rfl) hn (hH.rd0 hT rfl))) ?_
        rintro ⟨a73, c73⟩ h73
        refine Wl.g rfl rfl (OpG.callR L_go21 rfl (fun w hH => compose_spec w a71 c71 (transR ys) (hH.rd (by repeat (first | exact Has.here | apply Has.there))) a73 c73 (transR xs) (hH.rd (by repeat (first | exact Has.here | apply Has.there))) (le63 (transR_le _)) (le63 (transR_le _)) (hH.rd0 hT rfl))) ?_
        rintro ⟨a74, c74⟩ h74
        refine Wl.g rfl rfl (OpG.callV L_go23 rfl (fun w hH => same_spec w a43 c43 (transR (compR xs ys)) (hH.rd (by repeat (first | exact Has.here | apply Has.there))) a74 c74 (compR (transR ys) (transR xs)) (hH.rd (by repeat (first | exact Has.here | apply Has.there))) (le63 (transR_le _)) )) ?_
        rintro _ _
        refine Wl.q rfl rfl (OpQ.pickT rfl rfl) ?_
        refine Wl.q rfl rfl (OpQ.move rfl) ?_
        refine Wl.know 77 (v' := .bool true) rfl (congrArg Value.bool (by rw [turned hm]; simp)) ?_
        refine Wl.g rfl rfl (OpG.callV L_go19 rfl (fun w hH => awake_spec w)) ?_
        rintro _ _
        refine Wl.q rfl rfl (OpQ.pickT rfl rfl) ?_
        refine Wl.q rfl rfl (OpQ.assign rfl) ?_
        refine Wl.nil ?_
        refine PX.then_n ?_
        refine CT.ret ?_
        refine PX.ret1 rfl rfl (fun w' hH => ?_)
        exact ⟨rfl, hH.ext⟩

set_option maxRecDepth 100000 in
/-- semigroup/semigrouplaw02.RelationDistributes -/
theorem RelationDistributes_spec (w : World) (a : Option Addr) (cp : Nat) (xs : List (BitVec 64)) (hr : Rd w a (xs.map u)) (hn : xs.length ≤ 9223372036854775807) (a2 : Option Addr) (cp2 : Nat) (ys : List (BitVec 64)) (hr2 : Rd w a2 (ys.map u)) (hn2 : ys.length ≤ 9223372036854775807) (a3 : Option Addr) (cp3 : Nat) (zs : List (BitVec 64)) (hr3 : Rd w a3 (zs.map u)) (hn3 : zs.length ≤ 9223372036854775807) (hT : Tab w) : Calls Tryd.prog 10 #[.slice a xs.length cp, .slice a2 ys.length cp2, .slice a3 zs.length cp3] w (fun e w' => e = .returned (.bool true) ∧ Ext [] w w') := by
  refine enter (args := [.slice a xs.length cp, .slice a2 ys.length cp2, .slice a3 zs.length cp3]) [] 64 Tryd.func10 rfl rfl rfl ?_
  refine CT.seq ?_
  -- region 0: law.go:82
  refine CT.region ?_
  refine Wl.q rfl rfl (OpQ.assign rfl) ?_
  refine Wl.nil ?_
  refine PX.then_n ?_
  refine CT.seq ?_
  refine CT.seq ?_
  -- region 1: law.go:83
  refine CT.region ?_
  refine Wl.q rfl rfl (OpQ.move rfl) ?_
  refine Wl.q rfl rfl (OpQ.move rfl) ?_
  refine Wl.g rfl rfl (OpG.callV L_go22 rfl (fun w hH => pair_spec w a cp xs (hH.rd0 hr rfl) a2 cp2 ys (hH.rd0 hr2 rfl) hn hn2)) ?_
  rintro _ _
  refine Wl.q rfl rfl (OpQ.not rfl) ?_
  refine Wl.q rfl rfl (OpQ.move rfl) ?_
  refine Wl.split 14 rfl (fun hg14 => ?_) (fun hg14 => ?_)
  · -- t14 = True
    refine Wl.skip rfl rfl ?_
    refine Wl.skip rfl rfl ?_
    refine Wl.skip rfl rfl ?_
    refine Wl.skip rfl rfl ?_
    refine Wl.q rfl rfl (OpQ.pickT rfl rfl) ?_
    refine Wl.q rfl rfl (OpQ.move rfl) ?_
    refine Wl.skip rfl rfl ?_
    refine Wl.skip rfl rfl ?_
    refine Wl.skip rfl rfl ?_
    refine Wl.q rfl rfl (OpQ.pickT rfl rfl) ?_
    refine Wl.nil ?_
    refine PX.then_n ?_
    refine CT.condT rfl ?_
    refine CT.seq ?_
    -- region 2: law.go:84
    refine CT.region ?_
    refine Wl.g rfl rfl (OpG.callV L_go19 rfl (fun w hH => awake_spec w)) ?_
    rintro _ _
    refine Wl.q rfl rfl (OpQ.assign rfl) ?_
    refine Wl.nil ?_
    refine PX.then_n ?_
    refine CT.ret ?_
    refine PX.then_r ?_
    refine PX.ret1 rfl rfl (fun w' hH => ?_)
    exact ⟨rfl, hH.ext⟩
  · -- t14 = False
    have hm : matchB xs ys = true := by simpa using hg14
    obtain ⟨hl2, hvx, hvy⟩ := matchB_spec hm
    have hl := validB_le hvx
    refine Wl.q rfl rfl (OpQ.move rfl) ?_
    refine Wl.q rfl rfl (OpQ.move rfl) ?_
    refine Wl.g rfl rfl (OpG.callV L_go22 rfl (fun w hH => pair_spec w a2 cp2 ys (hH.rd0 hr2 rfl) a3 cp3 zs (hH.rd0 hr3 rfl) hn2 hn3)) ?_
    rintro _ _
    refine Wl.q rfl rfl (OpQ.not rfl) ?_
    refine Wl.q rfl rfl (OpQ.pickF rfl rfl) ?_
    refine Wl.q rfl rfl (OpQ.move rfl) ?_
    refine Wl.split 20 rfl (fun hg20 => ?_) (fun hg20 => ?_)
    · -- t20 = True
      refine Wl.skip rfl rfl ?_
      refine Wl.skip rfl rfl ?_
      refine Wl.skip rfl rfl ?_
      refine Wl.q rfl rfl (OpQ.pickT rfl rfl) ?_
      refine Wl.nil ?_
      refine PX.then_n ?_
      refine CT.condT rfl ?_
      refine CT.seq ?_
      -- region 2: law.go:84
      refine CT.region ?_
      refine Wl.g rfl rfl (OpG.callV L_go19 rfl (fun w hH => awake_spec w)) ?_
      rintro _ _
      refine Wl.q rfl rfl (OpQ.assign rfl) ?_
      refine Wl.nil ?_
      refine PX.then_n ?_
      refine CT.ret ?_
      refine PX.then_r ?_
      refine PX.ret1 rfl rfl (fun w' hH => ?_)
      exact ⟨rfl, hH.ext⟩
    · -- t20 = False
      have hm2 : matchB ys zs = true := by simpa using hg20
      obtain ⟨e1, e2⟩ := distr hm hm2
      refine Wl.q rfl rfl (OpQ.move rfl) ?_
      refine Wl.q rfl rfl (OpQ.len L_un22 rfl) ?_
      refine Wl.q rfl rfl (OpQ.gtr rfl rfl) ?_
      refine Wl.q rfl rfl (OpQ.pickF rfl rfl) ?_
      refine Wl.nil ?_
      refine PX.then_n ?_
      refine CT.cond rfl (fun h24 => ?_) (fun h24 => ?_)
      · -- if t24: then
        have h24 := of_decide_eq_true h24
        refine CT.seq ?_
        -- region 2: law.go:84
        refine CT.region ?_
        refine Wl.g rfl rfl (OpG.callV L_go19 rfl (fun w hH => awake_spec w)) ?_
        rintro _ _
        refine Wl.q rfl rfl (OpQ.assign rfl) ?_
        refine Wl.nil ?_
        refine PX.then_n ?_
        refine CT.ret ?_
        refine PX.then_r ?_
        refine PX.ret1 rfl rfl (fun w' hH => ?_)
        exact ⟨rfl, hH.ext⟩
      · -- if t24: else
        have h24 := of_decide_eq_false h24
        refine CT.skip ?_
        refine PX.then_n ?_
        refine CT.seq ?_
        -- region 3: law.go:86
        refine CT.region ?_
        refine Wl.q rfl rfl (OpQ.move rfl) ?_
        refine Wl.q rfl rfl (OpQ.move rfl) ?_
        refine Wl.q rfl rfl (OpQ.move rfl) ?_
        refine Wl.g rfl rfl (OpG.callR L_go25 rfl (fun w hH => union_spec w a2 cp2 ys (hH.rd0 hr2 rfl) a3 cp3 zs (hH.rd0 hr3 rfl) hn2 hn3)) ?_
        rintro ⟨a29, c29⟩ h29
        refine Wl.g rfl rfl (OpG.callR L_go21 rfl (fun w hH => compose_spec w a cp xs (hH.rd0 hr rfl) a29 c29 (zipR (· ||| ·) ys zs) (hH.rd (by repeat (first | exact Has.here | apply Has.there))) hn (le63 (zipR_le _ _ _)) (hH.rd0 hT rfl))) ?_
        rintro ⟨a30, c30⟩ h30
        refine Wl.q rfl rfl (OpQ.assign rfl) ?_
        refine Wl.nil ?_
        refine PX.then_n ?_
        refine CT.seq ?_
        -- region 4: law.go:87
        refine CT.region ?_
        refine Wl.q rfl rfl (OpQ.move rfl) ?_
        refine Wl.q rfl rfl (OpQ.move rfl) ?_
        refine Wl.g rfl rfl (OpG.callR L_go21 rfl (fun w hH => compose_spec w a cp xs (hH.rd0 hr rfl) a2 cp2 ys (hH.rd0 hr2 rfl) hn hn2 (hH.rd0 hT rfl))) ?_
        rintro ⟨a33, c33⟩ h33
        refine Wl.q rfl rfl (OpQ.move rfl) ?_
        refine Wl.q rfl rfl (OpQ.move rfl) ?_
        refine Wl.g rfl rfl (OpG.callR L_go21 rfl (fun w hH => compose_spec w a cp xs (hH.rd0 hr rfl) a3 cp3 zs (hH.rd0 hr3 rfl) hn hn3 (hH.rd0 hT rfl))) ?_
        rintro ⟨a36, c36⟩ h36
        refine Wl.g rfl rfl (OpG.callR L_go25 rfl (fun w hH => union_spec w a33 c33 (compR xs ys) (hH.rd (by repeat (first | exact Has.here | apply Has.there))) a36 c36 (compR xs zs) (hH.rd (by repeat (first | exact Has.here | apply Has.there))) (le63 (compR_le _ _)) (le63 (compR_le _ _)))) ?_
        rintro ⟨a37, c37⟩ h37
        refine Wl.q rfl rfl (OpQ.assign rfl) ?_
        refine Wl.nil ?_
        refine PX.then_n ?_
        refine CT.seq ?_
        -- region 5: law.go:88
        refine CT.region ?_
        refine Wl.q rfl rfl (OpQ.move rfl) ?_
        refine Wl.q rfl rfl (OpQ.move rfl) ?_
        refine Wl.g rfl rfl (OpG.callR L_go26 rfl (fun w hH => meet_spec w a cp xs (hH.rd0 hr rfl) a2 cp2 ys (hH.rd0 hr2 rfl) hn hn2)) ?_
        rintro ⟨a40, c40⟩ h40
        refine Wl.g rfl rfl (OpG.callR L_go27 rfl (fun w hH => trans_spec w a40 c40 (zipR (· &&& ·) xs ys) (hH.rd (by repeat (first | exact Has.here | apply Has.there))) (le63 (zipR_le _ _ _)) (hH.rd0 hT rfl))) ?_
        rintro ⟨a41, c41⟩ h41
        refine Wl.q rfl rfl (OpQ.assign rfl) ?_
        refine Wl.nil ?_
        refine PX.then_n ?_
        refine CT.seq ?_
        -- region 6: law.go:89
        refine CT.region ?_
        refine Wl.q rfl rfl (OpQ.move rfl) ?_
        refine Wl.q rfl rfl (OpQ.len L_un22 rfl) ?_
        refine Wl.q rfl rfl (OpQ.move rfl) ?_
        refine Wl.q rfl rfl (OpQ.len L_un22 rfl) ?_
        refine Wl.q rfl rfl (OpQ.eql rfl rfl) ?_
        refine Wl.q rfl rfl (OpQ.move rfl) ?_
        refine Wl.know 47 (v' := .bool true) rfl (congrArg Value.bool (by rw [e2]; simp)) ?_
        refine Wl.q rfl rfl (OpQ.move rfl) ?_
        refine Wl.q rfl rfl (OpQ.move rfl) ?_
        refine Wl.g rfl rfl (OpG.callV L_go23 rfl (fun w hH => same_spec w a30 c30 (compR xs (zipR (· ||| ·) ys zs)) (hH.rd (by repeat (first | exact Has.here | apply Has.there))) a37 c37 (zipR (· ||| ·) (compR xs ys) (compR xs zs)) (hH.rd (by repeat (first | exact Has.here | apply Has.there))) (le63 (compR_le _ _)) )) ?_
        rintro _ _
        refine Wl.q rfl rfl (OpQ.pickT rfl rfl) ?_
        refine Wl.q rfl rfl (OpQ.move rfl) ?_
        refine Wl.know 52 (v' := .bool true) rfl (congrArg Value.bool (by rw [e1]; simp)) ?_
        refine Wl.q rfl rfl (OpQ.move rfl) ?_
        refine Wl.q rfl rfl (OpQ.move rfl) ?_
        refine Wl.g rfl rfl (OpG.callR L_go27 rfl (fun w hH => trans_spec w a cp xs (hH.rd0 hr rfl) hn (hH.rd0 hT rfl))) ?_
        rintro ⟨a55, c55⟩ h55
        refine Wl.q rfl rfl (OpQ.move rfl) ?_
        refine Wl.g rfl rfl (OpG.callR L_go27 rfl (fun w hH => trans_spec w a2 cp2 ys (hH.rd0 hr2 rfl) hn2 (hH.rd0 hT rfl))) ?_
        rintro ⟨a57, c57⟩ h57
        refine Wl.g rfl rfl (OpG.callR L_go26 rfl (fun w hH => meet_spec w a55 c55 (transR xs) (hH.rd (by repeat (first | exact Has.here | apply Has.there))) a57 c57 (transR ys) (hH.rd (by repeat (first | exact Has.here | apply Has.there))) (le63 (transR_le _)) (le63 (transR_le _)))) ?_
        rintro ⟨a58, c58⟩ h58
        refine Wl.g rfl rfl (OpG.callV L_go23 rfl (fun w hH => same_spec w a41 c41 (transR (zipR (· &&& ·) xs ys)) (hH.rd (by repeat (first | exact Has.here | apply Has.there))) a58 c58 (zipR (· &&& ·) (transR xs) (transR ys)) (hH.rd (by repeat (first | exact Has.here | apply Has.there))) (le63 (transR_le _)) )) ?_
        rintro _ _
        refine Wl.q rfl rfl (OpQ.pickT rfl rfl) ?_
        refine Wl.q rfl rfl (OpQ.move rfl) ?_
        refine Wl.know 61 (v' := .bool true) rfl (congrArg Value.bool (by rw [transMeet hm]; simp)) ?_
        refine Wl.g rfl rfl (OpG.callV L_go19 rfl (fun w hH => awake_spec w)) ?_
        rintro _ _
        refine Wl.q rfl rfl (OpQ.pickT rfl rfl) ?_
        refine Wl.q rfl rfl (OpQ.assign rfl) ?_
        refine Wl.nil ?_
        refine PX.then_n ?_
        refine CT.ret ?_
        refine PX.ret1 rfl rfl (fun w' hH => ?_)
        exact ⟨rfl, hH.ext⟩

end Go.Proofs.YtbefnlnnnpinnaaDoor
