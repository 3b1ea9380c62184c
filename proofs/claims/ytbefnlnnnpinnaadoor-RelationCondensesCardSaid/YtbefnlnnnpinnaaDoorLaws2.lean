/-
  The walks of the laws. Conditions: those that each theorem names.
-/
import Derived.Test.YtbefnlnnnpinnaaDoorWalks2
namespace Go.Proofs.YtbefnlnnnpinnaaDoor
open Go Go.Eng Go.Rel

theorem N_go29 : isGo Tryd.prog 29 = true := by kernel_rfl
theorem N_go18 : isGo Tryd.prog 18 = true := by kernel_rfl
theorem N_un25 : Tryd.prog.underlying 25 = some (.slice 3) := by kernel_rfl
theorem N_go19 : isGo Tryd.prog 19 = true := by kernel_rfl
theorem N_go30 : isGo Tryd.prog 30 = true := by kernel_rfl
theorem N_un4 : Tryd.prog.underlying 4 = some .bool := by kernel_rfl
theorem N_go14 : isGo Tryd.prog 14 = true := by kernel_rfl
set_option maxRecDepth 100000 in
/-- semigroup/semigrouplaw02.RelationSorts -/
theorem RelationSorts_spec (w : World) (a : Option Addr) (cp : Nat) (xs : List (BitVec 64)) (hr : Rd w a (xs.map u)) (hn : xs.length ≤ 9223372036854775807) (hT : Tab w) : Calls Tryd.prog 7 #[.slice a xs.length cp] w (fun e w' => e = .returned (.bool true) ∧ Ext [] w w') := by
  refine enter (args := [.slice a xs.length cp]) [] 41 Tryd.func7 rfl rfl rfl ?_
  refine CT.seq ?_
  -- region 0: law.go:160
  refine CT.region ?_
  refine Wl.q rfl rfl (OpQ.assign rfl) ?_
  refine Wl.nil ?_
  refine PX.then_n ?_
  refine CT.seq ?_
  -- region 1: law.go:161
  refine CT.region ?_
  refine Wl.q rfl rfl (OpQ.move rfl) ?_
  refine Wl.g rfl rfl (OpG.callT N_go29 rfl (fun w hH => topo_spec w a cp xs (hH.rd0 hr rfl) hn (hH.rd0 hT rfl))) ?_
  rintro ⟨a9, c9⟩ h9
  refine Wl.q rfl rfl (OpQ.move rfl) ?_
  refine Wl.q rfl rfl (OpQ.extract rfl rfl) ?_
  refine Wl.q rfl rfl (OpQ.extract rfl rfl) ?_
  refine Wl.q rfl rfl (OpQ.assign rfl) ?_
  refine Wl.q rfl rfl (OpQ.assign rfl) ?_
  refine Wl.nil ?_
  refine PX.then_n ?_
  refine CT.seq ?_
  refine CT.seq ?_
  -- region 2: law.go:162
  refine CT.region ?_
  refine Wl.q rfl rfl (OpQ.move rfl) ?_
  refine Wl.g rfl rfl (OpG.callV N_go18 rfl (fun w hH => validR_spec w a cp xs (hH.rd0 hr rfl) hn )) ?_
  rintro _ _
  refine Wl.q rfl rfl (OpQ.not rfl) ?_
  refine Wl.nil ?_
  refine PX.then_n ?_
  refine CT.cond rfl (fun h14 => ?_) (fun h14 => ?_)
  · -- if t14: then
    have hv : validB xs = false := by simpa using h14
    refine CT.seq ?_
    -- region 3: law.go:163
    refine CT.region ?_
    refine Wl.q rfl rfl (OpQ.move rfl) ?_
    refine Wl.q rfl rfl (OpQ.len N_un25 rfl) ?_
    refine Wl.q rfl rfl (OpQ.eql rfl rfl) ?_
    refine Wl.know 17 (v' := .bool true) rfl (congrArg Value.bool (by rw [topR_no hv]; rfl)) ?_
    refine Wl.q rfl rfl (OpQ.move rfl) ?_
    refine Wl.q rfl rfl (OpQ.move rfl) ?_
    refine Wl.q rfl rfl (OpQ.not rfl) ?_
    refine Wl.know 20 (v' := .bool true) rfl (congrArg Value.bool (by rw [topR_no hv]; rfl)) ?_
    refine Wl.q rfl rfl (OpQ.pickT rfl rfl) ?_
    refine Wl.q rfl rfl (OpQ.move rfl) ?_
    refine Wl.g rfl rfl (OpG.callV N_go19 rfl (fun w hH => awake_spec w)) ?_
    rintro _ _
    refine Wl.q rfl rfl (OpQ.pickT rfl rfl) ?_
    refine Wl.q rfl rfl (OpQ.assign rfl) ?_
    refine Wl.nil ?_
    refine PX.then_n ?_
    refine CT.ret ?_
    refine PX.then_r ?_
    refine PX.ret1 rfl rfl (fun w' hH => ?_)
    exact ⟨rfl, hH.ext⟩
  · -- if t14: else
    have hv : validB xs = true := by simpa using h14
    have hl := validB_le hv
    refine CT.skip ?_
    refine PX.then_n ?_
    refine CT.seq ?_
    -- region 4: law.go:165
    refine CT.region ?_
    refine Wl.q rfl rfl (OpQ.move rfl) ?_
    refine Wl.g rfl rfl (OpG.callT N_go30 rfl (fun w hH => topoR_spec w a cp xs (hH.rd0 hr rfl) hl)) ?_
    rintro ⟨a27, c27⟩ h27
    refine Wl.q rfl rfl (OpQ.move rfl) ?_
    refine Wl.q rfl rfl (OpQ.extract rfl rfl) ?_
    refine Wl.q rfl rfl (OpQ.extract rfl rfl) ?_
    refine Wl.q rfl rfl (OpQ.assign rfl) ?_
    refine Wl.q rfl rfl (OpQ.assign rfl) ?_
    refine Wl.nil ?_
    refine PX.then_n ?_
    refine CT.seq ?_
    -- region 5: law.go:166
    refine CT.region ?_
    refine Wl.q rfl rfl (OpQ.move rfl) ?_
    refine Wl.q rfl rfl (OpQ.move rfl) ?_
    refine Wl.q rfl rfl (OpQ.eqlB N_un4 rfl rfl) ?_
    refine Wl.know 32 (v' := .bool true) rfl (congrArg Value.bool (by rw [top_same hv]; simp)) ?_
    refine Wl.q rfl rfl (OpQ.move rfl) ?_
    refine Wl.q rfl rfl (OpQ.move rfl) ?_
    refine Wl.q rfl rfl (OpQ.move rfl) ?_
    refine Wl.g rfl rfl (OpG.callV N_go14 rfl (fun w hH => sameI_spec w a9 c9 ((topR xs).getD []) (hH.rd (by repeat (first | exact Has.here | apply Has.there))) a27 c27 ((topE xs).getD []) (hH.rd (by repeat (first | exact Has.here | apply Has.there))) (le63 (top_le _)))) ?_
    rintro _ _
    refine Wl.know 36 (v' := .bool true) rfl (congrArg Value.bool (by rw [top_same hv]; simp)) ?_
    refine Wl.q rfl rfl (OpQ.pickT rfl rfl) ?_
    refine Wl.q rfl rfl (OpQ.move rfl) ?_
    refine Wl.g rfl rfl (OpG.callV N_go19 rfl (fun w hH => awake_spec w)) ?_
    rintro _ _
    refine Wl.q rfl rfl (OpQ.pickT rfl rfl) ?_
    refine Wl.q rfl rfl (OpQ.assign rfl) ?_
    refine Wl.nil ?_
    refine PX.then_n ?_
    refine CT.ret ?_
    refine PX.ret1 rfl rfl (fun w' hH => ?_)
    exact ⟨rfl, hH.ext⟩

theorem N_go33 : isGo Tryd.prog 33 = true := by kernel_rfl
theorem N_go34 : isGo Tryd.prog 34 = true := by kernel_rfl
theorem N_un22 : Tryd.prog.underlying 22 = some (.slice 23) := by kernel_rfl
theorem N_go35 : isGo Tryd.prog 35 = true := by kernel_rfl
theorem N_go36 : isGo Tryd.prog 36 = true := by kernel_rfl
theorem N_go23 : isGo Tryd.prog 23 = true := by kernel_rfl
set_option maxRecDepth 100000 in
/-- semigroup/semigrouplaw02.RelationComponents -/
theorem RelationComponents_spec (w : World) (a : Option Addr) (cp : Nat) (xs : List (BitVec 64)) (hr : Rd w a (xs.map u)) (hn : xs.length ≤ 9223372036854775807) (hT : Tab w) : Calls Tryd.prog 11 #[.slice a xs.length cp] w (fun e w' => e = .returned (.bool true) ∧ Ext [] w w') := by
  refine enter (args := [.slice a xs.length cp]) [] 36 Tryd.func11 rfl rfl rfl ?_
  refine CT.seq ?_
  -- region 0: law.go:138
  refine CT.region ?_
  refine Wl.q rfl rfl (OpQ.assign rfl) ?_
  refine Wl.nil ?_
  refine PX.then_n ?_
  refine CT.seq ?_
  -- region 1: law.go:139
  refine CT.region ?_
  refine Wl.q rfl rfl (OpQ.move rfl) ?_
  refine Wl.g rfl rfl (OpG.callR N_go33 rfl (fun w hH => comp_spec w a cp xs (hH.rd0 hr rfl) hn (hH.rd0 hT rfl))) ?_
  rintro ⟨a6, c6⟩ h6
  refine Wl.q rfl rfl (OpQ.move rfl) ?_
  refine Wl.g rfl rfl (OpG.callR N_go34 rfl (fun w hH => order_spec w a cp xs (hH.rd0 hr rfl) hn (hH.rd0 hT rfl))) ?_
  rintro ⟨a8, c8⟩ h8
  refine Wl.q rfl rfl (OpQ.assign rfl) ?_
  refine Wl.q rfl rfl (OpQ.assign rfl) ?_
  refine Wl.nil ?_
  refine PX.then_n ?_
  refine CT.seq ?_
  refine CT.seq ?_
  -- region 2: law.go:140
  refine CT.region ?_
  refine Wl.q rfl rfl (OpQ.move rfl) ?_
  refine Wl.g rfl rfl (OpG.callV N_go18 rfl (fun w hH => validR_spec w a cp xs (hH.rd0 hr rfl) hn )) ?_
  rintro _ _
  refine Wl.q rfl rfl (OpQ.not rfl) ?_
  refine Wl.nil ?_
  refine PX.then_n ?_
  refine CT.cond rfl (fun h11 => ?_) (fun h11 => ?_)
  · -- if t11: then
    have hv : validB xs = false := by simpa using h11
    refine CT.seq ?_
    -- region 3: law.go:141
    refine CT.region ?_
    refine Wl.q rfl rfl (OpQ.move rfl) ?_
    refine Wl.q rfl rfl (OpQ.len N_un25 rfl) ?_
    refine Wl.q rfl rfl (OpQ.eql rfl rfl) ?_
    refine Wl.know 14 (v' := .bool true) rfl (congrArg Value.bool (by rw [comp_no hv]; rfl)) ?_
    refine Wl.q rfl rfl (OpQ.move rfl) ?_
    refine Wl.q rfl rfl (OpQ.move rfl) ?_
    refine Wl.q rfl rfl (OpQ.len N_un22 rfl) ?_
    refine Wl.q rfl rfl (OpQ.eql rfl rfl) ?_
    refine Wl.know 18 (v' := .bool true) rfl (congrArg Value.bool (by rw [ord_no hv]; rfl)) ?_
    refine Wl.q rfl rfl (OpQ.pickT rfl rfl) ?_
    refine Wl.q rfl rfl (OpQ.move rfl) ?_
    refine Wl.g rfl rfl (OpG.callV N_go19 rfl (fun w hH => awake_spec w)) ?_
    rintro _ _
    refine Wl.q rfl rfl (OpQ.pickT rfl rfl) ?_
    refine Wl.q rfl rfl (OpQ.assign rfl) ?_
    refine Wl.nil ?_
    refine PX.then_n ?_
    refine CT.ret ?_
    refine PX.then_r ?_
    refine PX.ret1 rfl rfl (fun w' hH => ?_)
    exact ⟨rfl, hH.ext⟩
  · -- if t11: else
    have hv : validB xs = true := by simpa using h11
    have hl := validB_le hv
    refine CT.skip ?_
    refine PX.then_n ?_
    refine CT.seq ?_
    -- region 4: law.go:143
    refine CT.region ?_
    refine Wl.q rfl rfl (OpQ.move rfl) ?_
    refine Wl.q rfl rfl (OpQ.move rfl) ?_
    refine Wl.g rfl rfl (OpG.callR N_go35 rfl (fun w hH => compR_spec w a cp xs (hH.rd0 hr rfl) hl hv)) ?_
    rintro ⟨a25, c25⟩ h25
    refine Wl.g rfl rfl (OpG.callV N_go14 rfl (fun w hH => sameI_spec w a6 c6 (compN xs) (hH.rd (by repeat (first | exact Has.here | apply Has.there))) a25 c25 (compN xs) (hH.rd (by repeat (first | exact Has.here | apply Has.there))) (le63 (comp_le _)))) ?_
    rintro _ _
    refine Wl.know 26 (v' := .bool true) rfl (congrArg Value.bool (by simp)) ?_
    refine Wl.q rfl rfl (OpQ.move rfl) ?_
    refine Wl.q rfl rfl (OpQ.move rfl) ?_
    refine Wl.q rfl rfl (OpQ.move rfl) ?_
    refine Wl.g rfl rfl (OpG.callR N_go36 rfl (fun w hH => orderR_spec w a cp xs (hH.rd0 hr rfl) hl hv)) ?_
    rintro ⟨a30, c30⟩ h30
    refine Wl.g rfl rfl (OpG.callV N_go23 rfl (fun w hH => same_spec w a8 c8 (ordR xs) (hH.rd (by repeat (first | exact Has.here | apply Has.there))) a30 c30 (ordR xs) (hH.rd (by repeat (first | exact Has.here | apply Has.there))) (le63 (ordR_le _)) )) ?_
    rintro _ _
    refine Wl.know 31 (v' := .bool true) rfl (congrArg Value.bool (by simp)) ?_
    refine Wl.q rfl rfl (OpQ.pickT rfl rfl) ?_
    refine Wl.q rfl rfl (OpQ.move rfl) ?_
    refine Wl.g rfl rfl (OpG.callV N_go19 rfl (fun w hH => awake_spec w)) ?_
    rintro _ _
    refine Wl.q rfl rfl (OpQ.pickT rfl rfl) ?_
    refine Wl.q rfl rfl (OpQ.assign rfl) ?_
    refine Wl.nil ?_
    refine PX.then_n ?_
    refine CT.ret ?_
    refine PX.ret1 rfl rfl (fun w' hH => ?_)
    exact ⟨rfl, hH.ext⟩

theorem N_go37 : isGo Tryd.prog 37 = true := by kernel_rfl
theorem N_go31 : isGo Tryd.prog 31 = true := by kernel_rfl
theorem N_go27 : isGo Tryd.prog 27 = true := by kernel_rfl
theorem N_go26 : isGo Tryd.prog 26 = true := by kernel_rfl
theorem N_go32 : isGo Tryd.prog 32 = true := by kernel_rfl
set_option maxRecDepth 100000 in
/-- semigroup/semigrouplaw02.RelationCondenses -/
theorem RelationCondenses_spec (w : World) (a : Option Addr) (cp : Nat) (xs : List (BitVec 64)) (hr : Rd w a (xs.map u)) (hn : xs.length ≤ 9223372036854775807) (hT : Tab w) : Calls Tryd.prog 12 #[.slice a xs.length cp] w (fun e w' => e = .returned (.bool true) ∧ Ext [] w w') := by
  refine enter (args := [.slice a xs.length cp]) [] 57 Tryd.func12 rfl rfl rfl ?_
  refine CT.seq ?_
  -- region 0: law.go:147
  refine CT.region ?_
  refine Wl.q rfl rfl (OpQ.assign rfl) ?_
  refine Wl.nil ?_
  refine PX.then_n ?_
  refine CT.seq ?_
  refine CT.seq ?_
  -- region 1: law.go:148
  refine CT.region ?_
  refine Wl.q rfl rfl (OpQ.move rfl) ?_
  refine Wl.g rfl rfl (OpG.callV N_go18 rfl (fun w hH => validR_spec w a cp xs (hH.rd0 hr rfl) hn )) ?_
  rintro _ _
  refine Wl.q rfl rfl (OpQ.not rfl) ?_
  refine Wl.nil ?_
  refine PX.then_n ?_
  refine CT.cond rfl (fun h7 => ?_) (fun h7 => ?_)
  · -- if t7: then
    have hv : validB xs = false := by simpa using h7
    refine CT.seq ?_
    -- region 2: law.go:149
    refine CT.region ?_
    refine Wl.g rfl rfl (OpG.callV N_go19 rfl (fun w hH => awake_spec w)) ?_
    rintro _ _
    refine Wl.q rfl rfl (OpQ.assign rfl) ?_
    refine Wl.nil ?_
    refine PX.then_n ?_
    refine CT.ret ?_
    refine PX.then_r ?_
    refine PX.ret1 rfl rfl (fun w' hH => ?_)
    exact ⟨rfl, hH.ext⟩
  · -- if t7: else
    have hv : validB xs = true := by simpa using h7
    have hl := validB_le hv
    refine CT.skip ?_
    refine PX.then_n ?_
    refine CT.seq ?_
    -- region 3: law.go:151
    refine CT.region ?_
    refine Wl.q rfl rfl (OpQ.move rfl) ?_
    refine Wl.g rfl rfl (OpG.callR N_go34 rfl (fun w hH => order_spec w a cp xs (hH.rd0 hr rfl) hn (hH.rd0 hT rfl))) ?_
    rintro ⟨a10, c10⟩ h10
    refine Wl.q rfl rfl (OpQ.assign rfl) ?_
    refine Wl.nil ?_
    refine PX.then_n ?_
    refine CT.seq ?_
    refine CT.seq ?_
    -- region 4: law.go:152
    refine CT.region ?_
    refine Wl.q rfl rfl (OpQ.move rfl) ?_
    refine Wl.g rfl rfl (OpG.callV N_go37 rfl (fun w hH => valid_spec w a10 c10 (ordR xs) (hH.rd (by repeat (first | exact Has.here | apply Has.there))) (le63 (ordR_le _)) )) ?_
    rintro _ _
    refine Wl.q rfl rfl (OpQ.not rfl) ?_
    refine Wl.know 13 (v' := .bool false) rfl (congrArg Value.bool (by rw [ord_valid hv]; rfl)) ?_
    refine Wl.q rfl rfl (OpQ.move rfl) ?_
    refine Wl.q rfl rfl (OpQ.move rfl) ?_
    refine Wl.g rfl rfl (OpG.callR N_go31 rfl (fun w hH => closure_spec w a10 c10 (ordR xs) (hH.rd (by repeat (first | exact Has.here | apply Has.there))) (le63 (ordR_le _)) )) ?_
    rintro ⟨a16, c16⟩ h16
    refine Wl.q rfl rfl (OpQ.move rfl) ?_
    refine Wl.g rfl rfl (OpG.callV N_go23 rfl (fun w hH => same_spec w a16 c16 (closR (ordR xs)) (hH.rd (by repeat (first | exact Has.here | apply Has.there))) a10 c10 (ordR xs) (hH.rd (by repeat (first | exact Has.here | apply Has.there))) (le63 (closR_le _)) )) ?_
    rintro _ _
    refine Wl.q rfl rfl (OpQ.not rfl) ?_
    refine Wl.know 19 (v' := .bool false) rfl (congrArg Value.bool (by rw [cond1 hv]; simp)) ?_
    refine Wl.q rfl rfl (OpQ.pickF rfl rfl) ?_
    refine Wl.q rfl rfl (OpQ.move rfl) ?_
    refine Wl.q rfl rfl (OpQ.move rfl) ?_
    refine Wl.q rfl rfl (OpQ.move rfl) ?_
    refine Wl.g rfl rfl (OpG.callR N_go27 rfl (fun w hH => trans_spec w a10 c10 (ordR xs) (hH.rd (by repeat (first | exact Has.here | apply Has.there))) (le63 (ordR_le _)) (hH.rd0 hT rfl))) ?_
    rintro ⟨a24, c24⟩ h24
    refine Wl.g rfl rfl (OpG.callR N_go26 rfl (fun w hH => meet_spec w a10 c10 (ordR xs) (hH.rd (by repeat (first | exact Has.here | apply Has.there))) a24 c24 (transR (ordR xs)) (hH.rd (by repeat (first | exact Has.here | apply Has.there))) (le63 (ordR_le _)) (le63 (transR_le _)))) ?_
    rintro ⟨a25, c25⟩ h25
    refine Wl.q rfl rfl (OpQ.move rfl) ?_
    refine Wl.q rfl rfl (OpQ.len N_un22 rfl) ?_
    refine Wl.g rfl rfl (OpG.callR N_go32 rfl (fun w hH => ident_spec w ((ordR xs).length : Int))) ?_
    rintro ⟨a28, c28⟩ h28
    refine Wl.g rfl rfl (OpG.callV N_go23 rfl (fun w hH => same_spec w a25 c25 (zipR (· &&& ·) (ordR xs) (transR (ordR xs))) (hH.rd (by repeat (first | exact Has.here | apply Has.there))) a28 c28 (idR ((ordR xs).length : Int)) (hH.rd (by repeat (first | exact Has.here | apply Has.there))) (le63 (zipR_le _ _ _)) )) ?_
    rintro _ _
    refine Wl.q rfl rfl (OpQ.not rfl) ?_
    refine Wl.know 30 (v' := .bool false) rfl (congrArg Value.bool (by rw [cond2 hv]; simp)) ?_
    refine Wl.q rfl rfl (OpQ.pickF rfl rfl) ?_
    refine Wl.nil ?_
    refine PX.then_n ?_
    refine CT.condF rfl ?_
    refine CT.skip ?_
    refine PX.then_n ?_
    refine CT.seq ?_
    -- region 6: law.go:155
    refine CT.region ?_
    refine Wl.q rfl rfl (OpQ.move rfl) ?_
    refine Wl.g rfl rfl (OpG.callR N_go33 rfl (fun w hH => comp_spec w a cp xs (hH.rd0 hr rfl) hn (hH.rd0 hT rfl))) ?_
    rintro ⟨a33, c33⟩ h33
    refine Wl.q rfl rfl (OpQ.assign rfl) ?_
    refine Wl.nil ?_
    refine PX.then_n ?_
    refine CT.seq ?_
    -- region 7: law.go:156
    refine CT.region ?_
    refine Wl.q rfl rfl (OpQ.move rfl) ?_
    refine Wl.q rfl rfl (OpQ.len N_un25 rfl) ?_
    refine Wl.q rfl rfl (OpQ.move rfl) ?_
    refine Wl.q rfl rfl (OpQ.len N_un22 rfl) ?_
    refine Wl.q rfl rfl (OpQ.eql rfl rfl) ?_
    refine Wl.know 38 (v' := .bool true) rfl (congrArg Value.bool (by rw [comp_len hv]; simp)) ?_
    refine Wl.q rfl rfl (OpQ.move rfl) ?_
    refine Wl.q rfl rfl (OpQ.move rfl) ?_
    refine Wl.q rfl rfl (OpQ.move rfl) ?_
    refine Wl.g rfl rfl (OpG.callR N_go27 rfl (fun w hH => trans_spec w a cp xs (hH.rd0 hr rfl) hn (hH.rd0 hT rfl))) ?_
    rintro ⟨a42, c42⟩ h42
    refine Wl.g rfl rfl (OpG.callR N_go33 rfl (fun w hH => comp_spec w a42 c42 (transR xs) (hH.rd (by repeat (first | exact Has.here | apply Has.there))) (le63 (transR_le _)) (hH.rd0 hT rfl))) ?_
    rintro ⟨a43, c43⟩ h43
    refine Wl.g rfl rfl (OpG.callV N_go14 rfl (fun w hH => sameI_spec w a33 c33 (compN xs) (hH.rd (by repeat (first | exact Has.here | apply Has.there))) a43 c43 (compN (transR xs)) (hH.rd (by repeat (first | exact Has.here | apply Has.there))) (le63 (comp_le _)))) ?_
    rintro _ _
    refine Wl.know 44 (v' := .bool true) rfl (congrArg Value.bool (by rw [cond3 hv]; simp)) ?_
    refine Wl.q rfl rfl (OpQ.pickT rfl rfl) ?_
    refine Wl.q rfl rfl (OpQ.move rfl) ?_
    refine Wl.q rfl rfl (OpQ.move rfl) ?_
    refine Wl.g rfl rfl (OpG.callR N_go27 rfl (fun w hH => trans_spec w a cp xs (hH.rd0 hr rfl) hn (hH.rd0 hT rfl))) ?_
    rintro ⟨a48, c48⟩ h48
    refine Wl.g rfl rfl (OpG.callR N_go34 rfl (fun w hH => order_spec w a48 c48 (transR xs) (hH.rd (by repeat (first | exact Has.here | apply Has.there))) (le63 (transR_le _)) (hH.rd0 hT rfl))) ?_
    rintro ⟨a49, c49⟩ h49
    refine Wl.q rfl rfl (OpQ.move rfl) ?_
    refine Wl.g rfl rfl (OpG.callR N_go27 rfl (fun w hH => trans_spec w a10 c10 (ordR xs) (hH.rd (by repeat (first | exact Has.here | apply Has.there))) (le63 (ordR_le _)) (hH.rd0 hT rfl))) ?_
    rintro ⟨a51, c51⟩ h51
    refine Wl.g rfl rfl (OpG.callV N_go23 rfl (fun w hH => same_spec w a49 c49 (ordR (transR xs)) (hH.rd (by repeat (first | exact Has.here | apply Has.there))) a51 c51 (transR (ordR xs)) (hH.rd (by repeat (first | exact Has.here | apply Has.there))) (le63 (ordR_le _)) )) ?_
    rintro _ _
    refine Wl.know 52 (v' := .bool true) rfl (congrArg Value.bool (by rw [cond4 hv]; simp)) ?_
    refine Wl.q rfl rfl (OpQ.pickT rfl rfl) ?_
    refine Wl.q rfl rfl (OpQ.move rfl) ?_
    refine Wl.g rfl rfl (OpG.callV N_go19 rfl (fun w hH => awake_spec w)) ?_
    rintro _ _
    refine Wl.q rfl rfl (OpQ.pickT rfl rfl) ?_
    refine Wl.q rfl rfl (OpQ.assign rfl) ?_
    refine Wl.nil ?_
    refine PX.then_n ?_
    refine CT.ret ?_
    refine PX.ret1 rfl rfl (fun w' hH => ?_)
    exact ⟨rfl, hH.ext⟩

set_option maxRecDepth 100000 in
/-- semigroup/semigrouplaw02.RelationAcyclic -/
theorem RelationAcyclic_spec (w : World) (a : Option Addr) (cp : Nat) (xs : List (BitVec 64)) (hr : Rd w a (xs.map u)) (hn : xs.length ≤ 9223372036854775807) (hT : Tab w) : Calls Tryd.prog 13 #[.slice a xs.length cp] w (fun e w' => e = .returned (.bool true) ∧ Ext [] w w') := by
  refine enter (args := [.slice a xs.length cp]) [] 25 Tryd.func13 rfl rfl rfl ?_
  refine CT.seq ?_
  -- region 0: law.go:170
  refine CT.region ?_
  refine Wl.q rfl rfl (OpQ.assign rfl) ?_
  refine Wl.nil ?_
  refine PX.then_n ?_
  refine CT.seq ?_
  refine CT.seq ?_
  -- region 1: law.go:171
  refine CT.region ?_
  refine Wl.q rfl rfl (OpQ.move rfl) ?_
  refine Wl.g rfl rfl (OpG.callV N_go18 rfl (fun w hH => validR_spec w a cp xs (hH.rd0 hr rfl) hn )) ?_
  rintro _ _
  refine Wl.q rfl rfl (OpQ.not rfl) ?_
  refine Wl.nil ?_
  refine PX.then_n ?_
  refine CT.cond rfl (fun h7 => ?_) (fun h7 => ?_)
  · -- if t7: then
    have hv : validB xs = false := by simpa using h7
    refine CT.seq ?_
    -- region 2: law.go:172
    refine CT.region ?_
    refine Wl.g rfl rfl (OpG.callV N_go19 rfl (fun w hH => awake_spec w)) ?_
    rintro _ _
    refine Wl.q rfl rfl (OpQ.assign rfl) ?_
    refine Wl.nil ?_
    refine PX.then_n ?_
    refine CT.ret ?_
    refine PX.then_r ?_
    refine PX.ret1 rfl rfl (fun w' hH => ?_)
    exact ⟨rfl, hH.ext⟩
  · -- if t7: else
    have hv : validB xs = true := by simpa using h7
    have hl := validB_le hv
    refine CT.skip ?_
    refine PX.then_n ?_
    refine CT.seq ?_
    -- region 3: law.go:174
    refine CT.region ?_
    refine Wl.q rfl rfl (OpQ.move rfl) ?_
    refine Wl.g rfl rfl (OpG.callT N_go29 rfl (fun w hH => topo_spec w a cp xs (hH.rd0 hr rfl) hn (hH.rd0 hT rfl))) ?_
    rintro ⟨a11, c11⟩ h11
    refine Wl.q rfl rfl (OpQ.move rfl) ?_
    refine Wl.q rfl rfl (OpQ.extract rfl rfl) ?_
    refine Wl.q rfl rfl (OpQ.extract rfl rfl) ?_
    refine Wl.q rfl rfl (OpQ.assign rfl) ?_
    refine Wl.q rfl rfl (OpQ.assign rfl) ?_
    refine Wl.nil ?_
    refine PX.then_n ?_
    refine CT.seq ?_
    -- region 4: law.go:175
    refine CT.region ?_
    refine Wl.q rfl rfl (OpQ.move rfl) ?_
    refine Wl.q rfl rfl (OpQ.move rfl) ?_
    refine Wl.g rfl rfl (OpG.callR N_go34 rfl (fun w hH => order_spec w a cp xs (hH.rd0 hr rfl) hn (hH.rd0 hT rfl))) ?_
    rintro ⟨a16, c16⟩ h16
    refine Wl.q rfl rfl (OpQ.len N_un22 rfl) ?_
    refine Wl.q rfl rfl (OpQ.move rfl) ?_
    refine Wl.q rfl rfl (OpQ.len N_un22 rfl) ?_
    refine Wl.q rfl rfl (OpQ.eql rfl rfl) ?_
    refine Wl.q rfl rfl (OpQ.eqlB N_un4 rfl rfl) ?_
    refine Wl.know 21 (v' := .bool true) rfl (congrArg Value.bool (by rw [acyc hv]; simp; omega)) ?_
    refine Wl.q rfl rfl (OpQ.move rfl) ?_
    refine Wl.g rfl rfl (OpG.callV N_go19 rfl (fun w hH => awake_spec w)) ?_
    rintro _ _
    refine Wl.q rfl rfl (OpQ.pickT rfl rfl) ?_
    refine Wl.q rfl rfl (OpQ.assign rfl) ?_
    refine Wl.nil ?_
    refine PX.then_n ?_
    refine CT.ret ?_
    refine PX.ret1 rfl rfl (fun w' hH => ?_)
    exact ⟨rfl, hH.ext⟩

end Go.Proofs.YtbefnlnnnpinnaaDoor
