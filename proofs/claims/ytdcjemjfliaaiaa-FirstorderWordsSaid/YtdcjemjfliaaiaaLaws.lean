/-
  What functions of the packages firstorder, semigroupref38 and semigroupmade compute, each by its walk. Conditions: those that each theorem names.
-/
import Derived.Test.YtdcjemjfliaaiaaMod
import Derived.Test.YtdcjemjfliaaiaaWalks7
set_option linter.unusedSimpArgs false
namespace Go.Proofs.Ytdcjemjfliaaiaa
open Go Go.Eng Go.Fo
open Go.Tp (zi)
open Go.Tl (vf mayL Wd okW okB ret_b ret_i bo)

theorem M_un26 : Try.prog.underlying 26 = some (.slice 29) := by kernel_rfl
theorem M_in29 : (Try.prog.info? 29).map (fun i => (i.zero, i.size, i.bytes)) = some (some (.agg #[.int .i64 0, .int .i64 0, .int .i64 0, .int .i64 0, .int .i64 0, .int .i64 0]), 6, 48) := by kernel_rfl
theorem M_go19 : isGo Try.prog 19 = true := by kernel_rfl
theorem M_go43 : isGo Try.prog 43 = true := by kernel_rfl
theorem M_un9 : Try.prog.underlying 9 = some .string := by kernel_rfl
theorem M_go44 : isGo Try.prog 44 = true := by kernel_rfl
theorem M_un96 : Try.prog.underlying 96 = some (.slice 95) := by kernel_rfl
theorem M_sz95 : sizeB Try.prog 95 = some 1 := by kernel_rfl
theorem M_sc95 : scalarB Try.prog 95 = some true := by kernel_rfl
theorem M_un95 : Try.prog.underlying 95 = some (.slice 4) := by kernel_rfl
theorem M_sz4 : sizeB Try.prog 4 = some 1 := by kernel_rfl
theorem M_sc4 : scalarB Try.prog 4 = some true := by kernel_rfl
set_option maxRecDepth 100000 in
/-- semigroup/semigroupref38.Holds -/
theorem holdsR_spec (w : World) (a : Option Addr) (cp : Nat) (xs : List Fm) (hr : Rd w a (xs.flatMap fv)) (hn : xs.length ≤ 9223372036854775807) (root : Int) (ws : Wd) (hw : ws.length ≤ 9223372036854775807) : Calls Try.prog 23 #[.slice a xs.length cp, .int .i64 (root), sv ws] w (fun e w' => e = .returned (.bool (holdsB xs root ws)) ∧ Ext [] w w') := by
  refine enter (args := [.slice a xs.length cp, .int .i64 (root), sv ws]) [] 36 Try.func23 rfl rfl rfl ?_
  refine CT.seq ?_
  -- region 0: ref.go:98
  refine CT.region ?_
  refine Wl.q rfl rfl (OpQ.assign rfl) ?_
  refine Wl.nil ?_
  refine PX.then_n ?_
  refine CT.seq ?_
  refine CT.weak (E' := [(0, _), (1, _), (2, _)]) (by repeat (first | exact trivial | refine ⟨rfl, ?_⟩)) (HSub.refl _) ?_
  refine CT.cutB 20 (!(decide (vdF xs root 6 = 0) && (okW ws 6 && decide (ws.length ≤ 40)))) (fun K0 hK0 => ?_) ?_
  · -- up to the join
    -- region 1: ref.go:99
    refine CT.region ?_
    refine Wl.q rfl rfl (OpQ.move rfl) ?_
    refine Wl.q rfl rfl (OpQ.move rfl) ?_
    refine Wl.g rfl rfl (OpG.callV M_go19 rfl (fun w hH => validateR_spec w a cp xs (hH.rd0 hr rfl) hn root 6)) ?_
    rintro _ _
    refine Wl.q rfl rfl (OpQ.neq rfl rfl) ?_
    refine Wl.q rfl rfl (OpQ.move rfl) ?_
    refine Wl.split 11 rfl (fun hg11 => ?_) (fun hg11 => ?_)
    · -- t11 = True
      refine Wl.skip rfl rfl ?_
      refine Wl.skip rfl rfl ?_
      refine Wl.skip rfl rfl ?_
      refine Wl.q rfl rfl (OpQ.pickT rfl rfl) ?_
      refine Wl.q rfl rfl (OpQ.move rfl) ?_
      refine Wl.skip rfl rfl ?_
      refine Wl.skip rfl rfl ?_
      refine Wl.skip rfl rfl ?_
      refine Wl.q rfl rfl (OpQ.pickT rfl rfl) ?_
      refine Wl.nil ?_
      exact PX.cutB hK0 ⟨lkV rfl (congrArg Value.bool (by first | exact gate3 hg11 hg16 | exact gate2 hg11 hg16 | exact gate1 hg11)), (by repeat (first | exact trivial | refine ⟨rfl, ?_⟩))⟩ (HSub.refl _)
    · -- t11 = False
      refine Wl.q rfl rfl (OpQ.move rfl) ?_
      refine Wl.g rfl rfl (OpG.callV M_go43 rfl (fun w hH => wvalidR_spec w ws hw 6)) ?_
      rintro _ _
      refine Wl.q rfl rfl (OpQ.not rfl) ?_
      refine Wl.q rfl rfl (OpQ.pickF rfl rfl) ?_
      refine Wl.q rfl rfl (OpQ.move rfl) ?_
      refine Wl.split 16 rfl (fun hg16 => ?_) (fun hg16 => ?_)
      · -- t16 = True
        refine Wl.skip rfl rfl ?_
        refine Wl.skip rfl rfl ?_
        refine Wl.skip rfl rfl ?_
        refine Wl.q rfl rfl (OpQ.pickT rfl rfl) ?_
        refine Wl.nil ?_
        exact PX.cutB hK0 ⟨lkV rfl (congrArg Value.bool (by first | exact gate3 hg11 hg16 | exact gate2 hg11 hg16 | exact gate1 hg11)), (by repeat (first | exact trivial | refine ⟨rfl, ?_⟩))⟩ (HSub.refl _)
      · -- t16 = False
        refine Wl.q rfl rfl (OpQ.move rfl) ?_
        refine Wl.q rfl rfl (OpQ.lenSv M_un9 rfl) ?_
        refine Wl.q rfl rfl (OpQ.gtr rfl rfl) ?_
        refine Wl.q rfl rfl (OpQ.pickF rfl rfl) ?_
        refine Wl.nil ?_
        exact PX.cutB hK0 ⟨lkV rfl (congrArg Value.bool (by first | exact gate3 hg11 hg16 | exact gate2 hg11 hg16 | exact gate1 hg11)), (by repeat (first | exact trivial | refine ⟨rfl, ?_⟩))⟩ (HSub.refl _)
  · -- from the join on
    refine CT.cond rfl (fun h20 => ?_) (fun h20 => ?_)
    · -- if t20: then
      refine CT.seq ?_
      -- region 2: ref.go:100
      refine CT.region ?_
      refine Wl.q rfl rfl (OpQ.assign rfl) ?_
      refine Wl.nil ?_
      refine PX.then_n ?_
      refine CT.ret ?_
      refine PX.then_r ?_
      refine PX.ret1 rfl rfl (fun w' hH => ?_)
      exact ⟨ret_b (gate_no h20), hH.ext⟩
    · -- if t20: else
      have hv := gate_yes h20
      obtain ⟨hv, hwk, hwl⟩ := hv
      obtain ⟨hl, hok, hr0, hr1⟩ := vd_zero hv
      obtain ⟨rt, rfl⟩ := Int.eq_ofNat_of_zero_le hr0
      have hrt : rt < xs.length := by omega
      obtain ⟨M, hM⟩ : ∃ M, M = ws.length * (ws.length + 1) := ⟨_, rfl⟩
      have hm2 : M ≤ 41 * 41 := by rw [hM]; exact Nat.mul_le_mul (by omega) (by omega)
      have hmz : (ws.length : Int) * ((ws.length : Int) + 1) = (M : Int) := by rw [hM]; push_cast; rfl
      have hel := e3_lt (m := (ws.length + 1)) (v := (0, ws.length, 0)) (by omega) (by simp) (by simp)
      have hee : e3 (ws.length + 1) (0, ws.length, 0) = M := by simp [e3, hM]
      refine CT.skip ?_
      refine PX.then_n ?_
      refine CT.seq ?_
      -- region 3: ref.go:102
      refine CT.region ?_
      refine Wl.q rfl rfl (OpQ.move rfl) ?_
      refine Wl.q rfl rfl (OpQ.move rfl) ?_
      refine Wl.q rfl rfl (OpQ.move rfl) ?_
      refine Wl.g rfl rfl (OpG.callX M_go44 rfl .nil (fun _ => (.cons (.cons .nil))) (fun w hH hp => values_spec w a cp xs (hH.rd0 hr rfl) hl rt hrt hok ws hwl hwk)) ?_
      rintro ⟨os, bs, oa, oc⟩ h24
      dsimp only at h24
      obtain ⟨hoa, hol, ho1, ho2⟩ := h24
      have ho3 := congrArg List.length ho2
      rw [valT_len] at ho3
      refine Wl.know 24 (v' := .slice oa (rt + 1) oc) rfl rfl ?_
      refine Wl.q rfl rfl (OpQ.move rfl) ?_
      refine Wl.q rfl rfl (OpQ.index1 M_un96 M_sz95 rfl rfl (by omega) hoa) ?_
      refine Wl.q rfl rfl (OpQ.loadRow M_sc95 rfl (.there .here) (getMap obv os ob0 (j := rt) (by omega))) ?_
      refine Wl.q rfl rfl (OpQ.move rfl) ?_
      refine Wl.q rfl rfl (OpQ.lenSv M_un9 rfl) ?_
      refine Wl.q rfl rfl (OpQ.move rfl) ?_
      refine Wl.q rfl rfl (OpQ.lenSv M_un9 rfl) ?_
      refine Wl.q rfl rfl (OpQ.add rfl rfl (by omega)) ?_
      refine Wl.q rfl rfl (OpQ.mul rfl rfl (by rw [hmz]; omega)) ?_
      refine Wl.know 33 (v' := .int .i64 ((e3 (ws.length + 1) (0, ws.length, 0) : Nat) : Int)) rfl (congrArg (Value.int .i64) (by rw [hee, hmz])) ?_
      refine Wl.q rfl rfl (OpQ.index1 M_un95 M_sz4 rfl rfl ⟨by omega, by rw [ho3]; exact Int.ofNat_lt.2 hel⟩ ho1) ?_
      refine Wl.q rfl rfl (OpQ.loadG M_sc4 rfl (fun w hH => hH.fragp (p := obs os) .here _ (getD_mem (by omega))) (getMap bo (os.getD rt ob0).vs false (j := e3 (ws.length + 1) (0, ws.length, 0)) (by rw [ho3]; exact hel))) ?_
      refine Wl.know 35 (v' := .bool (sat xs ws rt (0, ws.length, 0))) rfl (congrArg Value.bool (by rw [ho2]; exact valT_all (by omega) (by simp) (by simp))) ?_
      refine Wl.q rfl rfl (OpQ.assign rfl) ?_
      refine Wl.nil ?_
      refine PX.then_n ?_
      refine CT.ret ?_
      refine PX.ret1 rfl rfl (fun w' hH => ?_)
      exact ⟨ret_b (by rw [holdsB, hv, hwk]; simp [hwl]), hH.ext⟩

theorem M_pl29 : placesB Try.prog 29 = some (#[.int .i64 0, .int .i64 0, .int .i64 0, .int .i64 0, .int .i64 0, .int .i64 0], [(0, 1), (1, 1), (2, 1), (3, 1), (4, 1), (5, 1)]) := by kernel_rfl
theorem M_go29 : isGo Try.prog 29 = true := by kernel_rfl
theorem M_go13 : isGo Try.prog 13 = true := by kernel_rfl
set_option maxRecDepth 100000 in
/-- semigroup/semigrouplaw38.known -/
theorem known_spec (w : World)  : Calls Try.prog 14 #[] w (fun e w' => e = .returned (.bool true) ∧ Ext [] w w') := by
  refine enter (args := []) [] 26 Try.func14 rfl rfl rfl ?_
  refine CT.seq ?_
  -- region 0: law.go:14
  refine CT.region ?_
  refine Wl.q rfl rfl (OpQ.assign rfl) ?_
  refine Wl.nil ?_
  refine PX.then_n ?_
  refine CT.seq ?_
  -- region 1: law.go:15
  refine CT.region ?_
  refine Wl.q rfl rfl (OpQ.build (cells := #[.int .i64 2, .int .i64 0, .int .i64 1, .int .i64 0, .int .i64 0, .int .i64 0]) M_pl29 rfl rfl) ?_
  refine Wl.g rfl rfl (OpG.litS (vs := kl.flatMap fv) M_un26 M_in29 rfl (by decide) (by kernel_rfl) rfl) ?_
  rintro b3 _
  refine Wl.q rfl rfl (OpQ.assign rfl) ?_
  refine Wl.nil ?_
  refine PX.then_n ?_
  refine CT.seq ?_
  -- region 2: law.go:16
  refine CT.region ?_
  refine Wl.q rfl rfl (OpQ.move rfl) ?_
  refine Wl.g rfl rfl (OpG.callV M_go29 rfl (fun w hH => validate_spec w (some ⟨b3, 0, none⟩) 1 kl (hH.rd .here) (by decide) 0 1)) ?_
  rintro _ _
  refine Wl.q rfl rfl (OpQ.eql rfl rfl) ?_
  refine Wl.know 6 (v' := .bool true) rfl (congrArg Value.bool kn0) ?_
  refine Wl.q rfl rfl (OpQ.move rfl) ?_
  refine Wl.q rfl rfl (OpQ.move rfl) ?_
  refine Wl.g rfl rfl (OpG.callV M_go13 rfl (fun w hH => holds_spec w (some ⟨b3, 0, none⟩) 1 kl (hH.rd .here) (by decide) (by decide) 0 [97] (by decide))) ?_
  rintro _ _
  refine Wl.know 9 (v' := .bool true) rfl (congrArg Value.bool kn1) ?_
  refine Wl.q rfl rfl (OpQ.pickT rfl rfl) ?_
  refine Wl.q rfl rfl (OpQ.move rfl) ?_
  refine Wl.q rfl rfl (OpQ.move rfl) ?_
  refine Wl.g rfl rfl (OpG.callV M_go13 rfl (fun w hH => holds_spec w (some ⟨b3, 0, none⟩) 1 kl (hH.rd .here) (by decide) (by decide) 0 [97, 97] (by decide))) ?_
  rintro _ _
  refine Wl.know 13 (v' := .bool false) rfl (congrArg Value.bool kn2) ?_
  refine Wl.q rfl rfl (OpQ.not rfl) ?_
  refine Wl.q rfl rfl (OpQ.pickT rfl rfl) ?_
  refine Wl.q rfl rfl (OpQ.move rfl) ?_
  refine Wl.q rfl rfl (OpQ.move rfl) ?_
  refine Wl.g rfl rfl (OpG.callV M_go13 rfl (fun w hH => holds_spec w (some ⟨b3, 0, none⟩) 1 kl (hH.rd .here) (by decide) (by decide) 0 [98] (by decide))) ?_
  rintro _ _
  refine Wl.know 18 (v' := .bool false) rfl (congrArg Value.bool kn3) ?_
  refine Wl.q rfl rfl (OpQ.not rfl) ?_
  refine Wl.q rfl rfl (OpQ.pickT rfl rfl) ?_
  refine Wl.q rfl rfl (OpQ.move rfl) ?_
  refine Wl.q rfl rfl (OpQ.move rfl) ?_
  refine Wl.g rfl rfl (OpG.callV M_go13 rfl (fun w hH => holds_spec w (some ⟨b3, 0, none⟩) 1 kl (hH.rd .here) (by decide) (by decide) 0 [] (by decide))) ?_
  rintro _ _
  refine Wl.know 23 (v' := .bool false) rfl (congrArg Value.bool kn4) ?_
  refine Wl.q rfl rfl (OpQ.not rfl) ?_
  refine Wl.q rfl rfl (OpQ.pickT rfl rfl) ?_
  refine Wl.q rfl rfl (OpQ.assign rfl) ?_
  refine Wl.nil ?_
  refine PX.then_n ?_
  refine CT.ret ?_
  refine PX.ret1 rfl rfl (fun w' hH => ?_)
  exact ⟨rfl, hH.ext⟩

theorem M_go23 : isGo Try.prog 23 = true := by kernel_rfl
theorem M_un4 : Try.prog.underlying 4 = some .bool := by kernel_rfl
theorem M_go27 : isGo Try.prog 27 = true := by kernel_rfl
theorem M_go20 : isGo Try.prog 20 = true := by kernel_rfl
set_option maxRecDepth 100000 in
/-- semigroup/semigrouplaw38.all -/
theorem all_spec (w : World) (a : Option Addr) (cp : Nat) (xs : List Fm) (hr : Rd w a (xs.flatMap fv)) (hn : xs.length ≤ 9223372036854775807) (hcp : xs.length ≤ cp) (root letters : Int) (ws : Wd) (hw : ws.length ≤ 9223372036854775807) : Calls Try.prog 15 #[.slice a xs.length cp, .int .i64 (root), .int .i64 (letters), sv ws] w (fun e w' => e = .returned (.bool true) ∧ Ext [] w w') := by
  refine enter (args := [.slice a xs.length cp, .int .i64 (root), .int .i64 (letters), sv ws]) [] 38 Try.func15 rfl rfl rfl ?_
  refine CT.seq ?_
  -- region 0: law.go:46
  refine CT.region ?_
  refine Wl.q rfl rfl (OpQ.assign rfl) ?_
  refine Wl.nil ?_
  refine PX.then_n ?_
  refine CT.seq ?_
  -- region 1: law.go:47
  refine CT.region ?_
  refine Wl.q rfl rfl (OpQ.move rfl) ?_
  refine Wl.q rfl rfl (OpQ.move rfl) ?_
  refine Wl.q rfl rfl (OpQ.move rfl) ?_
  refine Wl.g rfl rfl (OpG.callV M_go29 rfl (fun w hH => validate_spec w a cp xs (hH.rd0 hr rfl) hn root letters)) ?_
  rintro _ _
  refine Wl.q rfl rfl (OpQ.move rfl) ?_
  refine Wl.q rfl rfl (OpQ.move rfl) ?_
  refine Wl.q rfl rfl (OpQ.move rfl) ?_
  refine Wl.g rfl rfl (OpG.callV M_go19 rfl (fun w hH => validateR_spec w a cp xs (hH.rd0 hr rfl) hn root letters)) ?_
  rintro _ _
  refine Wl.q rfl rfl (OpQ.eql rfl rfl) ?_
  refine Wl.know 17 (v' := .bool true) rfl (congrArg Value.bool (by simp)) ?_
  refine Wl.q rfl rfl (OpQ.move rfl) ?_
  refine Wl.q rfl rfl (OpQ.move rfl) ?_
  refine Wl.q rfl rfl (OpQ.move rfl) ?_
  refine Wl.q rfl rfl (OpQ.move rfl) ?_
  refine Wl.g rfl rfl (OpG.callV M_go13 rfl (fun w hH => holds_spec w a cp xs (hH.rd0 hr rfl) hn hcp root ws hw)) ?_
  rintro _ _
  refine Wl.q rfl rfl (OpQ.move rfl) ?_
  refine Wl.q rfl rfl (OpQ.move rfl) ?_
  refine Wl.q rfl rfl (OpQ.move rfl) ?_
  refine Wl.g rfl rfl (OpG.callV M_go23 rfl (fun w hH => holdsR_spec w a cp xs (hH.rd0 hr rfl) hn root ws hw)) ?_
  rintro _ _
  refine Wl.q rfl rfl (OpQ.eqlB M_un4 rfl rfl) ?_
  refine Wl.know 27 (v' := .bool true) rfl (congrArg Value.bool (by simp)) ?_
  refine Wl.q rfl rfl (OpQ.pickT rfl rfl) ?_
  refine Wl.q rfl rfl (OpQ.move rfl) ?_
  refine Wl.q rfl rfl (OpQ.move rfl) ?_
  refine Wl.q rfl rfl (OpQ.move rfl) ?_
  refine Wl.g rfl rfl (OpG.callV M_go27 rfl (fun w hH => depth_spec w a cp xs (hH.rd0 hr rfl) hn hcp root)) ?_
  rintro _ _
  refine Wl.q rfl rfl (OpQ.move rfl) ?_
  refine Wl.q rfl rfl (OpQ.move rfl) ?_
  refine Wl.g rfl rfl (OpG.callV M_go20 rfl (fun w hH => depthR_spec w a cp xs (hH.rd0 hr rfl) hn root)) ?_
  rintro _ _
  refine Wl.q rfl rfl (OpQ.eql rfl rfl) ?_
  refine Wl.know 36 (v' := .bool true) rfl (congrArg Value.bool (by simp)) ?_
  refine Wl.q rfl rfl (OpQ.pickT rfl rfl) ?_
  refine Wl.q rfl rfl (OpQ.assign rfl) ?_
  refine Wl.nil ?_
  refine PX.then_n ?_
  refine CT.ret ?_
  refine PX.ret1 rfl rfl (fun w' hH => ?_)
  exact ⟨rfl, hH.ext⟩

theorem M_go15 : isGo Try.prog 15 = true := by kernel_rfl
theorem M_go14 : isGo Try.prog 14 = true := by kernel_rfl
set_option maxRecDepth 100000 in
/-- semigroup/semigrouplaw38.FirstorderRaw -/
theorem FirstorderRaw_spec (w : World) (a : Option Addr) (cp : Nat) (xs : List Fm) (hr : Rd w a (xs.flatMap fv)) (hn : xs.length ≤ 9223372036854775807) (hcp : xs.length ≤ cp) (root letters : Int) (ws : Wd) (hw : ws.length ≤ 9223372036854775807) : Calls Try.prog 4 #[.slice a xs.length cp, .int .i64 (root), .int .i64 (letters), sv ws] w (fun e w' => e = .returned (.bool true) ∧ Ext [] w w') := by
  refine enter (args := [.slice a xs.length cp, .int .i64 (root), .int .i64 (letters), sv ws]) [] 35 Try.func4 rfl rfl rfl ?_
  refine CT.seq ?_
  -- region 0: law.go:51
  refine CT.region ?_
  refine Wl.q rfl rfl (OpQ.assign rfl) ?_
  refine Wl.nil ?_
  refine PX.then_n ?_
  refine CT.seq ?_
  refine CT.weak (E' := [(0, _), (1, _), (2, _), (3, _)]) (by repeat (first | exact trivial | refine ⟨rfl, ?_⟩)) (HSub.refl _) ?_
  refine CT.cutB 26 ((decide ((20 : Int) < (xs.length : Int)) || decide ((8 : Int) < (ws.length : Int)) && decide ((ws.length : Int) < 41)) || decide ((100 : Int) < (ws.length : Int))) (fun K0 hK0 => ?_) ?_
  · -- up to the join
    -- region 1: law.go:52
    refine CT.region ?_
    refine Wl.q rfl rfl (OpQ.move rfl) ?_
    refine Wl.q rfl rfl (OpQ.len M_un26 rfl) ?_
    refine Wl.q rfl rfl (OpQ.gtr rfl rfl) ?_
    refine Wl.q rfl rfl (OpQ.move rfl) ?_
    refine Wl.split 12 rfl (fun hg12 => ?_) (fun hg12 => ?_)
    · -- t12 = True
      refine Wl.skip rfl rfl ?_
      refine Wl.skip rfl rfl ?_
      refine Wl.skip rfl rfl ?_
      refine Wl.skip rfl rfl ?_
      refine Wl.skip rfl rfl ?_
      refine Wl.skip rfl rfl ?_
      refine Wl.skip rfl rfl ?_
      refine Wl.skip rfl rfl ?_
      refine Wl.q rfl rfl (OpQ.pickT rfl rfl) ?_
      refine Wl.q rfl rfl (OpQ.move rfl) ?_
      refine Wl.skip rfl rfl ?_
      refine Wl.skip rfl rfl ?_
      refine Wl.skip rfl rfl ?_
      refine Wl.q rfl rfl (OpQ.pickT rfl rfl) ?_
      refine Wl.nil ?_
      exact PX.cutB hK0 ⟨lkV rfl (congrArg Value.bool (by first | rfl | (simp only [hg12, hg16, hg22, Bool.or_true, Bool.true_or, Bool.or_false, Bool.false_or, Bool.not_true, Bool.not_false, Bool.and_true, Bool.true_and, Bool.and_false, Bool.false_and]; done) | (simp only [hg12, hg16, Bool.or_true, Bool.true_or, Bool.or_false, Bool.false_or, Bool.not_true, Bool.not_false, Bool.and_true, Bool.true_and, Bool.and_false, Bool.false_and]; done) | (simp only [hg12, Bool.or_true, Bool.true_or, Bool.or_false, Bool.false_or, Bool.not_true, Bool.not_false, Bool.and_true, Bool.true_and, Bool.and_false, Bool.false_and]; done) | (simp only [Bool.or_true, Bool.true_or, Bool.or_false, Bool.false_or, Bool.not_true, Bool.not_false, Bool.and_true, Bool.true_and, Bool.and_false, Bool.false_and]; done))), (by repeat (first | exact trivial | refine ⟨rfl, ?_⟩))⟩ (HSub.refl _)
    · -- t12 = False
      refine Wl.q rfl rfl (OpQ.move rfl) ?_
      refine Wl.q rfl rfl (OpQ.lenSv M_un9 rfl) ?_
      refine Wl.q rfl rfl (OpQ.gtr rfl rfl) ?_
      refine Wl.q rfl rfl (OpQ.move rfl) ?_
      refine Wl.split 16 rfl (fun hg16 => ?_) (fun hg16 => ?_)
      · -- t16 = True
        refine Wl.q rfl rfl (OpQ.move rfl) ?_
        refine Wl.q rfl rfl (OpQ.lenSv M_un9 rfl) ?_
        refine Wl.q rfl rfl (OpQ.lss rfl rfl) ?_
        refine Wl.q rfl rfl (OpQ.pickT rfl rfl) ?_
        refine Wl.q rfl rfl (OpQ.pickF rfl rfl) ?_
        refine Wl.q rfl rfl (OpQ.move rfl) ?_
        refine Wl.split 22 rfl (fun hg22 => ?_) (fun hg22 => ?_)
        · -- t22 = True
          refine Wl.skip rfl rfl ?_
          refine Wl.skip rfl rfl ?_
          refine Wl.skip rfl rfl ?_
          refine Wl.q rfl rfl (OpQ.pickT rfl rfl) ?_
          refine Wl.nil ?_
          exact PX.cutB hK0 ⟨lkV rfl (congrArg Value.bool (by first | rfl | (simp only [hg12, hg16, hg22, Bool.or_true, Bool.true_or, Bool.or_false, Bool.false_or, Bool.not_true, Bool.not_false, Bool.and_true, Bool.true_and, Bool.and_false, Bool.false_and]; done) | (simp only [hg12, hg16, Bool.or_true, Bool.true_or, Bool.or_false, Bool.false_or, Bool.not_true, Bool.not_false, Bool.and_true, Bool.true_and, Bool.and_false, Bool.false_and]; done) | (simp only [hg12, Bool.or_true, Bool.true_or, Bool.or_false, Bool.false_or, Bool.not_true, Bool.not_false, Bool.and_true, Bool.true_and, Bool.and_false, Bool.false_and]; done) | (simp only [Bool.or_true, Bool.true_or, Bool.or_false, Bool.false_or, Bool.not_true, Bool.not_false, Bool.and_true, Bool.true_and, Bool.and_false, Bool.false_and]; done))), (by repeat (first | exact trivial | refine ⟨rfl, ?_⟩))⟩ (HSub.refl _)
        · -- t22 = False
          refine Wl.q rfl rfl (OpQ.move rfl) ?_
          refine Wl.q rfl rfl (OpQ.lenSv M_un9 rfl) ?_
          refine Wl.q rfl rfl (OpQ.gtr rfl rfl) ?_
          refine Wl.q rfl rfl (OpQ.pickF rfl rfl) ?_
          refine Wl.nil ?_
          exact PX.cutB hK0 ⟨lkV rfl (congrArg Value.bool (by first | rfl | (simp only [hg12, hg16, hg22, Bool.or_true, Bool.true_or, Bool.or_false, Bool.false_or, Bool.not_true, Bool.not_false, Bool.and_true, Bool.true_and, Bool.and_false, Bool.false_and]; done) | (simp only [hg12, hg16, Bool.or_true, Bool.true_or, Bool.or_false, Bool.false_or, Bool.not_true, Bool.not_false, Bool.and_true, Bool.true_and, Bool.and_false, Bool.false_and]; done) | (simp only [hg12, Bool.or_true, Bool.true_or, Bool.or_false, Bool.false_or, Bool.not_true, Bool.not_false, Bool.and_true, Bool.true_and, Bool.and_false, Bool.false_and]; done) | (simp only [Bool.or_true, Bool.true_or, Bool.or_false, Bool.false_or, Bool.not_true, Bool.not_false, Bool.and_true, Bool.true_and, Bool.and_false, Bool.false_and]; done))), (by repeat (first | exact trivial | refine ⟨rfl, ?_⟩))⟩ (HSub.refl _)
      · -- t16 = False
        refine Wl.skip rfl rfl ?_
        refine Wl.skip rfl rfl ?_
        refine Wl.skip rfl rfl ?_
        refine Wl.q rfl rfl (OpQ.pickF rfl rfl) ?_
        refine Wl.q rfl rfl (OpQ.pickF rfl rfl) ?_
        refine Wl.q rfl rfl (OpQ.move rfl) ?_
        refine Wl.q rfl rfl (OpQ.move rfl) ?_
        refine Wl.q rfl rfl (OpQ.lenSv M_un9 rfl) ?_
        refine Wl.q rfl rfl (OpQ.gtr rfl rfl) ?_
        refine Wl.q rfl rfl (OpQ.pickF rfl rfl) ?_
        refine Wl.nil ?_
        exact PX.cutB hK0 ⟨lkV rfl (congrArg Value.bool (by first | rfl | (simp only [hg12, hg16, hg22, Bool.or_true, Bool.true_or, Bool.or_false, Bool.false_or, Bool.not_true, Bool.not_false, Bool.and_true, Bool.true_and, Bool.and_false, Bool.false_and]; done) | (simp only [hg12, hg16, Bool.or_true, Bool.true_or, Bool.or_false, Bool.false_or, Bool.not_true, Bool.not_false, Bool.and_true, Bool.true_and, Bool.and_false, Bool.false_and]; done) | (simp only [hg12, Bool.or_true, Bool.true_or, Bool.or_false, Bool.false_or, Bool.not_true, Bool.not_false, Bool.and_true, Bool.true_and, Bool.and_false, Bool.false_and]; done) | (simp only [Bool.or_true, Bool.true_or, Bool.or_false, Bool.false_or, Bool.not_true, Bool.not_false, Bool.and_true, Bool.true_and, Bool.and_false, Bool.false_and]; done))), (by repeat (first | exact trivial | refine ⟨rfl, ?_⟩))⟩ (HSub.refl _)
  · -- from the join on
    refine CT.cond rfl (fun h26 => ?_) (fun h26 => ?_)
    · -- if t26: then
      refine CT.seq ?_
      -- region 2: law.go:53
      refine CT.region ?_
      refine Wl.q rfl rfl (OpQ.assign rfl) ?_
      refine Wl.nil ?_
      refine PX.then_n ?_
      refine CT.ret ?_
      refine PX.then_r ?_
      refine PX.ret1 rfl rfl (fun w' hH => ?_)
      exact ⟨rfl, hH.ext⟩
    · -- if t26: else
      refine CT.skip ?_
      refine PX.then_n ?_
      refine CT.seq ?_
      -- region 3: law.go:55
      refine CT.region ?_
      refine Wl.q rfl rfl (OpQ.move rfl) ?_
      refine Wl.q rfl rfl (OpQ.move rfl) ?_
      refine Wl.q rfl rfl (OpQ.move rfl) ?_
      refine Wl.q rfl rfl (OpQ.move rfl) ?_
      refine Wl.g rfl rfl (OpG.callV M_go15 rfl (fun w hH => all_spec w a cp xs (hH.rd0 hr rfl) hn hcp root letters ws hw)) ?_
      rintro _ _
      refine Wl.know 31 (v' := .bool true) rfl (congrArg Value.bool rfl) ?_
      refine Wl.q rfl rfl (OpQ.move rfl) ?_
      refine Wl.g rfl rfl (OpG.callV M_go14 rfl (fun w hH => known_spec w)) ?_
      rintro _ _
      refine Wl.q rfl rfl (OpQ.pickT rfl rfl) ?_
      refine Wl.q rfl rfl (OpQ.assign rfl) ?_
      refine Wl.nil ?_
      refine PX.then_n ?_
      refine CT.ret ?_
      refine PX.ret1 rfl rfl (fun w' hH => ?_)
      exact ⟨rfl, hH.ext⟩

end Go.Proofs.Ytdcjemjfliaaiaa
