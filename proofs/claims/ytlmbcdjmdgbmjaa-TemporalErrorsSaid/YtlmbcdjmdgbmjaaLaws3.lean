/-
  What functions of the packages temporal and semigroupref39 compute, each by its walk. Conditions: those that each theorem names.
-/
import Derived.Test.YtlmbcdjmdgbmjaaWalks7
import Derived.Test.YtlmbcdjmdgbmjaaLaws
set_option linter.unusedSimpArgs false
namespace Go.Proofs.Ytlmbcdjmdgbmjaa
open Go Go.Eng Go.Tl
open Go.Tp (zi)

theorem I_un35 : Try.prog.underlying 35 = some (.slice 41) := by kernel_rfl
theorem I_sz41 : sizeB Try.prog 41 = some 2 := by kernel_rfl
theorem I_ag41 : isAggB Try.prog 41 = some true := by kernel_rfl
theorem I_in41 : (Try.prog.info? 41).map (fun i => (i.zero, i.size, i.bytes)) = some (some (.agg #[.slice none 0 0, .slice none 0 0]), 2, 48) := by kernel_rfl
theorem I_fa41_0 : fieldB Try.prog 41 0 = some 0 := by kernel_rfl
theorem I_sc25 : scalarB Try.prog 25 = some true := by kernel_rfl
theorem I_un25 : Try.prog.underlying 25 = some (.slice 3) := by kernel_rfl
theorem I_fa41_1 : fieldB Try.prog 41 1 = some 1 := by kernel_rfl
theorem I_go18 : isGo Try.prog 18 = true := by kernel_rfl
theorem I_go23 : isGo Try.prog 23 = true := by kernel_rfl
theorem I_go11 : isGo Try.prog 11 = true := by kernel_rfl
theorem I_un22 : Try.prog.underlying 22 = some (.slice 31) := by kernel_rfl
set_option maxRecDepth 100000 in
/-- semigroup/semigrouplaw39.TemporalErrors -/
theorem TemporalErrors_spec (w : World) (a : Option Addr) (cp : Nat) (ms : List Mo) (hr : Stays [] w (fun w => Rd w a (ms.flatMap mov) ∧ mos ms w)) (hcp : ms.length ≤ cp) (letters : Int) : Calls Try.prog 6 #[.slice a ms.length cp, .int .i64 (letters)] w (fun e w' => e = .returned (.bool true) ∧ Ext [] w w') := by
  refine enter (args := [.slice a ms.length cp, .int .i64 (letters)]) [] 60 Try.func6 rfl rfl rfl ?_
  refine CT.seq ?_
  -- region 0: law.go:151
  refine CT.region ?_
  refine Wl.q rfl rfl (OpQ.assign rfl) ?_
  refine Wl.nil ?_
  refine PX.then_n ?_
  refine CT.seq ?_
  refine CT.seq ?_
  -- region 1: law.go:152
  refine CT.region ?_
  refine Wl.q rfl rfl (OpQ.move rfl) ?_
  refine Wl.q rfl rfl (OpQ.len I_un35 rfl) ?_
  refine Wl.q rfl rfl (OpQ.gtr rfl rfl) ?_
  refine Wl.nil ?_
  refine PX.then_n ?_
  refine CT.cond rfl (fun h13 => ?_) (fun h13 => ?_)
  · -- if t13: then
    have h13 := of_decide_eq_true h13
    refine CT.seq ?_
    -- region 2: law.go:153
    refine CT.region ?_
    refine Wl.q rfl rfl (OpQ.assign rfl) ?_
    refine Wl.nil ?_
    refine PX.then_n ?_
    refine CT.ret ?_
    refine PX.then_r ?_
    refine PX.ret1 rfl rfl (fun w' hH => ?_)
    exact ⟨rfl, hH.ext⟩
  · -- if t13: else
    have h13 := of_decide_eq_false h13
    refine CT.skip ?_
    refine PX.then_n ?_
    refine CT.seq ?_
    refine CT.seq ?_
    -- region 3: law.go:155
    refine CT.region ?_
    refine Wl.q rfl rfl (OpQ.move rfl) ?_
    refine Wl.q rfl rfl (OpQ.len I_un35 rfl) ?_
    refine Wl.q rfl rfl (OpQ.move rfl) ?_
    refine Wl.nil ?_
    refine PX.then_n ?_
    refine CT.block ?_
    -- the loop at region 4
    refine CT.loop (ι := Nat) (fun k => k ≤ ms.length) (fun k => [(0, .slice a ms.length cp), (1, .int .i64 (letters)), (14, .slice a ms.length cp), (15, .int .i64 (ms.length : Int)), (16, .int .i64 (k : Int))]) (fun _ => []) (fun k => ms.length - k) 0 (Nat.zero_le _) ⟨rfl, rfl, rfl, rfl, rfl, trivial⟩ (HSub.none _) (fun k hk K0 hK0 => ?_)
    refine CT.seq ?_
    -- region 4: law.go:155
    refine CT.region ?_
    refine Wl.q rfl rfl (OpQ.lss rfl rfl) ?_
    refine Wl.nil ?_
    refine PX.then_n ?_
    refine CT.seq ?_
    refine CT.cond rfl (fun h17 => ?_) (fun h17 => ?_)
    · -- if t17: then
      have h17 := of_decide_eq_true h17
      refine CT.skip ?_
      refine PX.then_n ?_
      refine CT.seq ?_
      refine CT.block ?_
      refine CT.seq ?_
      -- region 5: law.go:155
      refine CT.region ?_
      refine Wl.q rfl rfl (OpQ.index I_un35 I_sz41 rfl rfl (by omega) (hr.now.1.isSome (j := 0) (by rw [flat_len mov_len]; omega))) ?_
      refine Wl.q rfl rfl (OpQ.loadAggG (cs := mov (ms.getD k m0)) I_ag41 I_sz41 rfl (fun w hH => (hH.use hr).1) (flat_cells mov_len ms m0 (by omega))) ?_
      refine Wl.g rfl rfl (OpG.alloc (zs := [.slice none 0 0, .slice none 0 0]) I_in41 rfl rfl) ?_
      rintro b6 _
      refine Wl.g rfl rfl (OpG.storeV (b := b6) I_sz41 rfl rfl rfl rfl (by repeat (first | exact Upd.here | apply Upd.there))) ?_
      rintro _ _
      refine Wl.nil ?_
      refine PX.then_n ?_
      refine CT.seq ?_
      -- region 6: law.go:156
      refine CT.region ?_
      refine Wl.q rfl rfl (OpQ.fieldAddr I_fa41_0 rfl) ?_
      refine Wl.q rfl rfl (OpQ.loadF (b := b6) I_sc25 rfl (by repeat (first | exact Has.here | apply Has.there)) (by rfl)) ?_
      refine Wl.q rfl rfl (OpQ.len I_un25 rfl) ?_
      refine Wl.q rfl rfl (OpQ.gtr rfl rfl) ?_
      refine Wl.q rfl rfl (OpQ.move rfl) ?_
      refine Wl.split 24 rfl (fun hg24 => ?_) (fun hg24 => ?_)
      · -- t24 = True
        refine Wl.skip rfl rfl ?_
        refine Wl.skip rfl rfl ?_
        refine Wl.skip rfl rfl ?_
        refine Wl.skip rfl rfl ?_
        refine Wl.q rfl rfl (OpQ.pickT rfl rfl) ?_
        refine Wl.nil ?_
        refine PX.then_n ?_
        refine CT.condT rfl ?_
        refine CT.seq ?_
        -- region 7: law.go:157
        refine CT.region ?_
        refine Wl.q rfl rfl (OpQ.assign rfl) ?_
        refine Wl.nil ?_
        refine PX.then_n ?_
        refine CT.ret ?_
        refine PX.block_r ?_
        refine PX.then_r ?_
        refine PX.then_r ?_
        refine PX.block_r ?_
        refine PX.then_r ?_
        refine PX.ret1 rfl rfl (fun w' hH => ?_)
        exact ⟨rfl, hH.ext⟩
      · -- t24 = False
        refine Wl.q rfl rfl (OpQ.fieldAddr I_fa41_1 rfl) ?_
        refine Wl.q rfl rfl (OpQ.loadF (b := b6) I_sc25 rfl (by repeat (first | exact Has.here | apply Has.there)) (by rfl)) ?_
        refine Wl.q rfl rfl (OpQ.len I_un25 rfl) ?_
        refine Wl.q rfl rfl (OpQ.gtr rfl rfl) ?_
        refine Wl.q rfl rfl (OpQ.pickF rfl rfl) ?_
        refine Wl.nil ?_
        refine PX.then_n ?_
        refine CT.cond rfl (fun h29 => ?_) (fun h29 => ?_)
        · -- if t29: then
          refine CT.seq ?_
          -- region 7: law.go:157
          refine CT.region ?_
          refine Wl.q rfl rfl (OpQ.assign rfl) ?_
          refine Wl.nil ?_
          refine PX.then_n ?_
          refine CT.ret ?_
          refine PX.block_r ?_
          refine PX.then_r ?_
          refine PX.then_r ?_
          refine PX.block_r ?_
          refine PX.then_r ?_
          refine PX.ret1 rfl rfl (fun w' hH => ?_)
          exact ⟨rfl, hH.ext⟩
        · -- if t29: else
          refine CT.skip ?_
          refine PX.block_n ?_
          refine PX.then_n ?_
          -- region 8: law.go:155
          refine CT.region ?_
          refine Wl.q rfl rfl (OpQ.add rfl rfl (by omega)) ?_
          refine Wl.q rfl rfl (OpQ.move rfl) ?_
          refine Wl.nil ?_
          exact PX.loop hK0 (k + 1) (by omega) (by first | omega | (dsimp only; omega)) ⟨rfl, rfl, rfl, rfl, rfl, trivial⟩ (HSub.none _)
    · -- if t17: else
      have h17 := of_decide_eq_false h17
      refine CT.exit ?_
      refine PX.then_x ?_
      refine PX.then_x ?_
      refine PX.block_x ?_
      refine PX.then_n ?_
      refine CT.seq ?_
      -- region 9: law.go:160
      refine CT.region ?_
      refine Wl.q rfl rfl (OpQ.move rfl) ?_
      refine Wl.q rfl rfl (OpQ.move rfl) ?_
      refine Wl.g rfl rfl (OpG.callX I_go18 rfl .nil (fun _ => (.cons .nil)) (fun w hH hp => of_spec w a cp ms (hH.stays0 hr) hcp letters (by omega))) ?_
      rintro ⟨xs34, r34, a34, c34⟩ h34
      dsimp only at h34
      obtain ⟨h34a, h34b⟩ := h34
      refine Wl.q rfl rfl (OpQ.move rfl) ?_
      refine Wl.q rfl rfl (OpQ.extract rfl rfl) ?_
      refine Wl.q rfl rfl (OpQ.extract rfl rfl) ?_
      refine Wl.q rfl rfl (OpQ.extract rfl rfl) ?_
      refine Wl.q rfl rfl (OpQ.assign rfl) ?_
      refine Wl.q rfl rfl (OpQ.assign rfl) ?_
      refine Wl.q rfl rfl (OpQ.assign rfl) ?_
      refine Wl.nil ?_
      refine PX.then_n ?_
      refine CT.seq ?_
      -- region 10: law.go:161
      refine CT.region ?_
      refine Wl.q rfl rfl (OpQ.move rfl) ?_
      refine Wl.q rfl rfl (OpQ.move rfl) ?_
      refine Wl.g rfl rfl (OpG.callV I_go23 rfl (fun w hH => maylist_spec w a cp ms (hH.stays0 hr) (by omega) letters)) ?_
      rintro _ _
      refine Wl.q rfl rfl (OpQ.assign rfl) ?_
      refine Wl.nil ?_
      refine PX.then_n ?_
      refine CT.seq ?_
      -- region 11: law.go:162
      refine CT.region ?_
      refine Wl.q rfl rfl (OpQ.move rfl) ?_
      refine Wl.q rfl rfl (OpQ.move rfl) ?_
      refine Wl.q rfl rfl (OpQ.eql rfl rfl) ?_
      refine Wl.know 43 (v' := .bool true) rfl (congrArg Value.bool (by simp)) ?_
      refine Wl.q rfl rfl (OpQ.move rfl) ?_
      refine Wl.q rfl rfl (OpQ.move rfl) ?_
      refine Wl.q rfl rfl (OpQ.eql rfl rfl) ?_
      refine Wl.q rfl rfl (OpQ.move rfl) ?_
      refine Wl.split 47 rfl (fun hg47 => ?_) (fun hg47 => ?_)
      · -- t47 = True
        refine Wl.skip rfl rfl ?_
        refine Wl.skip rfl rfl ?_
        refine Wl.skip rfl rfl ?_
        refine Wl.skip rfl rfl ?_
        refine Wl.skip rfl rfl ?_
        refine Wl.skip rfl rfl ?_
        refine Wl.skip rfl rfl ?_
        refine Wl.q rfl rfl (OpQ.pickT rfl rfl) ?_
        refine Wl.q rfl rfl (OpQ.pickT rfl rfl) ?_
        refine Wl.q rfl rfl (OpQ.move rfl) ?_
        refine Wl.g rfl rfl (OpG.callV I_go11 rfl (fun w hH => known_spec w)) ?_
        rintro _ _
        refine Wl.know 58 (v' := .bool true) rfl (congrArg Value.bool rfl) ?_
        refine Wl.q rfl rfl (OpQ.pickT rfl rfl) ?_
        refine Wl.q rfl rfl (OpQ.assign rfl) ?_
        refine Wl.nil ?_
        refine PX.then_n ?_
        refine CT.ret ?_
        refine PX.ret1 rfl rfl (fun w' hH => ?_)
        exact ⟨rfl, hH.ext⟩
      · -- t47 = False
        refine Wl.q rfl rfl (OpQ.move rfl) ?_
        refine Wl.q rfl rfl (OpQ.len I_un22 rfl) ?_
        refine Wl.q rfl rfl (OpQ.eql rfl rfl) ?_
        refine Wl.know 50 (v' := .bool true) rfl (congrArg Value.bool (by have h := (h34a (of_decide_eq_false hg47)).1; subst h; rfl)) ?_
        refine Wl.q rfl rfl (OpQ.move rfl) ?_
        refine Wl.q rfl rfl (OpQ.move rfl) ?_
        refine Wl.q rfl rfl (OpQ.eql rfl rfl) ?_
        refine Wl.know 53 (v' := .bool true) rfl (congrArg Value.bool (by have h := (h34a (of_decide_eq_false hg47)).2; subst h; rfl)) ?_
        refine Wl.q rfl rfl (OpQ.pickT rfl rfl) ?_
        refine Wl.q rfl rfl (OpQ.pickF rfl rfl) ?_
        refine Wl.q rfl rfl (OpQ.pickT rfl rfl) ?_
        refine Wl.q rfl rfl (OpQ.move rfl) ?_
        refine Wl.g rfl rfl (OpG.callV I_go11 rfl (fun w hH => known_spec w)) ?_
        rintro _ _
        refine Wl.know 58 (v' := .bool true) rfl (congrArg Value.bool rfl) ?_
        refine Wl.q rfl rfl (OpQ.pickT rfl rfl) ?_
        refine Wl.q rfl rfl (OpQ.assign rfl) ?_
        refine Wl.nil ?_
        refine PX.then_n ?_
        refine CT.ret ?_
        refine PX.ret1 rfl rfl (fun w' hH => ?_)
        exact ⟨rfl, hH.ext⟩

end Go.Proofs.Ytlmbcdjmdgbmjaa
