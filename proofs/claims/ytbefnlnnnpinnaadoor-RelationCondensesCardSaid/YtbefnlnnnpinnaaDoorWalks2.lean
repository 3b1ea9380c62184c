/-
  What further functions compute, each by its walk. Conditions: those that each theorem names.
-/
import Derived.Test.YtbefnlnnnpinnaaDoorWalks
import Derived.Test.YtbefnlnnnpinnaaDoorMod
namespace Go.Proofs.YtbefnlnnnpinnaaDoor
open Go Go.Eng Go.Rel

theorem K_go37 : isGo Tryd.prog 37 = true := by kernel_rfl
theorem K_go27 : isGo Tryd.prog 27 = true := by kernel_rfl
theorem K_un22 : Tryd.prog.underlying 22 = some (.slice 23) := by kernel_rfl
theorem K_go40 : isGo Tryd.prog 40 = true := by kernel_rfl
theorem K_un25 : Tryd.prog.underlying 25 = some (.slice 3) := by kernel_rfl
theorem K_in3 : (Tryd.prog.info? 3).map (fun i => (i.zero, i.size, i.bytes)) = some (some (.int .i64 0), 1, 8) := by kernel_rfl
theorem K_go15 : isGo Tryd.prog 15 = true := by kernel_rfl
theorem K_sz3 : sizeB Tryd.prog 3 = some 1 := by kernel_rfl
theorem K_sc3 : scalarB Tryd.prog 3 = some true := by kernel_rfl
theorem K_mixed : Tryd.prog.follows .mixedOrders = true := by kernel_rfl
theorem K_sz23 : sizeB Tryd.prog 23 = some 1 := by kernel_rfl
theorem K_sc23 : scalarB Tryd.prog 23 = some true := by kernel_rfl
set_option maxRecDepth 100000 in
/-- semigroup/relation.Topological -/
theorem topo_spec (w : World) (a : Option Addr) (cp : Nat) (xs : List (BitVec 64)) (hr : Rd w a (xs.map u)) (hn : xs.length ≤ 9223372036854775807) (hT : Tab w) : Calls Tryd.prog 29 #[.slice a xs.length cp] w (fun e w' => New2 3 1 w w' e ((topR xs).getD []).length (((topR xs).getD []).map iv) (.bool (topR xs).isSome)) := by
  refine enter (args := [.slice a xs.length cp]) [] 53 Tryd.func29 rfl rfl rfl ?_
  refine CT.seq ?_
  -- region 0: relation.go:172
  refine CT.region ?_
  refine Wl.q rfl rfl (OpQ.assign rfl) ?_
  refine Wl.q rfl rfl (OpQ.assign rfl) ?_
  refine Wl.nil ?_
  refine PX.then_n ?_
  refine CT.seq ?_
  refine CT.seq ?_
  -- region 1: relation.go:173
  refine CT.region ?_
  refine Wl.q rfl rfl (OpQ.move rfl) ?_
  refine Wl.g rfl rfl (OpG.callV K_go37 rfl (fun w hH => valid_spec w a cp xs (hH.rd0 hr rfl) hn)) ?_
  rintro _ _
  refine Wl.q rfl rfl (OpQ.not rfl) ?_
  refine Wl.nil ?_
  refine PX.then_n ?_
  refine CT.cond rfl (fun h12 => ?_) (fun h12 => ?_)
  · -- if t12: then
    have hv : validB xs = false := by simpa using h12
    refine CT.seq ?_
    -- region 2: relation.go:174
    refine CT.region ?_
    refine Wl.q rfl rfl (OpQ.assign rfl) ?_
    refine Wl.q rfl rfl (OpQ.assign rfl) ?_
    refine Wl.nil ?_
    refine PX.then_n ?_
    refine CT.ret ?_
    refine PX.then_r ?_
    refine PX.ret2 rfl rfl rfl (fun w' hH => ?_)
    rw [topR_no hv]; exact newNil2 _ hH.ext
  · -- if t12: else
    have hv : validB xs = true := by simpa using h12
    have hl := validB_le hv
    refine CT.skip ?_
    refine PX.then_n ?_
    refine CT.seq ?_
    -- region 3: relation.go:176
    refine CT.region ?_
    refine Wl.q rfl rfl (OpQ.move rfl) ?_
    refine Wl.g rfl rfl (OpG.callR K_go27 rfl (fun w hH => trans_spec w a cp xs (hH.rd0 hr rfl) hn (hH.rd0 hT rfl))) ?_
    rintro ⟨a14, c14⟩ h14
    have hLT := transR_len hv
    have smT : 0 < (transR xs).length → a14.isSome = true := fun h => h14 (by omega)
    refine Wl.q rfl rfl (OpQ.assign rfl) ?_
    refine Wl.nil ?_
    refine PX.then_n ?_
    refine CT.seq ?_
    -- region 4: relation.go:177
    refine CT.region ?_
    refine Wl.q rfl rfl (OpQ.move rfl) ?_
    refine Wl.q rfl rfl (OpQ.len K_un22 rfl) ?_
    refine Wl.g rfl rfl (OpG.callV K_go40 rfl (fun w hH => points_spec w _)) ?_
    rintro _ _
    refine Wl.q rfl rfl (OpQ.assign rfl) ?_
    refine Wl.nil ?_
    refine PX.then_n ?_
    refine CT.seq ?_
    -- region 5: relation.go:178
    refine CT.region ?_
    refine Wl.q rfl rfl (OpQ.move rfl) ?_
    refine Wl.q rfl rfl (OpQ.len K_un22 rfl) ?_
    refine Wl.g rfl rfl (OpG.makeCap1 K_un25 K_in3 rfl rfl rfl (by omega) (by omega)) ?_
    rintro b _
    refine Wl.q rfl rfl (OpQ.assign rfl) ?_
    refine Wl.nil ?_
    refine PX.then_n ?_
    refine CT.seq ?_
    refine CT.block ?_
    -- the loop at region 6
    refine CT.loop (ι := W64 × List Nat × Option Addr × Nat) (fun (r, l, a, c) => tpF (transR xs) (memM r).length r l = topR xs ∧ (∀ j, r.getLsbD j = true → j < xs.length) ∧ l.length + (memM r).length = xs.length) (fun (r, l, a, c) => [(4, .slice a14 (transR xs).length c14), (5, u r), (6, .slice a l.length c)]) (fun (r, l, a, c) => [.row 3 1 (.slice a l.length c) l.length (l.map iv), .row 23 1 (.slice a14 (transR xs).length c14) (transR xs).length ((transR xs).map u)]) (fun (r, l, a, c) => (memM r).length) (pts xs.length, [], some ⟨b, 0, none⟩, xs.length) ⟨by rw [topR, if_yes hv], fun j hj => by rw [pts_bit hl] at hj; simpa using hj, by rw [memM_pts hl]; simp⟩ ⟨rfl, rfl, rfl, trivial⟩ (.keep rfl (.keep rfl .nil)) (fun ⟨r, l, a, c⟩ ⟨hrun, hin, hlen⟩ K0 hK0 => ?_)
    dsimp only
    have hml := memM_len r
    refine CT.seq ?_
    refine CT.seq ?_
    -- region 6: relation.go:179
    refine CT.region ?_
    refine Wl.q rfl rfl (OpQ.move rfl) ?_
    refine Wl.q rfl rfl (OpQ.uneq (q := 0#64) rfl rfl) ?_
    refine Wl.nil ?_
    refine PX.then_n ?_
    refine CT.cond rfl (fun h22 => ?_) (fun h22 => ?_)
    · -- if t22: then
      have hr0 : r ≠ 0#64 := by simpa using h22
      refine CT.skip ?_
      refine PX.then_n ?_
      refine CT.block ?_
      refine CT.seq ?_
      -- region 7: relation.go:180
      refine CT.region ?_
      refine Wl.q rfl rfl (OpQ.assign rfl) ?_
      refine Wl.nil ?_
      refine PX.then_n ?_
      refine CT.cut (ι := Option Nat) (Φ := fun o => o = (memM r).find? (fr (transR xs) r)) (E' := fun o => [(4, .slice a14 (transR xs).length c14), (5, u r), (6, .slice a l.length c), (7, .int .i64 (nx o))]) (H' := fun _ => [.row 3 1 (.slice a l.length c) l.length (l.map iv), .row 23 1 (.slice a14 (transR xs).length c14) (transR xs).length ((transR xs).map u)]) (fun K1 hK1 => ?_) (fun o hphi => ?_)
      · -- up to the join
        refine CT.seq ?_
        -- region 8: relation.go:181
        refine CT.region ?_
        refine Wl.q rfl rfl (OpQ.move rfl) ?_
        refine Wl.g rfl rfl (OpG.callR K_go15 rfl (fun w hH => members_spec w _ (hH.rd0 hT rfl))) ?_
        rintro ⟨a24, c24⟩ h24
        refine Wl.q rfl rfl (OpQ.len K_un25 rfl) ?_
        refine Wl.q rfl rfl (OpQ.move rfl) ?_
        refine Wl.nil ?_
        refine PX.then_n ?_
        refine CT.block ?_
        -- the loop at region 9
        refine CT.loop (ι := Nat) (fun k => k ≤ (memM r).length ∧ ∀ j < k, fr (transR xs) r ((memM r).getD j 0) = false) (fun k => [(4, .slice a14 (transR xs).length c14), (5, u r), (6, .slice a l.length c), (7, .int .i64 (-1)), (24, .slice a24 (memM r).length c24), (25, .int .i64 ((memM r).length : Int)), (26, .int .i64 (k : Int))]) (fun _ => [.row 3 1 (.slice a24 (memM r).length c24) (memM r).length ((memM r).map iv), .row 3 1 (.slice a l.length c) l.length (l.map iv), .row 23 1 (.slice a14 (transR xs).length c14) (transR xs).length ((transR xs).map u)]) (fun k => (memM r).length - k) 0 ⟨by omega, by omega⟩ ⟨rfl, rfl, rfl, rfl, rfl, rfl, rfl, trivial⟩ (HSub.refl _) (fun k ⟨hk, hall⟩ K2 hK2 => ?_)
        refine CT.seq ?_
        -- region 9: relation.go:181
        refine CT.region ?_
        refine Wl.q rfl rfl (OpQ.lss rfl rfl) ?_
        refine Wl.nil ?_
        refine PX.then_n ?_
        refine CT.seq ?_
        refine CT.cond rfl (fun h27 => ?_) (fun h27 => ?_)
        · -- if t27: then
          have h27 := of_decide_eq_true h27
          refine CT.skip ?_
          refine PX.then_n ?_
          refine CT.seq ?_
          refine CT.block ?_
          refine CT.seq ?_
          -- region 10: relation.go:181
          refine CT.region ?_
          refine Wl.q rfl rfl (OpQ.index1 K_un25 K_sz3 rfl rfl (by omega) (h24 (by omega))) ?_
          refine Wl.q rfl rfl (OpQ.loadRow K_sc3 rfl .here (getMap iv _ 0 (j := k) (by omega))) ?_
          have hmk := hin _ (mem_memM.1 (getD_mem (l := memM r) (k := k) (d := 0) (by omega)))
          refine Wl.q rfl rfl (OpQ.assign rfl) ?_
          refine Wl.nil ?_
          refine PX.then_n ?_
          refine CT.seq ?_
          -- region 11, drawn: relation.go:182
          refine CT.draw 10 K_mixed ?_
          refine RA.q 0 (by kernel_rfl) rfl rfl rfl (.refl _) (OpQ.move rfl) ?_
          refine RA.q 1 (by kernel_rfl) rfl rfl rfl (.refl _) (OpQ.move rfl) ?_
          refine RA.q 2 (by kernel_rfl) rfl rfl rfl (.refl _) (OpQ.index1 K_un22 K_sz23 rfl rfl ⟨Int.natCast_nonneg _, by omega⟩ (smT (by omega))) ?_
          refine RA.q 3 (by kernel_rfl) rfl rfl rfl (.refl _) (OpQ.loadRow K_sc23 rfl (.there (.there .here)) (getMap u _ 0#64 (j := (memM r).getD k 0) (by omega))) ?_
          refine RA.q 4 (by kernel_rfl) rfl rfl rfl (.refl _) (OpQ.move rfl) ?_
          refine RA.q 5 (by kernel_rfl) rfl rfl rfl (.refl _) (OpQ.uand rfl rfl) ?_
          refine RA.q 6 (by kernel_rfl) rfl rfl rfl (.refl _) (OpQ.move rfl) ?_
          refine RA.q 7 (by kernel_rfl) rfl rfl rfl (.refl _) (OpQ.ushlN (p := 1#64) rfl rfl) ?_
          refine RA.q 8 (by kernel_rfl) rfl rfl rfl (.refl _) (OpQ.uandNot rfl rfl) ?_
          refine RA.q 9 (by kernel_rfl) rfl rfl rfl (.refl _) (OpQ.ueql (q := 0#64) rfl rfl) ?_
          refine RA.tail ?_
          refine RT.done (by kernel_rfl) ?_
          refine PX.then_n ?_
          refine CT.cond rfl (fun h39 => ?_) (fun h39 => ?_)
          · -- if t39: then
            refine CT.seq ?_
            -- region 12: relation.go:183
            refine CT.region ?_
            refine Wl.q rfl rfl (OpQ.move rfl) ?_
            refine Wl.q rfl rfl (OpQ.assign rfl) ?_
            refine Wl.nil ?_
            refine PX.then_n ?_
            refine CT.exit ?_
            refine PX.block_y rfl ?_
            refine PX.then_x ?_
            refine PX.then_x ?_
            refine PX.block_x ?_
            have hf := find_take (p := fr (transR xs) r) (by omega) hall h39
            exact PX.cut hK1 (some ((memM r).getD k 0)) hf.symm ⟨rfl, rfl, rfl, rfl, trivial⟩ (.drop (.keep rfl (.keep rfl .nil)))
          · -- if t39: else
            refine CT.skip ?_
            refine PX.block_n ?_
            refine PX.then_n ?_
            -- region 13: relation.go:181
            refine CT.region ?_
            refine Wl.q rfl rfl (OpQ.add rfl rfl (by omega)) ?_
            refine Wl.q rfl rfl (OpQ.move rfl) ?_
            refine Wl.nil ?_
            have hall2 : ∀ j < k + 1, fr (transR xs) r ((memM r).getD j 0) = false := fun j hj => by
              rcases Nat.lt_or_ge j k with h | h
              · exact hall j h
              · rw [show j = k by omega]; exact h39
            exact PX.loop hK2 (k + 1) ⟨by omega, hall2⟩ (by first | omega | (dsimp only; omega)) ⟨rfl, rfl, rfl, rfl, rfl, rfl, rfl, trivial⟩ (HSub.refl _)
        · -- if t27: else
          have h27 := of_decide_eq_false h27
          refine CT.exit ?_
          refine PX.then_x ?_
          refine PX.then_x ?_
          refine PX.block_x ?_
          exact PX.cut hK1 none (find_none (fun j hj => hall j (by omega))).symm ⟨rfl, rfl, rfl, rfl, trivial⟩ (.drop (.keep rfl (.keep rfl .nil)))
      · -- from the join on
        refine CT.seq ?_
        refine CT.seq ?_
        -- region 14: relation.go:187
        refine CT.region ?_
        refine Wl.q rfl rfl (OpQ.move rfl) ?_
        refine Wl.q rfl rfl (OpQ.lss rfl rfl) ?_
        refine Wl.nil ?_
        refine PX.then_n ?_
        refine CT.cond rfl (fun h43 => ?_) (fun h43 => ?_)
        · -- if t43: then
          have h43 := of_decide_eq_true h43
          have ho : o = none := by cases o with | none => rfl | some i => exact absurd h43 (by simp only [nx]; omega)
          subst ho
          have hnone : topR xs = none := by rw [← hrun]; exact tpF_none hr0 hphi.symm
          refine CT.seq ?_
          -- region 15: relation.go:188
          refine CT.region ?_
          refine Wl.q rfl rfl (OpQ.assign rfl) ?_
          refine Wl.q rfl rfl (OpQ.assign rfl) ?_
          refine Wl.nil ?_
          refine PX.then_n ?_
          refine CT.ret ?_
          refine PX.then_r ?_
          refine PX.block_r ?_
          refine PX.then_r ?_
          refine PX.block_r ?_
          refine PX.then_r ?_
          refine PX.ret2 rfl rfl rfl (fun w' hH => ?_)
          rw [hnone]; exact newNil2 _ hH.ext
        · -- if t43: else
          have h43 := of_decide_eq_false h43
          obtain ⟨i, rfl⟩ : ∃ i, o = some i := by cases o with | none => exact absurd h43 (by decide) | some i => exact ⟨i, rfl⟩
          dsimp only [nx]
          have hdl := memM_drop_len (mem_find hphi.symm).1
          have hi := hin i (mem_find hphi.symm).1
          refine CT.skip ?_
          refine PX.then_n ?_
          refine CT.seq ?_
          -- region 16: relation.go:190
          refine CT.region ?_
          refine Wl.q rfl rfl (OpQ.move rfl) ?_
          refine Wl.q rfl rfl (OpQ.move rfl) ?_
          refine Wl.g rfl rfl (OpG.lit1 K_un25 K_in3 rfl rfl rfl) ?_
          rintro b46 _
          refine Wl.g rfl rfl (OpG.append K_un25 K_in3 (by rfl) (by decide) rfl rfl (p := 1) rfl (fun w hH => hH.rd .here) ⟨rfl, (by simp [Value.oneCell']), (by omega), (by omega)⟩ (nm := l.length + 1) (by omega) (all := (l ++ [i]).map iv) (by simp [iv])) ?_
          rintro ⟨a47, c47⟩ h47
          refine Wl.q rfl rfl (OpQ.assign rfl) ?_
          refine Wl.nil ?_
          refine PX.then_n ?_
          -- region 17: relation.go:191
          refine CT.region ?_
          refine Wl.q rfl rfl (OpQ.move rfl) ?_
          refine Wl.q rfl rfl (OpQ.move rfl) ?_
          refine Wl.q rfl rfl (OpQ.ushlN (p := 1#64) rfl rfl) ?_
          refine Wl.q rfl rfl (OpQ.uandNot rfl rfl) ?_
          refine Wl.q rfl rfl (OpQ.assign rfl) ?_
          refine Wl.nil ?_
          refine PX.block_n ?_
          exact PX.loop hK0 (r &&& ~~~(1#64 <<< i), l ++ [i], a47, c47) (show tpF (transR xs) (memM (r &&& ~~~(1#64 <<< i))).length (r &&& ~~~(1#64 <<< i)) (l ++ [i]) = topR xs ∧ (∀ j, (r &&& ~~~(1#64 <<< i)).getLsbD j = true → j < xs.length) ∧ (l ++ [i]).length + (memM (r &&& ~~~(1#64 <<< i))).length = xs.length from ⟨by rw [← tpF_some hphi.symm]; exact hrun, fun j hj => hin j (by rw [BitVec.getLsbD_and] at hj; simp at hj; exact hj.1), by simp; omega⟩) (show (memM (r &&& ~~~(1#64 <<< i))).length < (memM r).length by omega) ⟨rfl, rfl, (lkV rfl (by simp)), trivial⟩ (.drop (.keep (by simp) (.keep rfl .nil)))
    · -- if t22: else
      have hr0 : r = 0#64 := by simpa using h22
      refine CT.exit ?_
      refine PX.then_x ?_
      refine PX.then_x ?_
      refine PX.block_x ?_
      refine PX.then_n ?_
      refine CT.seq ?_
      -- region 18: relation.go:193
      refine CT.region ?_
      refine Wl.q rfl rfl (OpQ.move rfl) ?_
      refine Wl.q rfl rfl (OpQ.assign rfl) ?_
      refine Wl.q rfl rfl (OpQ.assign rfl) ?_
      refine Wl.nil ?_
      refine PX.then_n ?_
      refine CT.ret ?_
      refine PX.ret2 rfl rfl rfl (fun w' hH => ?_)
      have he : topR xs = some l := by rw [← hrun, hr0, memM_zero]; rfl
      rw [he]; exact hH.newRow2 _ .here

theorem K_go39 : isGo Tryd.prog 39 = true := by kernel_rfl
theorem K_go42 : isGo Tryd.prog 42 = true := by kernel_rfl
set_option maxRecDepth 100000 in
/-- semigroup/semigroupref02.Topological -/
theorem topoR_spec (w : World) (a0 : Option Addr) (cp : Nat) (xs : List (BitVec 64)) (hr : Rd w a0 (xs.map u)) (hn : xs.length ≤ 64) : Calls Tryd.prog 30 #[.slice a0 xs.length cp] w (fun e w' => New2 3 1 w w' e ((topE xs).getD []).length (((topE xs).getD []).map iv) (.bool (topE xs).isSome)) := by
  have sm : 0 < xs.length → a0.isSome = true := fun h => hr.isSome (j := 0) (by simpa using h)
  refine enter (args := [.slice a0 xs.length cp]) [] 67 Tryd.func30 rfl rfl rfl ?_
  refine CT.seq ?_
  -- region 0: ref.go:145
  refine CT.region ?_
  refine Wl.q rfl rfl (OpQ.assign rfl) ?_
  refine Wl.q rfl rfl (OpQ.assign rfl) ?_
  refine Wl.nil ?_
  refine PX.then_n ?_
  refine CT.seq ?_
  -- region 1: ref.go:146
  refine CT.region ?_
  refine Wl.q rfl rfl (OpQ.assign rfl) ?_
  refine Wl.nil ?_
  refine PX.then_n ?_
  refine CT.seq ?_
  -- region 2: ref.go:147
  refine CT.region ?_
  refine Wl.q rfl rfl (OpQ.assign rfl) ?_
  refine Wl.nil ?_
  refine PX.then_n ?_
  refine CT.seq ?_
  refine CT.block ?_
  -- the loop at region 3
  refine CT.nilrow 3 1 ?_
  refine CT.loop (ι := W64 × List Nat × Option Addr × Nat) (fun (r, l, a, c) => rpF xs (xs.length - l.length) r l = topE xs ∧ l.length ≤ xs.length) (fun (r, l, a, c) => [(0, .slice a0 xs.length cp), (4, .slice a l.length c), (5, u r)]) (fun (r, l, a, c) => [.row 3 1 (.slice a l.length c) l.length (l.map iv)]) (fun (r, l, a, c) => xs.length - l.length) (0#64, [], none, 0) ⟨rfl, by simp⟩ ⟨rfl, rfl, rfl, trivial⟩ (HSub.refl _) (fun ⟨r, l, a, c⟩ ⟨hrun, hlen⟩ K0 hK0 => ?_)
  dsimp only
  refine CT.seq ?_
  refine CT.seq ?_
  -- region 3: ref.go:148
  refine CT.region ?_
  refine Wl.q rfl rfl (OpQ.move rfl) ?_
  refine Wl.q rfl rfl (OpQ.len K_un25 rfl) ?_
  refine Wl.q rfl rfl (OpQ.move rfl) ?_
  refine Wl.q rfl rfl (OpQ.len K_un22 rfl) ?_
  refine Wl.q rfl rfl (OpQ.lss rfl rfl) ?_
  refine Wl.nil ?_
  refine PX.then_n ?_
  refine CT.cond rfl (fun h14 => ?_) (fun h14 => ?_)
  · -- if t14: then
    have h14 := of_decide_eq_true h14
    refine CT.skip ?_
    refine PX.then_n ?_
    refine CT.block ?_
    refine CT.seq ?_
    -- region 4: ref.go:149
    refine CT.region ?_
    refine Wl.q rfl rfl (OpQ.assign rfl) ?_
    refine Wl.nil ?_
    refine PX.then_n ?_
    refine CT.cut (ι := Option Nat × Option Addr × Nat) (Φ := fun (o, a', c') => o = (List.range xs.length).find? (fun z => frA xs r z xs.length)) (E' := fun (o, a', c') => [(0, .slice a0 xs.length cp), (4, .slice a' (lx l o).length c'), (5, u (ux r o)), (6, .bool o.isSome)]) (H' := fun (o, a', c') => [.row 3 1 (.slice a' (lx l o).length c') (lx l o).length ((lx l o).map iv)]) (fun K1 hK1 => ?_) (fun ⟨o, a', c'⟩ ho => ?_)
    · -- up to the join
      refine CT.seq ?_
      -- region 5: ref.go:150
      refine CT.region ?_
      refine Wl.q rfl rfl (OpQ.assign rfl) ?_
      refine Wl.nil ?_
      refine PX.then_n ?_
      refine CT.block ?_
      -- the loop at region 6
      refine CT.loop (ι := Nat × Option Nat × Option Addr × Nat) (fun (i, o, a', c') => i ≤ xs.length ∧ o = (List.range i).find? (fun z => frA xs r z xs.length)) (fun (i, o, a', c') => [(0, .slice a0 xs.length cp), (4, .slice a' (lx l o).length c'), (5, u (ux r o)), (6, .bool o.isSome), (7, .int .i64 (i : Int))]) (fun (i, o, a', c') => [.row 3 1 (.slice a' (lx l o).length c') (lx l o).length ((lx l o).map iv)]) (fun (i, o, a', c') => xs.length - i) (0, none, a, c) ⟨by omega, rfl⟩ ⟨rfl, rfl, rfl, rfl, rfl, trivial⟩ (HSub.refl _) (fun ⟨i, o, a', c'⟩ ⟨hi, ho⟩ K2 hK2 => ?_)
      dsimp only
      refine CT.seq ?_
      refine CT.seq ?_
      -- region 6: ref.go:150
      refine CT.region ?_
      refine Wl.q rfl rfl (OpQ.move rfl) ?_
      refine Wl.q rfl rfl (OpQ.move rfl) ?_
      refine Wl.q rfl rfl (OpQ.len K_un22 rfl) ?_
      refine Wl.q rfl rfl (OpQ.lss rfl rfl) ?_
      refine Wl.q rfl rfl (OpQ.move rfl) ?_
      refine Wl.split 19 rfl (fun hg19 => ?_) (fun hg19 => ?_)
      · -- t19 = True
        have hg19 := of_decide_eq_true hg19
        refine Wl.q rfl rfl (OpQ.move rfl) ?_
        refine Wl.q rfl rfl (OpQ.not rfl) ?_
        refine Wl.q rfl rfl (OpQ.pickT rfl rfl) ?_
        refine Wl.nil ?_
        refine PX.then_n ?_
        refine CT.cond rfl (fun h22 => ?_) (fun h22 => ?_)
        · -- if t22: then
          obtain rfl : o = none := by simpa using h22
          dsimp only [lx, ux, Option.isSome_none]
          refine CT.skip ?_
          refine PX.then_n ?_
          refine CT.seq ?_
          refine CT.block ?_
          refine CT.seq ?_
          -- region 8: ref.go:151
          refine CT.region ?_
          refine Wl.q rfl rfl (OpQ.move rfl) ?_
          refine Wl.q rfl rfl (OpQ.move rfl) ?_
          refine Wl.g rfl rfl (OpG.callV K_go39 rfl (fun w hH => has_spec w r _ (by omega))) ?_
          rintro _ _
          refine Wl.q rfl rfl (OpQ.not rfl) ?_
          refine Wl.q rfl rfl (OpQ.assign rfl) ?_
          refine Wl.nil ?_
          refine PX.then_n ?_
          refine CT.seq ?_
          refine CT.seq ?_
          -- region 9: ref.go:152
          refine CT.region ?_
          refine Wl.q rfl rfl (OpQ.move rfl) ?_
          refine Wl.q rfl rfl (OpQ.len K_un22 rfl) ?_
          refine Wl.q rfl rfl (OpQ.move rfl) ?_
          refine Wl.nil ?_
          refine PX.then_n ?_
          refine CT.block ?_
          -- the loop at region 10
          refine CT.loop (ι := Nat) (fun k => k ≤ xs.length) (fun k => [(0, .slice a0 xs.length cp), (4, .slice a' l.length c'), (5, u r), (6, .bool false), (7, .int .i64 (i : Int)), (8, .bool (frA xs r i k)), (30, .int .i64 (xs.length : Int)), (31, .int .i64 (k : Int))]) (fun _ => [.row 3 1 (.slice a' l.length c') l.length (l.map iv)]) (fun k => xs.length - k) 0 (by omega) ⟨rfl, rfl, rfl, rfl, rfl, rfl, rfl, rfl, trivial⟩ (HSub.refl _) (fun k hk K3 hK3 => ?_)
          refine CT.seq ?_
          -- region 10: ref.go:152
          refine CT.region ?_
          refine Wl.q rfl rfl (OpQ.lss rfl rfl) ?_
          refine Wl.nil ?_
          refine PX.then_n ?_
          refine CT.seq ?_
          refine CT.cond rfl (fun h32 => ?_) (fun h32 => ?_)
          · -- if t32: then
            have h32 := of_decide_eq_true h32
            refine CT.skip ?_
            refine PX.then_n ?_
            refine CT.seq ?_
            refine CT.block ?_
            refine CT.seq ?_
            -- region 11: ref.go:152
            refine CT.region ?_
            refine Wl.q rfl rfl (OpQ.move rfl) ?_
            refine Wl.q rfl rfl (OpQ.assign rfl) ?_
            refine Wl.nil ?_
            refine PX.then_n ?_
            -- region 12: ref.go:153
            refine CT.region ?_
            refine Wl.q rfl rfl (OpQ.move rfl) ?_
            refine Wl.q rfl rfl (OpQ.move rfl) ?_
            refine Wl.split 35 rfl (fun hg35 => ?_) (fun hg35 => ?_)
            · -- t35 = True
              refine Wl.q rfl rfl (OpQ.move rfl) ?_
              refine Wl.q rfl rfl (OpQ.move rfl) ?_
              refine Wl.q rfl rfl (OpQ.eql rfl rfl) ?_
              refine Wl.q rfl rfl (OpQ.move rfl) ?_
              refine Wl.split 39 rfl (fun hg39 => ?_) (fun hg39 => ?_)
              · -- t39 = True
                refine Wl.skip rfl rfl ?_
                refine Wl.skip rfl rfl ?_
                refine Wl.skip rfl rfl ?_
                refine Wl.q rfl rfl (OpQ.pickT rfl rfl) ?_
                refine Wl.q rfl rfl (OpQ.move rfl) ?_
                refine Wl.skip rfl rfl ?_
                refine Wl.skip rfl rfl ?_
                refine Wl.skip rfl rfl ?_
                refine Wl.skip rfl rfl ?_
                refine Wl.skip rfl rfl ?_
                refine Wl.skip rfl rfl ?_
                refine Wl.skip rfl rfl ?_
                refine Wl.q rfl rfl (OpQ.pickT rfl rfl) ?_
                refine Wl.q rfl rfl (OpQ.pickT rfl rfl) ?_
                refine Wl.q rfl rfl (OpQ.assign rfl) ?_
                refine Wl.nil ?_
                refine PX.block_n ?_
                refine PX.then_n ?_
                -- region 13: ref.go:152
                refine CT.region ?_
                refine Wl.q rfl rfl (OpQ.add rfl rfl (by omega)) ?_
                refine Wl.q rfl rfl (OpQ.move rfl) ?_
                refine Wl.nil ?_
                exact PX.loop hK3 (k + 1) (by omega) (by first | omega | (dsimp only; omega)) ⟨rfl, rfl, rfl, rfl, rfl, (lkV rfl (by simp [frA, hg35, hg39])), rfl, rfl, trivial⟩ (HSub.refl _)
              · -- t39 = False
                refine Wl.q rfl rfl (OpQ.move rfl) ?_
                refine Wl.q rfl rfl (OpQ.move rfl) ?_
                refine Wl.g rfl rfl (OpG.callV K_go39 rfl (fun w hH => has_spec w r _ (by omega))) ?_
                rintro _ _
                refine Wl.q rfl rfl (OpQ.pickF rfl rfl) ?_
                refine Wl.q rfl rfl (OpQ.move rfl) ?_
                refine Wl.split 44 rfl (fun hg44 => ?_) (fun hg44 => ?_)
                · -- t44 = True
                  refine Wl.skip rfl rfl ?_
                  refine Wl.skip rfl rfl ?_
                  refine Wl.skip rfl rfl ?_
                  refine Wl.skip rfl rfl ?_
                  refine Wl.skip rfl rfl ?_
                  refine Wl.skip rfl rfl ?_
                  refine Wl.skip rfl rfl ?_
                  refine Wl.q rfl rfl (OpQ.pickT rfl rfl) ?_
                  refine Wl.q rfl rfl (OpQ.pickT rfl rfl) ?_
                  refine Wl.q rfl rfl (OpQ.assign rfl) ?_
                  refine Wl.nil ?_
                  refine PX.block_n ?_
                  refine PX.then_n ?_
                  -- region 13: ref.go:152
                  refine CT.region ?_
                  refine Wl.q rfl rfl (OpQ.add rfl rfl (by omega)) ?_
                  refine Wl.q rfl rfl (OpQ.move rfl) ?_
                  refine Wl.nil ?_
                  exact PX.loop hK3 (k + 1) (by omega) (by first | omega | (dsimp only; omega)) ⟨rfl, rfl, rfl, rfl, rfl, (lkV rfl (by simp [frA, hg35, hg44])), rfl, rfl, trivial⟩ (HSub.refl _)
                · -- t44 = False
                  refine Wl.q rfl rfl (OpQ.move rfl) ?_
                  refine Wl.q rfl rfl (OpQ.move rfl) ?_
                  refine Wl.q rfl rfl (OpQ.index1 K_un22 K_sz23 rfl rfl (by omega) (sm (by omega))) ?_
                  refine Wl.q rfl rfl (OpQ.loadRd K_sc23 rfl rfl hr (getMap u xs 0#64 (j := k) (by omega))) ?_
                  refine Wl.q rfl rfl (OpQ.move rfl) ?_
                  refine Wl.g rfl rfl (OpG.callV K_go39 rfl (fun w hH => has_spec w _ _ (by omega))) ?_
                  rintro _ _
                  refine Wl.q rfl rfl (OpQ.not rfl) ?_
                  refine Wl.q rfl rfl (OpQ.pickF rfl rfl) ?_
                  refine Wl.q rfl rfl (OpQ.pickT rfl rfl) ?_
                  refine Wl.q rfl rfl (OpQ.assign rfl) ?_
                  refine Wl.nil ?_
                  refine PX.block_n ?_
                  refine PX.then_n ?_
                  -- region 13: ref.go:152
                  refine CT.region ?_
                  refine Wl.q rfl rfl (OpQ.add rfl rfl (by omega)) ?_
                  refine Wl.q rfl rfl (OpQ.move rfl) ?_
                  refine Wl.nil ?_
                  exact PX.loop hK3 (k + 1) (by omega) (by first | omega | (dsimp only; omega)) ⟨rfl, rfl, rfl, rfl, rfl, (lkV rfl (by simp [frA, hg35, hg39, hg44])), rfl, rfl, trivial⟩ (HSub.refl _)
            · -- t35 = False
              refine Wl.skip rfl rfl ?_
              refine Wl.skip rfl rfl ?_
              refine Wl.skip rfl rfl ?_
              refine Wl.skip rfl rfl ?_
              refine Wl.skip rfl rfl ?_
              refine Wl.skip rfl rfl ?_
              refine Wl.skip rfl rfl ?_
              refine Wl.skip rfl rfl ?_
              refine Wl.skip rfl rfl ?_
              refine Wl.skip rfl rfl ?_
              refine Wl.skip rfl rfl ?_
              refine Wl.skip rfl rfl ?_
              refine Wl.skip rfl rfl ?_
              refine Wl.skip rfl rfl ?_
              refine Wl.skip rfl rfl ?_
              refine Wl.skip rfl rfl ?_
              refine Wl.skip rfl rfl ?_
              refine Wl.q rfl rfl (OpQ.pickF rfl rfl) ?_
              refine Wl.q rfl rfl (OpQ.assign rfl) ?_
              refine Wl.nil ?_
              refine PX.block_n ?_
              refine PX.then_n ?_
              -- region 13: ref.go:152
              refine CT.region ?_
              refine Wl.q rfl rfl (OpQ.add rfl rfl (by omega)) ?_
              refine Wl.q rfl rfl (OpQ.move rfl) ?_
              refine Wl.nil ?_
              exact PX.loop hK3 (k + 1) (by omega) (by first | omega | (dsimp only; omega)) ⟨rfl, rfl, rfl, rfl, rfl, (lkV rfl (by simp [frA, hg35])), rfl, rfl, trivial⟩ (HSub.refl _)
          · -- if t32: else
            have h32 := of_decide_eq_false h32
            refine CT.exit ?_
            refine PX.then_x ?_
            refine PX.then_x ?_
            refine PX.block_x ?_
            refine PX.then_n ?_
            refine CT.seq ?_
            -- region 14: ref.go:155
            refine CT.region ?_
            refine Wl.q rfl rfl (OpQ.move rfl) ?_
            refine Wl.nil ?_
            refine PX.then_n ?_
            refine CT.cond rfl (fun h55 => ?_) (fun h55 => ?_)
            · -- if t55: then
              -- region 15: ref.go:156
              refine CT.region ?_
              refine Wl.q rfl rfl (OpQ.move rfl) ?_
              refine Wl.q rfl rfl (OpQ.move rfl) ?_
              refine Wl.g rfl rfl (OpG.lit1 K_un25 K_in3 rfl rfl rfl) ?_
              rintro b58 _
              obtain rfl : k = xs.length := by omega
              have hlen2 : l.length ≤ 64 := by omega
              refine Wl.g rfl rfl (OpG.append K_un25 K_in3 (by rfl) (by decide) rfl rfl (p := 1) rfl (fun w hH => hH.rd .here) ⟨rfl, (by simp [Value.oneCell']), (by omega), (by omega)⟩ (nm := l.length + 1) (by omega) (all := (l ++ [i]).map iv) (by simp [iv])) ?_
              rintro ⟨a59, c59⟩ h59
              refine Wl.q rfl rfl (OpQ.move rfl) ?_
              refine Wl.q rfl rfl (OpQ.move rfl) ?_
              refine Wl.g rfl rfl (OpG.callV K_go42 rfl (fun w hH => bit_spec w _ (by omega))) ?_
              rintro _ _
              refine Wl.q rfl rfl (OpQ.uor rfl rfl) ?_
              refine Wl.q rfl rfl (OpQ.assign rfl) ?_
              refine Wl.q rfl rfl (OpQ.assign rfl) ?_
              refine Wl.q rfl rfl (OpQ.assign rfl) ?_
              refine Wl.nil ?_
              refine PX.block_n ?_
              refine PX.then_n ?_
              -- region 7: ref.go:150
              refine CT.region ?_
              refine Wl.q rfl rfl (OpQ.move rfl) ?_
              refine Wl.q rfl rfl (OpQ.add rfl rfl (by omega)) ?_
              refine Wl.q rfl rfl (OpQ.assign rfl) ?_
              refine Wl.nil ?_
              exact PX.loop hK2 (i + 1, some i, a59, c59) ⟨by omega, by rw [find_succ ho.symm, h55]; rfl⟩ (by first | omega | (dsimp only; omega)) ⟨rfl, (lkV rfl (by simp [lx])), (lkV rfl (by simp [ux])), (lkV rfl (by simp)), rfl, trivial⟩ (.drop (.keep (by simp [lx]) .nil))
            · -- if t55: else
              refine CT.skip ?_
              refine PX.block_n ?_
              refine PX.then_n ?_
              -- region 7: ref.go:150
              refine CT.region ?_
              refine Wl.q rfl rfl (OpQ.move rfl) ?_
              refine Wl.q rfl rfl (OpQ.add rfl rfl (by omega)) ?_
              refine Wl.q rfl rfl (OpQ.assign rfl) ?_
              refine Wl.nil ?_
              obtain rfl : k = xs.length := by omega
              exact PX.loop hK2 (i + 1, none, a', c') ⟨by omega, by rw [find_succ ho.symm, h55]; rfl⟩ (by first | omega | (dsimp only; omega)) ⟨rfl, (lkV rfl (by simp [lx])), (lkV rfl (by simp [ux])), (lkV rfl (by simp)), rfl, trivial⟩ (.keep (by simp [lx]) .nil)
        · -- if t22: else
          refine CT.exit ?_
          refine PX.then_x ?_
          refine PX.then_x ?_
          refine PX.block_x ?_
          exact PX.cut hK1 (o, a', c') (by obtain ⟨z, hz⟩ := Option.isSome_iff_exists.1 (by simpa using h22 : o.isSome = true); rw [hz] at ho ⊢; exact (find_mono (by omega) ho.symm).symm) ⟨rfl, rfl, rfl, rfl, trivial⟩ (HSub.refl _)
      · -- t19 = False
        have hg19 := of_decide_eq_false hg19
        refine Wl.skip rfl rfl ?_
        refine Wl.skip rfl rfl ?_
        refine Wl.q rfl rfl (OpQ.pickF rfl rfl) ?_
        refine Wl.nil ?_
        refine PX.then_n ?_
        refine CT.condF rfl ?_
        refine CT.exit ?_
        refine PX.then_x ?_
        refine PX.then_x ?_
        refine PX.block_x ?_
        obtain rfl : i = xs.length := by omega
        exact PX.cut hK1 (o, a', c') ho ⟨rfl, rfl, rfl, rfl, trivial⟩ (HSub.refl _)
    · -- from the join on
      dsimp only
      refine CT.seq ?_
      -- region 16: ref.go:159
      refine CT.region ?_
      refine Wl.q rfl rfl (OpQ.move rfl) ?_
      refine Wl.q rfl rfl (OpQ.not rfl) ?_
      refine Wl.nil ?_
      refine PX.then_n ?_
      refine CT.cond rfl (fun h65 => ?_) (fun h65 => ?_)
      · -- if t65: then
        obtain rfl : o = none := by simpa using h65
        have hnone : topE xs = none := by rw [← hrun, show xs.length - l.length = (xs.length - (l.length + 1)) + 1 by omega, rpF_step ho.symm]; rfl
        refine CT.seq ?_
        -- region 17: ref.go:160
        refine CT.region ?_
        refine Wl.q rfl rfl (OpQ.assign rfl) ?_
        refine Wl.q rfl rfl (OpQ.assign rfl) ?_
        refine Wl.nil ?_
        refine PX.then_n ?_
        refine CT.ret ?_
        refine PX.block_r ?_
        refine PX.then_r ?_
        refine PX.block_r ?_
        refine PX.then_r ?_
        refine PX.ret2 rfl rfl rfl (fun w' hH => ?_)
        rw [hnone]; exact newNil2 _ hH.ext
      · -- if t65: else
        obtain ⟨z, rfl⟩ := Option.isSome_iff_exists.1 (by simpa using h65 : o.isSome = true)
        refine CT.skip ?_
        refine PX.block_n ?_
        exact PX.loop hK0 (ux r (some z), lx l (some z), a', c') ⟨by rw [← hrun, show xs.length - l.length = (xs.length - (l.length + 1)) + 1 by omega, rpF_step ho.symm]; simp [lx], by simp [lx]; omega⟩ (by simp [lx]; omega) ⟨rfl, rfl, rfl, trivial⟩ (HSub.refl _)
  · -- if t14: else
    have h14 := of_decide_eq_false h14
    refine CT.exit ?_
    refine PX.then_x ?_
    refine PX.then_x ?_
    refine PX.block_x ?_
    refine PX.then_n ?_
    refine CT.seq ?_
    -- region 18: ref.go:163
    refine CT.region ?_
    refine Wl.q rfl rfl (OpQ.move rfl) ?_
    refine Wl.q rfl rfl (OpQ.assign rfl) ?_
    refine Wl.q rfl rfl (OpQ.assign rfl) ?_
    refine Wl.nil ?_
    refine PX.then_n ?_
    refine CT.ret ?_
    refine PX.ret2 rfl rfl rfl (fun w' hH => ?_)
    have he : topE xs = some l := by rw [← hrun, show xs.length - l.length = 0 by omega]; rfl
    rw [he]; exact hH.newRow2 _ .here

theorem K_go31 : isGo Tryd.prog 31 = true := by kernel_rfl
theorem K_go26 : isGo Tryd.prog 26 = true := by kernel_rfl
theorem K_go38 : isGo Tryd.prog 38 = true := by kernel_rfl
set_option maxRecDepth 100000 in
/-- semigroup/relation.Components -/
theorem comp_spec (w : World) (a : Option Addr) (cp : Nat) (xs : List (BitVec 64)) (hr : Rd w a (xs.map u)) (hn : xs.length ≤ 9223372036854775807) (hT : Tab w) : Calls Tryd.prog 33 #[.slice a xs.length cp] w (fun e w' => New 3 1 w w' e (compN xs).length ((compN xs).map iv)) := by
  refine enter (args := [.slice a xs.length cp]) [] 49 Tryd.func33 rfl rfl rfl ?_
  refine CT.seq ?_
  -- region 0: relation.go:133
  refine CT.region ?_
  refine Wl.q rfl rfl (OpQ.assign rfl) ?_
  refine Wl.nil ?_
  refine PX.then_n ?_
  refine CT.seq ?_
  refine CT.seq ?_
  -- region 1: relation.go:134
  refine CT.region ?_
  refine Wl.q rfl rfl (OpQ.move rfl) ?_
  refine Wl.g rfl rfl (OpG.callV K_go37 rfl (fun w hH => valid_spec w a cp xs (hH.rd0 hr rfl) hn)) ?_
  rintro _ _
  refine Wl.q rfl rfl (OpQ.not rfl) ?_
  refine Wl.nil ?_
  refine PX.then_n ?_
  refine CT.cond rfl (fun h12 => ?_) (fun h12 => ?_)
  · -- if t12: then
    have hv : validB xs = false := by simpa using h12
    refine CT.seq ?_
    -- region 2: relation.go:135
    refine CT.region ?_
    refine Wl.q rfl rfl (OpQ.assign rfl) ?_
    refine Wl.nil ?_
    refine PX.then_n ?_
    refine CT.ret ?_
    refine PX.then_r ?_
    refine PX.ret1 rfl rfl (fun w' hH => ?_)
    rw [comp_no hv]; exact newNil hH.ext
  · -- if t12: else
    have hv : validB xs = true := by simpa using h12
    have hl := validB_le hv
    have hCL := closR_len hv
    have hCV := clos_valid hv
    refine CT.skip ?_
    refine PX.then_n ?_
    refine CT.seq ?_
    -- region 3: relation.go:137
    refine CT.region ?_
    refine Wl.q rfl rfl (OpQ.move rfl) ?_
    refine Wl.g rfl rfl (OpG.callR K_go31 rfl (fun w hH => closure_spec w a cp xs (hH.rd0 hr rfl) hn)) ?_
    rintro ⟨a14, c14⟩ h14
    refine Wl.q rfl rfl (OpQ.assign rfl) ?_
    refine Wl.nil ?_
    refine PX.then_n ?_
    refine CT.seq ?_
    -- region 4: relation.go:138
    refine CT.region ?_
    refine Wl.q rfl rfl (OpQ.move rfl) ?_
    refine Wl.q rfl rfl (OpQ.move rfl) ?_
    refine Wl.g rfl rfl (OpG.callR K_go27 rfl (fun w hH => trans_spec w a14 c14 (closR xs) (hH.rd (by repeat (first | exact Has.here | apply Has.there))) (le63 (closR_le _)) (hH.rd0 hT rfl))) ?_
    rintro ⟨a17, c17⟩ h17
    refine Wl.g rfl rfl (OpG.callR K_go26 rfl (fun w hH => meet_spec w a14 c14 (closR xs) (hH.rd (by repeat (first | exact Has.here | apply Has.there))) a17 c17 (transR (closR xs)) (hH.rd (by repeat (first | exact Has.here | apply Has.there))) (le63 (closR_le _)) (le63 (transR_le _)))) ?_
    rintro ⟨a18, c18⟩ h18
    have hML := mut_len hv
    refine Wl.q rfl rfl (OpQ.assign rfl) ?_
    refine Wl.nil ?_
    refine PX.then_n ?_
    refine CT.seq ?_
    -- region 5: relation.go:139
    refine CT.region ?_
    refine Wl.q rfl rfl (OpQ.move rfl) ?_
    refine Wl.q rfl rfl (OpQ.len K_un22 rfl) ?_
    refine Wl.g rfl rfl (OpG.make1 K_un25 K_in3 rfl rfl rfl rfl (by omega) (by omega)) ?_
    rintro b _
    refine Wl.q rfl rfl (OpQ.assign rfl) ?_
    refine Wl.nil ?_
    refine PX.then_n ?_
    refine CT.seq ?_
    -- region 6: relation.go:140
    refine CT.region ?_
    refine Wl.q rfl rfl (OpQ.assign rfl) ?_
    refine Wl.nil ?_
    refine PX.then_n ?_
    refine CT.seq ?_
    refine CT.seq ?_
    -- region 7: relation.go:141
    refine CT.region ?_
    refine Wl.q rfl rfl (OpQ.move rfl) ?_
    refine Wl.q rfl rfl (OpQ.len K_un22 rfl) ?_
    refine Wl.q rfl rfl (OpQ.move rfl) ?_
    refine Wl.nil ?_
    refine PX.then_n ?_
    refine CT.block ?_
    -- the loop at region 8
    refine CT.loop (ι := Nat) (fun k => k ≤ xs.length) (fun k => [(5, .slice (some ⟨b, 0, none⟩) xs.length xs.length), (6, .int .i64 (((cN (mutR xs) xs.length k).2 : Nat) : Int)), (22, .slice a18 (mutR xs).length c18), (23, .int .i64 ((mutR xs).length : Int)), (24, .int .i64 (k : Int))]) (fun k => [.row 3 1 (.slice (some ⟨b, 0, none⟩) xs.length xs.length) xs.length ((cN (mutR xs) xs.length k).1.map iv), .row 23 1 (.slice a18 (mutR xs).length c18) (mutR xs).length ((mutR xs).map u)]) (fun k => xs.length - k) 0 (by omega) ⟨rfl, (lkV rfl rfl), rfl, rfl, rfl, trivial⟩ (.keep (row_eq (by simp [cN, iv])) (.keep rfl (.drop (.drop .nil)))) (fun k hk K0 hK0 => ?_)
    have hcl := (cls (mut_eqv hv) k hk).le
    have hLn := cN_len (mutR xs) xs.length k
    have h18 : k < xs.length → a18.isSome = true := fun h => h18 (by rw [show (zipR (· &&& ·) (closR xs) (transR (closR xs))).length = xs.length from hML]; omega)
    refine CT.seq ?_
    -- region 8: relation.go:141
    refine CT.region ?_
    refine Wl.q rfl rfl (OpQ.lss rfl rfl) ?_
    refine Wl.nil ?_
    refine PX.then_n ?_
    refine CT.seq ?_
    refine CT.cond rfl (fun h25 => ?_) (fun h25 => ?_)
    · -- if t25: then
      have h25 := of_decide_eq_true h25
      refine CT.skip ?_
      refine PX.then_n ?_
      refine CT.seq ?_
      refine CT.block ?_
      refine CT.seq ?_
      -- region 9: relation.go:141
      refine CT.region ?_
      refine Wl.q rfl rfl (OpQ.move rfl) ?_
      refine Wl.q rfl rfl (OpQ.index1 K_un22 K_sz23 rfl rfl (by omega) (h18 (by omega))) ?_
      refine Wl.q rfl rfl (OpQ.loadRow K_sc23 rfl (.there .here) (getMap u (mutR xs) 0#64 (j := k) (by omega))) ?_
      refine Wl.q rfl rfl (OpQ.assign rfl) ?_
      refine Wl.q rfl rfl (OpQ.assign rfl) ?_
      refine Wl.nil ?_
      refine PX.then_n ?_
      refine CT.seq ?_
      refine CT.seq ?_
      -- region 10: relation.go:142
      refine CT.region ?_
      refine Wl.q rfl rfl (OpQ.move rfl) ?_
      refine Wl.g rfl rfl (OpG.callV K_go38 rfl (fun w hH => tz_spec w _ (hH.rd0 hT rfl))) ?_
      rintro _ _
      refine Wl.q rfl rfl (OpQ.assign rfl) ?_
      refine Wl.nil ?_
      refine PX.then_n ?_
      refine CT.seq ?_
      -- region 11: relation.go:142
      refine CT.region ?_
      refine Wl.q rfl rfl (OpQ.move rfl) ?_
      refine Wl.q rfl rfl (OpQ.move rfl) ?_
      refine Wl.q rfl rfl (OpQ.lss rfl rfl) ?_
      refine Wl.nil ?_
      refine PX.then_n ?_
      refine CT.cond rfl (fun h33 => ?_) (fun h33 => ?_)
      · -- if t33: then
        have h33 := of_decide_eq_true h33
        refine CT.seq ?_
        -- region 12: relation.go:143
        refine CT.region ?_
        refine Wl.q rfl rfl (OpQ.move rfl) ?_
        refine Wl.q rfl rfl (OpQ.move rfl) ?_
        refine Wl.q rfl rfl (OpQ.move rfl) ?_
        refine Wl.q rfl rfl (OpQ.move rfl) ?_
        refine Wl.q rfl rfl (OpQ.index1 K_un25 K_sz3 rfl rfl (by omega) rfl) ?_
        refine Wl.q rfl rfl (OpQ.loadRow K_sc3 rfl .here (getMap iv _ 0 (j := tz ((mutR xs).getD k 0#64)) (by omega))) ?_
        refine Wl.q rfl rfl (OpQ.index1 K_un25 K_sz3 rfl rfl (by omega) rfl) ?_
        refine Wl.g rfl rfl (OpG.storeRow K_sz3 rfl rfl rfl .here (by simp; omega)) ?_
        rintro _ _
        refine Wl.nil ?_
        refine PX.then_n ?_
        refine CT.exit ?_
        refine PX.then_x ?_
        refine PX.block_x ?_
        refine PX.then_n ?_
        -- region 15: relation.go:141
        refine CT.region ?_
        refine Wl.q rfl rfl (OpQ.add rfl rfl (by omega)) ?_
        refine Wl.q rfl rfl (OpQ.move rfl) ?_
        refine Wl.nil ?_
        exact PX.loop hK0 (k + 1) (by omega) (by first | omega | (dsimp only; omega)) ⟨rfl, (lkV rfl (by rw [cN_hit (by omega)])), rfl, rfl, rfl, trivial⟩ (.keep (row_eq (by rw [cN_hit (by omega)]; exact mapSet iv _ _ _)) (.keep rfl .nil))
      · -- if t33: else
        have h33 := of_decide_eq_false h33
        refine CT.skip ?_
        refine PX.then_n ?_
        refine CT.seq ?_
        -- region 13: relation.go:146
        refine CT.region ?_
        refine Wl.q rfl rfl (OpQ.move rfl) ?_
        refine Wl.q rfl rfl (OpQ.move rfl) ?_
        refine Wl.q rfl rfl (OpQ.move rfl) ?_
        refine Wl.q rfl rfl (OpQ.index1 K_un25 K_sz3 rfl rfl (by omega) rfl) ?_
        refine Wl.g rfl rfl (OpG.storeRow K_sz3 rfl rfl rfl .here (by simp; omega)) ?_
        rintro _ _
        refine Wl.nil ?_
        refine PX.then_n ?_
        -- region 14: relation.go:147
        refine CT.region ?_
        refine Wl.q rfl rfl (OpQ.move rfl) ?_
        refine Wl.q rfl rfl (OpQ.add rfl rfl (by omega)) ?_
        refine Wl.q rfl rfl (OpQ.assign rfl) ?_
        refine Wl.nil ?_
        refine PX.block_n ?_
        refine PX.then_n ?_
        -- region 15: relation.go:141
        refine CT.region ?_
        refine Wl.q rfl rfl (OpQ.add rfl rfl (by omega)) ?_
        refine Wl.q rfl rfl (OpQ.move rfl) ?_
        refine Wl.nil ?_
        exact PX.loop hK0 (k + 1) (by omega) (by first | omega | (dsimp only; omega)) ⟨rfl, (lkV rfl (by rw [cN_miss (by omega)]; simp)), rfl, rfl, rfl, trivial⟩ (.keep (row_eq (by rw [cN_miss (by omega)]; exact mapSet iv _ _ _)) (.keep rfl .nil))
    · -- if t25: else
      have h25 := of_decide_eq_false h25
      refine CT.exit ?_
      refine PX.then_x ?_
      refine PX.then_x ?_
      refine PX.block_x ?_
      refine PX.then_n ?_
      refine CT.seq ?_
      -- region 16: relation.go:149
      refine CT.region ?_
      refine Wl.q rfl rfl (OpQ.move rfl) ?_
      refine Wl.q rfl rfl (OpQ.assign rfl) ?_
      refine Wl.nil ?_
      refine PX.then_n ?_
      refine CT.ret ?_
      refine PX.ret1 rfl rfl (fun w' hH => ?_)
      obtain rfl : k = xs.length := by omega
      have := hH.newRow .here
      rw [compN, if_yes hv, cN_len]; exact this

theorem K_go33 : isGo Tryd.prog 33 = true := by kernel_rfl
theorem K_in23 : (Tryd.prog.info? 23).map (fun i => (i.zero, i.size, i.bytes)) = some (some (.int .u64 0), 1, 8) := by kernel_rfl
set_option maxRecDepth 100000 in
/-- semigroup/relation.Order -/
theorem order_spec (w : World) (a : Option Addr) (cp : Nat) (xs : List (BitVec 64)) (hr : Rd w a (xs.map u)) (hn : xs.length ≤ 9223372036854775807) (hT : Tab w) : Calls Tryd.prog 34 #[.slice a xs.length cp] w (fun e w' => New 23 1 w w' e (ordR xs).length ((ordR xs).map u)) := by
  refine enter (args := [.slice a xs.length cp]) [] 62 Tryd.func34 rfl rfl rfl ?_
  refine CT.seq ?_
  -- region 0: relation.go:153
  refine CT.region ?_
  refine Wl.q rfl rfl (OpQ.assign rfl) ?_
  refine Wl.nil ?_
  refine PX.then_n ?_
  refine CT.seq ?_
  refine CT.seq ?_
  -- region 1: relation.go:154
  refine CT.region ?_
  refine Wl.q rfl rfl (OpQ.move rfl) ?_
  refine Wl.g rfl rfl (OpG.callV K_go37 rfl (fun w hH => valid_spec w a cp xs (hH.rd0 hr rfl) hn)) ?_
  rintro _ _
  refine Wl.q rfl rfl (OpQ.not rfl) ?_
  refine Wl.nil ?_
  refine PX.then_n ?_
  refine CT.cond rfl (fun h14 => ?_) (fun h14 => ?_)
  · -- if t14: then
    have hv : validB xs = false := by simpa using h14
    refine CT.seq ?_
    -- region 2: relation.go:155
    refine CT.region ?_
    refine Wl.q rfl rfl (OpQ.assign rfl) ?_
    refine Wl.nil ?_
    refine PX.then_n ?_
    refine CT.ret ?_
    refine PX.then_r ?_
    refine PX.ret1 rfl rfl (fun w' hH => ?_)
    rw [ord_no hv]; exact newNil hH.ext
  · -- if t14: else
    have hv : validB xs = true := by simpa using h14
    have hl := validB_le hv
    have hCL := closR_len hv
    have hCV := clos_valid hv
    refine CT.skip ?_
    refine PX.then_n ?_
    refine CT.seq ?_
    -- region 3: relation.go:157
    refine CT.region ?_
    refine Wl.q rfl rfl (OpQ.move rfl) ?_
    refine Wl.g rfl rfl (OpG.callR K_go33 rfl (fun w hH => comp_spec w a cp xs (hH.rd0 hr rfl) hn (hH.rd0 hT rfl))) ?_
    rintro ⟨a16, c16⟩ h16
    have hPL := comp_len hv
    have hPb : ∀ i, i < xs.length → (compN xs).getD i 0 < mxN (compN xs) xs.length := fun i hi => lt_mxN hi
    have hM64 : mxN (compN xs) xs.length ≤ xs.length := by rw [comp_mx hv]; exact (comp_cls hv).le
    refine Wl.q rfl rfl (OpQ.assign rfl) ?_
    refine Wl.nil ?_
    refine PX.then_n ?_
    refine CT.seq ?_
    -- region 4: relation.go:158
    refine CT.region ?_
    refine Wl.q rfl rfl (OpQ.assign rfl) ?_
    refine Wl.nil ?_
    refine PX.then_n ?_
    refine CT.seq ?_
    refine CT.seq ?_
    -- region 5: relation.go:159
    refine CT.region ?_
    refine Wl.q rfl rfl (OpQ.move rfl) ?_
    refine Wl.q rfl rfl (OpQ.len K_un25 rfl) ?_
    refine Wl.q rfl rfl (OpQ.move rfl) ?_
    refine Wl.nil ?_
    refine PX.then_n ?_
    refine CT.block ?_
    -- the loop at region 6
    refine CT.loop (ι := Nat) (fun k => k ≤ xs.length) (fun k => [(0, .slice a xs.length cp), (3, .slice a16 (compN xs).length c16), (4, .int .i64 ((mxN (compN xs) k : Nat) : Int)), (17, .slice a16 (compN xs).length c16), (18, .int .i64 ((compN xs).length : Int)), (19, .int .i64 (k : Int))]) (fun k => [.row 3 1 (.slice a16 (compN xs).length c16) (compN xs).length ((compN xs).map iv)]) (fun k => xs.length - k) 0 (by omega) ⟨rfl, rfl, (lkV rfl rfl), rfl, rfl, rfl, trivial⟩ (HSub.refl _) (fun k hk K0 hK0 => ?_)
    have hPk := hPb k
    refine CT.seq ?_
    -- region 6: relation.go:159
    refine CT.region ?_
    refine Wl.q rfl rfl (OpQ.lss rfl rfl) ?_
    refine Wl.nil ?_
    refine PX.then_n ?_
    refine CT.seq ?_
    refine CT.cond rfl (fun h20 => ?_) (fun h20 => ?_)
    · -- if t20: then
      have h20 := of_decide_eq_true h20
      refine CT.skip ?_
      refine PX.then_n ?_
      refine CT.seq ?_
      refine CT.block ?_
      refine CT.seq ?_
      -- region 7: relation.go:159
      refine CT.region ?_
      refine Wl.q rfl rfl (OpQ.index1 K_un25 K_sz3 rfl rfl (by omega) (h16 (by omega))) ?_
      refine Wl.q rfl rfl (OpQ.loadRow K_sc3 rfl .here (getMap iv _ 0 (j := k) (by omega))) ?_
      refine Wl.q rfl rfl (OpQ.assign rfl) ?_
      refine Wl.nil ?_
      refine PX.then_n ?_
      -- region 8: relation.go:160
      refine CT.region ?_
      refine Wl.q rfl rfl (OpQ.move rfl) ?_
      refine Wl.q rfl rfl (OpQ.move rfl) ?_
      refine Wl.q rfl rfl (OpQ.add rfl rfl (by omega)) ?_
      refine Wl.q rfl rfl (OpQ.max rfl rfl) ?_
      refine Wl.q rfl rfl (OpQ.assign rfl) ?_
      refine Wl.nil ?_
      refine PX.block_n ?_
      refine PX.then_n ?_
      -- region 9: relation.go:159
      refine CT.region ?_
      refine Wl.q rfl rfl (OpQ.add rfl rfl (by omega)) ?_
      refine Wl.q rfl rfl (OpQ.move rfl) ?_
      refine Wl.nil ?_
      exact PX.loop hK0 (k + 1) (by omega) (by first | omega | (dsimp only; omega)) ⟨rfl, rfl, (lkV rfl (congrArg (Value.int .i64) (by simp only [mxN]; split <;> omega))), rfl, rfl, rfl, trivial⟩ (HSub.refl _)
    · -- if t20: else
      have h20 := of_decide_eq_false h20
      refine CT.exit ?_
      refine PX.then_x ?_
      refine PX.then_x ?_
      refine PX.block_x ?_
      refine PX.then_n ?_
      refine CT.seq ?_
      -- region 10: relation.go:162
      refine CT.region ?_
      refine Wl.q rfl rfl (OpQ.move rfl) ?_
      obtain rfl : k = xs.length := by omega
      refine Wl.g rfl rfl (OpG.make1 K_un22 K_in23 rfl rfl rfl rfl (by omega) (by omega)) ?_
      rintro b _
      refine Wl.q rfl rfl (OpQ.assign rfl) ?_
      refine Wl.nil ?_
      refine PX.then_n ?_
      refine CT.seq ?_
      refine CT.seq ?_
      -- region 11: relation.go:163
      refine CT.region ?_
      refine Wl.q rfl rfl (OpQ.move rfl) ?_
      refine Wl.g rfl rfl (OpG.callR K_go31 rfl (fun w hH => closure_spec w a cp xs (hH.rd0 hr rfl) hn)) ?_
      rintro ⟨a31, c31⟩ h31
      refine Wl.q rfl rfl (OpQ.len K_un22 rfl) ?_
      refine Wl.q rfl rfl (OpQ.move rfl) ?_
      refine Wl.nil ?_
      refine PX.then_n ?_
      refine CT.block ?_
      -- the loop at region 12
      refine CT.loop (ι := Nat) (fun i => i ≤ xs.length) (fun i => [(3, .slice a16 (compN xs).length c16), (7, .slice (some ⟨b, 0, none⟩) (mxN (compN xs) xs.length) (mxN (compN xs) xs.length)), (31, .slice a31 (closR xs).length c31), (32, .int .i64 ((closR xs).length : Int)), (33, .int .i64 (i : Int))]) (fun i => [.row 23 1 (.slice a31 (closR xs).length c31) (closR xs).length ((closR xs).map u), .row 23 1 (.slice (some ⟨b, 0, none⟩) (mxN (compN xs) xs.length) (mxN (compN xs) xs.length)) (mxN (compN xs) xs.length) (((oOut (compN xs) (closR xs) (mxN (compN xs) xs.length) i)).map u), .row 3 1 (.slice a16 (compN xs).length c16) (compN xs).length ((compN xs).map iv)]) (fun i => xs.length - i) 0 (by omega) ⟨rfl, rfl, rfl, rfl, rfl, trivial⟩ (.keep rfl (.keep (row_eq (by simp [oOut])) (.keep rfl .nil))) (fun i hi K1 hK1 => ?_)
      refine CT.seq ?_
      -- region 12: relation.go:163
      refine CT.region ?_
      refine Wl.q rfl rfl (OpQ.lss rfl rfl) ?_
      refine Wl.nil ?_
      refine PX.then_n ?_
      refine CT.seq ?_
      refine CT.cond rfl (fun h34 => ?_) (fun h34 => ?_)
      · -- if t34: then
        have h34 := of_decide_eq_true h34
        refine CT.skip ?_
        refine PX.then_n ?_
        refine CT.seq ?_
        refine CT.block ?_
        refine CT.seq ?_
        -- region 13: relation.go:163
        refine CT.region ?_
        refine Wl.q rfl rfl (OpQ.move rfl) ?_
        refine Wl.q rfl rfl (OpQ.index1 K_un22 K_sz23 rfl rfl (by omega) (h31 (by omega))) ?_
        refine Wl.q rfl rfl (OpQ.loadRow K_sc23 rfl .here (getMap u (closR xs) 0#64 (j := i) (by omega))) ?_
        refine Wl.q rfl rfl (OpQ.assign rfl) ?_
        refine Wl.q rfl rfl (OpQ.assign rfl) ?_
        refine Wl.nil ?_
        refine PX.then_n ?_
        refine CT.seq ?_
        -- region 14: relation.go:164
        refine CT.region ?_
        refine Wl.q rfl rfl (OpQ.move rfl) ?_
        refine Wl.g rfl rfl (OpG.callR K_go15 rfl (fun w hH => members_spec w _ (hH.rd0 hT rfl))) ?_
        rintro ⟨a39, c39⟩ h39
        have hml := memM_len ((closR xs).getD i 0#64)
        have hPi := hPb i
        refine Wl.q rfl rfl (OpQ.len K_un25 rfl) ?_
        refine Wl.q rfl rfl (OpQ.move rfl) ?_
        refine Wl.nil ?_
        refine PX.then_n ?_
        refine CT.block ?_
        -- the loop at region 15
        refine CT.loop (ι := Nat) (fun k => k ≤ (memM ((closR xs).getD i 0#64)).length) (fun k => [(3, .slice a16 (compN xs).length c16), (7, .slice (some ⟨b, 0, none⟩) (mxN (compN xs) xs.length) (mxN (compN xs) xs.length)), (8, .int .i64 (i : Int)), (31, .slice a31 (closR xs).length c31), (32, .int .i64 ((closR xs).length : Int)), (33, .int .i64 (i : Int)), (39, .slice a39 (memM ((closR xs).getD i 0#64)).length c39), (40, .int .i64 ((memM ((closR xs).getD i 0#64)).length : Int)), (41, .int .i64 (k : Int))]) (fun k => [.row 3 1 (.slice a39 (memM ((closR xs).getD i 0#64)).length c39) (memM ((closR xs).getD i 0#64)).length ((memM ((closR xs).getD i 0#64)).map iv), .row 23 1 (.slice a31 (closR xs).length c31) (closR xs).length ((closR xs).map u), .row 23 1 (.slice (some ⟨b, 0, none⟩) (mxN (compN xs) xs.length) (mxN (compN xs) xs.length)) (mxN (compN xs) xs.length) ((oF (compN xs) i ((memM ((closR xs).getD i 0#64)).take k) (oOut (compN xs) (closR xs) (mxN (compN xs) xs.length) i)).map u), .row 3 1 (.slice a16 (compN xs).length c16) (compN xs).length ((compN xs).map iv)]) (fun k => (memM ((closR xs).getD i 0#64)).length - k) 0 (by omega) ⟨rfl, rfl, rfl, rfl, rfl, rfl, rfl, rfl, rfl, trivial⟩ (.keep rfl (.keep rfl (.keep (row_eq (by simp [oF])) (.keep rfl .nil)))) (fun k hk K2 hK2 => ?_)
        have hL : ∀ k, (oF (compN xs) i ((memM ((closR xs).getD i 0#64)).take k) (oOut (compN xs) (closR xs) (mxN (compN xs) xs.length) i)).length = (mxN (compN xs) xs.length) := fun k => by rw [oF_len, oOut_len]
        refine CT.seq ?_
        -- region 15: relation.go:164
        refine CT.region ?_
        refine Wl.q rfl rfl (OpQ.lss rfl rfl) ?_
        refine Wl.nil ?_
        refine PX.then_n ?_
        refine CT.seq ?_
        refine CT.cond rfl (fun h42 => ?_) (fun h42 => ?_)
        · -- if t42: then
          have h42 := of_decide_eq_true h42
          refine CT.skip ?_
          refine PX.then_n ?_
          refine CT.seq ?_
          refine CT.block ?_
          refine CT.seq ?_
          -- region 16: relation.go:164
          refine CT.region ?_
          refine Wl.q rfl rfl (OpQ.index1 K_un25 K_sz3 rfl rfl (by omega) (h39 (by omega))) ?_
          refine Wl.q rfl rfl (OpQ.loadRow K_sc3 rfl .here (getMap iv _ 0 (j := k) (by omega))) ?_
          have hmk := valid_mem hCV (i := i) (k := k) (by omega) (by omega)
          have hPj := hPb ((memM ((closR xs).getD i 0#64)).getD k 0) (by omega)
          have hPi := hPb i (by omega)
          refine Wl.q rfl rfl (OpQ.assign rfl) ?_
          refine Wl.nil ?_
          refine PX.then_n ?_
          -- region 17, drawn: relation.go:165
          refine CT.draw 14 K_mixed ?_
          refine RA.q 0 (by kernel_rfl) rfl rfl rfl (.refl _) (OpQ.move rfl) ?_
          refine RA.q 1 (by kernel_rfl) rfl rfl rfl (.refl _) (OpQ.move rfl) ?_
          refine RA.q 2 (by kernel_rfl) rfl rfl rfl (.refl _) (OpQ.move rfl) ?_
          refine RA.q 3 (by kernel_rfl) rfl rfl rfl (.refl _) (OpQ.index1 K_un25 K_sz3 rfl rfl (by omega) (h16 (by omega))) ?_
          refine RA.q 4 (by kernel_rfl) rfl rfl rfl (.refl _) (OpQ.loadRow K_sc3 rfl (.there (.there (.there .here))) (getMap iv (compN xs) 0 (j := i) (by omega))) ?_
          refine RA.q 5 (by kernel_rfl) rfl rfl rfl (.refl _) (OpQ.index1 K_un22 K_sz23 rfl rfl ⟨Int.natCast_nonneg _, by omega⟩ rfl) ?_
          refine RA.q 6 (by kernel_rfl) rfl rfl rfl (.refl _) (OpQ.loadRow K_sc23 rfl (.there (.there .here)) (getMap u _ 0#64 (j := (compN xs).getD i 0) (by rw [hL]; omega))) ?_
          refine RA.q 7 (by kernel_rfl) rfl rfl rfl (.refl _) (OpQ.move rfl) ?_
          refine RA.q 8 (by kernel_rfl) rfl rfl rfl (.refl _) (OpQ.move rfl) ?_
          refine RA.q 9 (by kernel_rfl) rfl rfl rfl (.refl _) (OpQ.index1 K_un25 K_sz3 rfl rfl ⟨Int.natCast_nonneg _, by omega⟩ (h16 (by omega))) ?_
          refine RA.q 10 (by kernel_rfl) rfl rfl rfl (.refl _) (OpQ.loadRow K_sc3 rfl (.there (.there (.there .here))) (getMap iv (compN xs) 0 (j := (memM ((closR xs).getD i 0#64)).getD k 0) (by omega))) ?_
          refine RA.q 11 (by kernel_rfl) rfl rfl rfl (.refl _) (OpQ.ushlN (p := 1#64) rfl rfl) ?_
          refine RA.q 12 (by kernel_rfl) rfl rfl rfl (.refl _) (OpQ.uor rfl rfl) ?_
          refine RA.q 13 (by kernel_rfl) rfl rfl rfl (.refl _) (OpQ.index1 K_un22 K_sz23 rfl rfl ⟨Int.natCast_nonneg _, by omega⟩ rfl) ?_
          refine RA.tail ?_
          refine RT.f 14 (by kernel_rfl) rfl rfl rfl (OpG.storeRow K_sz23 rfl rfl rfl (.there (.there .here)) (by simp only [List.length_map, hL]; exact hPi)) ?_
          rintro _ _
          refine RT.done (by kernel_rfl) ?_
          refine PX.block_n ?_
          refine PX.then_n ?_
          -- region 18: relation.go:164
          refine CT.region ?_
          refine Wl.q rfl rfl (OpQ.add rfl rfl (by omega)) ?_
          refine Wl.q rfl rfl (OpQ.move rfl) ?_
          refine Wl.nil ?_
          exact PX.loop hK2 (k + 1) (by omega) (by first | omega | (dsimp only; omega)) ⟨rfl, rfl, rfl, rfl, rfl, rfl, rfl, rfl, rfl, trivial⟩ (.keep rfl (.keep rfl (.keep (row_eq (by rw [take_snoc (by omega), oF_snoc]; exact mapSet u _ _ _)) (.keep rfl .nil))))
        · -- if t42: else
          have h42 := of_decide_eq_false h42
          refine CT.exit ?_
          refine PX.then_x ?_
          refine PX.then_x ?_
          refine PX.block_x ?_
          refine PX.block_n ?_
          refine PX.then_n ?_
          -- region 19: relation.go:163
          refine CT.region ?_
          refine Wl.q rfl rfl (OpQ.add rfl rfl (by omega)) ?_
          refine Wl.q rfl rfl (OpQ.move rfl) ?_
          refine Wl.nil ?_
          obtain rfl : k = (memM ((closR xs).getD i 0#64)).length := by omega
          exact PX.loop hK1 (i + 1) (by omega) (by first | omega | (dsimp only; omega)) ⟨rfl, rfl, rfl, rfl, rfl, trivial⟩ (.drop (.keep rfl (.keep (row_eq (by rw [oOut, List.take_length])) (.keep rfl .nil))))
      · -- if t34: else
        have h34 := of_decide_eq_false h34
        refine CT.exit ?_
        refine PX.then_x ?_
        refine PX.then_x ?_
        refine PX.block_x ?_
        refine PX.then_n ?_
        refine CT.seq ?_
        -- region 20: relation.go:168
        refine CT.region ?_
        refine Wl.q rfl rfl (OpQ.move rfl) ?_
        refine Wl.q rfl rfl (OpQ.assign rfl) ?_
        refine Wl.nil ?_
        refine PX.then_n ?_
        refine CT.ret ?_
        refine PX.ret1 rfl rfl (fun w' hH => ?_)
        obtain rfl : i = xs.length := by omega
        have := hH.newRow (.there .here)
        rw [ordR, if_yes hv, oOut_len]; exact this

theorem closureC_spec (w : World) (a : Option Addr) (cp : Nat) (xs : List (BitVec 64)) (hr : Rd w a (xs.map u)) (hn : xs.length ≤ 64) (hv : validB xs = true) : Calls Tryd.prog 43 #[.slice a xs.length cp] w (fun e w' => New 23 1 w w' e (closR xs).length ((closR xs).map u)) := by
  rw [closR_yes hv]; exact closureR_spec w a cp xs hr hn

theorem K_go43 : isGo Tryd.prog 43 = true := by kernel_rfl
set_option maxRecDepth 100000 in
/-- semigroup/semigroupref02.Components -/
theorem compR_spec (w : World) (a : Option Addr) (cp : Nat) (xs : List (BitVec 64)) (hr : Rd w a (xs.map u)) (hn : xs.length ≤ 64) (hv : validB xs = true) : Calls Tryd.prog 35 #[.slice a xs.length cp] w (fun e w' => New 3 1 w w' e (compN xs).length ((compN xs).map iv)) := by
  have hCL := closR_len hv
  have hE := mut_eqv hv
  have hmb := mut_bit hv
  refine enter (args := [.slice a xs.length cp]) [] 60 Tryd.func35 rfl rfl rfl ?_
  refine CT.seq ?_
  -- region 0: ref.go:107
  refine CT.region ?_
  refine Wl.q rfl rfl (OpQ.assign rfl) ?_
  refine Wl.nil ?_
  refine PX.then_n ?_
  refine CT.seq ?_
  -- region 1: ref.go:108
  refine CT.region ?_
  refine Wl.q rfl rfl (OpQ.move rfl) ?_
  refine Wl.g rfl rfl (OpG.callR K_go43 rfl (fun w hH => closureC_spec w a cp xs (hH.rd0 hr rfl) hn hv)) ?_
  rintro ⟨a9, c9⟩ h9
  refine Wl.q rfl rfl (OpQ.assign rfl) ?_
  refine Wl.nil ?_
  refine PX.then_n ?_
  refine CT.seq ?_
  -- region 2: ref.go:109
  refine CT.region ?_
  refine Wl.q rfl rfl (OpQ.move rfl) ?_
  refine Wl.q rfl rfl (OpQ.len K_un22 rfl) ?_
  refine Wl.g rfl rfl (OpG.make1 K_un25 K_in3 rfl rfl rfl rfl (by omega) (by omega)) ?_
  rintro b _
  refine Wl.q rfl rfl (OpQ.assign rfl) ?_
  refine Wl.nil ?_
  refine PX.then_n ?_
  refine CT.seq ?_
  -- region 3: ref.go:110
  refine CT.region ?_
  refine Wl.q rfl rfl (OpQ.assign rfl) ?_
  refine Wl.nil ?_
  refine PX.then_n ?_
  refine CT.seq ?_
  refine CT.seq ?_
  -- region 4: ref.go:111
  refine CT.region ?_
  refine Wl.q rfl rfl (OpQ.move rfl) ?_
  refine Wl.q rfl rfl (OpQ.len K_un25 rfl) ?_
  refine Wl.q rfl rfl (OpQ.move rfl) ?_
  refine Wl.nil ?_
  refine PX.then_n ?_
  refine CT.block ?_
  -- the loop at region 5
  refine CT.loop (ι := Nat) (fun i => i ≤ xs.length) (fun i => [(3, .slice a9 (closR xs).length c9), (4, .slice (some ⟨b, 0, none⟩) xs.length xs.length), (5, .int .i64 (((cN (mutR xs) xs.length i).2 : Nat) : Int)), (14, .int .i64 (xs.length : Int)), (15, .int .i64 (i : Int))]) (fun i => [.row 3 1 (.slice (some ⟨b, 0, none⟩) xs.length xs.length) xs.length ((cN (mutR xs) xs.length i).1.map iv), .row 23 1 (.slice a9 (closR xs).length c9) (closR xs).length ((closR xs).map u)]) (fun i => xs.length - i) 0 (by omega) ⟨rfl, rfl, (lkV rfl rfl), rfl, rfl, trivial⟩ (.keep (row_eq (by simp [cN, iv])) (.keep rfl .nil)) (fun i hi K0 hK0 => ?_)
  have hcl := (cls hE i hi).le
  have hLn := cN_len (mutR xs) xs.length i
  have h9 : i < xs.length → a9.isSome = true := fun h => h9 (by omega)
  refine CT.seq ?_
  -- region 5: ref.go:111
  refine CT.region ?_
  refine Wl.q rfl rfl (OpQ.lss rfl rfl) ?_
  refine Wl.nil ?_
  refine PX.then_n ?_
  refine CT.seq ?_
  refine CT.cond rfl (fun h16 => ?_) (fun h16 => ?_)
  · -- if t16: then
    have h16 := of_decide_eq_true h16
    refine CT.skip ?_
    refine PX.then_n ?_
    refine CT.seq ?_
    refine CT.block ?_
    refine CT.seq ?_
    -- region 6: ref.go:111
    refine CT.region ?_
    refine Wl.q rfl rfl (OpQ.move rfl) ?_
    refine Wl.q rfl rfl (OpQ.assign rfl) ?_
    refine Wl.nil ?_
    refine PX.then_n ?_
    refine CT.seq ?_
    -- region 7: ref.go:112
    refine CT.region ?_
    refine Wl.q rfl rfl (OpQ.move rfl) ?_
    refine Wl.q rfl rfl (OpQ.move rfl) ?_
    refine Wl.q rfl rfl (OpQ.index1 K_un25 K_sz3 rfl rfl (by omega) rfl) ?_
    refine Wl.g rfl rfl (OpG.storeRow K_sz3 rfl rfl rfl .here (by simp; omega)) ?_
    rintro _ _
    refine Wl.nil ?_
    refine PX.then_n ?_
    refine CT.seq ?_
    refine CT.seq ?_
    -- region 8: ref.go:113
    refine CT.region ?_
    refine Wl.q rfl rfl (OpQ.assign rfl) ?_
    refine Wl.nil ?_
    refine PX.then_n ?_
    refine CT.block ?_
    -- the loop at region 9
    refine CT.loop (ι := Nat) (fun j => j ≤ i) (fun j => [(3, .slice a9 (closR xs).length c9), (4, .slice (some ⟨b, 0, none⟩) xs.length xs.length), (5, .int .i64 (((cN (mutR xs) xs.length i).2 : Nat) : Int)), (6, .int .i64 (i : Int)), (7, .int .i64 (j : Int)), (14, .int .i64 (xs.length : Int)), (15, .int .i64 (i : Int))]) (fun j => [.row 3 1 (.slice (some ⟨b, 0, none⟩) xs.length xs.length) xs.length (((cN (mutR xs) xs.length i).1.map iv).set i (.int .i64 (cr (closR xs) (cN (mutR xs) xs.length i).1 i j))), .row 23 1 (.slice a9 (closR xs).length c9) (closR xs).length ((closR xs).map u)]) (fun j => i - j) 0 (by omega) ⟨rfl, rfl, rfl, rfl, rfl, rfl, rfl, trivial⟩ (.keep (row_eq rfl) (.keep rfl .nil)) (fun j hj K1 hK1 => ?_)
    refine CT.seq ?_
    refine CT.seq ?_
    -- region 9: ref.go:113
    refine CT.region ?_
    refine Wl.q rfl rfl (OpQ.move rfl) ?_
    refine Wl.q rfl rfl (OpQ.move rfl) ?_
    refine Wl.q rfl rfl (OpQ.lss rfl rfl) ?_
    refine Wl.nil ?_
    refine PX.then_n ?_
    refine CT.cond rfl (fun h23 => ?_) (fun h23 => ?_)
    · -- if t23: then
      have h23 := of_decide_eq_true h23
      refine CT.skip ?_
      refine PX.then_n ?_
      refine CT.seq ?_
      refine CT.block ?_
      refine CT.seq ?_
      -- region 11: ref.go:114
      refine CT.region ?_
      refine Wl.q rfl rfl (OpQ.move rfl) ?_
      refine Wl.q rfl rfl (OpQ.move rfl) ?_
      refine Wl.q rfl rfl (OpQ.index1 K_un22 K_sz23 rfl rfl (by omega) (h9 (by omega))) ?_
      refine Wl.q rfl rfl (OpQ.loadRow K_sc23 rfl (.there .here) (getMap u (closR xs) 0#64 (j := i) (by omega))) ?_
      refine Wl.q rfl rfl (OpQ.move rfl) ?_
      refine Wl.g rfl rfl (OpG.callV K_go39 rfl (fun w hH => has_spec w _ _ (by omega))) ?_
      rintro _ _
      refine Wl.q rfl rfl (OpQ.move rfl) ?_
      refine Wl.split 32 rfl (fun hg32 => ?_) (fun hg32 => ?_)
      · -- t32 = True
        refine Wl.q rfl rfl (OpQ.move rfl) ?_
        refine Wl.q rfl rfl (OpQ.move rfl) ?_
        refine Wl.q rfl rfl (OpQ.index1 K_un22 K_sz23 rfl rfl (by omega) (h9 (by omega))) ?_
        refine Wl.q rfl rfl (OpQ.loadRow K_sc23 rfl (.there .here) (getMap u (closR xs) 0#64 (j := j) (by omega))) ?_
        refine Wl.q rfl rfl (OpQ.move rfl) ?_
        refine Wl.g rfl rfl (OpG.callV K_go39 rfl (fun w hH => has_spec w _ _ (by omega))) ?_
        rintro _ _
        refine Wl.q rfl rfl (OpQ.pickT rfl rfl) ?_
        refine Wl.nil ?_
        refine PX.then_n ?_
        refine CT.cond rfl (fun h39 => ?_) (fun h39 => ?_)
        · -- if t39: then
          -- region 12: ref.go:115
          refine CT.region ?_
          refine Wl.q rfl rfl (OpQ.move rfl) ?_
          refine Wl.q rfl rfl (OpQ.move rfl) ?_
          refine Wl.q rfl rfl (OpQ.move rfl) ?_
          refine Wl.q rfl rfl (OpQ.move rfl) ?_
          refine Wl.q rfl rfl (OpQ.index1 K_un25 K_sz3 rfl rfl (by omega) rfl) ?_
          refine Wl.q rfl rfl (OpQ.loadRow K_sc3 rfl .here (set_ne (j := j) (by omega) (by omega))) ?_
          refine Wl.q rfl rfl (OpQ.index1 K_un25 K_sz3 rfl rfl (by omega) rfl) ?_
          refine Wl.g rfl rfl (OpG.storeRow K_sz3 rfl rfl rfl .here (by simp; omega)) ?_
          rintro _ _
          refine Wl.nil ?_
          refine PX.block_n ?_
          refine PX.then_n ?_
          -- region 10: ref.go:113
          refine CT.region ?_
          refine Wl.q rfl rfl (OpQ.move rfl) ?_
          refine Wl.q rfl rfl (OpQ.add rfl rfl (by omega)) ?_
          refine Wl.q rfl rfl (OpQ.assign rfl) ?_
          refine Wl.nil ?_
          exact PX.loop hK1 (j + 1) (by omega) (by first | omega | (dsimp only; omega)) ⟨rfl, rfl, rfl, rfl, rfl, rfl, rfl, trivial⟩ (.keep (row_eq (by rw [cr, if_pos (by rw [Bool.and_eq_true]; exact ⟨hg32, h39⟩)]; exact set_two)) (.keep rfl .nil))
        · -- if t39: else
          refine CT.skip ?_
          refine PX.block_n ?_
          refine PX.then_n ?_
          -- region 10: ref.go:113
          refine CT.region ?_
          refine Wl.q rfl rfl (OpQ.move rfl) ?_
          refine Wl.q rfl rfl (OpQ.add rfl rfl (by omega)) ?_
          refine Wl.q rfl rfl (OpQ.assign rfl) ?_
          refine Wl.nil ?_
          exact PX.loop hK1 (j + 1) (by omega) (by first | omega | (dsimp only; omega)) ⟨rfl, rfl, rfl, rfl, rfl, rfl, rfl, trivial⟩ (.keep (row_eq (by rw [cr, if_neg (by rw [Bool.and_eq_true]; intro hh; rw [h39] at hh; cases hh.2)])) (.keep rfl .nil))
      · -- t32 = False
        refine Wl.skip rfl rfl ?_
        refine Wl.skip rfl rfl ?_
        refine Wl.skip rfl rfl ?_
        refine Wl.skip rfl rfl ?_
        refine Wl.skip rfl rfl ?_
        refine Wl.skip rfl rfl ?_
        refine Wl.q rfl rfl (OpQ.pickF rfl rfl) ?_
        refine Wl.nil ?_
        refine PX.then_n ?_
        refine CT.condF rfl ?_
        refine CT.skip ?_
        refine PX.block_n ?_
        refine PX.then_n ?_
        -- region 10: ref.go:113
        refine CT.region ?_
        refine Wl.q rfl rfl (OpQ.move rfl) ?_
        refine Wl.q rfl rfl (OpQ.add rfl rfl (by omega)) ?_
        refine Wl.q rfl rfl (OpQ.assign rfl) ?_
        refine Wl.nil ?_
        exact PX.loop hK1 (j + 1) (by omega) (by first | omega | (dsimp only; omega)) ⟨rfl, rfl, rfl, rfl, rfl, rfl, rfl, trivial⟩ (.keep (row_eq (by rw [cr, if_neg (by rw [Bool.and_eq_true]; intro hh; rw [hg32] at hh; cases hh.1)])) (.keep rfl .nil))
    · -- if t23: else
      have h23 := of_decide_eq_false h23
      refine CT.exit ?_
      refine PX.then_x ?_
      refine PX.then_x ?_
      refine PX.block_x ?_
      refine PX.then_n ?_
      refine CT.seq ?_
      -- region 13: ref.go:118
      refine CT.region ?_
      refine Wl.q rfl rfl (OpQ.move rfl) ?_
      refine Wl.q rfl rfl (OpQ.move rfl) ?_
      refine Wl.q rfl rfl (OpQ.index1 K_un25 K_sz3 rfl rfl (by omega) rfl) ?_
      obtain rfl : i = j := by omega
      refine Wl.q rfl rfl (OpQ.loadRow K_sc3 rfl .here (set_eq (by omega))) ?_
      refine Wl.q rfl rfl (OpQ.lss rfl rfl) ?_
      refine Wl.nil ?_
      refine PX.then_n ?_
      refine CT.cond rfl (fun h51 => ?_) (fun h51 => ?_)
      · -- if t51: then
        have h51 := of_decide_eq_true h51
        have hst := cr_neg hE (by omega) hmb h51
        refine CT.seq ?_
        -- region 14: ref.go:119
        refine CT.region ?_
        refine Wl.q rfl rfl (OpQ.move rfl) ?_
        refine Wl.q rfl rfl (OpQ.move rfl) ?_
        refine Wl.q rfl rfl (OpQ.move rfl) ?_
        refine Wl.q rfl rfl (OpQ.index1 K_un25 K_sz3 rfl rfl (by omega) rfl) ?_
        refine Wl.g rfl rfl (OpG.storeRow K_sz3 rfl rfl rfl .here (by simp; omega)) ?_
        rintro _ _
        refine Wl.nil ?_
        refine PX.then_n ?_
        -- region 15: ref.go:120
        refine CT.region ?_
        refine Wl.q rfl rfl (OpQ.move rfl) ?_
        refine Wl.q rfl rfl (OpQ.add rfl rfl (by omega)) ?_
        refine Wl.q rfl rfl (OpQ.assign rfl) ?_
        refine Wl.nil ?_
        refine PX.block_n ?_
        refine PX.then_n ?_
        -- region 16: ref.go:111
        refine CT.region ?_
        refine Wl.q rfl rfl (OpQ.add rfl rfl (by omega)) ?_
        refine Wl.q rfl rfl (OpQ.move rfl) ?_
        refine Wl.nil ?_
        exact PX.loop hK0 (i + 1) (by omega) (by first | omega | (dsimp only; omega)) ⟨rfl, rfl, (lkV rfl (by rw [hst]; simp)), rfl, rfl, trivial⟩ (.keep (row_eq (by rw [hst]; exact set_two_map)) (.keep rfl .nil))
      · -- if t51: else
        have h51 := of_decide_eq_false h51
        obtain ⟨q, hq, hst⟩ := cr_pos hE (by omega) hmb h51
        refine CT.skip ?_
        refine PX.block_n ?_
        refine PX.then_n ?_
        -- region 16: ref.go:111
        refine CT.region ?_
        refine Wl.q rfl rfl (OpQ.add rfl rfl (by omega)) ?_
        refine Wl.q rfl rfl (OpQ.move rfl) ?_
        refine Wl.nil ?_
        exact PX.loop hK0 (i + 1) (by omega) (by first | omega | (dsimp only; omega)) ⟨rfl, rfl, (lkV rfl (by rw [hst])), rfl, rfl, trivial⟩ (.keep (row_eq (by rw [hst, hq]; exact mapSet iv _ _ _)) (.keep rfl .nil))
  · -- if t16: else
    have h16 := of_decide_eq_false h16
    refine CT.exit ?_
    refine PX.then_x ?_
    refine PX.then_x ?_
    refine PX.block_x ?_
    refine PX.then_n ?_
    refine CT.seq ?_
    -- region 17: ref.go:123
    refine CT.region ?_
    refine Wl.q rfl rfl (OpQ.move rfl) ?_
    refine Wl.q rfl rfl (OpQ.assign rfl) ?_
    refine Wl.nil ?_
    refine PX.then_n ?_
    refine CT.ret ?_
    refine PX.ret1 rfl rfl (fun w' hH => ?_)
    obtain rfl : i = xs.length := by omega
    have := hH.newRow .here
    rw [compN, if_yes hv, cN_len]; exact this

theorem K_go35 : isGo Tryd.prog 35 = true := by kernel_rfl
set_option maxRecDepth 100000 in
/-- semigroup/semigroupref02.Order -/
theorem orderR_spec (w : World) (a : Option Addr) (cp : Nat) (xs : List (BitVec 64)) (hr : Rd w a (xs.map u)) (hn : xs.length ≤ 64) (hv : validB xs = true) : Calls Tryd.prog 36 #[.slice a xs.length cp] w (fun e w' => New 23 1 w w' e (ordR xs).length ((ordR xs).map u)) := by
  have hCL := closR_len hv
  have hCV := clos_valid hv
  have hPL := comp_len hv
  have hPb : ∀ i, i < xs.length → (compN xs).getD i 0 < mxN (compN xs) xs.length := fun i hi => lt_mxN hi
  have hM64 : mxN (compN xs) xs.length ≤ xs.length := by rw [comp_mx hv]; exact (comp_cls hv).le
  refine enter (args := [.slice a xs.length cp]) [] 66 Tryd.func36 rfl rfl rfl ?_
  refine CT.seq ?_
  -- region 0: ref.go:127
  refine CT.region ?_
  refine Wl.q rfl rfl (OpQ.assign rfl) ?_
  refine Wl.nil ?_
  refine PX.then_n ?_
  refine CT.seq ?_
  -- region 1: ref.go:128
  refine CT.region ?_
  refine Wl.q rfl rfl (OpQ.move rfl) ?_
  refine Wl.g rfl rfl (OpG.callR K_go43 rfl (fun w hH => closureC_spec w a cp xs (hH.rd0 hr rfl) hn hv)) ?_
  rintro ⟨a12, c12⟩ h12
  refine Wl.q rfl rfl (OpQ.move rfl) ?_
  refine Wl.g rfl rfl (OpG.callR K_go35 rfl (fun w hH => compR_spec w a cp xs (hH.rd0 hr rfl) hn hv)) ?_
  rintro ⟨a14, c14⟩ h14
  refine Wl.q rfl rfl (OpQ.assign rfl) ?_
  refine Wl.q rfl rfl (OpQ.assign rfl) ?_
  refine Wl.nil ?_
  refine PX.then_n ?_
  refine CT.seq ?_
  -- region 2: ref.go:129
  refine CT.region ?_
  refine Wl.q rfl rfl (OpQ.assign rfl) ?_
  refine Wl.nil ?_
  refine PX.then_n ?_
  refine CT.seq ?_
  refine CT.seq ?_
  -- region 3: ref.go:130
  refine CT.region ?_
  refine Wl.q rfl rfl (OpQ.move rfl) ?_
  refine Wl.q rfl rfl (OpQ.len K_un25 rfl) ?_
  refine Wl.q rfl rfl (OpQ.move rfl) ?_
  refine Wl.nil ?_
  refine PX.then_n ?_
  refine CT.block ?_
  -- the loop at region 4
  refine CT.loop (ι := Nat) (fun k => k ≤ xs.length) (fun k => [(0, .slice a xs.length cp), (3, .slice a12 (closR xs).length c12), (4, .slice a14 (compN xs).length c14), (5, .int .i64 ((mxN (compN xs) k : Nat) : Int)), (15, .slice a14 (compN xs).length c14), (16, .int .i64 ((compN xs).length : Int)), (17, .int .i64 (k : Int))]) (fun k => [.row 3 1 (.slice a14 (compN xs).length c14) (compN xs).length ((compN xs).map iv), .row 23 1 (.slice a12 (closR xs).length c12) (closR xs).length ((closR xs).map u)]) (fun k => xs.length - k) 0 (by omega) ⟨rfl, rfl, rfl, (lkV rfl rfl), rfl, rfl, rfl, trivial⟩ (HSub.refl _) (fun k hk K0 hK0 => ?_)
  have hPk := hPb k
  refine CT.seq ?_
  -- region 4: ref.go:130
  refine CT.region ?_
  refine Wl.q rfl rfl (OpQ.lss rfl rfl) ?_
  refine Wl.nil ?_
  refine PX.then_n ?_
  refine CT.seq ?_
  refine CT.cond rfl (fun h18 => ?_) (fun h18 => ?_)
  · -- if t18: then
    have h18 := of_decide_eq_true h18
    refine CT.skip ?_
    refine PX.then_n ?_
    refine CT.seq ?_
    refine CT.block ?_
    refine CT.seq ?_
    -- region 5: ref.go:130
    refine CT.region ?_
    refine Wl.q rfl rfl (OpQ.index1 K_un25 K_sz3 rfl rfl (by omega) (h14 (by omega))) ?_
    refine Wl.q rfl rfl (OpQ.loadRow K_sc3 rfl .here (getMap iv _ 0 (j := k) (by omega))) ?_
    refine Wl.q rfl rfl (OpQ.assign rfl) ?_
    refine Wl.nil ?_
    refine PX.then_n ?_
    -- region 6: ref.go:131
    refine CT.region ?_
    refine Wl.q rfl rfl (OpQ.move rfl) ?_
    refine Wl.q rfl rfl (OpQ.move rfl) ?_
    refine Wl.q rfl rfl (OpQ.add rfl rfl (by omega)) ?_
    refine Wl.q rfl rfl (OpQ.max rfl rfl) ?_
    refine Wl.q rfl rfl (OpQ.assign rfl) ?_
    refine Wl.nil ?_
    refine PX.block_n ?_
    refine PX.then_n ?_
    -- region 7: ref.go:130
    refine CT.region ?_
    refine Wl.q rfl rfl (OpQ.add rfl rfl (by omega)) ?_
    refine Wl.q rfl rfl (OpQ.move rfl) ?_
    refine Wl.nil ?_
    exact PX.loop hK0 (k + 1) (by omega) (by first | omega | (dsimp only; omega)) ⟨rfl, rfl, rfl, (lkV rfl (congrArg (Value.int .i64) (by simp only [mxN]; split <;> omega))), rfl, rfl, rfl, trivial⟩ (HSub.refl _)
  · -- if t18: else
    have h18 := of_decide_eq_false h18
    refine CT.exit ?_
    refine PX.then_x ?_
    refine PX.then_x ?_
    refine PX.block_x ?_
    refine PX.then_n ?_
    refine CT.seq ?_
    -- region 8: ref.go:133
    refine CT.region ?_
    refine Wl.q rfl rfl (OpQ.move rfl) ?_
    obtain rfl : k = xs.length := by omega
    refine Wl.g rfl rfl (OpG.make1 K_un22 K_in23 rfl rfl rfl rfl (by omega) (by omega)) ?_
    rintro b _
    refine Wl.q rfl rfl (OpQ.assign rfl) ?_
    refine Wl.nil ?_
    refine PX.then_n ?_
    refine CT.seq ?_
    refine CT.seq ?_
    -- region 9: ref.go:134
    refine CT.region ?_
    refine Wl.q rfl rfl (OpQ.move rfl) ?_
    refine Wl.q rfl rfl (OpQ.len K_un22 rfl) ?_
    refine Wl.q rfl rfl (OpQ.move rfl) ?_
    refine Wl.nil ?_
    refine PX.then_n ?_
    refine CT.block ?_
    -- the loop at region 10
    refine CT.loop (ι := Nat) (fun i => i ≤ xs.length) (fun i => [(0, .slice a xs.length cp), (3, .slice a12 (closR xs).length c12), (4, .slice a14 (compN xs).length c14), (8, .slice (some ⟨b, 0, none⟩) (mxN (compN xs) xs.length) (mxN (compN xs) xs.length)), (29, .int .i64 (xs.length : Int)), (30, .int .i64 (i : Int))]) (fun i => [.row 23 1 (.slice (some ⟨b, 0, none⟩) (mxN (compN xs) xs.length) (mxN (compN xs) xs.length)) (mxN (compN xs) xs.length) (((oOut (compN xs) (closR xs) (mxN (compN xs) xs.length) i)).map u), .row 3 1 (.slice a14 (compN xs).length c14) (compN xs).length ((compN xs).map iv), .row 23 1 (.slice a12 (closR xs).length c12) (closR xs).length ((closR xs).map u)]) (fun i => xs.length - i) 0 (by omega) ⟨rfl, rfl, rfl, rfl, rfl, rfl, trivial⟩ (.keep (row_eq (by simp [oOut])) (.keep rfl (.keep rfl .nil))) (fun i hi K1 hK1 => ?_)
    refine CT.seq ?_
    -- region 10: ref.go:134
    refine CT.region ?_
    refine Wl.q rfl rfl (OpQ.lss rfl rfl) ?_
    refine Wl.nil ?_
    refine PX.then_n ?_
    refine CT.seq ?_
    refine CT.cond rfl (fun h31 => ?_) (fun h31 => ?_)
    · -- if t31: then
      have h31 := of_decide_eq_true h31
      refine CT.skip ?_
      refine PX.then_n ?_
      refine CT.seq ?_
      refine CT.block ?_
      refine CT.seq ?_
      -- region 11: ref.go:134
      refine CT.region ?_
      refine Wl.q rfl rfl (OpQ.move rfl) ?_
      refine Wl.q rfl rfl (OpQ.assign rfl) ?_
      refine Wl.nil ?_
      refine PX.then_n ?_
      refine CT.seq ?_
      -- region 12: ref.go:135
      refine CT.region ?_
      refine Wl.q rfl rfl (OpQ.move rfl) ?_
      refine Wl.q rfl rfl (OpQ.len K_un22 rfl) ?_
      refine Wl.q rfl rfl (OpQ.move rfl) ?_
      refine Wl.nil ?_
      refine PX.then_n ?_
      refine CT.block ?_
      -- the loop at region 13
      refine CT.loop (ι := Nat) (fun j => j ≤ xs.length) (fun j => [(0, .slice a xs.length cp), (3, .slice a12 (closR xs).length c12), (4, .slice a14 (compN xs).length c14), (8, .slice (some ⟨b, 0, none⟩) (mxN (compN xs) xs.length) (mxN (compN xs) xs.length)), (9, .int .i64 (i : Int)), (29, .int .i64 (xs.length : Int)), (30, .int .i64 (i : Int)), (34, .int .i64 (xs.length : Int)), (35, .int .i64 (j : Int))]) (fun j => [.row 23 1 (.slice (some ⟨b, 0, none⟩) (mxN (compN xs) xs.length) (mxN (compN xs) xs.length)) (mxN (compN xs) xs.length) ((oF (compN xs) i ((List.range j).filter (fun z => ((closR xs).getD i 0#64).getLsbD z)) (oOut (compN xs) (closR xs) (mxN (compN xs) xs.length) i)).map u), .row 3 1 (.slice a14 (compN xs).length c14) (compN xs).length ((compN xs).map iv), .row 23 1 (.slice a12 (closR xs).length c12) (closR xs).length ((closR xs).map u)]) (fun j => xs.length - j) 0 (by omega) ⟨rfl, rfl, rfl, rfl, rfl, rfl, rfl, rfl, rfl, trivial⟩ (.keep (row_eq (by simp [oF])) (.keep rfl (.keep rfl .nil))) (fun j hj K2 hK2 => ?_)
      have hL : ∀ l, (oF (compN xs) i l (oOut (compN xs) (closR xs) (mxN (compN xs) xs.length) i)).length = (mxN (compN xs) xs.length) := fun l => by rw [oF_len, oOut_len]
      have hPi := hPb i
      have hPj := hPb j
      refine CT.seq ?_
      -- region 13: ref.go:135
      refine CT.region ?_
      refine Wl.q rfl rfl (OpQ.lss rfl rfl) ?_
      refine Wl.nil ?_
      refine PX.then_n ?_
      refine CT.seq ?_
      refine CT.cond rfl (fun h36 => ?_) (fun h36 => ?_)
      · -- if t36: then
        have h36 := of_decide_eq_true h36
        refine CT.skip ?_
        refine PX.then_n ?_
        refine CT.seq ?_
        refine CT.block ?_
        refine CT.seq ?_
        -- region 14: ref.go:135
        refine CT.region ?_
        refine Wl.q rfl rfl (OpQ.move rfl) ?_
        refine Wl.q rfl rfl (OpQ.assign rfl) ?_
        refine Wl.nil ?_
        refine PX.then_n ?_
        refine CT.seq ?_
        -- region 15: ref.go:136
        refine CT.region ?_
        refine Wl.q rfl rfl (OpQ.move rfl) ?_
        refine Wl.q rfl rfl (OpQ.move rfl) ?_
        refine Wl.q rfl rfl (OpQ.index1 K_un22 K_sz23 rfl rfl (by omega) (h12 (by omega))) ?_
        refine Wl.q rfl rfl (OpQ.loadRow K_sc23 rfl (.there (.there .here)) (getMap u (closR xs) 0#64 (j := i) (by omega))) ?_
        refine Wl.q rfl rfl (OpQ.move rfl) ?_
        refine Wl.g rfl rfl (OpG.callV K_go39 rfl (fun w hH => has_spec w _ _ (by omega))) ?_
        rintro _ _
        refine Wl.nil ?_
        refine PX.then_n ?_
        refine CT.cond rfl (fun h43 => ?_) (fun h43 => ?_)
        · -- if t43: then
          rw [bitB_eq] at h43
          have hPi := hPi (by omega)
          have hPj := hPj (by omega)
          -- region 16, drawn: ref.go:137
          refine CT.draw 19 K_mixed ?_
          refine RA.q 0 (by kernel_rfl) rfl rfl rfl (.refl _) (OpQ.move rfl) ?_
          refine RA.q 1 (by kernel_rfl) rfl rfl rfl (.refl _) (OpQ.move rfl) ?_
          refine RA.q 2 (by kernel_rfl) rfl rfl rfl (.refl _) (OpQ.move rfl) ?_
          refine RA.q 3 (by kernel_rfl) rfl rfl rfl (.refl _) (OpQ.index1 K_un25 K_sz3 rfl rfl (by omega) (h14 (by omega))) ?_
          refine RA.q 4 (by kernel_rfl) rfl rfl rfl (.refl _) (OpQ.loadRow K_sc3 rfl (.there .here) (getMap iv (compN xs) 0 (j := i) (by omega))) ?_
          refine RA.q 5 (by kernel_rfl) rfl rfl rfl (.refl _) (OpQ.move rfl) ?_
          refine RA.q 6 (by kernel_rfl) rfl rfl rfl (.refl _) (OpQ.move rfl) ?_
          refine RA.q 7 (by kernel_rfl) rfl rfl rfl (.refl _) (OpQ.move rfl) ?_
          refine RA.q 8 (by kernel_rfl) rfl rfl rfl (.refl _) (OpQ.index1 K_un25 K_sz3 rfl rfl (by omega) (h14 (by omega))) ?_
          refine RA.q 9 (by kernel_rfl) rfl rfl rfl (.refl _) (OpQ.loadRow K_sc3 rfl (.there .here) (getMap iv (compN xs) 0 (j := i) (by omega))) ?_
          refine RA.q 10 (by kernel_rfl) rfl rfl rfl (.refl _) (OpQ.index1 K_un22 K_sz23 rfl rfl ⟨Int.natCast_nonneg _, by omega⟩ rfl) ?_
          refine RA.q 11 (by kernel_rfl) rfl rfl rfl (.refl _) (OpQ.loadRow K_sc23 rfl .here (getMap u _ 0#64 (j := (compN xs).getD i 0) (by rw [hL]; omega))) ?_
          refine RA.q 12 (by kernel_rfl) rfl rfl rfl (.refl _) (OpQ.move rfl) ?_
          refine RA.q 13 (by kernel_rfl) rfl rfl rfl (.refl _) (OpQ.move rfl) ?_
          refine RA.q 14 (by kernel_rfl) rfl rfl rfl (.refl _) (OpQ.index1 K_un25 K_sz3 rfl rfl (by omega) (h14 (by omega))) ?_
          refine RA.q 15 (by kernel_rfl) rfl rfl rfl (.refl _) (OpQ.loadRow K_sc3 rfl (.there .here) (getMap iv (compN xs) 0 (j := j) (by omega))) ?_
          refine RA.f 16 (by kernel_rfl) rfl rfl rfl (OpG.callV K_go42 rfl (fun w hH => bit_spec w _ (by omega))) (fun _ _ => (.refl _)) ?_
          rintro _ _
          refine RA.q 17 (by kernel_rfl) rfl rfl rfl (.refl _) (OpQ.uor rfl rfl) ?_
          refine RA.q 18 (by kernel_rfl) rfl rfl rfl (.refl _) (OpQ.index1 K_un22 K_sz23 rfl rfl ⟨Int.natCast_nonneg _, by omega⟩ rfl) ?_
          refine RA.tail ?_
          refine RT.f 19 (by kernel_rfl) rfl rfl rfl (OpG.storeRow K_sz23 rfl rfl rfl .here (by simp only [List.length_map, hL]; exact hPi)) ?_
          rintro _ _
          refine RT.done (by kernel_rfl) ?_
          refine PX.block_n ?_
          refine PX.then_n ?_
          -- region 17: ref.go:135
          refine CT.region ?_
          refine Wl.q rfl rfl (OpQ.add rfl rfl (by omega)) ?_
          refine Wl.q rfl rfl (OpQ.move rfl) ?_
          refine Wl.nil ?_
          exact PX.loop hK2 (j + 1) (by omega) (by first | omega | (dsimp only; omega)) ⟨rfl, rfl, rfl, rfl, rfl, rfl, rfl, rfl, rfl, trivial⟩ (.keep (row_eq (by rw [range_filter, if_pos h43, oF_snoc]; exact mapSet u _ _ _)) (.keep rfl (.keep rfl .nil)))
        · -- if t43: else
          rw [bitB_eq] at h43
          refine CT.skip ?_
          refine PX.block_n ?_
          refine PX.then_n ?_
          -- region 17: ref.go:135
          refine CT.region ?_
          refine Wl.q rfl rfl (OpQ.add rfl rfl (by omega)) ?_
          refine Wl.q rfl rfl (OpQ.move rfl) ?_
          refine Wl.nil ?_
          exact PX.loop hK2 (j + 1) (by omega) (by first | omega | (dsimp only; omega)) ⟨rfl, rfl, rfl, rfl, rfl, rfl, rfl, rfl, rfl, trivial⟩ (.keep (row_eq (by rw [range_filter, if_neg (by rw [h43]; decide), List.append_nil])) (.keep rfl (.keep rfl .nil)))
      · -- if t36: else
        have h36 := of_decide_eq_false h36
        refine CT.exit ?_
        refine PX.then_x ?_
        refine PX.then_x ?_
        refine PX.block_x ?_
        refine PX.block_n ?_
        refine PX.then_n ?_
        -- region 18: ref.go:134
        refine CT.region ?_
        refine Wl.q rfl rfl (OpQ.add rfl rfl (by omega)) ?_
        refine Wl.q rfl rfl (OpQ.move rfl) ?_
        refine Wl.nil ?_
        obtain rfl : j = xs.length := by omega
        have hmr := memM_range hn (s := (closR xs).getD i 0#64) (fun z hz => (clos_in hv hz).2)
        exact PX.loop hK1 (i + 1) (by omega) (by first | omega | (dsimp only; omega)) ⟨rfl, rfl, rfl, rfl, rfl, rfl, trivial⟩ (.keep (row_eq (by rw [oOut, hmr])) (.keep rfl (.keep rfl .nil)))
    · -- if t31: else
      have h31 := of_decide_eq_false h31
      refine CT.exit ?_
      refine PX.then_x ?_
      refine PX.then_x ?_
      refine PX.block_x ?_
      refine PX.then_n ?_
      refine CT.seq ?_
      -- region 19: ref.go:141
      refine CT.region ?_
      refine Wl.q rfl rfl (OpQ.move rfl) ?_
      refine Wl.q rfl rfl (OpQ.assign rfl) ?_
      refine Wl.nil ?_
      refine PX.then_n ?_
      refine CT.ret ?_
      refine PX.ret1 rfl rfl (fun w' hH => ?_)
      obtain rfl : i = xs.length := by omega
      have := hH.newRow .here
      rw [ordR, if_yes hv, oOut_len]; exact this

end Go.Proofs.YtbefnlnnnpinnaaDoor
