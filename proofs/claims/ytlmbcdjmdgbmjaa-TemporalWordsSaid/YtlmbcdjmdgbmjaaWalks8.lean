/-
  What functions of the packages temporal and semigroupref39 compute, each by its walk. Conditions: those that each theorem names.
-/
import Derived.Test.YtlmbcdjmdgbmjaaMod
import Derived.Test.YtlmbcdjmdgbmjaaEng
import Derived.Test.YtlmbcdjmdgbmjaaWalks7
set_option linter.unusedSimpArgs false
namespace Go.Proofs.Ytlmbcdjmdgbmjaa
open Go Go.Eng Go.Tl
open Go.Tp (zi)

theorem J_un3 : Try.prog.underlying 3 = some (.int .i64) := by kernel_rfl
theorem J_un82 : Try.prog.underlying 82 = some (.int .u64) := by kernel_rfl
set_option maxRecDepth 100000 in
/-- semigroup/semigroupref35.has -/
theorem has_spec (w : World) (s : Int) (a : Nat) (hs : 0 ≤ s) (ha : a ≤ 64) : Calls Try.prog 58 #[.int .i64 (s), .int .i64 (a : Int)] w (fun e w' => e = .returned (.bool (hasB s a)) ∧ Ext [] w w') := by
  refine enter (args := [.int .i64 (s), .int .i64 (a : Int)]) [] 11 Try.func58 rfl rfl rfl ?_
  refine CT.seq ?_
  -- region 0: ref.go:38
  refine CT.region ?_
  refine Wl.q rfl rfl (OpQ.assign rfl) ?_
  refine Wl.nil ?_
  refine PX.then_n ?_
  refine CT.seq ?_
  -- region 1: ref.go:38
  refine CT.region ?_
  refine Wl.q rfl rfl (OpQ.move rfl) ?_
  refine Wl.know 5 (v' := .int .i64 ((s.toNat : Nat) : Int)) rfl (congrArg (Value.int .i64) (by omega)) ?_
  refine Wl.q rfl rfl (OpQ.move rfl) ?_
  refine Wl.q rfl rfl (OpQ.conv rfl (conv_nat_u J_un3 J_un82 _ (by omega))) ?_
  refine Wl.q rfl rfl (OpQ.ishr rfl rfl (by omega)) ?_
  refine Wl.q rfl rfl (OpQ.iand1 rfl rfl) ?_
  refine Wl.q rfl rfl (OpQ.eql rfl rfl) ?_
  refine Wl.q rfl rfl (OpQ.assign rfl) ?_
  refine Wl.nil ?_
  refine PX.then_n ?_
  refine CT.ret ?_
  refine PX.ret1 rfl rfl (fun w' hH => ?_)
  exact ⟨ret_b (by rw [hasB, Bool.eq_iff_iff, decide_eq_true_eq, decide_eq_true_eq]; omega), hH.ext⟩

theorem J_ag41 : isAggB Try.prog 41 = some true := by kernel_rfl
theorem J_sz41 : sizeB Try.prog 41 = some 2 := by kernel_rfl
theorem J_go44 : isGo Try.prog 44 = true := by kernel_rfl
theorem J_go42 : isGo Try.prog 42 = true := by kernel_rfl
theorem J_fa41_0 : fieldB Try.prog 41 0 = some 0 := by kernel_rfl
theorem J_sc25 : scalarB Try.prog 25 = some true := by kernel_rfl
theorem J_un25 : Try.prog.underlying 25 = some (.slice 3) := by kernel_rfl
theorem J_in3 : (Try.prog.info? 3).map (fun i => (i.zero, i.size, i.bytes)) = some (some (.int .i64 0), 1, 8) := by kernel_rfl
theorem J_sz3 : sizeB Try.prog 3 = some 1 := by kernel_rfl
theorem J_un9 : Try.prog.underlying 9 = some .string := by kernel_rfl
theorem J_un5 : Try.prog.underlying 5 = some (.int .u8) := by kernel_rfl
theorem J_sc3 : scalarB Try.prog 3 = some true := by kernel_rfl
theorem J_go58 : isGo Try.prog 58 = true := by kernel_rfl
theorem J_fa41_1 : fieldB Try.prog 41 1 = some 1 := by kernel_rfl
set_option maxRecDepth 100000 in
/-- semigroup/semigroupref35.Count -/
theorem count_spec (w : World) (m_ : Mo) (hm : Stays [] w (MoR m_)) (ws : Wd) (hn : ws.length ≤ 9223372036854775807) : Calls Try.prog 41 #[.agg (mov m_).toArray, sv ws] w (fun e w' => ∃ r : Int, decide (0 < r) = matC m_ ws ∧ e = .returned (.int .i64 r) ∧ Ext [] w w') := by
  refine enter (args := [.agg (mov m_).toArray, sv ws]) [] 83 Try.func41 rfl rfl rfl ?_
  refine CT.seq ?_
  -- region 0: ref.go:41
  refine CT.region ?_
  refine Wl.g rfl rfl (OpG.box (size := 2) rfl rfl rfl) ?_
  rintro b2 _
  refine Wl.q rfl rfl (OpQ.assign rfl) ?_
  refine Wl.nil ?_
  refine PX.then_n ?_
  refine CT.seq ?_
  refine CT.seq ?_
  -- region 1: ref.go:42
  refine CT.region ?_
  refine Wl.q rfl rfl (OpQ.loadV (b := b2) J_ag41 J_sz41 rfl (by repeat (first | exact Has.here | apply Has.there)) (by rfl)) ?_
  refine Wl.g rfl rfl (OpG.callV J_go44 rfl (fun w hH => movalidR_spec w m_ (hH.stays0 hm) 6)) ?_
  rintro _ _
  refine Wl.q rfl rfl (OpQ.neq rfl rfl) ?_
  refine Wl.q rfl rfl (OpQ.move rfl) ?_
  refine Wl.split 13 rfl (fun hg13 => ?_) (fun hg13 => ?_)
  · -- t13 = True
    have hg13 := of_nd_t hg13
    refine Wl.skip rfl rfl ?_
    refine Wl.skip rfl rfl ?_
    refine Wl.skip rfl rfl ?_
    refine Wl.q rfl rfl (OpQ.pickT rfl rfl) ?_
    refine Wl.nil ?_
    refine PX.then_n ?_
    refine CT.condT rfl ?_
    refine CT.seq ?_
    -- region 2: ref.go:43
    refine CT.region ?_
    refine Wl.q rfl rfl (OpQ.assign rfl) ?_
    refine Wl.nil ?_
    refine PX.then_n ?_
    refine CT.ret ?_
    refine PX.then_r ?_
    refine PX.ret1 rfl rfl (fun w' hH => ?_)
    exact ⟨0, by rw [matC_no (.inl (by omega))]; rfl, rfl, hH.ext⟩
  · -- t13 = False
    have hg13 := of_nd_f hg13
    refine Wl.q rfl rfl (OpQ.move rfl) ?_
    refine Wl.g rfl rfl (OpG.callV J_go42 rfl (fun w hH => wvalidR_spec w ws hn 6)) ?_
    rintro _ _
    refine Wl.q rfl rfl (OpQ.not rfl) ?_
    refine Wl.q rfl rfl (OpQ.pickF rfl rfl) ?_
    refine Wl.nil ?_
    refine PX.then_n ?_
    refine CT.cond rfl (fun h17 => ?_) (fun h17 => ?_)
    · -- if t17: then
      refine CT.seq ?_
      -- region 2: ref.go:43
      refine CT.region ?_
      refine Wl.q rfl rfl (OpQ.assign rfl) ?_
      refine Wl.nil ?_
      refine PX.then_n ?_
      refine CT.ret ?_
      refine PX.then_r ?_
      refine PX.ret1 rfl rfl (fun w' hH => ?_)
      exact ⟨0, by rw [matC_no (.inr (by simpa using h17))]; rfl, rfl, hH.ext⟩
    · -- if t17: else
      have he : moE m_ 6 = 0 := by omega
      have hok : okW ws 6 = true := by simpa using h17
      obtain ⟨_, hll, hsl, hst, hlt⟩ := mo_parts he
      refine CT.skip ?_
      refine PX.then_n ?_
      refine CT.seq ?_
      -- region 3: ref.go:45
      refine CT.region ?_
      refine Wl.q rfl rfl (OpQ.fieldAddr J_fa41_0 rfl) ?_
      refine Wl.q rfl rfl (OpQ.loadF (b := b2) J_sc25 rfl (by repeat (first | exact Has.here | apply Has.there)) (by rfl)) ?_
      refine Wl.q rfl rfl (OpQ.len J_un25 rfl) ?_
      refine Wl.g rfl rfl (OpG.make1 J_un25 J_in3 rfl rfl rfl rfl (by omega) (by omega)) ?_
      rintro b21 _
      refine Wl.q rfl rfl (OpQ.assign rfl) ?_
      refine Wl.nil ?_
      refine PX.then_n ?_
      refine CT.seq ?_
      -- region 4: ref.go:46
      refine CT.region ?_
      refine Wl.q rfl rfl (OpQ.move rfl) ?_
      refine Wl.q rfl rfl (OpQ.index1 J_un25 J_sz3 rfl rfl (by omega) rfl) ?_
      refine Wl.g rfl rfl (OpG.storeRow J_sz3 rfl rfl rfl .here (by simp; omega)) ?_
      rintro _ _
      refine Wl.nil ?_
      refine PX.then_n ?_
      refine CT.seq ?_
      refine CT.seq ?_
      -- region 5: ref.go:47
      refine CT.region ?_
      refine Wl.q rfl rfl (OpQ.assign rfl) ?_
      refine Wl.nil ?_
      refine PX.then_n ?_
      refine CT.block ?_
      -- the loop at region 6
      refine CT.loop (ι := Nat × List Int) (fun (k, ct) => k ≤ ws.length ∧ Cnt ct m_.sets.length (stF m_.sets m_.lets (ws.take k) nst0)) (fun (k, ct) => [(1, sv ws), (2, .pointer (some ⟨b2, 0, none⟩)), (5, .slice (some ⟨b21, 0, none⟩) m_.sets.length m_.sets.length), (6, .int .i64 (k : Int))]) (fun (k, ct) => [.row 3 1 (.slice (some ⟨b21, 0, none⟩) m_.sets.length m_.sets.length) m_.sets.length (ct.map zi), .row 41 2 (vb b2) 1 (mov m_)]) (fun (k, ct) => ws.length - k) (0, (List.replicate m_.sets.length (0 : Int)).set 0 1) ⟨Nat.zero_le _, cnt_start (by omega)⟩ ⟨rfl, rfl, rfl, rfl, trivial⟩ (.keep (row_eq (by rw [List.map_set, List.map_replicate]; rfl)) (.keep rfl .nil)) (fun ⟨k, ct⟩ ⟨hk, hc⟩ K0 hK0 => ?_)
      dsimp only
      refine CT.seq ?_
      refine CT.seq ?_
      -- region 6: ref.go:47
      refine CT.region ?_
      refine Wl.q rfl rfl (OpQ.move rfl) ?_
      refine Wl.q rfl rfl (OpQ.move rfl) ?_
      refine Wl.q rfl rfl (OpQ.lenSv J_un9 rfl) ?_
      refine Wl.q rfl rfl (OpQ.lss rfl rfl) ?_
      refine Wl.nil ?_
      refine PX.then_n ?_
      refine CT.cond rfl (fun h27 => ?_) (fun h27 => ?_)
      · -- if t27: then
        have h27 := of_decide_eq_true h27
        refine CT.skip ?_
        refine PX.then_n ?_
        refine CT.seq ?_
        refine CT.block ?_
        refine CT.seq ?_
        -- region 8: ref.go:48
        refine CT.region ?_
        refine Wl.q rfl rfl (OpQ.move rfl) ?_
        refine Wl.q rfl rfl (OpQ.move rfl) ?_
        refine Wl.q rfl rfl (OpQ.indexSvN J_un9 rfl rfl (by omega)) ?_
        have hcb := okW_let hok (j := k) (by omega)
        refine Wl.q rfl rfl (OpQ.sub8 rfl rfl (by omega)) ?_
        refine Wl.q rfl rfl (OpQ.conv rfl (conv_u8_i64 J_un5 J_un3 _ (by omega))) ?_
        refine Wl.know 34 (v' := .int .i64 ((ltB (ws.getD k 0) : Nat) : Int)) rfl (congrArg (Value.int .i64) (by rw [ltB]; omega)) ?_
        refine Wl.q rfl rfl (OpQ.assign rfl) ?_
        refine Wl.nil ?_
        refine PX.then_n ?_
        refine CT.seq ?_
        -- region 9: ref.go:49
        refine CT.region ?_
        refine Wl.q rfl rfl (OpQ.move rfl) ?_
        refine Wl.q rfl rfl (OpQ.len J_un25 rfl) ?_
        refine Wl.q rfl rfl (OpQ.sub rfl rfl (by omega)) ?_
        refine Wl.q rfl rfl (OpQ.assign rfl) ?_
        refine Wl.nil ?_
        refine PX.then_n ?_
        refine CT.block ?_
        -- the loop at region 10
        refine CT.loop (ι := Nat × List Int) (fun (i, c2) => i ≤ m_.sets.length ∧ Cnt c2 m_.sets.length (mix i (stF m_.sets m_.lets (ws.take k) nst0) (nst m_.sets m_.lets (ws.getD k 0) (stF m_.sets m_.lets (ws.take k) nst0)))) (fun (i, c2) => [(1, sv ws), (2, .pointer (some ⟨b2, 0, none⟩)), (5, .slice (some ⟨b21, 0, none⟩) m_.sets.length m_.sets.length), (6, .int .i64 (k : Int)), (7, .int .i64 ((ltB (ws.getD k 0) : Nat) : Int)), (8, .int .i64 ((i : Int) - 1))]) (fun (i, c2) => [.row 3 1 (.slice (some ⟨b21, 0, none⟩) m_.sets.length m_.sets.length) m_.sets.length (c2.map zi), .row 41 2 (vb b2) 1 (mov m_)]) (fun (i, c2) => i) (m_.sets.length, ct) ⟨Nat.le_refl _, hc.congr (mix_all _ _ (Nat.le_refl _))⟩ ⟨rfl, rfl, rfl, rfl, rfl, rfl, trivial⟩ (HSub.refl _) (fun ⟨i, c2⟩ ⟨hi, hc2⟩ K1 hK1 => ?_)
        dsimp only
        refine CT.seq ?_
        refine CT.seq ?_
        -- region 10: ref.go:49
        refine CT.region ?_
        refine Wl.q rfl rfl (OpQ.move rfl) ?_
        refine Wl.q rfl rfl (OpQ.geq rfl rfl) ?_
        refine Wl.nil ?_
        refine PX.then_n ?_
        refine CT.cond rfl (fun h39 => ?_) (fun h39 => ?_)
        · -- if t39: then
          have h39 := of_decide_eq_true h39
          obtain ⟨i, rfl⟩ : ∃ i2, i = i2 + 1 := ⟨i - 1, by omega⟩
          refine CT.know 8 (v' := .int .i64 (i : Int)) rfl (congrArg (Value.int .i64) (by omega)) ?_
          refine CT.skip ?_
          refine PX.then_n ?_
          refine CT.seq ?_
          refine CT.block ?_
          refine CT.seq ?_
          -- region 12: ref.go:50
          refine CT.region ?_
          refine Wl.q rfl rfl (OpQ.assign rfl) ?_
          refine Wl.nil ?_
          refine PX.then_n ?_
          refine CT.seq ?_
          refine CT.seq ?_
          -- region 13: ref.go:51
          refine CT.region ?_
          refine Wl.q rfl rfl (OpQ.fieldAddr J_fa41_0 rfl) ?_
          refine Wl.q rfl rfl (OpQ.loadF (b := b2) J_sc25 rfl (by repeat (first | exact Has.here | apply Has.there)) (by rfl)) ?_
          refine Wl.q rfl rfl (OpQ.move rfl) ?_
          refine Wl.q rfl rfl (OpQ.index1 J_un25 J_sz3 rfl rfl (by omega) (hm.now.1.isSome (j := 0) (by rw [List.length_map]; omega))) ?_
          refine Wl.q rfl rfl (OpQ.loadG J_sc3 rfl (fun w hH => (hH.use hm).1) (getMap zi m_.sets 0 (j := i) (by omega))) ?_
          refine Wl.q rfl rfl (OpQ.move rfl) ?_
          refine Wl.g rfl rfl (OpG.callV J_go58 rfl (fun w hH => has_spec w (m_.sets.getD i 0) (ltB (ws.getD k 0)) (okS_get hst (by omega)).1 (by rw [ltB]; omega))) ?_
          rintro _ _
          refine Wl.nil ?_
          refine PX.then_n ?_
          refine CT.cond rfl (fun h48 => ?_) (fun h48 => ?_)
          · -- if t48: then
            -- region 14: ref.go:52
            refine CT.region ?_
            refine Wl.q rfl rfl (OpQ.move rfl) ?_
            refine Wl.q rfl rfl (OpQ.move rfl) ?_
            refine Wl.q rfl rfl (OpQ.index1 J_un25 J_sz3 rfl rfl (by omega) rfl) ?_
            refine Wl.q rfl rfl (OpQ.loadRow J_sc3 rfl .here (getMap zi c2 0 (j := i) (by have := hc2.1; omega))) ?_
            refine Wl.q rfl rfl (OpQ.assign rfl) ?_
            refine Wl.nil ?_
            refine PX.then_n ?_
            refine CT.seq ?_
            refine CT.seq ?_
            -- region 15: ref.go:54
            refine CT.region ?_
            refine Wl.q rfl rfl (OpQ.move rfl) ?_
            refine Wl.q rfl rfl (OpQ.gtr rfl rfl) ?_
            refine Wl.q rfl rfl (OpQ.move rfl) ?_
            refine Wl.split 55 rfl (fun hg55 => ?_) (fun hg55 => ?_)
            · -- t55 = True
              have hg55 := of_decide_eq_true hg55
              refine Wl.q rfl rfl (OpQ.fieldAddr J_fa41_1 rfl) ?_
              refine Wl.q rfl rfl (OpQ.loadF (b := b2) J_sc25 rfl (by repeat (first | exact Has.here | apply Has.there)) (by rfl)) ?_
              refine Wl.q rfl rfl (OpQ.move rfl) ?_
              refine Wl.q rfl rfl (OpQ.sub rfl rfl (by omega)) ?_
              refine Wl.know 59 (v' := .int .i64 ((i - 1 : Nat) : Int)) rfl (congrArg (Value.int .i64) (by omega)) ?_
              refine Wl.q rfl rfl (OpQ.index1 J_un25 J_sz3 rfl rfl (by omega) (hm.now.2.isSome (j := 0) (by rw [List.length_map]; omega))) ?_
              refine Wl.q rfl rfl (OpQ.loadG J_sc3 rfl (fun w hH => (hH.use hm).2) (getMap zi m_.lets 0 (j := i - 1) (by omega))) ?_
              refine Wl.q rfl rfl (OpQ.move rfl) ?_
              refine Wl.q rfl rfl (OpQ.eql rfl rfl) ?_
              refine Wl.q rfl rfl (OpQ.pickT rfl rfl) ?_
              refine Wl.nil ?_
              refine PX.then_n ?_
              refine CT.cond rfl (fun h64 => ?_) (fun h64 => ?_)
              · -- if t64: then
                have h64 := of_decide_eq_true h64
                -- region 16: ref.go:55
                refine CT.region ?_
                refine Wl.q rfl rfl (OpQ.move rfl) ?_
                refine Wl.q rfl rfl (OpQ.move rfl) ?_
                refine Wl.q rfl rfl (OpQ.move rfl) ?_
                refine Wl.q rfl rfl (OpQ.sub rfl rfl (by omega)) ?_
                refine Wl.know 68 (v' := .int .i64 ((i - 1 : Nat) : Int)) rfl (congrArg (Value.int .i64) (by omega)) ?_
                refine Wl.q rfl rfl (OpQ.index1 J_un25 J_sz3 rfl rfl (by omega) rfl) ?_
                refine Wl.q rfl rfl (OpQ.loadRow J_sc3 rfl .here (getMap zi c2 0 (j := (i - 1)) (by have := hc2.1; omega))) ?_
                refine Wl.q rfl rfl (OpQ.add rfl rfl (by have := (hc2.low (Nat.le_refl _) (by omega)); have := (hc2.low (j := i - 1) (by omega) (by omega)); omega)) ?_
                refine Wl.q rfl rfl (OpQ.assign rfl) ?_
                refine Wl.nil ?_
                refine PX.then_n ?_
                -- region 17: ref.go:57
                refine CT.region ?_
                refine Wl.q rfl rfl (OpQ.move rfl) ?_
                refine Wl.q rfl rfl (OpQ.move rfl) ?_
                refine Wl.q rfl rfl (OpQ.move rfl) ?_
                refine Wl.q rfl rfl (OpQ.imin rfl rfl) ?_
                refine Wl.q rfl rfl (OpQ.index1 J_un25 J_sz3 rfl rfl (by omega) rfl) ?_
                refine Wl.g rfl rfl (OpG.storeRow J_sz3 rfl rfl rfl .here (by rw [List.length_map]; have := hc2.1; omega)) ?_
                rintro _ _
                refine Wl.nil ?_
                refine PX.block_n ?_
                refine PX.then_n ?_
                -- region 11: ref.go:49
                refine CT.region ?_
                refine Wl.q rfl rfl (OpQ.move rfl) ?_
                refine Wl.q rfl rfl (OpQ.sub rfl rfl (by omega)) ?_
                refine Wl.q rfl rfl (OpQ.assign rfl) ?_
                refine Wl.nil ?_
                exact PX.loop hK1 (i, c2.set i (min (c2.getD i 0 + c2.getD (i - 1) 0) 2147483647)) ⟨by omega, hc2.step (by omega) (by have := (hc2.low (Nat.le_refl _) (by omega)).1; have := (hc2.low (j := i - 1) (by omega) (by omega)).1; omega) (nst_tt h48 (dec2_t (by omega) (by omega)) (hc2.low (Nat.le_refl _) (by omega)).1 (hc2.low (Nat.le_refl _) (by omega)).2.2 (hc2.low (j := i - 1) (by omega) (by omega)).1 (hc2.low (j := i - 1) (by omega) (by omega)).2.2)⟩ (show i < i + 1 by omega) ⟨rfl, rfl, rfl, rfl, rfl, rfl, trivial⟩ (.keep (row_eq (by rw [List.map_set] <;> rfl)) (.keep rfl .nil))
              · -- if t64: else
                have h64 := of_decide_eq_false h64
                refine CT.skip ?_
                refine PX.then_n ?_
                -- region 17: ref.go:57
                refine CT.region ?_
                refine Wl.q rfl rfl (OpQ.move rfl) ?_
                refine Wl.q rfl rfl (OpQ.move rfl) ?_
                refine Wl.q rfl rfl (OpQ.move rfl) ?_
                refine Wl.q rfl rfl (OpQ.imin rfl rfl) ?_
                refine Wl.q rfl rfl (OpQ.index1 J_un25 J_sz3 rfl rfl (by omega) rfl) ?_
                refine Wl.g rfl rfl (OpG.storeRow J_sz3 rfl rfl rfl .here (by rw [List.length_map]; have := hc2.1; omega)) ?_
                rintro _ _
                refine Wl.nil ?_
                refine PX.block_n ?_
                refine PX.then_n ?_
                -- region 11: ref.go:49
                refine CT.region ?_
                refine Wl.q rfl rfl (OpQ.move rfl) ?_
                refine Wl.q rfl rfl (OpQ.sub rfl rfl (by omega)) ?_
                refine Wl.q rfl rfl (OpQ.assign rfl) ?_
                refine Wl.nil ?_
                exact PX.loop hK1 (i, c2.set i (min (c2.getD i 0) 2147483647)) ⟨by omega, hc2.step (by omega) (hc2.low (Nat.le_refl _) (by omega)).1 (nst_tf h48 (dec2_r (by omega)) (hc2.low (Nat.le_refl _) (by omega)).1 (hc2.low (Nat.le_refl _) (by omega)).2.2)⟩ (show i < i + 1 by omega) ⟨rfl, rfl, rfl, rfl, rfl, rfl, trivial⟩ (.keep (row_eq (by rw [List.map_set] <;> rfl)) (.keep rfl .nil))
            · -- t55 = False
              have hg55 := of_decide_eq_false hg55
              refine Wl.skip rfl rfl ?_
              refine Wl.skip rfl rfl ?_
              refine Wl.skip rfl rfl ?_
              refine Wl.skip rfl rfl ?_
              refine Wl.skip rfl rfl ?_
              refine Wl.skip rfl rfl ?_
              refine Wl.skip rfl rfl ?_
              refine Wl.skip rfl rfl ?_
              refine Wl.q rfl rfl (OpQ.pickF rfl rfl) ?_
              refine Wl.nil ?_
              refine PX.then_n ?_
              refine CT.condF rfl ?_
              refine CT.skip ?_
              refine PX.then_n ?_
              -- region 17: ref.go:57
              refine CT.region ?_
              refine Wl.q rfl rfl (OpQ.move rfl) ?_
              refine Wl.q rfl rfl (OpQ.move rfl) ?_
              refine Wl.q rfl rfl (OpQ.move rfl) ?_
              refine Wl.q rfl rfl (OpQ.imin rfl rfl) ?_
              refine Wl.q rfl rfl (OpQ.index1 J_un25 J_sz3 rfl rfl (by omega) rfl) ?_
              refine Wl.g rfl rfl (OpG.storeRow J_sz3 rfl rfl rfl .here (by rw [List.length_map]; have := hc2.1; omega)) ?_
              rintro _ _
              refine Wl.nil ?_
              refine PX.block_n ?_
              refine PX.then_n ?_
              -- region 11: ref.go:49
              refine CT.region ?_
              refine Wl.q rfl rfl (OpQ.move rfl) ?_
              refine Wl.q rfl rfl (OpQ.sub rfl rfl (by omega)) ?_
              refine Wl.q rfl rfl (OpQ.assign rfl) ?_
              refine Wl.nil ?_
              exact PX.loop hK1 (i, c2.set i (min (c2.getD i 0) 2147483647)) ⟨by omega, hc2.step (by omega) (hc2.low (Nat.le_refl _) (by omega)).1 (nst_tf h48 (dec2_l (by omega)) (hc2.low (Nat.le_refl _) (by omega)).1 (hc2.low (Nat.le_refl _) (by omega)).2.2)⟩ (show i < i + 1 by omega) ⟨rfl, rfl, rfl, rfl, rfl, rfl, trivial⟩ (.keep (row_eq (by rw [List.map_set] <;> rfl)) (.keep rfl .nil))
          · -- if t48: else
            refine CT.skip ?_
            refine PX.then_n ?_
            refine CT.seq ?_
            refine CT.seq ?_
            -- region 15: ref.go:54
            refine CT.region ?_
            refine Wl.q rfl rfl (OpQ.move rfl) ?_
            refine Wl.q rfl rfl (OpQ.gtr rfl rfl) ?_
            refine Wl.q rfl rfl (OpQ.move rfl) ?_
            refine Wl.split 55 rfl (fun hg55 => ?_) (fun hg55 => ?_)
            · -- t55 = True
              have hg55 := of_decide_eq_true hg55
              refine Wl.q rfl rfl (OpQ.fieldAddr J_fa41_1 rfl) ?_
              refine Wl.q rfl rfl (OpQ.loadF (b := b2) J_sc25 rfl (by repeat (first | exact Has.here | apply Has.there)) (by rfl)) ?_
              refine Wl.q rfl rfl (OpQ.move rfl) ?_
              refine Wl.q rfl rfl (OpQ.sub rfl rfl (by omega)) ?_
              refine Wl.know 59 (v' := .int .i64 ((i - 1 : Nat) : Int)) rfl (congrArg (Value.int .i64) (by omega)) ?_
              refine Wl.q rfl rfl (OpQ.index1 J_un25 J_sz3 rfl rfl (by omega) (hm.now.2.isSome (j := 0) (by rw [List.length_map]; omega))) ?_
              refine Wl.q rfl rfl (OpQ.loadG J_sc3 rfl (fun w hH => (hH.use hm).2) (getMap zi m_.lets 0 (j := i - 1) (by omega))) ?_
              refine Wl.q rfl rfl (OpQ.move rfl) ?_
              refine Wl.q rfl rfl (OpQ.eql rfl rfl) ?_
              refine Wl.q rfl rfl (OpQ.pickT rfl rfl) ?_
              refine Wl.nil ?_
              refine PX.then_n ?_
              refine CT.cond rfl (fun h64 => ?_) (fun h64 => ?_)
              · -- if t64: then
                have h64 := of_decide_eq_true h64
                -- region 16: ref.go:55
                refine CT.region ?_
                refine Wl.q rfl rfl (OpQ.move rfl) ?_
                refine Wl.q rfl rfl (OpQ.move rfl) ?_
                refine Wl.q rfl rfl (OpQ.move rfl) ?_
                refine Wl.q rfl rfl (OpQ.sub rfl rfl (by omega)) ?_
                refine Wl.know 68 (v' := .int .i64 ((i - 1 : Nat) : Int)) rfl (congrArg (Value.int .i64) (by omega)) ?_
                refine Wl.q rfl rfl (OpQ.index1 J_un25 J_sz3 rfl rfl (by omega) rfl) ?_
                refine Wl.q rfl rfl (OpQ.loadRow J_sc3 rfl .here (getMap zi c2 0 (j := (i - 1)) (by have := hc2.1; omega))) ?_
                refine Wl.q rfl rfl (OpQ.add rfl rfl (by have := (hc2.low (Nat.le_refl _) (by omega)); have := (hc2.low (j := i - 1) (by omega) (by omega)); omega)) ?_
                refine Wl.q rfl rfl (OpQ.assign rfl) ?_
                refine Wl.nil ?_
                refine PX.then_n ?_
                -- region 17: ref.go:57
                refine CT.region ?_
                refine Wl.q rfl rfl (OpQ.move rfl) ?_
                refine Wl.q rfl rfl (OpQ.move rfl) ?_
                refine Wl.q rfl rfl (OpQ.move rfl) ?_
                refine Wl.q rfl rfl (OpQ.imin rfl rfl) ?_
                refine Wl.q rfl rfl (OpQ.index1 J_un25 J_sz3 rfl rfl (by omega) rfl) ?_
                refine Wl.g rfl rfl (OpG.storeRow J_sz3 rfl rfl rfl .here (by rw [List.length_map]; have := hc2.1; omega)) ?_
                rintro _ _
                refine Wl.nil ?_
                refine PX.block_n ?_
                refine PX.then_n ?_
                -- region 11: ref.go:49
                refine CT.region ?_
                refine Wl.q rfl rfl (OpQ.move rfl) ?_
                refine Wl.q rfl rfl (OpQ.sub rfl rfl (by omega)) ?_
                refine Wl.q rfl rfl (OpQ.assign rfl) ?_
                refine Wl.nil ?_
                exact PX.loop hK1 (i, c2.set i (min (0 + c2.getD (i - 1) 0) 2147483647)) ⟨by omega, hc2.step (by omega) (by have := (hc2.low (j := i - 1) (by omega) (by omega)).1; omega) (nst_ft (by simpa using h48) (dec2_t (by omega) (by omega)) (hc2.low (j := i - 1) (by omega) (by omega)).1 (hc2.low (j := i - 1) (by omega) (by omega)).2.2)⟩ (show i < i + 1 by omega) ⟨rfl, rfl, rfl, rfl, rfl, rfl, trivial⟩ (.keep (row_eq (by rw [List.map_set] <;> rfl)) (.keep rfl .nil))
              · -- if t64: else
                have h64 := of_decide_eq_false h64
                refine CT.skip ?_
                refine PX.then_n ?_
                -- region 17: ref.go:57
                refine CT.region ?_
                refine Wl.q rfl rfl (OpQ.move rfl) ?_
                refine Wl.q rfl rfl (OpQ.move rfl) ?_
                refine Wl.q rfl rfl (OpQ.move rfl) ?_
                refine Wl.q rfl rfl (OpQ.imin rfl rfl) ?_
                refine Wl.q rfl rfl (OpQ.index1 J_un25 J_sz3 rfl rfl (by omega) rfl) ?_
                refine Wl.g rfl rfl (OpG.storeRow J_sz3 rfl rfl rfl .here (by rw [List.length_map]; have := hc2.1; omega)) ?_
                rintro _ _
                refine Wl.nil ?_
                refine PX.block_n ?_
                refine PX.then_n ?_
                -- region 11: ref.go:49
                refine CT.region ?_
                refine Wl.q rfl rfl (OpQ.move rfl) ?_
                refine Wl.q rfl rfl (OpQ.sub rfl rfl (by omega)) ?_
                refine Wl.q rfl rfl (OpQ.assign rfl) ?_
                refine Wl.nil ?_
                exact PX.loop hK1 (i, c2.set i (min (0) 2147483647)) ⟨by omega, hc2.step (by omega) (by omega) (nst_ff (by simpa using h48) (dec2_r (by omega)))⟩ (show i < i + 1 by omega) ⟨rfl, rfl, rfl, rfl, rfl, rfl, trivial⟩ (.keep (row_eq (by rw [List.map_set] <;> rfl)) (.keep rfl .nil))
            · -- t55 = False
              have hg55 := of_decide_eq_false hg55
              refine Wl.skip rfl rfl ?_
              refine Wl.skip rfl rfl ?_
              refine Wl.skip rfl rfl ?_
              refine Wl.skip rfl rfl ?_
              refine Wl.skip rfl rfl ?_
              refine Wl.skip rfl rfl ?_
              refine Wl.skip rfl rfl ?_
              refine Wl.skip rfl rfl ?_
              refine Wl.q rfl rfl (OpQ.pickF rfl rfl) ?_
              refine Wl.nil ?_
              refine PX.then_n ?_
              refine CT.condF rfl ?_
              refine CT.skip ?_
              refine PX.then_n ?_
              -- region 17: ref.go:57
              refine CT.region ?_
              refine Wl.q rfl rfl (OpQ.move rfl) ?_
              refine Wl.q rfl rfl (OpQ.move rfl) ?_
              refine Wl.q rfl rfl (OpQ.move rfl) ?_
              refine Wl.q rfl rfl (OpQ.imin rfl rfl) ?_
              refine Wl.q rfl rfl (OpQ.index1 J_un25 J_sz3 rfl rfl (by omega) rfl) ?_
              refine Wl.g rfl rfl (OpG.storeRow J_sz3 rfl rfl rfl .here (by rw [List.length_map]; have := hc2.1; omega)) ?_
              rintro _ _
              refine Wl.nil ?_
              refine PX.block_n ?_
              refine PX.then_n ?_
              -- region 11: ref.go:49
              refine CT.region ?_
              refine Wl.q rfl rfl (OpQ.move rfl) ?_
              refine Wl.q rfl rfl (OpQ.sub rfl rfl (by omega)) ?_
              refine Wl.q rfl rfl (OpQ.assign rfl) ?_
              refine Wl.nil ?_
              exact PX.loop hK1 (i, c2.set i (min (0) 2147483647)) ⟨by omega, hc2.step (by omega) (by omega) (nst_ff (by simpa using h48) (dec2_l (by omega)))⟩ (show i < i + 1 by omega) ⟨rfl, rfl, rfl, rfl, rfl, rfl, trivial⟩ (.keep (row_eq (by rw [List.map_set] <;> rfl)) (.keep rfl .nil))
        · -- if t39: else
          have h39 := of_decide_eq_false h39
          refine CT.exit ?_
          refine PX.then_x ?_
          refine PX.then_x ?_
          refine PX.block_x ?_
          refine PX.block_n ?_
          refine PX.then_n ?_
          -- region 7: ref.go:47
          refine CT.region ?_
          refine Wl.q rfl rfl (OpQ.move rfl) ?_
          refine Wl.q rfl rfl (OpQ.add rfl rfl (by omega)) ?_
          refine Wl.q rfl rfl (OpQ.assign rfl) ?_
          refine Wl.nil ?_
          exact PX.loop hK0 (k + 1, c2) ⟨by omega, by obtain rfl : i = 0 := (by omega); exact hc2.congr (fun j _ => by rw [mix_zero, stF_take (c := ws.getD k 0) (by simp [List.getD, show k < ws.length by omega])])⟩ (show ws.length - (k + 1) < ws.length - k by omega) ⟨rfl, rfl, rfl, rfl, trivial⟩ (HSub.refl _)
      · -- if t27: else
        have h27 := of_decide_eq_false h27
        refine CT.exit ?_
        refine PX.then_x ?_
        refine PX.then_x ?_
        refine PX.block_x ?_
        refine PX.then_n ?_
        refine CT.seq ?_
        -- region 18: ref.go:60
        refine CT.region ?_
        refine Wl.q rfl rfl (OpQ.move rfl) ?_
        refine Wl.q rfl rfl (OpQ.move rfl) ?_
        refine Wl.q rfl rfl (OpQ.len J_un25 rfl) ?_
        refine Wl.q rfl rfl (OpQ.sub rfl rfl (by omega)) ?_
        refine Wl.know 80 (v' := .int .i64 ((m_.lets.length : Nat) : Int)) rfl (congrArg (Value.int .i64) (by omega)) ?_
        refine Wl.q rfl rfl (OpQ.index1 J_un25 J_sz3 rfl rfl (by omega) rfl) ?_
        refine Wl.q rfl rfl (OpQ.loadRow J_sc3 rfl .here (getMap zi ct 0 (j := m_.lets.length) (by have := hc.1; omega))) ?_
        refine Wl.q rfl rfl (OpQ.assign rfl) ?_
        refine Wl.nil ?_
        refine PX.then_n ?_
        refine CT.ret ?_
        refine PX.ret1 rfl rfl (fun w' hH => ?_)
        obtain rfl : k = ws.length := by omega
        exact ⟨_, by rw [(hc.2 m_.lets.length (by omega)).2.2, List.take_length, stF_mat hsl, matC_yes he hok], rfl, hH.ext⟩

theorem J_go41 : isGo Try.prog 41 = true := by kernel_rfl
set_option maxRecDepth 100000 in
/-- semigroup/semigroupref35.Match -/
theorem match_spec (w : World) (m_ : Mo) (hm : Stays [] w (MoR m_)) (ws : Wd) (hn : ws.length ≤ 9223372036854775807) : Calls Try.prog 21 #[.agg (mov m_).toArray, sv ws] w (fun e w' => e = .returned (.bool (matC m_ ws)) ∧ Ext [] w w') := by
  refine enter (args := [.agg (mov m_).toArray, sv ws]) [] 9 Try.func21 rfl rfl rfl ?_
  refine CT.seq ?_
  -- region 0: ref.go:64
  refine CT.region ?_
  refine Wl.g rfl rfl (OpG.box (size := 2) rfl rfl rfl) ?_
  rintro b2 _
  refine Wl.q rfl rfl (OpQ.assign rfl) ?_
  refine Wl.nil ?_
  refine PX.then_n ?_
  refine CT.seq ?_
  -- region 1: ref.go:64
  refine CT.region ?_
  refine Wl.q rfl rfl (OpQ.loadV (b := b2) J_ag41 J_sz41 rfl (by repeat (first | exact Has.here | apply Has.there)) (by rfl)) ?_
  refine Wl.q rfl rfl (OpQ.move rfl) ?_
  refine Wl.g rfl rfl (OpG.call J_go41 rfl (fun w hH => (count_spec w m_ (hH.stays0 hm) ws hn).mono fun e w' ⟨r, h1, h2, h3⟩ => ⟨r, h1, h2, hH.ext_nil h3⟩)) ?_
  rintro r7 h7
  refine Wl.know 7 (v' := .int .i64 r7) rfl rfl ?_
  refine Wl.q rfl rfl (OpQ.gtr rfl rfl) ?_
  refine Wl.q rfl rfl (OpQ.assign rfl) ?_
  refine Wl.nil ?_
  refine PX.then_n ?_
  refine CT.ret ?_
  refine PX.ret1 rfl rfl (fun w' hH => ?_)
  exact ⟨ret_b (by rw [← h7]), hH.ext⟩

end Go.Proofs.Ytlmbcdjmdgbmjaa
