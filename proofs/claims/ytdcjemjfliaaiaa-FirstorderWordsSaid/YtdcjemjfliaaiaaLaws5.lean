/-
  What functions of the packages firstorder, semigroupref38 and semigroupmade compute, each by its walk. Conditions: those that each theorem names.
-/
import Derived.Test.YtdcjemjfliaaiaaMod
import Derived.Test.YtdcjemjfliaaiaaWalks16
set_option linter.unusedSimpArgs false
namespace Go.Proofs.Ytdcjemjfliaaiaa
open Go Go.Eng Go.Fo Go.Sf
open Go.Tp (zi)
open Go.Tl (vf mayL Wd okW okB vf_t vf_f bo)
theorem pt_one (op : Int) : 1 ≤ pt op ↔ 5 ≤ op ∧ op ≤ 8 := by
  have := pt_a op
  rw [hA, decide_eq_decide] at this
  exact this
theorem pt_two (op : Int) : pt op = 2 ↔ 5 ≤ op ∧ op ≤ 7 := by
  have := pt_b op
  rw [hB, decide_eq_decide] at this
  exact this

theorem AE_un38 : Try.prog.underlying 38 = some (.slice 72) := by kernel_rfl
theorem AE_sz72 : sizeB Try.prog 72 = some 4 := by kernel_rfl
theorem AE_ag40 : isAggB Try.prog 40 = some true := by kernel_rfl
theorem AE_sz40 : sizeB Try.prog 40 = some 2 := by kernel_rfl
theorem AE_go35 : isGo Try.prog 35 = true := by kernel_rfl
theorem AE_go30 : isGo Try.prog 30 = true := by kernel_rfl
theorem AE_un9 : Try.prog.underlying 9 = some .string := by kernel_rfl
theorem AE_fa40_0 : fieldB Try.prog 40 0 = some 0 := by kernel_rfl
theorem AE_sc38 : scalarB Try.prog 38 = some true := by kernel_rfl
theorem AE_un99 : Try.prog.underlying 99 = some (.slice 102) := by kernel_rfl
theorem AE_in102 : (Try.prog.info? 102).map (fun i => (i.zero, i.size, i.bytes)) = some (some (.slice none 0 0), 1, 24) := by kernel_rfl
theorem AE_go46 : isGo Try.prog 46 = true := by kernel_rfl
theorem AE_un95 : Try.prog.underlying 95 = some (.slice 4) := by kernel_rfl
theorem AE_sz4 : sizeB Try.prog 4 = some 1 := by kernel_rfl
theorem AE_sc4 : scalarB Try.prog 4 = some true := by kernel_rfl
theorem AE_ag72 : isAggB Try.prog 72 = some true := by kernel_rfl
theorem AE_go47 : isGo Try.prog 47 = true := by kernel_rfl
theorem AE_sz102 : sizeB Try.prog 102 = some 1 := by kernel_rfl
theorem AE_fa40_1 : fieldB Try.prog 40 1 = some 1 := by kernel_rfl
theorem AE_sc3 : scalarB Try.prog 3 = some true := by kernel_rfl
theorem AE_sc102 : scalarB Try.prog 102 = some true := by kernel_rfl
theorem AE_un102 : Try.prog.underlying 102 = some (.slice 105) := by kernel_rfl
theorem AE_sz105 : sizeB Try.prog 105 = some 2 := by kernel_rfl
theorem AE_ag105 : isAggB Try.prog 105 = some true := by kernel_rfl
theorem AE_go48 : isGo Try.prog 48 = true := by kernel_rfl
set_option maxRecDepth 100000 in
/-- semigroup/starfree.Accepts -/
theorem sacc_spec (w : World) (a : Option Addr) (cp : Nat) (xs : List Nd) (hr : Rd w a (xs.flatMap nv)) (hn : xs.length ≤ 20000) (rt : Nat) (hrt : rt < xs.length) (hok : okG xs 6 = true) (ws : Wd) (hws : ws.length ≤ 64) (hwk : okW ws 6 = true) : Calls Try.prog 26 #[.agg #[.slice a xs.length cp, .int .i64 ((rt : Nat) : Int)], sv ws] w (fun e w' => e = .returned (.bool (mem xs ws rt 0 ws.length)) ∧ Ext [] w w') := by
  have sm : 0 < xs.length → a.isSome = true := fun h => hr.isSome (j := 0) (by rw [flat_len nv_len]; omega)
  refine enter (args := [.agg #[.slice a xs.length cp, .int .i64 ((rt : Nat) : Int)], sv ws]) [] 56 Try.func26 rfl rfl rfl ?_
  refine CT.seq ?_
  -- region 0: starfree.go:85
  refine CT.region ?_
  refine Wl.g rfl rfl (OpG.box (size := 2) rfl rfl rfl) ?_
  rintro b2 _
  refine Wl.q rfl rfl (OpQ.assign rfl) ?_
  refine Wl.nil ?_
  refine PX.then_n ?_
  refine CT.seq ?_
  refine CT.seq ?_
  -- region 1: starfree.go:86
  refine CT.region ?_
  refine Wl.q rfl rfl (OpQ.loadV (b := b2) AE_ag40 AE_sz40 rfl (by repeat (first | exact Has.here | apply Has.there)) (by rfl)) ?_
  refine Wl.g rfl rfl (OpG.callV AE_go35 rfl (fun w hH => gvalid_spec w a cp xs (hH.rd0 hr rfl) (by omega) (rt : Int) 6)) ?_
  rintro _ _
  refine Wl.know 9 (v' := .int .i64 (0)) rfl (congrArg (Value.int .i64) (gE_of (by decide) hn hok hrt)) ?_
  refine Wl.q rfl rfl (OpQ.neq rfl rfl) ?_
  refine Wl.know 10 (v' := .bool false) rfl (congrArg Value.bool rfl) ?_
  refine Wl.q rfl rfl (OpQ.move rfl) ?_
  refine Wl.q rfl rfl (OpQ.move rfl) ?_
  refine Wl.g rfl rfl (OpG.callV AE_go30 rfl (fun w hH => wvalid_spec w ws (by omega) 6)) ?_
  rintro _ _
  refine Wl.know 13 (v' := .bool true) rfl (congrArg Value.bool hwk) ?_
  refine Wl.q rfl rfl (OpQ.not rfl) ?_
  refine Wl.q rfl rfl (OpQ.pickF rfl rfl) ?_
  refine Wl.q rfl rfl (OpQ.move rfl) ?_
  refine Wl.q rfl rfl (OpQ.move rfl) ?_
  refine Wl.q rfl rfl (OpQ.lenSv AE_un9 rfl) ?_
  refine Wl.q rfl rfl (OpQ.gtr rfl rfl) ?_
  refine Wl.know 19 (v' := .bool false) rfl (congrArg Value.bool (decide_eq_false (by omega))) ?_
  refine Wl.q rfl rfl (OpQ.pickF rfl rfl) ?_
  refine Wl.nil ?_
  refine PX.then_n ?_
  refine CT.condF rfl ?_
  refine CT.skip ?_
  refine PX.then_n ?_
  refine CT.seq ?_
  -- region 3: starfree.go:89
  refine CT.region ?_
  refine Wl.q rfl rfl (OpQ.fieldAddr AE_fa40_0 rfl) ?_
  refine Wl.q rfl rfl (OpQ.loadF (b := b2) AE_sc38 rfl (by repeat (first | exact Has.here | apply Has.there)) (by rfl)) ?_
  refine Wl.q rfl rfl (OpQ.len AE_un38 rfl) ?_
  refine Wl.g rfl rfl (OpG.make1 AE_un99 AE_in102 rfl rfl rfl rfl (by omega) (by omega)) ?_
  rintro b24 _
  refine Wl.q rfl rfl (OpQ.assign rfl) ?_
  refine Wl.nil ?_
  refine PX.then_n ?_
  refine CT.seq ?_
  refine CT.seq ?_
  -- region 4: starfree.go:90
  refine CT.region ?_
  refine Wl.q rfl rfl (OpQ.loadV (b := b2) AE_ag40 AE_sz40 rfl (by repeat (first | exact Has.here | apply Has.there)) (by rfl)) ?_
  refine Wl.g rfl rfl (OpG.callX AE_go46 rfl .nil (fun _ => (.cons .nil)) (fun w hH hp => reached_spec w a cp xs (hH.rd0 hr rfl) hn rt hrt hok)) ?_
  rintro ⟨nd, na, nc⟩ h26
  dsimp only at h26
  obtain ⟨hnd, hna⟩ := h26
  have hndl := hnd.len
  refine Wl.know 26 (v' := .slice na xs.length nc) rfl rfl ?_
  refine Wl.q rfl rfl (OpQ.len AE_un95 rfl) ?_
  refine Wl.q rfl rfl (OpQ.move rfl) ?_
  refine Wl.nil ?_
  refine PX.then_n ?_
  refine CT.block ?_
  -- the loop at region 5
  refine CT.as (fun _ h => h.bind0 (p := ocs (List.replicate xs.length oc0)) (ocs_rep _)) ?_
  refine CT.as (fun _ h => h.take (.cons .here (.cons (.there .here) (.cons .here (.cons .here .nil))))) ?_
  refine CT.loop (ι := Nat × List Oc × List Nat) (fun (i, ts, bs) => i ≤ xs.length ∧ IT xs ws rt nd i ts) (fun (i, ts, bs) => [(1, sv ws), (2, .pointer (some ⟨b2, 0, none⟩)), (5, .slice (some ⟨b24, 0, none⟩) xs.length xs.length), (26, .slice na xs.length nc), (27, .int .i64 (xs.length : Int)), (28, .int .i64 (i : Int))]) (fun (i, ts, bs) => [.frag bs (ocs ts), .row 102 1 (.slice (some ⟨b24, 0, none⟩) xs.length xs.length) xs.length (ts.map ocv), .row 4 1 (.slice na xs.length nc) xs.length (nd.map bo), .row 40 2 (vb b2) 1 [.slice a xs.length cp, .int .i64 ((rt : Nat) : Int)]]) (fun (i, ts, bs) => xs.length - i) (0, List.replicate xs.length oc0, []) ⟨by omega, IT.start _ _ _ _⟩ ⟨rfl, rfl, rfl, rfl, rfl, rfl, trivial⟩ (.keep rfl (.keep (row_eq (by simp [oc0])) (.keep rfl (.keep rfl .nil)))) (fun ⟨i, ts, bs⟩ ⟨hi, hin⟩ K0 hK0 => ?_)
  dsimp only
  refine CT.seq ?_
  -- region 5: starfree.go:90
  refine CT.region ?_
  refine Wl.q rfl rfl (OpQ.lss rfl rfl) ?_
  refine Wl.nil ?_
  refine PX.then_n ?_
  refine CT.seq ?_
  refine CT.cond rfl (fun h29 => ?_) (fun h29 => ?_)
  · -- if t29: then
    have h29 := of_decide_eq_true h29
    have htl := hin.len
    have hokk := okG_get hok (j := i) (by omega)
    obtain ⟨ho, _, pa, pb⟩ := okN_parts hokk
    refine CT.skip ?_
    refine PX.then_n ?_
    refine CT.seq ?_
    refine CT.block ?_
    refine CT.seq ?_
    -- region 6: starfree.go:90
    refine CT.region ?_
    refine Wl.q rfl rfl (OpQ.move rfl) ?_
    refine Wl.q rfl rfl (OpQ.index1 AE_un95 AE_sz4 rfl rfl (by omega) hna) ?_
    refine Wl.q rfl rfl (OpQ.loadRow AE_sc4 rfl (.there (.there .here)) (getMap bo nd false (j := i) (by omega))) ?_
    refine Wl.q rfl rfl (OpQ.assign rfl) ?_
    refine Wl.q rfl rfl (OpQ.assign rfl) ?_
    refine Wl.nil ?_
    refine PX.then_n ?_
    refine CT.seq ?_
    -- region 7: starfree.go:91
    refine CT.region ?_
    refine Wl.q rfl rfl (OpQ.move rfl) ?_
    refine Wl.nil ?_
    refine PX.then_n ?_
    refine CT.cond rfl (fun h33 => ?_) (fun h33 => ?_)
    · -- if t33: then
      have h33 : nd.getD i false = true := h33
      have hir : i ≤ rt := Nat.le_of_not_lt fun hh => by rw [hnd.up i hh] at h33; cases h33
      -- region 8: starfree.go:92
      refine CT.region ?_
      refine Wl.q rfl rfl (OpQ.move rfl) ?_
      refine Wl.q rfl rfl (OpQ.move rfl) ?_
      refine Wl.q rfl rfl (OpQ.fieldAddr AE_fa40_0 rfl) ?_
      refine Wl.q rfl rfl (OpQ.loadF (b := b2) AE_sc38 rfl (by repeat (first | exact Has.here | apply Has.there)) (by rfl)) ?_
      refine Wl.q rfl rfl (OpQ.move rfl) ?_
      refine Wl.q rfl rfl (OpQ.index AE_un38 AE_sz72 rfl rfl (by omega) (sm (by omega))) ?_
      refine Wl.q rfl rfl (OpQ.loadAggG (cs := nv (xs.getD i n0)) AE_ag72 AE_sz72 rfl (fun w hH => hH.rd0 hr rfl) (flat_cells nv_len xs n0 (by omega))) ?_
      refine Wl.q rfl rfl (OpQ.move rfl) ?_
      refine Wl.know 41 (v' := .slice (some ⟨b24, 0, none⟩) ts.length xs.length) rfl (by rw [htl]) ?_
      refine Wl.q rfl rfl (OpQ.move rfl) ?_
      refine Wl.g rfl rfl (OpG.callX AE_go47 rfl .nil (fun _ => (.cons .nil)) (fun w hH hp => sevaluate_spec w (xs.getD i n0) i hokk (some ⟨b24, 0, none⟩) xs.length ts (hH.rd (.there .here)) ws hws hwk (mem xs ws (xs.getD i n0).a.toNat) (mem xs ws (xs.getD i n0).b.toNat) (fun h => ⟨by have := pa (by rw [Sf.hA, decide_eq_true_eq] at h; omega); omega, hin.tab _ (by have := pa (by rw [Sf.hA, decide_eq_true_eq] at h; omega); omega) (by have := pa (by rw [Sf.hA, decide_eq_true_eq] at h; omega); omega) ((hnd.use i (Nat.zero_le _) hir h33).1 h), hH.fragp .here _ (getD_mem (by have := pa (by rw [Sf.hA, decide_eq_true_eq] at h; omega); omega))⟩) (fun h => ⟨by have := pb (by rw [Sf.hB, decide_eq_true_eq] at h; omega); omega, hin.tab _ (by have := pb (by rw [Sf.hB, decide_eq_true_eq] at h; omega); omega) (by have := pb (by rw [Sf.hB, decide_eq_true_eq] at h; omega); omega) ((hnd.use i (Nat.zero_le _) hir h33).2 h), hH.fragp .here _ (getD_mem (by have := pb (by rw [Sf.hB, decide_eq_true_eq] at h; omega); omega))⟩))) ?_
      rintro ⟨cs, ca, cc⟩ htc
      dsimp only at htc
      refine Wl.know 43 (v' := .slice ca cs.length cc) rfl rfl ?_
      refine Wl.q rfl rfl (OpQ.index1 AE_un99 AE_sz102 rfl rfl (by omega) rfl) ?_
      refine Wl.g rfl rfl (OpG.storeRow AE_sz102 rfl rfl rfl (.there (.there .here)) (by rw [List.length_map, htl]; show i < _; omega)) ?_
      rintro _ _
      refine Wl.nil ?_
      refine PX.block_n ?_
      refine PX.then_n ?_
      -- region 9: starfree.go:90
      refine CT.region ?_
      refine Wl.q rfl rfl (OpQ.add rfl rfl (by omega)) ?_
      refine Wl.q rfl rfl (OpQ.move rfl) ?_
      refine Wl.nil ?_
      refine PX.as (fun _ h => h.bind (L := [.frag bs (ocs ts), .row 105 2 (.slice ca cs.length cc) cs.length (cs.flatMap cv)]) (p := ocs (ts.set i ⟨ca, cc, cs⟩)) (.cons (.there .here) (.cons .here .nil)) (fun w hk => ocs_set (o := ⟨ca, cc, cs⟩) ((hk _ List.mem_cons_self).2 w (fun _ _ => rfl)) (Rd.of_owns (hk _ (List.mem_cons_of_mem _ List.mem_cons_self))) i)) ?_
      exact PX.loop hK0 (i + 1, ts.set i ⟨ca, cc, cs⟩, _) ⟨by omega, hin.put (by omega) (by rw [mem_eq hok (i := i) (by omega)]; exact htc)⟩ (show xs.length - (i + 1) < xs.length - i by omega) ⟨rfl, rfl, rfl, rfl, rfl, rfl, trivial⟩ (.keep rfl (.keep (row_eq (by rw [List.map_set] <;> rfl)) (.keep rfl (.keep rfl .nil))))
    · -- if t33: else
      have h33 : nd.getD i false = false := h33
      refine CT.skip ?_
      refine PX.block_n ?_
      refine PX.then_n ?_
      -- region 9: starfree.go:90
      refine CT.region ?_
      refine Wl.q rfl rfl (OpQ.add rfl rfl (by omega)) ?_
      refine Wl.q rfl rfl (OpQ.move rfl) ?_
      refine Wl.nil ?_
      exact PX.loop hK0 (i + 1, ts, bs) ⟨by omega, hin.skip h33⟩ (show xs.length - (i + 1) < xs.length - i by omega) ⟨rfl, rfl, rfl, rfl, rfl, rfl, trivial⟩ (HSub.refl _)
  · -- if t29: else
    have h29 := of_decide_eq_false h29
    refine CT.exit ?_
    refine PX.then_x ?_
    refine PX.then_x ?_
    refine PX.block_x ?_
    refine PX.then_n ?_
    refine CT.seq ?_
    -- region 10: starfree.go:95
    refine CT.region ?_
    refine Wl.q rfl rfl (OpQ.move rfl) ?_
    refine Wl.q rfl rfl (OpQ.fieldAddr AE_fa40_1 rfl) ?_
    refine Wl.q rfl rfl (OpQ.loadF (b := b2) AE_sc3 rfl (by repeat (first | exact Has.here | apply Has.there)) (by rfl)) ?_
    obtain rfl : i = xs.length := by omega
    have htl := hin.len
    have htr := hin.tab rt hrt (Nat.le_refl _) hnd.top
    refine Wl.q rfl rfl (OpQ.index1 AE_un99 AE_sz102 rfl rfl (by omega) rfl) ?_
    refine Wl.q rfl rfl (OpQ.loadRow AE_sc102 rfl (.there .here) (getMap ocv ts oc0 (j := rt) (by omega))) ?_
    refine Wl.q rfl rfl (OpQ.index AE_un102 AE_sz105 rfl rfl (by rw [htr.len]; omega) htr.some) ?_
    refine Wl.q rfl rfl (OpQ.loadAggG (cs := (cv ((ts.getD rt oc0).cs.getD 0 c20))) AE_ag105 AE_sz105 rfl (fun w hH => hH.fragp .here _ (getD_mem (show rt < ts.length by omega))) (flat_cells cv_len (ts.getD rt oc0).cs c20 (j := 0) (by rw [htr.len]; omega))) ?_
    refine Wl.q rfl rfl (OpQ.move rfl) ?_
    refine Wl.q rfl rfl (OpQ.lenSv AE_un9 rfl) ?_
    refine Wl.g rfl rfl (OpG.callV AE_go48 rfl (fun w hH => chas_spec w ((ts.getD rt oc0).cs.getD 0 c20) ws.length (by omega))) ?_
    rintro _ _
    refine Wl.know 55 (v' := .bool (mem xs ws rt 0 ws.length)) rfl (congrArg Value.bool (has_in htr (Nat.succ_pos _) (Nat.zero_le _) (Nat.lt_succ_self _) hws)) ?_
    refine Wl.q rfl rfl (OpQ.assign rfl) ?_
    refine Wl.nil ?_
    refine PX.then_n ?_
    refine CT.ret ?_
    refine PX.ret1 rfl rfl (fun w' hH => ?_)
    exact ⟨rfl, hH.ext⟩

theorem AE_un22 : Try.prog.underlying 22 = some (.slice 3) := by kernel_rfl
theorem AE_in3 : (Try.prog.info? 3).map (fun i => (i.zero, i.size, i.bytes)) = some (some (.int .i64 0), 1, 8) := by kernel_rfl
theorem AE_in72 : (Try.prog.info? 72).map (fun i => (i.zero, i.size, i.bytes)) = some (some (.agg #[.int .i64 0, .int .i64 0, .int .i64 0, .int .i64 0]), 4, 32) := by kernel_rfl
theorem AE_fa72_0 : fieldB Try.prog 72 0 = some 0 := by kernel_rfl
theorem AE_go49 : isGo Try.prog 49 = true := by kernel_rfl
theorem AE_fa72_2 : fieldB Try.prog 72 2 = some 2 := by kernel_rfl
theorem AE_sz3 : sizeB Try.prog 3 = some 1 := by kernel_rfl
theorem AE_mixed : Try.prog.follows .mixedOrders = true := by kernel_rfl
theorem AE_fa72_3 : fieldB Try.prog 72 3 = some 3 := by kernel_rfl
set_option maxRecDepth 100000 in
/-- semigroup/starfree.Depth -/
theorem sdepth_spec (w : World) (a : Option Addr) (cp : Nat) (xs : List Nd) (hr : Rd w a (xs.flatMap nv)) (hn : xs.length ≤ 20000) (rt : Nat) (hrt : rt < xs.length) (hok : okG xs 6 = true) (hcp : xs.length ≤ cp) : Calls Try.prog 28 #[.agg #[.slice a xs.length cp, .int .i64 ((rt : Nat) : Int)]] w (fun e w' => e = .returned (.int .i64 (gd xs rt)) ∧ Ext [] w w') := by
  have sm : 0 < xs.length → a.isSome = true := fun h => hr.isSome (j := 0) (by rw [flat_len nv_len]; omega)
  refine enter (args := [.agg #[.slice a xs.length cp, .int .i64 ((rt : Nat) : Int)]]) [] 69 Try.func28 rfl rfl rfl ?_
  refine CT.seq ?_
  -- region 0: starfree.go:99
  refine CT.region ?_
  refine Wl.g rfl rfl (OpG.box (size := 2) rfl rfl rfl) ?_
  rintro b1 _
  refine Wl.q rfl rfl (OpQ.assign rfl) ?_
  refine Wl.nil ?_
  refine PX.then_n ?_
  refine CT.seq ?_
  refine CT.seq ?_
  -- region 1: starfree.go:100
  refine CT.region ?_
  refine Wl.q rfl rfl (OpQ.loadV (b := b1) AE_ag40 AE_sz40 rfl (by repeat (first | exact Has.here | apply Has.there)) (by rfl)) ?_
  refine Wl.g rfl rfl (OpG.callV AE_go35 rfl (fun w hH => gvalid_spec w a cp xs (hH.rd0 hr rfl) (by omega) (rt : Int) 6)) ?_
  rintro _ _
  refine Wl.know 7 (v' := .int .i64 (0)) rfl (congrArg (Value.int .i64) (gE_of (by decide) hn hok hrt)) ?_
  refine Wl.q rfl rfl (OpQ.neq rfl rfl) ?_
  refine Wl.know 8 (v' := .bool false) rfl (congrArg Value.bool rfl) ?_
  refine Wl.nil ?_
  refine PX.then_n ?_
  refine CT.condF rfl ?_
  refine CT.skip ?_
  refine PX.then_n ?_
  refine CT.seq ?_
  -- region 3: starfree.go:103
  refine CT.region ?_
  refine Wl.q rfl rfl (OpQ.fieldAddr AE_fa40_1 rfl) ?_
  refine Wl.q rfl rfl (OpQ.loadF (b := b1) AE_sc3 rfl (by repeat (first | exact Has.here | apply Has.there)) (by rfl)) ?_
  refine Wl.q rfl rfl (OpQ.add rfl rfl (by omega)) ?_
  refine Wl.know 11 (v' := .int .i64 ((rt + 1 : Nat) : Int)) rfl (congrArg (Value.int .i64) (by omega)) ?_
  refine Wl.g rfl rfl (OpG.make1 AE_un22 AE_in3 rfl rfl rfl rfl (by omega) (by omega)) ?_
  rintro b12 _
  refine Wl.q rfl rfl (OpQ.assign rfl) ?_
  refine Wl.nil ?_
  refine PX.then_n ?_
  refine CT.seq ?_
  refine CT.seq ?_
  -- region 4: starfree.go:104
  refine CT.region ?_
  refine Wl.q rfl rfl (OpQ.fieldAddr AE_fa40_0 rfl) ?_
  refine Wl.q rfl rfl (OpQ.loadF (b := b1) AE_sc38 rfl (by repeat (first | exact Has.here | apply Has.there)) (by rfl)) ?_
  refine Wl.q rfl rfl (OpQ.fieldAddr AE_fa40_1 rfl) ?_
  refine Wl.q rfl rfl (OpQ.loadF (b := b1) AE_sc3 rfl (by repeat (first | exact Has.here | apply Has.there)) (by rfl)) ?_
  refine Wl.q rfl rfl (OpQ.add rfl rfl (by omega)) ?_
  refine Wl.know 17 (v' := .int .i64 ((rt + 1 : Nat) : Int)) rfl (congrArg (Value.int .i64) (by omega)) ?_
  refine Wl.q rfl rfl (OpQ.sliceToN (k := rt + 1) AE_un38 AE_sz72 rfl rfl rfl (by omega)) ?_
  refine Wl.q rfl rfl (OpQ.len AE_un38 rfl) ?_
  refine Wl.q rfl rfl (OpQ.move rfl) ?_
  refine Wl.nil ?_
  refine PX.then_n ?_
  refine CT.block ?_
  -- the loop at region 5
  refine CT.loop (ι := Nat × List Int) (fun (i, dv) => i ≤ rt + 1 ∧ GJ xs (rt + 1) i 0 dv) (fun (i, dv) => [(1, .pointer (some ⟨b1, 0, none⟩)), (3, .slice (some ⟨b12, 0, none⟩) (rt + 1) (rt + 1)), (18, .slice a (rt + 1) cp), (19, .int .i64 ((rt + 1 : Nat) : Int)), (20, .int .i64 (i : Int))]) (fun (i, dv) => [.row 3 1 (.slice (some ⟨b12, 0, none⟩) (rt + 1) (rt + 1)) (rt + 1) ((dv).map zi), .row 40 2 (vb b1) 1 [.slice a xs.length cp, .int .i64 ((rt : Nat) : Int)]]) (fun (i, dv) => rt + 1 - i) (0, List.replicate (rt + 1) 0) ⟨by omega, GJ.start _ _⟩ ⟨rfl, rfl, rfl, rfl, rfl, trivial⟩ (.keep (row_eq (by simp)) (.keep rfl .nil)) (fun ⟨i, dv⟩ ⟨hi, hd⟩ K0 hK0 => ?_)
  dsimp only
  refine CT.seq ?_
  -- region 5: starfree.go:104
  refine CT.region ?_
  refine Wl.q rfl rfl (OpQ.lss rfl rfl) ?_
  refine Wl.nil ?_
  refine PX.then_n ?_
  refine CT.seq ?_
  refine CT.cond rfl (fun h21 => ?_) (fun h21 => ?_)
  · -- if t21: then
    have h21 := of_decide_eq_true h21
    have hgd := gd_a hok (i := i) (by omega)
    obtain ⟨ho, _, pa, pb⟩ := okN_parts (okG_get hok (j := i) (by omega))
    have hp1 := pt_one (xs.getD i n0).op
    have hp2 := pt_two (xs.getD i n0).op
    refine CT.skip ?_
    refine PX.then_n ?_
    refine CT.seq ?_
    refine CT.block ?_
    refine CT.seq ?_
    -- region 6: starfree.go:104
    refine CT.region ?_
    refine Wl.q rfl rfl (OpQ.move rfl) ?_
    refine Wl.q rfl rfl (OpQ.index AE_un38 AE_sz72 rfl rfl (by omega) (sm (by omega))) ?_
    refine Wl.q rfl rfl (OpQ.loadAggG (cs := nv (xs.getD i n0)) AE_ag72 AE_sz72 rfl (fun w hH => hH.rd0 hr rfl) (flat_cells nv_len xs n0 (by omega))) ?_
    refine Wl.g rfl rfl (OpG.alloc (zs := [.int .i64 0, .int .i64 0, .int .i64 0, .int .i64 0]) AE_in72 rfl rfl) ?_
    rintro b5 _
    refine Wl.q rfl rfl (OpQ.assign rfl) ?_
    refine Wl.g rfl rfl (OpG.storeV (b := b5) AE_sz72 rfl rfl rfl rfl (by repeat (first | exact Upd.here | apply Upd.there))) ?_
    rintro _ _
    refine Wl.nil ?_
    refine PX.then_n ?_
    refine CT.cut (ι := List Int) (Φ := fun dv => GJ xs (rt + 1) i (if 5 ≤ (xs.getD i n0).op then (gd xs (xs.getD i n0).a.toNat) else 0) dv) (E' := fun _ => [(1, .pointer (some ⟨b1, 0, none⟩)), (3, .slice (some ⟨b12, 0, none⟩) (rt + 1) (rt + 1)), (18, .slice a (rt + 1) cp), (19, .int .i64 ((rt + 1 : Nat) : Int)), (20, .int .i64 (i : Int)), (4, .int .i64 (i : Int)), (5, .pointer (some ⟨b5, 0, none⟩))]) (H' := fun dv => [.row 72 4 (vb b5) 1 (nv (xs.getD i n0)), .row 3 1 (.slice (some ⟨b12, 0, none⟩) (rt + 1) (rt + 1)) (rt + 1) ((dv).map zi), .row 40 2 (vb b1) 1 [.slice a xs.length cp, .int .i64 ((rt : Nat) : Int)]]) (fun K1 hK1 => ?_) (fun dv hd => ?_)
    · -- up to the join
      refine CT.seq ?_
      -- region 7: starfree.go:105
      refine CT.region ?_
      refine Wl.q rfl rfl (OpQ.fieldAddr AE_fa72_0 rfl) ?_
      refine Wl.q rfl rfl (OpQ.loadF (b := b5) AE_sc3 rfl (by repeat (first | exact Has.here | apply Has.there)) (by rfl)) ?_
      refine Wl.g rfl rfl (OpG.callV AE_go49 rfl (fun w hH => parts_spec w (xs.getD i n0).op)) ?_
      rintro _ _
      refine Wl.q rfl rfl (OpQ.geq rfl rfl) ?_
      refine Wl.nil ?_
      refine PX.then_n ?_
      refine CT.cond rfl (fun h28 => ?_) (fun h28 => ?_)
      · -- if t28: then
        have h28 := of_decide_eq_true h28
        have pa := pa (by omega)
        have hdl := hd.len
        -- region 8: starfree.go:106
        refine CT.region ?_
        refine Wl.q rfl rfl (OpQ.move rfl) ?_
        refine Wl.q rfl rfl (OpQ.move rfl) ?_
        refine Wl.q rfl rfl (OpQ.move rfl) ?_
        refine Wl.q rfl rfl (OpQ.fieldAddr AE_fa72_2 rfl) ?_
        refine Wl.q rfl rfl (OpQ.loadF (b := b5) AE_sc3 rfl (by repeat (first | exact Has.here | apply Has.there)) (by rfl)) ?_
        refine Wl.q rfl rfl (OpQ.index1 AE_un22 AE_sz3 rfl rfl (by omega) rfl) ?_
        refine Wl.q rfl rfl (OpQ.loadRow AE_sc3 rfl (.there .here) (getMap zi dv 0 (j := (xs.getD i n0).a.toNat) (by omega))) ?_
        refine Wl.know 35 (v' := .int .i64 ((gd xs (xs.getD i n0).a.toNat))) rfl (congrArg (Value.int .i64) (hd.lt _ (by omega))) ?_
        refine Wl.q rfl rfl (OpQ.index1 AE_un22 AE_sz3 rfl rfl (by omega) rfl) ?_
        refine Wl.g rfl rfl (OpG.storeRow AE_sz3 rfl rfl rfl (.there .here) (by rw [List.length_map, hd.len]; show i < _; omega)) ?_
        rintro _ _
        refine Wl.nil ?_
        exact PX.cut hK1 (dv.set i (gd xs (xs.getD i n0).a.toNat)) (by rw [if_pos (by omega)]; exact hd.set (by omega)) ⟨rfl, rfl, rfl, rfl, rfl, rfl, rfl, trivial⟩ (.keep rfl (.keep (row_eq (by rw [List.map_set] <;> rfl)) (.keep rfl .nil)))
      · -- if t28: else
        have h28 := of_decide_eq_false h28
        refine CT.skip ?_
        exact PX.cut hK1 dv (by rw [if_neg (by omega)]; exact hd) ⟨rfl, rfl, rfl, rfl, rfl, rfl, rfl, trivial⟩ (HSub.refl _)
    · -- from the join on
      refine CT.cut (ι := List Int) (Φ := fun dv => GJ xs (rt + 1) i (if 5 ≤ (xs.getD i n0).op ∧ (xs.getD i n0).op ≠ 8 then mx (if 5 ≤ (xs.getD i n0).op then (gd xs (xs.getD i n0).a.toNat) else 0) ((gd xs (xs.getD i n0).b.toNat)) else (if 5 ≤ (xs.getD i n0).op then (gd xs (xs.getD i n0).a.toNat) else 0)) dv) (E' := fun _ => [(1, .pointer (some ⟨b1, 0, none⟩)), (3, .slice (some ⟨b12, 0, none⟩) (rt + 1) (rt + 1)), (18, .slice a (rt + 1) cp), (19, .int .i64 ((rt + 1 : Nat) : Int)), (20, .int .i64 (i : Int)), (4, .int .i64 (i : Int)), (5, .pointer (some ⟨b5, 0, none⟩))]) (H' := fun dv => [.row 72 4 (vb b5) 1 (nv (xs.getD i n0)), .row 3 1 (.slice (some ⟨b12, 0, none⟩) (rt + 1) (rt + 1)) (rt + 1) ((dv).map zi), .row 40 2 (vb b1) 1 [.slice a xs.length cp, .int .i64 ((rt : Nat) : Int)]]) (fun K2 hK2 => ?_) (fun dv hd => ?_)
      · -- up to the join
        refine CT.seq ?_
        -- region 9: starfree.go:108
        refine CT.region ?_
        refine Wl.q rfl rfl (OpQ.fieldAddr AE_fa72_0 rfl) ?_
        refine Wl.q rfl rfl (OpQ.loadF (b := b5) AE_sc3 rfl (by repeat (first | exact Has.here | apply Has.there)) (by rfl)) ?_
        refine Wl.g rfl rfl (OpG.callV AE_go49 rfl (fun w hH => parts_spec w (xs.getD i n0).op)) ?_
        rintro _ _
        refine Wl.q rfl rfl (OpQ.eql rfl rfl) ?_
        refine Wl.nil ?_
        refine PX.then_n ?_
        refine CT.cond rfl (fun h40 => ?_) (fun h40 => ?_)
        · -- if t40: then
          have h40 := of_decide_eq_true h40
          have pb := pb (by omega)
          have hdl := hd.len
          -- region 10, drawn: starfree.go:109
          refine CT.draw 13 AE_mixed ?_
          refine RA.q 0 (by kernel_rfl) rfl rfl rfl (.refl _) (OpQ.move rfl) ?_
          refine RA.q 1 (by kernel_rfl) rfl rfl rfl (.refl _) (OpQ.move rfl) ?_
          refine RA.q 2 (by kernel_rfl) rfl rfl rfl (.refl _) (OpQ.move rfl) ?_
          refine RA.q 3 (by kernel_rfl) rfl rfl rfl (.refl _) (OpQ.move rfl) ?_
          refine RA.q 4 (by kernel_rfl) rfl rfl rfl (.refl _) (OpQ.index1 AE_un22 AE_sz3 rfl rfl (by omega) rfl) ?_
          refine RA.q 5 (by kernel_rfl) rfl rfl rfl (.refl _) (OpQ.loadRow AE_sc3 rfl (.there .here) (getMap zi dv 0 (j := i) (by omega))) ?_
          refine RA.know 46 (v' := .int .i64 ((if 5 ≤ (xs.getD i n0).op then (gd xs (xs.getD i n0).a.toNat) else 0))) rfl (congrArg (Value.int .i64) hd.at_) ?_
          refine RA.q 6 (by kernel_rfl) rfl rfl rfl (.refl _) (OpQ.move rfl) ?_
          refine RA.q 7 (by kernel_rfl) rfl rfl rfl (.refl _) (OpQ.fieldAddr AE_fa72_3 rfl) ?_
          refine RA.q 8 (by kernel_rfl) rfl rfl rfl (.refl _) (OpQ.loadF (b := b5) AE_sc3 rfl (by repeat (first | exact Has.here | apply Has.there)) (by rfl)) ?_
          refine RA.q 9 (by kernel_rfl) rfl rfl rfl (.refl _) (OpQ.index1 AE_un22 AE_sz3 rfl rfl (by omega) rfl) ?_
          refine RA.q 10 (by kernel_rfl) rfl rfl rfl (.refl _) (OpQ.loadRow AE_sc3 rfl (.there .here) (getMap zi dv 0 (j := (xs.getD i n0).b.toNat) (by omega))) ?_
          refine RA.know 51 (v' := .int .i64 ((gd xs (xs.getD i n0).b.toNat))) rfl (congrArg (Value.int .i64) (hd.lt _ (by omega))) ?_
          refine RA.q 11 (by kernel_rfl) rfl rfl rfl (.refl _) (OpQ.max rfl rfl) ?_
          refine RA.q 12 (by kernel_rfl) rfl rfl rfl (.refl _) (OpQ.index1 AE_un22 AE_sz3 rfl rfl (by omega) rfl) ?_
          refine RA.tail ?_
          refine RT.f 13 (by kernel_rfl) rfl rfl rfl (OpG.storeRow AE_sz3 rfl rfl rfl (.there .here) (by rw [List.length_map, hd.len]; show i < _; omega)) ?_
          rintro _ _
          refine RT.done (by kernel_rfl) ?_
          exact PX.cut hK2 (dv.set i (mx (if 5 ≤ (xs.getD i n0).op then (gd xs (xs.getD i n0).a.toNat) else 0) ((gd xs (xs.getD i n0).b.toNat)))) (by rw [if_pos (by omega)]; exact hd.set (by omega)) ⟨rfl, rfl, rfl, rfl, rfl, rfl, rfl, trivial⟩ (.keep rfl (.keep (row_eq (by rw [List.map_set] <;> rfl)) (.keep rfl .nil)))
        · -- if t40: else
          have h40 := of_decide_eq_false h40
          refine CT.skip ?_
          exact PX.cut hK2 dv (by rw [if_neg (by omega)]; exact hd) ⟨rfl, rfl, rfl, rfl, rfl, rfl, rfl, trivial⟩ (HSub.refl _)
      · -- from the join on
        refine CT.seq ?_
        -- region 11: starfree.go:111
        refine CT.region ?_
        refine Wl.q rfl rfl (OpQ.fieldAddr AE_fa72_0 rfl) ?_
        refine Wl.q rfl rfl (OpQ.loadF (b := b5) AE_sc3 rfl (by repeat (first | exact Has.here | apply Has.there)) (by rfl)) ?_
        refine Wl.q rfl rfl (OpQ.eql rfl rfl) ?_
        refine Wl.nil ?_
        refine PX.then_n ?_
        refine CT.cond rfl (fun h56 => ?_) (fun h56 => ?_)
        · -- if t56: then
          have h56 := of_decide_eq_true h56
          have hdl := hd.len
          have hgl := gd_le hok (i := i) (by omega)
          have hg0 := gd_nn hok (i := i) (by omega)
          rw [hgd, if_pos h56] at hgl hg0
          -- region 12: starfree.go:112
          refine CT.region ?_
          refine Wl.q rfl rfl (OpQ.move rfl) ?_
          refine Wl.q rfl rfl (OpQ.move rfl) ?_
          refine Wl.q rfl rfl (OpQ.index1 AE_un22 AE_sz3 rfl rfl (by omega) rfl) ?_
          refine Wl.q rfl rfl (OpQ.loadRow AE_sc3 rfl (.there .here) (getMap zi dv 0 (j := i) (by omega))) ?_
          refine Wl.know 60 (v' := .int .i64 ((if 5 ≤ (xs.getD i n0).op ∧ (xs.getD i n0).op ≠ 8 then mx (if 5 ≤ (xs.getD i n0).op then (gd xs (xs.getD i n0).a.toNat) else 0) ((gd xs (xs.getD i n0).b.toNat)) else (if 5 ≤ (xs.getD i n0).op then (gd xs (xs.getD i n0).a.toNat) else 0)))) rfl (congrArg (Value.int .i64) hd.at_) ?_
          refine Wl.q rfl rfl (OpQ.add rfl rfl (by omega)) ?_
          refine Wl.q rfl rfl (OpQ.index1 AE_un22 AE_sz3 rfl rfl (by omega) rfl) ?_
          refine Wl.g rfl rfl (OpG.storeRow AE_sz3 rfl rfl rfl (.there .here) (by rw [List.length_map, hd.len]; show i < _; omega)) ?_
          rintro _ _
          refine Wl.nil ?_
          refine PX.block_n ?_
          refine PX.then_n ?_
          -- region 13: starfree.go:104
          refine CT.region ?_
          refine Wl.q rfl rfl (OpQ.add rfl rfl (by omega)) ?_
          refine Wl.q rfl rfl (OpQ.move rfl) ?_
          refine Wl.nil ?_
          exact PX.loop hK0 (i + 1, dv.set i ((if 5 ≤ (xs.getD i n0).op ∧ (xs.getD i n0).op ≠ 8 then mx (if 5 ≤ (xs.getD i n0).op then (gd xs (xs.getD i n0).a.toNat) else 0) ((gd xs (xs.getD i n0).b.toNat)) else (if 5 ≤ (xs.getD i n0).op then (gd xs (xs.getD i n0).a.toNat) else 0)) + 1)) ⟨by omega, (hd.set (by omega)).next (by rw [hgd, if_pos h56])⟩ (show rt + 1 - (i + 1) < rt + 1 - i by omega) ⟨rfl, rfl, rfl, rfl, rfl, trivial⟩ (.drop (.keep (row_eq (by rw [List.map_set] <;> rfl)) (.keep rfl .nil)))
        · -- if t56: else
          have h56 := of_decide_eq_false h56
          refine CT.skip ?_
          refine PX.block_n ?_
          refine PX.then_n ?_
          -- region 13: starfree.go:104
          refine CT.region ?_
          refine Wl.q rfl rfl (OpQ.add rfl rfl (by omega)) ?_
          refine Wl.q rfl rfl (OpQ.move rfl) ?_
          refine Wl.nil ?_
          exact PX.loop hK0 (i + 1, dv) ⟨by omega, hd.next (by rw [hgd, if_neg h56, Int.add_zero])⟩ (show rt + 1 - (i + 1) < rt + 1 - i by omega) ⟨rfl, rfl, rfl, rfl, rfl, trivial⟩ (.drop (HSub.refl _))
  · -- if t21: else
    have h21 := of_decide_eq_false h21
    refine CT.exit ?_
    refine PX.then_x ?_
    refine PX.then_x ?_
    refine PX.block_x ?_
    refine PX.then_n ?_
    refine CT.seq ?_
    -- region 14: starfree.go:115
    refine CT.region ?_
    refine Wl.q rfl rfl (OpQ.move rfl) ?_
    refine Wl.q rfl rfl (OpQ.fieldAddr AE_fa40_1 rfl) ?_
    refine Wl.q rfl rfl (OpQ.loadF (b := b1) AE_sc3 rfl (by repeat (first | exact Has.here | apply Has.there)) (by rfl)) ?_
    refine Wl.q rfl rfl (OpQ.index1 AE_un22 AE_sz3 rfl rfl (by omega) rfl) ?_
    refine Wl.q rfl rfl (OpQ.loadRow AE_sc3 rfl .here (getMap zi dv 0 (j := rt) (by have := hd.len; omega))) ?_
    refine Wl.q rfl rfl (OpQ.assign rfl) ?_
    refine Wl.nil ?_
    refine PX.then_n ?_
    refine CT.ret ?_
    refine PX.ret1 rfl rfl (fun w' hH => ?_)
    obtain rfl : i = rt + 1 := by omega
    exact ⟨by rw [hd.lt rt (Nat.lt_succ_self _)], hH.ext⟩

theorem AE_go9 : isGo Try.prog 9 = true := by kernel_rfl
theorem AE_go10 : isGo Try.prog 10 = true := by kernel_rfl
theorem AE_go17 : isGo Try.prog 17 = true := by kernel_rfl
theorem AE_in40 : (Try.prog.info? 40).map (fun i => (i.zero, i.size, i.bytes)) = some (some (.agg #[.slice none 0 0, .int .i64 0]), 2, 32) := by kernel_rfl
theorem AE_go12 : isGo Try.prog 12 = true := by kernel_rfl
theorem AE_go18 : isGo Try.prog 18 = true := by kernel_rfl
theorem AE_go13 : isGo Try.prog 13 = true := by kernel_rfl
theorem AE_go26 : isGo Try.prog 26 = true := by kernel_rfl
theorem AE_un4 : Try.prog.underlying 4 = some .bool := by kernel_rfl
theorem AE_go27 : isGo Try.prog 27 = true := by kernel_rfl
theorem AE_go28 : isGo Try.prog 28 = true := by kernel_rfl
theorem AE_go14 : isGo Try.prog 14 = true := by kernel_rfl
set_option maxRecDepth 100000 in
/-- semigroup/semigrouplaw38.FirstorderWords -/
theorem FirstorderWords_spec (w : World) (a : Option Addr) (cp : Nat) (l : List Int) (hrl : Rd w a (l.map zi)) (hl : l.length ≤ cp) (a2 : Option Addr) (cp2 : Nat) (l2 : List Int) (hrl2 : Rd w a2 (l2.map zi)) (hl2 : l2.length ≤ cp2) : Calls Try.prog 8 #[.slice a l.length cp, .slice a2 l2.length cp2] w (fun e w' => e = .returned (.bool true) ∧ Ext [] w w') := by
  refine enter (args := [.slice a l.length cp, .slice a2 l2.length cp2]) [] 54 Try.func8 rfl rfl rfl ?_
  refine CT.seq ?_
  -- region 0: law.go:107
  refine CT.region ?_
  refine Wl.q rfl rfl (OpQ.assign rfl) ?_
  refine Wl.nil ?_
  refine PX.then_n ?_
  refine CT.seq ?_
  -- region 1: law.go:108
  refine CT.region ?_
  refine Wl.q rfl rfl (OpQ.move rfl) ?_
  refine Wl.g rfl rfl (OpG.callX AE_go9 rfl .nil (fun _ => (.cons .nil)) (fun w hH hp => new_spec w a cp l hl)) ?_
  rintro ⟨b13, k13⟩ h13
  dsimp only at h13
  obtain ⟨hk13, hk13m⟩ := h13
  have hrT13 : Stays [] w (fun w => Rd w a ((l.take k13).map zi)) := Rd.stays (by rw [List.map_take]; exact hrl.take _)
  have hle13 : (l.take k13).length = k13 := by rw [List.length_take]; omega
  refine Wl.q rfl rfl (OpQ.assign rfl) ?_
  refine Wl.nil ?_
  refine PX.then_n ?_
  refine CT.seq ?_
  -- region 2: law.go:109
  refine CT.region ?_
  refine Wl.q rfl rfl (OpQ.move rfl) ?_
  refine Wl.g rfl rfl (OpG.callX AE_go10 rfl (.cons .here .nil) (fun _ => (.cons .nil)) (fun w hH hp => next_spec w b13 a k13 cp (l.take k13) hle13 (by omega) (hH.stays hrT13 (.cons .here .nil)) 0 (Nat.zero_le _) hp (3) (by omega))) ?_
  rintro ⟨r15, p15⟩ h15
  dsimp only at h15
  obtain ⟨⟨h15a, h15b⟩, h15p⟩ := h15
  refine Wl.know 15 (v' := .int .i64 r15) rfl rfl ?_
  obtain ⟨L, hLL⟩ : ∃ L : Nat, 1 + r15 = L := ⟨(1 + r15).toNat, by omega⟩
  refine Wl.q rfl rfl (OpQ.add rfl rfl (by omega)) ?_
  refine Wl.know 16 (v' := .int .i64 (L : Int)) rfl (congrArg (Value.int .i64) hLL) ?_
  refine Wl.q rfl rfl (OpQ.assign rfl) ?_
  refine Wl.nil ?_
  refine PX.then_n ?_
  refine CT.seq ?_
  -- region 3: law.go:110
  refine CT.region ?_
  refine Wl.q rfl rfl (OpQ.move rfl) ?_
  refine Wl.q rfl rfl (OpQ.move rfl) ?_
  refine Wl.g rfl rfl (OpG.callX AE_go17 rfl (.cons .here .nil) (fun _ => (.cons (.cons .nil))) (fun w hH hp => graph_spec w b13 a k13 cp (l.take k13) hle13 (by omega) (hH.stays hrT13 (.cons .here .nil)) p15 h15p hp (L : Int) 10 (by omega) (by omega))) ?_
  rintro ⟨xs, p19, a19, c19⟩ h19
  dsimp only at h19
  obtain ⟨⟨hok, hlen1, hlen8⟩, h19p⟩ := h19
  obtain ⟨rt, hrt⟩ : ∃ rt, xs.length = rt + 1 := ⟨xs.length - 1, by omega⟩
  refine Wl.know 19 (v' := .agg #[.slice a19 xs.length c19, .int .i64 ((rt : Nat) : Int)]) rfl (by rw [show ((xs.length : Int) - 1) = ((rt : Nat) : Int) by omega]) ?_
  refine Wl.g rfl rfl (OpG.alloc (zs := [.slice none 0 0, .int .i64 0]) AE_in40 rfl rfl) ?_
  rintro b7 _
  refine Wl.g rfl rfl (OpG.storeV (b := b7) AE_sz40 rfl rfl rfl rfl (by repeat (first | exact Upd.here | apply Upd.there))) ?_
  rintro _ _
  refine Wl.nil ?_
  refine PX.then_n ?_
  refine CT.seq ?_
  -- region 4: law.go:111
  refine CT.region ?_
  refine Wl.q rfl rfl (OpQ.move rfl) ?_
  refine Wl.g rfl rfl (OpG.callX AE_go9 rfl .nil (fun _ => (.cons .nil)) (fun w hH hp => new_spec w a2 cp2 l2 hl2)) ?_
  rintro ⟨b21, k21⟩ h21
  dsimp only at h21
  obtain ⟨hk21, hk21m⟩ := h21
  have hrT21 : Stays [] w (fun w => Rd w a2 ((l2.take k21).map zi)) := Rd.stays (by rw [List.map_take]; exact hrl2.take _)
  have hle21 : (l2.take k21).length = k21 := by rw [List.length_take]; omega
  refine Wl.q rfl rfl (OpQ.move rfl) ?_
  refine Wl.g rfl rfl (OpG.callX AE_go12 rfl (.cons .here .nil) (fun _ => (.cons .nil)) (fun w hH hp => word_spec w b21 a2 k21 cp2 (l2.take k21) hle21 (by omega) (hH.stays hrT21 (.cons .here .nil)) 0 (Nat.zero_le _) hp (L : Int) 9 (by omega) (by omega))) ?_
  rintro ⟨ws, p23⟩ h23
  dsimp only at h23
  obtain ⟨⟨hwl, hwk0⟩, h23p⟩ := h23
  refine Wl.know 23 (v' := sv ws) rfl rfl ?_
  refine Wl.q rfl rfl (OpQ.assign rfl) ?_
  refine Wl.nil ?_
  refine PX.then_n ?_
  refine CT.seq ?_
  -- region 5: law.go:112
  refine CT.region ?_
  refine Wl.q rfl rfl (OpQ.loadV (b := b7) AE_ag40 AE_sz40 rfl (by repeat (first | exact Has.here | apply Has.there)) (by rfl)) ?_
  refine Wl.q rfl rfl (OpQ.move rfl) ?_
  have hz : gE xs (rt : Int) (L : Int) = 0 := gE_of (by omega) (by omega) hok (by omega)
  have hok6 := okG_mono hok (M := 6) (by omega)
  have hwk := Tl.okW_mono hwk0 (m := 6) (by omega) (by decide)
  refine Wl.g rfl rfl (OpG.callX AE_go18 rfl .nil (fun _ => (.cons .nil)) (fun w hH hp => fof_spec w a19 c19 xs (hH.rd (.there (.there .here))) (by omega) (rt : Int) (L : Int))) ?_
  rintro ⟨fs, ρ, fa, fc⟩ h27
  dsimp only at h27
  obtain ⟨hfok, hfl, htv⟩ := h27.2 hz
  rw [Int.toNat_natCast] at hfl htv
  have hρ := htv.lt
  refine Wl.q rfl rfl (OpQ.move rfl) ?_
  refine Wl.q rfl rfl (OpQ.extract rfl rfl) ?_
  refine Wl.know 28 (v' := .slice fa fs.length fc) rfl rfl ?_
  refine Wl.q rfl rfl (OpQ.extract rfl rfl) ?_
  refine Wl.know 29 (v' := .int .i64 ((ρ : Nat) : Int)) rfl rfl ?_
  refine Wl.q rfl rfl (OpQ.extract rfl rfl) ?_
  refine Wl.know 30 (v' := .int .i64 (0)) rfl (congrArg (Value.int .i64) hz) ?_
  refine Wl.q rfl rfl (OpQ.assign rfl) ?_
  refine Wl.q rfl rfl (OpQ.assign rfl) ?_
  refine Wl.q rfl rfl (OpQ.assign rfl) ?_
  refine Wl.nil ?_
  refine PX.then_n ?_
  refine CT.seq ?_
  -- region 6, drawn: law.go:113
  refine CT.draw 24 AE_mixed ?_
  refine RA.q 0 (by kernel_rfl) rfl rfl rfl (.refl _) (OpQ.move rfl) ?_
  refine RA.q 1 (by kernel_rfl) rfl rfl rfl (.refl _) (OpQ.eql rfl rfl) ?_
  refine RA.know 32 (v' := .bool true) rfl (congrArg Value.bool rfl) ?_
  refine RA.q 2 (by kernel_rfl) rfl rfl rfl (.refl _) (OpQ.move rfl) ?_
  refine RA.q 3 (by kernel_rfl) rfl rfl rfl (.refl _) (OpQ.move rfl) ?_
  refine RA.q 4 (by kernel_rfl) rfl rfl rfl (.refl _) (OpQ.move rfl) ?_
  refine RA.q 5 (by kernel_rfl) rfl rfl rfl (.refl _) (OpQ.move rfl) ?_
  refine RA.q 7 (by kernel_rfl) rfl rfl rfl (.refl _) (OpQ.loadV (b := b7) AE_ag40 AE_sz40 rfl (by repeat (first | exact Has.here | apply Has.there)) (by rfl)) ?_
  refine RA.q 8 (by kernel_rfl) rfl rfl rfl (.refl _) (OpQ.move rfl) ?_
  refine RA.f 6 (by kernel_rfl) rfl rfl rfl (OpG.callV AE_go13 rfl (fun w hH => holds_spec w fa fc fs (hH.rd .here) (by omega) (owns_cap (hH.holds _ (Has.mem Has.here)).1) (ρ : Int) ws (by omega))) (fun _ _ => (.refl _)) ?_
  rintro _ _
  refine RA.f 9 (by kernel_rfl) rfl rfl rfl (OpG.callV AE_go26 rfl (fun w hH => sacc_spec w a19 c19 xs (hH.rd (.there (.there (.there .here)))) (by omega) rt (by omega) hok6 ws (by omega) hwk)) (fun _ _ => (.refl _)) ?_
  rintro _ _
  refine RA.q 10 (by kernel_rfl) rfl rfl rfl (.refl _) (OpQ.eqlB AE_un4 rfl rfl) ?_
  refine RA.know 41 (v' := .bool true) rfl (congrArg Value.bool (by rw [of_word hfok (by omega) htv (by omega) hwk (by omega)]; simp)) ?_
  refine RA.q 11 (by kernel_rfl) rfl rfl rfl (.refl _) (OpQ.pickT rfl rfl) ?_
  refine RA.q 12 (by kernel_rfl) rfl rfl rfl (.refl _) (OpQ.move rfl) ?_
  refine RA.q 13 (by kernel_rfl) rfl rfl rfl (.refl _) (OpQ.move rfl) ?_
  refine RA.q 14 (by kernel_rfl) rfl rfl rfl (.refl _) (OpQ.move rfl) ?_
  refine RA.q 16 (by kernel_rfl) rfl rfl rfl (.refl _) (OpQ.loadV (b := b7) AE_ag40 AE_sz40 rfl (by repeat (first | exact Has.here | apply Has.there)) (by rfl)) ?_
  refine RA.f 15 (by kernel_rfl) rfl rfl rfl (OpG.callV AE_go27 rfl (fun w hH => depth_spec w fa fc fs (hH.rd .here) (by omega) (owns_cap (hH.holds _ (Has.mem Has.here)).1) (ρ : Int))) (fun _ _ => (.refl _)) ?_
  rintro _ _
  refine RA.f 17 (by kernel_rfl) rfl rfl rfl (OpG.callV AE_go28 rfl (fun w hH => sdepth_spec w a19 c19 xs (hH.rd (.there (.there (.there .here)))) (by omega) rt (by omega) hok6 (owns_cap (hH.holds _ (Has.mem (Has.there (Has.there (Has.there Has.here))))).1))) (fun _ _ => (.refl _)) ?_
  rintro _ _
  have hdle := of_depth hfok (by omega) htv (by omega)
  refine RA.q 18 (by kernel_rfl) rfl rfl rfl (.refl _) (OpQ.leq rfl rfl) ?_
  refine RA.know 49 (v' := .bool true) rfl (congrArg Value.bool (decide_eq_true hdle)) ?_
  refine RA.q 19 (by kernel_rfl) rfl rfl rfl (.refl _) (OpQ.pickT rfl rfl) ?_
  refine RA.q 20 (by kernel_rfl) rfl rfl rfl (.refl _) (OpQ.move rfl) ?_
  refine RA.f 21 (by kernel_rfl) rfl rfl rfl (OpG.callV AE_go14 rfl (fun w hH => known_spec w)) (fun _ _ => (.refl _)) ?_
  rintro _ _
  refine RA.know 52 (v' := .bool true) rfl (congrArg Value.bool rfl) ?_
  refine RA.q 22 (by kernel_rfl) rfl rfl rfl (.refl _) (OpQ.pickT rfl rfl) ?_
  refine RA.q 23 (by kernel_rfl) rfl rfl rfl (.refl _) (OpQ.assign rfl) ?_
  refine RA.tail ?_
  refine RT.done (by kernel_rfl) ?_
  refine PX.then_n ?_
  refine CT.ret ?_
  refine PX.ret1 rfl rfl (fun w' hH => ?_)
  exact ⟨rfl, hH.ext⟩

end Go.Proofs.Ytdcjemjfliaaiaa
