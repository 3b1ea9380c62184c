/-
  What functions of the packages firstorder, semigroupref38 and semigroupmade compute, each by its walk. Conditions: those that each theorem names.
-/
import Derived.Test.YtdcjemjfliaaiaaMod
import Derived.Test.YtdcjemjfliaaiaaWalks13
set_option linter.unusedSimpArgs false
namespace Go.Proofs.Ytdcjemjfliaaiaa
open Go Go.Eng Go.Fo Go.Sf
open Go.Tp (zi)
open Go.Tl (vf mayL Wd okW okB vf_t vf_f bo)
theorem rep_false (n : Nat) (f : Nat → Bool) : (((List.range n).map fun q => decide (q < 0) && f q)).map bo = List.replicate n (.bool false) := by
  refine List.ext_getElem (by simp) fun i h1 h2 => ?_
  simp
theorem obv_tab {g : List Nd} {ws : Wd} {j p c : Nat} {a : Option Addr} : obv ⟨a, c, tabR g ws j p⟩ = .slice a (ws.length + 1) c := by
  show Value.slice a (tabK g ws j p (ws.length + 1)).length c = _
  rw [tabK_len]
theorem ov2_of {a : Option Addr} {c n : Nat} {rs : List Ob} (h : rs.length = n) : ov2 ⟨a, c, rs⟩ = .slice a n c := by subst h; rfl
theorem put_false {n j : Nat} {f : Nat → Bool} {b : Bool} (hb : b = f j) : ((((List.range n).map fun q => decide (q < j) && f q)).map bo).set j (.bool b) = (((List.range n).map fun q => decide (q < j + 1) && f q)).map bo := by
  subst hb
  refine List.ext_getElem (by simp) fun i h1 h2 => ?_
  rw [List.getElem_set]
  simp only [List.getElem_map, List.getElem_range]
  split
  · rename_i e; subst e; rw [decide_eq_true (Nat.lt_succ_self j)]; rfl
  · rename_i e
    congr 2
    rw [decide_eq_decide]; omega

theorem ZA_un9 : Try.prog.underlying 9 = some .string := by kernel_rfl
theorem ZA_fa40_0 : fieldB Try.prog 40 0 = some 0 := by kernel_rfl
theorem ZA_sc38 : scalarB Try.prog 38 = some true := by kernel_rfl
theorem ZA_un38 : Try.prog.underlying 38 = some (.slice 72) := by kernel_rfl
theorem ZA_un113 : Try.prog.underlying 113 = some (.slice 96) := by kernel_rfl
theorem ZA_in96 : (Try.prog.info? 96).map (fun i => (i.zero, i.size, i.bytes)) = some (some (.slice none 0 0), 1, 24) := by kernel_rfl
theorem ZA_sz72 : sizeB Try.prog 72 = some 4 := by kernel_rfl
theorem ZA_ag72 : isAggB Try.prog 72 = some true := by kernel_rfl
theorem ZA_in72 : (Try.prog.info? 72).map (fun i => (i.zero, i.size, i.bytes)) = some (some (.agg #[.int .i64 0, .int .i64 0, .int .i64 0, .int .i64 0]), 4, 32) := by kernel_rfl
theorem ZA_un96 : Try.prog.underlying 96 = some (.slice 95) := by kernel_rfl
theorem ZA_in95 : (Try.prog.info? 95).map (fun i => (i.zero, i.size, i.bytes)) = some (some (.slice none 0 0), 1, 24) := by kernel_rfl
theorem ZA_sz96 : sizeB Try.prog 96 = some 1 := by kernel_rfl
theorem ZA_sc96 : scalarB Try.prog 96 = some true := by kernel_rfl
theorem ZA_mixed : Try.prog.follows .mixedOrders = true := by kernel_rfl
theorem ZA_un95 : Try.prog.underlying 95 = some (.slice 4) := by kernel_rfl
theorem ZA_in4 : (Try.prog.info? 4).map (fun i => (i.zero, i.size, i.bytes)) = some (some (.bool false), 1, 1) := by kernel_rfl
theorem ZA_sz95 : sizeB Try.prog 95 = some 1 := by kernel_rfl
theorem ZA_fa72_0 : fieldB Try.prog 72 0 = some 0 := by kernel_rfl
theorem ZA_sc3 : scalarB Try.prog 3 = some true := by kernel_rfl
theorem ZA_un5 : Try.prog.underlying 5 = some (.int .u8) := by kernel_rfl
theorem ZA_un3 : Try.prog.underlying 3 = some (.int .i64) := by kernel_rfl
theorem ZA_fa72_1 : fieldB Try.prog 72 1 = some 1 := by kernel_rfl
theorem ZA_fa72_2 : fieldB Try.prog 72 2 = some 2 := by kernel_rfl
theorem ZA_sc95 : scalarB Try.prog 95 = some true := by kernel_rfl
theorem ZA_sz4 : sizeB Try.prog 4 = some 1 := by kernel_rfl
theorem ZA_sc4 : scalarB Try.prog 4 = some true := by kernel_rfl
theorem ZA_fa72_3 : fieldB Try.prog 72 3 = some 3 := by kernel_rfl
set_option maxRecDepth 100000 in
/-- semigroup/semigroupref31.Holds -/
theorem gholdsR_spec (w : World) (a : Option Addr) (cp : Nat) (xs : List Nd) (hr : Rd w a (xs.flatMap nv)) (hn : xs.length ≤ 20000) (rt : Int) (hok : okG xs 6 = true) (ws : Wd) (hws : ws.length ≤ 64) (hwk : okW ws 6 = true) : Calls Try.prog 45 #[.agg #[.slice a xs.length cp, .int .i64 rt], sv ws] w (fun e w' => ∃ i : Option Addr × Nat, (0 < xs.length → i.1.isSome = true) ∧ e = .returned (.slice i.1 xs.length i.2) ∧ Post [] [.row 4 1 (.slice i.1 xs.length i.2) xs.length (((List.range xs.length).map fun j => mem xs ws j 0 ws.length).map bo)] w w') := by
  have sm : 0 < xs.length → a.isSome = true := fun h => hr.isSome (j := 0) (by rw [flat_len nv_len]; omega)
  refine enter (args := [.agg #[.slice a xs.length cp, .int .i64 rt], sv ws]) [] 220 Try.func45 rfl rfl rfl ?_
  refine CT.seq ?_
  -- region 0: ref.go:38
  refine CT.region ?_
  refine Wl.g rfl rfl (OpG.box (size := 2) rfl rfl rfl) ?_
  rintro b2 _
  refine Wl.q rfl rfl (OpQ.assign rfl) ?_
  refine Wl.nil ?_
  refine PX.then_n ?_
  refine CT.seq ?_
  -- region 1: ref.go:39
  refine CT.region ?_
  refine Wl.q rfl rfl (OpQ.move rfl) ?_
  refine Wl.q rfl rfl (OpQ.lenSv ZA_un9 rfl) ?_
  refine Wl.q rfl rfl (OpQ.assign rfl) ?_
  refine Wl.nil ?_
  refine PX.then_n ?_
  refine CT.seq ?_
  -- region 2: ref.go:41
  refine CT.region ?_
  refine Wl.q rfl rfl (OpQ.fieldAddr ZA_fa40_0 rfl) ?_
  refine Wl.q rfl rfl (OpQ.loadF (b := b2) ZA_sc38 rfl (by repeat (first | exact Has.here | apply Has.there)) (by rfl)) ?_
  refine Wl.q rfl rfl (OpQ.len ZA_un38 rfl) ?_
  refine Wl.g rfl rfl (OpG.make1 ZA_un113 ZA_in96 rfl rfl rfl rfl (by omega) (by omega)) ?_
  rintro b20 _
  refine Wl.q rfl rfl (OpQ.assign rfl) ?_
  refine Wl.nil ?_
  refine PX.then_n ?_
  refine CT.seq ?_
  refine CT.seq ?_
  -- region 3: ref.go:42
  refine CT.region ?_
  refine Wl.q rfl rfl (OpQ.fieldAddr ZA_fa40_0 rfl) ?_
  refine Wl.q rfl rfl (OpQ.loadF (b := b2) ZA_sc38 rfl (by repeat (first | exact Has.here | apply Has.there)) (by rfl)) ?_
  refine Wl.q rfl rfl (OpQ.len ZA_un38 rfl) ?_
  refine Wl.q rfl rfl (OpQ.move rfl) ?_
  refine Wl.nil ?_
  refine PX.then_n ?_
  refine CT.block ?_
  -- the loop at region 4
  refine CT.as (fun _ h => h.bind0 (p := obs2 (List.replicate xs.length o20)) (obs2_rep _)) ?_
  refine CT.loop (ι := Nat × List O2 × List Nat) (fun (i, ts, bs) => i ≤ xs.length ∧ I2 xs ws i ts) (fun (i, ts, bs) => [(1, sv ws), (2, .pointer (some ⟨b2, 0, none⟩)), (5, .int .i64 (ws.length : Int)), (6, .slice (some ⟨b20, 0, none⟩) xs.length xs.length), (22, .slice a xs.length cp), (23, .int .i64 (xs.length : Int)), (24, .int .i64 (i : Int))]) (fun (i, ts, bs) => [.frag bs (obs2 ts), .row 96 1 (.slice (some ⟨b20, 0, none⟩) xs.length xs.length) xs.length (ts.map ov2), .row 40 2 (vb b2) 1 [.slice a xs.length cp, .int .i64 rt]]) (fun (i, ts, bs) => xs.length - i) (0, List.replicate xs.length o20, []) ⟨by omega, I2.start _ _⟩ ⟨rfl, rfl, rfl, rfl, rfl, rfl, rfl, trivial⟩ (.keep rfl (.keep (row_eq (by simp [o20])) (.keep rfl .nil))) (fun ⟨i, ts, bs⟩ ⟨hi, hin⟩ K0 hK0 => ?_)
  dsimp only
  refine CT.seq ?_
  -- region 4: ref.go:42
  refine CT.region ?_
  refine Wl.q rfl rfl (OpQ.lss rfl rfl) ?_
  refine Wl.nil ?_
  refine PX.then_n ?_
  refine CT.seq ?_
  refine CT.cond rfl (fun h25 => ?_) (fun h25 => ?_)
  · -- if t25: then
    have h25 := of_decide_eq_true h25
    have htl := hin.len
    obtain ⟨ho, _, pa, pb⟩ := okN_parts (okG_get hok (j := i) (by omega))
    refine CT.skip ?_
    refine PX.then_n ?_
    refine CT.seq ?_
    refine CT.block ?_
    refine CT.seq ?_
    -- region 5: ref.go:42
    refine CT.region ?_
    refine Wl.q rfl rfl (OpQ.move rfl) ?_
    refine Wl.q rfl rfl (OpQ.index ZA_un38 ZA_sz72 rfl rfl (by omega) (sm (by omega))) ?_
    refine Wl.q rfl rfl (OpQ.loadAggG (cs := nv (xs.getD i n0)) ZA_ag72 ZA_sz72 rfl (fun w hH => hH.rd0 hr rfl) (flat_cells nv_len xs n0 (by omega))) ?_
    refine Wl.g rfl rfl (OpG.alloc (zs := [.int .i64 0, .int .i64 0, .int .i64 0, .int .i64 0]) ZA_in72 rfl rfl) ?_
    rintro b8 _
    refine Wl.q rfl rfl (OpQ.assign rfl) ?_
    refine Wl.g rfl rfl (OpG.storeV (b := b8) ZA_sz72 rfl rfl rfl rfl (by repeat (first | exact Upd.here | apply Upd.there))) ?_
    rintro _ _
    refine Wl.nil ?_
    refine PX.then_n ?_
    refine CT.seq ?_
    -- region 6: ref.go:43
    refine CT.region ?_
    refine Wl.q rfl rfl (OpQ.move rfl) ?_
    refine Wl.q rfl rfl (OpQ.move rfl) ?_
    refine Wl.q rfl rfl (OpQ.move rfl) ?_
    refine Wl.q rfl rfl (OpQ.add rfl rfl (by omega)) ?_
    refine Wl.know 32 (v' := .int .i64 (((ws.length + 1) : Nat) : Int)) rfl (congrArg (Value.int .i64) (by omega)) ?_
    refine Wl.g rfl rfl (OpG.make1 ZA_un96 ZA_in95 rfl rfl rfl rfl (by omega) (by omega)) ?_
    rintro b33 _
    refine Wl.q rfl rfl (OpQ.index1 ZA_un113 ZA_sz96 rfl rfl (by omega) rfl) ?_
    refine Wl.g rfl rfl (OpG.storeRow ZA_sz96 rfl rfl rfl (.there (.there (.there .here))) (by rw [List.length_map, htl]; show i < _; omega)) ?_
    rintro _ _
    refine Wl.nil ?_
    refine PX.then_n ?_
    refine CT.seq ?_
    -- region 7: ref.go:44
    refine CT.region ?_
    refine Wl.q rfl rfl (OpQ.move rfl) ?_
    refine Wl.q rfl rfl (OpQ.move rfl) ?_
    refine Wl.q rfl rfl (OpQ.index1 ZA_un113 ZA_sz96 rfl rfl (by omega) rfl) ?_
    refine Wl.q rfl rfl (OpQ.loadRow ZA_sc96 rfl (.there (.there (.there .here))) (set_same (by rw [List.length_map, htl]; omega))) ?_
    refine Wl.q rfl rfl (OpQ.len ZA_un96 rfl) ?_
    refine Wl.q rfl rfl (OpQ.move rfl) ?_
    refine Wl.nil ?_
    refine PX.then_n ?_
    refine CT.block ?_
    -- the loop at region 8
    refine CT.as (fun _ h => h.bind0 (p := obs (List.replicate (ws.length + 1) ob0)) (obs_rep _)) ?_
    refine CT.as (fun _ h => h.take (.cons .here (.cons .here (.cons .here (.cons .here (.cons .here (.cons .here .nil))))))) ?_
    refine CT.loop (ι := Nat × List Ob × List Nat) (fun (p, rs, cs) => p ≤ (ws.length + 1) ∧ I1 xs ws i p rs) (fun (p, rs, cs) => [(1, sv ws), (2, .pointer (some ⟨b2, 0, none⟩)), (5, .int .i64 (ws.length : Int)), (6, .slice (some ⟨b20, 0, none⟩) xs.length xs.length), (22, .slice a xs.length cp), (23, .int .i64 (xs.length : Int)), (24, .int .i64 (i : Int)), (7, .int .i64 (i : Int)), (8, .pointer (some ⟨b8, 0, none⟩)), (39, .int .i64 (((ws.length + 1) : Nat) : Int)), (40, .int .i64 (p : Int))]) (fun (p, rs, cs) => [.frag cs (obs rs), .row 95 1 (.slice (some ⟨b33, 0, none⟩) (ws.length + 1) (ws.length + 1)) (ws.length + 1) (rs.map obv), .row 72 4 (vb b8) 1 (nv (xs.getD i n0)), .frag bs (obs2 ts), .row 96 1 (.slice (some ⟨b20, 0, none⟩) xs.length xs.length) xs.length (((ts.map ov2).set i (.slice (some ⟨b33, 0, none⟩) (ws.length + 1) (ws.length + 1)))), .row 40 2 (vb b2) 1 [.slice a xs.length cp, .int .i64 rt]]) (fun (p, rs, cs) => (ws.length + 1) - p) (0, List.replicate (ws.length + 1) ob0, []) ⟨by omega, I1.start _ _ _⟩ ⟨rfl, rfl, rfl, rfl, rfl, rfl, rfl, rfl, rfl, rfl, rfl, trivial⟩ (.keep rfl (.keep (row_eq (by simp [ob0])) (HSub.refl _))) (fun ⟨p, rs, cs⟩ ⟨hp, hrs⟩ K1 hK1 => ?_)
    dsimp only
    refine CT.seq ?_
    -- region 8: ref.go:44
    refine CT.region ?_
    refine Wl.q rfl rfl (OpQ.lss rfl rfl) ?_
    refine Wl.nil ?_
    refine PX.then_n ?_
    refine CT.seq ?_
    refine CT.cond rfl (fun h41 => ?_) (fun h41 => ?_)
    · -- if t41: then
      have h41 := of_decide_eq_true h41
      have hrl := hrs.len
      refine CT.skip ?_
      refine PX.then_n ?_
      refine CT.seq ?_
      refine CT.block ?_
      refine CT.seq ?_
      -- region 9: ref.go:44
      refine CT.region ?_
      refine Wl.q rfl rfl (OpQ.move rfl) ?_
      refine Wl.q rfl rfl (OpQ.assign rfl) ?_
      refine Wl.nil ?_
      refine PX.then_n ?_
      refine CT.seq ?_
      -- region 10, drawn: ref.go:45
      refine CT.draw 9 ZA_mixed ?_
      refine RA.q 0 (by kernel_rfl) rfl rfl rfl (.refl _) (OpQ.move rfl) ?_
      refine RA.q 1 (by kernel_rfl) rfl rfl rfl (.refl _) (OpQ.move rfl) ?_
      refine RA.q 2 (by kernel_rfl) rfl rfl rfl (.refl _) (OpQ.index1 ZA_un113 ZA_sz96 rfl rfl (by omega) rfl) ?_
      refine RA.q 3 (by kernel_rfl) rfl rfl rfl (.refl _) (OpQ.loadRow ZA_sc96 rfl (.there (.there (.there (.there .here)))) (set_same (by rw [List.length_map, htl]; omega))) ?_
      refine RA.q 4 (by kernel_rfl) rfl rfl rfl (.refl _) (OpQ.move rfl) ?_
      refine RA.q 5 (by kernel_rfl) rfl rfl rfl (.refl _) (OpQ.move rfl) ?_
      refine RA.q 6 (by kernel_rfl) rfl rfl rfl (.refl _) (OpQ.add rfl rfl (by omega)) ?_
      refine RA.know 49 (v' := .int .i64 (((ws.length + 1) : Nat) : Int)) rfl (congrArg (Value.int .i64) (by omega)) ?_
      refine RA.f 7 (by kernel_rfl) rfl rfl rfl (OpG.make1 ZA_un95 ZA_in4 rfl rfl rfl rfl (by omega) (by omega)) (fun _ _ => (.cons _ (.refl _))) ?_
      rintro b50 _
      refine RA.q 8 (by kernel_rfl) rfl rfl rfl (.cons _ (.refl _)) (OpQ.index1 ZA_un96 ZA_sz95 rfl rfl (by omega) rfl) ?_
      refine RA.tail ?_
      refine RT.f 9 (by kernel_rfl) rfl rfl rfl (OpG.storeRow ZA_sz95 rfl rfl rfl (.there (.there .here)) (by rw [List.length_map, hrl]; show p < _; omega)) ?_
      rintro _ _
      refine RT.done (by kernel_rfl) ?_
      refine PX.then_n ?_
      refine CT.seq ?_
      -- region 11: ref.go:46
      refine CT.region ?_
      refine Wl.q rfl rfl (OpQ.move rfl) ?_
      refine Wl.q rfl rfl (OpQ.assign rfl) ?_
      refine Wl.nil ?_
      refine PX.then_n ?_
      refine CT.block ?_
      -- the loop at region 12
      refine CT.loop (ι := Nat) (fun k => p ≤ k ∧ k ≤ (ws.length + 1)) (fun k => [(1, sv ws), (2, .pointer (some ⟨b2, 0, none⟩)), (5, .int .i64 (ws.length : Int)), (6, .slice (some ⟨b20, 0, none⟩) xs.length xs.length), (22, .slice a xs.length cp), (23, .int .i64 (xs.length : Int)), (24, .int .i64 (i : Int)), (7, .int .i64 (i : Int)), (8, .pointer (some ⟨b8, 0, none⟩)), (39, .int .i64 (((ws.length + 1) : Nat) : Int)), (40, .int .i64 (p : Int)), (9, .int .i64 (p : Int)), (10, .int .i64 (k : Int))]) (fun k => [.row 4 1 (.slice (some ⟨b50, 0, none⟩) (ws.length + 1) (ws.length + 1)) (ws.length + 1) (((tabK xs ws i p k).map bo)), .frag cs (obs rs), .row 95 1 (.slice (some ⟨b33, 0, none⟩) (ws.length + 1) (ws.length + 1)) (ws.length + 1) (((rs.map obv).set p (.slice (some ⟨b50, 0, none⟩) (ws.length + 1) (ws.length + 1)))), .row 72 4 (vb b8) 1 (nv (xs.getD i n0)), .frag bs (obs2 ts), .row 96 1 (.slice (some ⟨b20, 0, none⟩) xs.length xs.length) xs.length (((ts.map ov2).set i (.slice (some ⟨b33, 0, none⟩) (ws.length + 1) (ws.length + 1)))), .row 40 2 (vb b2) 1 [.slice a xs.length cp, .int .i64 rt]]) (fun k => (ws.length + 1) - k) p ⟨Nat.le_refl _, by omega⟩ ⟨rfl, rfl, rfl, rfl, rfl, rfl, rfl, rfl, rfl, rfl, rfl, rfl, rfl, trivial⟩ (.keep (row_eq (by rw [← tabK_start]; simp)) (HSub.refl _)) (fun k hk K2 hK2 => ?_)
      refine CT.seq ?_
      refine CT.seq ?_
      -- region 12: ref.go:46
      refine CT.region ?_
      refine Wl.q rfl rfl (OpQ.move rfl) ?_
      refine Wl.q rfl rfl (OpQ.move rfl) ?_
      refine Wl.q rfl rfl (OpQ.leq rfl rfl) ?_
      refine Wl.nil ?_
      refine PX.then_n ?_
      refine CT.cond rfl (fun h55 => ?_) (fun h55 => ?_)
      · -- if t55: then
        have h55 := of_decide_eq_true h55
        have hmm := congrFun (congrFun (mem_eq hok (i := i) (by omega) ws) p) k
        refine CT.skip ?_
        refine PX.then_n ?_
        refine CT.seq ?_
        refine CT.block ?_
        refine CT.seq ?_
        -- region 14: ref.go:47
        refine CT.region ?_
        refine Wl.q rfl rfl (OpQ.assign rfl) ?_
        refine Wl.nil ?_
        refine PX.then_n ?_
        refine CT.cut (ι := Bool) (Φ := fun b => b = (mem xs ws i p k)) (E' := fun b => [(1, sv ws), (2, .pointer (some ⟨b2, 0, none⟩)), (5, .int .i64 (ws.length : Int)), (6, .slice (some ⟨b20, 0, none⟩) xs.length xs.length), (22, .slice a xs.length cp), (23, .int .i64 (xs.length : Int)), (24, .int .i64 (i : Int)), (7, .int .i64 (i : Int)), (8, .pointer (some ⟨b8, 0, none⟩)), (39, .int .i64 (((ws.length + 1) : Nat) : Int)), (40, .int .i64 (p : Int)), (9, .int .i64 (p : Int)), (10, .int .i64 (k : Int)), (11, .bool b)]) (H' := fun _ => [.row 4 1 (.slice (some ⟨b50, 0, none⟩) (ws.length + 1) (ws.length + 1)) (ws.length + 1) (((tabK xs ws i p k).map bo)), .frag cs (obs rs), .row 95 1 (.slice (some ⟨b33, 0, none⟩) (ws.length + 1) (ws.length + 1)) (ws.length + 1) (((rs.map obv).set p (.slice (some ⟨b50, 0, none⟩) (ws.length + 1) (ws.length + 1)))), .row 72 4 (vb b8) 1 (nv (xs.getD i n0)), .frag bs (obs2 ts), .row 96 1 (.slice (some ⟨b20, 0, none⟩) xs.length xs.length) xs.length (((ts.map ov2).set i (.slice (some ⟨b33, 0, none⟩) (ws.length + 1) (ws.length + 1)))), .row 40 2 (vb b2) 1 [.slice a xs.length cp, .int .i64 rt]]) (fun K3 hK3 => ?_) (fun b hb => ?_)
        · -- up to the join
          refine CT.seq ?_
          -- region 15: ref.go:48
          refine CT.region ?_
          refine Wl.q rfl rfl (OpQ.fieldAddr ZA_fa72_0 rfl) ?_
          refine Wl.q rfl rfl (OpQ.loadF (b := b8) ZA_sc3 rfl (by repeat (first | exact Has.here | apply Has.there)) (by rfl)) ?_
          refine Wl.nil ?_
          refine PX.then_n ?_
          refine CT.block ?_
          refine CT.seq ?_
          -- region 16: ref.go:49
          refine CT.region ?_
          refine Wl.q rfl rfl (OpQ.eql rfl rfl) ?_
          refine Wl.q rfl rfl (OpQ.assign rfl) ?_
          refine Wl.nil ?_
          refine PX.then_n ?_
          refine CT.cond rfl (fun h60 => ?_) (fun h60 => ?_)
          · -- if t60: then
            have h60 := of_decide_eq_true h60
            -- region 17: ref.go:50
            refine CT.region ?_
            refine Wl.q rfl rfl (OpQ.move rfl) ?_
            refine Wl.q rfl rfl (OpQ.move rfl) ?_
            refine Wl.q rfl rfl (OpQ.eql rfl rfl) ?_
            refine Wl.q rfl rfl (OpQ.assign rfl) ?_
            refine Wl.nil ?_
            refine PX.block_n ?_
            refine PX.know 11 (v' := .bool (decide (p = k))) rfl (congrArg Value.bool (by rw [decide_eq_decide]; omega)) ?_
            exact PX.cut hK3 (decide (p = k)) (by rw [hmm, ms2 h60]) ⟨rfl, rfl, rfl, rfl, rfl, rfl, rfl, rfl, rfl, rfl, rfl, rfl, rfl, (lkV rfl rfl), trivial⟩ (HSub.refl _)
          · -- if t60: else
            have h60 := of_decide_eq_false h60
            refine CT.seq ?_
            -- region 18: ref.go:51
            refine CT.region ?_
            refine Wl.q rfl rfl (OpQ.eql rfl rfl) ?_
            refine Wl.q rfl rfl (OpQ.assign rfl) ?_
            refine Wl.nil ?_
            refine PX.then_n ?_
            refine CT.cond rfl (fun h65 => ?_) (fun h65 => ?_)
            · -- if t65: then
              have h65 := of_decide_eq_true h65
              -- region 19, drawn: ref.go:52
              refine CT.draw 15 ZA_mixed ?_
              refine RA.q 0 (by kernel_rfl) rfl rfl rfl (.refl _) (OpQ.move rfl) ?_
              refine RA.q 1 (by kernel_rfl) rfl rfl rfl (.refl _) (OpQ.move rfl) ?_
              refine RA.q 2 (by kernel_rfl) rfl rfl rfl (.refl _) (OpQ.add rfl rfl (by omega)) ?_
              refine RA.q 3 (by kernel_rfl) rfl rfl rfl (.refl _) (OpQ.eql rfl rfl) ?_
              refine RA.q 4 (by kernel_rfl) rfl rfl rfl (.refl _) (OpQ.move rfl) ?_
              refine RA.split 71 rfl (fun hg71 => ?_) (fun hg71 => ?_)
              · -- t71 = True
                have hg71 := of_decide_eq_true hg71
                have hg71 : k = p + 1 := by omega
                have hu := Tl.okW_get hwk (j := p) (by omega)
                refine RA.q 5 (by kernel_rfl) rfl rfl rfl (.refl _) (OpQ.move rfl) ?_
                refine RA.q 6 (by kernel_rfl) rfl rfl rfl (.refl _) (OpQ.move rfl) ?_
                refine RA.q 7 (by kernel_rfl) rfl rfl rfl (.refl _) (OpQ.indexSvN ZA_un9 rfl rfl (by omega)) ?_
                refine RA.q 8 (by kernel_rfl) rfl rfl rfl (.refl _) (OpQ.sub8 rfl rfl (by omega)) ?_
                refine RA.q 9 (by kernel_rfl) rfl rfl rfl (.refl _) (OpQ.conv rfl (conv_u8_i64 ZA_un5 ZA_un3 _ (by omega))) ?_
                refine RA.q 10 (by kernel_rfl) rfl rfl rfl (.refl _) (OpQ.fieldAddr ZA_fa72_1 rfl) ?_
                refine RA.q 11 (by kernel_rfl) rfl rfl rfl (.refl _) (OpQ.loadF (b := b8) ZA_sc3 rfl (by repeat (first | exact Has.here | apply Has.there)) (by rfl)) ?_
                refine RA.q 12 (by kernel_rfl) rfl rfl rfl (.refl _) (OpQ.eql rfl rfl) ?_
                refine RA.q 13 (by kernel_rfl) rfl rfl rfl (.refl _) (OpQ.pickT rfl rfl) ?_
                refine RA.q 14 (by kernel_rfl) rfl rfl rfl (.refl _) (OpQ.assign rfl) ?_
                refine RA.tail ?_
                refine RT.done (by kernel_rfl) ?_
                refine PX.block_n ?_
                exact PX.cut hK3 (decide (byteI ws p = (xs.getD i n0).lt)) (by rw [hmm, ms3 h65, decide_eq_true hg71]; rfl) ⟨rfl, rfl, rfl, rfl, rfl, rfl, rfl, rfl, rfl, rfl, rfl, rfl, rfl, (lkV rfl rfl), trivial⟩ (HSub.refl _)
              · -- t71 = False
                have hg71 := of_decide_eq_false hg71
                have hg71 : ¬ k = p + 1 := by omega
                refine RA.skip 5 (by kernel_rfl) rfl rfl rfl (.refl _) ?_
                refine RA.skip 6 (by kernel_rfl) rfl rfl rfl (.refl _) ?_
                refine RA.skip 7 (by kernel_rfl) rfl rfl rfl (.refl _) ?_
                refine RA.skip 8 (by kernel_rfl) rfl rfl rfl (.refl _) ?_
                refine RA.skip 9 (by kernel_rfl) rfl rfl rfl (.refl _) ?_
                refine RA.skip 10 (by kernel_rfl) rfl rfl rfl (.refl _) ?_
                refine RA.skip 11 (by kernel_rfl) rfl rfl rfl (.refl _) ?_
                refine RA.skip 12 (by kernel_rfl) rfl rfl rfl (.refl _) ?_
                refine RA.q 13 (by kernel_rfl) rfl rfl rfl (.refl _) (OpQ.pickF rfl rfl) ?_
                refine RA.q 14 (by kernel_rfl) rfl rfl rfl (.refl _) (OpQ.assign rfl) ?_
                refine RA.tail ?_
                refine RT.done (by kernel_rfl) ?_
                refine PX.block_n ?_
                exact PX.cut hK3 (false) (by rw [hmm, ms3 h65, decide_eq_false hg71]; rfl) ⟨rfl, rfl, rfl, rfl, rfl, rfl, rfl, rfl, rfl, rfl, rfl, rfl, rfl, (lkV rfl rfl), trivial⟩ (HSub.refl _)
            · -- if t65: else
              have h65 := of_decide_eq_false h65
              refine CT.seq ?_
              -- region 20: ref.go:53
              refine CT.region ?_
              refine Wl.q rfl rfl (OpQ.eql rfl rfl) ?_
              refine Wl.q rfl rfl (OpQ.assign rfl) ?_
              refine Wl.nil ?_
              refine PX.then_n ?_
              refine CT.cond rfl (fun h81 => ?_) (fun h81 => ?_)
              · -- if t81: then
                have h81 := of_decide_eq_true h81
                -- region 21: ref.go:54
                refine CT.region ?_
                refine Wl.q rfl rfl (OpQ.assign rfl) ?_
                refine Wl.nil ?_
                refine PX.block_n ?_
                exact PX.cut hK3 (true) (by rw [hmm, ms4 h81]) ⟨rfl, rfl, rfl, rfl, rfl, rfl, rfl, rfl, rfl, rfl, rfl, rfl, rfl, (lkV rfl rfl), trivial⟩ (HSub.refl _)
              · -- if t81: else
                have h81 := of_decide_eq_false h81
                refine CT.seq ?_
                -- region 22: ref.go:55
                refine CT.region ?_
                refine Wl.q rfl rfl (OpQ.eql rfl rfl) ?_
                refine Wl.q rfl rfl (OpQ.assign rfl) ?_
                refine Wl.nil ?_
                refine PX.then_n ?_
                refine CT.cond rfl (fun h83 => ?_) (fun h83 => ?_)
                · -- if t83: then
                  have h83 := of_decide_eq_true h83
                  have pa := pa (by omega)
                  have pb := pb (by omega)
                  obtain ⟨qa1, qa2, qa3⟩ := hin.tab (xs.getD i n0).a.toNat (by omega)
                  obtain ⟨ra1, ra2⟩ := qa3 p (by omega)
                  have ra3 : ((ts.getD (xs.getD i n0).a.toNat o20).rs.getD p ob0).vs.length = (ws.length + 1) := by rw [ra2, tabK_len]
                  obtain ⟨qb1, qb2, qb3⟩ := hin.tab (xs.getD i n0).b.toNat (by omega)
                  obtain ⟨rb1, rb2⟩ := qb3 p (by omega)
                  have rb3 : ((ts.getD (xs.getD i n0).b.toNat o20).rs.getD p ob0).vs.length = (ws.length + 1) := by rw [rb2, tabK_len]
                  -- region 23: ref.go:56
                  refine CT.region ?_
                  refine Wl.q rfl rfl (OpQ.move rfl) ?_
                  refine Wl.q rfl rfl (OpQ.fieldAddr ZA_fa72_2 rfl) ?_
                  refine Wl.q rfl rfl (OpQ.loadF (b := b8) ZA_sc3 rfl (by repeat (first | exact Has.here | apply Has.there)) (by rfl)) ?_
                  refine Wl.q rfl rfl (OpQ.index1 ZA_un113 ZA_sz96 rfl rfl (by omega) rfl) ?_
                  refine Wl.q rfl rfl (OpQ.loadRow ZA_sc96 rfl (.there (.there (.there (.there (.there .here))))) (set_other2 (by omega) (by rw [hin.len]; omega))) ?_
                  refine Wl.q rfl rfl (OpQ.move rfl) ?_
                  refine Wl.q rfl rfl (OpQ.index1 ZA_un96 ZA_sz95 rfl rfl (by rw [qa2]; omega) qa1) ?_
                  refine Wl.q rfl rfl (OpQ.loadG ZA_sc95 rfl (fun w hH => (hH.fragp (.there (.there (.there (.there .here)))) _ (getD_mem (show (xs.getD i n0).a.toNat < ts.length by rw [hin.len]; omega))).1) (getMap obv (ts.getD (xs.getD i n0).a.toNat o20).rs ob0 (j := p) (by omega))) ?_
                  refine Wl.q rfl rfl (OpQ.move rfl) ?_
                  refine Wl.q rfl rfl (OpQ.index1 ZA_un95 ZA_sz4 rfl rfl (by rw [ra3]; omega) ra1) ?_
                  refine Wl.q rfl rfl (OpQ.loadG ZA_sc4 rfl (fun w hH => (hH.fragp (.there (.there (.there (.there .here)))) _ (getD_mem (show (xs.getD i n0).a.toNat < ts.length by rw [hin.len]; omega))).2 _ (getD_mem (show p < (ts.getD (xs.getD i n0).a.toNat o20).rs.length by omega))) (getMap bo ((ts.getD (xs.getD i n0).a.toNat o20).rs.getD p ob0).vs false (j := k) (by rw [ra3]; omega))) ?_
                  refine Wl.know 95 (v' := .bool (mem xs ws (xs.getD i n0).a.toNat p k)) rfl (congrArg Value.bool (by rw [ra2]; exact tabR_get (by omega) (by omega))) ?_
                  refine Wl.q rfl rfl (OpQ.move rfl) ?_
                  refine Wl.split 96 rfl (fun hg96 => ?_) (fun hg96 => ?_)
                  · -- t96 = True
                    refine Wl.skip rfl rfl ?_
                    refine Wl.skip rfl rfl ?_
                    refine Wl.skip rfl rfl ?_
                    refine Wl.skip rfl rfl ?_
                    refine Wl.skip rfl rfl ?_
                    refine Wl.skip rfl rfl ?_
                    refine Wl.skip rfl rfl ?_
                    refine Wl.skip rfl rfl ?_
                    refine Wl.skip rfl rfl ?_
                    refine Wl.skip rfl rfl ?_
                    refine Wl.skip rfl rfl ?_
                    refine Wl.q rfl rfl (OpQ.pickT rfl rfl) ?_
                    refine Wl.q rfl rfl (OpQ.assign rfl) ?_
                    refine Wl.nil ?_
                    refine PX.block_n ?_
                    exact PX.cut hK3 (true) (by rw [hmm, ms5 h83, hg96]; rfl) ⟨rfl, rfl, rfl, rfl, rfl, rfl, rfl, rfl, rfl, rfl, rfl, rfl, rfl, (lkV rfl rfl), trivial⟩ (HSub.refl _)
                  · -- t96 = False
                    refine Wl.q rfl rfl (OpQ.move rfl) ?_
                    refine Wl.q rfl rfl (OpQ.fieldAddr ZA_fa72_3 rfl) ?_
                    refine Wl.q rfl rfl (OpQ.loadF (b := b8) ZA_sc3 rfl (by repeat (first | exact Has.here | apply Has.there)) (by rfl)) ?_
                    refine Wl.q rfl rfl (OpQ.index1 ZA_un113 ZA_sz96 rfl rfl (by omega) rfl) ?_
                    refine Wl.q rfl rfl (OpQ.loadRow ZA_sc96 rfl (.there (.there (.there (.there (.there .here))))) (set_other2 (by omega) (by rw [hin.len]; omega))) ?_
                    refine Wl.q rfl rfl (OpQ.move rfl) ?_
                    refine Wl.q rfl rfl (OpQ.index1 ZA_un96 ZA_sz95 rfl rfl (by rw [qb2]; omega) qb1) ?_
                    refine Wl.q rfl rfl (OpQ.loadG ZA_sc95 rfl (fun w hH => (hH.fragp (.there (.there (.there (.there .here)))) _ (getD_mem (show (xs.getD i n0).b.toNat < ts.length by rw [hin.len]; omega))).1) (getMap obv (ts.getD (xs.getD i n0).b.toNat o20).rs ob0 (j := p) (by omega))) ?_
                    refine Wl.q rfl rfl (OpQ.move rfl) ?_
                    refine Wl.q rfl rfl (OpQ.index1 ZA_un95 ZA_sz4 rfl rfl (by rw [rb3]; omega) rb1) ?_
                    refine Wl.q rfl rfl (OpQ.loadG ZA_sc4 rfl (fun w hH => (hH.fragp (.there (.there (.there (.there .here)))) _ (getD_mem (show (xs.getD i n0).b.toNat < ts.length by rw [hin.len]; omega))).2 _ (getD_mem (show p < (ts.getD (xs.getD i n0).b.toNat o20).rs.length by omega))) (getMap bo ((ts.getD (xs.getD i n0).b.toNat o20).rs.getD p ob0).vs false (j := k) (by rw [rb3]; omega))) ?_
                    refine Wl.know 107 (v' := .bool (mem xs ws (xs.getD i n0).b.toNat p k)) rfl (congrArg Value.bool (by rw [rb2]; exact tabR_get (by omega) (by omega))) ?_
                    refine Wl.q rfl rfl (OpQ.pickF rfl rfl) ?_
                    refine Wl.q rfl rfl (OpQ.assign rfl) ?_
                    refine Wl.nil ?_
                    refine PX.block_n ?_
                    exact PX.cut hK3 ((mem xs ws (xs.getD i n0).b.toNat p k)) (by rw [hmm, ms5 h83, hg96]; rfl) ⟨rfl, rfl, rfl, rfl, rfl, rfl, rfl, rfl, rfl, rfl, rfl, rfl, rfl, (lkV rfl rfl), trivial⟩ (HSub.refl _)
                · -- if t83: else
                  have h83 := of_decide_eq_false h83
                  refine CT.seq ?_
                  -- region 24: ref.go:57
                  refine CT.region ?_
                  refine Wl.q rfl rfl (OpQ.eql rfl rfl) ?_
                  refine Wl.q rfl rfl (OpQ.assign rfl) ?_
                  refine Wl.nil ?_
                  refine PX.then_n ?_
                  refine CT.cond rfl (fun h109 => ?_) (fun h109 => ?_)
                  · -- if t109: then
                    have h109 := of_decide_eq_true h109
                    have pa := pa (by omega)
                    have pb := pb (by omega)
                    obtain ⟨qa1, qa2, qa3⟩ := hin.tab (xs.getD i n0).a.toNat (by omega)
                    obtain ⟨ra1, ra2⟩ := qa3 p (by omega)
                    have ra3 : ((ts.getD (xs.getD i n0).a.toNat o20).rs.getD p ob0).vs.length = (ws.length + 1) := by rw [ra2, tabK_len]
                    obtain ⟨qb1, qb2, qb3⟩ := hin.tab (xs.getD i n0).b.toNat (by omega)
                    obtain ⟨rb1, rb2⟩ := qb3 p (by omega)
                    have rb3 : ((ts.getD (xs.getD i n0).b.toNat o20).rs.getD p ob0).vs.length = (ws.length + 1) := by rw [rb2, tabK_len]
                    -- region 25: ref.go:58
                    refine CT.region ?_
                    refine Wl.q rfl rfl (OpQ.move rfl) ?_
                    refine Wl.q rfl rfl (OpQ.fieldAddr ZA_fa72_2 rfl) ?_
                    refine Wl.q rfl rfl (OpQ.loadF (b := b8) ZA_sc3 rfl (by repeat (first | exact Has.here | apply Has.there)) (by rfl)) ?_
                    refine Wl.q rfl rfl (OpQ.index1 ZA_un113 ZA_sz96 rfl rfl (by omega) rfl) ?_
                    refine Wl.q rfl rfl (OpQ.loadRow ZA_sc96 rfl (.there (.there (.there (.there (.there .here))))) (set_other2 (by omega) (by rw [hin.len]; omega))) ?_
                    refine Wl.q rfl rfl (OpQ.move rfl) ?_
                    refine Wl.q rfl rfl (OpQ.index1 ZA_un96 ZA_sz95 rfl rfl (by rw [qa2]; omega) qa1) ?_
                    refine Wl.q rfl rfl (OpQ.loadG ZA_sc95 rfl (fun w hH => (hH.fragp (.there (.there (.there (.there .here)))) _ (getD_mem (show (xs.getD i n0).a.toNat < ts.length by rw [hin.len]; omega))).1) (getMap obv (ts.getD (xs.getD i n0).a.toNat o20).rs ob0 (j := p) (by omega))) ?_
                    refine Wl.q rfl rfl (OpQ.move rfl) ?_
                    refine Wl.q rfl rfl (OpQ.index1 ZA_un95 ZA_sz4 rfl rfl (by rw [ra3]; omega) ra1) ?_
                    refine Wl.q rfl rfl (OpQ.loadG ZA_sc4 rfl (fun w hH => (hH.fragp (.there (.there (.there (.there .here)))) _ (getD_mem (show (xs.getD i n0).a.toNat < ts.length by rw [hin.len]; omega))).2 _ (getD_mem (show p < (ts.getD (xs.getD i n0).a.toNat o20).rs.length by omega))) (getMap bo ((ts.getD (xs.getD i n0).a.toNat o20).rs.getD p ob0).vs false (j := k) (by rw [ra3]; omega))) ?_
                    refine Wl.know 121 (v' := .bool (mem xs ws (xs.getD i n0).a.toNat p k)) rfl (congrArg Value.bool (by rw [ra2]; exact tabR_get (by omega) (by omega))) ?_
                    refine Wl.q rfl rfl (OpQ.move rfl) ?_
                    refine Wl.split 122 rfl (fun hg122 => ?_) (fun hg122 => ?_)
                    · -- t122 = True
                      refine Wl.q rfl rfl (OpQ.move rfl) ?_
                      refine Wl.q rfl rfl (OpQ.fieldAddr ZA_fa72_3 rfl) ?_
                      refine Wl.q rfl rfl (OpQ.loadF (b := b8) ZA_sc3 rfl (by repeat (first | exact Has.here | apply Has.there)) (by rfl)) ?_
                      refine Wl.q rfl rfl (OpQ.index1 ZA_un113 ZA_sz96 rfl rfl (by omega) rfl) ?_
                      refine Wl.q rfl rfl (OpQ.loadRow ZA_sc96 rfl (.there (.there (.there (.there (.there .here))))) (set_other2 (by omega) (by rw [hin.len]; omega))) ?_
                      refine Wl.q rfl rfl (OpQ.move rfl) ?_
                      refine Wl.q rfl rfl (OpQ.index1 ZA_un96 ZA_sz95 rfl rfl (by rw [qb2]; omega) qb1) ?_
                      refine Wl.q rfl rfl (OpQ.loadG ZA_sc95 rfl (fun w hH => (hH.fragp (.there (.there (.there (.there .here)))) _ (getD_mem (show (xs.getD i n0).b.toNat < ts.length by rw [hin.len]; omega))).1) (getMap obv (ts.getD (xs.getD i n0).b.toNat o20).rs ob0 (j := p) (by omega))) ?_
                      refine Wl.q rfl rfl (OpQ.move rfl) ?_
                      refine Wl.q rfl rfl (OpQ.index1 ZA_un95 ZA_sz4 rfl rfl (by rw [rb3]; omega) rb1) ?_
                      refine Wl.q rfl rfl (OpQ.loadG ZA_sc4 rfl (fun w hH => (hH.fragp (.there (.there (.there (.there .here)))) _ (getD_mem (show (xs.getD i n0).b.toNat < ts.length by rw [hin.len]; omega))).2 _ (getD_mem (show p < (ts.getD (xs.getD i n0).b.toNat o20).rs.length by omega))) (getMap bo ((ts.getD (xs.getD i n0).b.toNat o20).rs.getD p ob0).vs false (j := k) (by rw [rb3]; omega))) ?_
                      refine Wl.know 133 (v' := .bool (mem xs ws (xs.getD i n0).b.toNat p k)) rfl (congrArg Value.bool (by rw [rb2]; exact tabR_get (by omega) (by omega))) ?_
                      refine Wl.q rfl rfl (OpQ.pickT rfl rfl) ?_
                      refine Wl.q rfl rfl (OpQ.assign rfl) ?_
                      refine Wl.nil ?_
                      refine PX.block_n ?_
                      exact PX.cut hK3 ((mem xs ws (xs.getD i n0).b.toNat p k)) (by rw [hmm, ms6 h109, hg122]; rfl) ⟨rfl, rfl, rfl, rfl, rfl, rfl, rfl, rfl, rfl, rfl, rfl, rfl, rfl, (lkV rfl rfl), trivial⟩ (HSub.refl _)
                    · -- t122 = False
                      refine Wl.skip rfl rfl ?_
                      refine Wl.skip rfl rfl ?_
                      refine Wl.skip rfl rfl ?_
                      refine Wl.skip rfl rfl ?_
                      refine Wl.skip rfl rfl ?_
                      refine Wl.skip rfl rfl ?_
                      refine Wl.skip rfl rfl ?_
                      refine Wl.skip rfl rfl ?_
                      refine Wl.skip rfl rfl ?_
                      refine Wl.skip rfl rfl ?_
                      refine Wl.skip rfl rfl ?_
                      refine Wl.q rfl rfl (OpQ.pickF rfl rfl) ?_
                      refine Wl.q rfl rfl (OpQ.assign rfl) ?_
                      refine Wl.nil ?_
                      refine PX.block_n ?_
                      exact PX.cut hK3 (false) (by rw [hmm, ms6 h109, hg122]; rfl) ⟨rfl, rfl, rfl, rfl, rfl, rfl, rfl, rfl, rfl, rfl, rfl, rfl, rfl, (lkV rfl rfl), trivial⟩ (HSub.refl _)
                  · -- if t109: else
                    have h109 := of_decide_eq_false h109
                    refine CT.seq ?_
                    -- region 26: ref.go:59
                    refine CT.region ?_
                    refine Wl.q rfl rfl (OpQ.eql rfl rfl) ?_
                    refine Wl.q rfl rfl (OpQ.assign rfl) ?_
                    refine Wl.nil ?_
                    refine PX.then_n ?_
                    refine CT.cond rfl (fun h135 => ?_) (fun h135 => ?_)
                    · -- if t135: then
                      have h135 := of_decide_eq_true h135
                      have pa := pa (by omega)
                      have pb := pb (by omega)
                      obtain ⟨qa1, qa2, qa3⟩ := hin.tab (xs.getD i n0).a.toNat (by omega)
                      obtain ⟨ra1, ra2⟩ := qa3 p (by omega)
                      have ra3 : ((ts.getD (xs.getD i n0).a.toNat o20).rs.getD p ob0).vs.length = (ws.length + 1) := by rw [ra2, tabK_len]
                      obtain ⟨qb1, qb2, qb3⟩ := hin.tab (xs.getD i n0).b.toNat (by omega)
                      refine CT.seq ?_
                      -- region 27: ref.go:60
                      refine CT.region ?_
                      refine Wl.q rfl rfl (OpQ.move rfl) ?_
                      refine Wl.q rfl rfl (OpQ.assign rfl) ?_
                      refine Wl.nil ?_
                      refine PX.then_n ?_
                      refine CT.block ?_
                      -- the loop at region 28
                      refine CT.loop (ι := Nat) (fun c => p ≤ c ∧ c ≤ k + 1) (fun c => [(1, sv ws), (2, .pointer (some ⟨b2, 0, none⟩)), (5, .int .i64 (ws.length : Int)), (6, .slice (some ⟨b20, 0, none⟩) xs.length xs.length), (22, .slice a xs.length cp), (23, .int .i64 (xs.length : Int)), (24, .int .i64 (i : Int)), (7, .int .i64 (i : Int)), (8, .pointer (some ⟨b8, 0, none⟩)), (39, .int .i64 (((ws.length + 1) : Nat) : Int)), (40, .int .i64 (p : Int)), (9, .int .i64 (p : Int)), (10, .int .i64 (k : Int)), (11, .bool (anyM xs ws (xs.getD i n0).a.toNat (xs.getD i n0).b.toNat p k c)), (12, .int .i64 (c : Int))]) (fun c => [.row 4 1 (.slice (some ⟨b50, 0, none⟩) (ws.length + 1) (ws.length + 1)) (ws.length + 1) (((tabK xs ws i p k).map bo)), .frag cs (obs rs), .row 95 1 (.slice (some ⟨b33, 0, none⟩) (ws.length + 1) (ws.length + 1)) (ws.length + 1) (((rs.map obv).set p (.slice (some ⟨b50, 0, none⟩) (ws.length + 1) (ws.length + 1)))), .row 72 4 (vb b8) 1 (nv (xs.getD i n0)), .frag bs (obs2 ts), .row 96 1 (.slice (some ⟨b20, 0, none⟩) xs.length xs.length) xs.length (((ts.map ov2).set i (.slice (some ⟨b33, 0, none⟩) (ws.length + 1) (ws.length + 1)))), .row 40 2 (vb b2) 1 [.slice a xs.length cp, .int .i64 rt]]) (fun c => k + 1 - c) p ⟨Nat.le_refl _, by omega⟩ ⟨rfl, rfl, rfl, rfl, rfl, rfl, rfl, rfl, rfl, rfl, rfl, rfl, rfl, (lkV rfl (congrArg Value.bool (anyM_0 _ _ _ _ _ _).symm)), rfl, trivial⟩ (HSub.refl _) (fun c hc K4 hK4 => ?_)
                      refine CT.seq ?_
                      refine CT.seq ?_
                      -- region 28: ref.go:60
                      refine CT.region ?_
                      refine Wl.q rfl rfl (OpQ.move rfl) ?_
                      refine Wl.q rfl rfl (OpQ.move rfl) ?_
                      refine Wl.q rfl rfl (OpQ.leq rfl rfl) ?_
                      refine Wl.q rfl rfl (OpQ.move rfl) ?_
                      refine Wl.split 141 rfl (fun hg141 => ?_) (fun hg141 => ?_)
                      · -- t141 = True
                        have hg141 := of_decide_eq_true hg141
                        refine Wl.q rfl rfl (OpQ.move rfl) ?_
                        refine Wl.q rfl rfl (OpQ.not rfl) ?_
                        refine Wl.q rfl rfl (OpQ.pickT rfl rfl) ?_
                        refine Wl.nil ?_
                        refine PX.then_n ?_
                        refine CT.cond rfl (fun h144 => ?_) (fun h144 => ?_)
                        · -- if t144: then
                          have h144 : (anyM xs ws (xs.getD i n0).a.toNat (xs.getD i n0).b.toNat p k c) = false := by simpa using h144
                          obtain ⟨rb1, rb2⟩ := qb3 c (by omega)
                          have rb3 : ((ts.getD (xs.getD i n0).b.toNat o20).rs.getD c ob0).vs.length = (ws.length + 1) := by rw [rb2, tabK_len]
                          refine CT.skip ?_
                          refine PX.then_n ?_
                          refine CT.seq ?_
                          refine CT.block ?_
                          -- region 30: ref.go:61
                          refine CT.region ?_
                          refine Wl.q rfl rfl (OpQ.move rfl) ?_
                          refine Wl.q rfl rfl (OpQ.fieldAddr ZA_fa72_2 rfl) ?_
                          refine Wl.q rfl rfl (OpQ.loadF (b := b8) ZA_sc3 rfl (by repeat (first | exact Has.here | apply Has.there)) (by rfl)) ?_
                          refine Wl.q rfl rfl (OpQ.index1 ZA_un113 ZA_sz96 rfl rfl (by omega) rfl) ?_
                          refine Wl.q rfl rfl (OpQ.loadRow ZA_sc96 rfl (.there (.there (.there (.there (.there .here))))) (set_other2 (by omega) (by rw [hin.len]; omega))) ?_
                          refine Wl.q rfl rfl (OpQ.move rfl) ?_
                          refine Wl.q rfl rfl (OpQ.index1 ZA_un96 ZA_sz95 rfl rfl (by rw [qa2]; omega) qa1) ?_
                          refine Wl.q rfl rfl (OpQ.loadG ZA_sc95 rfl (fun w hH => (hH.fragp (.there (.there (.there (.there .here)))) _ (getD_mem (show (xs.getD i n0).a.toNat < ts.length by rw [hin.len]; omega))).1) (getMap obv (ts.getD (xs.getD i n0).a.toNat o20).rs ob0 (j := p) (by omega))) ?_
                          refine Wl.q rfl rfl (OpQ.move rfl) ?_
                          refine Wl.q rfl rfl (OpQ.index1 ZA_un95 ZA_sz4 rfl rfl (by rw [ra3]; omega) ra1) ?_
                          refine Wl.q rfl rfl (OpQ.loadG ZA_sc4 rfl (fun w hH => (hH.fragp (.there (.there (.there (.there .here)))) _ (getD_mem (show (xs.getD i n0).a.toNat < ts.length by rw [hin.len]; omega))).2 _ (getD_mem (show p < (ts.getD (xs.getD i n0).a.toNat o20).rs.length by omega))) (getMap bo ((ts.getD (xs.getD i n0).a.toNat o20).rs.getD p ob0).vs false (j := c) (by rw [ra3]; omega))) ?_
                          refine Wl.know 157 (v' := .bool (mem xs ws (xs.getD i n0).a.toNat p c)) rfl (congrArg Value.bool (by rw [ra2]; exact tabR_get (by omega) (by omega))) ?_
                          refine Wl.q rfl rfl (OpQ.move rfl) ?_
                          refine Wl.split 158 rfl (fun hg158 => ?_) (fun hg158 => ?_)
                          · -- t158 = True
                            refine Wl.q rfl rfl (OpQ.move rfl) ?_
                            refine Wl.q rfl rfl (OpQ.fieldAddr ZA_fa72_3 rfl) ?_
                            refine Wl.q rfl rfl (OpQ.loadF (b := b8) ZA_sc3 rfl (by repeat (first | exact Has.here | apply Has.there)) (by rfl)) ?_
                            refine Wl.q rfl rfl (OpQ.index1 ZA_un113 ZA_sz96 rfl rfl (by omega) rfl) ?_
                            refine Wl.q rfl rfl (OpQ.loadRow ZA_sc96 rfl (.there (.there (.there (.there (.there .here))))) (set_other2 (by omega) (by rw [hin.len]; omega))) ?_
                            refine Wl.q rfl rfl (OpQ.move rfl) ?_
                            refine Wl.q rfl rfl (OpQ.index1 ZA_un96 ZA_sz95 rfl rfl (by rw [qb2]; omega) qb1) ?_
                            refine Wl.q rfl rfl (OpQ.loadG ZA_sc95 rfl (fun w hH => (hH.fragp (.there (.there (.there (.there .here)))) _ (getD_mem (show (xs.getD i n0).b.toNat < ts.length by rw [hin.len]; omega))).1) (getMap obv (ts.getD (xs.getD i n0).b.toNat o20).rs ob0 (j := c) (by omega))) ?_
                            refine Wl.q rfl rfl (OpQ.move rfl) ?_
                            refine Wl.q rfl rfl (OpQ.index1 ZA_un95 ZA_sz4 rfl rfl (by rw [rb3]; omega) rb1) ?_
                            refine Wl.q rfl rfl (OpQ.loadG ZA_sc4 rfl (fun w hH => (hH.fragp (.there (.there (.there (.there .here)))) _ (getD_mem (show (xs.getD i n0).b.toNat < ts.length by rw [hin.len]; omega))).2 _ (getD_mem (show c < (ts.getD (xs.getD i n0).b.toNat o20).rs.length by omega))) (getMap bo ((ts.getD (xs.getD i n0).b.toNat o20).rs.getD c ob0).vs false (j := k) (by rw [rb3]; omega))) ?_
                            refine Wl.know 169 (v' := .bool (mem xs ws (xs.getD i n0).b.toNat c k)) rfl (congrArg Value.bool (by rw [rb2]; exact tabR_get (by omega) (by omega))) ?_
                            refine Wl.q rfl rfl (OpQ.pickT rfl rfl) ?_
                            refine Wl.q rfl rfl (OpQ.assign rfl) ?_
                            refine Wl.nil ?_
                            refine PX.block_n ?_
                            refine PX.then_n ?_
                            -- region 29: ref.go:60
                            refine CT.region ?_
                            refine Wl.q rfl rfl (OpQ.move rfl) ?_
                            refine Wl.q rfl rfl (OpQ.add rfl rfl (by omega)) ?_
                            refine Wl.q rfl rfl (OpQ.assign rfl) ?_
                            refine Wl.nil ?_
                            exact PX.loop hK4 (c + 1) ⟨by omega, by omega⟩ (by first | omega | (dsimp only; omega)) ⟨rfl, rfl, rfl, rfl, rfl, rfl, rfl, rfl, rfl, rfl, rfl, rfl, rfl, (lkV rfl (congrArg Value.bool (by rw [anyM_s, h144, decide_eq_true hc.1, decide_eq_true (show c ≤ k by omega), hg158]; rfl))), rfl, trivial⟩ (HSub.refl _)
                          · -- t158 = False
                            refine Wl.skip rfl rfl ?_
                            refine Wl.skip rfl rfl ?_
                            refine Wl.skip rfl rfl ?_
                            refine Wl.skip rfl rfl ?_
                            refine Wl.skip rfl rfl ?_
                            refine Wl.skip rfl rfl ?_
                            refine Wl.skip rfl rfl ?_
                            refine Wl.skip rfl rfl ?_
                            refine Wl.skip rfl rfl ?_
                            refine Wl.skip rfl rfl ?_
                            refine Wl.skip rfl rfl ?_
                            refine Wl.q rfl rfl (OpQ.pickF rfl rfl) ?_
                            refine Wl.q rfl rfl (OpQ.assign rfl) ?_
                            refine Wl.nil ?_
                            refine PX.block_n ?_
                            refine PX.then_n ?_
                            -- region 29: ref.go:60
                            refine CT.region ?_
                            refine Wl.q rfl rfl (OpQ.move rfl) ?_
                            refine Wl.q rfl rfl (OpQ.add rfl rfl (by omega)) ?_
                            refine Wl.q rfl rfl (OpQ.assign rfl) ?_
                            refine Wl.nil ?_
                            exact PX.loop hK4 (c + 1) ⟨by omega, by omega⟩ (by first | omega | (dsimp only; omega)) ⟨rfl, rfl, rfl, rfl, rfl, rfl, rfl, rfl, rfl, rfl, rfl, rfl, rfl, (lkV rfl (congrArg Value.bool (by rw [anyM_s, h144, decide_eq_true hc.1, decide_eq_true (show c ≤ k by omega), hg158]; rfl))), rfl, trivial⟩ (HSub.refl _)
                        · -- if t144: else
                          have hg141 : (anyM xs ws (xs.getD i n0).a.toNat (xs.getD i n0).b.toNat p k c) = true := by simpa using h144
                          refine CT.exit ?_
                          refine PX.then_x ?_
                          refine PX.then_x ?_
                          refine PX.block_x ?_
                          refine PX.block_n ?_
                          exact PX.cut hK3 ((anyM xs ws (xs.getD i n0).a.toNat (xs.getD i n0).b.toNat p k c)) (by rw [hmm, ms7 h135 (by omega), hg141, anyM_more hg141 (by omega)]) ⟨rfl, rfl, rfl, rfl, rfl, rfl, rfl, rfl, rfl, rfl, rfl, rfl, rfl, (lkV rfl rfl), trivial⟩ (HSub.refl _)
                      · -- t141 = False
                        have hg141 := of_decide_eq_false hg141
                        refine Wl.skip rfl rfl ?_
                        refine Wl.skip rfl rfl ?_
                        refine Wl.q rfl rfl (OpQ.pickF rfl rfl) ?_
                        refine Wl.nil ?_
                        refine PX.then_n ?_
                        refine CT.condF rfl ?_
                        refine CT.exit ?_
                        refine PX.then_x ?_
                        refine PX.then_x ?_
                        refine PX.block_x ?_
                        refine PX.block_n ?_
                        obtain rfl : c = k + 1 := by omega
                        exact PX.cut hK3 ((anyM xs ws (xs.getD i n0).a.toNat (xs.getD i n0).b.toNat p k (k + 1))) (by rw [hmm, ms7 h135 (by omega)]) ⟨rfl, rfl, rfl, rfl, rfl, rfl, rfl, rfl, rfl, rfl, rfl, rfl, rfl, (lkV rfl rfl), trivial⟩ (HSub.refl _)
                    · -- if t135: else
                      have h135 := of_decide_eq_false h135
                      refine CT.seq ?_
                      -- region 31: ref.go:63
                      refine CT.region ?_
                      refine Wl.q rfl rfl (OpQ.eql rfl rfl) ?_
                      refine Wl.q rfl rfl (OpQ.assign rfl) ?_
                      refine Wl.nil ?_
                      refine PX.then_n ?_
                      refine CT.cond rfl (fun h171 => ?_) (fun h171 => ?_)
                      · -- if t171: then
                        have h171 := of_decide_eq_true h171
                        have pa := pa (by omega)
                        obtain ⟨qa1, qa2, qa3⟩ := hin.tab (xs.getD i n0).a.toNat (by omega)
                        obtain ⟨ra1, ra2⟩ := qa3 p (by omega)
                        have ra3 : ((ts.getD (xs.getD i n0).a.toNat o20).rs.getD p ob0).vs.length = (ws.length + 1) := by rw [ra2, tabK_len]
                        -- region 32: ref.go:64
                        refine CT.region ?_
                        refine Wl.q rfl rfl (OpQ.move rfl) ?_
                        refine Wl.q rfl rfl (OpQ.fieldAddr ZA_fa72_2 rfl) ?_
                        refine Wl.q rfl rfl (OpQ.loadF (b := b8) ZA_sc3 rfl (by repeat (first | exact Has.here | apply Has.there)) (by rfl)) ?_
                        refine Wl.q rfl rfl (OpQ.index1 ZA_un113 ZA_sz96 rfl rfl (by omega) rfl) ?_
                        refine Wl.q rfl rfl (OpQ.loadRow ZA_sc96 rfl (.there (.there (.there (.there (.there .here))))) (set_other2 (by omega) (by rw [hin.len]; omega))) ?_
                        refine Wl.q rfl rfl (OpQ.move rfl) ?_
                        refine Wl.q rfl rfl (OpQ.index1 ZA_un96 ZA_sz95 rfl rfl (by rw [qa2]; omega) qa1) ?_
                        refine Wl.q rfl rfl (OpQ.loadG ZA_sc95 rfl (fun w hH => (hH.fragp (.there (.there (.there (.there .here)))) _ (getD_mem (show (xs.getD i n0).a.toNat < ts.length by rw [hin.len]; omega))).1) (getMap obv (ts.getD (xs.getD i n0).a.toNat o20).rs ob0 (j := p) (by omega))) ?_
                        refine Wl.q rfl rfl (OpQ.move rfl) ?_
                        refine Wl.q rfl rfl (OpQ.index1 ZA_un95 ZA_sz4 rfl rfl (by rw [ra3]; omega) ra1) ?_
                        refine Wl.q rfl rfl (OpQ.loadG ZA_sc4 rfl (fun w hH => (hH.fragp (.there (.there (.there (.there .here)))) _ (getD_mem (show (xs.getD i n0).a.toNat < ts.length by rw [hin.len]; omega))).2 _ (getD_mem (show p < (ts.getD (xs.getD i n0).a.toNat o20).rs.length by omega))) (getMap bo ((ts.getD (xs.getD i n0).a.toNat o20).rs.getD p ob0).vs false (j := k) (by rw [ra3]; omega))) ?_
                        refine Wl.know 183 (v' := .bool (mem xs ws (xs.getD i n0).a.toNat p k)) rfl (congrArg Value.bool (by rw [ra2]; exact tabR_get (by omega) (by omega))) ?_
                        refine Wl.q rfl rfl (OpQ.not rfl) ?_
                        refine Wl.q rfl rfl (OpQ.assign rfl) ?_
                        refine Wl.nil ?_
                        refine PX.block_n ?_
                        exact PX.cut hK3 (!(mem xs ws (xs.getD i n0).a.toNat p k)) (by rw [hmm, ms8 h171]) ⟨rfl, rfl, rfl, rfl, rfl, rfl, rfl, rfl, rfl, rfl, rfl, rfl, rfl, (lkV rfl rfl), trivial⟩ (HSub.refl _)
                      · -- if t171: else
                        have h171 := of_decide_eq_false h171
                        refine CT.skip ?_
                        refine PX.block_n ?_
                        exact PX.cut hK3 (false) (by rw [hmm, ms1 ho h60 h65 h81 h83 h109 h135 h171]) ⟨rfl, rfl, rfl, rfl, rfl, rfl, rfl, rfl, rfl, rfl, rfl, rfl, rfl, (lkV rfl rfl), trivial⟩ (HSub.refl _)
        · -- from the join on
          -- region 33: ref.go:66
          refine CT.region ?_
          refine Wl.q rfl rfl (OpQ.move rfl) ?_
          refine Wl.q rfl rfl (OpQ.move rfl) ?_
          refine Wl.q rfl rfl (OpQ.index1 ZA_un113 ZA_sz96 rfl rfl (by omega) rfl) ?_
          refine Wl.q rfl rfl (OpQ.loadRow ZA_sc96 rfl (.there (.there (.there (.there (.there .here))))) (set_same (by rw [List.length_map, htl]; omega))) ?_
          refine Wl.q rfl rfl (OpQ.move rfl) ?_
          refine Wl.q rfl rfl (OpQ.index1 ZA_un96 ZA_sz95 rfl rfl (by omega) rfl) ?_
          refine Wl.q rfl rfl (OpQ.loadRow ZA_sc95 rfl (.there (.there .here)) (set_same (by rw [List.length_map, hrl]; omega))) ?_
          refine Wl.q rfl rfl (OpQ.move rfl) ?_
          refine Wl.q rfl rfl (OpQ.move rfl) ?_
          refine Wl.q rfl rfl (OpQ.index1 ZA_un95 ZA_sz4 rfl rfl (by omega) rfl) ?_
          refine Wl.g rfl rfl (OpG.storeRow ZA_sz4 rfl rfl rfl .here (by rw [List.length_map, tabK_len]; show k < _; omega)) ?_
          rintro _ _
          refine Wl.nil ?_
          refine PX.block_n ?_
          refine PX.then_n ?_
          -- region 13: ref.go:46
          refine CT.region ?_
          refine Wl.q rfl rfl (OpQ.move rfl) ?_
          refine Wl.q rfl rfl (OpQ.add rfl rfl (by omega)) ?_
          refine Wl.q rfl rfl (OpQ.assign rfl) ?_
          refine Wl.nil ?_
          exact PX.loop hK2 (k + 1) ⟨by omega, by omega⟩ (by first | omega | (dsimp only; omega)) ⟨rfl, rfl, rfl, rfl, rfl, rfl, rfl, rfl, rfl, rfl, rfl, rfl, rfl, trivial⟩ (.keep (row_eq (tabK_put (by omega) hb).symm) (HSub.refl _))
      · -- if t55: else
        have h55 := of_decide_eq_false h55
        refine CT.exit ?_
        refine PX.then_x ?_
        refine PX.then_x ?_
        refine PX.block_x ?_
        refine PX.block_n ?_
        refine PX.then_n ?_
        -- region 34: ref.go:44
        refine CT.region ?_
        refine Wl.q rfl rfl (OpQ.add rfl rfl (by omega)) ?_
        refine Wl.q rfl rfl (OpQ.move rfl) ?_
        refine Wl.nil ?_
        obtain rfl : k = (ws.length + 1) := by omega
        refine PX.as (fun _ h => h.bind (L := [.frag cs (obs rs), .row 4 1 (.slice (some ⟨b50, 0, none⟩) (ws.length + 1) (ws.length + 1)) (ws.length + 1) ((tabR xs ws i p).map bo)]) (p := obs (rs.set p ⟨some ⟨b50, 0, none⟩, (ws.length + 1), tabR xs ws i p⟩)) (.cons (.there .here) (.cons .here .nil)) (fun w hk => obs_set (o := ⟨some ⟨b50, 0, none⟩, (ws.length + 1), tabR xs ws i p⟩) ((hk _ List.mem_cons_self).2 w (fun _ _ => rfl)) (Rd.of_owns (hk _ (List.mem_cons_of_mem _ List.mem_cons_self))) p)) ?_
        exact PX.loop hK1 (p + 1, rs.set p ⟨some ⟨b50, 0, none⟩, (ws.length + 1), tabR xs ws i p⟩, _) ⟨by omega, hrs.put (by omega)⟩ (show (ws.length + 1) - (p + 1) < (ws.length + 1) - p by omega) ⟨rfl, rfl, rfl, rfl, rfl, rfl, rfl, rfl, rfl, rfl, rfl, trivial⟩ (.keep rfl (.keep (row_eq (by rw [List.map_set, obv_tab])) (HSub.refl _)))
    · -- if t41: else
      have h41 := of_decide_eq_false h41
      refine CT.exit ?_
      refine PX.then_x ?_
      refine PX.then_x ?_
      refine PX.block_x ?_
      refine PX.block_n ?_
      refine PX.then_n ?_
      -- region 35: ref.go:42
      refine CT.region ?_
      refine Wl.q rfl rfl (OpQ.add rfl rfl (by omega)) ?_
      refine Wl.q rfl rfl (OpQ.move rfl) ?_
      refine Wl.nil ?_
      obtain rfl : p = (ws.length + 1) := by omega
      refine PX.as (fun _ h => h.bind (L := [.frag bs (obs2 ts), .frag cs (obs rs), .row 95 1 (.slice (some ⟨b33, 0, none⟩) (ws.length + 1) (ws.length + 1)) (ws.length + 1) (rs.map obv)]) (p := obs2 (ts.set i ⟨some ⟨b33, 0, none⟩, (ws.length + 1), rs⟩)) (.cons (.there (.there (.there .here))) (.cons .here (.cons .here .nil))) (fun w hk => obs2_set (o := ⟨some ⟨b33, 0, none⟩, (ws.length + 1), rs⟩) ((hk _ List.mem_cons_self).2 w (fun _ _ => rfl)) (Rd.of_owns (hk _ (List.mem_cons_of_mem _ (List.mem_cons_of_mem _ List.mem_cons_self)))) ((hk _ (List.mem_cons_of_mem _ List.mem_cons_self)).2 w (fun _ _ => rfl)) i)) ?_
      refine PX.as (fun _ h => h.take (.cons .here (.cons (.there .here) (.cons (.there .here) .nil)))) ?_
      exact PX.loop hK0 (i + 1, ts.set i ⟨some ⟨b33, 0, none⟩, (ws.length + 1), rs⟩, _) ⟨by omega, hin.put (by omega) hrs⟩ (show xs.length - (i + 1) < xs.length - i by omega) ⟨rfl, rfl, rfl, rfl, rfl, rfl, rfl, trivial⟩ (.keep rfl (.keep (row_eq (by rw [List.map_set, ov2_of hrs.len])) (.keep rfl .nil)))
  · -- if t25: else
    have h25 := of_decide_eq_false h25
    refine CT.exit ?_
    refine PX.then_x ?_
    refine PX.then_x ?_
    refine PX.block_x ?_
    refine PX.then_n ?_
    refine CT.seq ?_
    -- region 36: ref.go:70
    refine CT.region ?_
    refine Wl.q rfl rfl (OpQ.fieldAddr ZA_fa40_0 rfl) ?_
    refine Wl.q rfl rfl (OpQ.loadF (b := b2) ZA_sc38 rfl (by repeat (first | exact Has.here | apply Has.there)) (by rfl)) ?_
    refine Wl.q rfl rfl (OpQ.len ZA_un38 rfl) ?_
    refine Wl.g rfl rfl (OpG.make1 ZA_un95 ZA_in4 rfl rfl rfl rfl (by omega) (by omega)) ?_
    rintro b200 _
    refine Wl.q rfl rfl (OpQ.assign rfl) ?_
    refine Wl.nil ?_
    refine PX.then_n ?_
    refine CT.seq ?_
    refine CT.seq ?_
    -- region 37: ref.go:71
    refine CT.region ?_
    refine Wl.q rfl rfl (OpQ.move rfl) ?_
    refine Wl.q rfl rfl (OpQ.len ZA_un95 rfl) ?_
    refine Wl.q rfl rfl (OpQ.move rfl) ?_
    refine Wl.nil ?_
    refine PX.then_n ?_
    refine CT.block ?_
    -- the loop at region 38
    obtain rfl : i = xs.length := by omega
    have htl := hin.len
    refine CT.loop (ι := Nat) (fun j => j ≤ xs.length) (fun j => [(5, .int .i64 (ws.length : Int)), (6, .slice (some ⟨b20, 0, none⟩) xs.length xs.length), (13, .slice (some ⟨b200, 0, none⟩) xs.length xs.length), (202, .int .i64 (xs.length : Int)), (203, .int .i64 (j : Int))]) (fun j => [.row 4 1 (.slice (some ⟨b200, 0, none⟩) xs.length xs.length) xs.length ((((List.range xs.length).map fun q => decide (q < j) && mem xs ws q 0 ws.length)).map bo), .frag bs (obs2 ts), .row 96 1 (.slice (some ⟨b20, 0, none⟩) xs.length xs.length) xs.length (ts.map ov2)]) (fun j => xs.length - j) 0 (Nat.zero_le _) ⟨rfl, rfl, rfl, rfl, rfl, trivial⟩ (.keep (row_eq (rep_false _ _)) (.keep rfl (.keep rfl (.drop .nil)))) (fun j hj K5 hK5 => ?_)
    refine CT.seq ?_
    -- region 38: ref.go:71
    refine CT.region ?_
    refine Wl.q rfl rfl (OpQ.lss rfl rfl) ?_
    refine Wl.nil ?_
    refine PX.then_n ?_
    refine CT.seq ?_
    refine CT.cond rfl (fun h204 => ?_) (fun h204 => ?_)
    · -- if t204: then
      have h204 := of_decide_eq_true h204
      obtain ⟨q1, q2, q3⟩ := hin.tab j (by omega)
      obtain ⟨q4, q5⟩ := q3 0 (by omega)
      have q6 : ((ts.getD j o20).rs.getD 0 ob0).vs.length = (ws.length + 1) := by rw [q5, tabK_len]
      refine CT.skip ?_
      refine PX.then_n ?_
      refine CT.seq ?_
      refine CT.block ?_
      refine CT.seq ?_
      -- region 39: ref.go:71
      refine CT.region ?_
      refine Wl.q rfl rfl (OpQ.move rfl) ?_
      refine Wl.q rfl rfl (OpQ.assign rfl) ?_
      refine Wl.nil ?_
      refine PX.then_n ?_
      -- region 40: ref.go:72
      refine CT.region ?_
      refine Wl.q rfl rfl (OpQ.move rfl) ?_
      refine Wl.q rfl rfl (OpQ.move rfl) ?_
      refine Wl.q rfl rfl (OpQ.move rfl) ?_
      refine Wl.q rfl rfl (OpQ.move rfl) ?_
      refine Wl.q rfl rfl (OpQ.index1 ZA_un113 ZA_sz96 rfl rfl (by omega) rfl) ?_
      refine Wl.q rfl rfl (OpQ.loadRow ZA_sc96 rfl (.there (.there .here)) (getMap ov2 ts o20 (j := j) (by omega))) ?_
      refine Wl.q rfl rfl (OpQ.index1 ZA_un96 ZA_sz95 rfl rfl (by rw [q2]; omega) q1) ?_
      refine Wl.q rfl rfl (OpQ.loadG ZA_sc95 rfl (fun w hH => (hH.fragp (.there .here) _ (getD_mem (show j < ts.length by omega))).1) (getMap obv (ts.getD j o20).rs ob0 (j := 0) (by omega))) ?_
      refine Wl.q rfl rfl (OpQ.move rfl) ?_
      refine Wl.q rfl rfl (OpQ.index1 ZA_un95 ZA_sz4 rfl rfl (by rw [q6]; omega) q4) ?_
      refine Wl.q rfl rfl (OpQ.loadG ZA_sc4 rfl (fun w hH => (hH.fragp (.there .here) _ (getD_mem (show j < ts.length by omega))).2 _ (getD_mem (show 0 < (ts.getD j o20).rs.length by omega))) (getMap bo ((ts.getD j o20).rs.getD 0 ob0).vs false (j := ws.length) (by rw [q6]; omega))) ?_
      refine Wl.know 216 (v' := .bool (mem xs ws j 0 ws.length)) rfl (congrArg Value.bool (by rw [q5]; exact tabR_get (Nat.zero_le _) (by omega))) ?_
      refine Wl.q rfl rfl (OpQ.index1 ZA_un95 ZA_sz4 rfl rfl (by omega) rfl) ?_
      refine Wl.g rfl rfl (OpG.storeRow ZA_sz4 rfl rfl rfl .here (by rw [List.length_map, List.length_map, List.length_range]; show j < _; omega)) ?_
      rintro _ _
      refine Wl.nil ?_
      refine PX.block_n ?_
      refine PX.then_n ?_
      -- region 41: ref.go:71
      refine CT.region ?_
      refine Wl.q rfl rfl (OpQ.add rfl rfl (by omega)) ?_
      refine Wl.q rfl rfl (OpQ.move rfl) ?_
      refine Wl.nil ?_
      exact PX.loop hK5 (j + 1) (by omega) (by first | omega | (dsimp only; omega)) ⟨rfl, rfl, rfl, rfl, rfl, trivial⟩ (.keep (row_eq (put_false rfl).symm) (HSub.refl _))
    · -- if t204: else
      have h204 := of_decide_eq_false h204
      refine CT.exit ?_
      refine PX.then_x ?_
      refine PX.then_x ?_
      refine PX.block_x ?_
      refine PX.then_n ?_
      refine CT.seq ?_
      -- region 42: ref.go:74
      refine CT.region ?_
      refine Wl.q rfl rfl (OpQ.move rfl) ?_
      refine Wl.q rfl rfl (OpQ.assign rfl) ?_
      refine Wl.nil ?_
      refine PX.then_n ?_
      refine CT.ret ?_
      refine PX.ret1 rfl rfl (fun w' hH => ?_)
      obtain rfl : j = xs.length := by omega
      exact ⟨(some ⟨b200, 0, none⟩, _), fun _ => rfl, rfl, (hH.post.sub (.keep (row_eq (congrArg (List.map bo) (List.map_congr_left fun q hq => by rw [decide_eq_true (List.mem_range.1 hq)]; rfl))) (.drop (.drop .nil))))⟩

end Go.Proofs.Ytdcjemjfliaaiaa
