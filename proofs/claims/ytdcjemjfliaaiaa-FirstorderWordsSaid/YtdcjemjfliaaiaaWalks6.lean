/-
  What functions of the packages firstorder, semigroupref38 and semigroupmade compute, each by its walk. Conditions: those that each theorem names.
-/
import Derived.Test.YtdcjemjfliaaiaaMod
import Derived.Test.YtdcjemjfliaaiaaWalks5
set_option linter.unusedSimpArgs false
namespace Go.Proofs.Ytdcjemjfliaaiaa
open Go Go.Eng Go.Fo
open Go.Tp (zi)
open Go.Tl (vf mayL Wd okW okB ret_b ret_i bo)

theorem J_un59 : Try.prog.underlying 59 = some (.slice 64) := by kernel_rfl
theorem J_in64 : (Try.prog.info? 64).map (fun i => (i.zero, i.size, i.bytes)) = some (some (.agg #[.bool false, .bool false, .bool false, .int .i64 0, .int .i64 0, .slice none 0 0]), 6, 48) := by kernel_rfl
theorem J_un26 : Try.prog.underlying 26 = some (.slice 29) := by kernel_rfl
theorem J_sz29 : sizeB Try.prog 29 = some 6 := by kernel_rfl
theorem J_sz64 : sizeB Try.prog 64 = some 6 := by kernel_rfl
theorem J_sz62 : sizeB Try.prog 62 = some 1 := by kernel_rfl
theorem J_go29 : isGo Try.prog 29 = true := by kernel_rfl
theorem J_go30 : isGo Try.prog 30 = true := by kernel_rfl
theorem J_un9 : Try.prog.underlying 9 = some .string := by kernel_rfl
theorem J_go31 : isGo Try.prog 31 = true := by kernel_rfl
theorem J_ag29 : isAggB Try.prog 29 = some true := by kernel_rfl
theorem J_in29 : (Try.prog.info? 29).map (fun i => (i.zero, i.size, i.bytes)) = some (some (.agg #[.int .i64 0, .int .i64 0, .int .i64 0, .int .i64 0, .int .i64 0, .int .i64 0]), 6, 48) := by kernel_rfl
theorem J_un22 : Try.prog.underlying 22 = some (.slice 3) := by kernel_rfl
theorem J_sz3 : sizeB Try.prog 3 = some 1 := by kernel_rfl
theorem J_sc3 : scalarB Try.prog 3 = some true := by kernel_rfl
theorem J_go32 : isGo Try.prog 32 = true := by kernel_rfl
theorem J_fa29_0 : fieldB Try.prog 29 0 = some 0 := by kernel_rfl
theorem J_go33 : isGo Try.prog 33 = true := by kernel_rfl
theorem J_in67 : (Try.prog.info? 67).map (fun i => (i.zero, i.size, i.bytes)) = some (some (.agg #[.bool false, .bool false, .bool false, .bool false, .bool false, .bool false]), 6, 6) := by kernel_rfl
theorem J_sz67 : sizeB Try.prog 67 = some 6 := by kernel_rfl
theorem J_fa67_3 : fieldB Try.prog 67 3 = some 3 := by kernel_rfl
theorem J_sc4 : scalarB Try.prog 4 = some true := by kernel_rfl
theorem J_fa29_4 : fieldB Try.prog 29 4 = some 4 := by kernel_rfl
theorem J_fa64_2 : fieldB Try.prog 64 2 = some 5 := by kernel_rfl
theorem J_fa67_4 : fieldB Try.prog 67 4 = some 4 := by kernel_rfl
theorem J_fa29_5 : fieldB Try.prog 29 5 = some 5 := by kernel_rfl
theorem J_go34 : isGo Try.prog 34 = true := by kernel_rfl
set_option maxRecDepth 100000 in
/-- semigroup/firstorder.Holds -/
theorem holds_spec (w : World) (a : Option Addr) (cp : Nat) (xs : List Fm) (hr : Rd w a (xs.flatMap fv)) (hn : xs.length ≤ 9223372036854775807) (hcp : xs.length ≤ cp) (root : Int) (ws : Wd) (hw : ws.length ≤ 9223372036854775807) : Calls Try.prog 13 #[.slice a xs.length cp, .int .i64 (root), sv ws] w (fun e w' => e = .returned (.bool (holdsB xs root ws)) ∧ Ext [] w w') := by
  have sm : 0 < xs.length → a.isSome = true := fun h => hr.isSome (j := 0) (by rw [flat_len fv_len]; omega)
  refine enter (args := [.slice a xs.length cp, .int .i64 (root), sv ws]) [] 98 Try.func13 rfl rfl rfl ?_
  refine CT.seq ?_
  -- region 0: firstorder.go:69
  refine CT.region ?_
  refine Wl.q rfl rfl (OpQ.assign rfl) ?_
  refine Wl.nil ?_
  refine PX.then_n ?_
  refine CT.seq ?_
  refine CT.weak (E' := [(0, _), (1, _), (2, _)]) (by repeat (first | exact trivial | refine ⟨rfl, ?_⟩)) (HSub.refl _) ?_
  refine CT.cutB 25 (!(decide (vdF xs root 6 = 0) && (okW ws 6 && decide (ws.length ≤ 40)))) (fun K0 hK0 => ?_) ?_
  · -- up to the join
    -- region 1: firstorder.go:70
    refine CT.region ?_
    refine Wl.q rfl rfl (OpQ.move rfl) ?_
    refine Wl.q rfl rfl (OpQ.move rfl) ?_
    refine Wl.g rfl rfl (OpG.callV J_go29 rfl (fun w hH => validate_spec w a cp xs (hH.rd0 hr rfl) hn root 6)) ?_
    rintro _ _
    refine Wl.q rfl rfl (OpQ.neq rfl rfl) ?_
    refine Wl.q rfl rfl (OpQ.move rfl) ?_
    refine Wl.split 16 rfl (fun hg16 => ?_) (fun hg16 => ?_)
    · -- t16 = True
      refine Wl.skip rfl rfl ?_
      refine Wl.skip rfl rfl ?_
      refine Wl.skip rfl rfl ?_
      refine Wl.q rfl rfl (OpQ.pickT rfl rfl) ?_
      refine Wl.q rfl rfl (OpQ.move rfl) ?_
      refine Wl.skip rfl rfl ?_
      refine Wl.skip rfl rfl ?_
      refine Wl.skip rfl rfl ?_
      refine Wl.q rfl rfl (OpQ.pickT rfl rfl) ?_
      refine Wl.nil ?_
      exact PX.cutB hK0 ⟨lkV rfl (congrArg Value.bool (by first | exact gate3 hg16 hg21 | exact gate2 hg16 hg21 | exact gate1 hg16)), (by repeat (first | exact trivial | refine ⟨rfl, ?_⟩))⟩ (HSub.refl _)
    · -- t16 = False
      refine Wl.q rfl rfl (OpQ.move rfl) ?_
      refine Wl.g rfl rfl (OpG.callV J_go30 rfl (fun w hH => wvalid_spec w ws hw 6)) ?_
      rintro _ _
      refine Wl.q rfl rfl (OpQ.not rfl) ?_
      refine Wl.q rfl rfl (OpQ.pickF rfl rfl) ?_
      refine Wl.q rfl rfl (OpQ.move rfl) ?_
      refine Wl.split 21 rfl (fun hg21 => ?_) (fun hg21 => ?_)
      · -- t21 = True
        refine Wl.skip rfl rfl ?_
        refine Wl.skip rfl rfl ?_
        refine Wl.skip rfl rfl ?_
        refine Wl.q rfl rfl (OpQ.pickT rfl rfl) ?_
        refine Wl.nil ?_
        exact PX.cutB hK0 ⟨lkV rfl (congrArg Value.bool (by first | exact gate3 hg16 hg21 | exact gate2 hg16 hg21 | exact gate1 hg16)), (by repeat (first | exact trivial | refine ⟨rfl, ?_⟩))⟩ (HSub.refl _)
      · -- t21 = False
        refine Wl.q rfl rfl (OpQ.move rfl) ?_
        refine Wl.q rfl rfl (OpQ.lenSv J_un9 rfl) ?_
        refine Wl.q rfl rfl (OpQ.gtr rfl rfl) ?_
        refine Wl.q rfl rfl (OpQ.pickF rfl rfl) ?_
        refine Wl.nil ?_
        exact PX.cutB hK0 ⟨lkV rfl (congrArg Value.bool (by first | exact gate3 hg16 hg21 | exact gate2 hg16 hg21 | exact gate1 hg16)), (by repeat (first | exact trivial | refine ⟨rfl, ?_⟩))⟩ (HSub.refl _)
  · -- from the join on
    refine CT.cond rfl (fun h25 => ?_) (fun h25 => ?_)
    · -- if t25: then
      refine CT.seq ?_
      -- region 2: firstorder.go:71
      refine CT.region ?_
      refine Wl.q rfl rfl (OpQ.assign rfl) ?_
      refine Wl.nil ?_
      refine PX.then_n ?_
      refine CT.ret ?_
      refine PX.then_r ?_
      refine PX.ret1 rfl rfl (fun w' hH => ?_)
      exact ⟨ret_b (gate_no h25), hH.ext⟩
    · -- if t25: else
      have hv := gate_yes h25
      obtain ⟨hv, hwk, hwl⟩ := hv
      obtain ⟨hl, hok, hr0, hr1⟩ := vd_zero hv
      obtain ⟨rt, rfl⟩ := Int.eq_ofNat_of_zero_le hr0
      have hrt : rt < xs.length := by omega
      have hws : ws.length ≤ 62 := by omega
      refine CT.skip ?_
      refine PX.then_n ?_
      refine CT.seq ?_
      -- region 3: firstorder.go:73
      refine CT.region ?_
      refine Wl.q rfl rfl (OpQ.move rfl) ?_
      refine Wl.q rfl rfl (OpQ.move rfl) ?_
      refine Wl.g rfl rfl (OpG.callX J_go31 rfl .nil (fun _ => (.cons .nil)) (fun w hH hp => lastUsers_spec w a cp xs (hH.rd0 hr rfl) hl rt hrt hok)) ?_
      rintro ⟨us, ua, uc⟩ hlu
      dsimp only at hlu
      obtain ⟨hlu, hua⟩ := hlu
      have hul := hlu.len
      refine Wl.know 28 (v' := .slice ua (rt + 1) uc) rfl rfl ?_
      refine Wl.q rfl rfl (OpQ.assign rfl) ?_
      refine Wl.nil ?_
      refine PX.then_n ?_
      refine CT.seq ?_
      -- region 4: firstorder.go:74
      refine CT.region ?_
      refine Wl.q rfl rfl (OpQ.move rfl) ?_
      refine Wl.q rfl rfl (OpQ.add rfl rfl (by omega)) ?_
      refine Wl.g rfl rfl (OpG.makeN J_un59 J_in64 rfl rfl (by decide) rfl rfl (show (rt : Int) + 1 = ((rt + 1 : Nat) : Int) by omega) (by omega) (by omega)) ?_
      rintro b31 _
      refine Wl.q rfl rfl (OpQ.assign rfl) ?_
      refine Wl.nil ?_
      refine PX.then_n ?_
      refine CT.seq ?_
      refine CT.seq ?_
      -- region 5: firstorder.go:75
      refine CT.region ?_
      refine Wl.q rfl rfl (OpQ.move rfl) ?_
      refine Wl.q rfl rfl (OpQ.move rfl) ?_
      refine Wl.q rfl rfl (OpQ.add rfl rfl (by omega)) ?_
      refine Wl.q rfl rfl (OpQ.sliceToN J_un26 J_sz29 rfl rfl (show (rt : Int) + 1 = ((rt + 1 : Nat) : Int) by omega) (by omega)) ?_
      refine Wl.q rfl rfl (OpQ.len J_un26 rfl) ?_
      refine Wl.q rfl rfl (OpQ.move rfl) ?_
      refine Wl.nil ?_
      refine PX.then_n ?_
      refine CT.block ?_
      -- the loop at region 6
      refine CT.as (fun _ h => h.bind0 (p := tabs (List.replicate (rt + 1) tb0)) (tabs_rep _)) ?_
      refine CT.loop (ι := Nat × List Tb × List Nat) (fun (i, ts, bs) => i ≤ rt + 1 ∧ INV xs ws rt us i ts) (fun (i, ts, bs) => [(1, .int .i64 (rt : Int)), (2, sv ws), (7, .slice ua (rt + 1) uc), (8, .slice (some ⟨b31, 0, none⟩) (rt + 1) (rt + 1)), (35, .slice a (rt + 1) cp), (36, .int .i64 ((rt + 1 : Nat) : Int)), (37, .int .i64 (i : Int))]) (fun (i, ts, bs) => [.frag bs (tabs ts), .row 64 6 (.slice (some ⟨b31, 0, none⟩) (rt + 1) (rt + 1)) (rt + 1) ((ts).flatMap tbv), .row 3 1 (.slice ua (rt + 1) uc) (rt + 1) (us.map zi)]) (fun (i, ts, bs) => rt + 1 - i) (0, List.replicate (rt + 1) tb0, []) ⟨by omega, by simp, fun j hj => by omega⟩ ⟨rfl, rfl, rfl, rfl, rfl, rfl, rfl, trivial⟩ (.keep rfl (.keep (row_eq (rep_flat (f := tbv) (rt + 1) tb0).symm) (.keep rfl .nil))) (fun ⟨i, ts, bs⟩ ⟨hi, hinv⟩ K1 hK1 => ?_)
      dsimp only
      refine CT.seq ?_
      -- region 6: firstorder.go:75
      refine CT.region ?_
      refine Wl.q rfl rfl (OpQ.lss rfl rfl) ?_
      refine Wl.nil ?_
      refine PX.then_n ?_
      refine CT.seq ?_
      refine CT.cond rfl (fun h38 => ?_) (fun h38 => ?_)
      · -- if t38: then
        have h38 := of_decide_eq_true h38
        have hokk := okL_get hok (j := i) (by omega)
        obtain ⟨_, _, _, _, pa, pb⟩ := ok_parts hokk
        have htl := hinv.len
        refine CT.skip ?_
        refine PX.then_n ?_
        refine CT.seq ?_
        refine CT.block ?_
        refine CT.seq ?_
        -- region 7: firstorder.go:75
        refine CT.region ?_
        refine Wl.q rfl rfl (OpQ.move rfl) ?_
        refine Wl.q rfl rfl (OpQ.index J_un26 J_sz29 rfl rfl (by omega) (sm (by omega))) ?_
        refine Wl.q rfl rfl (OpQ.loadAggG (cs := fv (xs.getD i f0)) J_ag29 J_sz29 rfl (fun w hH => hH.rd0 hr rfl) (flat_cells fv_len xs f0 (by omega))) ?_
        refine Wl.g rfl rfl (OpG.alloc (zs := [.int .i64 0, .int .i64 0, .int .i64 0, .int .i64 0, .int .i64 0, .int .i64 0]) J_in29 rfl rfl) ?_
        rintro b10 _
        refine Wl.q rfl rfl (OpQ.assign rfl) ?_
        refine Wl.g rfl rfl (OpG.storeV (b := b10) J_sz29 rfl rfl rfl rfl (by repeat (first | exact Upd.here | apply Upd.there))) ?_
        rintro _ _
        refine Wl.nil ?_
        refine PX.then_n ?_
        refine CT.seq ?_
        refine CT.seq ?_
        -- region 8: firstorder.go:76
        refine CT.region ?_
        refine Wl.q rfl rfl (OpQ.move rfl) ?_
        refine Wl.q rfl rfl (OpQ.move rfl) ?_
        refine Wl.q rfl rfl (OpQ.index1 J_un22 J_sz3 rfl rfl (by omega) hua) ?_
        refine Wl.q rfl rfl (OpQ.loadRow J_sc3 rfl (.there (.there (.there .here))) (getMap zi us 0 (j := i) (by omega))) ?_
        refine Wl.q rfl rfl (OpQ.lss rfl rfl) ?_
        refine Wl.nil ?_
        refine PX.then_n ?_
        refine CT.cond rfl (fun h46 => ?_) (fun h46 => ?_)
        · -- if t46: then
          have h46 := of_decide_eq_true h46
          refine CT.exit ?_
          refine PX.then_x ?_
          refine PX.block_x ?_
          refine PX.then_n ?_
          -- region 15: firstorder.go:75
          refine CT.region ?_
          refine Wl.q rfl rfl (OpQ.add rfl rfl (by omega)) ?_
          refine Wl.q rfl rfl (OpQ.move rfl) ?_
          refine Wl.nil ?_
          refine PX.as (fun _ h => h.take (.cons (.there .here) (.cons (.there .here) (.cons (.there .here) .nil)))) ?_
          exact PX.loop hK1 (i + 1, ts, bs) ⟨by omega, INV_skip hinv h46⟩ (show rt + 1 - (i + 1) < rt + 1 - i by omega) ⟨rfl, rfl, rfl, rfl, rfl, rfl, rfl, trivial⟩ (HSub.refl _)
        · -- if t46: else
          have h46 := of_decide_eq_false h46
          refine CT.skip ?_
          refine PX.then_n ?_
          refine CT.seq ?_
          -- region 9: firstorder.go:79
          refine CT.region ?_
          refine Wl.q rfl rfl (OpQ.move rfl) ?_
          refine Wl.q rfl rfl (OpQ.move rfl) ?_
          refine Wl.q rfl rfl (OpQ.loadV (b := b10) J_ag29 J_sz29 rfl (by repeat (first | exact Has.here | apply Has.there)) (by rfl)) ?_
          refine Wl.q rfl rfl (OpQ.move rfl) ?_
          refine Wl.know 50 (v' := .slice (some ⟨b31, 0, none⟩) ts.length (rt + 1)) rfl (by rw [htl]) ?_
          refine Wl.q rfl rfl (OpQ.move rfl) ?_
          refine Wl.g rfl rfl (OpG.callX J_go32 rfl .nil (fun _ => (.cons .nil)) (fun w hH hp => evaluate_spec w (xs.getD i f0) (some ⟨b31, 0, none⟩) (rt + 1) ts (hH.rd (.there (.there .here))) ws hws hwk i 6 hokk (sat xs ws (xs.getD i f0).a.toNat) (sat xs ws (xs.getD i f0).b.toNat) (fun h => ⟨by have := pa h; have := hinv.len; omega, hinv.tab _ (by have := pa h; omega) (by have := (hlu.use i (by omega) (by omega) (by omega)).1 h; omega) (.inl ((hlu.use i (by omega) (by omega) (by omega)).1 h)), hH.fragp (.there .here) _ (getD_mem (by have := pa h; have := hinv.len; omega))⟩) (fun h => ⟨by have := pb h; have := hinv.len; omega, hinv.tab _ (by have := pb h; omega) (by have := (hlu.use i (by omega) (by omega) (by omega)).2 h; omega) (.inl ((hlu.use i (by omega) (by omega) (by omega)).2 h)), hH.fragp (.there .here) _ (getD_mem (by have := pb h; have := hinv.len; omega))⟩))) ?_
          rintro ⟨ea, ec⟩ _
          refine Wl.q rfl rfl (OpQ.index J_un59 J_sz64 rfl rfl (by omega) rfl) ?_
          refine Wl.g rfl rfl (OpG.storeAggRow (j := i * 6) (cs := tbv (evT (xs.getD i f0) ws (ts.getD (xs.getD i f0).a.toNat tb0) (ts.getD (xs.getD i f0).b.toNat tb0) ea ec)) J_sz64 rfl rfl rfl (by rw [flat_len tbv_len, htl]; show i * 6 + 6 ≤ (rt + 1) * 6; omega) (by show 0 < 6; decide) (by repeat (first | exact Upd.here | apply Upd.there))) ?_
          rintro _ _
          have hTok : TabOK (ws.length + 1) (sat xs ws i) (evT (xs.getD i f0) ws (ts.getD (xs.getD i f0).a.toNat tb0) (ts.getD (xs.getD i f0).b.toNat tb0) ea ec) := by
            rw [sat_eq hok (i := i) (by omega)]
            exact evT_ok hokk hws (fun h => hinv.tab _ (by have := pa h; omega) (by have := (hlu.use i (by omega) (by omega) (by omega)).1 h; omega) (.inl ((hlu.use i (by omega) (by omega) (by omega)).1 h))) (fun h => hinv.tab _ (by have := pb h; omega) (by have := (hlu.use i (by omega) (by omega) (by omega)).2 h; omega) (.inl ((hlu.use i (by omega) (by omega) (by omega)).2 h))) ea ec
          refine Wl.as (fun _ h => h.bind (L := [.frag bs (tabs ts), .row 69 1 (.slice ea (evT (xs.getD i f0) ws (ts.getD (xs.getD i f0).a.toNat tb0) (ts.getD (xs.getD i f0).b.toNat tb0) ea ec).rows.length ec) (evT (xs.getD i f0) ws (ts.getD (xs.getD i f0).a.toNat tb0) (ts.getD (xs.getD i f0).b.toNat tb0) ea ec).rows.length ((evT (xs.getD i f0) ws (ts.getD (xs.getD i f0).a.toNat tb0) (ts.getD (xs.getD i f0).b.toNat tb0) ea ec).rows.map u)]) (p := tabs (ts.set i (evT (xs.getD i f0) ws (ts.getD (xs.getD i f0).a.toNat tb0) (ts.getD (xs.getD i f0).b.toNat tb0) ea ec))) (.cons (.there (.there .here)) (.cons .here .nil)) (fun w hk => tabs_set (t := (evT (xs.getD i f0) ws (ts.getD (xs.getD i f0).a.toNat tb0) (ts.getD (xs.getD i f0).b.toNat tb0) ea ec)) ((hk _ List.mem_cons_self).2 w (fun _ _ => rfl)) (Rd.of_owns (hk _ (List.mem_cons_of_mem _ List.mem_cons_self))) i)) ?_
          refine Wl.mem (.keep rfl (.keep rfl (.keep (row_eq (flat_set tbv_len ts (by omega) (evT (xs.getD i f0) ws (ts.getD (xs.getD i f0).a.toNat tb0) (ts.getD (xs.getD i f0).b.toNat tb0) ea ec))) (.keep rfl .nil)))) ?_
          refine Wl.nil ?_
          refine PX.then_n ?_
          refine CT.seq ?_
          -- region 10: firstorder.go:80
          refine CT.region ?_
          refine Wl.q rfl rfl (OpQ.fieldAddr J_fa29_0 rfl) ?_
          refine Wl.q rfl rfl (OpQ.loadF (b := b10) J_sc3 rfl (by repeat (first | exact Has.here | apply Has.there)) (by rfl)) ?_
          refine Wl.g rfl rfl (OpG.callV J_go33 rfl (fun w hH => fieldsOf_spec w _)) ?_
          rintro _ _
          refine Wl.g rfl rfl (OpG.alloc (zs := [.bool false, .bool false, .bool false, .bool false, .bool false, .bool false]) J_in67 rfl rfl) ?_
          rintro b11 _
          refine Wl.g rfl rfl (OpG.storeV (b := b11) J_sz67 rfl rfl rfl rfl (by repeat (first | exact Upd.here | apply Upd.there))) ?_
          rintro _ _
          refine Wl.nil ?_
          refine PX.then_n ?_
          refine CT.cut (ι := List Tb × List Nat) (Φ := fun (ts2, bs2) => INV xs ws rt us (i + 1) ts2) (E' := fun (ts2, bs2) => [(1, .int .i64 (rt : Int)), (2, sv ws), (7, .slice ua (rt + 1) uc), (8, .slice (some ⟨b31, 0, none⟩) (rt + 1) (rt + 1)), (35, .slice a (rt + 1) cp), (36, .int .i64 ((rt + 1 : Nat) : Int)), (9, .int .i64 (i : Int)), (10, .pointer (some ⟨b10, 0, none⟩)), (11, .pointer (some ⟨b11, 0, none⟩)), (37, .int .i64 (i : Int))]) (H' := fun (ts2, bs2) => [.row 67 6 (vb b11) 1 [.bool (gx (xs.getD i f0).op), .bool (gy (xs.getD i f0).op), .bool (gl (xs.getD i f0).op), .bool (ga (xs.getD i f0).op), .bool (gb (xs.getD i f0).op), .bool (gk (xs.getD i f0).op)], .row 29 6 (vb b10) 1 (fv (xs.getD i f0)), .row 64 6 (.slice (some ⟨b31, 0, none⟩) (rt + 1) (rt + 1)) (rt + 1) ((ts2).flatMap tbv), .row 3 1 (.slice ua (rt + 1) uc) (rt + 1) (us.map zi), .frag bs2 (tabs ts2)]) (fun K2 hK2 => ?_) (fun ⟨ts2, bs2⟩ hinv2 => ?_)
          · -- up to the join
            refine CT.weak (E' := [(1, _), (2, _), (7, _), (8, _), (9, _), (10, _), (11, _), (35, _), (36, _), (37, _)]) (by repeat (first | exact trivial | refine ⟨rfl, ?_⟩)) (HSub.refl _) ?_
            refine CT.cutB 67 (ga (xs.getD i f0).op && decide (us.getD (xs.getD i f0).a.toNat 0 = (i : Int))) (fun K3 hK3 => ?_) ?_
            · -- up to the join
              -- region 11: firstorder.go:81
              refine CT.region ?_
              refine Wl.q rfl rfl (OpQ.fieldAddr J_fa67_3 rfl) ?_
              refine Wl.q rfl rfl (OpQ.loadF (b := b11) J_sc4 rfl (by repeat (first | exact Has.here | apply Has.there)) (by rfl)) ?_
              refine Wl.q rfl rfl (OpQ.move rfl) ?_
              refine Wl.split 59 rfl (fun hg59 => ?_) (fun hg59 => ?_)
              · -- t59 = True
                have hpa := pa hg59
                refine Wl.q rfl rfl (OpQ.move rfl) ?_
                refine Wl.q rfl rfl (OpQ.fieldAddr J_fa29_4 rfl) ?_
                refine Wl.q rfl rfl (OpQ.loadF (b := b10) J_sc3 rfl (by repeat (first | exact Has.here | apply Has.there)) (by rfl)) ?_
                refine Wl.q rfl rfl (OpQ.index1 J_un22 J_sz3 rfl rfl ⟨hpa.1, by omega⟩ hua) ?_
                refine Wl.q rfl rfl (OpQ.loadRow J_sc3 rfl (.there (.there (.there (.there .here)))) (getMap zi us 0 (j := (xs.getD i f0).a.toNat) (by omega))) ?_
                refine Wl.q rfl rfl (OpQ.move rfl) ?_
                refine Wl.q rfl rfl (OpQ.eql rfl rfl) ?_
                refine Wl.q rfl rfl (OpQ.pickT rfl rfl) ?_
                refine Wl.nil ?_
                exact PX.cutB hK3 ⟨lkV rfl (congrArg Value.bool (by first | (simp [-List.getD_eq_getElem?_getD, hg59]; done) | (simp [-List.getD_eq_getElem?_getD, hg59]; omega) | (simp [-List.getD_eq_getElem?_getD, ]; done) | (simp [-List.getD_eq_getElem?_getD, ]; omega))), (by repeat (first | exact trivial | refine ⟨rfl, ?_⟩))⟩ (HSub.refl _)
              · -- t59 = False
                refine Wl.skip rfl rfl ?_
                refine Wl.skip rfl rfl ?_
                refine Wl.skip rfl rfl ?_
                refine Wl.skip rfl rfl ?_
                refine Wl.skip rfl rfl ?_
                refine Wl.skip rfl rfl ?_
                refine Wl.skip rfl rfl ?_
                refine Wl.q rfl rfl (OpQ.pickF rfl rfl) ?_
                refine Wl.nil ?_
                exact PX.cutB hK3 ⟨lkV rfl (congrArg Value.bool (by first | (simp [-List.getD_eq_getElem?_getD, hg59]; done) | (simp [-List.getD_eq_getElem?_getD, hg59]; omega) | (simp [-List.getD_eq_getElem?_getD, ]; done) | (simp [-List.getD_eq_getElem?_getD, ]; omega))), (by repeat (first | exact trivial | refine ⟨rfl, ?_⟩))⟩ (HSub.refl _)
            · -- from the join on
              refine CT.cond rfl (fun h67 => ?_) (fun h67 => ?_)
              · -- if t67: then
                have h67 : ga (xs.getD i f0).op = true ∧ us.getD (xs.getD i f0).a.toNat 0 = (i : Int) := by simpa [-List.getD_eq_getElem?_getD] using h67
                have hpa := pa h67.1
                -- region 12: firstorder.go:82
                refine CT.region ?_
                refine Wl.q rfl rfl (OpQ.move rfl) ?_
                refine Wl.q rfl rfl (OpQ.fieldAddr J_fa29_4 rfl) ?_
                refine Wl.q rfl rfl (OpQ.loadF (b := b10) J_sc3 rfl (by repeat (first | exact Has.here | apply Has.there)) (by rfl)) ?_
                refine Wl.q rfl rfl (OpQ.index J_un59 J_sz64 rfl rfl ⟨hpa.1, by omega⟩ rfl) ?_
                refine Wl.q rfl rfl (OpQ.fieldAddr J_fa64_2 rfl) ?_
                refine Wl.g rfl rfl (OpG.storeRowF (i := (xs.getD i f0).a.toNat * 6) (j := 5) J_sz62 rfl rfl rfl (by repeat (first | exact Upd.here | apply Upd.there)) (by rw [flat_len tbv_len, List.length_set]; omega)) ?_
                rintro _ _
                refine Wl.nil ?_
                refine PX.as (fun _ h => h.bind (L := [.frag _ (tabs (ts.set i (evT (xs.getD i f0) ws (ts.getD (xs.getD i f0).a.toNat tb0) (ts.getD (xs.getD i f0).b.toNat tb0) ea ec)))]) (p := tabs ((ts.set i (evT (xs.getD i f0) ws (ts.getD (xs.getD i f0).a.toNat tb0) (ts.getD (xs.getD i f0).b.toNat tb0) ea ec)).set (xs.getD i f0).a.toNat (tnil ((ts.set i (evT (xs.getD i f0) ws (ts.getD (xs.getD i f0).a.toNat tb0) (ts.getD (xs.getD i f0).b.toNat tb0) ea ec)).getD (xs.getD i f0).a.toNat tb0)))) (.cons (.there .here) .nil) (fun w hk => tabs_nil ((hk _ List.mem_cons_self).2 w (fun _ _ => rfl)) _)) ?_
                refine PX.as (fun _ h => h.take (.cons (.there .here) (.cons (.there .here) (.cons (.there .here) (.cons (.there .here) (.cons .here .nil)))))) ?_
                exact PX.cut hK2 (((ts.set i (evT (xs.getD i f0) ws (ts.getD (xs.getD i f0).a.toNat tb0) (ts.getD (xs.getD i f0).b.toNat tb0) ea ec)).set (xs.getD i f0).a.toNat (tnil ((ts.set i (evT (xs.getD i f0) ws (ts.getD (xs.getD i f0).a.toNat tb0) (ts.getD (xs.getD i f0).b.toNat tb0) ea ec)).getD (xs.getD i f0).a.toNat tb0))), _) (INV_nil (INV_put hinv (by omega) hTok) (by omega) (by omega) h67.2) ⟨rfl, rfl, rfl, rfl, rfl, rfl, rfl, rfl, rfl, rfl, trivial⟩ (.keep rfl (.keep rfl (.keep (row_eq (flat_nil (by rw [List.length_set]; omega)).symm) (.keep rfl (.keep rfl .nil)))))
              · -- if t67: else
                refine CT.skip ?_
                refine PX.as (fun _ h => h.take (.cons .here (.cons (.there .here) (.cons (.there .here) (.cons (.there .here) (.cons .here .nil)))))) ?_
                exact PX.cut hK2 (ts.set i (evT (xs.getD i f0) ws (ts.getD (xs.getD i f0).a.toNat tb0) (ts.getD (xs.getD i f0).b.toNat tb0) ea ec), _) (INV_put hinv (by omega) hTok) ⟨rfl, rfl, rfl, rfl, rfl, rfl, rfl, rfl, rfl, rfl, trivial⟩ (.keep rfl (.keep rfl (.keep rfl (.keep rfl (.keep rfl .nil)))))
          · -- from the join on
            dsimp only
            dsimp only at hinv2
            have htl2 := hinv2.len
            refine CT.weak (E' := [(1, _), (2, _), (7, _), (8, _), (9, _), (10, _), (11, _), (35, _), (36, _), (37, _)]) (by repeat (first | exact trivial | refine ⟨rfl, ?_⟩)) (HSub.refl _) ?_
            refine CT.cutB 83 (gb (xs.getD i f0).op && decide (us.getD (xs.getD i f0).b.toNat 0 = (i : Int))) (fun K4 hK4 => ?_) ?_
            · -- up to the join
              -- region 13: firstorder.go:84
              refine CT.region ?_
              refine Wl.q rfl rfl (OpQ.fieldAddr J_fa67_4 rfl) ?_
              refine Wl.q rfl rfl (OpQ.loadF (b := b11) J_sc4 rfl (by repeat (first | exact Has.here | apply Has.there)) (by rfl)) ?_
              refine Wl.q rfl rfl (OpQ.move rfl) ?_
              refine Wl.split 75 rfl (fun hg75 => ?_) (fun hg75 => ?_)
              · -- t75 = True
                have hpb := pb hg75
                refine Wl.q rfl rfl (OpQ.move rfl) ?_
                refine Wl.q rfl rfl (OpQ.fieldAddr J_fa29_5 rfl) ?_
                refine Wl.q rfl rfl (OpQ.loadF (b := b10) J_sc3 rfl (by repeat (first | exact Has.here | apply Has.there)) (by rfl)) ?_
                refine Wl.q rfl rfl (OpQ.index1 J_un22 J_sz3 rfl rfl ⟨hpb.1, by omega⟩ hua) ?_
                refine Wl.q rfl rfl (OpQ.loadRow J_sc3 rfl (.there (.there (.there .here))) (getMap zi us 0 (j := (xs.getD i f0).b.toNat) (by omega))) ?_
                refine Wl.q rfl rfl (OpQ.move rfl) ?_
                refine Wl.q rfl rfl (OpQ.eql rfl rfl) ?_
                refine Wl.q rfl rfl (OpQ.pickT rfl rfl) ?_
                refine Wl.nil ?_
                exact PX.cutB hK4 ⟨lkV rfl (congrArg Value.bool (by first | (simp [-List.getD_eq_getElem?_getD, hg75]; done) | (simp [-List.getD_eq_getElem?_getD, hg75]; omega) | (simp [-List.getD_eq_getElem?_getD, ]; done) | (simp [-List.getD_eq_getElem?_getD, ]; omega))), (by repeat (first | exact trivial | refine ⟨rfl, ?_⟩))⟩ (HSub.refl _)
              · -- t75 = False
                refine Wl.skip rfl rfl ?_
                refine Wl.skip rfl rfl ?_
                refine Wl.skip rfl rfl ?_
                refine Wl.skip rfl rfl ?_
                refine Wl.skip rfl rfl ?_
                refine Wl.skip rfl rfl ?_
                refine Wl.skip rfl rfl ?_
                refine Wl.q rfl rfl (OpQ.pickF rfl rfl) ?_
                refine Wl.nil ?_
                exact PX.cutB hK4 ⟨lkV rfl (congrArg Value.bool (by first | (simp [-List.getD_eq_getElem?_getD, hg75]; done) | (simp [-List.getD_eq_getElem?_getD, hg75]; omega) | (simp [-List.getD_eq_getElem?_getD, ]; done) | (simp [-List.getD_eq_getElem?_getD, ]; omega))), (by repeat (first | exact trivial | refine ⟨rfl, ?_⟩))⟩ (HSub.refl _)
            · -- from the join on
              refine CT.cond rfl (fun h83 => ?_) (fun h83 => ?_)
              · -- if t83: then
                have h83 : gb (xs.getD i f0).op = true ∧ us.getD (xs.getD i f0).b.toNat 0 = (i : Int) := by simpa [-List.getD_eq_getElem?_getD] using h83
                have hpb := pb h83.1
                -- region 14: firstorder.go:85
                refine CT.region ?_
                refine Wl.q rfl rfl (OpQ.move rfl) ?_
                refine Wl.q rfl rfl (OpQ.fieldAddr J_fa29_5 rfl) ?_
                refine Wl.q rfl rfl (OpQ.loadF (b := b10) J_sc3 rfl (by repeat (first | exact Has.here | apply Has.there)) (by rfl)) ?_
                refine Wl.q rfl rfl (OpQ.index J_un59 J_sz64 rfl rfl ⟨hpb.1, by omega⟩ rfl) ?_
                refine Wl.q rfl rfl (OpQ.fieldAddr J_fa64_2 rfl) ?_
                refine Wl.g rfl rfl (OpG.storeRowF (i := (xs.getD i f0).b.toNat * 6) (j := 5) J_sz62 rfl rfl rfl (by repeat (first | exact Upd.here | apply Upd.there)) (by rw [flat_len tbv_len]; omega)) ?_
                rintro _ _
                refine Wl.nil ?_
                refine PX.block_n ?_
                refine PX.then_n ?_
                -- region 15: firstorder.go:75
                refine CT.region ?_
                refine Wl.q rfl rfl (OpQ.add rfl rfl (by omega)) ?_
                refine Wl.q rfl rfl (OpQ.move rfl) ?_
                refine Wl.nil ?_
                refine PX.as (fun _ h => h.bind (L := [.frag bs2 (tabs ts2)]) (p := tabs (ts2.set (xs.getD i f0).b.toNat (tnil (ts2.getD (xs.getD i f0).b.toNat tb0)))) (.cons (.there (.there (.there (.there .here)))) .nil) (fun w hk => tabs_nil ((hk _ List.mem_cons_self).2 w (fun _ _ => rfl)) _)) ?_
                refine PX.as (fun _ h => h.take (.cons .here (.cons (.there (.there .here)) (.cons (.there (.there .here)) .nil)))) ?_
                exact PX.loop hK1 (i + 1, (ts2.set (xs.getD i f0).b.toNat (tnil (ts2.getD (xs.getD i f0).b.toNat tb0))), _) ⟨by omega, INV_nil hinv2 (by have := pb h83.1; omega) (by omega) (by rw [h83.2])⟩ (show rt + 1 - (i + 1) < rt + 1 - i by omega) ⟨rfl, rfl, rfl, rfl, rfl, rfl, rfl, trivial⟩ (.keep rfl (.keep (row_eq (flat_nil (by have := hinv2.len; have := pb h83.1; omega)).symm) (.keep rfl .nil)))
              · -- if t83: else
                refine CT.skip ?_
                refine PX.block_n ?_
                refine PX.then_n ?_
                -- region 15: firstorder.go:75
                refine CT.region ?_
                refine Wl.q rfl rfl (OpQ.add rfl rfl (by omega)) ?_
                refine Wl.q rfl rfl (OpQ.move rfl) ?_
                refine Wl.nil ?_
                refine PX.as (fun _ h => h.take (.cons (.there (.there (.there (.there .here)))) (.cons (.there (.there .here)) (.cons (.there (.there .here)) .nil)))) ?_
                exact PX.loop hK1 (i + 1, ts2, bs2) ⟨by omega, hinv2⟩ (show rt + 1 - (i + 1) < rt + 1 - i by omega) ⟨rfl, rfl, rfl, rfl, rfl, rfl, rfl, trivial⟩ (HSub.refl _)
      · -- if t38: else
        have h38 := of_decide_eq_false h38
        refine CT.exit ?_
        refine PX.then_x ?_
        refine PX.then_x ?_
        refine PX.block_x ?_
        refine PX.then_n ?_
        refine CT.seq ?_
        -- region 16: firstorder.go:88
        refine CT.region ?_
        refine Wl.q rfl rfl (OpQ.move rfl) ?_
        refine Wl.q rfl rfl (OpQ.move rfl) ?_
        obtain rfl : i = rt + 1 := by omega
        have htr := hinv.tab rt (by omega) (by rw [hlu.top]; omega) (.inr rfl)
        refine Wl.q rfl rfl (OpQ.index J_un59 J_sz64 rfl rfl (by omega) rfl) ?_
        refine Wl.q rfl rfl (OpQ.move rfl) ?_
        refine Wl.q rfl rfl (OpQ.lenSv J_un9 rfl) ?_
        refine Wl.g rfl rfl (OpG.callV J_go34 rfl (fun w hH => row_spec w _ (ts.getD rt tb0) ((hH.rd (.there .here)).at (flat_cells tbv_len ts tb0 (by have := hinv.len; omega))) (hH.fragp .here _ (getD_mem (by have := hinv.len; omega))) 0 ws.length (by omega) (by omega) ⟨by have := htr.s0; omega, by have := htr.s1; omega⟩ (htr.inn 0 ws.length (by omega) (by omega)))) ?_
        rintro _ _
        refine Wl.q rfl rfl (OpQ.uand (q := 1#64) rfl rfl) ?_
        refine Wl.q rfl rfl (OpQ.ueql (q := 1#64) rfl rfl) ?_
        refine Wl.q rfl rfl (OpQ.assign rfl) ?_
        refine Wl.nil ?_
        refine PX.then_n ?_
        refine CT.ret ?_
        refine PX.ret1 rfl rfl (fun w' hH => ?_)
        exact ⟨ret_b (by rw [tab_bit htr (by omega) (by omega) (by omega), holdsB, hv, hwk]; simp [hwl]), hH.ext⟩

end Go.Proofs.Ytdcjemjfliaaiaa
