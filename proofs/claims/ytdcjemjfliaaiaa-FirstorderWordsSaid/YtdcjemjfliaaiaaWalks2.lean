/-
  What functions of the packages firstorder, semigroupref38 and semigroupmade compute, each by its walk. Conditions: those that each theorem names.
-/
import Derived.Test.YtdcjemjfliaaiaaMod
import Derived.Test.YtdcjemjfliaaiaaWalks
set_option linter.unusedSimpArgs false
namespace Go.Proofs.Ytdcjemjfliaaiaa
open Go Go.Eng Go.Fo
open Go.Tp (zi)
open Go.Tl (vf mayL Wd okW okB ret_b ret_i bo)

theorem B_sc62 : scalarB Try.prog 62 = some true := by kernel_rfl
theorem B_sc3 : scalarB Try.prog 3 = some true := by kernel_rfl
theorem B_mixed : Try.prog.follows .mixedOrders = true := by kernel_rfl
theorem B_fa64_2 : fieldB Try.prog 64 2 = some 5 := by kernel_rfl
theorem B_fa64_1 : fieldB Try.prog 64 1 = some 3 := by kernel_rfl
theorem B_un61 : Try.prog.underlying 61 = some (.array 2 3) := by kernel_rfl
theorem B_sz3 : sizeB Try.prog 3 = some 1 := by kernel_rfl
theorem B_un62 : Try.prog.underlying 62 = some (.slice 69) := by kernel_rfl
theorem B_sz69 : sizeB Try.prog 69 = some 1 := by kernel_rfl
theorem B_sc69 : scalarB Try.prog 69 = some true := by kernel_rfl
set_option maxRecDepth 100000 in
/-- (*semigroup/firstorder.table).row -/
theorem row_spec (w : World) (q : Addr) (t : Tb) (hq : Rd w (some q) (tbv t)) (hrows : Rd w t.a (t.rows.map u)) (x y : Nat) (hx : x ≤ 1000) (hy : y ≤ 1000) (hs : t.s0 ≤ 1000 ∧ t.s1 ≤ 1000) (hin : x * t.s0 + y * t.s1 < t.rows.length) : Calls Try.prog 34 #[.pointer (some q), .int .i64 (x : Int), .int .i64 (y : Int)] w (fun e w' => e = .returned (u (t.at x y)) ∧ Ext [] w w') := by
  have h0 : x * t.s0 ≤ 1000 * 1000 := Nat.mul_le_mul hx hs.1
  have h1 : y * t.s1 ≤ 1000 * 1000 := Nat.mul_le_mul hy hs.2
  refine enter (args := [.pointer (some q), .int .i64 (x : Int), .int .i64 (y : Int)]) [] 28 Try.func34 rfl rfl rfl ?_
  refine CT.seq ?_
  -- region 0: table.go:12
  refine CT.region ?_
  refine Wl.q rfl rfl (OpQ.assign rfl) ?_
  refine Wl.nil ?_
  refine PX.then_n ?_
  refine CT.seq ?_
  -- region 1, drawn: table.go:13
  refine CT.draw 22 B_mixed ?_
  refine RA.q 0 (by kernel_rfl) rfl rfl rfl (.refl _) (OpQ.move rfl) ?_
  refine RA.q 1 (by kernel_rfl) rfl rfl rfl (.refl _) (OpQ.nilCheckP rfl) ?_
  refine RA.q 2 (by kernel_rfl) rfl rfl rfl (.refl _) (OpQ.fieldAddr B_fa64_2 rfl) ?_
  refine RA.q 3 (by kernel_rfl) rfl rfl rfl (.refl _) (OpQ.loadG (a := some q) (j := 5) B_sc62 rfl (fun w hH => hH.rd0 hq rfl) rfl) ?_
  refine RA.q 4 (by kernel_rfl) rfl rfl rfl (.refl _) (OpQ.move rfl) ?_
  refine RA.q 5 (by kernel_rfl) rfl rfl rfl (.refl _) (OpQ.move rfl) ?_
  refine RA.q 6 (by kernel_rfl) rfl rfl rfl (.refl _) (OpQ.nilCheckP rfl) ?_
  refine RA.q 7 (by kernel_rfl) rfl rfl rfl (.refl _) (OpQ.fieldAddr B_fa64_1 rfl) ?_
  refine RA.q 8 (by kernel_rfl) rfl rfl rfl (.refl _) (OpQ.indexArr1 B_un61 B_sz3 rfl rfl (by omega)) ?_
  refine RA.q 9 (by kernel_rfl) rfl rfl rfl (.refl _) (OpQ.loadGF (a := some q) (i := 3) (j := 0) B_sc3 rfl (fun w hH => hH.rd0 hq rfl) rfl) ?_
  refine RA.q 10 (by kernel_rfl) rfl rfl rfl (.refl _) (OpQ.mul rfl rfl (by omega)) ?_
  refine RA.q 11 (by kernel_rfl) rfl rfl rfl (.refl _) (OpQ.move rfl) ?_
  refine RA.q 12 (by kernel_rfl) rfl rfl rfl (.refl _) (OpQ.move rfl) ?_
  refine RA.q 13 (by kernel_rfl) rfl rfl rfl (.refl _) (OpQ.nilCheckP rfl) ?_
  refine RA.q 14 (by kernel_rfl) rfl rfl rfl (.refl _) (OpQ.fieldAddr B_fa64_1 rfl) ?_
  refine RA.q 15 (by kernel_rfl) rfl rfl rfl (.refl _) (OpQ.indexArr1 B_un61 B_sz3 rfl rfl (by omega)) ?_
  refine RA.q 16 (by kernel_rfl) rfl rfl rfl (.refl _) (OpQ.loadGF (a := some q) (i := 3) (j := 1) B_sc3 rfl (fun w hH => hH.rd0 hq rfl) rfl) ?_
  refine RA.q 17 (by kernel_rfl) rfl rfl rfl (.refl _) (OpQ.mul rfl rfl (by omega)) ?_
  refine RA.q 18 (by kernel_rfl) rfl rfl rfl (.refl _) (OpQ.add rfl rfl (by omega)) ?_
  refine RA.know 25 (v' := .int .i64 ((x * t.s0 + y * t.s1 : Nat) : Int)) rfl (congrArg (Value.int .i64) (by push_cast; rfl)) ?_
  refine RA.q 19 (by kernel_rfl) rfl rfl rfl (.refl _) (OpQ.index1 B_un62 B_sz69 rfl rfl (by omega) (hrows.isSome (j := 0) (by rw [List.length_map]; omega))) ?_
  refine RA.q 20 (by kernel_rfl) rfl rfl rfl (.refl _) (OpQ.loadG B_sc69 rfl (fun w hH => hH.rd0 hrows rfl) (getMap u t.rows 0#64 hin)) ?_
  refine RA.q 21 (by kernel_rfl) rfl rfl rfl (.refl _) (OpQ.assign rfl) ?_
  refine RA.tail ?_
  refine RT.done (by kernel_rfl) ?_
  refine PX.then_n ?_
  refine CT.ret ?_
  refine PX.ret1 rfl rfl (fun w' hH => ?_)
  exact ⟨rfl, hH.ext⟩

theorem B_fa29_0 : fieldB Try.prog 29 0 = some 0 := by kernel_rfl
theorem B_un9 : Try.prog.underlying 9 = some .string := by kernel_rfl
theorem B_un5 : Try.prog.underlying 5 = some (.int .u8) := by kernel_rfl
theorem B_un3 : Try.prog.underlying 3 = some (.int .i64) := by kernel_rfl
theorem B_fa29_3 : fieldB Try.prog 29 3 = some 3 := by kernel_rfl
set_option maxRecDepth 100000 in
/-- semigroup/firstorder.compares -/
theorem compares_spec (w : World) (f : Fm) (ws : Wd) (hws : ws.length ≤ 62) (hwk : okW ws 6 = true) (p q : Nat) (hp : p ≤ ws.length) (hq : q ≤ ws.length) : Calls Try.prog 65 #[.agg (fv f).toArray, .int .i64 (p : Int), .int .i64 (q : Int), sv ws] w (fun e w' => e = .returned (.bool (atom f ws p q)) ∧ Ext [] w w') := by
  refine enter (args := [.agg (fv f).toArray, .int .i64 (p : Int), .int .i64 (q : Int), sv ws]) [] 29 Try.func65 rfl rfl rfl ?_
  refine CT.seq ?_
  -- region 0: table.go:94
  refine CT.region ?_
  refine Wl.g rfl rfl (OpG.box (size := 6) rfl rfl rfl) ?_
  rintro b4 _
  refine Wl.q rfl rfl (OpQ.assign rfl) ?_
  refine Wl.nil ?_
  refine PX.then_n ?_
  refine CT.seq ?_
  refine CT.seq ?_
  -- region 1: table.go:95
  refine CT.region ?_
  refine Wl.q rfl rfl (OpQ.fieldAddr B_fa29_0 rfl) ?_
  refine Wl.q rfl rfl (OpQ.loadF (b := b4) B_sc3 rfl (by repeat (first | exact Has.here | apply Has.there)) (by rfl)) ?_
  refine Wl.q rfl rfl (OpQ.eql rfl rfl) ?_
  refine Wl.nil ?_
  refine PX.then_n ?_
  refine CT.cond rfl (fun h11 => ?_) (fun h11 => ?_)
  · -- if t11: then
    have h11 := of_decide_eq_true h11
    refine CT.seq ?_
    -- region 2, drawn: table.go:96
    refine CT.draw 15 B_mixed ?_
    refine RA.q 0 (by kernel_rfl) rfl rfl rfl (.refl _) (OpQ.move rfl) ?_
    refine RA.q 1 (by kernel_rfl) rfl rfl rfl (.refl _) (OpQ.move rfl) ?_
    refine RA.q 2 (by kernel_rfl) rfl rfl rfl (.refl _) (OpQ.add rfl rfl (by omega)) ?_
    refine RA.q 3 (by kernel_rfl) rfl rfl rfl (.refl _) (OpQ.eql rfl rfl) ?_
    refine RA.q 4 (by kernel_rfl) rfl rfl rfl (.refl _) (OpQ.move rfl) ?_
    refine RA.split 16 rfl (fun hg16 => ?_) (fun hg16 => ?_)
    · -- t16 = True
      have hg16 := of_decide_eq_true hg16
      have hu := Tl.okW_get hwk (j := p) (by omega)
      refine RA.q 5 (by kernel_rfl) rfl rfl rfl (.refl _) (OpQ.move rfl) ?_
      refine RA.q 6 (by kernel_rfl) rfl rfl rfl (.refl _) (OpQ.move rfl) ?_
      refine RA.q 7 (by kernel_rfl) rfl rfl rfl (.refl _) (OpQ.indexSvN B_un9 rfl rfl (by omega)) ?_
      refine RA.q 8 (by kernel_rfl) rfl rfl rfl (.refl _) (OpQ.sub8 rfl rfl (by omega)) ?_
      refine RA.q 9 (by kernel_rfl) rfl rfl rfl (.refl _) (OpQ.conv rfl (conv_u8_i64 B_un5 B_un3 _ (by omega))) ?_
      refine RA.q 10 (by kernel_rfl) rfl rfl rfl (.refl _) (OpQ.fieldAddr B_fa29_3 rfl) ?_
      refine RA.q 11 (by kernel_rfl) rfl rfl rfl (.refl _) (OpQ.loadF (b := b4) B_sc3 rfl (by repeat (first | exact Has.here | apply Has.there)) (by rfl)) ?_
      refine RA.q 12 (by kernel_rfl) rfl rfl rfl (.refl _) (OpQ.eql rfl rfl) ?_
      refine RA.q 13 (by kernel_rfl) rfl rfl rfl (.refl _) (OpQ.pickT rfl rfl) ?_
      refine RA.q 14 (by kernel_rfl) rfl rfl rfl (.refl _) (OpQ.assign rfl) ?_
      refine RA.tail ?_
      refine RT.done (by kernel_rfl) ?_
      refine PX.then_n ?_
      refine CT.ret ?_
      refine PX.then_r ?_
      refine PX.ret1 rfl rfl (fun w' hH => ?_)
      exact ⟨ret_b (by rw [atom, if_pos h11, decide_eq_true (show q = p + 1 by omega)]; rfl), hH.ext⟩
    · -- t16 = False
      have hg16 := of_decide_eq_false hg16
      refine RA.skip 5 (by kernel_rfl) rfl rfl rfl (.refl _) ?_
      refine RA.skip 6 (by kernel_rfl) rfl rfl rfl (.refl _) ?_
      refine RA.skip 7 (by kernel_rfl) rfl rfl rfl (.refl _) ?_
      refine RA.skip 8 (by kernel_rfl) rfl rfl rfl (.refl _) ?_
      refine RA.skip 9 (by kernel_rfl) rfl rfl rfl (.refl _) ?_
      refine RA.skip 10 (by kernel_rfl) rfl rfl rfl (.refl _) ?_
      refine RA.skip 11 (by kernel_rfl) rfl rfl rfl (.refl _) ?_
      refine RA.skip 12 (by kernel_rfl) rfl rfl rfl (.refl _) ?_
      refine RA.q 13 (by kernel_rfl) rfl rfl rfl (.refl _) (OpQ.pickF rfl rfl) ?_
      refine RA.q 14 (by kernel_rfl) rfl rfl rfl (.refl _) (OpQ.assign rfl) ?_
      refine RA.tail ?_
      refine RT.done (by kernel_rfl) ?_
      refine PX.then_n ?_
      refine CT.ret ?_
      refine PX.then_r ?_
      refine PX.ret1 rfl rfl (fun w' hH => ?_)
      exact ⟨ret_b (by rw [atom, if_pos h11, decide_eq_false (show ¬ q = p + 1 by omega)]; rfl), hH.ext⟩
  · -- if t11: else
    have h11 := of_decide_eq_false h11
    refine CT.skip ?_
    refine PX.then_n ?_
    refine CT.seq ?_
    -- region 3: table.go:98
    refine CT.region ?_
    refine Wl.q rfl rfl (OpQ.move rfl) ?_
    refine Wl.q rfl rfl (OpQ.move rfl) ?_
    refine Wl.q rfl rfl (OpQ.leq rfl rfl) ?_
    refine Wl.q rfl rfl (OpQ.assign rfl) ?_
    refine Wl.nil ?_
    refine PX.then_n ?_
    refine CT.ret ?_
    refine PX.ret1 rfl rfl (fun w' hH => ?_)
    exact ⟨ret_b (by rw [atom, if_neg h11, decide_eq_decide]; omega), hH.ext⟩

theorem B_un117 : Try.prog.underlying 117 = some (.array 3 3) := by kernel_rfl
theorem B_in117 : (Try.prog.info? 117).map (fun i => (i.zero, i.size, i.bytes)) = some (some (.agg #[.int .i64 0, .int .i64 0, .int .i64 0]), 3, 24) := by kernel_rfl
theorem B_sz117 : sizeB Try.prog 117 = some 3 := by kernel_rfl
theorem B_fa29_1 : fieldB Try.prog 29 1 = some 1 := by kernel_rfl
theorem B_fa29_2 : fieldB Try.prog 29 2 = some 2 := by kernel_rfl
theorem B_ag29 : isAggB Try.prog 29 = some true := by kernel_rfl
theorem B_sz29 : sizeB Try.prog 29 = some 6 := by kernel_rfl
theorem B_go65 : isGo Try.prog 65 = true := by kernel_rfl
set_option maxRecDepth 100000 in
/-- semigroup/firstorder.compare -/
theorem compare_spec (w : World) (f : Fm) (hfx : 0 ≤ f.x ∧ f.x < 3) (hfy : 0 ≤ f.y ∧ f.y < 3) (x y : Nat) (ws : Wd) (hws : ws.length ≤ 62) (hwk : okW ws 6 = true) (hx : x ≤ ws.length) (hy : y ≤ ws.length) : Calls Try.prog 52 #[.agg (fv f).toArray, .int .i64 (x : Int), .int .i64 (y : Int), sv ws] w (fun e w' => e = .returned (u (cmpRow f ws x y)) ∧ Ext [] w w') := by
  refine enter (args := [.agg (fv f).toArray, .int .i64 (x : Int), .int .i64 (y : Int), sv ws]) [] 65 Try.func52 rfl rfl rfl ?_
  refine CT.seq ?_
  -- region 0: table.go:75
  refine CT.region ?_
  refine Wl.g rfl rfl (OpG.box (size := 6) rfl rfl rfl) ?_
  rintro b4 _
  refine Wl.q rfl rfl (OpQ.assign rfl) ?_
  refine Wl.nil ?_
  refine PX.then_n ?_
  refine CT.seq ?_
  -- region 1: table.go:76
  refine CT.region ?_
  refine Wl.q rfl rfl (OpQ.assign rfl) ?_
  refine Wl.nil ?_
  refine PX.then_n ?_
  refine CT.seq ?_
  -- region 2: table.go:77
  refine CT.region ?_
  refine Wl.q rfl rfl (OpQ.move rfl) ?_
  refine Wl.q rfl rfl (OpQ.move rfl) ?_
  refine Wl.q rfl rfl (OpQ.buildArr (cells := #[.int .i64 (x : Int), .int .i64 (y : Int), .int .i64 0]) B_un117 B_sz3 B_in117 rfl rfl) ?_
  refine Wl.g rfl rfl (OpG.alloc (zs := [.int .i64 0, .int .i64 0, .int .i64 0]) B_in117 rfl rfl) ?_
  rintro b10 _
  refine Wl.g rfl rfl (OpG.storeV (b := b10) B_sz117 rfl rfl rfl rfl (by repeat (first | exact Upd.here | apply Upd.there))) ?_
  rintro _ _
  refine Wl.nil ?_
  refine PX.then_n ?_
  refine CT.seq ?_
  refine CT.weak (E' := [(3, _), (4, _), (9, _), (10, _)]) (by repeat (first | exact trivial | refine ⟨rfl, ?_⟩)) (HSub.refl _) ?_
  refine CT.cutB 22 (!decide (f.x = 2) && !decide (f.y = 2)) (fun K0 hK0 => ?_) ?_
  · -- up to the join
    -- region 3: table.go:78
    refine CT.region ?_
    refine Wl.q rfl rfl (OpQ.fieldAddr B_fa29_1 rfl) ?_
    refine Wl.q rfl rfl (OpQ.loadF (b := b4) B_sc3 rfl (by repeat (first | exact Has.here | apply Has.there)) (by rfl)) ?_
    refine Wl.q rfl rfl (OpQ.neq rfl rfl) ?_
    refine Wl.q rfl rfl (OpQ.move rfl) ?_
    refine Wl.split 18 rfl (fun hg18 => ?_) (fun hg18 => ?_)
    · -- t18 = True
      refine Wl.q rfl rfl (OpQ.fieldAddr B_fa29_2 rfl) ?_
      refine Wl.q rfl rfl (OpQ.loadF (b := b4) B_sc3 rfl (by repeat (first | exact Has.here | apply Has.there)) (by rfl)) ?_
      refine Wl.q rfl rfl (OpQ.neq rfl rfl) ?_
      refine Wl.q rfl rfl (OpQ.pickT rfl rfl) ?_
      refine Wl.nil ?_
      exact PX.cutB hK0 ⟨lkV rfl (congrArg Value.bool (by first | (simp [-List.getD_eq_getElem?_getD, hg18]; done) | (simp [-List.getD_eq_getElem?_getD, hg18]; omega) | (simp [-List.getD_eq_getElem?_getD, ]; done) | (simp [-List.getD_eq_getElem?_getD, ]; omega))), (by repeat (first | exact trivial | refine ⟨rfl, ?_⟩))⟩ (HSub.refl _)
    · -- t18 = False
      refine Wl.skip rfl rfl ?_
      refine Wl.skip rfl rfl ?_
      refine Wl.skip rfl rfl ?_
      refine Wl.q rfl rfl (OpQ.pickF rfl rfl) ?_
      refine Wl.nil ?_
      exact PX.cutB hK0 ⟨lkV rfl (congrArg Value.bool (by first | (simp [-List.getD_eq_getElem?_getD, hg18]; done) | (simp [-List.getD_eq_getElem?_getD, hg18]; omega) | (simp [-List.getD_eq_getElem?_getD, ]; done) | (simp [-List.getD_eq_getElem?_getD, ]; omega))), (by repeat (first | exact trivial | refine ⟨rfl, ?_⟩))⟩ (HSub.refl _)
  · -- from the join on
    refine CT.cond rfl (fun h22 => ?_) (fun h22 => ?_)
    · -- if t22: then
      have hne : f.x ≠ 2 ∧ f.y ≠ 2 := by simpa using h22
      refine CT.seq ?_
      refine CT.seq ?_
      -- region 4, drawn: table.go:79
      refine CT.draw 11 B_mixed ?_
      refine RA.q 0 (by kernel_rfl) rfl rfl rfl (.refl _) (OpQ.loadV (b := b4) B_ag29 B_sz29 rfl (by repeat (first | exact Has.here | apply Has.there)) (by rfl)) ?_
      refine RA.q 1 (by kernel_rfl) rfl rfl rfl (.refl _) (OpQ.fieldAddr B_fa29_1 rfl) ?_
      refine RA.q 2 (by kernel_rfl) rfl rfl rfl (.refl _) (OpQ.loadF (b := b4) B_sc3 rfl (by repeat (first | exact Has.here | apply Has.there)) (by rfl)) ?_
      refine RA.q 3 (by kernel_rfl) rfl rfl rfl (.refl _) (OpQ.indexArr1 B_un117 B_sz3 rfl rfl (by omega)) ?_
      refine RA.q 4 (by kernel_rfl) rfl rfl rfl (.refl _) (OpQ.loadF (b := b10) B_sc3 rfl (by repeat (first | exact Has.here | apply Has.there)) (g3 hfx)) ?_
      refine RA.q 5 (by kernel_rfl) rfl rfl rfl (.refl _) (OpQ.fieldAddr B_fa29_2 rfl) ?_
      refine RA.q 6 (by kernel_rfl) rfl rfl rfl (.refl _) (OpQ.loadF (b := b4) B_sc3 rfl (by repeat (first | exact Has.here | apply Has.there)) (by rfl)) ?_
      refine RA.q 7 (by kernel_rfl) rfl rfl rfl (.refl _) (OpQ.indexArr1 B_un117 B_sz3 rfl rfl (by omega)) ?_
      refine RA.q 8 (by kernel_rfl) rfl rfl rfl (.refl _) (OpQ.loadF (b := b10) B_sc3 rfl (by repeat (first | exact Has.here | apply Has.there)) (g3 hfy)) ?_
      refine RA.q 9 (by kernel_rfl) rfl rfl rfl (.refl _) (OpQ.move rfl) ?_
      refine RA.f 10 (by kernel_rfl) rfl rfl rfl (OpG.callV B_go65 rfl (fun w hH => compares_spec w f ws hws hwk (gv (x, y, 0) f.x) (gv (x, y, 0) f.y) (g3_le hfx (by omega) (by omega) (by omega)) (g3_le hfy (by omega) (by omega) (by omega)))) (fun _ _ => (.refl _)) ?_
      rintro _ _
      refine RA.tail ?_
      refine RT.done (by kernel_rfl) ?_
      refine PX.then_n ?_
      refine CT.cond rfl (fun h33 => ?_) (fun h33 => ?_)
      · -- if t33: then
        -- region 5: table.go:80
        refine CT.region ?_
        refine Wl.q rfl rfl (OpQ.move rfl) ?_
        refine Wl.q rfl rfl (OpQ.lenSv B_un9 rfl) ?_
        refine Wl.q rfl rfl (OpQ.add rfl rfl (by omega)) ?_
        refine Wl.know 36 (v' := .int .i64 ((ws.length + 1 : Nat) : Int)) rfl (congrArg (Value.int .i64) (by omega)) ?_
        refine Wl.q rfl rfl (OpQ.ushlN (p := 1#64) rfl rfl) ?_
        refine Wl.know 37 (v' := u (1#64 <<< (ws.length + 1))) rfl rfl ?_
        refine Wl.q rfl rfl (OpQ.usub (q := 1#64) rfl rfl) ?_
        refine Wl.q rfl rfl (OpQ.assign rfl) ?_
        refine Wl.nil ?_
        refine PX.then_n ?_
        refine CT.seq ?_
        -- region 6: table.go:82
        refine CT.region ?_
        refine Wl.q rfl rfl (OpQ.move rfl) ?_
        refine Wl.q rfl rfl (OpQ.assign rfl) ?_
        refine Wl.nil ?_
        refine PX.then_n ?_
        refine CT.ret ?_
        refine PX.then_r ?_
        refine PX.ret1 rfl rfl (fun w' hH => ?_)
        exact ⟨ret_u (cmp_all hws hfx hfy hne h33), hH.ext⟩
      · -- if t33: else
        refine CT.skip ?_
        refine PX.then_n ?_
        refine CT.seq ?_
        -- region 6: table.go:82
        refine CT.region ?_
        refine Wl.q rfl rfl (OpQ.move rfl) ?_
        refine Wl.q rfl rfl (OpQ.assign rfl) ?_
        refine Wl.nil ?_
        refine PX.then_n ?_
        refine CT.ret ?_
        refine PX.then_r ?_
        refine PX.ret1 rfl rfl (fun w' hH => ?_)
        exact ⟨ret_u (cmp_none hfx hfy hne h33), hH.ext⟩
    · -- if t22: else
      refine CT.skip ?_
      refine PX.then_n ?_
      refine CT.seq ?_
      refine CT.seq ?_
      -- region 7: table.go:84
      refine CT.region ?_
      refine Wl.q rfl rfl (OpQ.move rfl) ?_
      refine Wl.q rfl rfl (OpQ.lenSv B_un9 rfl) ?_
      refine Wl.q rfl rfl (OpQ.add rfl rfl (by omega)) ?_
      refine Wl.know 42 (v' := .int .i64 ((ws.length + 1 : Nat) : Int)) rfl (congrArg (Value.int .i64) (by omega)) ?_
      refine Wl.q rfl rfl (OpQ.move rfl) ?_
      refine Wl.nil ?_
      refine PX.then_n ?_
      refine CT.block ?_
      -- the loop at region 8
      refine CT.loop (ι := Nat × Nat) (fun (k, zp) => k ≤ ws.length + 1) (fun (k, zp) => [(3, sv ws), (4, .pointer (some ⟨b4, 0, none⟩)), (9, u (bitsTo (fun z => atom f ws (gv (x, y, z) f.x) (gv (x, y, z) f.y)) k)), (10, .pointer (some ⟨b10, 0, none⟩)), (42, .int .i64 ((ws.length + 1 : Nat) : Int)), (43, .int .i64 (k : Int))]) (fun (k, zp) => [.row 117 3 (vb b10) 1 [.int .i64 (x : Int), .int .i64 (y : Int), .int .i64 ((zp : Nat) : Int)], .row 29 6 (vb b4) 1 (fv f)]) (fun (k, zp) => ws.length + 1 - k) (0, 0) (Nat.zero_le _) ⟨rfl, rfl, rfl, rfl, rfl, rfl, trivial⟩ (HSub.refl _) (fun ⟨k, zp⟩ hk K1 hK1 => ?_)
      dsimp only
      refine CT.seq ?_
      -- region 8: table.go:84
      refine CT.region ?_
      refine Wl.q rfl rfl (OpQ.lss rfl rfl) ?_
      refine Wl.nil ?_
      refine PX.then_n ?_
      refine CT.seq ?_
      refine CT.cond rfl (fun h44 => ?_) (fun h44 => ?_)
      · -- if t44: then
        have h44 := of_decide_eq_true h44
        refine CT.skip ?_
        refine PX.then_n ?_
        refine CT.seq ?_
        refine CT.block ?_
        refine CT.seq ?_
        -- region 9: table.go:84
        refine CT.region ?_
        refine Wl.q rfl rfl (OpQ.move rfl) ?_
        refine Wl.q rfl rfl (OpQ.assign rfl) ?_
        refine Wl.nil ?_
        refine PX.then_n ?_
        refine CT.seq ?_
        -- region 10: table.go:85
        refine CT.region ?_
        refine Wl.q rfl rfl (OpQ.move rfl) ?_
        refine Wl.q rfl rfl (OpQ.indexArr1 B_un117 B_sz3 rfl rfl (by omega)) ?_
        refine Wl.g rfl rfl (OpG.storeRow (a := some ⟨b10, 0, none⟩) B_sz3 rfl rfl rfl (by repeat (first | exact Upd.here | apply Upd.there)) (by simp)) ?_
        rintro _ _
        refine Wl.nil ?_
        refine PX.then_n ?_
        refine CT.seq ?_
        -- region 11, drawn: table.go:86
        refine CT.draw 11 B_mixed ?_
        refine RA.q 0 (by kernel_rfl) rfl rfl rfl (.refl _) (OpQ.loadV (b := b4) B_ag29 B_sz29 rfl (by repeat (first | exact Has.here | apply Has.there)) (by rfl)) ?_
        refine RA.q 1 (by kernel_rfl) rfl rfl rfl (.refl _) (OpQ.fieldAddr B_fa29_1 rfl) ?_
        refine RA.q 2 (by kernel_rfl) rfl rfl rfl (.refl _) (OpQ.loadF (b := b4) B_sc3 rfl (by repeat (first | exact Has.here | apply Has.there)) (by rfl)) ?_
        refine RA.q 3 (by kernel_rfl) rfl rfl rfl (.refl _) (OpQ.indexArr1 B_un117 B_sz3 rfl rfl (by omega)) ?_
        refine RA.q 4 (by kernel_rfl) rfl rfl rfl (.refl _) (OpQ.loadF (b := b10) B_sc3 rfl (by repeat (first | exact Has.here | apply Has.there)) (g3 hfx)) ?_
        refine RA.q 5 (by kernel_rfl) rfl rfl rfl (.refl _) (OpQ.fieldAddr B_fa29_2 rfl) ?_
        refine RA.q 6 (by kernel_rfl) rfl rfl rfl (.refl _) (OpQ.loadF (b := b4) B_sc3 rfl (by repeat (first | exact Has.here | apply Has.there)) (by rfl)) ?_
        refine RA.q 7 (by kernel_rfl) rfl rfl rfl (.refl _) (OpQ.indexArr1 B_un117 B_sz3 rfl rfl (by omega)) ?_
        refine RA.q 8 (by kernel_rfl) rfl rfl rfl (.refl _) (OpQ.loadF (b := b10) B_sc3 rfl (by repeat (first | exact Has.here | apply Has.there)) (g3 hfy)) ?_
        refine RA.q 9 (by kernel_rfl) rfl rfl rfl (.refl _) (OpQ.move rfl) ?_
        refine RA.f 10 (by kernel_rfl) rfl rfl rfl (OpG.callV B_go65 rfl (fun w hH => compares_spec w f ws hws hwk (gv (x, y, k) f.x) (gv (x, y, k) f.y) (g3_le hfx (by omega) (by omega) (by omega)) (g3_le hfy (by omega) (by omega) (by omega)))) (fun _ _ => (.refl _)) ?_
        rintro _ _
        refine RA.tail ?_
        refine RT.done (by kernel_rfl) ?_
        refine PX.then_n ?_
        refine CT.cond rfl (fun h58 => ?_) (fun h58 => ?_)
        · -- if t58: then
          -- region 12: table.go:87
          refine CT.region ?_
          refine Wl.q rfl rfl (OpQ.move rfl) ?_
          refine Wl.q rfl rfl (OpQ.move rfl) ?_
          refine Wl.q rfl rfl (OpQ.ushlN (p := 1#64) rfl rfl) ?_
          refine Wl.q rfl rfl (OpQ.uor rfl rfl) ?_
          refine Wl.q rfl rfl (OpQ.assign rfl) ?_
          refine Wl.nil ?_
          refine PX.block_n ?_
          refine PX.then_n ?_
          -- region 13: table.go:84
          refine CT.region ?_
          refine Wl.q rfl rfl (OpQ.add rfl rfl (by omega)) ?_
          refine Wl.q rfl rfl (OpQ.move rfl) ?_
          refine Wl.nil ?_
          exact PX.loop hK1 (k + 1, k) (show k + 1 ≤ ws.length + 1 by omega) (show ws.length + 1 - (k + 1) < ws.length + 1 - k by omega) ⟨rfl, rfl, (lkV rfl (by rw [bitsTo, if_pos h58])), rfl, rfl, rfl, trivial⟩ (HSub.refl _)
        · -- if t58: else
          refine CT.skip ?_
          refine PX.block_n ?_
          refine PX.then_n ?_
          -- region 13: table.go:84
          refine CT.region ?_
          refine Wl.q rfl rfl (OpQ.add rfl rfl (by omega)) ?_
          refine Wl.q rfl rfl (OpQ.move rfl) ?_
          refine Wl.nil ?_
          exact PX.loop hK1 (k + 1, k) (show k + 1 ≤ ws.length + 1 by omega) (show ws.length + 1 - (k + 1) < ws.length + 1 - k by omega) ⟨rfl, rfl, (lkV rfl (by rw [bitsTo, if_neg (by rw [h58]; decide)])), rfl, rfl, rfl, trivial⟩ (HSub.refl _)
      · -- if t44: else
        have h44 := of_decide_eq_false h44
        refine CT.exit ?_
        refine PX.then_x ?_
        refine PX.then_x ?_
        refine PX.block_x ?_
        refine PX.then_n ?_
        refine CT.seq ?_
        -- region 14: table.go:90
        refine CT.region ?_
        refine Wl.q rfl rfl (OpQ.move rfl) ?_
        refine Wl.q rfl rfl (OpQ.assign rfl) ?_
        refine Wl.nil ?_
        refine PX.then_n ?_
        refine CT.ret ?_
        refine PX.ret1 rfl rfl (fun w' hH => ?_)
        obtain rfl : k = ws.length + 1 := by omega
        exact ⟨rfl, hH.ext⟩

theorem B_go34 : isGo Try.prog 34 = true := by kernel_rfl
set_option maxRecDepth 100000 in
/-- semigroup/firstorder.exists -/
theorem exists_spec (w : World) (v : Int) (q : Addr) (t : Tb) (hq : Rd w (some q) (tbv t)) (hrows : Rd w t.a (t.rows.map u)) (x y m : Nat) (hx : x < m) (hy : y < m) (hm : m ≤ 63) (hs : t.s0 ≤ 1000 ∧ t.s1 ≤ 1000) (hin : ∀ x y, x < m → y < m → x * t.s0 + y * t.s1 < t.rows.length) : Calls Try.prog 53 #[.int .i64 (v), .pointer (some q), .int .i64 (x : Int), .int .i64 (y : Int), .int .i64 (m : Int)] w (fun e w' => e = .returned (u (exRow v t x y m)) ∧ Ext [] w w') := by
  refine enter (args := [.int .i64 (v), .pointer (some q), .int .i64 (x : Int), .int .i64 (y : Int), .int .i64 (m : Int)]) [] 43 Try.func53 rfl rfl rfl ?_
  refine CT.seq ?_
  -- region 0: table.go:102
  refine CT.region ?_
  refine Wl.q rfl rfl (OpQ.assign rfl) ?_
  refine Wl.nil ?_
  refine PX.then_n ?_
  refine CT.seq ?_
  refine CT.seq ?_
  -- region 1: table.go:103
  refine CT.region ?_
  refine Wl.q rfl rfl (OpQ.move rfl) ?_
  refine Wl.q rfl rfl (OpQ.eql rfl rfl) ?_
  refine Wl.nil ?_
  refine PX.then_n ?_
  refine CT.cond rfl (fun h14 => ?_) (fun h14 => ?_)
  · -- if t14: then
    have h14 := of_decide_eq_true h14
    refine CT.seq ?_
    refine CT.seq ?_
    -- region 2: table.go:104
    refine CT.region ?_
    refine Wl.q rfl rfl (OpQ.move rfl) ?_
    refine Wl.q rfl rfl (OpQ.move rfl) ?_
    refine Wl.q rfl rfl (OpQ.move rfl) ?_
    refine Wl.g rfl rfl (OpG.callV B_go34 rfl (fun w hH => row_spec w q t (hq.ext_nil (hH.ext)) (hrows.ext_nil (hH.ext)) x y (by omega) (by omega) hs (hin _ _ (by omega) (by omega)))) ?_
    rintro _ _
    refine Wl.q rfl rfl (OpQ.uneq (q := 0#64) rfl rfl) ?_
    refine Wl.nil ?_
    refine PX.then_n ?_
    refine CT.cond rfl (fun h19 => ?_) (fun h19 => ?_)
    · -- if t19: then
      refine CT.seq ?_
      -- region 3: table.go:105
      refine CT.region ?_
      refine Wl.q rfl rfl (OpQ.move rfl) ?_
      refine Wl.q rfl rfl (OpQ.ushlN (p := 1#64) rfl rfl) ?_
      refine Wl.know 21 (v' := u (1#64 <<< m)) rfl rfl ?_
      refine Wl.q rfl rfl (OpQ.usub (q := 1#64) rfl rfl) ?_
      refine Wl.q rfl rfl (OpQ.assign rfl) ?_
      refine Wl.nil ?_
      refine PX.then_n ?_
      refine CT.ret ?_
      refine PX.then_r ?_
      refine PX.then_r ?_
      refine PX.ret1 rfl rfl (fun w' hH => ?_)
      exact ⟨ret_u (by rw [exRow, if_pos h14, if_neg (by simpa using h19)]), hH.ext⟩
    · -- if t19: else
      refine CT.skip ?_
      refine PX.then_n ?_
      refine CT.seq ?_
      -- region 4: table.go:107
      refine CT.region ?_
      refine Wl.q rfl rfl (OpQ.assign rfl) ?_
      refine Wl.nil ?_
      refine PX.then_n ?_
      refine CT.ret ?_
      refine PX.then_r ?_
      refine PX.ret1 rfl rfl (fun w' hH => ?_)
      exact ⟨ret_u (x := 0#64) (by rw [exRow, if_pos h14, if_pos (by simpa using h19)]), hH.ext⟩
  · -- if t14: else
    have h14 := of_decide_eq_false h14
    refine CT.skip ?_
    refine PX.then_n ?_
    refine CT.seq ?_
    -- region 5: table.go:109
    refine CT.region ?_
    refine Wl.q rfl rfl (OpQ.assign rfl) ?_
    refine Wl.nil ?_
    refine PX.then_n ?_
    refine CT.seq ?_
    refine CT.seq ?_
    -- region 6: table.go:110
    refine CT.region ?_
    refine Wl.q rfl rfl (OpQ.move rfl) ?_
    refine Wl.q rfl rfl (OpQ.move rfl) ?_
    refine Wl.nil ?_
    refine PX.then_n ?_
    refine CT.block ?_
    -- the loop at region 7
    refine CT.loop (ι := Nat) (fun k => k ≤ m) (fun k => [(0, .int .i64 (v)), (1, .pointer (some q)), (2, .int .i64 (x : Int)), (3, .int .i64 (y : Int)), (11, u (orTo (fun c => if v = 0 then t.at c y else t.at x c) k)), (23, .int .i64 (m : Int)), (24, .int .i64 (k : Int))]) (fun _ => []) (fun k => m - k) 0 (Nat.zero_le _) ⟨rfl, rfl, rfl, rfl, rfl, rfl, rfl, trivial⟩ (HSub.none _) (fun k hk K0 hK0 => ?_)
    refine CT.seq ?_
    -- region 7: table.go:110
    refine CT.region ?_
    refine Wl.q rfl rfl (OpQ.lss rfl rfl) ?_
    refine Wl.nil ?_
    refine PX.then_n ?_
    refine CT.seq ?_
    refine CT.cond rfl (fun h25 => ?_) (fun h25 => ?_)
    · -- if t25: then
      have h25 := of_decide_eq_true h25
      refine CT.skip ?_
      refine PX.then_n ?_
      refine CT.seq ?_
      refine CT.block ?_
      refine CT.seq ?_
      -- region 8: table.go:110
      refine CT.region ?_
      refine Wl.q rfl rfl (OpQ.move rfl) ?_
      refine Wl.q rfl rfl (OpQ.assign rfl) ?_
      refine Wl.nil ?_
      refine PX.then_n ?_
      refine CT.seq ?_
      -- region 9: table.go:111
      refine CT.region ?_
      refine Wl.q rfl rfl (OpQ.move rfl) ?_
      refine Wl.q rfl rfl (OpQ.eql rfl rfl) ?_
      refine Wl.nil ?_
      refine PX.then_n ?_
      refine CT.cond rfl (fun h28 => ?_) (fun h28 => ?_)
      · -- if t28: then
        have h28 := of_decide_eq_true h28
        -- region 10: table.go:112
        refine CT.region ?_
        refine Wl.q rfl rfl (OpQ.move rfl) ?_
        refine Wl.q rfl rfl (OpQ.move rfl) ?_
        refine Wl.q rfl rfl (OpQ.move rfl) ?_
        refine Wl.q rfl rfl (OpQ.move rfl) ?_
        refine Wl.g rfl rfl (OpG.callV B_go34 rfl (fun w hH => row_spec w q t (hq.ext_nil (hH.ext)) (hrows.ext_nil (hH.ext)) k y (by omega) (by omega) hs (hin _ _ (by omega) (by omega)))) ?_
        rintro _ _
        refine Wl.q rfl rfl (OpQ.uor rfl rfl) ?_
        refine Wl.q rfl rfl (OpQ.assign rfl) ?_
        refine Wl.nil ?_
        refine PX.block_n ?_
        refine PX.then_n ?_
        -- region 12: table.go:110
        refine CT.region ?_
        refine Wl.q rfl rfl (OpQ.add rfl rfl (by omega)) ?_
        refine Wl.q rfl rfl (OpQ.move rfl) ?_
        refine Wl.nil ?_
        exact PX.loop hK0 (k + 1) (by omega) (by first | omega | (dsimp only; omega)) ⟨rfl, rfl, rfl, rfl, (lkV rfl (by rw [orTo, if_pos h28])), rfl, rfl, trivial⟩ (HSub.none _)
      · -- if t28: else
        have h28 := of_decide_eq_false h28
        -- region 11: table.go:114
        refine CT.region ?_
        refine Wl.q rfl rfl (OpQ.move rfl) ?_
        refine Wl.q rfl rfl (OpQ.move rfl) ?_
        refine Wl.q rfl rfl (OpQ.move rfl) ?_
        refine Wl.q rfl rfl (OpQ.move rfl) ?_
        refine Wl.g rfl rfl (OpG.callV B_go34 rfl (fun w hH => row_spec w q t (hq.ext_nil (hH.ext)) (hrows.ext_nil (hH.ext)) x k (by omega) (by omega) hs (hin _ _ (by omega) (by omega)))) ?_
        rintro _ _
        refine Wl.q rfl rfl (OpQ.uor rfl rfl) ?_
        refine Wl.q rfl rfl (OpQ.assign rfl) ?_
        refine Wl.nil ?_
        refine PX.block_n ?_
        refine PX.then_n ?_
        -- region 12: table.go:110
        refine CT.region ?_
        refine Wl.q rfl rfl (OpQ.add rfl rfl (by omega)) ?_
        refine Wl.q rfl rfl (OpQ.move rfl) ?_
        refine Wl.nil ?_
        exact PX.loop hK0 (k + 1) (by omega) (by first | omega | (dsimp only; omega)) ⟨rfl, rfl, rfl, rfl, (lkV rfl (by rw [orTo, if_neg h28])), rfl, rfl, trivial⟩ (HSub.none _)
    · -- if t25: else
      have h25 := of_decide_eq_false h25
      refine CT.exit ?_
      refine PX.then_x ?_
      refine PX.then_x ?_
      refine PX.block_x ?_
      refine PX.then_n ?_
      refine CT.seq ?_
      -- region 13: table.go:117
      refine CT.region ?_
      refine Wl.q rfl rfl (OpQ.move rfl) ?_
      refine Wl.q rfl rfl (OpQ.assign rfl) ?_
      refine Wl.nil ?_
      refine PX.then_n ?_
      refine CT.ret ?_
      refine PX.ret1 rfl rfl (fun w' hH => ?_)
      obtain rfl : k = m := by omega
      exact ⟨ret_u (by rw [exRow, if_neg h14]), hH.ext⟩

end Go.Proofs.Ytdcjemjfliaaiaa
