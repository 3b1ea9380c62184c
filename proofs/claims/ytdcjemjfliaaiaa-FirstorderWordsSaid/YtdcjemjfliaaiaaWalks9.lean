/-
  What functions of the packages firstorder, semigroupref38 and semigroupmade compute, each by its walk. Conditions: those that each theorem names.
-/
import Derived.Test.YtdcjemjfliaaiaaMod
import Derived.Test.YtdcjemjfliaaiaaEng
import Derived.Test.YtdcjemjfliaaiaaWalks8
set_option linter.unusedSimpArgs false
namespace Go.Proofs.Ytdcjemjfliaaiaa
open Go Go.Eng Go.Fo Go.Sf
open Go.Tp (zi)
open Go.Tl (vf mayL Wd okW okB vf_t vf_f)
theorem mk29 : MapKey Try.prog 29 fk := MapKey.struct (n := 6) (by kernel_rfl) (fun x : Fm => [x.op, x.x, x.y, x.lt, x.a, x.b]) (fun _ => rfl) fk_inj

theorem TA_mixed : Try.prog.follows .mixedOrders = true := by kernel_rfl
theorem TA_fa77_1 : fieldB Try.prog 77 1 = some 1 := by kernel_rfl
theorem TA_sc75 : scalarB Try.prog 75 = some true := by kernel_rfl
theorem TA_ag29 : isAggB Try.prog 29 = some true := by kernel_rfl
theorem TA_sz29 : sizeB Try.prog 29 = some 6 := by kernel_rfl
theorem TA_un75 : Try.prog.underlying 75 = some (.map 29 3) := by kernel_rfl
theorem TA_in3 : (Try.prog.info? 3).map (fun i => (i.zero, i.size, i.bytes)) = some (some (.int .i64 0), 1, 8) := by kernel_rfl
theorem TA_fa77_0 : fieldB Try.prog 77 0 = some 0 := by kernel_rfl
theorem TA_sc26 : scalarB Try.prog 26 = some true := by kernel_rfl
theorem TA_un26 : Try.prog.underlying 26 = some (.slice 29) := by kernel_rfl
theorem TA_in29 : (Try.prog.info? 29).map (fun i => (i.zero, i.size, i.bytes)) = some (some (.agg #[.int .i64 0, .int .i64 0, .int .i64 0, .int .i64 0, .int .i64 0, .int .i64 0]), 6, 48) := by kernel_rfl
theorem TA_sz26 : sizeB Try.prog 26 = some 1 := by kernel_rfl
set_option maxRecDepth 100000 in
/-- (*semigroup/firstorder.shared[semigroup/api.Formula]).add -/
theorem add_spec (w : World) (b m : Nat) (nd ov : Value) (xs : List Fm) (a : Option Addr) (c : Nat) (hpre : Pre [.row 79 4 (vb b) 1 [nd, .slice a xs.length c, .map (some m), ov], .row 29 6 (.slice a xs.length c) xs.length (xs.flatMap fv), .blk m (mapO fk (itA 0 xs))] w) (hlen : xs.length ≤ 199990) (f : Fm) : Calls Try.prog 56 #[.pointer (some ((⟨b, 0, none⟩ : Addr).add 1)), .agg (fv f).toArray] w (fun e w' => ∃ i : Option Addr × Nat, True ∧ e = .returned (.int .i64 (((addF xs f).2 : Nat) : Int)) ∧ Post (blks [.row 79 4 (vb b) 1 [nd, .slice a xs.length c, .map (some m), ov], .row 29 6 (.slice a xs.length c) xs.length (xs.flatMap fv), .blk m (mapO fk (itA 0 xs))]) [.row 79 4 (vb b) 1 [nd, .slice i.1 (addF xs f).1.length i.2, .map (some m), ov], .row 29 6 (.slice i.1 (addF xs f).1.length i.2) (addF xs f).1.length ((addF xs f).1.flatMap fv), .blk m (mapO fk (itA 0 (addF xs f).1))] w w') := by
  refine enterX (args := [.pointer (some ((⟨b, 0, none⟩ : Addr).add 1)), .agg (fv f).toArray]) hpre 40 Try.func56 rfl rfl rfl ?_
  refine CT.seq ?_
  -- region 0: translate.go:21
  refine CT.region ?_
  refine Wl.g rfl rfl (OpG.box (size := 6) rfl rfl rfl) ?_
  rintro b3 _
  refine Wl.q rfl rfl (OpQ.assign rfl) ?_
  refine Wl.nil ?_
  refine PX.then_n ?_
  refine CT.seq ?_
  -- region 1, drawn: translate.go:22
  refine CT.draw 11 TA_mixed ?_
  refine RA.q 0 (by kernel_rfl) rfl rfl rfl (.refl _) (OpQ.move rfl) ?_
  refine RA.q 1 (by kernel_rfl) rfl rfl rfl (.refl _) (OpQ.nilCheckP rfl) ?_
  refine RA.q 2 (by kernel_rfl) rfl rfl rfl (.refl _) (OpQ.fieldAddr TA_fa77_1 rfl) ?_
  refine RA.know 10 rfl (add_ptr _ _ _) ?_
  refine RA.q 3 (by kernel_rfl) rfl rfl rfl (.refl _) (OpQ.loadF (b := b) TA_sc75 rfl (by repeat (first | exact Has.here | apply Has.there)) (by rfl)) ?_
  refine RA.q 4 (by kernel_rfl) rfl rfl rfl (.refl _) (OpQ.loadV (b := b3) TA_ag29 TA_sz29 rfl (by repeat (first | exact Has.here | apply Has.there)) (by rfl)) ?_
  refine RA.q 5 (by kernel_rfl) rfl rfl rfl (.refl _) (OpQ.lookup (f := fk) (x := f) (l := (itA 0 xs)) mk29 TA_un75 TA_in3 rfl rfl (by repeat (first | exact Has.here | apply Has.there)) (by rw [if_pos rfl, getA_itA, ix_val, ix_is])) ?_
  refine RA.q 6 (by kernel_rfl) rfl rfl rfl (.refl _) (OpQ.move rfl) ?_
  refine RA.q 7 (by kernel_rfl) rfl rfl rfl (.refl _) (OpQ.extract rfl rfl) ?_
  refine RA.q 8 (by kernel_rfl) rfl rfl rfl (.refl _) (OpQ.extract rfl rfl) ?_
  refine RA.q 9 (by kernel_rfl) rfl rfl rfl (.refl _) (OpQ.assign rfl) ?_
  refine RA.q 10 (by kernel_rfl) rfl rfl rfl (.refl _) (OpQ.assign rfl) ?_
  refine RA.tail ?_
  refine RT.done (by kernel_rfl) ?_
  refine PX.then_n ?_
  refine CT.seq ?_
  refine CT.seq ?_
  -- region 2: translate.go:23
  refine CT.region ?_
  refine Wl.q rfl rfl (OpQ.move rfl) ?_
  refine Wl.q rfl rfl (OpQ.not rfl) ?_
  refine Wl.nil ?_
  refine PX.then_n ?_
  refine CT.cond rfl (fun h17 => ?_) (fun h17 => ?_)
  · -- if t17: then
    have hix : (ixA f 0 xs) = none := by simpa using h17
    refine CT.seq ?_
    -- region 3: translate.go:24
    refine CT.region ?_
    refine Wl.q rfl rfl (OpQ.move rfl) ?_
    refine Wl.q rfl rfl (OpQ.nilCheckP rfl) ?_
    refine Wl.q rfl rfl (OpQ.fieldAddr TA_fa77_0 rfl) ?_
    refine Wl.know 20 rfl (add_ptr _ _ _) ?_
    refine Wl.q rfl rfl (OpQ.loadF (b := b) TA_sc26 rfl (by repeat (first | exact Has.here | apply Has.there)) (by rfl)) ?_
    refine Wl.q rfl rfl (OpQ.len TA_un26 rfl) ?_
    refine Wl.q rfl rfl (OpQ.assign rfl) ?_
    refine Wl.nil ?_
    refine PX.then_n ?_
    refine CT.seq ?_
    -- region 4, drawn: translate.go:25
    refine CT.draw 6 TA_mixed ?_
    refine RA.q 0 (by kernel_rfl) rfl rfl rfl (.refl _) (OpQ.move rfl) ?_
    refine RA.q 1 (by kernel_rfl) rfl rfl rfl (.refl _) (OpQ.nilCheckP rfl) ?_
    refine RA.q 2 (by kernel_rfl) rfl rfl rfl (.refl _) (OpQ.fieldAddr TA_fa77_1 rfl) ?_
    refine RA.know 25 rfl (add_ptr _ _ _) ?_
    refine RA.q 3 (by kernel_rfl) rfl rfl rfl (.refl _) (OpQ.loadF (b := b) TA_sc75 rfl (by repeat (first | exact Has.here | apply Has.there)) (by rfl)) ?_
    refine RA.q 4 (by kernel_rfl) rfl rfl rfl (.refl _) (OpQ.loadV (b := b3) TA_ag29 TA_sz29 rfl (by repeat (first | exact Has.here | apply Has.there)) (by rfl)) ?_
    refine RA.q 5 (by kernel_rfl) rfl rfl rfl (.refl _) (OpQ.move rfl) ?_
    refine RA.tail ?_
    refine RT.f 6 (by kernel_rfl) rfl rfl rfl (OpG.mapNew (f := fk) (x := f) (l := (itA 0 xs)) mk29 TA_un75 rfl rfl rfl (by rw [getA_itA, hix]; rfl) (by repeat (first | exact Upd.here | apply Upd.there))) ?_
    rintro _ _
    refine RT.done (by kernel_rfl) ?_
    refine PX.then_n ?_
    -- region 5, drawn: translate.go:26
    refine CT.draw' (Hc := [.row 29 6 (vb b3) 1 (fv f), .row 79 4 (vb b) 1 [nd, .slice a xs.length c, .map (some m), ov], .blk m (mapO fk (itA 0 xs ++ [(f, .int .i64 (xs.length : Int))]))]) 10 TA_mixed ?_
    refine RA.q 0 (by kernel_rfl) rfl rfl rfl (.cons_cons _ (.cons_cons _ (.cons _ (.cons_cons _ (.refl _))))) (OpQ.move rfl) ?_
    refine RA.q 1 (by kernel_rfl) rfl rfl rfl (.cons_cons _ (.cons_cons _ (.cons _ (.cons_cons _ (.refl _))))) (OpQ.move rfl) ?_
    refine RA.q 2 (by kernel_rfl) rfl rfl rfl (.cons_cons _ (.cons_cons _ (.cons _ (.cons_cons _ (.refl _))))) (OpQ.nilCheckP rfl) ?_
    refine RA.q 3 (by kernel_rfl) rfl rfl rfl (.cons_cons _ (.cons_cons _ (.cons _ (.cons_cons _ (.refl _))))) (OpQ.fieldAddr TA_fa77_0 rfl) ?_
    refine RA.know 32 rfl (add_ptr _ _ _) ?_
    refine RA.q 4 (by kernel_rfl) rfl rfl rfl (.cons_cons _ (.cons_cons _ (.cons _ (.cons_cons _ (.refl _))))) (OpQ.loadF (b := b) TA_sc26 rfl (by repeat (first | exact Has.here | apply Has.there)) (by rfl)) ?_
    refine RA.q 5 (by kernel_rfl) rfl rfl rfl (.cons_cons _ (.cons_cons _ (.cons _ (.cons_cons _ (.refl _))))) (OpQ.loadV (b := b3) TA_ag29 TA_sz29 rfl (by repeat (first | exact Has.here | apply Has.there)) (by rfl)) ?_
    refine RA.f 6 (by kernel_rfl) rfl rfl rfl (OpG.litS1 TA_un26 TA_in29 rfl (by decide) rfl) (fun _ _ => (.cons _ (.cons_cons _ (.cons_cons _ (.cons _ (.cons_cons _ (.refl _))))))) ?_
    rintro b35 _
    refine RA.f 7 (by kernel_rfl) rfl rfl rfl (OpG.append TA_un26 TA_in29 (by rfl) (by decide) rfl rfl (p := 3) rfl (fun w hH => hH.rd .here) ⟨rfl, (by simp [Value.oneCell']), (by omega), (by omega)⟩ (nm := xs.length + 1) rfl (all := (xs ++ [f]).flatMap fv) (by simp)) (fun _ _ => (.cons _ (.cons_cons _ (.cons_cons _ (.cons _ (.cons_cons _ (.refl _))))))) ?_
    rintro ⟨a36, c36⟩ h36
    refine RA.q 8 (by kernel_rfl) rfl rfl rfl (.cons _ (.cons_cons _ (.cons_cons _ (.cons _ (.cons_cons _ (.refl _)))))) (OpQ.nilCheckP rfl) ?_
    refine RA.q 9 (by kernel_rfl) rfl rfl rfl (.cons _ (.cons_cons _ (.cons_cons _ (.cons _ (.cons_cons _ (.refl _)))))) (OpQ.fieldAddr TA_fa77_0 rfl) ?_
    refine RA.know 38 rfl (add_ptr _ _ _) ?_
    refine RA.tail ?_
    refine RT.f 10 (by kernel_rfl) rfl rfl rfl (OpG.storeRow (a := some ⟨b, 0, none⟩) TA_sz26 rfl rfl rfl (by repeat (first | exact Upd.here | apply Upd.there)) (by simp)) ?_
    rintro _ _
    refine RT.done (by kernel_rfl) ?_
    refine PX.then_n ?_
    refine CT.seq ?_
    -- region 6: translate.go:28
    refine CT.region ?_
    refine Wl.q rfl rfl (OpQ.move rfl) ?_
    refine Wl.q rfl rfl (OpQ.assign rfl) ?_
    refine Wl.nil ?_
    refine PX.then_n ?_
    refine CT.ret ?_
    refine PX.ret1 rfl rfl (fun w' hH => ?_)
    rw [addF_out hix]
    exact ⟨(a36, c36), trivial, rfl, (HOk.post (hH.take (.cons (.there (.there .here)) (.cons (.there (.there .here)) (.cons (.there (.there .here)) .nil))))).conv (by dsimp only; rw [itA_snoc, List.length_append, Nat.zero_add]; exact HSub.refl _)⟩
  · -- if t17: else
    obtain ⟨j, hix⟩ : ∃ j, (ixA f 0 xs) = some j := Option.isSome_iff_exists.1 (by simpa using h17)
    obtain ⟨hin, hjl, _⟩ := addF_in hix
    refine CT.skip ?_
    refine PX.then_n ?_
    refine CT.seq ?_
    -- region 6: translate.go:28
    refine CT.region ?_
    refine Wl.q rfl rfl (OpQ.move rfl) ?_
    refine Wl.q rfl rfl (OpQ.assign rfl) ?_
    refine Wl.nil ?_
    refine PX.then_n ?_
    refine CT.ret ?_
    refine PX.ret1 rfl rfl (fun w' hH => ?_)
    rw [hin]
    exact ⟨(a, c), trivial, by rw [hix]; rfl, HOk.post (hH.take (.cons (.there .here) (.cons (.there .here) (.cons (.there .here) .nil))))⟩

theorem TA_fa79_1 : fieldB Try.prog 79 1 = some 1 := by kernel_rfl
theorem TA_pl29 : placesB Try.prog 29 = some (#[.int .i64 0, .int .i64 0, .int .i64 0, .int .i64 0, .int .i64 0, .int .i64 0], [(0, 1), (1, 1), (2, 1), (3, 1), (4, 1), (5, 1)]) := by kernel_rfl
theorem TA_go56 : isGo Try.prog 56 = true := by kernel_rfl
set_option maxRecDepth 100000 in
/-- (*semigroup/firstorder.translator).always -/
theorem always_spec (w : World) (b m : Nat) (nd ov : Value) (L : Int) (xs : List Fm) (a : Option Addr) (c : Nat) (hpre : Pre [.row 79 4 (vb b) 1 [nd, .slice a xs.length c, .map (some m), ov], .row 29 6 (.slice a xs.length c) xs.length (xs.flatMap fv), .blk m (mapO fk (itA 0 xs))] w) (hok : okL xs L = true) (hlen : xs.length ≤ 199990) : Calls Try.prog 57 #[.pointer (some ⟨b, 0, none⟩)] w (fun e w' => ∃ i : List Fm × Nat × Option Addr × Nat, (Fr L xs i.1 i.2.1 1 0 (fun _ _ => true) AllC) ∧ e = .returned (.int .i64 ((i.2.1 : Nat) : Int)) ∧ Post (blks [.row 79 4 (vb b) 1 [nd, .slice a xs.length c, .map (some m), ov], .row 29 6 (.slice a xs.length c) xs.length (xs.flatMap fv), .blk m (mapO fk (itA 0 xs))]) [.row 79 4 (vb b) 1 [nd, .slice i.2.2.1 i.1.length i.2.2.2, .map (some m), ov], .row 29 6 (.slice i.2.2.1 i.1.length i.2.2.2) i.1.length (i.1.flatMap fv), .blk m (mapO fk (itA 0 i.1))] w w') := by
  refine enterX (args := [.pointer (some ⟨b, 0, none⟩)]) hpre 8 Try.func57 rfl rfl rfl ?_
  refine CT.seq ?_
  -- region 0: translate.go:131
  refine CT.region ?_
  refine Wl.q rfl rfl (OpQ.assign rfl) ?_
  refine Wl.nil ?_
  refine PX.then_n ?_
  refine CT.seq ?_
  -- region 1: translate.go:132
  refine CT.region ?_
  refine Wl.q rfl rfl (OpQ.move rfl) ?_
  refine Wl.q rfl rfl (OpQ.nilCheckP rfl) ?_
  refine Wl.q rfl rfl (OpQ.fieldAddr TA_fa79_1 rfl) ?_
  refine Wl.q rfl rfl (OpQ.build (cells := #[.int .i64 1, .int .i64 0, .int .i64 0, .int .i64 0, .int .i64 0, .int .i64 0]) TA_pl29 rfl rfl) ?_
  refine Wl.g rfl rfl (OpG.callX TA_go56 rfl (.cons .here (.cons .here (.cons .here .nil))) (fun _ => (.cons (.cons (.cons .nil)))) (fun w hH hp => add_spec w b m nd ov xs a c hp (by omega) ⟨1, 0, 0, 0, 0, 0⟩)) ?_
  rintro ⟨a7, c7⟩ _
  refine Wl.know 7 (v' := .int .i64 (((addF xs ⟨1, 0, 0, 0, 0, 0⟩).2 : Nat) : Int)) rfl rfl ?_
  refine Wl.q rfl rfl (OpQ.assign rfl) ?_
  refine Wl.nil ?_
  refine PX.then_n ?_
  refine CT.ret ?_
  refine PX.ret1 rfl rfl (fun w' hH => ?_)
  exact ⟨((addF xs ⟨1, 0, 0, 0, 0, 0⟩).1, (addF xs ⟨1, 0, 0, 0, 0, 0⟩).2, a7, c7), fr_true hok _ rfl, rfl, hH.post⟩

set_option maxRecDepth 100000 in
/-- (*semigroup/firstorder.translator).leq -/
theorem leq_spec (w : World) (b m : Nat) (nd ov : Value) (L : Int) (xs : List Fm) (a : Option Addr) (c : Nat) (hpre : Pre [.row 79 4 (vb b) 1 [nd, .slice a xs.length c, .map (some m), ov], .row 29 6 (.slice a xs.length c) xs.length (xs.flatMap fv), .blk m (mapO fk (itA 0 xs))] w) (hok : okL xs L = true) (hlen : xs.length ≤ 199990) (x y : Int) (hx : 0 ≤ x ∧ x < 3) (hy : 0 ≤ y ∧ y < 3) : Calls Try.prog 58 #[.pointer (some ⟨b, 0, none⟩), .int .i64 (x), .int .i64 (y)] w (fun e w' => ∃ i : List Fm × Nat × Option Addr × Nat, (Fr L xs i.1 i.2.1 1 0 (fun _ v => decide (gv v x ≤ gv v y)) AllC) ∧ e = .returned (.int .i64 ((i.2.1 : Nat) : Int)) ∧ Post (blks [.row 79 4 (vb b) 1 [nd, .slice a xs.length c, .map (some m), ov], .row 29 6 (.slice a xs.length c) xs.length (xs.flatMap fv), .blk m (mapO fk (itA 0 xs))]) [.row 79 4 (vb b) 1 [nd, .slice i.2.2.1 i.1.length i.2.2.2, .map (some m), ov], .row 29 6 (.slice i.2.2.1 i.1.length i.2.2.2) i.1.length (i.1.flatMap fv), .blk m (mapO fk (itA 0 i.1))] w w') := by
  refine enterX (args := [.pointer (some ⟨b, 0, none⟩), .int .i64 (x), .int .i64 (y)]) hpre 14 Try.func58 rfl rfl rfl ?_
  refine CT.seq ?_
  -- region 0: translate.go:135
  refine CT.region ?_
  refine Wl.q rfl rfl (OpQ.assign rfl) ?_
  refine Wl.nil ?_
  refine PX.then_n ?_
  refine CT.seq ?_
  -- region 1: translate.go:136
  refine CT.region ?_
  refine Wl.q rfl rfl (OpQ.move rfl) ?_
  refine Wl.q rfl rfl (OpQ.nilCheckP rfl) ?_
  refine Wl.q rfl rfl (OpQ.fieldAddr TA_fa79_1 rfl) ?_
  refine Wl.q rfl rfl (OpQ.move rfl) ?_
  refine Wl.q rfl rfl (OpQ.move rfl) ?_
  refine Wl.q rfl rfl (OpQ.build (cells := #[.int .i64 3, .int .i64 (x), .int .i64 (y), .int .i64 0, .int .i64 0, .int .i64 0]) TA_pl29 rfl rfl) ?_
  refine Wl.g rfl rfl (OpG.callX TA_go56 rfl (.cons .here (.cons .here (.cons .here .nil))) (fun _ => (.cons (.cons (.cons .nil)))) (fun w hH hp => add_spec w b m nd ov xs a c hp (by omega) ⟨3, x, y, 0, 0, 0⟩)) ?_
  rintro ⟨a13, c13⟩ _
  refine Wl.know 13 (v' := .int .i64 (((addF xs ⟨3, x, y, 0, 0, 0⟩).2 : Nat) : Int)) rfl rfl ?_
  refine Wl.q rfl rfl (OpQ.assign rfl) ?_
  refine Wl.nil ?_
  refine PX.then_n ?_
  refine CT.ret ?_
  refine PX.ret1 rfl rfl (fun w' hH => ?_)
  exact ⟨((addF xs ⟨3, x, y, 0, 0, 0⟩).1, (addF xs ⟨3, x, y, 0, 0, 0⟩).2, a13, c13), fr_leq hok hx hy, rfl, hH.post⟩

set_option maxRecDepth 100000 in
/-- (*semigroup/firstorder.translator).and -/
theorem and_spec (w : World) (b m : Nat) (nd ov : Value) (L : Int) (xs : List Fm) (a : Option Addr) (c : Nat) (hpre : Pre [.row 79 4 (vb b) 1 [nd, .slice a xs.length c, .map (some m), ov], .row 29 6 (.slice a xs.length c) xs.length (xs.flatMap fv), .blk m (mapO fk (itA 0 xs))] w) (hok : okL xs L = true) (hlen : xs.length ≤ 199990) (p q : Nat) (hp : p < xs.length) (hq : q < xs.length) : Calls Try.prog 59 #[.pointer (some ⟨b, 0, none⟩), .int .i64 (p : Int), .int .i64 (q : Int)] w (fun e w' => ∃ i : List Fm × Nat × Option Addr × Nat, (Fr L xs i.1 i.2.1 1 (mx (dp xs p) (dp xs q)) (fun ws v => sat xs ws p v && sat xs ws q v) AllC) ∧ e = .returned (.int .i64 ((i.2.1 : Nat) : Int)) ∧ Post (blks [.row 79 4 (vb b) 1 [nd, .slice a xs.length c, .map (some m), ov], .row 29 6 (.slice a xs.length c) xs.length (xs.flatMap fv), .blk m (mapO fk (itA 0 xs))]) [.row 79 4 (vb b) 1 [nd, .slice i.2.2.1 i.1.length i.2.2.2, .map (some m), ov], .row 29 6 (.slice i.2.2.1 i.1.length i.2.2.2) i.1.length (i.1.flatMap fv), .blk m (mapO fk (itA 0 i.1))] w w') := by
  refine enterX (args := [.pointer (some ⟨b, 0, none⟩), .int .i64 (p : Int), .int .i64 (q : Int)]) hpre 14 Try.func59 rfl rfl rfl ?_
  refine CT.seq ?_
  -- region 0: translate.go:139
  refine CT.region ?_
  refine Wl.q rfl rfl (OpQ.assign rfl) ?_
  refine Wl.nil ?_
  refine PX.then_n ?_
  refine CT.seq ?_
  -- region 1: translate.go:140
  refine CT.region ?_
  refine Wl.q rfl rfl (OpQ.move rfl) ?_
  refine Wl.q rfl rfl (OpQ.nilCheckP rfl) ?_
  refine Wl.q rfl rfl (OpQ.fieldAddr TA_fa79_1 rfl) ?_
  refine Wl.q rfl rfl (OpQ.move rfl) ?_
  refine Wl.q rfl rfl (OpQ.move rfl) ?_
  refine Wl.q rfl rfl (OpQ.build (cells := #[.int .i64 5, .int .i64 0, .int .i64 0, .int .i64 0, .int .i64 (p : Int), .int .i64 (q : Int)]) TA_pl29 rfl rfl) ?_
  refine Wl.g rfl rfl (OpG.callX TA_go56 rfl (.cons .here (.cons .here (.cons .here .nil))) (fun _ => (.cons (.cons (.cons .nil)))) (fun w hH hp => add_spec w b m nd ov xs a c hp (by omega) ⟨5, 0, 0, 0, (p : Nat), (q : Nat)⟩)) ?_
  rintro ⟨a13, c13⟩ _
  refine Wl.know 13 (v' := .int .i64 (((addF xs ⟨5, 0, 0, 0, (p : Nat), (q : Nat)⟩).2 : Nat) : Int)) rfl rfl ?_
  refine Wl.q rfl rfl (OpQ.assign rfl) ?_
  refine Wl.nil ?_
  refine PX.then_n ?_
  refine CT.ret ?_
  refine PX.ret1 rfl rfl (fun w' hH => ?_)
  exact ⟨((addF xs ⟨5, 0, 0, 0, (p : Nat), (q : Nat)⟩).1, (addF xs ⟨5, 0, 0, 0, (p : Nat), (q : Nat)⟩).2, a13, c13), fr_and hok hp hq, rfl, hH.post⟩

end Go.Proofs.Ytdcjemjfliaaiaa
