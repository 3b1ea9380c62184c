/-
  What functions of the packages temporal and semigroupref39 compute, each by its walk. Conditions: those that each theorem names.
-/
import Derived.Test.YtlmbcdjmdgbmjaaMod
import Derived.Test.YtlmbcdjmdgbmjaaEng
import Derived.Test.YtlmbcdjmdgbmjaaWalks6
set_option linter.unusedSimpArgs false
namespace Go.Proofs.Ytlmbcdjmdgbmjaa
open Go Go.Eng Go.Tl
open Go.Tp (zi)
theorem mk31 : MapKey Try.prog 31 tk := MapKey.struct (n := 4) (by kernel_rfl) (fun x : Tm => [x.op, x.lt, x.a, x.b]) (fun _ => rfl) tk_inj

theorem H_un3 : Try.prog.underlying 3 = some (.int .i64) := by kernel_rfl
theorem H_un82 : Try.prog.underlying 82 = some (.int .u64) := by kernel_rfl
theorem H_un35 : Try.prog.underlying 35 = some (.slice 41) := by kernel_rfl
theorem H_sz41 : sizeB Try.prog 41 = some 2 := by kernel_rfl
theorem H_mixed : Try.prog.follows .mixedOrders = true := by kernel_rfl
theorem H_fa71_1 : fieldB Try.prog 71 1 = some 1 := by kernel_rfl
theorem H_sc69 : scalarB Try.prog 69 = some true := by kernel_rfl
theorem H_ag31 : isAggB Try.prog 31 = some true := by kernel_rfl
theorem H_sz31 : sizeB Try.prog 31 = some 4 := by kernel_rfl
theorem H_un69 : Try.prog.underlying 69 = some (.map 31 3) := by kernel_rfl
theorem H_in3 : (Try.prog.info? 3).map (fun i => (i.zero, i.size, i.bytes)) = some (some (.int .i64 0), 1, 8) := by kernel_rfl
theorem H_fa71_0 : fieldB Try.prog 71 0 = some 0 := by kernel_rfl
theorem H_sc22 : scalarB Try.prog 22 = some true := by kernel_rfl
theorem H_un22 : Try.prog.underlying 22 = some (.slice 31) := by kernel_rfl
theorem H_in31 : (Try.prog.info? 31).map (fun i => (i.zero, i.size, i.bytes)) = some (some (.agg #[.int .i64 0, .int .i64 0, .int .i64 0, .int .i64 0]), 4, 32) := by kernel_rfl
theorem H_sz22 : sizeB Try.prog 22 = some 1 := by kernel_rfl
set_option maxRecDepth 100000 in
/-- (*semigroup/temporal.translator).add -/
theorem add_spec (w : World) (b m : Nat) (xs : List Tm) (a : Option Addr) (c : Nat) (hpre : Pre [.row 71 2 (vb b) 1 [.slice a xs.length c, .map (some m)], .row 31 4 (.slice a xs.length c) xs.length (xs.flatMap tv), .blk m (mapO tk (itA 0 xs))] w) (hlen : xs.length ≤ 199000) (f : Tm) : Calls Try.prog 55 #[.pointer (some ⟨b, 0, none⟩), .agg (tv f).toArray] w (fun e w' => ∃ i : Option Addr × Nat, True ∧ e = .returned (.int .i64 (((add1 xs f).2 : Nat) : Int)) ∧ Post (blks [.row 71 2 (vb b) 1 [.slice a xs.length c, .map (some m)], .row 31 4 (.slice a xs.length c) xs.length (xs.flatMap tv), .blk m (mapO tk (itA 0 xs))]) [.row 71 2 (vb b) 1 [.slice i.1 (add1 xs f).1.length i.2, .map (some m)], .row 31 4 (.slice i.1 (add1 xs f).1.length i.2) (add1 xs f).1.length ((add1 xs f).1.flatMap tv), .blk m (mapO tk (itA 0 (add1 xs f).1))] w w') := by
  refine enterX (args := [.pointer (some ⟨b, 0, none⟩), .agg (tv f).toArray]) hpre 40 Try.func55 rfl rfl rfl ?_
  refine CT.seq ?_
  -- region 0: translate.go:15
  refine CT.region ?_
  refine Wl.g rfl rfl (OpG.box (size := 4) rfl rfl rfl) ?_
  rintro b3 _
  refine Wl.q rfl rfl (OpQ.assign rfl) ?_
  refine Wl.nil ?_
  refine PX.then_n ?_
  refine CT.seq ?_
  -- region 1, drawn: translate.go:16
  refine CT.draw 11 H_mixed ?_
  refine RA.q 0 (by kernel_rfl) rfl rfl rfl (.refl _) (OpQ.move rfl) ?_
  refine RA.q 1 (by kernel_rfl) rfl rfl rfl (.refl _) (OpQ.nilCheckP rfl) ?_
  refine RA.q 2 (by kernel_rfl) rfl rfl rfl (.refl _) (OpQ.fieldAddr H_fa71_1 rfl) ?_
  refine RA.q 3 (by kernel_rfl) rfl rfl rfl (.refl _) (OpQ.loadF (b := b) H_sc69 rfl (by repeat (first | exact Has.here | apply Has.there)) (by rfl)) ?_
  refine RA.q 4 (by kernel_rfl) rfl rfl rfl (.refl _) (OpQ.loadV (b := b3) H_ag31 H_sz31 rfl (by repeat (first | exact Has.here | apply Has.there)) (by rfl)) ?_
  refine RA.q 5 (by kernel_rfl) rfl rfl rfl (.refl _) (OpQ.lookup (f := tk) (x := f) (l := (itA 0 xs)) mk31 H_un69 H_in3 rfl rfl (by repeat (first | exact Has.here | apply Has.there)) (by rw [if_pos rfl, getA_itA, ix_val, ix_is])) ?_
  refine RA.q 6 (by kernel_rfl) rfl rfl rfl (.refl _) (OpQ.move rfl) ?_
  refine RA.q 7 (by kernel_rfl) rfl rfl rfl (.refl _) (OpQ.extract rfl rfl) ?_
  refine RA.q 8 (by kernel_rfl) rfl rfl rfl (.refl _) (OpQ.extract rfl rfl) ?_
  refine RA.q 9 (by kernel_rfl) rfl rfl rfl (.refl _) (OpQ.assign rfl) ?_
  refine RA.q 10 (by kernel_rfl) rfl rfl rfl (.refl _) (OpQ.assign rfl) ?_
  refine RA.tail ?_
  refine RT.done (by kernel_rfl) ?_
  refine PX.then_n ?_
  refine CT.seq ?_
  refine CT.seq ?_
  -- region 2: translate.go:17
  refine CT.region ?_
  refine Wl.q rfl rfl (OpQ.move rfl) ?_
  refine Wl.q rfl rfl (OpQ.not rfl) ?_
  refine Wl.nil ?_
  refine PX.then_n ?_
  refine CT.cond rfl (fun h17 => ?_) (fun h17 => ?_)
  · -- if t17: then
    have hix : (ixA f 0 xs) = none := by simpa using h17
    refine CT.seq ?_
    -- region 3: translate.go:18
    refine CT.region ?_
    refine Wl.q rfl rfl (OpQ.move rfl) ?_
    refine Wl.q rfl rfl (OpQ.nilCheckP rfl) ?_
    refine Wl.q rfl rfl (OpQ.fieldAddr H_fa71_0 rfl) ?_
    refine Wl.q rfl rfl (OpQ.loadF (b := b) H_sc22 rfl (by repeat (first | exact Has.here | apply Has.there)) (by rfl)) ?_
    refine Wl.q rfl rfl (OpQ.len H_un22 rfl) ?_
    refine Wl.q rfl rfl (OpQ.assign rfl) ?_
    refine Wl.nil ?_
    refine PX.then_n ?_
    refine CT.seq ?_
    -- region 4, drawn: translate.go:19
    refine CT.draw 6 H_mixed ?_
    refine RA.q 0 (by kernel_rfl) rfl rfl rfl (.refl _) (OpQ.move rfl) ?_
    refine RA.q 1 (by kernel_rfl) rfl rfl rfl (.refl _) (OpQ.nilCheckP rfl) ?_
    refine RA.q 2 (by kernel_rfl) rfl rfl rfl (.refl _) (OpQ.fieldAddr H_fa71_1 rfl) ?_
    refine RA.q 3 (by kernel_rfl) rfl rfl rfl (.refl _) (OpQ.loadF (b := b) H_sc69 rfl (by repeat (first | exact Has.here | apply Has.there)) (by rfl)) ?_
    refine RA.q 4 (by kernel_rfl) rfl rfl rfl (.refl _) (OpQ.loadV (b := b3) H_ag31 H_sz31 rfl (by repeat (first | exact Has.here | apply Has.there)) (by rfl)) ?_
    refine RA.q 5 (by kernel_rfl) rfl rfl rfl (.refl _) (OpQ.move rfl) ?_
    refine RA.tail ?_
    refine RT.f 6 (by kernel_rfl) rfl rfl rfl (OpG.mapNew (f := tk) (x := f) (l := (itA 0 xs)) mk31 H_un69 rfl rfl rfl (by rw [getA_itA, hix]; rfl) (by repeat (first | exact Upd.here | apply Upd.there))) ?_
    rintro _ _
    refine RT.done (by kernel_rfl) ?_
    refine PX.then_n ?_
    -- region 5, drawn: translate.go:20
    refine CT.draw' (Hc := [.row 31 4 (vb b3) 1 (tv f), .row 71 2 (vb b) 1 [.slice a xs.length c, .map (some m)], .blk m (mapO tk (itA 0 xs ++ [(f, .int .i64 (xs.length : Int))]))]) 10 H_mixed ?_
    refine RA.q 0 (by kernel_rfl) rfl rfl rfl (.cons_cons _ (.cons_cons _ (.cons _ (.cons_cons _ (.refl _))))) (OpQ.move rfl) ?_
    refine RA.q 1 (by kernel_rfl) rfl rfl rfl (.cons_cons _ (.cons_cons _ (.cons _ (.cons_cons _ (.refl _))))) (OpQ.move rfl) ?_
    refine RA.q 2 (by kernel_rfl) rfl rfl rfl (.cons_cons _ (.cons_cons _ (.cons _ (.cons_cons _ (.refl _))))) (OpQ.nilCheckP rfl) ?_
    refine RA.q 3 (by kernel_rfl) rfl rfl rfl (.cons_cons _ (.cons_cons _ (.cons _ (.cons_cons _ (.refl _))))) (OpQ.fieldAddr H_fa71_0 rfl) ?_
    refine RA.q 4 (by kernel_rfl) rfl rfl rfl (.cons_cons _ (.cons_cons _ (.cons _ (.cons_cons _ (.refl _))))) (OpQ.loadF (b := b) H_sc22 rfl (by repeat (first | exact Has.here | apply Has.there)) (by rfl)) ?_
    refine RA.q 5 (by kernel_rfl) rfl rfl rfl (.cons_cons _ (.cons_cons _ (.cons _ (.cons_cons _ (.refl _))))) (OpQ.loadV (b := b3) H_ag31 H_sz31 rfl (by repeat (first | exact Has.here | apply Has.there)) (by rfl)) ?_
    refine RA.f 6 (by kernel_rfl) rfl rfl rfl (OpG.litS1 H_un22 H_in31 rfl (by decide) rfl) (fun _ _ => (.cons _ (.cons_cons _ (.cons_cons _ (.cons _ (.cons_cons _ (.refl _))))))) ?_
    rintro b35 _
    refine RA.f 7 (by kernel_rfl) rfl rfl rfl (OpG.append H_un22 H_in31 (by rfl) (by decide) rfl rfl (p := 3) rfl (fun w hH => hH.rd .here) ⟨rfl, (by simp [Value.oneCell']), (by omega), (by omega)⟩ (nm := xs.length + 1) rfl (all := (xs ++ [f]).flatMap tv) (by simp)) (fun _ _ => (.cons _ (.cons_cons _ (.cons_cons _ (.cons _ (.cons_cons _ (.refl _))))))) ?_
    rintro ⟨a36, c36⟩ h36
    refine RA.q 8 (by kernel_rfl) rfl rfl rfl (.cons _ (.cons_cons _ (.cons_cons _ (.cons _ (.cons_cons _ (.refl _)))))) (OpQ.nilCheckP rfl) ?_
    refine RA.q 9 (by kernel_rfl) rfl rfl rfl (.cons _ (.cons_cons _ (.cons_cons _ (.cons _ (.cons_cons _ (.refl _)))))) (OpQ.fieldAddr H_fa71_0 rfl) ?_
    refine RA.tail ?_
    refine RT.f 10 (by kernel_rfl) rfl rfl rfl (OpG.storeRow (a := some ⟨b, 0, none⟩) H_sz22 rfl rfl rfl (by repeat (first | exact Upd.here | apply Upd.there)) (by simp)) ?_
    rintro _ _
    refine RT.done (by kernel_rfl) ?_
    refine PX.then_n ?_
    refine CT.seq ?_
    -- region 6: translate.go:22
    refine CT.region ?_
    refine Wl.q rfl rfl (OpQ.move rfl) ?_
    refine Wl.q rfl rfl (OpQ.assign rfl) ?_
    refine Wl.nil ?_
    refine PX.then_n ?_
    refine CT.ret ?_
    refine PX.ret1 rfl rfl (fun w' hH => ?_)
    rw [add_out hix]
    exact ⟨(a36, c36), trivial, rfl, (HOk.post (hH.take (.cons (.there (.there .here)) (.cons (.there (.there .here)) (.cons (.there (.there .here)) .nil))))).conv (by dsimp only; rw [itA_snoc, List.length_append, Nat.zero_add]; exact HSub.refl _)⟩
  · -- if t17: else
    obtain ⟨j, hix⟩ : ∃ j, (ixA f 0 xs) = some j := Option.isSome_iff_exists.1 (by simpa using h17)
    obtain ⟨hin, hjl, _⟩ := add_in hix
    refine CT.skip ?_
    refine PX.then_n ?_
    refine CT.seq ?_
    -- region 6: translate.go:22
    refine CT.region ?_
    refine Wl.q rfl rfl (OpQ.move rfl) ?_
    refine Wl.q rfl rfl (OpQ.assign rfl) ?_
    refine Wl.nil ?_
    refine PX.then_n ?_
    refine CT.ret ?_
    refine PX.ret1 rfl rfl (fun w' hH => ?_)
    rw [hin]
    exact ⟨(a, c), trivial, by rw [hix]; rfl, HOk.post (hH.take (.cons (.there .here) (.cons (.there .here) (.cons (.there .here) .nil))))⟩

theorem H_pl31 : placesB Try.prog 31 = some (#[.int .i64 0, .int .i64 0, .int .i64 0, .int .i64 0], [(0, 1), (1, 1), (2, 1), (3, 1)]) := by kernel_rfl
theorem H_go55 : isGo Try.prog 55 = true := by kernel_rfl
set_option maxRecDepth 100000 in
/-- (*semigroup/temporal.translator).letter -/
theorem letter_spec (w : World) (b m : Nat) (xs : List Tm) (a : Option Addr) (c : Nat) (hpre : Pre [.row 71 2 (vb b) 1 [.slice a xs.length c, .map (some m)], .row 31 4 (.slice a xs.length c) xs.length (xs.flatMap tv), .blk m (mapO tk (itA 0 xs))] w) (hok : okL xs 6 = true) (hlen : xs.length ≤ 198000) (l : Int) (hl : 0 ≤ l ∧ l < 6) : Calls Try.prog 57 #[.pointer (some ⟨b, 0, none⟩), .int .i64 (l)] w (fun e w' => ∃ i : List Tm × Nat × Option Addr × Nat, (Gr xs i.1 i.2.1 1 (bgn l) ∧ Low (l + 1) xs i.1) ∧ e = .returned (.int .i64 ((i.2.1 : Nat) : Int)) ∧ Post (blks [.row 71 2 (vb b) 1 [.slice a xs.length c, .map (some m)], .row 31 4 (.slice a xs.length c) xs.length (xs.flatMap tv), .blk m (mapO tk (itA 0 xs))]) [.row 71 2 (vb b) 1 [.slice i.2.2.1 i.1.length i.2.2.2, .map (some m)], .row 31 4 (.slice i.2.2.1 i.1.length i.2.2.2) i.1.length (i.1.flatMap tv), .blk m (mapO tk (itA 0 i.1))] w w') := by
  refine enterX (args := [.pointer (some ⟨b, 0, none⟩), .int .i64 (l)]) hpre 9 Try.func57 rfl rfl rfl ?_
  refine CT.seq ?_
  -- region 0: translate.go:25
  refine CT.region ?_
  refine Wl.q rfl rfl (OpQ.assign rfl) ?_
  refine Wl.nil ?_
  refine PX.then_n ?_
  refine CT.seq ?_
  -- region 1: translate.go:26
  refine CT.region ?_
  refine Wl.q rfl rfl (OpQ.move rfl) ?_
  refine Wl.q rfl rfl (OpQ.move rfl) ?_
  refine Wl.q rfl rfl (OpQ.build (cells := #[.int .i64 2, .int .i64 (l), .int .i64 0, .int .i64 0]) H_pl31 rfl rfl) ?_
  refine Wl.g rfl rfl (OpG.callX H_go55 rfl (.cons .here (.cons .here (.cons .here .nil))) (fun _ => (.cons (.cons (.cons .nil)))) (fun w hH hp => add_spec w b m xs a c hp (by omega) ⟨2, l, 0, 0⟩)) ?_
  rintro ⟨a8, c8⟩ _
  refine Wl.know 8 (v' := .int .i64 (((add1 xs ⟨2, l, 0, 0⟩).2 : Nat) : Int)) rfl rfl ?_
  refine Wl.q rfl rfl (OpQ.assign rfl) ?_
  refine Wl.nil ?_
  refine PX.then_n ?_
  refine CT.ret ?_
  refine PX.ret1 rfl rfl (fun w' hH => ?_)
  exact ⟨((add1 xs ⟨2, l, 0, 0⟩).1, (add1 xs ⟨2, l, 0, 0⟩).2, a8, c8), ⟨gr_letter hok hl, Low.add2⟩, rfl, hH.post⟩

set_option maxRecDepth 100000 in
/-- (*semigroup/temporal.translator).or -/
theorem or_spec (w : World) (b m : Nat) (xs : List Tm) (a : Option Addr) (c : Nat) (hpre : Pre [.row 71 2 (vb b) 1 [.slice a xs.length c, .map (some m)], .row 31 4 (.slice a xs.length c) xs.length (xs.flatMap tv), .blk m (mapO tk (itA 0 xs))] w) (hok : okL xs 6 = true) (hlen : xs.length ≤ 198000) (p q : Nat) (hp : p < xs.length) (hq : q < xs.length) : Calls Try.prog 38 #[.pointer (some ⟨b, 0, none⟩), .int .i64 (p : Int), .int .i64 (q : Int)] w (fun e w' => ∃ i : List Tm × Nat × Option Addr × Nat, (Gr xs i.1 i.2.1 1 (fun w => vl xs p w || vl xs q w) ∧ Low 0 xs i.1) ∧ e = .returned (.int .i64 ((i.2.1 : Nat) : Int)) ∧ Post (blks [.row 71 2 (vb b) 1 [.slice a xs.length c, .map (some m)], .row 31 4 (.slice a xs.length c) xs.length (xs.flatMap tv), .blk m (mapO tk (itA 0 xs))]) [.row 71 2 (vb b) 1 [.slice i.2.2.1 i.1.length i.2.2.2, .map (some m)], .row 31 4 (.slice i.2.2.1 i.1.length i.2.2.2) i.1.length (i.1.flatMap tv), .blk m (mapO tk (itA 0 i.1))] w w') := by
  refine enterX (args := [.pointer (some ⟨b, 0, none⟩), .int .i64 (p : Int), .int .i64 (q : Int)]) hpre 12 Try.func38 rfl rfl rfl ?_
  refine CT.seq ?_
  -- region 0: translate.go:29
  refine CT.region ?_
  refine Wl.q rfl rfl (OpQ.assign rfl) ?_
  refine Wl.nil ?_
  refine PX.then_n ?_
  refine CT.seq ?_
  -- region 1: translate.go:30
  refine CT.region ?_
  refine Wl.q rfl rfl (OpQ.move rfl) ?_
  refine Wl.q rfl rfl (OpQ.move rfl) ?_
  refine Wl.q rfl rfl (OpQ.move rfl) ?_
  refine Wl.q rfl rfl (OpQ.build (cells := #[.int .i64 6, .int .i64 0, .int .i64 (p : Int), .int .i64 (q : Int)]) H_pl31 rfl rfl) ?_
  refine Wl.g rfl rfl (OpG.callX H_go55 rfl (.cons .here (.cons .here (.cons .here .nil))) (fun _ => (.cons (.cons (.cons .nil)))) (fun w hH hp => add_spec w b m xs a c hp (by omega) ⟨6, 0, (p : Nat), (q : Nat)⟩)) ?_
  rintro ⟨a11, c11⟩ _
  refine Wl.know 11 (v' := .int .i64 (((add1 xs ⟨6, 0, (p : Nat), (q : Nat)⟩).2 : Nat) : Int)) rfl rfl ?_
  refine Wl.q rfl rfl (OpQ.assign rfl) ?_
  refine Wl.nil ?_
  refine PX.then_n ?_
  refine CT.ret ?_
  refine PX.ret1 rfl rfl (fun w' hH => ?_)
  exact ⟨((add1 xs ⟨6, 0, (p : Nat), (q : Nat)⟩).1, (add1 xs ⟨6, 0, (p : Nat), (q : Nat)⟩).2, a11, c11), ⟨gr_or hok hp (fun _ _ => rfl) hq (fun _ _ => rfl), Low.add0 (by decide)⟩, rfl, hH.post⟩

set_option maxRecDepth 100000 in
/-- (*semigroup/temporal.translator).never -/
theorem never_spec (w : World) (b m : Nat) (xs : List Tm) (a : Option Addr) (c : Nat) (hpre : Pre [.row 71 2 (vb b) 1 [.slice a xs.length c, .map (some m)], .row 31 4 (.slice a xs.length c) xs.length (xs.flatMap tv), .blk m (mapO tk (itA 0 xs))] w) (hok : okL xs 6 = true) (hlen : xs.length ≤ 197000) : Calls Try.prog 36 #[.pointer (some ⟨b, 0, none⟩)] w (fun e w' => ∃ i : List Tm × Nat × Option Addr × Nat, (Gr xs i.1 i.2.1 2 (fun _ => false) ∧ Low 0 xs i.1) ∧ e = .returned (.int .i64 ((i.2.1 : Nat) : Int)) ∧ Post (blks [.row 71 2 (vb b) 1 [.slice a xs.length c, .map (some m)], .row 31 4 (.slice a xs.length c) xs.length (xs.flatMap tv), .blk m (mapO tk (itA 0 xs))]) [.row 71 2 (vb b) 1 [.slice i.2.2.1 i.1.length i.2.2.2, .map (some m)], .row 31 4 (.slice i.2.2.1 i.1.length i.2.2.2) i.1.length (i.1.flatMap tv), .blk m (mapO tk (itA 0 i.1))] w w') := by
  have g1 := gr_true hok
  have l1 := g1.len
  have q1 := g1.lt
  refine enterX (args := [.pointer (some ⟨b, 0, none⟩)]) hpre 11 Try.func36 rfl rfl rfl ?_
  refine CT.seq ?_
  -- region 0: translate.go:34
  refine CT.region ?_
  refine Wl.q rfl rfl (OpQ.assign rfl) ?_
  refine Wl.nil ?_
  refine PX.then_n ?_
  refine CT.seq ?_
  -- region 1: translate.go:35
  refine CT.region ?_
  refine Wl.q rfl rfl (OpQ.move rfl) ?_
  refine Wl.q rfl rfl (OpQ.build (cells := #[.int .i64 1, .int .i64 0, .int .i64 0, .int .i64 0]) H_pl31 rfl rfl) ?_
  refine Wl.g rfl rfl (OpG.callX H_go55 rfl (.cons .here (.cons .here (.cons .here .nil))) (fun _ => (.cons (.cons (.cons .nil)))) (fun w hH hp => add_spec w b m xs a c hp (by omega) ⟨1, 0, 0, 0⟩)) ?_
  rintro ⟨a6, c6⟩ _
  refine Wl.know 6 (v' := .int .i64 (((add1 xs ⟨1, 0, 0, 0⟩).2 : Nat) : Int)) rfl rfl ?_
  refine Wl.q rfl rfl (OpQ.assign rfl) ?_
  refine Wl.nil ?_
  refine PX.then_n ?_
  refine CT.seq ?_
  -- region 2: translate.go:36
  refine CT.region ?_
  refine Wl.q rfl rfl (OpQ.move rfl) ?_
  refine Wl.q rfl rfl (OpQ.move rfl) ?_
  refine Wl.q rfl rfl (OpQ.build (cells := #[.int .i64 4, .int .i64 0, .int .i64 (((add1 xs ⟨1, 0, 0, 0⟩).2 : Nat) : Int), .int .i64 0]) H_pl31 rfl rfl) ?_
  refine Wl.g rfl rfl (OpG.callX H_go55 rfl (.cons .here (.cons .here (.cons .here .nil))) (fun _ => (.cons (.cons (.cons .nil)))) (fun w hH hp => add_spec w b m (add1 xs ⟨1, 0, 0, 0⟩).1 a6 c6 hp (by omega) ⟨4, 0, ((add1 xs ⟨1, 0, 0, 0⟩).2 : Nat), 0⟩)) ?_
  rintro ⟨a10, c10⟩ _
  refine Wl.know 10 (v' := .int .i64 (((add1 (add1 xs ⟨1, 0, 0, 0⟩).1 ⟨4, 0, ((add1 xs ⟨1, 0, 0, 0⟩).2 : Nat), 0⟩).2 : Nat) : Int)) rfl rfl ?_
  refine Wl.q rfl rfl (OpQ.assign rfl) ?_
  refine Wl.nil ?_
  refine PX.then_n ?_
  refine CT.ret ?_
  refine PX.ret1 rfl rfl (fun w' hH => ?_)
  exact ⟨((add1 (add1 xs ⟨1, 0, 0, 0⟩).1 ⟨4, 0, ((add1 xs ⟨1, 0, 0, 0⟩).2 : Nat), 0⟩).1, (add1 (add1 xs ⟨1, 0, 0, 0⟩).1 ⟨4, 0, ((add1 xs ⟨1, 0, 0, 0⟩).2 : Nat), 0⟩).2, a10, c10), ⟨(g1.trans (gr_not g1.ok g1.lt g1.val) (by omega)).cong (fun _ _ => rfl), (Low.add0 (by decide)).trans (Low.add0 (by decide))⟩, rfl, hH.post⟩

theorem H_go57 : isGo Try.prog 57 = true := by kernel_rfl
theorem H_go38 : isGo Try.prog 38 = true := by kernel_rfl
theorem H_go36 : isGo Try.prog 36 = true := by kernel_rfl
set_option maxRecDepth 100000 in
/-- (*semigroup/temporal.translator).one -/
theorem one_spec (w : World) (b m : Nat) (xs : List Tm) (a : Option Addr) (c : Nat) (hpre : Pre [.row 71 2 (vb b) 1 [.slice a xs.length c, .map (some m)], .row 31 4 (.slice a xs.length c) xs.length (xs.flatMap tv), .blk m (mapO tk (itA 0 xs))] w) (hok : okL xs 6 = true) (hlen : xs.length ≤ 190000) (s : Int) (L : Nat) (hL : 1 ≤ L ∧ L ≤ 6) (hs : 0 ≤ s ∧ s < 2 ^ L) : Calls Try.prog 56 #[.pointer (some ⟨b, 0, none⟩), .int .i64 (s)] w (fun e w' => ∃ i : List Tm × Nat × Option Addr × Nat, (Gr xs i.1 i.2.1 (2 * L) (oneW s) ∧ Low (L : Int) xs i.1) ∧ e = .returned (.int .i64 ((i.2.1 : Nat) : Int)) ∧ Post (blks [.row 71 2 (vb b) 1 [.slice a xs.length c, .map (some m)], .row 31 4 (.slice a xs.length c) xs.length (xs.flatMap tv), .blk m (mapO tk (itA 0 xs))]) [.row 71 2 (vb b) 1 [.slice i.2.2.1 i.1.length i.2.2.2, .map (some m)], .row 31 4 (.slice i.2.2.1 i.1.length i.2.2.2) i.1.length (i.1.flatMap tv), .blk m (mapO tk (itA 0 i.1))] w w') := by
  have hs1 : s = ((s.toNat : Nat) : Int) := by omega
  refine enterX (args := [.pointer (some ⟨b, 0, none⟩), .int .i64 (s)]) hpre 32 Try.func56 rfl rfl rfl ?_
  refine CT.seq ?_
  -- region 0: translate.go:40
  refine CT.region ?_
  refine Wl.q rfl rfl (OpQ.assign rfl) ?_
  refine Wl.nil ?_
  refine PX.then_n ?_
  refine CT.seq ?_
  -- region 1: translate.go:41
  refine CT.region ?_
  refine Wl.q rfl rfl (OpQ.assign rfl) ?_
  refine Wl.nil ?_
  refine PX.then_n ?_
  refine CT.seq ?_
  refine CT.seq ?_
  -- region 2: translate.go:42
  refine CT.region ?_
  refine Wl.q rfl rfl (OpQ.move rfl) ?_
  refine Wl.nil ?_
  refine PX.then_n ?_
  refine CT.block ?_
  -- the loop at region 3
  refine CT.loop (ι := Nat × List Tm × Int × Option Addr × Nat) (fun (k, x1, fo, a', c') => k ≤ 6 ∧ OneI s xs x1 k fo ∧ okL x1 6 = true ∧ x1.length ≤ xs.length + 2 * k ∧ Low (L : Int) xs x1) (fun (k, x1, fo, a', c') => [(0, .pointer (some ⟨b, 0, none⟩)), (1, .int .i64 (s)), (5, .int .i64 (fo)), (7, .int .i64 (k : Int))]) (fun (k, x1, fo, a', c') => [.row 71 2 (vb b) 1 [.slice a' x1.length c', .map (some m)], .row 31 4 (.slice a' x1.length c') x1.length (x1.flatMap tv), .blk m (mapO tk (itA 0 x1))]) (fun (k, x1, fo, a', c') => 6 - k) (0, xs, -1, a, c) ⟨by omega, (.inl ⟨rfl, rfl, rfl⟩), hok, by omega, Low.refl _ _⟩ ⟨rfl, rfl, rfl, rfl, trivial⟩ (HSub.refl _) (fun ⟨k, x1, fo, a', c'⟩ ⟨hk, hoi, hok1, hl1, hlo⟩ K0 hK0 => ?_)
  dsimp only
  refine CT.seq ?_
  -- region 3: translate.go:42
  refine CT.region ?_
  refine Wl.q rfl rfl (OpQ.lss rfl rfl) ?_
  refine Wl.nil ?_
  refine PX.then_n ?_
  refine CT.seq ?_
  refine CT.cond rfl (fun h8 => ?_) (fun h8 => ?_)
  · -- if t8: then
    have h8 := of_decide_eq_true h8
    refine CT.skip ?_
    refine PX.then_n ?_
    refine CT.seq ?_
    refine CT.block ?_
    refine CT.seq ?_
    -- region 4: translate.go:42
    refine CT.region ?_
    refine Wl.q rfl rfl (OpQ.move rfl) ?_
    refine Wl.q rfl rfl (OpQ.assign rfl) ?_
    refine Wl.nil ?_
    refine PX.then_n ?_
    refine CT.seq ?_
    refine CT.seq ?_
    -- region 5: translate.go:43
    refine CT.region ?_
    refine Wl.q rfl rfl (OpQ.move rfl) ?_
    refine Wl.know 10 (v' := .int .i64 ((s.toNat : Nat) : Int)) rfl (congrArg (Value.int .i64) hs1) ?_
    refine Wl.q rfl rfl (OpQ.move rfl) ?_
    refine Wl.q rfl rfl (OpQ.ishr rfl rfl (by omega)) ?_
    refine Wl.q rfl rfl (OpQ.iand1 rfl rfl) ?_
    refine Wl.q rfl rfl (OpQ.eql rfl rfl) ?_
    refine Wl.nil ?_
    refine PX.then_n ?_
    refine CT.cond rfl (fun h14 => ?_) (fun h14 => ?_)
    · -- if t14: then
      have h14 := of_decide_eq_true h14
      refine CT.exit ?_
      refine PX.then_x ?_
      refine PX.block_x ?_
      refine PX.then_n ?_
      -- region 9: translate.go:42
      refine CT.region ?_
      refine Wl.q rfl rfl (OpQ.add rfl rfl (by omega)) ?_
      refine Wl.q rfl rfl (OpQ.move rfl) ?_
      refine Wl.nil ?_
      exact PX.loop hK0 (k + 1, x1, fo, a', c') ⟨by omega, OneI_skip hoi (by rw [hasB, decide_eq_false_iff_not]; omega), hok1, by omega, hlo⟩ (show 6 - (k + 1) < 6 - k by omega) ⟨rfl, rfl, rfl, rfl, trivial⟩ (HSub.refl _)
    · -- if t14: else
      have h14 := of_decide_eq_false h14
      refine CT.skip ?_
      refine PX.then_n ?_
      refine CT.seq ?_
      -- region 6: translate.go:46
      refine CT.region ?_
      refine Wl.q rfl rfl (OpQ.move rfl) ?_
      refine Wl.q rfl rfl (OpQ.lss rfl rfl) ?_
      refine Wl.nil ?_
      refine PX.then_n ?_
      refine CT.cond rfl (fun h16 => ?_) (fun h16 => ?_)
      · -- if t16: then
        have h16 := of_decide_eq_true h16
        -- region 7: translate.go:47
        refine CT.region ?_
        refine Wl.q rfl rfl (OpQ.move rfl) ?_
        refine Wl.q rfl rfl (OpQ.move rfl) ?_
        refine Wl.g rfl rfl (OpG.callX H_go57 rfl (.cons .here (.cons .here (.cons .here .nil))) (fun _ => (.cons (.cons (.cons .nil)))) (fun w hH hp => letter_spec w b m x1 a' c' hp hok1 (by omega) (k : Int) (by omega))) ?_
        rintro ⟨xs19, r19, a19, c19⟩ g19
        dsimp only at g19
        obtain ⟨g19, o19⟩ := g19
        have l19 := g19.len
        have n19 := g19.mono
        have q19 := g19.lt
        refine Wl.know 19 (v' := .int .i64 ((r19 : Nat) : Int)) rfl rfl ?_
        refine Wl.q rfl rfl (OpQ.assign rfl) ?_
        refine Wl.nil ?_
        refine PX.block_n ?_
        refine PX.then_n ?_
        -- region 9: translate.go:42
        refine CT.region ?_
        refine Wl.q rfl rfl (OpQ.add rfl rfl (by omega)) ?_
        refine Wl.q rfl rfl (OpQ.move rfl) ?_
        refine Wl.nil ?_
        have hkb : hasB s k = true := by rw [hasB, decide_eq_true_eq]; omega
        have hkL := hasB_lt hs hkb
        exact PX.loop hK0 (k + 1, xs19, (r19 : Int), a19, c19) ⟨by omega, OneI_first hoi h16 (by rw [hasB, decide_eq_true_eq]; omega) g19, g19.ok, by omega, hlo.trans (o19.more (by omega))⟩ (show 6 - (k + 1) < 6 - k by omega) ⟨rfl, rfl, rfl, rfl, trivial⟩ (HSub.refl _)
      · -- if t16: else
        have h16 := of_decide_eq_false h16
        obtain ⟨fr, hfo, hfr⟩ : ∃ fr : Nat, fo = fr ∧ fr < x1.length := by
          rcases hoi with ⟨h1, _⟩ | ⟨r, h1, _, h3⟩
          · omega
          · exact ⟨r, h1, h3.lt⟩
        refine CT.know 5 (v' := .int .i64 ((fr : Nat) : Int)) rfl (congrArg (Value.int .i64) hfo) ?_
        -- region 8: translate.go:49
        refine CT.region ?_
        refine Wl.q rfl rfl (OpQ.move rfl) ?_
        refine Wl.q rfl rfl (OpQ.move rfl) ?_
        refine Wl.q rfl rfl (OpQ.move rfl) ?_
        refine Wl.q rfl rfl (OpQ.move rfl) ?_
        refine Wl.g rfl rfl (OpG.callX H_go57 rfl (.cons .here (.cons .here (.cons .here .nil))) (fun _ => (.cons (.cons (.cons .nil)))) (fun w hH hp => letter_spec w b m x1 a' c' hp hok1 (by omega) (k : Int) (by omega))) ?_
        rintro ⟨xs24, r24, a24, c24⟩ g24
        dsimp only at g24
        obtain ⟨g24, o24⟩ := g24
        have l24 := g24.len
        have n24 := g24.mono
        have q24 := g24.lt
        refine Wl.know 24 (v' := .int .i64 ((r24 : Nat) : Int)) rfl rfl ?_
        refine Wl.g rfl rfl (OpG.callX H_go38 rfl (.cons .here (.cons .here (.cons .here .nil))) (fun _ => (.cons (.cons (.cons .nil)))) (fun w hH hp => or_spec w b m xs24 a24 c24 hp g24.ok (by omega) fr r24 (by omega) g24.lt)) ?_
        rintro ⟨xs25, r25, a25, c25⟩ g25
        dsimp only at g25
        obtain ⟨g25, o25⟩ := g25
        have l25 := g25.len
        have n25 := g25.mono
        have q25 := g25.lt
        refine Wl.know 25 (v' := .int .i64 ((r25 : Nat) : Int)) rfl rfl ?_
        refine Wl.q rfl rfl (OpQ.assign rfl) ?_
        refine Wl.nil ?_
        refine PX.block_n ?_
        refine PX.then_n ?_
        -- region 9: translate.go:42
        refine CT.region ?_
        refine Wl.q rfl rfl (OpQ.add rfl rfl (by omega)) ?_
        refine Wl.q rfl rfl (OpQ.move rfl) ?_
        refine Wl.nil ?_
        have hkb : hasB s k = true := by rw [hasB, decide_eq_true_eq]; omega
        have hkL := hasB_lt hs hkb
        exact PX.loop hK0 (k + 1, xs25, (r25 : Int), a25, c25) ⟨by omega, OneI_or hoi hfo (by rw [hasB, decide_eq_true_eq]; omega) g24 rfl g25, g25.ok, by omega, hlo.trans ((o24.more (by omega)).trans (o25.more (by omega)))⟩ (show 6 - (k + 1) < 6 - k by omega) ⟨rfl, rfl, rfl, rfl, trivial⟩ (HSub.refl _)
  · -- if t8: else
    have h8 := of_decide_eq_false h8
    refine CT.exit ?_
    refine PX.then_x ?_
    refine PX.then_x ?_
    refine PX.block_x ?_
    refine PX.then_n ?_
    refine CT.seq ?_
    refine CT.seq ?_
    -- region 10: translate.go:52
    refine CT.region ?_
    refine Wl.q rfl rfl (OpQ.move rfl) ?_
    refine Wl.q rfl rfl (OpQ.lss rfl rfl) ?_
    refine Wl.nil ?_
    refine PX.then_n ?_
    refine CT.cond rfl (fun h28 => ?_) (fun h28 => ?_)
    · -- if t28: then
      have h28 := of_decide_eq_true h28
      obtain rfl : k = 6 := by omega
      refine CT.seq ?_
      -- region 11: translate.go:53
      refine CT.region ?_
      refine Wl.q rfl rfl (OpQ.move rfl) ?_
      refine Wl.g rfl rfl (OpG.callX H_go36 rfl (.cons .here (.cons .here (.cons .here .nil))) (fun _ => (.cons (.cons (.cons .nil)))) (fun w hH hp => never_spec w b m x1 a' c' hp hok1 (by omega) )) ?_
      rintro ⟨xs30, r30, a30, c30⟩ g30
      dsimp only at g30
      obtain ⟨g30, o30⟩ := g30
      have l30 := g30.len
      have n30 := g30.mono
      have q30 := g30.lt
      refine Wl.know 30 (v' := .int .i64 ((r30 : Nat) : Int)) rfl rfl ?_
      refine Wl.q rfl rfl (OpQ.assign rfl) ?_
      refine Wl.nil ?_
      refine PX.then_n ?_
      refine CT.ret ?_
      refine PX.then_r ?_
      refine PX.ret1 rfl rfl (fun w' hH => ?_)
      exact ⟨(xs30, r30, a30, c30), ⟨OneI_never hL.1 hoi h28 g30, hlo.trans (o30.more (by omega))⟩, rfl, hH.post⟩
    · -- if t28: else
      have h28 := of_decide_eq_false h28
      obtain rfl : k = 6 := by omega
      refine CT.skip ?_
      refine PX.then_n ?_
      refine CT.seq ?_
      -- region 12: translate.go:55
      refine CT.region ?_
      refine Wl.q rfl rfl (OpQ.move rfl) ?_
      refine Wl.q rfl rfl (OpQ.assign rfl) ?_
      refine Wl.nil ?_
      refine PX.then_n ?_
      refine CT.ret ?_
      refine PX.ret1 rfl rfl (fun w' hH => ?_)
      exact ⟨(x1, fo.toNat, a', c'), ⟨OneI_end hs hoi h28, hlo⟩, by rw [Int.toNat_of_nonneg (by omega)], hH.post⟩

theorem H_fa41_1 : fieldB Try.prog 41 1 = some 1 := by kernel_rfl
theorem H_sc25 : scalarB Try.prog 25 = some true := by kernel_rfl
theorem H_un25 : Try.prog.underlying 25 = some (.slice 3) := by kernel_rfl
theorem H_fa41_0 : fieldB Try.prog 41 0 = some 0 := by kernel_rfl
theorem H_sz3 : sizeB Try.prog 3 = some 1 := by kernel_rfl
theorem H_sc3 : scalarB Try.prog 3 = some true := by kernel_rfl
set_option maxRecDepth 100000 in
/-- semigroup/monomial.Validate -/
theorem movalid_spec (w : World) (m_ : Mo) (hm : Stays [] w (MoR m_)) (letters : Int) : Calls Try.prog 35 #[.agg (mov m_).toArray, .int .i64 (letters)] w (fun e w' => e = .returned (.int .i64 (moE m_ letters)) ∧ Ext [] w w') := by
  refine enter (args := [.agg (mov m_).toArray, .int .i64 (letters)]) [] 58 Try.func35 rfl rfl rfl ?_
  refine CT.seq ?_
  -- region 0: monomial.go:18
  refine CT.region ?_
  refine Wl.g rfl rfl (OpG.box (size := 2) rfl rfl rfl) ?_
  rintro b2 _
  refine Wl.q rfl rfl (OpQ.assign rfl) ?_
  refine Wl.nil ?_
  refine PX.then_n ?_
  refine CT.seq ?_
  refine CT.seq ?_
  -- region 1: monomial.go:19
  refine CT.region ?_
  refine Wl.q rfl rfl (OpQ.move rfl) ?_
  refine Wl.q rfl rfl (OpQ.lss rfl rfl) ?_
  refine Wl.q rfl rfl (OpQ.move rfl) ?_
  refine Wl.split 11 rfl (fun hg11 => ?_) (fun hg11 => ?_)
  · -- t11 = True
    have hg11 := of_decide_eq_true hg11
    refine Wl.skip rfl rfl ?_
    refine Wl.skip rfl rfl ?_
    refine Wl.q rfl rfl (OpQ.pickT rfl rfl) ?_
    refine Wl.nil ?_
    refine PX.then_n ?_
    refine CT.condT rfl ?_
    refine CT.seq ?_
    -- region 2: monomial.go:20
    refine CT.region ?_
    refine Wl.q rfl rfl (OpQ.assign rfl) ?_
    refine Wl.nil ?_
    refine PX.then_n ?_
    refine CT.ret ?_
    refine PX.then_r ?_
    refine PX.ret1 rfl rfl (fun w' hH => ?_)
    exact ⟨ret_i (mo_may (by rw [mayL, decide_eq_false_iff_not]; omega)).symm, hH.ext⟩
  · -- t11 = False
    have hg11 := of_decide_eq_false hg11
    refine Wl.q rfl rfl (OpQ.move rfl) ?_
    refine Wl.q rfl rfl (OpQ.gtr rfl rfl) ?_
    refine Wl.q rfl rfl (OpQ.pickF rfl rfl) ?_
    refine Wl.nil ?_
    refine PX.then_n ?_
    refine CT.cond rfl (fun h14 => ?_) (fun h14 => ?_)
    · -- if t14: then
      have h14 := of_decide_eq_true h14
      refine CT.seq ?_
      -- region 2: monomial.go:20
      refine CT.region ?_
      refine Wl.q rfl rfl (OpQ.assign rfl) ?_
      refine Wl.nil ?_
      refine PX.then_n ?_
      refine CT.ret ?_
      refine PX.then_r ?_
      refine PX.ret1 rfl rfl (fun w' hH => ?_)
      exact ⟨ret_i (mo_may (by rw [mayL, decide_eq_false_iff_not]; omega)).symm, hH.ext⟩
    · -- if t14: else
      have h14 := of_decide_eq_false h14
      have hmay : mayL letters = true := by rw [mayL, decide_eq_true_eq]; omega
      have hpw : (((1 * 2 ^ letters.toNat : Nat)) : Int) = 2 ^ letters.toNat := by rw [Nat.one_mul]; push_cast; rfl
      have hp64 : 1 * 2 ^ letters.toNat ≤ 64 := by
        have : 2 ^ letters.toNat ≤ 2 ^ 6 := Nat.pow_le_pow_right (by decide) (by omega)
        omega
      refine CT.skip ?_
      refine PX.then_n ?_
      refine CT.seq ?_
      refine CT.seq ?_
      -- region 3: monomial.go:22
      refine CT.region ?_
      refine Wl.q rfl rfl (OpQ.fieldAddr H_fa41_1 rfl) ?_
      refine Wl.q rfl rfl (OpQ.loadF (b := b2) H_sc25 rfl (by repeat (first | exact Has.here | apply Has.there)) (by rfl)) ?_
      refine Wl.q rfl rfl (OpQ.len H_un25 rfl) ?_
      refine Wl.q rfl rfl (OpQ.gtr rfl rfl) ?_
      refine Wl.nil ?_
      refine PX.then_n ?_
      refine CT.cond rfl (fun h18 => ?_) (fun h18 => ?_)
      · -- if t18: then
        have h18 := of_decide_eq_true h18
        refine CT.seq ?_
        -- region 4: monomial.go:23
        refine CT.region ?_
        refine Wl.q rfl rfl (OpQ.assign rfl) ?_
        refine Wl.nil ?_
        refine PX.then_n ?_
        refine CT.ret ?_
        refine PX.then_r ?_
        refine PX.ret1 rfl rfl (fun w' hH => ?_)
        exact ⟨ret_i (mo_long hmay (by omega)).symm, hH.ext⟩
      · -- if t18: else
        have h18 := of_decide_eq_false h18
        refine CT.skip ?_
        refine PX.then_n ?_
        refine CT.seq ?_
        refine CT.seq ?_
        -- region 5: monomial.go:25
        refine CT.region ?_
        refine Wl.q rfl rfl (OpQ.fieldAddr H_fa41_0 rfl) ?_
        refine Wl.q rfl rfl (OpQ.loadF (b := b2) H_sc25 rfl (by repeat (first | exact Has.here | apply Has.there)) (by rfl)) ?_
        refine Wl.q rfl rfl (OpQ.len H_un25 rfl) ?_
        refine Wl.q rfl rfl (OpQ.fieldAddr H_fa41_1 rfl) ?_
        refine Wl.q rfl rfl (OpQ.loadF (b := b2) H_sc25 rfl (by repeat (first | exact Has.here | apply Has.there)) (by rfl)) ?_
        refine Wl.q rfl rfl (OpQ.len H_un25 rfl) ?_
        refine Wl.q rfl rfl (OpQ.add rfl rfl (by omega)) ?_
        refine Wl.q rfl rfl (OpQ.neq rfl rfl) ?_
        refine Wl.nil ?_
        refine PX.then_n ?_
        refine CT.cond rfl (fun h26 => ?_) (fun h26 => ?_)
        · -- if t26: then
          have h26 := of_nd_t h26
          refine CT.seq ?_
          -- region 6: monomial.go:26
          refine CT.region ?_
          refine Wl.q rfl rfl (OpQ.assign rfl) ?_
          refine Wl.nil ?_
          refine PX.then_n ?_
          refine CT.ret ?_
          refine PX.then_r ?_
          refine PX.ret1 rfl rfl (fun w' hH => ?_)
          exact ⟨ret_i (mo_len hmay (by omega) (by omega)).symm, hH.ext⟩
        · -- if t26: else
          have h26 := of_nd_f h26
          refine CT.skip ?_
          refine PX.then_n ?_
          refine CT.seq ?_
          refine CT.seq ?_
          -- region 7: monomial.go:28
          refine CT.region ?_
          refine Wl.q rfl rfl (OpQ.fieldAddr H_fa41_0 rfl) ?_
          refine Wl.q rfl rfl (OpQ.loadF (b := b2) H_sc25 rfl (by repeat (first | exact Has.here | apply Has.there)) (by rfl)) ?_
          refine Wl.q rfl rfl (OpQ.len H_un25 rfl) ?_
          refine Wl.q rfl rfl (OpQ.move rfl) ?_
          refine Wl.nil ?_
          refine PX.then_n ?_
          refine CT.block ?_
          -- the loop at region 8
          refine CT.loop (ι := Nat) (fun k => k ≤ m_.sets.length ∧ ∀ j, j < k → okS letters (m_.sets.getD j 0) = true) (fun k => [(1, .int .i64 (letters)), (2, .pointer (some ⟨b2, 0, none⟩)), (28, .slice m_.sa m_.sets.length m_.sc), (29, .int .i64 (m_.sets.length : Int)), (30, .int .i64 (k : Int))]) (fun k => [.row 41 2 (vb b2) 1 (mov m_)]) (fun k => m_.sets.length - k) 0 ⟨by omega, by omega⟩ ⟨rfl, rfl, rfl, rfl, rfl, trivial⟩ (HSub.refl _) (fun k ⟨hk, hall⟩ K0 hK0 => ?_)
          refine CT.seq ?_
          -- region 8: monomial.go:28
          refine CT.region ?_
          refine Wl.q rfl rfl (OpQ.lss rfl rfl) ?_
          refine Wl.nil ?_
          refine PX.then_n ?_
          refine CT.seq ?_
          refine CT.cond rfl (fun h31 => ?_) (fun h31 => ?_)
          · -- if t31: then
            have h31 := of_decide_eq_true h31
            refine CT.skip ?_
            refine PX.then_n ?_
            refine CT.seq ?_
            refine CT.block ?_
            refine CT.seq ?_
            -- region 9: monomial.go:28
            refine CT.region ?_
            refine Wl.q rfl rfl (OpQ.index1 H_un25 H_sz3 rfl rfl (by omega) (hm.now.1.isSome (j := 0) (by rw [List.length_map]; omega))) ?_
            refine Wl.q rfl rfl (OpQ.loadG H_sc3 rfl (fun w hH => (hH.use hm).1) (getMap zi m_.sets 0 (j := k) (by omega))) ?_
            refine Wl.q rfl rfl (OpQ.assign rfl) ?_
            refine Wl.nil ?_
            refine PX.then_n ?_
            refine CT.seq ?_
            -- region 10: monomial.go:29
            refine CT.region ?_
            refine Wl.q rfl rfl (OpQ.move rfl) ?_
            refine Wl.q rfl rfl (OpQ.lss rfl rfl) ?_
            refine Wl.q rfl rfl (OpQ.move rfl) ?_
            refine Wl.split 36 rfl (fun hg36 => ?_) (fun hg36 => ?_)
            · -- t36 = True
              have hg36 := of_decide_eq_true hg36
              refine Wl.skip rfl rfl ?_
              refine Wl.skip rfl rfl ?_
              refine Wl.skip rfl rfl ?_
              refine Wl.skip rfl rfl ?_
              refine Wl.q rfl rfl (OpQ.pickT rfl rfl) ?_
              refine Wl.nil ?_
              refine PX.then_n ?_
              refine CT.condT rfl ?_
              refine CT.seq ?_
              -- region 11: monomial.go:30
              refine CT.region ?_
              refine Wl.q rfl rfl (OpQ.assign rfl) ?_
              refine Wl.nil ?_
              refine PX.then_n ?_
              refine CT.ret ?_
              refine PX.block_r ?_
              refine PX.then_r ?_
              refine PX.then_r ?_
              refine PX.block_r ?_
              refine PX.then_r ?_
              refine PX.ret1 rfl rfl (fun w' hH => ?_)
              exact ⟨ret_i (mo_set hmay (by omega) (by omega) (Go.Tl.get_bad (j := k) (d := 0) (by omega) (by rw [okS, decide_eq_false_iff_not, ← hpw]; omega))).symm, hH.ext⟩
            · -- t36 = False
              have hg36 := of_decide_eq_false hg36
              refine Wl.q rfl rfl (OpQ.move rfl) ?_
              refine Wl.q rfl rfl (OpQ.move rfl) ?_
              refine Wl.know 38 (v' := .int .i64 ((letters.toNat : Nat) : Int)) rfl (congrArg (Value.int .i64) (by omega)) ?_
              refine Wl.q rfl rfl (OpQ.ishl (m := 1) rfl rfl (by omega) (by omega)) ?_
              refine Wl.q rfl rfl (OpQ.geq rfl rfl) ?_
              refine Wl.q rfl rfl (OpQ.pickF rfl rfl) ?_
              refine Wl.nil ?_
              refine PX.then_n ?_
              refine CT.cond rfl (fun h41 => ?_) (fun h41 => ?_)
              · -- if t41: then
                have h41 := of_decide_eq_true h41
                refine CT.seq ?_
                -- region 11: monomial.go:30
                refine CT.region ?_
                refine Wl.q rfl rfl (OpQ.assign rfl) ?_
                refine Wl.nil ?_
                refine PX.then_n ?_
                refine CT.ret ?_
                refine PX.block_r ?_
                refine PX.then_r ?_
                refine PX.then_r ?_
                refine PX.block_r ?_
                refine PX.then_r ?_
                refine PX.ret1 rfl rfl (fun w' hH => ?_)
                exact ⟨ret_i (mo_set hmay (by omega) (by omega) (Go.Tl.get_bad (j := k) (d := 0) (by omega) (by rw [okS, decide_eq_false_iff_not, ← hpw]; omega))).symm, hH.ext⟩
              · -- if t41: else
                have h41 := of_decide_eq_false h41
                refine CT.skip ?_
                refine PX.block_n ?_
                refine PX.then_n ?_
                -- region 12: monomial.go:28
                refine CT.region ?_
                refine Wl.q rfl rfl (OpQ.add rfl rfl (by omega)) ?_
                refine Wl.q rfl rfl (OpQ.move rfl) ?_
                refine Wl.nil ?_
                have hall2 : ∀ j, j < k + 1 → okS letters (m_.sets.getD j 0) = true := fun j hj => by
                  rcases Nat.lt_or_ge j k with h | h
                  · exact hall j h
                  · rw [show j = k by omega]; exact (by rw [okS, decide_eq_true_eq, ← hpw]; omega)
                exact PX.loop hK0 (k + 1) ⟨by omega, hall2⟩ (by first | omega | (dsimp only; omega)) ⟨rfl, rfl, rfl, rfl, rfl, trivial⟩ (HSub.refl _)
          · -- if t31: else
            have h31 := of_decide_eq_false h31
            refine CT.exit ?_
            refine PX.then_x ?_
            refine PX.then_x ?_
            refine PX.block_x ?_
            refine PX.then_n ?_
            refine CT.seq ?_
            refine CT.seq ?_
            -- region 13: monomial.go:33
            refine CT.region ?_
            refine Wl.q rfl rfl (OpQ.fieldAddr H_fa41_1 rfl) ?_
            refine Wl.q rfl rfl (OpQ.loadF (b := b2) H_sc25 rfl (by repeat (first | exact Has.here | apply Has.there)) (by rfl)) ?_
            refine Wl.q rfl rfl (OpQ.len H_un25 rfl) ?_
            refine Wl.q rfl rfl (OpQ.move rfl) ?_
            refine Wl.nil ?_
            refine PX.then_n ?_
            refine CT.block ?_
            -- the loop at region 14
            have hsets := Go.Tl.all_get (d := 0) (fun j hj => hall j (by omega))
            clear hall
            refine CT.loop (ι := Nat) (fun k => k ≤ m_.lets.length ∧ ∀ j, j < k → okA letters (m_.lets.getD j 0) = true) (fun k => [(1, .int .i64 (letters)), (44, .slice m_.la m_.lets.length m_.lc), (45, .int .i64 (m_.lets.length : Int)), (46, .int .i64 (k : Int))]) (fun k => [.row 41 2 (vb b2) 1 (mov m_)]) (fun k => m_.lets.length - k) 0 ⟨by omega, by omega⟩ ⟨rfl, rfl, rfl, rfl, trivial⟩ (HSub.refl _) (fun k ⟨hk, hall⟩ K1 hK1 => ?_)
            refine CT.seq ?_
            -- region 14: monomial.go:33
            refine CT.region ?_
            refine Wl.q rfl rfl (OpQ.lss rfl rfl) ?_
            refine Wl.nil ?_
            refine PX.then_n ?_
            refine CT.seq ?_
            refine CT.cond rfl (fun h47 => ?_) (fun h47 => ?_)
            · -- if t47: then
              have h47 := of_decide_eq_true h47
              refine CT.skip ?_
              refine PX.then_n ?_
              refine CT.seq ?_
              refine CT.block ?_
              refine CT.seq ?_
              -- region 15: monomial.go:33
              refine CT.region ?_
              refine Wl.q rfl rfl (OpQ.index1 H_un25 H_sz3 rfl rfl (by omega) (hm.now.2.isSome (j := 0) (by rw [List.length_map]; omega))) ?_
              refine Wl.q rfl rfl (OpQ.loadG H_sc3 rfl (fun w hH => (hH.use hm).2) (getMap zi m_.lets 0 (j := k) (by omega))) ?_
              refine Wl.q rfl rfl (OpQ.assign rfl) ?_
              refine Wl.nil ?_
              refine PX.then_n ?_
              refine CT.seq ?_
              -- region 16: monomial.go:34
              refine CT.region ?_
              refine Wl.q rfl rfl (OpQ.move rfl) ?_
              refine Wl.q rfl rfl (OpQ.lss rfl rfl) ?_
              refine Wl.q rfl rfl (OpQ.move rfl) ?_
              refine Wl.split 52 rfl (fun hg52 => ?_) (fun hg52 => ?_)
              · -- t52 = True
                have hg52 := of_decide_eq_true hg52
                refine Wl.skip rfl rfl ?_
                refine Wl.skip rfl rfl ?_
                refine Wl.skip rfl rfl ?_
                refine Wl.q rfl rfl (OpQ.pickT rfl rfl) ?_
                refine Wl.nil ?_
                refine PX.then_n ?_
                refine CT.condT rfl ?_
                refine CT.seq ?_
                -- region 17: monomial.go:35
                refine CT.region ?_
                refine Wl.q rfl rfl (OpQ.assign rfl) ?_
                refine Wl.nil ?_
                refine PX.then_n ?_
                refine CT.ret ?_
                refine PX.block_r ?_
                refine PX.then_r ?_
                refine PX.then_r ?_
                refine PX.block_r ?_
                refine PX.then_r ?_
                refine PX.ret1 rfl rfl (fun w' hH => ?_)
                exact ⟨ret_i (mo_let hmay (by omega) (by omega) hsets (Go.Tl.get_bad (j := k) (d := 0) (by omega) (by rw [okA, decide_eq_false_iff_not]; omega))).symm, hH.ext⟩
              · -- t52 = False
                have hg52 := of_decide_eq_false hg52
                refine Wl.q rfl rfl (OpQ.move rfl) ?_
                refine Wl.q rfl rfl (OpQ.move rfl) ?_
                refine Wl.q rfl rfl (OpQ.geq rfl rfl) ?_
                refine Wl.q rfl rfl (OpQ.pickF rfl rfl) ?_
                refine Wl.nil ?_
                refine PX.then_n ?_
                refine CT.cond rfl (fun h56 => ?_) (fun h56 => ?_)
                · -- if t56: then
                  have h56 := of_decide_eq_true h56
                  refine CT.seq ?_
                  -- region 17: monomial.go:35
                  refine CT.region ?_
                  refine Wl.q rfl rfl (OpQ.assign rfl) ?_
                  refine Wl.nil ?_
                  refine PX.then_n ?_
                  refine CT.ret ?_
                  refine PX.block_r ?_
                  refine PX.then_r ?_
                  refine PX.then_r ?_
                  refine PX.block_r ?_
                  refine PX.then_r ?_
                  refine PX.ret1 rfl rfl (fun w' hH => ?_)
                  exact ⟨ret_i (mo_let hmay (by omega) (by omega) hsets (Go.Tl.get_bad (j := k) (d := 0) (by omega) (by rw [okA, decide_eq_false_iff_not]; omega))).symm, hH.ext⟩
                · -- if t56: else
                  have h56 := of_decide_eq_false h56
                  refine CT.skip ?_
                  refine PX.block_n ?_
                  refine PX.then_n ?_
                  -- region 18: monomial.go:33
                  refine CT.region ?_
                  refine Wl.q rfl rfl (OpQ.add rfl rfl (by omega)) ?_
                  refine Wl.q rfl rfl (OpQ.move rfl) ?_
                  refine Wl.nil ?_
                  have hall2 : ∀ j, j < k + 1 → okA letters (m_.lets.getD j 0) = true := fun j hj => by
                    rcases Nat.lt_or_ge j k with h | h
                    · exact hall j h
                    · rw [show j = k by omega]; exact (by rw [okA, decide_eq_true_eq]; omega)
                  exact PX.loop hK1 (k + 1) ⟨by omega, hall2⟩ (by first | omega | (dsimp only; omega)) ⟨rfl, rfl, rfl, rfl, trivial⟩ (HSub.refl _)
            · -- if t47: else
              have h47 := of_decide_eq_false h47
              refine CT.exit ?_
              refine PX.then_x ?_
              refine PX.then_x ?_
              refine PX.block_x ?_
              refine PX.then_n ?_
              refine CT.seq ?_
              -- region 19: monomial.go:38
              refine CT.region ?_
              refine Wl.q rfl rfl (OpQ.assign rfl) ?_
              refine Wl.nil ?_
              refine PX.then_n ?_
              refine CT.ret ?_
              refine PX.ret1 rfl rfl (fun w' hH => ?_)
              exact ⟨ret_i (mo_ok hmay (by omega) (by omega) hsets (Go.Tl.all_get (d := 0) (fun j hj => hall j (by omega)))).symm, hH.ext⟩

theorem H_go39 : isGo Try.prog 39 = true := by kernel_rfl
set_option maxRecDepth 100000 in
/-- semigroup/semigroupref35.Validate -/
theorem movalidR_spec (w : World) (m_ : Mo) (hm : Stays [] w (MoR m_)) (letters : Int) : Calls Try.prog 44 #[.agg (mov m_).toArray, .int .i64 (letters)] w (fun e w' => e = .returned (.int .i64 (moE m_ letters)) ∧ Ext [] w w') := by
  refine enter (args := [.agg (mov m_).toArray, .int .i64 (letters)]) [] 56 Try.func44 rfl rfl rfl ?_
  refine CT.seq ?_
  -- region 0: ref.go:14
  refine CT.region ?_
  refine Wl.g rfl rfl (OpG.box (size := 2) rfl rfl rfl) ?_
  rintro b2 _
  refine Wl.q rfl rfl (OpQ.assign rfl) ?_
  refine Wl.nil ?_
  refine PX.then_n ?_
  refine CT.seq ?_
  refine CT.seq ?_
  -- region 1: ref.go:15
  refine CT.region ?_
  refine Wl.q rfl rfl (OpQ.move rfl) ?_
  refine Wl.g rfl rfl (OpG.callV H_go39 rfl (fun w hH => may_spec w letters)) ?_
  rintro _ _
  refine Wl.q rfl rfl (OpQ.not rfl) ?_
  refine Wl.nil ?_
  refine PX.then_n ?_
  refine CT.cond rfl (fun h11 => ?_) (fun h11 => ?_)
  · -- if t11: then
    have hmay : mayL letters = false := by simpa using h11
    refine CT.seq ?_
    -- region 2: ref.go:16
    refine CT.region ?_
    refine Wl.q rfl rfl (OpQ.assign rfl) ?_
    refine Wl.nil ?_
    refine PX.then_n ?_
    refine CT.ret ?_
    refine PX.then_r ?_
    refine PX.ret1 rfl rfl (fun w' hH => ?_)
    exact ⟨ret_i (mo_may hmay).symm, hH.ext⟩
  · -- if t11: else
    have hmay : mayL letters = true := by simpa using h11
    have hml := mayL_le hmay
    have hpw : (((1 * 2 ^ letters.toNat : Nat)) : Int) = 2 ^ letters.toNat := by rw [Nat.one_mul]; push_cast; rfl
    have hp64 : 1 * 2 ^ letters.toNat ≤ 64 := by
      have : 2 ^ letters.toNat ≤ 2 ^ 6 := Nat.pow_le_pow_right (by decide) (by omega)
      omega
    refine CT.skip ?_
    refine PX.then_n ?_
    refine CT.seq ?_
    refine CT.seq ?_
    -- region 3: ref.go:18
    refine CT.region ?_
    refine Wl.q rfl rfl (OpQ.fieldAddr H_fa41_1 rfl) ?_
    refine Wl.q rfl rfl (OpQ.loadF (b := b2) H_sc25 rfl (by repeat (first | exact Has.here | apply Has.there)) (by rfl)) ?_
    refine Wl.q rfl rfl (OpQ.len H_un25 rfl) ?_
    refine Wl.q rfl rfl (OpQ.gtr rfl rfl) ?_
    refine Wl.nil ?_
    refine PX.then_n ?_
    refine CT.cond rfl (fun h15 => ?_) (fun h15 => ?_)
    · -- if t15: then
      have h15 := of_decide_eq_true h15
      refine CT.seq ?_
      -- region 4: ref.go:19
      refine CT.region ?_
      refine Wl.q rfl rfl (OpQ.assign rfl) ?_
      refine Wl.nil ?_
      refine PX.then_n ?_
      refine CT.ret ?_
      refine PX.then_r ?_
      refine PX.ret1 rfl rfl (fun w' hH => ?_)
      exact ⟨ret_i (mo_long hmay (by omega)).symm, hH.ext⟩
    · -- if t15: else
      have h15 := of_decide_eq_false h15
      refine CT.skip ?_
      refine PX.then_n ?_
      refine CT.seq ?_
      refine CT.seq ?_
      -- region 5: ref.go:21
      refine CT.region ?_
      refine Wl.q rfl rfl (OpQ.fieldAddr H_fa41_0 rfl) ?_
      refine Wl.q rfl rfl (OpQ.loadF (b := b2) H_sc25 rfl (by repeat (first | exact Has.here | apply Has.there)) (by rfl)) ?_
      refine Wl.q rfl rfl (OpQ.len H_un25 rfl) ?_
      refine Wl.q rfl rfl (OpQ.fieldAddr H_fa41_1 rfl) ?_
      refine Wl.q rfl rfl (OpQ.loadF (b := b2) H_sc25 rfl (by repeat (first | exact Has.here | apply Has.there)) (by rfl)) ?_
      refine Wl.q rfl rfl (OpQ.len H_un25 rfl) ?_
      refine Wl.q rfl rfl (OpQ.add rfl rfl (by omega)) ?_
      refine Wl.q rfl rfl (OpQ.neq rfl rfl) ?_
      refine Wl.nil ?_
      refine PX.then_n ?_
      refine CT.cond rfl (fun h23 => ?_) (fun h23 => ?_)
      · -- if t23: then
        have h23 := of_nd_t h23
        refine CT.seq ?_
        -- region 6: ref.go:22
        refine CT.region ?_
        refine Wl.q rfl rfl (OpQ.assign rfl) ?_
        refine Wl.nil ?_
        refine PX.then_n ?_
        refine CT.ret ?_
        refine PX.then_r ?_
        refine PX.ret1 rfl rfl (fun w' hH => ?_)
        exact ⟨ret_i (mo_len hmay (by omega) (by omega)).symm, hH.ext⟩
      · -- if t23: else
        have h23 := of_nd_f h23
        refine CT.skip ?_
        refine PX.then_n ?_
        refine CT.seq ?_
        refine CT.seq ?_
        -- region 7: ref.go:24
        refine CT.region ?_
        refine Wl.q rfl rfl (OpQ.fieldAddr H_fa41_0 rfl) ?_
        refine Wl.q rfl rfl (OpQ.loadF (b := b2) H_sc25 rfl (by repeat (first | exact Has.here | apply Has.there)) (by rfl)) ?_
        refine Wl.q rfl rfl (OpQ.len H_un25 rfl) ?_
        refine Wl.q rfl rfl (OpQ.move rfl) ?_
        refine Wl.nil ?_
        refine PX.then_n ?_
        refine CT.block ?_
        -- the loop at region 8
        refine CT.loop (ι := Nat) (fun k => k ≤ m_.sets.length ∧ ∀ j, j < k → okS letters (m_.sets.getD j 0) = true) (fun k => [(1, .int .i64 (letters)), (2, .pointer (some ⟨b2, 0, none⟩)), (25, .slice m_.sa m_.sets.length m_.sc), (26, .int .i64 (m_.sets.length : Int)), (27, .int .i64 (k : Int))]) (fun k => [.row 41 2 (vb b2) 1 (mov m_)]) (fun k => m_.sets.length - k) 0 ⟨by omega, by omega⟩ ⟨rfl, rfl, rfl, rfl, rfl, trivial⟩ (HSub.refl _) (fun k ⟨hk, hall⟩ K0 hK0 => ?_)
        refine CT.seq ?_
        -- region 8: ref.go:24
        refine CT.region ?_
        refine Wl.q rfl rfl (OpQ.lss rfl rfl) ?_
        refine Wl.nil ?_
        refine PX.then_n ?_
        refine CT.seq ?_
        refine CT.cond rfl (fun h28 => ?_) (fun h28 => ?_)
        · -- if t28: then
          have h28 := of_decide_eq_true h28
          refine CT.skip ?_
          refine PX.then_n ?_
          refine CT.seq ?_
          refine CT.block ?_
          refine CT.seq ?_
          -- region 9: ref.go:24
          refine CT.region ?_
          refine Wl.q rfl rfl (OpQ.index1 H_un25 H_sz3 rfl rfl (by omega) (hm.now.1.isSome (j := 0) (by rw [List.length_map]; omega))) ?_
          refine Wl.q rfl rfl (OpQ.loadG H_sc3 rfl (fun w hH => (hH.use hm).1) (getMap zi m_.sets 0 (j := k) (by omega))) ?_
          refine Wl.q rfl rfl (OpQ.assign rfl) ?_
          refine Wl.nil ?_
          refine PX.then_n ?_
          refine CT.seq ?_
          -- region 10: ref.go:25
          refine CT.region ?_
          refine Wl.q rfl rfl (OpQ.move rfl) ?_
          refine Wl.q rfl rfl (OpQ.lss rfl rfl) ?_
          refine Wl.q rfl rfl (OpQ.move rfl) ?_
          refine Wl.split 33 rfl (fun hg33 => ?_) (fun hg33 => ?_)
          · -- t33 = True
            have hg33 := of_decide_eq_true hg33
            refine Wl.skip rfl rfl ?_
            refine Wl.skip rfl rfl ?_
            refine Wl.skip rfl rfl ?_
            refine Wl.skip rfl rfl ?_
            refine Wl.skip rfl rfl ?_
            refine Wl.q rfl rfl (OpQ.pickT rfl rfl) ?_
            refine Wl.nil ?_
            refine PX.then_n ?_
            refine CT.condT rfl ?_
            refine CT.seq ?_
            -- region 11: ref.go:26
            refine CT.region ?_
            refine Wl.q rfl rfl (OpQ.assign rfl) ?_
            refine Wl.nil ?_
            refine PX.then_n ?_
            refine CT.ret ?_
            refine PX.block_r ?_
            refine PX.then_r ?_
            refine PX.then_r ?_
            refine PX.block_r ?_
            refine PX.then_r ?_
            refine PX.ret1 rfl rfl (fun w' hH => ?_)
            exact ⟨ret_i (mo_set hmay (by omega) (by omega) (Go.Tl.get_bad (j := k) (d := 0) (by omega) (by rw [okS, decide_eq_false_iff_not, ← hpw]; omega))).symm, hH.ext⟩
          · -- t33 = False
            have hg33 := of_decide_eq_false hg33
            refine Wl.q rfl rfl (OpQ.move rfl) ?_
            refine Wl.q rfl rfl (OpQ.move rfl) ?_
            refine Wl.know 35 (v' := .int .i64 ((letters.toNat : Nat) : Int)) rfl (congrArg (Value.int .i64) (by omega)) ?_
            refine Wl.q rfl rfl (OpQ.conv rfl (conv_nat_u H_un3 H_un82 _ (by omega))) ?_
            refine Wl.q rfl rfl (OpQ.ishl (m := 1) rfl rfl (by omega) (by omega)) ?_
            refine Wl.q rfl rfl (OpQ.geq rfl rfl) ?_
            refine Wl.q rfl rfl (OpQ.pickF rfl rfl) ?_
            refine Wl.nil ?_
            refine PX.then_n ?_
            refine CT.cond rfl (fun h39 => ?_) (fun h39 => ?_)
            · -- if t39: then
              have h39 := of_decide_eq_true h39
              refine CT.seq ?_
              -- region 11: ref.go:26
              refine CT.region ?_
              refine Wl.q rfl rfl (OpQ.assign rfl) ?_
              refine Wl.nil ?_
              refine PX.then_n ?_
              refine CT.ret ?_
              refine PX.block_r ?_
              refine PX.then_r ?_
              refine PX.then_r ?_
              refine PX.block_r ?_
              refine PX.then_r ?_
              refine PX.ret1 rfl rfl (fun w' hH => ?_)
              exact ⟨ret_i (mo_set hmay (by omega) (by omega) (Go.Tl.get_bad (j := k) (d := 0) (by omega) (by rw [okS, decide_eq_false_iff_not, ← hpw]; omega))).symm, hH.ext⟩
            · -- if t39: else
              have h39 := of_decide_eq_false h39
              refine CT.skip ?_
              refine PX.block_n ?_
              refine PX.then_n ?_
              -- region 12: ref.go:24
              refine CT.region ?_
              refine Wl.q rfl rfl (OpQ.add rfl rfl (by omega)) ?_
              refine Wl.q rfl rfl (OpQ.move rfl) ?_
              refine Wl.nil ?_
              have hall2 : ∀ j, j < k + 1 → okS letters (m_.sets.getD j 0) = true := fun j hj => by
                rcases Nat.lt_or_ge j k with h | h
                · exact hall j h
                · rw [show j = k by omega]; exact (by rw [okS, decide_eq_true_eq, ← hpw]; omega)
              exact PX.loop hK0 (k + 1) ⟨by omega, hall2⟩ (by first | omega | (dsimp only; omega)) ⟨rfl, rfl, rfl, rfl, rfl, trivial⟩ (HSub.refl _)
        · -- if t28: else
          have h28 := of_decide_eq_false h28
          refine CT.exit ?_
          refine PX.then_x ?_
          refine PX.then_x ?_
          refine PX.block_x ?_
          refine PX.then_n ?_
          refine CT.seq ?_
          refine CT.seq ?_
          -- region 13: ref.go:29
          refine CT.region ?_
          refine Wl.q rfl rfl (OpQ.fieldAddr H_fa41_1 rfl) ?_
          refine Wl.q rfl rfl (OpQ.loadF (b := b2) H_sc25 rfl (by repeat (first | exact Has.here | apply Has.there)) (by rfl)) ?_
          refine Wl.q rfl rfl (OpQ.len H_un25 rfl) ?_
          refine Wl.q rfl rfl (OpQ.move rfl) ?_
          refine Wl.nil ?_
          refine PX.then_n ?_
          refine CT.block ?_
          -- the loop at region 14
          have hsets := Go.Tl.all_get (d := 0) (fun j hj => hall j (by omega))
          clear hall
          refine CT.loop (ι := Nat) (fun k => k ≤ m_.lets.length ∧ ∀ j, j < k → okA letters (m_.lets.getD j 0) = true) (fun k => [(1, .int .i64 (letters)), (42, .slice m_.la m_.lets.length m_.lc), (43, .int .i64 (m_.lets.length : Int)), (44, .int .i64 (k : Int))]) (fun k => [.row 41 2 (vb b2) 1 (mov m_)]) (fun k => m_.lets.length - k) 0 ⟨by omega, by omega⟩ ⟨rfl, rfl, rfl, rfl, trivial⟩ (HSub.refl _) (fun k ⟨hk, hall⟩ K1 hK1 => ?_)
          refine CT.seq ?_
          -- region 14: ref.go:29
          refine CT.region ?_
          refine Wl.q rfl rfl (OpQ.lss rfl rfl) ?_
          refine Wl.nil ?_
          refine PX.then_n ?_
          refine CT.seq ?_
          refine CT.cond rfl (fun h45 => ?_) (fun h45 => ?_)
          · -- if t45: then
            have h45 := of_decide_eq_true h45
            refine CT.skip ?_
            refine PX.then_n ?_
            refine CT.seq ?_
            refine CT.block ?_
            refine CT.seq ?_
            -- region 15: ref.go:29
            refine CT.region ?_
            refine Wl.q rfl rfl (OpQ.index1 H_un25 H_sz3 rfl rfl (by omega) (hm.now.2.isSome (j := 0) (by rw [List.length_map]; omega))) ?_
            refine Wl.q rfl rfl (OpQ.loadG H_sc3 rfl (fun w hH => (hH.use hm).2) (getMap zi m_.lets 0 (j := k) (by omega))) ?_
            refine Wl.q rfl rfl (OpQ.assign rfl) ?_
            refine Wl.nil ?_
            refine PX.then_n ?_
            refine CT.seq ?_
            -- region 16: ref.go:30
            refine CT.region ?_
            refine Wl.q rfl rfl (OpQ.move rfl) ?_
            refine Wl.q rfl rfl (OpQ.lss rfl rfl) ?_
            refine Wl.q rfl rfl (OpQ.move rfl) ?_
            refine Wl.split 50 rfl (fun hg50 => ?_) (fun hg50 => ?_)
            · -- t50 = True
              have hg50 := of_decide_eq_true hg50
              refine Wl.skip rfl rfl ?_
              refine Wl.skip rfl rfl ?_
              refine Wl.skip rfl rfl ?_
              refine Wl.q rfl rfl (OpQ.pickT rfl rfl) ?_
              refine Wl.nil ?_
              refine PX.then_n ?_
              refine CT.condT rfl ?_
              refine CT.seq ?_
              -- region 17: ref.go:31
              refine CT.region ?_
              refine Wl.q rfl rfl (OpQ.assign rfl) ?_
              refine Wl.nil ?_
              refine PX.then_n ?_
              refine CT.ret ?_
              refine PX.block_r ?_
              refine PX.then_r ?_
              refine PX.then_r ?_
              refine PX.block_r ?_
              refine PX.then_r ?_
              refine PX.ret1 rfl rfl (fun w' hH => ?_)
              exact ⟨ret_i (mo_let hmay (by omega) (by omega) hsets (Go.Tl.get_bad (j := k) (d := 0) (by omega) (by rw [okA, decide_eq_false_iff_not]; omega))).symm, hH.ext⟩
            · -- t50 = False
              have hg50 := of_decide_eq_false hg50
              refine Wl.q rfl rfl (OpQ.move rfl) ?_
              refine Wl.q rfl rfl (OpQ.move rfl) ?_
              refine Wl.q rfl rfl (OpQ.geq rfl rfl) ?_
              refine Wl.q rfl rfl (OpQ.pickF rfl rfl) ?_
              refine Wl.nil ?_
              refine PX.then_n ?_
              refine CT.cond rfl (fun h54 => ?_) (fun h54 => ?_)
              · -- if t54: then
                have h54 := of_decide_eq_true h54
                refine CT.seq ?_
                -- region 17: ref.go:31
                refine CT.region ?_
                refine Wl.q rfl rfl (OpQ.assign rfl) ?_
                refine Wl.nil ?_
                refine PX.then_n ?_
                refine CT.ret ?_
                refine PX.block_r ?_
                refine PX.then_r ?_
                refine PX.then_r ?_
                refine PX.block_r ?_
                refine PX.then_r ?_
                refine PX.ret1 rfl rfl (fun w' hH => ?_)
                exact ⟨ret_i (mo_let hmay (by omega) (by omega) hsets (Go.Tl.get_bad (j := k) (d := 0) (by omega) (by rw [okA, decide_eq_false_iff_not]; omega))).symm, hH.ext⟩
              · -- if t54: else
                have h54 := of_decide_eq_false h54
                refine CT.skip ?_
                refine PX.block_n ?_
                refine PX.then_n ?_
                -- region 18: ref.go:29
                refine CT.region ?_
                refine Wl.q rfl rfl (OpQ.add rfl rfl (by omega)) ?_
                refine Wl.q rfl rfl (OpQ.move rfl) ?_
                refine Wl.nil ?_
                have hall2 : ∀ j, j < k + 1 → okA letters (m_.lets.getD j 0) = true := fun j hj => by
                  rcases Nat.lt_or_ge j k with h | h
                  · exact hall j h
                  · rw [show j = k by omega]; exact (by rw [okA, decide_eq_true_eq]; omega)
                exact PX.loop hK1 (k + 1) ⟨by omega, hall2⟩ (by first | omega | (dsimp only; omega)) ⟨rfl, rfl, rfl, rfl, trivial⟩ (HSub.refl _)
          · -- if t45: else
            have h45 := of_decide_eq_false h45
            refine CT.exit ?_
            refine PX.then_x ?_
            refine PX.then_x ?_
            refine PX.block_x ?_
            refine PX.then_n ?_
            refine CT.seq ?_
            -- region 19: ref.go:34
            refine CT.region ?_
            refine Wl.q rfl rfl (OpQ.assign rfl) ?_
            refine Wl.nil ?_
            refine PX.then_n ?_
            refine CT.ret ?_
            refine PX.ret1 rfl rfl (fun w' hH => ?_)
            exact ⟨ret_i (mo_ok hmay (by omega) (by omega) hsets (Go.Tl.all_get (d := 0) (fun j hj => hall j (by omega)))).symm, hH.ext⟩

theorem H_go56 : isGo Try.prog 56 = true := by kernel_rfl
set_option maxRecDepth 100000 in
/-- (*semigroup/temporal.translator).monomial -/
theorem monomial_spec (w : World) (b m : Nat) (xs : List Tm) (a : Option Addr) (c : Nat) (hpre : Pre [.row 71 2 (vb b) 1 [.slice a xs.length c, .map (some m)], .row 31 4 (.slice a xs.length c) xs.length (xs.flatMap tv), .blk m (mapO tk (itA 0 xs))] w) (hok : okL xs 6 = true) (hlen : xs.length ≤ 100000) (m_ : Mo) (hm : Stays (blks [.row 71 2 (vb b) 1 [.slice a xs.length c, .map (some m)], .row 31 4 (.slice a xs.length c) xs.length (xs.flatMap tv), .blk m (mapO tk (itA 0 xs))]) w (MoR m_)) (L : Nat) (hL : 1 ≤ L ∧ L ≤ 6) (he : moE m_ (L : Int) = 0) : Calls Try.prog 37 #[.pointer (some ⟨b, 0, none⟩), .agg (mov m_).toArray] w (fun e w' => ∃ i : List Tm × Nat × Option Addr × Nat, (Gr xs i.1 i.2.1 (costM L m_) (matM m_) ∧ Low (L : Int) xs i.1) ∧ e = .returned (.int .i64 ((i.2.1 : Nat) : Int)) ∧ Post (blks [.row 71 2 (vb b) 1 [.slice a xs.length c, .map (some m)], .row 31 4 (.slice a xs.length c) xs.length (xs.flatMap tv), .blk m (mapO tk (itA 0 xs))]) [.row 71 2 (vb b) 1 [.slice i.2.2.1 i.1.length i.2.2.2, .map (some m)], .row 31 4 (.slice i.2.2.1 i.1.length i.2.2.2) i.1.length (i.1.flatMap tv), .blk m (mapO tk (itA 0 i.1))] w w') := by
  obtain ⟨_, hll, hsl, hst, hlt⟩ := mo_parts he
  have hb1 : (2 * L + 4) * m_.lets.length ≤ 16 * 60 := Nat.mul_le_mul (by omega) hll
  obtain ⟨N, hN⟩ : ∃ N, N = m_.lets.length := ⟨_, rfl⟩
  refine enterX (args := [.pointer (some ⟨b, 0, none⟩), .agg (mov m_).toArray]) hpre 61 Try.func37 rfl rfl rfl ?_
  refine CT.seq ?_
  -- region 0: translate.go:59
  refine CT.region ?_
  refine Wl.g rfl rfl (OpG.box (size := 2) rfl rfl rfl) ?_
  rintro b3 _
  refine Wl.q rfl rfl (OpQ.assign rfl) ?_
  refine Wl.nil ?_
  refine PX.then_n ?_
  refine CT.seq ?_
  -- region 1: translate.go:60
  refine CT.region ?_
  refine Wl.q rfl rfl (OpQ.fieldAddr H_fa41_1 rfl) ?_
  refine Wl.q rfl rfl (OpQ.loadF (b := b3) H_sc25 rfl (by repeat (first | exact Has.here | apply Has.there)) (by rfl)) ?_
  refine Wl.q rfl rfl (OpQ.len H_un25 rfl) ?_
  refine Wl.q rfl rfl (OpQ.assign rfl) ?_
  refine Wl.nil ?_
  refine PX.then_n ?_
  refine CT.seq ?_
  -- region 2: translate.go:61
  refine CT.region ?_
  refine Wl.q rfl rfl (OpQ.move rfl) ?_
  refine Wl.q rfl rfl (OpQ.build (cells := #[.int .i64 3, .int .i64 0, .int .i64 0, .int .i64 0]) H_pl31 rfl rfl) ?_
  refine Wl.g rfl rfl (OpG.callX H_go55 rfl (.cons (.there .here) (.cons (.there .here) (.cons (.there .here) .nil))) (fun _ => (.cons (.cons (.cons .nil)))) (fun w hH hp => add_spec w b m xs a c hp (by omega) ⟨3, 0, 0, 0⟩)) ?_
  rintro ⟨a16, c16⟩ _
  have g16 := gr_end hok
  have o16 : Low (L : Int) xs (add1 xs ⟨3, 0, 0, 0⟩).1 := Low.add0 (by decide)
  have l16 := g16.len
  have n16 := g16.mono
  have q16 := g16.lt
  refine Wl.know 16 (v' := .int .i64 (((add1 xs ⟨3, 0, 0, 0⟩).2 : Nat) : Int)) rfl rfl ?_
  refine Wl.q rfl rfl (OpQ.assign rfl) ?_
  refine Wl.nil ?_
  refine PX.then_n ?_
  refine CT.seq ?_
  -- region 3: translate.go:62
  refine CT.region ?_
  refine Wl.q rfl rfl (OpQ.move rfl) ?_
  refine Wl.q rfl rfl (OpQ.move rfl) ?_
  refine Wl.q rfl rfl (OpQ.fieldAddr H_fa41_0 rfl) ?_
  refine Wl.q rfl rfl (OpQ.loadF (b := b3) H_sc25 rfl (by repeat (first | exact Has.here | apply Has.there)) (by rfl)) ?_
  refine Wl.q rfl rfl (OpQ.move rfl) ?_
  refine Wl.q rfl rfl (OpQ.index1 H_un25 H_sz3 rfl rfl (by omega) (hm.now.1.isSome (j := 0) (by rw [List.length_map]; omega))) ?_
  refine Wl.q rfl rfl (OpQ.loadG H_sc3 rfl (fun w hH => (hH.use hm).1) (getMap zi m_.sets 0 (j := m_.lets.length) (by omega))) ?_
  refine Wl.g rfl rfl (OpG.callX H_go56 rfl (.cons .here (.cons .here (.cons .here .nil))) (fun _ => (.cons (.cons (.cons .nil)))) (fun w hH hp => one_spec w b m (add1 xs ⟨3, 0, 0, 0⟩).1 a16 c16 hp g16.ok (by omega) (m_.sets.getD m_.lets.length 0) L hL (okS_get hst (by omega)))) ?_
  rintro ⟨xs24, r24, a24, c24⟩ g24
  dsimp only at g24
  obtain ⟨g24, o24⟩ := g24
  have l24 := g24.len
  have n24 := g24.mono
  have q24 := g24.lt
  refine Wl.know 24 (v' := .int .i64 ((r24 : Nat) : Int)) rfl rfl ?_
  refine Wl.q rfl rfl (OpQ.move rfl) ?_
  refine Wl.q rfl rfl (OpQ.build (cells := #[.int .i64 8, .int .i64 0, .int .i64 ((r24 : Nat) : Int), .int .i64 (((add1 xs ⟨3, 0, 0, 0⟩).2 : Nat) : Int)]) H_pl31 rfl rfl) ?_
  refine Wl.g rfl rfl (OpG.callX H_go55 rfl (.cons .here (.cons .here (.cons .here .nil))) (fun _ => (.cons (.cons (.cons .nil)))) (fun w hH hp => add_spec w b m xs24 a24 c24 hp (by omega) ⟨8, 0, (r24 : Nat), ((add1 xs ⟨3, 0, 0, 0⟩).2 : Nat)⟩)) ?_
  rintro ⟨a27, c27⟩ _
  have g27 := gr_until g24.ok g24.lt g24.val (show (add1 xs ⟨3, 0, 0, 0⟩).2 < xs24.length by omega) (g24.keep g16.lt g16.val)
  have o27 : Low (L : Int) xs24 (add1 xs24 ⟨8, 0, (r24 : Nat), ((add1 xs ⟨3, 0, 0, 0⟩).2 : Nat)⟩).1 := Low.add0 (by decide)
  have l27 := g27.len
  have n27 := g27.mono
  have q27 := g27.lt
  refine Wl.know 27 (v' := .int .i64 (((add1 xs24 ⟨8, 0, (r24 : Nat), ((add1 xs ⟨3, 0, 0, 0⟩).2 : Nat)⟩).2 : Nat) : Int)) rfl rfl ?_
  refine Wl.q rfl rfl (OpQ.assign rfl) ?_
  refine Wl.nil ?_
  refine PX.then_n ?_
  refine CT.seq ?_
  refine CT.seq ?_
  -- region 4: translate.go:63
  refine CT.region ?_
  refine Wl.q rfl rfl (OpQ.move rfl) ?_
  refine Wl.q rfl rfl (OpQ.sub rfl rfl (by omega)) ?_
  refine Wl.q rfl rfl (OpQ.assign rfl) ?_
  refine Wl.nil ?_
  refine PX.then_n ?_
  refine CT.block ?_
  -- the loop at region 5
  refine CT.loop (ι := Nat × List Tm × Nat × Option Addr × Nat) (fun (j, x1, r1, a', c') => j ≤ m_.lets.length ∧ Gr xs x1 r1 (2 * L + 2 + (2 * L + 4) * (m_.lets.length - j)) (matB (m_.sets.drop j) (m_.lets.drop j)) ∧ Low (L : Int) xs x1) (fun (j, x1, r1, a', c') => [(0, .pointer (some ⟨b, 0, none⟩)), (3, .pointer (some ⟨b3, 0, none⟩)), (7, .int .i64 ((r1 : Nat) : Int)), (8, .int .i64 ((j : Int) - 1))]) (fun (j, x1, r1, a', c') => [.row 71 2 (vb b) 1 [.slice a' x1.length c', .map (some m)], .row 31 4 (.slice a' x1.length c') x1.length (x1.flatMap tv), .blk m (mapO tk (itA 0 x1)), .row 41 2 (vb b3) 1 (mov m_)]) (fun (j, x1, r1, a', c') => j) (m_.lets.length, (add1 xs24 ⟨8, 0, (r24 : Nat), ((add1 xs ⟨3, 0, 0, 0⟩).2 : Nat)⟩).1, (add1 xs24 ⟨8, 0, (r24 : Nat), ((add1 xs ⟨3, 0, 0, 0⟩).2 : Nat)⟩).2, a27, c27) ⟨by omega, gr_last rfl hsl g16 g24 g27, o16.trans (o24.trans o27)⟩ ⟨rfl, rfl, rfl, rfl, trivial⟩ (HSub.refl _) (fun ⟨j, x1, r1, a', c'⟩ ⟨hj, gx, hlo⟩ K0 hK0 => ?_)
  dsimp only
  refine CT.seq ?_
  refine CT.seq ?_
  -- region 5: translate.go:63
  refine CT.region ?_
  refine Wl.q rfl rfl (OpQ.move rfl) ?_
  refine Wl.q rfl rfl (OpQ.geq rfl rfl) ?_
  refine Wl.nil ?_
  refine PX.then_n ?_
  refine CT.cond rfl (fun h31 => ?_) (fun h31 => ?_)
  · -- if t31: then
    have h31 := of_decide_eq_true h31
    obtain ⟨i, rfl⟩ : ∃ i, j = i + 1 := ⟨j - 1, by omega⟩
    refine CT.know 8 (v' := .int .i64 (i : Int)) rfl (congrArg (Value.int .i64) (by omega)) ?_
    have hb2 : (2 * L + 4) * (m_.lets.length - (i + 1)) ≤ (2 * L + 4) * m_.lets.length := Nat.mul_le_mul_left _ (by omega)
    have lx := gx.len
    have qx := gx.lt
    refine CT.skip ?_
    refine PX.then_n ?_
    refine CT.seq ?_
    refine CT.block ?_
    refine CT.seq ?_
    -- region 7: translate.go:64
    refine CT.region ?_
    refine Wl.q rfl rfl (OpQ.move rfl) ?_
    refine Wl.q rfl rfl (OpQ.move rfl) ?_
    refine Wl.q rfl rfl (OpQ.build (cells := #[.int .i64 7, .int .i64 0, .int .i64 ((r1 : Nat) : Int), .int .i64 0]) H_pl31 rfl rfl) ?_
    refine Wl.g rfl rfl (OpG.callX H_go55 rfl (.cons .here (.cons .here (.cons .here .nil))) (fun _ => (.cons (.cons (.cons .nil)))) (fun w hH hp => add_spec w b m x1 a' c' hp (by omega) ⟨7, 0, (r1 : Nat), 0⟩)) ?_
    rintro ⟨a37, c37⟩ _
    have g37 := gr_next gx.ok gx.lt gx.val
    have o37 : Low (L : Int) x1 (add1 x1 ⟨7, 0, (r1 : Nat), 0⟩).1 := Low.add0 (by decide)
    have l37 := g37.len
    have n37 := g37.mono
    have q37 := g37.lt
    refine Wl.know 37 (v' := .int .i64 (((add1 x1 ⟨7, 0, (r1 : Nat), 0⟩).2 : Nat) : Int)) rfl rfl ?_
    refine Wl.q rfl rfl (OpQ.assign rfl) ?_
    refine Wl.nil ?_
    refine PX.then_n ?_
    refine CT.seq ?_
    -- region 8: translate.go:65
    refine CT.region ?_
    refine Wl.q rfl rfl (OpQ.move rfl) ?_
    refine Wl.q rfl rfl (OpQ.move rfl) ?_
    refine Wl.q rfl rfl (OpQ.fieldAddr H_fa41_1 rfl) ?_
    refine Wl.q rfl rfl (OpQ.loadF (b := b3) H_sc25 rfl (by repeat (first | exact Has.here | apply Has.there)) (by rfl)) ?_
    refine Wl.q rfl rfl (OpQ.move rfl) ?_
    refine Wl.q rfl rfl (OpQ.index1 H_un25 H_sz3 rfl rfl (by omega) (hm.now.2.isSome (j := 0) (by rw [List.length_map]; omega))) ?_
    refine Wl.q rfl rfl (OpQ.loadG H_sc3 rfl (fun w hH => (hH.use hm).2) (getMap zi m_.lets 0 (j := i) (by omega))) ?_
    refine Wl.g rfl rfl (OpG.callX H_go57 rfl (.cons .here (.cons .here (.cons .here .nil))) (fun _ => (.cons (.cons (.cons .nil)))) (fun w hH hp => letter_spec w b m (add1 x1 ⟨7, 0, (r1 : Nat), 0⟩).1 a37 c37 hp g37.ok (by omega) (m_.lets.getD i 0) (by have := okA_get hlt (j := i) (by omega); omega))) ?_
    rintro ⟨xs45, r45, a45, c45⟩ g45
    dsimp only at g45
    obtain ⟨g45, o45⟩ := g45
    have l45 := g45.len
    have n45 := g45.mono
    have q45 := g45.lt
    refine Wl.know 45 (v' := .int .i64 ((r45 : Nat) : Int)) rfl rfl ?_
    refine Wl.q rfl rfl (OpQ.move rfl) ?_
    refine Wl.q rfl rfl (OpQ.build (cells := #[.int .i64 5, .int .i64 0, .int .i64 ((r45 : Nat) : Int), .int .i64 (((add1 x1 ⟨7, 0, (r1 : Nat), 0⟩).2 : Nat) : Int)]) H_pl31 rfl rfl) ?_
    refine Wl.g rfl rfl (OpG.callX H_go55 rfl (.cons .here (.cons .here (.cons .here .nil))) (fun _ => (.cons (.cons (.cons .nil)))) (fun w hH hp => add_spec w b m xs45 a45 c45 hp (by omega) ⟨5, 0, (r45 : Nat), ((add1 x1 ⟨7, 0, (r1 : Nat), 0⟩).2 : Nat)⟩)) ?_
    rintro ⟨a48, c48⟩ _
    have g48 := gr_and g45.ok g45.lt g45.val (show (add1 x1 ⟨7, 0, (r1 : Nat), 0⟩).2 < xs45.length by omega) (g45.keep g37.lt g37.val)
    have o48 : Low (L : Int) xs45 (add1 xs45 ⟨5, 0, (r45 : Nat), ((add1 x1 ⟨7, 0, (r1 : Nat), 0⟩).2 : Nat)⟩).1 := Low.add0 (by decide)
    have l48 := g48.len
    have n48 := g48.mono
    have q48 := g48.lt
    refine Wl.know 48 (v' := .int .i64 (((add1 xs45 ⟨5, 0, (r45 : Nat), ((add1 x1 ⟨7, 0, (r1 : Nat), 0⟩).2 : Nat)⟩).2 : Nat) : Int)) rfl rfl ?_
    refine Wl.q rfl rfl (OpQ.assign rfl) ?_
    refine Wl.nil ?_
    refine PX.then_n ?_
    -- region 9: translate.go:66
    refine CT.region ?_
    refine Wl.q rfl rfl (OpQ.move rfl) ?_
    refine Wl.q rfl rfl (OpQ.move rfl) ?_
    refine Wl.q rfl rfl (OpQ.fieldAddr H_fa41_0 rfl) ?_
    refine Wl.q rfl rfl (OpQ.loadF (b := b3) H_sc25 rfl (by repeat (first | exact Has.here | apply Has.there)) (by rfl)) ?_
    refine Wl.q rfl rfl (OpQ.move rfl) ?_
    refine Wl.q rfl rfl (OpQ.index1 H_un25 H_sz3 rfl rfl (by omega) (hm.now.1.isSome (j := 0) (by rw [List.length_map]; omega))) ?_
    refine Wl.q rfl rfl (OpQ.loadG H_sc3 rfl (fun w hH => (hH.use hm).1) (getMap zi m_.sets 0 (j := i) (by omega))) ?_
    refine Wl.g rfl rfl (OpG.callX H_go56 rfl (.cons .here (.cons .here (.cons .here .nil))) (fun _ => (.cons (.cons (.cons .nil)))) (fun w hH hp => one_spec w b m (add1 xs45 ⟨5, 0, (r45 : Nat), ((add1 x1 ⟨7, 0, (r1 : Nat), 0⟩).2 : Nat)⟩).1 a48 c48 hp g48.ok (by omega) (m_.sets.getD i 0) L hL (okS_get hst (by omega)))) ?_
    rintro ⟨xs56, r56, a56, c56⟩ g56
    dsimp only at g56
    obtain ⟨g56, o56⟩ := g56
    have l56 := g56.len
    have n56 := g56.mono
    have q56 := g56.lt
    refine Wl.know 56 (v' := .int .i64 ((r56 : Nat) : Int)) rfl rfl ?_
    refine Wl.q rfl rfl (OpQ.move rfl) ?_
    refine Wl.q rfl rfl (OpQ.build (cells := #[.int .i64 8, .int .i64 0, .int .i64 ((r56 : Nat) : Int), .int .i64 (((add1 xs45 ⟨5, 0, (r45 : Nat), ((add1 x1 ⟨7, 0, (r1 : Nat), 0⟩).2 : Nat)⟩).2 : Nat) : Int)]) H_pl31 rfl rfl) ?_
    refine Wl.g rfl rfl (OpG.callX H_go55 rfl (.cons .here (.cons .here (.cons .here .nil))) (fun _ => (.cons (.cons (.cons .nil)))) (fun w hH hp => add_spec w b m xs56 a56 c56 hp (by omega) ⟨8, 0, (r56 : Nat), ((add1 xs45 ⟨5, 0, (r45 : Nat), ((add1 x1 ⟨7, 0, (r1 : Nat), 0⟩).2 : Nat)⟩).2 : Nat)⟩)) ?_
    rintro ⟨a59, c59⟩ _
    have g59 := gr_until g56.ok g56.lt g56.val (show (add1 xs45 ⟨5, 0, (r45 : Nat), ((add1 x1 ⟨7, 0, (r1 : Nat), 0⟩).2 : Nat)⟩).2 < xs56.length by omega) (g56.keep g48.lt g48.val)
    have o59 : Low (L : Int) xs56 (add1 xs56 ⟨8, 0, (r56 : Nat), ((add1 xs45 ⟨5, 0, (r45 : Nat), ((add1 x1 ⟨7, 0, (r1 : Nat), 0⟩).2 : Nat)⟩).2 : Nat)⟩).1 := Low.add0 (by decide)
    have l59 := g59.len
    have n59 := g59.mono
    have q59 := g59.lt
    refine Wl.know 59 (v' := .int .i64 (((add1 xs56 ⟨8, 0, (r56 : Nat), ((add1 xs45 ⟨5, 0, (r45 : Nat), ((add1 x1 ⟨7, 0, (r1 : Nat), 0⟩).2 : Nat)⟩).2 : Nat)⟩).2 : Nat) : Int)) rfl rfl ?_
    refine Wl.q rfl rfl (OpQ.assign rfl) ?_
    refine Wl.nil ?_
    refine PX.block_n ?_
    refine PX.then_n ?_
    -- region 6: translate.go:63
    refine CT.region ?_
    refine Wl.q rfl rfl (OpQ.move rfl) ?_
    refine Wl.q rfl rfl (OpQ.sub rfl rfl (by omega)) ?_
    refine Wl.q rfl rfl (OpQ.assign rfl) ?_
    refine Wl.nil ?_
    exact PX.loop hK0 (i, (add1 xs56 ⟨8, 0, (r56 : Nat), ((add1 xs45 ⟨5, 0, (r45 : Nat), ((add1 x1 ⟨7, 0, (r1 : Nat), 0⟩).2 : Nat)⟩).2 : Nat)⟩).1, (add1 xs56 ⟨8, 0, (r56 : Nat), ((add1 xs45 ⟨5, 0, (r45 : Nat), ((add1 x1 ⟨7, 0, (r1 : Nat), 0⟩).2 : Nat)⟩).2 : Nat)⟩).2, a59, c59) ⟨by omega, gr_step (by omega) rfl hsl gx g37 g45 g48 g56 g59 (fun w => rfl), hlo.trans (o37.trans ((o45.more (by have := okA_get hlt (j := i) (by omega); omega)).trans (o48.trans (o56.trans o59))))⟩ (show i < i + 1 by omega) ⟨rfl, rfl, rfl, rfl, trivial⟩ (HSub.refl _)
  · -- if t31: else
    have h31 := of_decide_eq_false h31
    refine CT.exit ?_
    refine PX.then_x ?_
    refine PX.then_x ?_
    refine PX.block_x ?_
    refine PX.then_n ?_
    refine CT.seq ?_
    -- region 10: translate.go:68
    refine CT.region ?_
    refine Wl.q rfl rfl (OpQ.move rfl) ?_
    refine Wl.q rfl rfl (OpQ.assign rfl) ?_
    refine Wl.nil ?_
    refine PX.then_n ?_
    refine CT.ret ?_
    refine PX.ret1 rfl rfl (fun w' hH => ?_)
    obtain rfl : j = 0 := by omega
    exact ⟨(x1, r1, a', c'), ⟨gx.more (by rw [costM, Nat.sub_zero, Nat.mul_succ]; omega), hlo⟩, rfl, hH.post.sub (.keep rfl (.keep rfl (.keep rfl (.drop .nil))))⟩

theorem H_ag41 : isAggB Try.prog 41 = some true := by kernel_rfl
theorem H_in41 : (Try.prog.info? 41).map (fun i => (i.zero, i.size, i.bytes)) = some (some (.agg #[.slice none 0 0, .slice none 0 0]), 2, 48) := by kernel_rfl
theorem H_go44 : isGo Try.prog 44 = true := by kernel_rfl
set_option maxRecDepth 100000 in
/-- semigroup/semigroupref35.MayList -/
theorem maylist_spec (w : World) (a : Option Addr) (cp : Nat) (ms : List Mo) (hr : Stays [] w (fun w => Rd w a (ms.flatMap mov) ∧ mos ms w)) (hn : ms.length ≤ 9223372036854775807) (letters : Int) : Calls Try.prog 23 #[.slice a ms.length cp, .int .i64 (letters)] w (fun e w' => e = .returned (.int .i64 (moL ms letters)) ∧ Ext [] w w') := by
  refine enter (args := [.slice a ms.length cp, .int .i64 (letters)]) [] 27 Try.func23 rfl rfl rfl ?_
  refine CT.seq ?_
  -- region 0: ref.go:136
  refine CT.region ?_
  refine Wl.q rfl rfl (OpQ.assign rfl) ?_
  refine Wl.nil ?_
  refine PX.then_n ?_
  refine CT.seq ?_
  refine CT.seq ?_
  -- region 1: ref.go:137
  refine CT.region ?_
  refine Wl.q rfl rfl (OpQ.move rfl) ?_
  refine Wl.g rfl rfl (OpG.callV H_go39 rfl (fun w hH => may_spec w letters)) ?_
  rintro _ _
  refine Wl.q rfl rfl (OpQ.not rfl) ?_
  refine Wl.nil ?_
  refine PX.then_n ?_
  refine CT.cond rfl (fun h10 => ?_) (fun h10 => ?_)
  · -- if t10: then
    have hmay : mayL letters = false := by simpa using h10
    refine CT.seq ?_
    -- region 2: ref.go:138
    refine CT.region ?_
    refine Wl.q rfl rfl (OpQ.assign rfl) ?_
    refine Wl.nil ?_
    refine PX.then_n ?_
    refine CT.ret ?_
    refine PX.then_r ?_
    refine PX.ret1 rfl rfl (fun w' hH => ?_)
    exact ⟨ret_i (by rw [moL, if_pos hmay]), hH.ext⟩
  · -- if t10: else
    have hmay : mayL letters = true := by simpa using h10
    refine CT.skip ?_
    refine PX.then_n ?_
    refine CT.seq ?_
    refine CT.seq ?_
    -- region 3: ref.go:140
    refine CT.region ?_
    refine Wl.q rfl rfl (OpQ.move rfl) ?_
    refine Wl.q rfl rfl (OpQ.len H_un35 rfl) ?_
    refine Wl.q rfl rfl (OpQ.gtr rfl rfl) ?_
    refine Wl.nil ?_
    refine PX.then_n ?_
    refine CT.cond rfl (fun h13 => ?_) (fun h13 => ?_)
    · -- if t13: then
      have h13 := of_decide_eq_true h13
      refine CT.seq ?_
      -- region 4: ref.go:141
      refine CT.region ?_
      refine Wl.q rfl rfl (OpQ.assign rfl) ?_
      refine Wl.nil ?_
      refine PX.then_n ?_
      refine CT.ret ?_
      refine PX.then_r ?_
      refine PX.ret1 rfl rfl (fun w' hH => ?_)
      exact ⟨ret_i (by rw [moL, if_neg (by rw [hmay]; decide), if_pos (by omega)]), hH.ext⟩
    · -- if t13: else
      have h13 := of_decide_eq_false h13
      refine CT.skip ?_
      refine PX.then_n ?_
      refine CT.seq ?_
      refine CT.seq ?_
      -- region 5: ref.go:143
      refine CT.region ?_
      refine Wl.q rfl rfl (OpQ.move rfl) ?_
      refine Wl.q rfl rfl (OpQ.len H_un35 rfl) ?_
      refine Wl.q rfl rfl (OpQ.move rfl) ?_
      refine Wl.nil ?_
      refine PX.then_n ?_
      refine CT.block ?_
      -- the loop at region 6
      refine CT.loop (ι := Nat) (fun k => k ≤ ms.length ∧ ∀ j, j < k → moE (ms.getD j m0) letters = 0) (fun k => [(1, .int .i64 (letters)), (14, .slice a ms.length cp), (15, .int .i64 (ms.length : Int)), (16, .int .i64 (k : Int))]) (fun _ => []) (fun k => ms.length - k) 0 ⟨by omega, by omega⟩ ⟨rfl, rfl, rfl, rfl, trivial⟩ (HSub.none _) (fun k ⟨hk, hall⟩ K0 hK0 => ?_)
      refine CT.seq ?_
      -- region 6: ref.go:143
      refine CT.region ?_
      refine Wl.q rfl rfl (OpQ.lss rfl rfl) ?_
      refine Wl.nil ?_
      refine PX.then_n ?_
      refine CT.seq ?_
      refine CT.cond rfl (fun h17 => ?_) (fun h17 => ?_)
      · -- if t17: then
        have h17 := of_decide_eq_true h17
        refine CT.skip ?_
        refine PX.then_n ?_
        refine CT.seq ?_
        refine CT.block ?_
        refine CT.seq ?_
        -- region 7: ref.go:143
        refine CT.region ?_
        refine Wl.q rfl rfl (OpQ.index H_un35 H_sz41 rfl rfl (by omega) (hr.now.1.isSome (j := 0) (by rw [flat_len mov_len]; omega))) ?_
        refine Wl.q rfl rfl (OpQ.loadAggG (cs := mov (ms.getD k m0)) H_ag41 H_sz41 rfl (fun w hH => (hH.use hr).1) (flat_cells mov_len ms m0 (by omega))) ?_
        refine Wl.g rfl rfl (OpG.alloc (zs := [.slice none 0 0, .slice none 0 0]) H_in41 rfl rfl) ?_
        rintro b6 _
        refine Wl.g rfl rfl (OpG.storeV (b := b6) H_sz41 rfl rfl rfl rfl (by repeat (first | exact Upd.here | apply Upd.there))) ?_
        rintro _ _
        refine Wl.nil ?_
        refine PX.then_n ?_
        refine CT.seq ?_
        -- region 8: ref.go:144
        refine CT.region ?_
        refine Wl.q rfl rfl (OpQ.loadV (b := b6) H_ag41 H_sz41 rfl (by repeat (first | exact Has.here | apply Has.there)) (by rfl)) ?_
        refine Wl.q rfl rfl (OpQ.move rfl) ?_
        refine Wl.g rfl rfl (OpG.callV H_go44 rfl (fun w hH => movalidR_spec w (ms.getD k m0) (fun w1 he => (hr w1 ((hH.ext).trans he)).2 _ (getD_mem' (by omega))) letters)) ?_
        rintro _ _
        refine Wl.q rfl rfl (OpQ.assign rfl) ?_
        refine Wl.nil ?_
        refine PX.then_n ?_
        refine CT.seq ?_
        -- region 9: ref.go:144
        refine CT.region ?_
        refine Wl.q rfl rfl (OpQ.move rfl) ?_
        refine Wl.q rfl rfl (OpQ.neq rfl rfl) ?_
        refine Wl.nil ?_
        refine PX.then_n ?_
        refine CT.cond rfl (fun h24 => ?_) (fun h24 => ?_)
        · -- if t24: then
          have h24 := of_nd_t h24
          refine CT.seq ?_
          -- region 10: ref.go:145
          refine CT.region ?_
          refine Wl.q rfl rfl (OpQ.move rfl) ?_
          refine Wl.q rfl rfl (OpQ.assign rfl) ?_
          refine Wl.nil ?_
          refine PX.then_n ?_
          refine CT.ret ?_
          refine PX.block_r ?_
          refine PX.then_r ?_
          refine PX.then_r ?_
          refine PX.block_r ?_
          refine PX.then_r ?_
          refine PX.ret1 rfl rfl (fun w' hH => ?_)
          exact ⟨ret_i (by rw [moL, if_neg (by rw [hmay]; decide), if_neg (by omega), firstE_hit hall (by omega) h24]), hH.ext⟩
        · -- if t24: else
          have h24 := of_nd_f h24
          refine CT.skip ?_
          refine PX.block_n ?_
          refine PX.then_n ?_
          -- region 11: ref.go:143
          refine CT.region ?_
          refine Wl.q rfl rfl (OpQ.add rfl rfl (by omega)) ?_
          refine Wl.q rfl rfl (OpQ.move rfl) ?_
          refine Wl.nil ?_
          have hall2 : ∀ j, j < k + 1 → moE (ms.getD j m0) letters = 0 := fun j hj => by
            rcases Nat.lt_or_ge j k with h | h
            · exact hall j h
            · rw [show j = k by omega]; exact h24
          exact PX.loop hK0 (k + 1) ⟨by omega, hall2⟩ (by first | omega | (dsimp only; omega)) ⟨rfl, rfl, rfl, rfl, trivial⟩ (HSub.none _)
      · -- if t17: else
        have h17 := of_decide_eq_false h17
        refine CT.exit ?_
        refine PX.then_x ?_
        refine PX.then_x ?_
        refine PX.block_x ?_
        refine PX.then_n ?_
        refine CT.seq ?_
        -- region 12: ref.go:148
        refine CT.region ?_
        refine Wl.q rfl rfl (OpQ.assign rfl) ?_
        refine Wl.nil ?_
        refine PX.then_n ?_
        refine CT.ret ?_
        refine PX.ret1 rfl rfl (fun w' hH => ?_)
        exact ⟨ret_i (by rw [moL, if_neg (by rw [hmay]; decide), if_neg (by omega), firstE_ok (fun j hj => hall j (by omega))]), hH.ext⟩

theorem H_go35 : isGo Try.prog 35 = true := by kernel_rfl
theorem H_pl71 : placesB Try.prog 71 = some (#[.slice none 0 0, .map none], [(0, 1), (1, 1)]) := by kernel_rfl
theorem H_go37 : isGo Try.prog 37 = true := by kernel_rfl
set_option maxRecDepth 100000 in
/-- semigroup/temporal.Of -/
theorem of_spec (w : World) (a : Option Addr) (cp : Nat) (ms : List Mo) (hr : Stays [] w (fun w => Rd w a (ms.flatMap mov) ∧ mos ms w)) (hcp : ms.length ≤ cp) (letters : Int) (hn : ms.length ≤ 10) : Calls Try.prog 18 #[.slice a ms.length cp, .int .i64 (letters)] w (fun e w' => ∃ i : List Tm × Nat × Option Addr × Nat, ((moL ms letters ≠ 0 → i.1 = [] ∧ i.2.1 = 0) ∧ (moL ms letters = 0 → okL i.1 6 = true ∧ okL i.1 letters = true ∧ i.2.1 < i.1.length ∧ i.1.length ≤ costA letters.toNat ms + 2 ∧ ∀ w, okW w 6 = true → vl i.1 i.2.1 w = matA ms w)) ∧ e = .returned (.tuple #[.slice i.2.2.1 i.1.length i.2.2.2, .int .i64 ((i.2.1 : Nat) : Int), .int .i64 (moL ms letters)]) ∧ Post [] [.row 31 4 (.slice i.2.2.1 i.1.length i.2.2.2) i.1.length (i.1.flatMap tv)] w w') := by
  refine enter (args := [.slice a ms.length cp, .int .i64 (letters)]) [] 74 Try.func18 rfl rfl rfl ?_
  refine CT.seq ?_
  -- region 0: translate.go:72
  refine CT.region ?_
  refine Wl.q rfl rfl (OpQ.assign rfl) ?_
  refine Wl.q rfl rfl (OpQ.assign rfl) ?_
  refine Wl.q rfl rfl (OpQ.assign rfl) ?_
  refine Wl.nil ?_
  refine PX.then_n ?_
  refine CT.seq ?_
  refine CT.seq ?_
  -- region 1: translate.go:73
  refine CT.region ?_
  refine Wl.q rfl rfl (OpQ.move rfl) ?_
  refine Wl.q rfl rfl (OpQ.lss rfl rfl) ?_
  refine Wl.q rfl rfl (OpQ.move rfl) ?_
  refine Wl.split 17 rfl (fun hg17 => ?_) (fun hg17 => ?_)
  · -- t17 = True
    have hg17 := of_decide_eq_true hg17
    refine Wl.skip rfl rfl ?_
    refine Wl.skip rfl rfl ?_
    refine Wl.q rfl rfl (OpQ.pickT rfl rfl) ?_
    refine Wl.nil ?_
    refine PX.then_n ?_
    refine CT.condT rfl ?_
    refine CT.seq ?_
    -- region 2: translate.go:74
    refine CT.region ?_
    refine Wl.q rfl rfl (OpQ.assign rfl) ?_
    refine Wl.q rfl rfl (OpQ.assign rfl) ?_
    refine Wl.q rfl rfl (OpQ.assign rfl) ?_
    refine Wl.nil ?_
    refine PX.then_n ?_
    refine CT.ret ?_
    refine PX.then_r ?_
    refine PX.ret3 rfl rfl rfl rfl (fun w' hH => ?_)
    have h1 : moL ms letters = 1 := by rw [moL, if_pos (by rw [mayL, decide_eq_false_iff_not]; omega)]
    exact ⟨([], 0, none, 0), ⟨fun _ => ⟨rfl, rfl⟩, fun h => absurd (h1.symm.trans h) (by decide)⟩, by rw [h1]; rfl, (HOk.post ((hH.take (L := []) .nil).nilrow 31 4))⟩
  · -- t17 = False
    have hg17 := of_decide_eq_false hg17
    refine Wl.q rfl rfl (OpQ.move rfl) ?_
    refine Wl.q rfl rfl (OpQ.gtr rfl rfl) ?_
    refine Wl.q rfl rfl (OpQ.pickF rfl rfl) ?_
    refine Wl.nil ?_
    refine PX.then_n ?_
    refine CT.cond rfl (fun h20 => ?_) (fun h20 => ?_)
    · -- if t20: then
      have h20 := of_decide_eq_true h20
      refine CT.seq ?_
      -- region 2: translate.go:74
      refine CT.region ?_
      refine Wl.q rfl rfl (OpQ.assign rfl) ?_
      refine Wl.q rfl rfl (OpQ.assign rfl) ?_
      refine Wl.q rfl rfl (OpQ.assign rfl) ?_
      refine Wl.nil ?_
      refine PX.then_n ?_
      refine CT.ret ?_
      refine PX.then_r ?_
      refine PX.ret3 rfl rfl rfl rfl (fun w' hH => ?_)
      have h1 : moL ms letters = 1 := by rw [moL, if_pos (by rw [mayL, decide_eq_false_iff_not]; omega)]
      exact ⟨([], 0, none, 0), ⟨fun _ => ⟨rfl, rfl⟩, fun h => absurd (h1.symm.trans h) (by decide)⟩, by rw [h1]; rfl, (HOk.post ((hH.take (L := []) .nil).nilrow 31 4))⟩
    · -- if t20: else
      have h20 := of_decide_eq_false h20
      have hmay : mayL letters = true := by rw [mayL, decide_eq_true_eq]; omega
      refine CT.skip ?_
      refine PX.then_n ?_
      refine CT.seq ?_
      refine CT.seq ?_
      -- region 3: translate.go:76
      refine CT.region ?_
      refine Wl.q rfl rfl (OpQ.move rfl) ?_
      refine Wl.q rfl rfl (OpQ.len H_un35 rfl) ?_
      refine Wl.q rfl rfl (OpQ.gtr rfl rfl) ?_
      refine Wl.nil ?_
      refine PX.then_n ?_
      refine CT.cond rfl (fun h23 => ?_) (fun h23 => ?_)
      · -- if t23: then
        have h23 := of_decide_eq_true h23
        refine CT.seq ?_
        -- region 4: translate.go:77
        refine CT.region ?_
        refine Wl.q rfl rfl (OpQ.assign rfl) ?_
        refine Wl.q rfl rfl (OpQ.assign rfl) ?_
        refine Wl.q rfl rfl (OpQ.assign rfl) ?_
        refine Wl.nil ?_
        refine PX.then_n ?_
        refine CT.ret ?_
        refine PX.then_r ?_
        refine PX.ret3 rfl rfl rfl rfl (fun w' hH => ?_)
        have h1 : moL ms letters = 3 := by rw [moL, if_neg (by rw [hmay]; decide), if_pos (by omega)]
        exact ⟨([], 0, none, 0), ⟨fun _ => ⟨rfl, rfl⟩, fun h => absurd (h1.symm.trans h) (by decide)⟩, by rw [h1]; rfl, (HOk.post ((hH.take (L := []) .nil).nilrow 31 4))⟩
      · -- if t23: else
        have h23 := of_decide_eq_false h23
        refine CT.skip ?_
        refine PX.then_n ?_
        refine CT.seq ?_
        refine CT.seq ?_
        -- region 5: translate.go:79
        refine CT.region ?_
        refine Wl.q rfl rfl (OpQ.move rfl) ?_
        refine Wl.q rfl rfl (OpQ.len H_un35 rfl) ?_
        refine Wl.q rfl rfl (OpQ.move rfl) ?_
        refine Wl.nil ?_
        refine PX.then_n ?_
        refine CT.block ?_
        -- the loop at region 6
        refine CT.loop (ι := Nat) (fun k => k ≤ ms.length ∧ ∀ j, j < k → moE (ms.getD j m0) letters = 0) (fun k => [(0, .slice a ms.length cp), (1, .int .i64 (letters)), (24, .slice a ms.length cp), (25, .int .i64 (ms.length : Int)), (26, .int .i64 (k : Int))]) (fun _ => []) (fun k => ms.length - k) 0 ⟨by omega, by omega⟩ ⟨rfl, rfl, rfl, rfl, rfl, trivial⟩ (HSub.none _) (fun k ⟨hk, hall⟩ K0 hK0 => ?_)
        refine CT.seq ?_
        -- region 6: translate.go:79
        refine CT.region ?_
        refine Wl.q rfl rfl (OpQ.lss rfl rfl) ?_
        refine Wl.nil ?_
        refine PX.then_n ?_
        refine CT.seq ?_
        refine CT.cond rfl (fun h27 => ?_) (fun h27 => ?_)
        · -- if t27: then
          have h27 := of_decide_eq_true h27
          refine CT.skip ?_
          refine PX.then_n ?_
          refine CT.seq ?_
          refine CT.block ?_
          refine CT.seq ?_
          -- region 7: translate.go:79
          refine CT.region ?_
          refine Wl.q rfl rfl (OpQ.index H_un35 H_sz41 rfl rfl (by omega) (hr.now.1.isSome (j := 0) (by rw [flat_len mov_len]; omega))) ?_
          refine Wl.q rfl rfl (OpQ.loadAggG (cs := mov (ms.getD k m0)) H_ag41 H_sz41 rfl (fun w hH => (hH.use hr).1) (flat_cells mov_len ms m0 (by omega))) ?_
          refine Wl.g rfl rfl (OpG.alloc (zs := [.slice none 0 0, .slice none 0 0]) H_in41 rfl rfl) ?_
          rintro b8 _
          refine Wl.g rfl rfl (OpG.storeV (b := b8) H_sz41 rfl rfl rfl rfl (by repeat (first | exact Upd.here | apply Upd.there))) ?_
          rintro _ _
          refine Wl.nil ?_
          refine PX.then_n ?_
          refine CT.seq ?_
          -- region 8: translate.go:80
          refine CT.region ?_
          refine Wl.q rfl rfl (OpQ.loadV (b := b8) H_ag41 H_sz41 rfl (by repeat (first | exact Has.here | apply Has.there)) (by rfl)) ?_
          refine Wl.q rfl rfl (OpQ.move rfl) ?_
          refine Wl.g rfl rfl (OpG.callV H_go35 rfl (fun w hH => movalid_spec w (ms.getD k m0) ((hH.stays0 hr).mono (fun w h => h.2 (ms.getD k m0) (getD_mem' (by omega)))) letters)) ?_
          rintro _ _
          refine Wl.q rfl rfl (OpQ.assign rfl) ?_
          refine Wl.nil ?_
          refine PX.then_n ?_
          refine CT.seq ?_
          -- region 9: translate.go:80
          refine CT.region ?_
          refine Wl.q rfl rfl (OpQ.move rfl) ?_
          refine Wl.q rfl rfl (OpQ.neq rfl rfl) ?_
          refine Wl.nil ?_
          refine PX.then_n ?_
          refine CT.cond rfl (fun h34 => ?_) (fun h34 => ?_)
          · -- if t34: then
            have h34 := of_nd_t h34
            refine CT.seq ?_
            -- region 10: translate.go:81
            refine CT.region ?_
            refine Wl.q rfl rfl (OpQ.move rfl) ?_
            refine Wl.q rfl rfl (OpQ.assign rfl) ?_
            refine Wl.q rfl rfl (OpQ.assign rfl) ?_
            refine Wl.q rfl rfl (OpQ.assign rfl) ?_
            refine Wl.nil ?_
            refine PX.then_n ?_
            refine CT.ret ?_
            refine PX.block_r ?_
            refine PX.then_r ?_
            refine PX.then_r ?_
            refine PX.block_r ?_
            refine PX.then_r ?_
            refine PX.ret3 rfl rfl rfl rfl (fun w' hH => ?_)
            have h1 : moL ms letters = moE (ms.getD k m0) letters := by rw [moL, if_neg (by rw [hmay]; decide), if_neg (by omega)]; exact firstE_hit hall (by omega) h34
            exact ⟨([], 0, none, 0), ⟨fun _ => ⟨rfl, rfl⟩, fun h => absurd (h1.symm.trans h) h34⟩, by rw [h1]; rfl, (HOk.post ((hH.take (L := []) .nil).nilrow 31 4))⟩
          · -- if t34: else
            have h34 := of_nd_f h34
            refine CT.skip ?_
            refine PX.block_n ?_
            refine PX.then_n ?_
            -- region 11: translate.go:79
            refine CT.region ?_
            refine Wl.q rfl rfl (OpQ.add rfl rfl (by omega)) ?_
            refine Wl.q rfl rfl (OpQ.move rfl) ?_
            refine Wl.nil ?_
            have hall2 : ∀ j, j < k + 1 → moE (ms.getD j m0) letters = 0 := fun j hj => by
              rcases Nat.lt_or_ge j k with h | h
              · exact hall j h
              · rw [show j = k by omega]; exact h34
            exact PX.loop hK0 (k + 1) ⟨by omega, hall2⟩ (by first | omega | (dsimp only; omega)) ⟨rfl, rfl, rfl, rfl, rfl, trivial⟩ (HSub.none _)
        · -- if t27: else
          have h27 := of_decide_eq_false h27
          refine CT.exit ?_
          refine PX.then_x ?_
          refine PX.then_x ?_
          refine PX.block_x ?_
          refine PX.then_n ?_
          refine CT.seq ?_
          -- region 12: translate.go:84
          refine CT.region ?_
          obtain rfl : k = ms.length := by omega
          have hz : moL ms letters = 0 := by rw [moL, if_neg (by rw [hmay]; decide), if_neg (by omega)]; exact firstE_ok (fun j hj => hall j (by omega))
          have hml := mayL_le hmay
          obtain ⟨L, hLL⟩ : ∃ L : Nat, letters = L := ⟨letters.toNat, by omega⟩
          subst hLL
          have hcl : ∀ m ∈ ms, costM L m ≤ 1000 := fun m hm => by
            have h1 := (mo_parts (firstE_get (by rw [moL, if_neg (by rw [hmay]; decide), if_neg (by omega)] at hz; exact hz) m hm)).2.1
            exact Nat.le_trans (Nat.mul_le_mul (show 2 * L + 4 ≤ 16 by omega) (show m.lets.length + 1 ≤ 61 by omega)) (by decide)
          have hcj : ∀ j, costA L (ms.take j) ≤ 10010 := fun j => costA_le hcl hn j
          refine Wl.g rfl rfl (OpG.makeMap (f := tk)) ?_
          rintro b37 _
          refine Wl.q rfl rfl (OpQ.build (cells := #[.slice none 0 0, .map (some b37)]) H_pl71 rfl rfl) ?_
          refine Wl.g rfl rfl (OpG.box (size := 2) rfl rfl rfl) ?_
          rintro b39 _
          refine Wl.q rfl rfl (OpQ.assign rfl) ?_
          refine Wl.nil ?_
          refine PX.then_n ?_
          refine CT.seq ?_
          refine CT.seq ?_
          -- region 13: translate.go:85
          refine CT.region ?_
          refine Wl.q rfl rfl (OpQ.move rfl) ?_
          refine Wl.q rfl rfl (OpQ.len H_un35 rfl) ?_
          refine Wl.q rfl rfl (OpQ.eql rfl rfl) ?_
          refine Wl.nil ?_
          refine PX.then_n ?_
          refine CT.cond rfl (fun h42 => ?_) (fun h42 => ?_)
          · -- if t42: then
            have h42 := of_decide_eq_true h42
            have hms0 : ms = [] := List.eq_nil_of_length_eq_zero (by omega)
            refine CT.nilrow 31 4 ?_
            refine CT.as (fun _ h => h.take (.cons (.there .here) (.cons .here (.cons .here .nil)))) ?_
            refine CT.seq ?_
            -- region 14: translate.go:86
            refine CT.region ?_
            refine Wl.q rfl rfl (OpQ.move rfl) ?_
            refine Wl.g rfl rfl (OpG.callX H_go36 rfl (.cons .here (.cons .here (.cons .here .nil))) (fun _ => (.cons (.cons (.cons .nil)))) (fun w hH hp => never_spec w b39 b37 [] none 0 hp (okL_nil _) (by simp) )) ?_
            rintro ⟨xs44, r44, a44, c44⟩ g44
            dsimp only at g44
            obtain ⟨g44, o44⟩ := g44
            have l44 := g44.len
            have n44 := g44.mono
            have q44 := g44.lt
            refine Wl.know 44 (v' := .int .i64 ((r44 : Nat) : Int)) rfl rfl ?_
            refine Wl.q rfl rfl (OpQ.assign rfl) ?_
            refine Wl.nil ?_
            refine PX.then_n ?_
            refine CT.seq ?_
            -- region 15: translate.go:87
            refine CT.region ?_
            refine Wl.q rfl rfl (OpQ.move rfl) ?_
            refine Wl.q rfl rfl (OpQ.nilCheckP rfl) ?_
            refine Wl.q rfl rfl (OpQ.fieldAddr H_fa71_0 rfl) ?_
            refine Wl.q rfl rfl (OpQ.loadF (b := b39) H_sc22 rfl (by repeat (first | exact Has.here | apply Has.there)) (by rfl)) ?_
            refine Wl.know 48 (v' := .slice a44 xs44.length c44) rfl rfl ?_
            refine Wl.q rfl rfl (OpQ.move rfl) ?_
            refine Wl.q rfl rfl (OpQ.assign rfl) ?_
            refine Wl.q rfl rfl (OpQ.assign rfl) ?_
            refine Wl.q rfl rfl (OpQ.assign rfl) ?_
            refine Wl.nil ?_
            refine PX.then_n ?_
            refine CT.ret ?_
            refine PX.then_r ?_
            refine PX.ret3 rfl rfl rfl rfl (fun w' hH => ?_)
            exact ⟨(xs44, r44, a44, c44), ⟨fun h => absurd hz h, fun _ => ⟨g44.ok, (o44.more (by omega)).ok g44.ok, g44.lt, by have := g44.len; dsimp only [List.length_nil] at this ⊢; omega, fun w hw => by rw [g44.val w hw, hms0]; rfl⟩⟩, by rw [hz], (HOk.post (hH.take (.cons (.there .here) .nil)))⟩
          · -- if t42: else
            have h42 := of_decide_eq_false h42
            have hmo := fun m hm => firstE_get (by rw [moL, if_neg (by rw [hmay]; decide), if_neg (by omega)] at hz; exact hz) m hm
            refine CT.nilrow 31 4 ?_
            refine CT.as (fun _ h => h.take (.cons (.there .here) (.cons .here (.cons .here .nil)))) ?_
            refine CT.skip ?_
            refine PX.then_n ?_
            refine CT.seq ?_
            -- region 16: translate.go:89
            refine CT.region ?_
            refine Wl.q rfl rfl (OpQ.move rfl) ?_
            refine Wl.q rfl rfl (OpQ.move rfl) ?_
            refine Wl.q rfl rfl (OpQ.index H_un35 H_sz41 rfl rfl (by omega) (hr.now.1.isSome (j := 0) (by rw [flat_len mov_len]; omega))) ?_
            refine Wl.q rfl rfl (OpQ.loadAggG (cs := mov (ms.getD 0 m0)) H_ag41 H_sz41 rfl (fun w hH => (hH.use hr).1) (flat_cells mov_len ms m0 (by omega))) ?_
            refine Wl.g rfl rfl (OpG.callX H_go37 rfl (.cons .here (.cons .here (.cons .here .nil))) (fun _ => (.cons (.cons (.cons .nil)))) (fun w hH hp => monomial_spec w b39 b37 [] none 0 hp (okL_nil _) (by simp) (ms.getD 0 m0) ((hH.stays hr (.cons .here (.cons .here (.cons .here .nil)))).mono (fun w h => h.2 (ms.getD 0 m0) (getD_mem' (by omega)))) L (by omega) (hmo _ (getD_mem' (by omega))))) ?_
            rintro ⟨xs54, r54, a54, c54⟩ g54
            dsimp only at g54
            obtain ⟨g54, o54⟩ := g54
            have l54 := g54.len
            have n54 := g54.mono
            have q54 := g54.lt
            refine Wl.know 54 (v' := .int .i64 ((r54 : Nat) : Int)) rfl rfl ?_
            refine Wl.q rfl rfl (OpQ.assign rfl) ?_
            refine Wl.nil ?_
            refine PX.then_n ?_
            refine CT.seq ?_
            refine CT.seq ?_
            -- region 17: translate.go:90
            refine CT.region ?_
            refine Wl.q rfl rfl (OpQ.move rfl) ?_
            refine Wl.q rfl rfl (OpQ.sliceFrom H_un35 H_sz41 rfl rfl (by omega)) ?_
            refine Wl.know 56 (v' := .slice (if cp = 1 then a else a.map (·.add (1 * 2))) (ms.length - 1) (cp - 1)) rfl rfl ?_
            refine Wl.q rfl rfl (OpQ.len H_un35 rfl) ?_
            refine Wl.q rfl rfl (OpQ.move rfl) ?_
            refine Wl.nil ?_
            refine PX.then_n ?_
            refine CT.block ?_
            -- the loop at region 18
            refine CT.loop (ι := Nat × List Tm × Nat × Option Addr × Nat) (fun (k, x1, r1, a', c') => k ≤ ms.length - 1 ∧ Gr [] x1 r1 (costA L (ms.take (k + 1))) (matA (ms.take (k + 1))) ∧ Low (L : Int) [] x1) (fun (k, x1, r1, a', c') => [(10, .pointer (some ⟨b39, 0, none⟩)), (12, .int .i64 ((r1 : Nat) : Int)), (56, .slice (if cp = 1 then a else a.map (·.add (1 * 2))) (ms.length - 1) (cp - 1)), (57, .int .i64 ((ms.length - 1 : Nat) : Int)), (58, .int .i64 (k : Int))]) (fun (k, x1, r1, a', c') => [.row 71 2 (vb b39) 1 [.slice a' x1.length c', .map (some b37)], .row 31 4 (.slice a' x1.length c') x1.length (x1.flatMap tv), .blk b37 (mapO tk (itA 0 x1))]) (fun (k, x1, r1, a', c') => ms.length - 1 - k) (0, xs54, r54, a54, c54) ⟨by omega, gr_first (by omega) g54, o54⟩ ⟨rfl, rfl, rfl, rfl, rfl, trivial⟩ (HSub.refl _) (fun ⟨k, x1, r1, a', c'⟩ ⟨hk2, gx, hlo⟩ K1 hK1 => ?_)
            dsimp only
            refine CT.seq ?_
            -- region 18: translate.go:90
            refine CT.region ?_
            refine Wl.q rfl rfl (OpQ.lss rfl rfl) ?_
            refine Wl.nil ?_
            refine PX.then_n ?_
            refine CT.seq ?_
            refine CT.cond rfl (fun h59 => ?_) (fun h59 => ?_)
            · -- if t59: then
              have h59 := of_decide_eq_true h59
              refine CT.skip ?_
              refine PX.then_n ?_
              refine CT.seq ?_
              refine CT.block ?_
              refine CT.seq ?_
              -- region 19: translate.go:90
              refine CT.region ?_
              have hck := hcj (k + 1)
              have hcm := hcl _ (getD_mem' (d := m0) (show k + 1 < ms.length by omega))
              have lx := gx.len
              have qx := gx.lt
              dsimp only [List.length_nil] at lx
              refine Wl.q rfl rfl (OpQ.index H_un35 H_sz41 rfl rfl (by omega) (((Rd.from (k := 1) (size := 2) (cp := cp) (hr.now).1 (by rw [flat_len mov_len]; omega))).isSome (j := 0) (by rw [List.length_drop, flat_len mov_len]; omega))) ?_
              refine Wl.q rfl rfl (OpQ.loadAggG (cs := mov (ms.getD (k + 1) m0)) H_ag41 H_sz41 rfl (fun w hH => (Rd.from (k := 1) (size := 2) (cp := cp) ((hH.use hr)).1 (by rw [flat_len mov_len]; omega))) (fun i v hi => by rw [List.getElem?_drop]; have := flat_cells mov_len ms m0 (j := k + 1) (by omega) i v hi; rw [← this]; congr 1; show 1 * 2 + (k * 2 + i) = (k + 1) * 2 + i; omega)) ?_
              refine Wl.g rfl rfl (OpG.alloc (zs := [.slice none 0 0, .slice none 0 0]) H_in41 rfl rfl) ?_
              rintro b14 _
              refine Wl.g rfl rfl (OpG.storeV (b := b14) H_sz41 rfl rfl rfl rfl (by repeat (first | exact Upd.here | apply Upd.there))) ?_
              rintro _ _
              refine Wl.nil ?_
              refine PX.then_n ?_
              -- region 20: translate.go:91
              refine CT.region ?_
              refine Wl.q rfl rfl (OpQ.move rfl) ?_
              refine Wl.q rfl rfl (OpQ.move rfl) ?_
              refine Wl.q rfl rfl (OpQ.move rfl) ?_
              refine Wl.q rfl rfl (OpQ.loadV (b := b14) H_ag41 H_sz41 rfl (by repeat (first | exact Has.here | apply Has.there)) (by rfl)) ?_
              refine Wl.g rfl rfl (OpG.callX H_go37 rfl (.cons (.there .here) (.cons (.there .here) (.cons (.there .here) .nil))) (fun _ => (.cons (.cons (.cons .nil)))) (fun w hH hp => monomial_spec w b39 b37 x1 a' c' hp gx.ok (by omega) (ms.getD (k + 1) m0) ((hH.stays hr (.cons (.there .here) (.cons (.there .here) (.cons (.there .here) .nil)))).mono (fun w h => h.2 (ms.getD (k + 1) m0) (getD_mem' (by omega)))) L (by omega) (hmo _ (getD_mem' (by omega))))) ?_
              rintro ⟨xs66, r66, a66, c66⟩ g66
              dsimp only at g66
              obtain ⟨g66, o66⟩ := g66
              have l66 := g66.len
              have n66 := g66.mono
              have q66 := g66.lt
              refine Wl.know 66 (v' := .int .i64 ((r66 : Nat) : Int)) rfl rfl ?_
              refine Wl.g rfl rfl (OpG.callX H_go38 rfl (.cons .here (.cons .here (.cons .here .nil))) (fun _ => (.cons (.cons (.cons .nil)))) (fun w hH hp => or_spec w b39 b37 xs66 a66 c66 hp g66.ok (by omega) r1 r66 (by omega) g66.lt)) ?_
              rintro ⟨xs67, r67, a67, c67⟩ g67
              dsimp only at g67
              obtain ⟨g67, o67⟩ := g67
              have l67 := g67.len
              have n67 := g67.mono
              have q67 := g67.lt
              refine Wl.know 67 (v' := .int .i64 ((r67 : Nat) : Int)) rfl rfl ?_
              refine Wl.q rfl rfl (OpQ.assign rfl) ?_
              refine Wl.nil ?_
              refine PX.block_n ?_
              refine PX.then_n ?_
              -- region 21: translate.go:90
              refine CT.region ?_
              refine Wl.q rfl rfl (OpQ.add rfl rfl (by omega)) ?_
              refine Wl.q rfl rfl (OpQ.move rfl) ?_
              refine Wl.nil ?_
              exact PX.loop hK1 (k + 1, xs67, r67, a67, c67) ⟨by omega, gr_list (by omega) gx g66 g67, hlo.trans (o66.trans (o67.more (by omega)))⟩ (show ms.length - 1 - (k + 1) < ms.length - 1 - k by omega) ⟨rfl, rfl, rfl, rfl, rfl, trivial⟩ (.keep rfl (.keep rfl (.keep rfl (.drop .nil))))
            · -- if t59: else
              have h59 := of_decide_eq_false h59
              refine CT.exit ?_
              refine PX.then_x ?_
              refine PX.then_x ?_
              refine PX.block_x ?_
              refine PX.then_n ?_
              refine CT.seq ?_
              -- region 22: translate.go:93
              refine CT.region ?_
              refine Wl.q rfl rfl (OpQ.move rfl) ?_
              refine Wl.q rfl rfl (OpQ.nilCheckP rfl) ?_
              refine Wl.q rfl rfl (OpQ.fieldAddr H_fa71_0 rfl) ?_
              refine Wl.q rfl rfl (OpQ.loadF (b := b39) H_sc22 rfl (by repeat (first | exact Has.here | apply Has.there)) (by rfl)) ?_
              refine Wl.q rfl rfl (OpQ.move rfl) ?_
              refine Wl.q rfl rfl (OpQ.assign rfl) ?_
              refine Wl.q rfl rfl (OpQ.assign rfl) ?_
              refine Wl.q rfl rfl (OpQ.assign rfl) ?_
              refine Wl.nil ?_
              refine PX.then_n ?_
              refine CT.ret ?_
              refine PX.ret3 rfl rfl rfl rfl (fun w' hH => ?_)
              exact ⟨(x1, r1, a', c'), ⟨fun h => absurd hz h, fun _ => ⟨gx.ok, hlo.ok gx.ok, gx.lt, by have := gx.len; rw [List.take_of_length_le (by omega)] at this; dsimp only [List.length_nil] at this ⊢; rw [Int.toNat_natCast]; omega, fun w hw => by rw [gx.val w hw, List.take_of_length_le (by omega)]⟩⟩, by rw [hz], (HOk.post (hH.take (.cons (.there .here) .nil)))⟩

end Go.Proofs.Ytlmbcdjmdgbmjaa
