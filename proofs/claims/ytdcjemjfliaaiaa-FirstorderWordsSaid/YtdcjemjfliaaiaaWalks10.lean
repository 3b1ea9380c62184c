/-
  What functions of the packages firstorder, semigroupref38 and semigroupmade compute, each by its walk. Conditions: those that each theorem names.
-/
import Derived.Test.YtdcjemjfliaaiaaWalks9
import Derived.Test.YtdcjemjfliaaiaaEng
set_option linter.unusedSimpArgs false
namespace Go.Proofs.Ytdcjemjfliaaiaa
open Go Go.Eng Go.Fo Go.Sf
open Go.Tp (zi)
open Go.Tl (vf mayL Wd okW okB vf_t vf_f)

theorem UA_fa72_0 : fieldB Try.prog 72 0 = some 0 := by kernel_rfl
theorem UA_sc3 : scalarB Try.prog 3 = some true := by kernel_rfl
theorem UA_mixed : Try.prog.follows .mixedOrders = true := by kernel_rfl
theorem UA_fa79_1 : fieldB Try.prog 79 1 = some 1 := by kernel_rfl
theorem UA_go57 : isGo Try.prog 57 = true := by kernel_rfl
theorem UA_pl29 : placesB Try.prog 29 = some (#[.int .i64 0, .int .i64 0, .int .i64 0, .int .i64 0, .int .i64 0, .int .i64 0], [(0, 1), (1, 1), (2, 1), (3, 1), (4, 1), (5, 1)]) := by kernel_rfl
theorem UA_go56 : isGo Try.prog 56 = true := by kernel_rfl
theorem UA_fa81_1 : fieldB Try.prog 81 1 = some 1 := by kernel_rfl
theorem UA_fa81_0 : fieldB Try.prog 81 0 = some 0 := by kernel_rfl
theorem UA_go58 : isGo Try.prog 58 = true := by kernel_rfl
theorem UA_fa72_1 : fieldB Try.prog 72 1 = some 1 := by kernel_rfl
theorem UA_fa79_2 : fieldB Try.prog 79 2 = some 3 := by kernel_rfl
theorem UA_sc74 : scalarB Try.prog 74 = some true := by kernel_rfl
theorem UA_fa72_2 : fieldB Try.prog 72 2 = some 2 := by kernel_rfl
theorem UA_ag81 : isAggB Try.prog 81 = some true := by kernel_rfl
theorem UA_sz81 : sizeB Try.prog 81 = some 2 := by kernel_rfl
theorem UA_un74 : Try.prog.underlying 74 = some (.slice 89) := by kernel_rfl
theorem UA_sz89 : sizeB Try.prog 89 = some 9 := by kernel_rfl
theorem UA_fa72_3 : fieldB Try.prog 72 3 = some 3 := by kernel_rfl
theorem UA_go39 : isGo Try.prog 39 = true := by kernel_rfl
theorem UA_un89 : Try.prog.underlying 89 = some (.array 9 3) := by kernel_rfl
theorem UA_sz3 : sizeB Try.prog 3 = some 1 := by kernel_rfl
theorem UA_go59 : isGo Try.prog 59 = true := by kernel_rfl
theorem UA_go55 : isGo Try.prog 55 = true := by kernel_rfl
theorem UA_pl81 : placesB Try.prog 81 = some (#[.int .i64 0, .int .i64 0], [(0, 1), (1, 1)]) := by kernel_rfl
set_option maxRecDepth 100000 in
/-- (*semigroup/firstorder.translator).formula -/
theorem formula_spec (w : World) (b m : Nat) (nd : Value) (oa : Option Addr) (oc N : Nat) (os : List Int) (L : Int) (xs : List Fm) (a : Option Addr) (c : Nat) (hpre : Pre [.row 79 4 (vb b) 1 [nd, .slice a xs.length c, .map (some m), .slice oa N oc], .row 29 6 (.slice a xs.length c) xs.length (xs.flatMap fv), .blk m (mapO fk (itA 0 xs))] w) (hok : okL xs L = true) (hlen : xs.length ≤ 199900) (hr : Stays (blks [.row 79 4 (vb b) 1 [nd, .slice a xs.length c, .map (some m), .slice oa N oc], .row 29 6 (.slice a xs.length c) xs.length (xs.flatMap fv), .blk m (mapO fk (itA 0 xs))]) w (fun w => Rd w oa (os.map zi))) (hos : os.length = N * 9) (g : List Nd) (iN : Nat) (n : Nd) (l r : Nat) (hG : okG g L = true) (hi : iN < g.length) (hgN : g.length = N) (hn : n = g.getD iN n0) (hl : l < 3) (hrr : r < 3) (hlr : l ≠ r) (ha : n.op = 5 ∨ n.op = 6 ∨ n.op = 8 → Ent os xs g n.a.toNat l r) (hb : n.op = 5 ∨ n.op = 6 → Ent os xs g n.b.toNat l r) (hc : n.op = 7 → Ent os xs g n.a.toNat l (3 - l - r) ∧ Ent os xs g n.b.toNat (3 - l - r) r) : Calls Try.prog 37 #[.pointer (some ⟨b, 0, none⟩), .agg (nv n).toArray, .agg #[.int .i64 ((l : Nat) : Int), .int .i64 ((r : Nat) : Int)]] w (fun e w' => ∃ i : List Fm × Nat × Option Addr × Nat, (FN L g xs i.1 iN l r i.2.1) ∧ e = .returned (.int .i64 ((i.2.1 : Nat) : Int)) ∧ Post (blks [.row 79 4 (vb b) 1 [nd, .slice a xs.length c, .map (some m), .slice oa N oc], .row 29 6 (.slice a xs.length c) xs.length (xs.flatMap fv), .blk m (mapO fk (itA 0 xs))]) [.row 79 4 (vb b) 1 [nd, .slice i.2.2.1 i.1.length i.2.2.2, .map (some m), .slice oa N oc], .row 29 6 (.slice i.2.2.1 i.1.length i.2.2.2) i.1.length (i.1.flatMap fv), .blk m (mapO fk (itA 0 i.1))] w w') := by
  obtain ⟨hop, hlt, hpa, hpb⟩ := okN_parts (okG_get hG hi)
  rw [← hn] at hop hlt hpa hpb
  have hso : 0 < N → oa.isSome = true := fun h => hr.now.isSome (j := 0) (by rw [List.length_map]; omega)
  refine enterX (args := [.pointer (some ⟨b, 0, none⟩), .agg (nv n).toArray, .agg #[.int .i64 ((l : Nat) : Int), .int .i64 ((r : Nat) : Int)]]) hpre 173 Try.func37 rfl rfl rfl ?_
  refine CT.seq ?_
  -- region 0: translate.go:108
  refine CT.region ?_
  refine Wl.g rfl rfl (OpG.box (size := 4) rfl rfl rfl) ?_
  rintro b4 _
  refine Wl.g rfl rfl (OpG.box (size := 2) rfl rfl rfl) ?_
  rintro b5 _
  refine Wl.q rfl rfl (OpQ.assign rfl) ?_
  refine Wl.nil ?_
  refine PX.then_n ?_
  refine CT.seq ?_
  refine CT.seq ?_
  -- region 1: translate.go:109
  refine CT.region ?_
  refine Wl.q rfl rfl (OpQ.fieldAddr UA_fa72_0 rfl) ?_
  refine Wl.q rfl rfl (OpQ.loadF (b := b4) UA_sc3 rfl (by repeat (first | exact Has.here | apply Has.there)) (by rfl)) ?_
  refine Wl.nil ?_
  refine PX.then_n ?_
  refine CT.block ?_
  refine CT.seq ?_
  -- region 2: translate.go:110
  refine CT.region ?_
  refine Wl.q rfl rfl (OpQ.eql rfl rfl) ?_
  refine Wl.q rfl rfl (OpQ.assign rfl) ?_
  refine Wl.nil ?_
  refine PX.then_n ?_
  refine CT.cond rfl (fun h12 => ?_) (fun h12 => ?_)
  · -- if t12: then
    have h12 := of_decide_eq_true h12
    refine CT.seq ?_
    -- region 3, drawn: translate.go:111
    refine CT.draw' (Hc := [.row 81 2 (vb b5) 1 [.int .i64 ((l : Nat) : Int), .int .i64 ((r : Nat) : Int)], .row 72 4 (vb b4) 1 (nv n)]) 6 UA_mixed ?_
    refine RA.q 0 (by kernel_rfl) rfl rfl rfl (.cons_cons _ (.cons_cons _ (.cons _ (.cons _ (.cons _ (.refl _)))))) (OpQ.move rfl) ?_
    refine RA.q 1 (by kernel_rfl) rfl rfl rfl (.cons_cons _ (.cons_cons _ (.cons _ (.cons _ (.cons _ (.refl _)))))) (OpQ.nilCheckP rfl) ?_
    refine RA.q 2 (by kernel_rfl) rfl rfl rfl (.cons_cons _ (.cons_cons _ (.cons _ (.cons _ (.cons _ (.refl _)))))) (OpQ.fieldAddr UA_fa79_1 rfl) ?_
    refine RA.q 3 (by kernel_rfl) rfl rfl rfl (.cons_cons _ (.cons_cons _ (.cons _ (.cons _ (.cons _ (.refl _)))))) (OpQ.move rfl) ?_
    refine RA.f 4 (by kernel_rfl) rfl rfl rfl (OpG.callX UA_go57 rfl (.cons (.there (.there .here)) (.cons (.there (.there .here)) (.cons (.there (.there .here)) .nil))) (fun _ => (.cons (.cons (.cons .nil)))) (fun w hH hp => always_spec w b m nd (.slice oa N oc) L xs a c hp hok (by omega) )) (fun _ _ => (.cons _ (.cons _ (.cons _ (.cons_cons _ (.cons_cons _ (.refl _))))))) ?_
    rintro ⟨xs18, r18, a18, c18⟩ g18
    dsimp only at g18
    have l18 := g18.len
    have n18 := g18.mono
    have q18 := g18.lt
    refine RA.know 18 (v' := .int .i64 ((r18 : Nat) : Int)) rfl rfl ?_
    refine RA.q 5 (by kernel_rfl) rfl rfl rfl (.cons _ (.cons _ (.cons _ (.cons_cons _ (.cons_cons _ (.refl _)))))) (OpQ.build (cells := #[.int .i64 4, .int .i64 0, .int .i64 0, .int .i64 0, .int .i64 ((r18 : Nat) : Int), .int .i64 0]) UA_pl29 rfl rfl) ?_
    refine RA.tail ?_
    refine RT.f 6 (by kernel_rfl) rfl rfl rfl (OpG.callX UA_go56 rfl (.cons .here (.cons .here (.cons .here .nil))) (fun _ => (.cons (.cons (.cons .nil)))) (fun w hH hp => add_spec w b m nd (.slice oa N oc) xs18 a18 c18 hp (by omega) ⟨4, 0, 0, 0, (r18 : Nat), 0⟩)) ?_
    rintro ⟨a20, c20⟩ _
    refine RT.know 20 (v' := .int .i64 (((addF xs18 ⟨4, 0, 0, 0, (r18 : Nat), 0⟩).2 : Nat) : Int)) rfl rfl ?_
    refine RT.q 7 (by kernel_rfl) rfl rfl rfl (OpQ.assign rfl) ?_
    refine RT.done (by kernel_rfl) ?_
    refine PX.then_n ?_
    refine CT.ret ?_
    refine PX.block_r ?_
    refine PX.then_r ?_
    refine PX.ret1 rfl rfl (fun w' hH => ?_)
    exact ⟨((addF xs18 ⟨4, 0, 0, 0, (r18 : Nat), 0⟩).1, (addF xs18 ⟨4, 0, 0, 0, (r18 : Nat), 0⟩).2, a20, c20), fn_none hG hi hn h12 g18 (fr_not g18.ok g18.lt), rfl, hH.post.sub (.keep rfl (.keep rfl (.keep rfl (.drop (.drop .nil)))))⟩
  · -- if t12: else
    have h12 := of_decide_eq_false h12
    refine CT.seq ?_
    -- region 4: translate.go:112
    refine CT.region ?_
    refine Wl.q rfl rfl (OpQ.eql rfl rfl) ?_
    refine Wl.q rfl rfl (OpQ.assign rfl) ?_
    refine Wl.nil ?_
    refine PX.then_n ?_
    refine CT.cond rfl (fun h21 => ?_) (fun h21 => ?_)
    · -- if t21: then
      have h21 := of_decide_eq_true h21
      refine CT.seq ?_
      -- region 5: translate.go:113
      refine CT.region ?_
      refine Wl.q rfl rfl (OpQ.move rfl) ?_
      refine Wl.q rfl rfl (OpQ.fieldAddr UA_fa81_1 rfl) ?_
      refine Wl.q rfl rfl (OpQ.loadF (b := b5) UA_sc3 rfl (by repeat (first | exact Has.here | apply Has.there)) (by rfl)) ?_
      refine Wl.q rfl rfl (OpQ.fieldAddr UA_fa81_0 rfl) ?_
      refine Wl.q rfl rfl (OpQ.loadF (b := b5) UA_sc3 rfl (by repeat (first | exact Has.here | apply Has.there)) (by rfl)) ?_
      refine Wl.g rfl rfl (OpG.callX UA_go58 rfl (.cons (.there (.there .here)) (.cons (.there (.there .here)) (.cons (.there (.there .here)) .nil))) (fun _ => (.cons (.cons (.cons .nil)))) (fun w hH hp => leq_spec w b m nd (.slice oa N oc) L xs a c hp hok (by omega) (r : Int) (l : Int) (by omega) (by omega))) ?_
      rintro ⟨xs28, r28, a28, c28⟩ g28
      dsimp only at g28
      have l28 := g28.len
      have n28 := g28.mono
      have q28 := g28.lt
      refine Wl.know 28 (v' := .int .i64 ((r28 : Nat) : Int)) rfl rfl ?_
      refine Wl.q rfl rfl (OpQ.assign rfl) ?_
      refine Wl.nil ?_
      refine PX.then_n ?_
      refine CT.ret ?_
      refine PX.block_r ?_
      refine PX.then_r ?_
      refine PX.ret1 rfl rfl (fun w' hH => ?_)
      exact ⟨(xs28, r28, a28, c28), fn_unit hG hi hn h21 g28, rfl, hH.post.sub (.keep rfl (.keep rfl (.keep rfl (.drop (.drop .nil)))))⟩
    · -- if t21: else
      have h21 := of_decide_eq_false h21
      refine CT.seq ?_
      -- region 6: translate.go:114
      refine CT.region ?_
      refine Wl.q rfl rfl (OpQ.eql rfl rfl) ?_
      refine Wl.q rfl rfl (OpQ.assign rfl) ?_
      refine Wl.nil ?_
      refine PX.then_n ?_
      refine CT.cond rfl (fun h29 => ?_) (fun h29 => ?_)
      · -- if t29: then
        have h29 := of_decide_eq_true h29
        refine CT.seq ?_
        -- region 7, drawn: translate.go:115
        refine CT.draw 10 UA_mixed ?_
        refine RA.q 0 (by kernel_rfl) rfl rfl rfl (.refl _) (OpQ.move rfl) ?_
        refine RA.q 1 (by kernel_rfl) rfl rfl rfl (.refl _) (OpQ.nilCheckP rfl) ?_
        refine RA.q 2 (by kernel_rfl) rfl rfl rfl (.refl _) (OpQ.fieldAddr UA_fa79_1 rfl) ?_
        refine RA.q 3 (by kernel_rfl) rfl rfl rfl (.refl _) (OpQ.fieldAddr UA_fa81_0 rfl) ?_
        refine RA.q 4 (by kernel_rfl) rfl rfl rfl (.refl _) (OpQ.loadF (b := b5) UA_sc3 rfl (by repeat (first | exact Has.here | apply Has.there)) (by rfl)) ?_
        refine RA.q 5 (by kernel_rfl) rfl rfl rfl (.refl _) (OpQ.fieldAddr UA_fa81_1 rfl) ?_
        refine RA.q 6 (by kernel_rfl) rfl rfl rfl (.refl _) (OpQ.loadF (b := b5) UA_sc3 rfl (by repeat (first | exact Has.here | apply Has.there)) (by rfl)) ?_
        refine RA.q 7 (by kernel_rfl) rfl rfl rfl (.refl _) (OpQ.fieldAddr UA_fa72_1 rfl) ?_
        refine RA.q 8 (by kernel_rfl) rfl rfl rfl (.refl _) (OpQ.loadF (b := b4) UA_sc3 rfl (by repeat (first | exact Has.here | apply Has.there)) (by rfl)) ?_
        refine RA.q 9 (by kernel_rfl) rfl rfl rfl (.refl _) (OpQ.build (cells := #[.int .i64 2, .int .i64 ((l : Nat) : Int), .int .i64 ((r : Nat) : Int), .int .i64 (n.lt), .int .i64 0, .int .i64 0]) UA_pl29 rfl rfl) ?_
        refine RA.tail ?_
        refine RT.f 10 (by kernel_rfl) rfl rfl rfl (OpG.callX UA_go56 rfl (.cons (.there (.there .here)) (.cons (.there (.there .here)) (.cons (.there (.there .here)) .nil))) (fun _ => (.cons (.cons (.cons .nil)))) (fun w hH hp => add_spec w b m nd (.slice oa N oc) xs a c hp (by omega) ⟨2, (l : Nat), (r : Nat), n.lt, 0, 0⟩)) ?_
        rintro ⟨a41, c41⟩ _
        refine RT.know 41 (v' := .int .i64 (((addF xs ⟨2, (l : Nat), (r : Nat), n.lt, 0, 0⟩).2 : Nat) : Int)) rfl rfl ?_
        refine RT.q 11 (by kernel_rfl) rfl rfl rfl (OpQ.assign rfl) ?_
        refine RT.done (by kernel_rfl) ?_
        refine PX.then_n ?_
        refine CT.ret ?_
        refine PX.block_r ?_
        refine PX.then_r ?_
        refine PX.ret1 rfl rfl (fun w' hH => ?_)
        exact ⟨((addF xs ⟨2, (l : Nat), (r : Nat), n.lt, 0, 0⟩).1, (addF xs ⟨2, (l : Nat), (r : Nat), n.lt, 0, 0⟩).2, a41, c41), fn_letter hG hi hn h29 (fr_letter hok (by omega) (by omega) (hlt h29)), rfl, hH.post.sub (.keep rfl (.keep rfl (.keep rfl (.drop (.drop .nil)))))⟩
      · -- if t29: else
        have h29 := of_decide_eq_false h29
        refine CT.seq ?_
        -- region 8: translate.go:116
        refine CT.region ?_
        refine Wl.q rfl rfl (OpQ.eql rfl rfl) ?_
        refine Wl.q rfl rfl (OpQ.assign rfl) ?_
        refine Wl.nil ?_
        refine PX.then_n ?_
        refine CT.cond rfl (fun h42 => ?_) (fun h42 => ?_)
        · -- if t42: then
          have h42 := of_decide_eq_true h42
          obtain ⟨ρa, hρa, ta⟩ := ha (by omega)
          obtain ⟨ρb, hρb, tb⟩ := hb (by omega)
          refine CT.seq ?_
          -- region 9, drawn: translate.go:117
          refine CT.draw 26 UA_mixed ?_
          refine RA.q 0 (by kernel_rfl) rfl rfl rfl (.refl _) (OpQ.move rfl) ?_
          refine RA.q 1 (by kernel_rfl) rfl rfl rfl (.refl _) (OpQ.nilCheckP rfl) ?_
          refine RA.q 2 (by kernel_rfl) rfl rfl rfl (.refl _) (OpQ.fieldAddr UA_fa79_1 rfl) ?_
          refine RA.q 3 (by kernel_rfl) rfl rfl rfl (.refl _) (OpQ.move rfl) ?_
          refine RA.q 4 (by kernel_rfl) rfl rfl rfl (.refl _) (OpQ.nilCheckP rfl) ?_
          refine RA.q 5 (by kernel_rfl) rfl rfl rfl (.refl _) (OpQ.fieldAddr UA_fa79_2 rfl) ?_
          refine RA.q 6 (by kernel_rfl) rfl rfl rfl (.refl _) (OpQ.loadF (b := b) UA_sc74 rfl (by repeat (first | exact Has.here | apply Has.there)) (by rfl)) ?_
          refine RA.q 7 (by kernel_rfl) rfl rfl rfl (.refl _) (OpQ.fieldAddr UA_fa72_2 rfl) ?_
          refine RA.q 8 (by kernel_rfl) rfl rfl rfl (.refl _) (OpQ.loadF (b := b4) UA_sc3 rfl (by repeat (first | exact Has.here | apply Has.there)) (by rfl)) ?_
          refine RA.q 9 (by kernel_rfl) rfl rfl rfl (.refl _) (OpQ.loadV (b := b5) UA_ag81 UA_sz81 rfl (by repeat (first | exact Has.here | apply Has.there)) (by rfl)) ?_
          refine RA.q 11 (by kernel_rfl) rfl rfl rfl (.refl _) (OpQ.index UA_un74 UA_sz89 rfl rfl (by omega) (hso (by omega))) ?_
          refine RA.q 14 (by kernel_rfl) rfl rfl rfl (.refl _) (OpQ.move rfl) ?_
          refine RA.q 15 (by kernel_rfl) rfl rfl rfl (.refl _) (OpQ.nilCheckP rfl) ?_
          refine RA.q 16 (by kernel_rfl) rfl rfl rfl (.refl _) (OpQ.fieldAddr UA_fa79_2 rfl) ?_
          refine RA.q 17 (by kernel_rfl) rfl rfl rfl (.refl _) (OpQ.loadF (b := b) UA_sc74 rfl (by repeat (first | exact Has.here | apply Has.there)) (by rfl)) ?_
          refine RA.q 18 (by kernel_rfl) rfl rfl rfl (.refl _) (OpQ.fieldAddr UA_fa72_3 rfl) ?_
          refine RA.q 19 (by kernel_rfl) rfl rfl rfl (.refl _) (OpQ.loadF (b := b4) UA_sc3 rfl (by repeat (first | exact Has.here | apply Has.there)) (by rfl)) ?_
          refine RA.q 20 (by kernel_rfl) rfl rfl rfl (.refl _) (OpQ.loadV (b := b5) UA_ag81 UA_sz81 rfl (by repeat (first | exact Has.here | apply Has.there)) (by rfl)) ?_
          refine RA.q 22 (by kernel_rfl) rfl rfl rfl (.refl _) (OpQ.index UA_un74 UA_sz89 rfl rfl (by omega) (hso (by omega))) ?_
          refine RA.f 10 (by kernel_rfl) rfl rfl rfl (OpG.callV UA_go39 rfl (fun w hH => slot_spec w l r (by omega) (by omega))) (fun _ _ => (.refl _)) ?_
          rintro _ _
          refine RA.q 12 (by kernel_rfl) rfl rfl rfl (.refl _) (OpQ.indexArr1 UA_un89 UA_sz3 rfl rfl (by omega)) ?_
          refine RA.q 13 (by kernel_rfl) rfl rfl rfl (.refl _) (OpQ.loadGF UA_sc3 rfl (fun w hH => hH.use hr) (getMap zi os 0 (j := n.a.toNat * 9 + (l * 3 + r)) (by omega))) ?_
          refine RA.know 57 (v' := .int .i64 ((ρa : Nat) : Int)) rfl (congrArg (Value.int .i64) hρa) ?_
          refine RA.f 21 (by kernel_rfl) rfl rfl rfl (OpG.callV UA_go39 rfl (fun w hH => slot_spec w l r (by omega) (by omega))) (fun _ _ => (.refl _)) ?_
          rintro _ _
          refine RA.q 23 (by kernel_rfl) rfl rfl rfl (.refl _) (OpQ.indexArr1 UA_un89 UA_sz3 rfl rfl (by omega)) ?_
          refine RA.q 24 (by kernel_rfl) rfl rfl rfl (.refl _) (OpQ.loadGF UA_sc3 rfl (fun w hH => hH.use hr) (getMap zi os 0 (j := n.b.toNat * 9 + (l * 3 + r)) (by omega))) ?_
          refine RA.know 68 (v' := .int .i64 ((ρb : Nat) : Int)) rfl (congrArg (Value.int .i64) hρb) ?_
          refine RA.q 25 (by kernel_rfl) rfl rfl rfl (.refl _) (OpQ.build (cells := #[.int .i64 6, .int .i64 0, .int .i64 0, .int .i64 0, .int .i64 ((ρa : Nat) : Int), .int .i64 ((ρb : Nat) : Int)]) UA_pl29 rfl rfl) ?_
          refine RA.tail ?_
          refine RT.f 26 (by kernel_rfl) rfl rfl rfl (OpG.callX UA_go56 rfl (.cons (.there (.there .here)) (.cons (.there (.there .here)) (.cons (.there (.there .here)) .nil))) (fun _ => (.cons (.cons (.cons .nil)))) (fun w hH hp => add_spec w b m nd (.slice oa N oc) xs a c hp (by omega) ⟨6, 0, 0, 0, (ρa : Nat), (ρb : Nat)⟩)) ?_
          rintro ⟨a70, c70⟩ _
          refine RT.know 70 (v' := .int .i64 (((addF xs ⟨6, 0, 0, 0, (ρa : Nat), (ρb : Nat)⟩).2 : Nat) : Int)) rfl rfl ?_
          refine RT.q 27 (by kernel_rfl) rfl rfl rfl (OpQ.assign rfl) ?_
          refine RT.done (by kernel_rfl) ?_
          refine PX.then_n ?_
          refine CT.ret ?_
          refine PX.block_r ?_
          refine PX.then_r ?_
          refine PX.ret1 rfl rfl (fun w' hH => ?_)
          exact ⟨((addF xs ⟨6, 0, 0, 0, (ρa : Nat), (ρb : Nat)⟩).1, (addF xs ⟨6, 0, 0, 0, (ρa : Nat), (ρb : Nat)⟩).2, a70, c70), fn_or hG hi hn h42 ta tb (fr_or hok ta.lt tb.lt), rfl, hH.post.sub (.keep rfl (.keep rfl (.keep rfl (.drop (.drop .nil)))))⟩
        · -- if t42: else
          have h42 := of_decide_eq_false h42
          refine CT.seq ?_
          -- region 10: translate.go:118
          refine CT.region ?_
          refine Wl.q rfl rfl (OpQ.eql rfl rfl) ?_
          refine Wl.q rfl rfl (OpQ.assign rfl) ?_
          refine Wl.nil ?_
          refine PX.then_n ?_
          refine CT.cond rfl (fun h71 => ?_) (fun h71 => ?_)
          · -- if t71: then
            have h71 := of_decide_eq_true h71
            obtain ⟨ρa, hρa, ta⟩ := ha (by omega)
            obtain ⟨ρb, hρb, tb⟩ := hb (by omega)
            refine CT.seq ?_
            -- region 11, drawn: translate.go:119
            refine CT.draw 23 UA_mixed ?_
            refine RA.q 0 (by kernel_rfl) rfl rfl rfl (.refl _) (OpQ.move rfl) ?_
            refine RA.q 1 (by kernel_rfl) rfl rfl rfl (.refl _) (OpQ.move rfl) ?_
            refine RA.q 2 (by kernel_rfl) rfl rfl rfl (.refl _) (OpQ.nilCheckP rfl) ?_
            refine RA.q 3 (by kernel_rfl) rfl rfl rfl (.refl _) (OpQ.fieldAddr UA_fa79_2 rfl) ?_
            refine RA.q 4 (by kernel_rfl) rfl rfl rfl (.refl _) (OpQ.loadF (b := b) UA_sc74 rfl (by repeat (first | exact Has.here | apply Has.there)) (by rfl)) ?_
            refine RA.q 5 (by kernel_rfl) rfl rfl rfl (.refl _) (OpQ.fieldAddr UA_fa72_2 rfl) ?_
            refine RA.q 6 (by kernel_rfl) rfl rfl rfl (.refl _) (OpQ.loadF (b := b4) UA_sc3 rfl (by repeat (first | exact Has.here | apply Has.there)) (by rfl)) ?_
            refine RA.q 7 (by kernel_rfl) rfl rfl rfl (.refl _) (OpQ.loadV (b := b5) UA_ag81 UA_sz81 rfl (by repeat (first | exact Has.here | apply Has.there)) (by rfl)) ?_
            refine RA.q 9 (by kernel_rfl) rfl rfl rfl (.refl _) (OpQ.index UA_un74 UA_sz89 rfl rfl (by omega) (hso (by omega))) ?_
            refine RA.q 12 (by kernel_rfl) rfl rfl rfl (.refl _) (OpQ.move rfl) ?_
            refine RA.q 13 (by kernel_rfl) rfl rfl rfl (.refl _) (OpQ.nilCheckP rfl) ?_
            refine RA.q 14 (by kernel_rfl) rfl rfl rfl (.refl _) (OpQ.fieldAddr UA_fa79_2 rfl) ?_
            refine RA.q 15 (by kernel_rfl) rfl rfl rfl (.refl _) (OpQ.loadF (b := b) UA_sc74 rfl (by repeat (first | exact Has.here | apply Has.there)) (by rfl)) ?_
            refine RA.q 16 (by kernel_rfl) rfl rfl rfl (.refl _) (OpQ.fieldAddr UA_fa72_3 rfl) ?_
            refine RA.q 17 (by kernel_rfl) rfl rfl rfl (.refl _) (OpQ.loadF (b := b4) UA_sc3 rfl (by repeat (first | exact Has.here | apply Has.there)) (by rfl)) ?_
            refine RA.q 18 (by kernel_rfl) rfl rfl rfl (.refl _) (OpQ.loadV (b := b5) UA_ag81 UA_sz81 rfl (by repeat (first | exact Has.here | apply Has.there)) (by rfl)) ?_
            refine RA.q 20 (by kernel_rfl) rfl rfl rfl (.refl _) (OpQ.index UA_un74 UA_sz89 rfl rfl (by omega) (hso (by omega))) ?_
            refine RA.f 8 (by kernel_rfl) rfl rfl rfl (OpG.callV UA_go39 rfl (fun w hH => slot_spec w l r (by omega) (by omega))) (fun _ _ => (.refl _)) ?_
            rintro _ _
            refine RA.q 10 (by kernel_rfl) rfl rfl rfl (.refl _) (OpQ.indexArr1 UA_un89 UA_sz3 rfl rfl (by omega)) ?_
            refine RA.q 11 (by kernel_rfl) rfl rfl rfl (.refl _) (OpQ.loadGF UA_sc3 rfl (fun w hH => hH.use hr) (getMap zi os 0 (j := n.a.toNat * 9 + (l * 3 + r)) (by omega))) ?_
            refine RA.know 84 (v' := .int .i64 ((ρa : Nat) : Int)) rfl (congrArg (Value.int .i64) hρa) ?_
            refine RA.f 19 (by kernel_rfl) rfl rfl rfl (OpG.callV UA_go39 rfl (fun w hH => slot_spec w l r (by omega) (by omega))) (fun _ _ => (.refl _)) ?_
            rintro _ _
            refine RA.q 21 (by kernel_rfl) rfl rfl rfl (.refl _) (OpQ.indexArr1 UA_un89 UA_sz3 rfl rfl (by omega)) ?_
            refine RA.q 22 (by kernel_rfl) rfl rfl rfl (.refl _) (OpQ.loadGF UA_sc3 rfl (fun w hH => hH.use hr) (getMap zi os 0 (j := n.b.toNat * 9 + (l * 3 + r)) (by omega))) ?_
            refine RA.know 95 (v' := .int .i64 ((ρb : Nat) : Int)) rfl (congrArg (Value.int .i64) hρb) ?_
            refine RA.tail ?_
            refine RT.f 23 (by kernel_rfl) rfl rfl rfl (OpG.callX UA_go59 rfl (.cons (.there (.there .here)) (.cons (.there (.there .here)) (.cons (.there (.there .here)) .nil))) (fun _ => (.cons (.cons (.cons .nil)))) (fun w hH hp => and_spec w b m nd (.slice oa N oc) L xs a c hp hok (by omega) ρa ρb ta.lt tb.lt)) ?_
            rintro ⟨xs96, r96, a96, c96⟩ g96
            dsimp only at g96
            have l96 := g96.len
            have n96 := g96.mono
            have q96 := g96.lt
            refine RT.know 96 (v' := .int .i64 ((r96 : Nat) : Int)) rfl rfl ?_
            refine RT.q 24 (by kernel_rfl) rfl rfl rfl (OpQ.assign rfl) ?_
            refine RT.done (by kernel_rfl) ?_
            refine PX.then_n ?_
            refine CT.ret ?_
            refine PX.block_r ?_
            refine PX.then_r ?_
            refine PX.ret1 rfl rfl (fun w' hH => ?_)
            exact ⟨(xs96, r96, a96, c96), fn_and hG hi hn h71 ta tb g96, rfl, hH.post.sub (.keep rfl (.keep rfl (.keep rfl (.drop (.drop .nil)))))⟩
          · -- if t71: else
            have h71 := of_decide_eq_false h71
            refine CT.seq ?_
            -- region 12: translate.go:120
            refine CT.region ?_
            refine Wl.q rfl rfl (OpQ.eql rfl rfl) ?_
            refine Wl.q rfl rfl (OpQ.assign rfl) ?_
            refine Wl.nil ?_
            refine PX.then_n ?_
            refine CT.cond rfl (fun h97 => ?_) (fun h97 => ?_)
            · -- if t97: then
              have h97 := of_decide_eq_true h97
              obtain ⟨ρa, hρa, ta⟩ := ha (by omega)
              refine CT.seq ?_
              -- region 13, drawn: translate.go:121
              refine CT.draw 15 UA_mixed ?_
              refine RA.q 0 (by kernel_rfl) rfl rfl rfl (.refl _) (OpQ.move rfl) ?_
              refine RA.q 1 (by kernel_rfl) rfl rfl rfl (.refl _) (OpQ.nilCheckP rfl) ?_
              refine RA.q 2 (by kernel_rfl) rfl rfl rfl (.refl _) (OpQ.fieldAddr UA_fa79_1 rfl) ?_
              refine RA.q 3 (by kernel_rfl) rfl rfl rfl (.refl _) (OpQ.move rfl) ?_
              refine RA.q 4 (by kernel_rfl) rfl rfl rfl (.refl _) (OpQ.nilCheckP rfl) ?_
              refine RA.q 5 (by kernel_rfl) rfl rfl rfl (.refl _) (OpQ.fieldAddr UA_fa79_2 rfl) ?_
              refine RA.q 6 (by kernel_rfl) rfl rfl rfl (.refl _) (OpQ.loadF (b := b) UA_sc74 rfl (by repeat (first | exact Has.here | apply Has.there)) (by rfl)) ?_
              refine RA.q 7 (by kernel_rfl) rfl rfl rfl (.refl _) (OpQ.fieldAddr UA_fa72_2 rfl) ?_
              refine RA.q 8 (by kernel_rfl) rfl rfl rfl (.refl _) (OpQ.loadF (b := b4) UA_sc3 rfl (by repeat (first | exact Has.here | apply Has.there)) (by rfl)) ?_
              refine RA.q 9 (by kernel_rfl) rfl rfl rfl (.refl _) (OpQ.loadV (b := b5) UA_ag81 UA_sz81 rfl (by repeat (first | exact Has.here | apply Has.there)) (by rfl)) ?_
              refine RA.q 11 (by kernel_rfl) rfl rfl rfl (.refl _) (OpQ.index UA_un74 UA_sz89 rfl rfl (by omega) (hso (by omega))) ?_
              refine RA.f 10 (by kernel_rfl) rfl rfl rfl (OpG.callV UA_go39 rfl (fun w hH => slot_spec w l r (by omega) (by omega))) (fun _ _ => (.refl _)) ?_
              rintro _ _
              refine RA.q 12 (by kernel_rfl) rfl rfl rfl (.refl _) (OpQ.indexArr1 UA_un89 UA_sz3 rfl rfl (by omega)) ?_
              refine RA.q 13 (by kernel_rfl) rfl rfl rfl (.refl _) (OpQ.loadGF UA_sc3 rfl (fun w hH => hH.use hr) (getMap zi os 0 (j := n.a.toNat * 9 + (l * 3 + r)) (by omega))) ?_
              refine RA.know 112 (v' := .int .i64 ((ρa : Nat) : Int)) rfl (congrArg (Value.int .i64) hρa) ?_
              refine RA.q 14 (by kernel_rfl) rfl rfl rfl (.refl _) (OpQ.build (cells := #[.int .i64 4, .int .i64 0, .int .i64 0, .int .i64 0, .int .i64 ((ρa : Nat) : Int), .int .i64 0]) UA_pl29 rfl rfl) ?_
              refine RA.tail ?_
              refine RT.f 15 (by kernel_rfl) rfl rfl rfl (OpG.callX UA_go56 rfl (.cons (.there (.there .here)) (.cons (.there (.there .here)) (.cons (.there (.there .here)) .nil))) (fun _ => (.cons (.cons (.cons .nil)))) (fun w hH hp => add_spec w b m nd (.slice oa N oc) xs a c hp (by omega) ⟨4, 0, 0, 0, (ρa : Nat), 0⟩)) ?_
              rintro ⟨a114, c114⟩ _
              refine RT.know 114 (v' := .int .i64 (((addF xs ⟨4, 0, 0, 0, (ρa : Nat), 0⟩).2 : Nat) : Int)) rfl rfl ?_
              refine RT.q 16 (by kernel_rfl) rfl rfl rfl (OpQ.assign rfl) ?_
              refine RT.done (by kernel_rfl) ?_
              refine PX.then_n ?_
              refine CT.ret ?_
              refine PX.block_r ?_
              refine PX.then_r ?_
              refine PX.ret1 rfl rfl (fun w' hH => ?_)
              exact ⟨((addF xs ⟨4, 0, 0, 0, (ρa : Nat), 0⟩).1, (addF xs ⟨4, 0, 0, 0, (ρa : Nat), 0⟩).2, a114, c114), fn_not hG hi hn h97 ta (fr_not hok ta.lt), rfl, hH.post.sub (.keep rfl (.keep rfl (.keep rfl (.drop (.drop .nil)))))⟩
            · -- if t97: else
              have h97 := of_decide_eq_false h97
              refine CT.seq ?_
              -- region 14: translate.go:122
              refine CT.region ?_
              refine Wl.q rfl rfl (OpQ.eql rfl rfl) ?_
              refine Wl.q rfl rfl (OpQ.assign rfl) ?_
              refine Wl.nil ?_
              refine PX.then_n ?_
              refine CT.cond rfl (fun h115 => ?_) (fun h115 => ?_)
              · -- if t115: then
                have h115 := of_decide_eq_true h115
                obtain ⟨z, hz⟩ : ∃ z, z = 3 - l - r := ⟨_, rfl⟩
                rw [← hz] at hc
                obtain ⟨⟨ρa, hρa, ta⟩, ⟨ρb, hρb, tb⟩⟩ := hc (by omega)
                refine CT.seq ?_
                -- region 15: translate.go:123
                refine CT.region ?_
                refine Wl.q rfl rfl (OpQ.loadV (b := b5) UA_ag81 UA_sz81 rfl (by repeat (first | exact Has.here | apply Has.there)) (by rfl)) ?_
                refine Wl.g rfl rfl (OpG.callV UA_go55 rfl (fun w hH => third_spec w l r (by omega))) ?_
                rintro _ _
                refine Wl.know 118 (v' := .int .i64 ((z : Nat) : Int)) rfl (congrArg (Value.int .i64) (by omega)) ?_
                refine Wl.q rfl rfl (OpQ.assign rfl) ?_
                refine Wl.nil ?_
                refine PX.then_n ?_
                refine CT.seq ?_
                -- region 16, drawn: translate.go:124
                refine CT.draw' (Hc := [.row 81 2 (vb b5) 1 [.int .i64 ((l : Nat) : Int), .int .i64 ((r : Nat) : Int)], .row 72 4 (vb b4) 1 (nv n)]) 11 UA_mixed ?_
                refine RA.q 0 (by kernel_rfl) rfl rfl rfl (.cons_cons _ (.cons_cons _ (.cons _ (.cons _ (.cons _ (.refl _)))))) (OpQ.move rfl) ?_
                refine RA.q 1 (by kernel_rfl) rfl rfl rfl (.cons_cons _ (.cons_cons _ (.cons _ (.cons _ (.cons _ (.refl _)))))) (OpQ.move rfl) ?_
                refine RA.q 2 (by kernel_rfl) rfl rfl rfl (.cons_cons _ (.cons_cons _ (.cons _ (.cons _ (.cons _ (.refl _)))))) (OpQ.fieldAddr UA_fa81_0 rfl) ?_
                refine RA.q 3 (by kernel_rfl) rfl rfl rfl (.cons_cons _ (.cons_cons _ (.cons _ (.cons _ (.cons _ (.refl _)))))) (OpQ.loadF (b := b5) UA_sc3 rfl (by repeat (first | exact Has.here | apply Has.there)) (by rfl)) ?_
                refine RA.q 4 (by kernel_rfl) rfl rfl rfl (.cons_cons _ (.cons_cons _ (.cons _ (.cons _ (.cons _ (.refl _)))))) (OpQ.move rfl) ?_
                refine RA.q 6 (by kernel_rfl) rfl rfl rfl (.cons_cons _ (.cons_cons _ (.cons _ (.cons _ (.cons _ (.refl _)))))) (OpQ.move rfl) ?_
                refine RA.q 7 (by kernel_rfl) rfl rfl rfl (.cons_cons _ (.cons_cons _ (.cons _ (.cons _ (.cons _ (.refl _)))))) (OpQ.move rfl) ?_
                refine RA.q 8 (by kernel_rfl) rfl rfl rfl (.cons_cons _ (.cons_cons _ (.cons _ (.cons _ (.cons _ (.refl _)))))) (OpQ.fieldAddr UA_fa81_1 rfl) ?_
                refine RA.q 9 (by kernel_rfl) rfl rfl rfl (.cons_cons _ (.cons_cons _ (.cons _ (.cons _ (.cons _ (.refl _)))))) (OpQ.loadF (b := b5) UA_sc3 rfl (by repeat (first | exact Has.here | apply Has.there)) (by rfl)) ?_
                refine RA.f 5 (by kernel_rfl) rfl rfl rfl (OpG.callX UA_go58 rfl (.cons (.there (.there .here)) (.cons (.there (.there .here)) (.cons (.there (.there .here)) .nil))) (fun _ => (.cons (.cons (.cons .nil)))) (fun w hH hp => leq_spec w b m nd (.slice oa N oc) L xs a c hp hok (by omega) (l : Int) (z : Int) (by omega) (by omega))) (fun _ _ => (.cons _ (.cons _ (.cons _ (.cons_cons _ (.cons_cons _ (.refl _))))))) ?_
                rintro ⟨xs124, r124, a124, c124⟩ g124
                dsimp only at g124
                have l124 := g124.len
                have n124 := g124.mono
                have q124 := g124.lt
                refine RA.know 124 (v' := .int .i64 ((r124 : Nat) : Int)) rfl rfl ?_
                refine RA.f 10 (by kernel_rfl) rfl rfl rfl (OpG.callX UA_go58 rfl (.cons .here (.cons .here (.cons .here .nil))) (fun _ => (.cons (.cons (.cons .nil)))) (fun w hH hp => leq_spec w b m nd (.slice oa N oc) L xs124 a124 c124 hp g124.ok (by omega) (z : Int) (r : Int) (by omega) (by omega))) (fun _ _ => (.cons _ (.cons _ (.cons _ (.cons_cons _ (.cons_cons _ (.refl _))))))) ?_
                rintro ⟨xs129, r129, a129, c129⟩ g129
                dsimp only at g129
                have l129 := g129.len
                have n129 := g129.mono
                have q129 := g129.lt
                refine RA.know 129 (v' := .int .i64 ((r129 : Nat) : Int)) rfl rfl ?_
                refine RA.tail ?_
                refine RT.f 11 (by kernel_rfl) rfl rfl rfl (OpG.callX UA_go59 rfl (.cons .here (.cons .here (.cons .here .nil))) (fun _ => (.cons (.cons (.cons .nil)))) (fun w hH hp => and_spec w b m nd (.slice oa N oc) L xs129 a129 c129 hp g129.ok (by omega) r124 r129 (by omega) g129.lt)) ?_
                rintro ⟨xs130, r130, a130, c130⟩ g130
                dsimp only at g130
                have l130 := g130.len
                have n130 := g130.mono
                have q130 := g130.lt
                refine RT.know 130 (v' := .int .i64 ((r130 : Nat) : Int)) rfl rfl ?_
                refine RT.q 12 (by kernel_rfl) rfl rfl rfl (OpQ.assign rfl) ?_
                refine RT.done (by kernel_rfl) ?_
                refine PX.then_n ?_
                refine CT.seq ?_
                -- region 17, drawn: translate.go:125
                refine CT.draw 29 UA_mixed ?_
                refine RA.q 0 (by kernel_rfl) rfl rfl rfl (.refl _) (OpQ.move rfl) ?_
                refine RA.q 1 (by kernel_rfl) rfl rfl rfl (.refl _) (OpQ.move rfl) ?_
                refine RA.q 2 (by kernel_rfl) rfl rfl rfl (.refl _) (OpQ.nilCheckP rfl) ?_
                refine RA.q 3 (by kernel_rfl) rfl rfl rfl (.refl _) (OpQ.fieldAddr UA_fa79_2 rfl) ?_
                refine RA.q 4 (by kernel_rfl) rfl rfl rfl (.refl _) (OpQ.loadF (b := b) UA_sc74 rfl (by repeat (first | exact Has.here | apply Has.there)) (by rfl)) ?_
                refine RA.q 5 (by kernel_rfl) rfl rfl rfl (.refl _) (OpQ.fieldAddr UA_fa72_2 rfl) ?_
                refine RA.q 6 (by kernel_rfl) rfl rfl rfl (.refl _) (OpQ.loadF (b := b4) UA_sc3 rfl (by repeat (first | exact Has.here | apply Has.there)) (by rfl)) ?_
                refine RA.q 7 (by kernel_rfl) rfl rfl rfl (.refl _) (OpQ.fieldAddr UA_fa81_0 rfl) ?_
                refine RA.q 8 (by kernel_rfl) rfl rfl rfl (.refl _) (OpQ.loadF (b := b5) UA_sc3 rfl (by repeat (first | exact Has.here | apply Has.there)) (by rfl)) ?_
                refine RA.q 9 (by kernel_rfl) rfl rfl rfl (.refl _) (OpQ.move rfl) ?_
                refine RA.q 10 (by kernel_rfl) rfl rfl rfl (.refl _) (OpQ.build (cells := #[.int .i64 ((l : Nat) : Int), .int .i64 ((z : Nat) : Int)]) UA_pl81 rfl rfl) ?_
                refine RA.q 12 (by kernel_rfl) rfl rfl rfl (.refl _) (OpQ.index UA_un74 UA_sz89 rfl rfl (by omega) (hso (by omega))) ?_
                refine RA.q 15 (by kernel_rfl) rfl rfl rfl (.refl _) (OpQ.move rfl) ?_
                refine RA.q 16 (by kernel_rfl) rfl rfl rfl (.refl _) (OpQ.nilCheckP rfl) ?_
                refine RA.q 17 (by kernel_rfl) rfl rfl rfl (.refl _) (OpQ.fieldAddr UA_fa79_2 rfl) ?_
                refine RA.q 18 (by kernel_rfl) rfl rfl rfl (.refl _) (OpQ.loadF (b := b) UA_sc74 rfl (by repeat (first | exact Has.here | apply Has.there)) (by rfl)) ?_
                refine RA.q 19 (by kernel_rfl) rfl rfl rfl (.refl _) (OpQ.fieldAddr UA_fa72_3 rfl) ?_
                refine RA.q 20 (by kernel_rfl) rfl rfl rfl (.refl _) (OpQ.loadF (b := b4) UA_sc3 rfl (by repeat (first | exact Has.here | apply Has.there)) (by rfl)) ?_
                refine RA.q 21 (by kernel_rfl) rfl rfl rfl (.refl _) (OpQ.move rfl) ?_
                refine RA.q 22 (by kernel_rfl) rfl rfl rfl (.refl _) (OpQ.fieldAddr UA_fa81_1 rfl) ?_
                refine RA.q 23 (by kernel_rfl) rfl rfl rfl (.refl _) (OpQ.loadF (b := b5) UA_sc3 rfl (by repeat (first | exact Has.here | apply Has.there)) (by rfl)) ?_
                refine RA.q 24 (by kernel_rfl) rfl rfl rfl (.refl _) (OpQ.build (cells := #[.int .i64 ((z : Nat) : Int), .int .i64 ((r : Nat) : Int)]) UA_pl81 rfl rfl) ?_
                refine RA.q 26 (by kernel_rfl) rfl rfl rfl (.refl _) (OpQ.index UA_un74 UA_sz89 rfl rfl (by omega) (hso (by omega))) ?_
                refine RA.f 11 (by kernel_rfl) rfl rfl rfl (OpG.callV UA_go39 rfl (fun w hH => slot_spec w l z (by omega) (by omega))) (fun _ _ => (.refl _)) ?_
                rintro _ _
                refine RA.q 13 (by kernel_rfl) rfl rfl rfl (.refl _) (OpQ.indexArr1 UA_un89 UA_sz3 rfl rfl (by omega)) ?_
                refine RA.q 14 (by kernel_rfl) rfl rfl rfl (.refl _) (OpQ.loadGF UA_sc3 rfl (fun w hH => hH.use hr) (getMap zi os 0 (j := n.a.toNat * 9 + (l * 3 + z)) (by omega))) ?_
                refine RA.know 145 (v' := .int .i64 ((ρa : Nat) : Int)) rfl (congrArg (Value.int .i64) hρa) ?_
                refine RA.f 25 (by kernel_rfl) rfl rfl rfl (OpG.callV UA_go39 rfl (fun w hH => slot_spec w z r (by omega) (by omega))) (fun _ _ => (.refl _)) ?_
                rintro _ _
                refine RA.q 27 (by kernel_rfl) rfl rfl rfl (.refl _) (OpQ.indexArr1 UA_un89 UA_sz3 rfl rfl (by omega)) ?_
                refine RA.q 28 (by kernel_rfl) rfl rfl rfl (.refl _) (OpQ.loadGF UA_sc3 rfl (fun w hH => hH.use hr) (getMap zi os 0 (j := n.b.toNat * 9 + (z * 3 + r)) (by omega))) ?_
                refine RA.know 159 (v' := .int .i64 ((ρb : Nat) : Int)) rfl (congrArg (Value.int .i64) hρb) ?_
                refine RA.tail ?_
                refine RT.f 29 (by kernel_rfl) rfl rfl rfl (OpG.callX UA_go59 rfl (.cons .here (.cons .here (.cons .here .nil))) (fun _ => (.cons (.cons (.cons .nil)))) (fun w hH hp => and_spec w b m nd (.slice oa N oc) L xs130 a130 c130 hp g130.ok (by omega) ρa ρb (by have := ta.lt; omega) (by have := tb.lt; omega))) ?_
                rintro ⟨xs160, r160, a160, c160⟩ g160
                dsimp only at g160
                have l160 := g160.len
                have n160 := g160.mono
                have q160 := g160.lt
                refine RT.know 160 (v' := .int .i64 ((r160 : Nat) : Int)) rfl rfl ?_
                refine RT.q 30 (by kernel_rfl) rfl rfl rfl (OpQ.assign rfl) ?_
                refine RT.done (by kernel_rfl) ?_
                refine PX.then_n ?_
                refine CT.seq ?_
                -- region 18, drawn: translate.go:126
                refine CT.draw' (Hc := [.row 81 2 (vb b5) 1 [.int .i64 ((l : Nat) : Int), .int .i64 ((r : Nat) : Int)], .row 72 4 (vb b4) 1 (nv n)]) 9 UA_mixed ?_
                refine RA.q 0 (by kernel_rfl) rfl rfl rfl (.cons _ (.cons _ (.cons _ (.cons_cons _ (.cons_cons _ (.refl _)))))) (OpQ.move rfl) ?_
                refine RA.q 1 (by kernel_rfl) rfl rfl rfl (.cons _ (.cons _ (.cons _ (.cons_cons _ (.cons_cons _ (.refl _)))))) (OpQ.nilCheckP rfl) ?_
                refine RA.q 2 (by kernel_rfl) rfl rfl rfl (.cons _ (.cons _ (.cons _ (.cons_cons _ (.cons_cons _ (.refl _)))))) (OpQ.fieldAddr UA_fa79_1 rfl) ?_
                refine RA.q 3 (by kernel_rfl) rfl rfl rfl (.cons _ (.cons _ (.cons _ (.cons_cons _ (.cons_cons _ (.refl _)))))) (OpQ.move rfl) ?_
                refine RA.q 4 (by kernel_rfl) rfl rfl rfl (.cons _ (.cons _ (.cons _ (.cons_cons _ (.cons_cons _ (.refl _)))))) (OpQ.move rfl) ?_
                refine RA.q 5 (by kernel_rfl) rfl rfl rfl (.cons _ (.cons _ (.cons _ (.cons_cons _ (.cons_cons _ (.refl _)))))) (OpQ.move rfl) ?_
                refine RA.q 6 (by kernel_rfl) rfl rfl rfl (.cons _ (.cons _ (.cons _ (.cons_cons _ (.cons_cons _ (.refl _)))))) (OpQ.move rfl) ?_
                refine RA.f 7 (by kernel_rfl) rfl rfl rfl (OpG.callX UA_go59 rfl (.cons .here (.cons .here (.cons .here .nil))) (fun _ => (.cons (.cons (.cons .nil)))) (fun w hH hp => and_spec w b m nd (.slice oa N oc) L xs160 a160 c160 hp g160.ok (by omega) r130 r160 (by omega) g160.lt)) (fun _ _ => (.cons _ (.cons _ (.cons _ (.cons_cons _ (.cons_cons _ (.refl _))))))) ?_
                rintro ⟨xs168, r168, a168, c168⟩ g168
                dsimp only at g168
                have l168 := g168.len
                have n168 := g168.mono
                have q168 := g168.lt
                refine RA.know 168 (v' := .int .i64 ((r168 : Nat) : Int)) rfl rfl ?_
                refine RA.q 8 (by kernel_rfl) rfl rfl rfl (.cons _ (.cons _ (.cons _ (.cons_cons _ (.cons_cons _ (.refl _)))))) (OpQ.build (cells := #[.int .i64 7, .int .i64 ((z : Nat) : Int), .int .i64 0, .int .i64 0, .int .i64 ((r168 : Nat) : Int), .int .i64 0]) UA_pl29 rfl rfl) ?_
                refine RA.tail ?_
                refine RT.f 9 (by kernel_rfl) rfl rfl rfl (OpG.callX UA_go56 rfl (.cons .here (.cons .here (.cons .here .nil))) (fun _ => (.cons (.cons (.cons .nil)))) (fun w hH hp => add_spec w b m nd (.slice oa N oc) xs168 a168 c168 hp (by omega) ⟨7, (z : Nat), 0, 0, (r168 : Nat), 0⟩)) ?_
                rintro ⟨a170, c170⟩ _
                refine RT.know 170 (v' := .int .i64 (((addF xs168 ⟨7, (z : Nat), 0, 0, (r168 : Nat), 0⟩).2 : Nat) : Int)) rfl rfl ?_
                refine RT.q 10 (by kernel_rfl) rfl rfl rfl (OpQ.assign rfl) ?_
                refine RT.done (by kernel_rfl) ?_
                refine PX.then_n ?_
                refine CT.ret ?_
                refine PX.block_r ?_
                refine PX.then_r ?_
                refine PX.ret1 rfl rfl (fun w' hH => ?_)
                exact ⟨((addF xs168 ⟨7, (z : Nat), 0, 0, (r168 : Nat), 0⟩).1, (addF xs168 ⟨7, (z : Nat), 0, 0, (r168 : Nat), 0⟩).2, a170, c170), fn_cat hG hi hn h115 hl hrr hlr hz ta tb g124 g129 g130 g160 g168 (fr_ex g168.ok (by omega) g168.lt), rfl, hH.post.sub (.keep rfl (.keep rfl (.keep rfl (.drop (.drop .nil)))))⟩
              · -- if t115: else
                have h115 := of_decide_eq_false h115
                refine CT.skip ?_
                refine PX.block_n ?_
                refine PX.then_n ?_
                refine CT.seq ?_
                -- region 19: translate.go:128
                refine CT.region ?_
                refine Wl.q rfl rfl (OpQ.move rfl) ?_
                refine Wl.g rfl rfl (OpG.callX UA_go57 rfl (.cons (.there (.there .here)) (.cons (.there (.there .here)) (.cons (.there (.there .here)) .nil))) (fun _ => (.cons (.cons (.cons .nil)))) (fun w hH hp => always_spec w b m nd (.slice oa N oc) L xs a c hp hok (by omega) )) ?_
                rintro ⟨xs172, r172, a172, c172⟩ g172
                dsimp only at g172
                have l172 := g172.len
                have n172 := g172.mono
                have q172 := g172.lt
                refine Wl.know 172 (v' := .int .i64 ((r172 : Nat) : Int)) rfl rfl ?_
                refine Wl.q rfl rfl (OpQ.assign rfl) ?_
                refine Wl.nil ?_
                refine PX.then_n ?_
                refine CT.ret ?_
                refine PX.ret1 rfl rfl (fun w' hH => ?_)
                exact ⟨(xs172, r172, a172, c172), fn_all hG hi hn (by omega) g172, rfl, hH.post.sub (.keep rfl (.keep rfl (.keep rfl (.drop (.drop .nil)))))⟩

end Go.Proofs.Ytdcjemjfliaaiaa
