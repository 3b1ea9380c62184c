/-
  What functions of the packages firstorder, semigroupref38 and semigroupmade compute, each by its walk. Conditions: those that each theorem names.
-/
import Derived.Test.YtdcjemjfliaaiaaMod
import Derived.Test.YtdcjemjfliaaiaaLaws2
import Derived.Test.YtdcjemjfliaaiaaWalks14
set_option linter.unusedSimpArgs false
namespace Go.Proofs.Ytdcjemjfliaaiaa
open Go Go.Eng Go.Fo Go.Sf
open Go.Tp (zi)
open Go.Tl (vf mayL Wd okW okB vf_t vf_f bo)

theorem AB_un56 : Try.prog.underlying 56 = some (.slice 5) := by kernel_rfl
theorem AB_un5 : Try.prog.underlying 5 = some (.int .u8) := by kernel_rfl
theorem AB_un9 : Try.prog.underlying 9 = some .string := by kernel_rfl
theorem AB_mixed : Try.prog.follows .mixedOrders = true := by kernel_rfl
theorem AB_ag40 : isAggB Try.prog 40 = some true := by kernel_rfl
theorem AB_sz40 : sizeB Try.prog 40 = some 2 := by kernel_rfl
theorem AB_go25 : isGo Try.prog 25 = true := by kernel_rfl
theorem AB_go43 : isGo Try.prog 43 = true := by kernel_rfl
theorem AB_fa40_1 : fieldB Try.prog 40 1 = some 1 := by kernel_rfl
theorem AB_sc3 : scalarB Try.prog 3 = some true := by kernel_rfl
theorem AB_go45 : isGo Try.prog 45 = true := by kernel_rfl
theorem AB_un95 : Try.prog.underlying 95 = some (.slice 4) := by kernel_rfl
theorem AB_sz4 : sizeB Try.prog 4 = some 1 := by kernel_rfl
theorem AB_sc4 : scalarB Try.prog 4 = some true := by kernel_rfl
set_option maxRecDepth 100000 in
/-- semigroup/semigroupref31.Accepts -/
theorem gaccR_spec (w : World) (a : Option Addr) (cp : Nat) (xs : List Nd) (hr : Rd w a (xs.flatMap nv)) (hn : xs.length ≤ 20000) (rt : Nat) (hrt : rt < xs.length) (hok : okG xs 6 = true) (ws : Wd) (hws : ws.length ≤ 64) (hwk : okW ws 6 = true) : Calls Try.prog 24 #[.agg #[.slice a xs.length cp, .int .i64 ((rt : Nat) : Int)], sv ws] w (fun e w' => e = .returned (.bool (mem xs ws rt 0 ws.length)) ∧ Ext [] w w') := by
  refine enter (args := [.agg #[.slice a xs.length cp, .int .i64 ((rt : Nat) : Int)], sv ws]) [] 26 Try.func24 rfl rfl rfl ?_
  refine CT.seq ?_
  -- region 0: ref.go:78
  refine CT.region ?_
  refine Wl.g rfl rfl (OpG.box (size := 2) rfl rfl rfl) ?_
  rintro b2 _
  refine Wl.q rfl rfl (OpQ.assign rfl) ?_
  refine Wl.nil ?_
  refine PX.then_n ?_
  refine CT.seq ?_
  -- region 1, drawn: ref.go:79
  refine CT.draw 22 AB_mixed ?_
  refine RA.q 0 (by kernel_rfl) rfl rfl rfl (.refl _) (OpQ.loadV (b := b2) AB_ag40 AB_sz40 rfl (by repeat (first | exact Has.here | apply Has.there)) (by rfl)) ?_
  refine RA.f 1 (by kernel_rfl) rfl rfl rfl (OpG.callV AB_go25 rfl (fun w hH => gvalidR_spec w a cp xs (hH.rd0 hr rfl) (by omega) (rt : Int) 6)) (fun _ _ => (.refl _)) ?_
  rintro _ _
  refine RA.know 6 (v' := .int .i64 (0)) rfl (congrArg (Value.int .i64) (gE_of (by decide) hn hok hrt)) ?_
  refine RA.q 2 (by kernel_rfl) rfl rfl rfl (.refl _) (OpQ.eql rfl rfl) ?_
  refine RA.know 7 (v' := .bool true) rfl (congrArg Value.bool rfl) ?_
  refine RA.q 3 (by kernel_rfl) rfl rfl rfl (.refl _) (OpQ.move rfl) ?_
  refine RA.q 4 (by kernel_rfl) rfl rfl rfl (.refl _) (OpQ.move rfl) ?_
  refine RA.f 5 (by kernel_rfl) rfl rfl rfl (OpG.callV AB_go43 rfl (fun w hH => wvalidR_spec w ws (by omega) 6)) (fun _ _ => (.refl _)) ?_
  rintro _ _
  refine RA.know 10 (v' := .bool true) rfl (congrArg Value.bool hwk) ?_
  refine RA.q 6 (by kernel_rfl) rfl rfl rfl (.refl _) (OpQ.pickT rfl rfl) ?_
  refine RA.q 7 (by kernel_rfl) rfl rfl rfl (.refl _) (OpQ.move rfl) ?_
  refine RA.q 8 (by kernel_rfl) rfl rfl rfl (.refl _) (OpQ.move rfl) ?_
  refine RA.q 9 (by kernel_rfl) rfl rfl rfl (.refl _) (OpQ.lenSv AB_un9 rfl) ?_
  refine RA.q 10 (by kernel_rfl) rfl rfl rfl (.refl _) (OpQ.leq rfl rfl) ?_
  refine RA.know 15 (v' := .bool true) rfl (congrArg Value.bool (decide_eq_true (by omega))) ?_
  refine RA.q 11 (by kernel_rfl) rfl rfl rfl (.refl _) (OpQ.pickT rfl rfl) ?_
  refine RA.q 12 (by kernel_rfl) rfl rfl rfl (.refl _) (OpQ.move rfl) ?_
  refine RA.q 13 (by kernel_rfl) rfl rfl rfl (.refl _) (OpQ.loadV (b := b2) AB_ag40 AB_sz40 rfl (by repeat (first | exact Has.here | apply Has.there)) (by rfl)) ?_
  refine RA.q 14 (by kernel_rfl) rfl rfl rfl (.refl _) (OpQ.move rfl) ?_
  refine RA.q 16 (by kernel_rfl) rfl rfl rfl (.refl _) (OpQ.fieldAddr AB_fa40_1 rfl) ?_
  refine RA.q 17 (by kernel_rfl) rfl rfl rfl (.refl _) (OpQ.loadF (b := b2) AB_sc3 rfl (by repeat (first | exact Has.here | apply Has.there)) (by rfl)) ?_
  refine RA.f 15 (by kernel_rfl) rfl rfl rfl (OpG.callX AB_go45 rfl .nil (fun _ => (.cons .nil)) (fun w hH hp => gholdsR_spec w a cp xs (hH.rd0 hr rfl) hn ((rt : Nat) : Int) hok ws hws hwk)) (fun _ _ => (.cons _ (.refl _))) ?_
  rintro ⟨a20, c20⟩ h20
  dsimp only at h20
  refine RA.know 20 (v' := .slice a20 xs.length c20) rfl rfl ?_
  refine RA.q 18 (by kernel_rfl) rfl rfl rfl (.cons _ (.refl _)) (OpQ.index1 AB_un95 AB_sz4 rfl rfl (by omega) (h20 (by omega))) ?_
  refine RA.fq 19 (by kernel_rfl) rfl rfl rfl (OpQ.loadRow AB_sc4 rfl .here (getMap bo ((List.range xs.length).map fun j => mem xs ws j 0 ws.length) false (j := rt) (by rw [List.length_map, List.length_range]; exact hrt))) (.cons _ (.refl _)) ?_
  refine RA.know 24 (v' := .bool (mem xs ws rt 0 ws.length)) rfl (congrArg Value.bool (by simp [List.getD_eq_getElem?_getD, hrt])) ?_
  refine RA.q 20 (by kernel_rfl) rfl rfl rfl (.cons _ (.refl _)) (OpQ.pickT rfl rfl) ?_
  refine RA.q 21 (by kernel_rfl) rfl rfl rfl (.cons _ (.refl _)) (OpQ.assign rfl) ?_
  refine RA.tail ?_
  refine RT.done (by kernel_rfl) ?_
  refine PX.then_n ?_
  refine CT.ret ?_
  refine PX.ret1 rfl rfl (fun w' hH => ?_)
  exact ⟨rfl, hH.ext⟩

theorem AB_un48 : Try.prog.underlying 48 = some (.slice 9) := by kernel_rfl
theorem AB_in9 : (Try.prog.info? 9).map (fun i => (i.zero, i.size, i.bytes)) = some (some (.string ⟨#[]⟩), 1, 16) := by kernel_rfl
theorem AB_sz9 : sizeB Try.prog 9 = some 1 := by kernel_rfl
theorem AB_sc9 : scalarB Try.prog 9 = some true := by kernel_rfl
theorem AB_un3 : Try.prog.underlying 3 = some (.int .i64) := by kernel_rfl
theorem AB_in5 : (Try.prog.info? 5).map (fun i => (i.zero, i.size, i.bytes)) = some (some (.int .u8 0), 1, 1) := by kernel_rfl
set_option maxRecDepth 100000 in
/-- semigroup/semigroupmade.Words -/
theorem words_spec (w : World) (L M : Nat) (hL : 1 ≤ L ∧ L ≤ 6) (hM : M ≤ 2000) (hT : Wr.tsz L M ≤ 100000) : Calls Try.prog 22 #[.int .i64 (L : Int), .int .i64 (M : Int)] w (fun e w' => ∃ i : List Wd × Option Addr × Nat, (Wr.okG L M i.1 ∧ i.1.length ≤ 100000) ∧ e = .returned (.slice i.2.1 i.1.length i.2.2) ∧ Post [] [.row 9 1 (.slice i.2.1 i.1.length i.2.2) i.1.length (i.1.map sv)] w w') := by
  refine enter (args := [.int .i64 (L : Int), .int .i64 (M : Int)]) [] 43 Try.func22 rfl rfl rfl ?_
  refine CT.seq ?_
  -- region 0: made.go:70
  refine CT.region ?_
  refine Wl.q rfl rfl (OpQ.assign rfl) ?_
  refine Wl.nil ?_
  refine PX.then_n ?_
  refine CT.seq ?_
  -- region 1: made.go:71
  refine CT.region ?_
  refine Wl.g rfl rfl (OpG.lit1 AB_un48 AB_in9 rfl rfl rfl) ?_
  rintro b8 _
  refine Wl.q rfl rfl (OpQ.assign rfl) ?_
  refine Wl.nil ?_
  refine PX.then_n ?_
  refine CT.seq ?_
  refine CT.seq ?_
  -- region 2: made.go:72
  refine CT.region ?_
  refine Wl.q rfl rfl (OpQ.assign rfl) ?_
  refine Wl.nil ?_
  refine PX.then_n ?_
  refine CT.block ?_
  -- the loop at region 3
  refine CT.loop (ι := Nat × List Wd × Option Addr × Nat) (fun (i, l, a', c') => i ≤ l.length ∧ i + Wr.pot L M (l.drop i) = Wr.tsz L M ∧ Wr.okG L M l) (fun (i, l, a', c') => [(0, .int .i64 (L : Int)), (1, .int .i64 (M : Int)), (5, .slice a' l.length c'), (6, .int .i64 (i : Int))]) (fun (i, l, a', c') => [.row 9 1 (.slice a' l.length c') l.length (l.map sv)]) (fun (i, l, a', c') => Wr.pot L M (l.drop i)) (0, [[]], some ⟨b8, 0, none⟩, 1) ⟨Nat.zero_le _, by rw [List.drop_zero, Wr.pot_one, Nat.zero_add], Wr.okG_one _ _⟩ ⟨rfl, rfl, rfl, rfl, trivial⟩ (.keep rfl .nil) (fun ⟨i, l, a', c'⟩ ⟨hi, hp, hg⟩ K0 hK0 => ?_)
  dsimp only
  refine CT.seq ?_
  refine CT.seq ?_
  -- region 3: made.go:72
  refine CT.region ?_
  refine Wl.q rfl rfl (OpQ.move rfl) ?_
  refine Wl.q rfl rfl (OpQ.move rfl) ?_
  refine Wl.q rfl rfl (OpQ.len AB_un48 rfl) ?_
  refine Wl.q rfl rfl (OpQ.lss rfl rfl) ?_
  refine Wl.nil ?_
  refine PX.then_n ?_
  refine CT.cond rfl (fun h12 => ?_) (fun h12 => ?_)
  · -- if t12: then
    have h12 := of_decide_eq_true h12
    have h0 : i < l.length := by omega
    obtain ⟨x, hx⟩ : ∃ x, x = l.getD i [] := ⟨_, rfl⟩
    have hxg := Wr.okG_get hg h0
    rw [← hx] at hxg
    have hpi := Wr.pot_in (L := L) (M := M) h0
    rw [← hx] at hpi
    refine CT.skip ?_
    refine PX.then_n ?_
    refine CT.seq ?_
    refine CT.block ?_
    refine CT.seq ?_
    -- region 5: made.go:73
    refine CT.region ?_
    refine Wl.q rfl rfl (OpQ.assign rfl) ?_
    refine Wl.nil ?_
    refine PX.then_n ?_
    refine CT.block ?_
    -- the loop at region 6
    have hxc := hx
    refine CT.loop (ι := Nat × List Wd × Option Addr × Nat) (fun (c, l, a', c') => i < l.length ∧ x = l.getD i [] ∧ c ≤ L ∧ i + 1 + Wr.pot L M (l.drop (i + 1)) + Wr.rst L M x c = Wr.tsz L M ∧ Wr.okG L M l) (fun (c, l, a', c') => [(0, .int .i64 (L : Int)), (1, .int .i64 (M : Int)), (5, .slice a' l.length c'), (6, .int .i64 (i : Int)), (7, .int .i64 (c : Int))]) (fun (c, l, a', c') => [.row 9 1 (.slice a' l.length c') l.length (l.map sv)]) (fun (c, l, a', c') => L - c) (0, l, a', c') ⟨h0, hx, Nat.zero_le _, by omega, hg⟩ ⟨rfl, rfl, rfl, rfl, rfl, trivial⟩ (HSub.refl _) (fun ⟨c, l, a', c'⟩ ⟨h0, hx, hc, hp, hg⟩ K1 hK1 => ?_)
    dsimp only
    refine CT.fact (p := 0 < l.length → a'.isSome = true) (fun w hH h0 => (hH.rd .here).isSome (j := 0) (by rw [List.length_map]; exact h0)) (fun hsa => ?_)
    refine CT.seq ?_
    refine CT.seq ?_
    -- region 6: made.go:73
    refine CT.region ?_
    refine Wl.q rfl rfl (OpQ.move rfl) ?_
    refine Wl.q rfl rfl (OpQ.move rfl) ?_
    refine Wl.q rfl rfl (OpQ.lss rfl rfl) ?_
    refine Wl.q rfl rfl (OpQ.move rfl) ?_
    refine Wl.split 18 rfl (fun hg18 => ?_) (fun hg18 => ?_)
    · -- t18 = True
      have hg18 := of_decide_eq_true hg18
      refine Wl.q rfl rfl (OpQ.move rfl) ?_
      refine Wl.q rfl rfl (OpQ.move rfl) ?_
      refine Wl.q rfl rfl (OpQ.index1 AB_un48 AB_sz9 rfl rfl (by omega) (hsa (by omega))) ?_
      refine Wl.q rfl rfl (OpQ.loadRow AB_sc9 rfl .here (Wr.getWd l h0)) ?_
      refine Wl.know 22 (v' := sv x) rfl (congrArg sv hx.symm) ?_
      refine Wl.q rfl rfl (OpQ.lenSv AB_un9 rfl) ?_
      refine Wl.q rfl rfl (OpQ.move rfl) ?_
      refine Wl.q rfl rfl (OpQ.lss rfl rfl) ?_
      refine Wl.q rfl rfl (OpQ.pickT rfl rfl) ?_
      refine Wl.nil ?_
      refine PX.then_n ?_
      refine CT.cond rfl (fun h26 => ?_) (fun h26 => ?_)
      · -- if t26: then
        have h26 := of_decide_eq_true h26
        have hlx : x.length < M := by omega
        have hgl := Wr.pot_ge (L := L) (M := M) (i := i + 1) l
        have hps := Wr.rst_step (L := L) (c := c) hlx (by omega) 0
        refine CT.skip ?_
        refine PX.then_n ?_
        refine CT.seq ?_
        refine CT.block ?_
        -- region 8, drawn: made.go:74
        refine CT.draw 12 AB_mixed ?_
        refine RA.q 0 (by kernel_rfl) rfl rfl rfl (.refl _) (OpQ.move rfl) ?_
        refine RA.q 1 (by kernel_rfl) rfl rfl rfl (.refl _) (OpQ.move rfl) ?_
        refine RA.q 2 (by kernel_rfl) rfl rfl rfl (.refl _) (OpQ.move rfl) ?_
        refine RA.q 3 (by kernel_rfl) rfl rfl rfl (.refl _) (OpQ.index1 AB_un48 AB_sz9 rfl rfl (by omega) (hsa (by omega))) ?_
        refine RA.q 4 (by kernel_rfl) rfl rfl rfl (.refl _) (OpQ.loadRow AB_sc9 rfl .here (Wr.getWd l h0)) ?_
        refine RA.know 33 (v' := sv x) rfl (congrArg sv hx.symm) ?_
        refine RA.q 5 (by kernel_rfl) rfl rfl rfl (.refl _) (OpQ.move rfl) ?_
        refine RA.q 6 (by kernel_rfl) rfl rfl rfl (.refl _) (OpQ.add rfl rfl (by omega)) ?_
        refine RA.q 7 (by kernel_rfl) rfl rfl rfl (.refl _) (OpQ.conv rfl (conv_i64_u8 AB_un3 AB_un5 _ (by omega))) ?_
        refine RA.know 36 (v' := bv (UInt8.ofNat (97 + (c : Int)).toNat)) rfl (Tl.bv_of (by omega)) ?_
        refine RA.f 8 (by kernel_rfl) rfl rfl rfl (OpG.lit1 AB_un56 AB_in5 rfl rfl rfl) (fun _ _ => (.cons _ (.refl _))) ?_
        rintro b37 _
        refine RA.fq 9 (by kernel_rfl) rfl rfl rfl (OpQ.convBS (l := [UInt8.ofNat (97 + (c : Int)).toNat]) AB_un56 AB_un5 AB_un9 rfl (fun w hH => hH.rd .here)) (.cons _ (.refl _)) ?_
        refine RA.q 10 (by kernel_rfl) rfl rfl rfl (.cons _ (.refl _)) (OpQ.concat rfl rfl (by dsimp only [List.length_singleton]; omega)) ?_
        refine RA.f 11 (by kernel_rfl) rfl rfl rfl (OpG.lit1 AB_un48 AB_in9 rfl rfl rfl) (fun _ _ => (.cons _ (.cons _ (.refl _)))) ?_
        rintro b40 _
        refine RA.tail ?_
        refine RT.f 12 (by kernel_rfl) rfl rfl rfl (OpG.append AB_un48 AB_in9 (by rfl) (by decide) rfl rfl (p := 2) rfl (fun w hH => hH.rd .here) ⟨rfl, (by simp [Value.oneCell', sv]), (by omega), (by omega)⟩ (nm := l.length + 1) rfl (all := (l ++ [(x ++ [UInt8.ofNat (97 + (c : Int)).toNat])]).map sv) (by simp)) ?_
        rintro ⟨a41, c41⟩ h41
        refine RT.q 13 (by kernel_rfl) rfl rfl rfl (OpQ.assign rfl) ?_
        refine RT.done (by kernel_rfl) ?_
        refine PX.block_n ?_
        refine PX.then_n ?_
        -- region 7: made.go:73
        refine CT.region ?_
        refine Wl.q rfl rfl (OpQ.move rfl) ?_
        refine Wl.q rfl rfl (OpQ.add rfl rfl (by omega)) ?_
        refine Wl.q rfl rfl (OpQ.assign rfl) ?_
        refine Wl.nil ?_
        refine PX.as (fun _ h => h.take (.cons (.there (.there .here)) .nil)) ?_
        exact PX.loop hK1 (c + 1, l ++ [(x ++ [UInt8.ofNat (97 + (c : Int)).toNat])], a41, c41) ⟨by simp; omega, by rw [Wr.get_app h0]; exact hx, by omega, by have := Wr.pot_put h0 (c := c) (x := x) (L := L) (M := M) hlx (by omega) (UInt8.ofNat (97 + (c : Int)).toNat); omega, Wr.okG_snoc hg hxg.1 hlx (by omega) hL.2⟩ (show L - (c + 1) < L - c by omega) ⟨rfl, rfl, (lkV rfl (by rw [List.length_append]; rfl)), rfl, rfl, trivial⟩ (.keep (by rw [List.length_append]; rfl) .nil)
      · -- if t26: else
        have h26 := of_decide_eq_false h26
        refine CT.exit ?_
        refine PX.then_x ?_
        refine PX.then_x ?_
        refine PX.block_x ?_
        refine PX.block_n ?_
        refine PX.then_n ?_
        -- region 4: made.go:72
        refine CT.region ?_
        refine Wl.q rfl rfl (OpQ.move rfl) ?_
        refine Wl.q rfl rfl (OpQ.add rfl rfl (by omega)) ?_
        refine Wl.q rfl rfl (OpQ.assign rfl) ?_
        refine Wl.nil ?_
        exact PX.loop hK0 (i + 1, l, a', c') ⟨by omega, by have := Wr.rst_end (x := x) (c := c) (L := L) (M := M) (by omega); omega, hg⟩ (by have := Wr.pot_in (L := L) (M := M) h0; dsimp only; omega) ⟨rfl, rfl, rfl, rfl, trivial⟩ (HSub.refl _)
    · -- t18 = False
      have hg18 := of_decide_eq_false hg18
      refine Wl.skip rfl rfl ?_
      refine Wl.skip rfl rfl ?_
      refine Wl.skip rfl rfl ?_
      refine Wl.skip rfl rfl ?_
      refine Wl.skip rfl rfl ?_
      refine Wl.skip rfl rfl ?_
      refine Wl.skip rfl rfl ?_
      refine Wl.q rfl rfl (OpQ.pickF rfl rfl) ?_
      refine Wl.nil ?_
      refine PX.then_n ?_
      refine CT.condF rfl ?_
      refine CT.exit ?_
      refine PX.then_x ?_
      refine PX.then_x ?_
      refine PX.block_x ?_
      refine PX.block_n ?_
      refine PX.then_n ?_
      -- region 4: made.go:72
      refine CT.region ?_
      refine Wl.q rfl rfl (OpQ.move rfl) ?_
      refine Wl.q rfl rfl (OpQ.add rfl rfl (by omega)) ?_
      refine Wl.q rfl rfl (OpQ.assign rfl) ?_
      refine Wl.nil ?_
      exact PX.loop hK0 (i + 1, l, a', c') ⟨by omega, by have := Wr.rst_end (x := x) (c := c) (L := L) (M := M) (by omega); omega, hg⟩ (by have := Wr.pot_in (L := L) (M := M) h0; dsimp only; omega) ⟨rfl, rfl, rfl, rfl, trivial⟩ (HSub.refl _)
  · -- if t12: else
    have h12 := of_decide_eq_false h12
    refine CT.exit ?_
    refine PX.then_x ?_
    refine PX.then_x ?_
    refine PX.block_x ?_
    refine PX.then_n ?_
    refine CT.seq ?_
    -- region 9: made.go:77
    refine CT.region ?_
    refine Wl.q rfl rfl (OpQ.move rfl) ?_
    refine Wl.q rfl rfl (OpQ.assign rfl) ?_
    refine Wl.nil ?_
    refine PX.then_n ?_
    refine CT.ret ?_
    refine PX.ret1 rfl rfl (fun w' hH => ?_)
    exact ⟨(l, a', c'), ⟨hg, by first | omega | (dsimp only; omega)⟩, rfl, hH.post⟩

theorem AB_go9 : isGo Try.prog 9 = true := by kernel_rfl
theorem AB_go10 : isGo Try.prog 10 = true := by kernel_rfl
theorem AB_go17 : isGo Try.prog 17 = true := by kernel_rfl
theorem AB_in40 : (Try.prog.info? 40).map (fun i => (i.zero, i.size, i.bytes)) = some (some (.agg #[.slice none 0 0, .int .i64 0]), 2, 32) := by kernel_rfl
theorem AB_go18 : isGo Try.prog 18 = true := by kernel_rfl
theorem AB_go19 : isGo Try.prog 19 = true := by kernel_rfl
theorem AB_un26 : Try.prog.underlying 26 = some (.slice 29) := by kernel_rfl
theorem AB_fa40_0 : fieldB Try.prog 40 0 = some 0 := by kernel_rfl
theorem AB_sc38 : scalarB Try.prog 38 = some true := by kernel_rfl
theorem AB_un38 : Try.prog.underlying 38 = some (.slice 72) := by kernel_rfl
theorem AB_go20 : isGo Try.prog 20 = true := by kernel_rfl
theorem AB_go21 : isGo Try.prog 21 = true := by kernel_rfl
theorem AB_go22 : isGo Try.prog 22 = true := by kernel_rfl
theorem AB_go23 : isGo Try.prog 23 = true := by kernel_rfl
theorem AB_go24 : isGo Try.prog 24 = true := by kernel_rfl
theorem AB_un4 : Try.prog.underlying 4 = some .bool := by kernel_rfl
theorem AB_go14 : isGo Try.prog 14 = true := by kernel_rfl
set_option maxRecDepth 100000 in
/-- semigroup/semigrouplaw38.FirstorderOf -/
theorem FirstorderOf_spec (w : World) (a : Option Addr) (cp : Nat) (l : List Int) (hrl : Rd w a (l.map zi)) (hl : l.length ≤ cp) : Calls Try.prog 6 #[.slice a l.length cp] w (fun e w' => e = .returned (.bool true) ∧ Ext [] w w') := by
  refine enter (args := [.slice a l.length cp]) [] 70 Try.func6 rfl rfl rfl ?_
  refine CT.seq ?_
  -- region 0: law.go:90
  refine CT.region ?_
  refine Wl.q rfl rfl (OpQ.assign rfl) ?_
  refine Wl.nil ?_
  refine PX.then_n ?_
  refine CT.seq ?_
  -- region 1: law.go:91
  refine CT.region ?_
  refine Wl.q rfl rfl (OpQ.move rfl) ?_
  refine Wl.g rfl rfl (OpG.callX AB_go9 rfl .nil (fun _ => (.cons .nil)) (fun w hH hp => new_spec w a cp l hl)) ?_
  rintro ⟨b12, k12⟩ h12
  dsimp only at h12
  obtain ⟨hk12, hk12m⟩ := h12
  have hrT12 : Stays [] w (fun w => Rd w a ((l.take k12).map zi)) := Rd.stays (by rw [List.map_take]; exact hrl.take _)
  have hle12 : (l.take k12).length = k12 := by rw [List.length_take]; omega
  refine Wl.q rfl rfl (OpQ.assign rfl) ?_
  refine Wl.nil ?_
  refine PX.then_n ?_
  refine CT.seq ?_
  -- region 2: law.go:92
  refine CT.region ?_
  refine Wl.q rfl rfl (OpQ.move rfl) ?_
  refine Wl.g rfl rfl (OpG.callX AB_go10 rfl (.cons .here .nil) (fun _ => (.cons .nil)) (fun w hH hp => next_spec w b12 a k12 cp (l.take k12) hle12 (by omega) (hH.stays hrT12 (.cons .here .nil)) 0 (Nat.zero_le _) hp (2) (by omega))) ?_
  rintro ⟨r14, p14⟩ h14
  dsimp only at h14
  obtain ⟨⟨h14a, h14b⟩, h14p⟩ := h14
  refine Wl.know 14 (v' := .int .i64 r14) rfl rfl ?_
  obtain ⟨L, hLL⟩ : ∃ L : Nat, 1 + r14 = L := ⟨(1 + r14).toNat, by omega⟩
  refine Wl.q rfl rfl (OpQ.add rfl rfl (by omega)) ?_
  refine Wl.know 15 (v' := .int .i64 (L : Int)) rfl (congrArg (Value.int .i64) hLL) ?_
  refine Wl.q rfl rfl (OpQ.assign rfl) ?_
  refine Wl.nil ?_
  refine PX.then_n ?_
  refine CT.seq ?_
  -- region 3: law.go:93
  refine CT.region ?_
  refine Wl.q rfl rfl (OpQ.move rfl) ?_
  refine Wl.q rfl rfl (OpQ.move rfl) ?_
  refine Wl.g rfl rfl (OpG.callX AB_go17 rfl (.cons .here .nil) (fun _ => (.cons (.cons .nil))) (fun w hH hp => graph_spec w b12 a k12 cp (l.take k12) hle12 (by omega) (hH.stays hrT12 (.cons .here .nil)) p14 h14p hp (L : Int) 8 (by omega) (by omega))) ?_
  rintro ⟨xs, p18, a18, c18⟩ h18
  dsimp only at h18
  obtain ⟨⟨hok, hlen1, hlen8⟩, h18p⟩ := h18
  obtain ⟨rt, hrt⟩ : ∃ rt, xs.length = rt + 1 := ⟨xs.length - 1, by omega⟩
  refine Wl.know 18 (v' := .agg #[.slice a18 xs.length c18, .int .i64 ((rt : Nat) : Int)]) rfl (by rw [show ((xs.length : Int) - 1) = ((rt : Nat) : Int) by omega]) ?_
  refine Wl.g rfl rfl (OpG.alloc (zs := [.slice none 0 0, .int .i64 0]) AB_in40 rfl rfl) ?_
  rintro b5 _
  refine Wl.g rfl rfl (OpG.storeV (b := b5) AB_sz40 rfl rfl rfl rfl (by repeat (first | exact Upd.here | apply Upd.there))) ?_
  rintro _ _
  refine Wl.nil ?_
  refine PX.then_n ?_
  refine CT.seq ?_
  -- region 4: law.go:94
  refine CT.region ?_
  refine Wl.q rfl rfl (OpQ.loadV (b := b5) AB_ag40 AB_sz40 rfl (by repeat (first | exact Has.here | apply Has.there)) (by rfl)) ?_
  refine Wl.q rfl rfl (OpQ.move rfl) ?_
  have hz : gE xs (rt : Int) (L : Int) = 0 := gE_of (by omega) (by omega) hok (by omega)
  have hok6 := okG_mono hok (M := 6) (by omega)
  refine Wl.g rfl rfl (OpG.callX AB_go18 rfl .nil (fun _ => (.cons .nil)) (fun w hH hp => fof_spec w a18 c18 xs (hH.rd (.there .here)) (by omega) (rt : Int) (L : Int))) ?_
  rintro ⟨fs, ρ, fa, fc⟩ h22
  dsimp only at h22
  obtain ⟨hfok, hfl, htv⟩ := h22.2 hz
  rw [Int.toNat_natCast] at hfl htv
  have hρ := htv.lt
  have hmay : mayL (L : Int) = true := by rw [mayL, decide_eq_true_eq]; omega
  refine Wl.q rfl rfl (OpQ.move rfl) ?_
  refine Wl.q rfl rfl (OpQ.extract rfl rfl) ?_
  refine Wl.know 23 (v' := .slice fa fs.length fc) rfl rfl ?_
  refine Wl.q rfl rfl (OpQ.extract rfl rfl) ?_
  refine Wl.know 24 (v' := .int .i64 ((ρ : Nat) : Int)) rfl rfl ?_
  refine Wl.q rfl rfl (OpQ.extract rfl rfl) ?_
  refine Wl.know 25 (v' := .int .i64 (0)) rfl (congrArg (Value.int .i64) hz) ?_
  refine Wl.q rfl rfl (OpQ.assign rfl) ?_
  refine Wl.q rfl rfl (OpQ.assign rfl) ?_
  refine Wl.q rfl rfl (OpQ.assign rfl) ?_
  refine Wl.nil ?_
  refine PX.then_n ?_
  refine CT.seq ?_
  refine CT.seq ?_
  -- region 5, drawn: law.go:95
  refine CT.draw 27 AB_mixed ?_
  refine RA.q 0 (by kernel_rfl) rfl rfl rfl (.refl _) (OpQ.move rfl) ?_
  refine RA.q 1 (by kernel_rfl) rfl rfl rfl (.refl _) (OpQ.neq rfl rfl) ?_
  refine RA.know 27 (v' := .bool false) rfl (congrArg Value.bool rfl) ?_
  refine RA.q 2 (by kernel_rfl) rfl rfl rfl (.refl _) (OpQ.move rfl) ?_
  refine RA.q 3 (by kernel_rfl) rfl rfl rfl (.refl _) (OpQ.move rfl) ?_
  refine RA.q 4 (by kernel_rfl) rfl rfl rfl (.refl _) (OpQ.move rfl) ?_
  refine RA.q 5 (by kernel_rfl) rfl rfl rfl (.refl _) (OpQ.move rfl) ?_
  refine RA.f 6 (by kernel_rfl) rfl rfl rfl (OpG.callV AB_go19 rfl (fun w hH => validateR_spec w fa fc fs (hH.rd .here) (by omega) (ρ : Int) (L : Int))) (fun _ _ => (.refl _)) ?_
  rintro _ _
  refine RA.q 7 (by kernel_rfl) rfl rfl rfl (.refl _) (OpQ.neq rfl rfl) ?_
  refine RA.know 33 (v' := .bool false) rfl (congrArg Value.bool (by rw [vd_fit hfok (by omega) (by omega) hρ (by omega)]; rfl)) ?_
  refine RA.q 8 (by kernel_rfl) rfl rfl rfl (.refl _) (OpQ.pickF rfl rfl) ?_
  refine RA.q 9 (by kernel_rfl) rfl rfl rfl (.refl _) (OpQ.move rfl) ?_
  refine RA.q 10 (by kernel_rfl) rfl rfl rfl (.refl _) (OpQ.move rfl) ?_
  refine RA.q 11 (by kernel_rfl) rfl rfl rfl (.refl _) (OpQ.len AB_un26 rfl) ?_
  refine RA.q 12 (by kernel_rfl) rfl rfl rfl (.refl _) (OpQ.fieldAddr AB_fa40_0 rfl) ?_
  refine RA.q 13 (by kernel_rfl) rfl rfl rfl (.refl _) (OpQ.loadF (b := b5) AB_sc38 rfl (by repeat (first | exact Has.here | apply Has.there)) (by rfl)) ?_
  refine RA.q 14 (by kernel_rfl) rfl rfl rfl (.refl _) (OpQ.len AB_un38 rfl) ?_
  refine RA.q 15 (by kernel_rfl) rfl rfl rfl (.refl _) (OpQ.mul rfl rfl (by omega)) ?_
  refine RA.q 16 (by kernel_rfl) rfl rfl rfl (.refl _) (OpQ.add rfl rfl (by omega)) ?_
  refine RA.q 17 (by kernel_rfl) rfl rfl rfl (.refl _) (OpQ.gtr rfl rfl) ?_
  refine RA.know 43 (v' := .bool false) rfl (congrArg Value.bool (decide_eq_false (by omega))) ?_
  refine RA.q 18 (by kernel_rfl) rfl rfl rfl (.refl _) (OpQ.pickF rfl rfl) ?_
  refine RA.q 19 (by kernel_rfl) rfl rfl rfl (.refl _) (OpQ.move rfl) ?_
  refine RA.q 20 (by kernel_rfl) rfl rfl rfl (.refl _) (OpQ.move rfl) ?_
  refine RA.q 21 (by kernel_rfl) rfl rfl rfl (.refl _) (OpQ.move rfl) ?_
  refine RA.q 23 (by kernel_rfl) rfl rfl rfl (.refl _) (OpQ.loadV (b := b5) AB_ag40 AB_sz40 rfl (by repeat (first | exact Has.here | apply Has.there)) (by rfl)) ?_
  refine RA.f 22 (by kernel_rfl) rfl rfl rfl (OpG.callV AB_go20 rfl (fun w hH => depthR_spec w fa fc fs (hH.rd .here) (by omega) (ρ : Int))) (fun _ _ => (.refl _)) ?_
  rintro _ _
  refine RA.f 24 (by kernel_rfl) rfl rfl rfl (OpG.callV AB_go21 rfl (fun w hH => gdepthR_spec w a18 c18 xs (hH.rd (.there (.there .here))) (by omega) rt (by omega) hok6)) (fun _ _ => (.refl _)) ?_
  rintro _ _
  have hdle := of_depth hfok (by omega) htv (by omega)
  refine RA.q 25 (by kernel_rfl) rfl rfl rfl (.refl _) (OpQ.gtr rfl rfl) ?_
  refine RA.know 51 (v' := .bool false) rfl (congrArg Value.bool (decide_eq_false (by omega))) ?_
  refine RA.q 26 (by kernel_rfl) rfl rfl rfl (.refl _) (OpQ.pickF rfl rfl) ?_
  refine RA.tail ?_
  refine RT.done (by kernel_rfl) ?_
  refine PX.then_n ?_
  refine CT.condF rfl ?_
  refine CT.skip ?_
  refine PX.then_n ?_
  refine CT.seq ?_
  refine CT.seq ?_
  -- region 7: law.go:98
  refine CT.region ?_
  refine Wl.q rfl rfl (OpQ.move rfl) ?_
  refine Wl.g rfl rfl (OpG.callX AB_go22 rfl .nil (fun _ => (.cons .nil)) (fun w hH hp => words_spec w L 4 (by omega) (by decide) (by rcases (show L = 1 ∨ L = 2 by omega) with rfl | rfl <;> decide))) ?_
  rintro ⟨l5, wa, wc⟩ h54
  dsimp only at h54
  obtain ⟨hwg, hwl⟩ := h54
  refine Wl.know 54 (v' := .slice wa l5.length wc) rfl rfl ?_
  refine Wl.q rfl rfl (OpQ.len AB_un48 rfl) ?_
  refine Wl.q rfl rfl (OpQ.move rfl) ?_
  refine Wl.nil ?_
  refine PX.then_n ?_
  refine CT.block ?_
  -- the loop at region 8
  refine CT.fact (p := 0 < l5.length → wa.isSome = true) (fun w hH h0 => (hH.rd .here).isSome (j := 0) (by rw [List.length_map]; exact h0)) (fun hwa => ?_)
  refine CT.loop (ι := Nat) (fun j => j ≤ l5.length) (fun j => [(4, .int .i64 (L : Int)), (5, .pointer (some ⟨b5, 0, none⟩)), (6, .slice fa fs.length fc), (7, .int .i64 ((ρ : Nat) : Int)), (54, .slice wa l5.length wc), (55, .int .i64 (l5.length : Int)), (56, .int .i64 (j : Int))]) (fun j => [.row 9 1 (.slice wa l5.length wc) l5.length (l5.map sv), .row 29 6 (.slice fa fs.length fc) fs.length (fs.flatMap fv), .row 40 2 (vb b5) 1 [.slice a18 xs.length c18, .int .i64 ((rt : Nat) : Int)], .row 72 4 (.slice a18 xs.length c18) xs.length (xs.flatMap nv)]) (fun j => l5.length - j) 0 (Nat.zero_le _) ⟨rfl, rfl, rfl, rfl, rfl, rfl, rfl, trivial⟩ (.keep rfl (.keep rfl (.keep rfl (.keep rfl (.drop .nil))))) (fun j hj K0 hK0 => ?_)
  refine CT.seq ?_
  -- region 8: law.go:98
  refine CT.region ?_
  refine Wl.q rfl rfl (OpQ.lss rfl rfl) ?_
  refine Wl.nil ?_
  refine PX.then_n ?_
  refine CT.seq ?_
  refine CT.cond rfl (fun h57 => ?_) (fun h57 => ?_)
  · -- if t57: then
    have h57 := of_decide_eq_true h57
    obtain ⟨hw6, hw4⟩ := Wr.okW_in hwg (by omega) (by decide) (show j < l5.length by omega)
    refine CT.skip ?_
    refine PX.then_n ?_
    refine CT.seq ?_
    refine CT.block ?_
    refine CT.seq ?_
    -- region 9: law.go:98
    refine CT.region ?_
    refine Wl.q rfl rfl (OpQ.index1 AB_un48 AB_sz9 rfl rfl (by omega) (hwa (by omega))) ?_
    refine Wl.q rfl rfl (OpQ.loadRow AB_sc9 rfl .here (Wr.getWd l5 (show j < l5.length by omega))) ?_
    refine Wl.know 59 (v' := sv (l5.getD j [])) rfl rfl ?_
    refine Wl.q rfl rfl (OpQ.assign rfl) ?_
    refine Wl.nil ?_
    refine PX.then_n ?_
    refine CT.seq ?_
    -- region 10, drawn: law.go:99
    refine CT.draw 8 AB_mixed ?_
    refine RA.q 0 (by kernel_rfl) rfl rfl rfl (.refl _) (OpQ.move rfl) ?_
    refine RA.q 1 (by kernel_rfl) rfl rfl rfl (.refl _) (OpQ.move rfl) ?_
    refine RA.q 2 (by kernel_rfl) rfl rfl rfl (.refl _) (OpQ.move rfl) ?_
    refine RA.q 4 (by kernel_rfl) rfl rfl rfl (.refl _) (OpQ.loadV (b := b5) AB_ag40 AB_sz40 rfl (by repeat (first | exact Has.here | apply Has.there)) (by rfl)) ?_
    refine RA.q 5 (by kernel_rfl) rfl rfl rfl (.refl _) (OpQ.move rfl) ?_
    refine RA.f 3 (by kernel_rfl) rfl rfl rfl (OpG.callV AB_go23 rfl (fun w hH => holdsR_spec w fa fc fs (hH.rd (.there .here)) (by omega) (ρ : Int) (l5.getD j []) (by omega))) (fun _ _ => (.refl _)) ?_
    rintro _ _
    refine RA.f 6 (by kernel_rfl) rfl rfl rfl (OpG.callV AB_go24 rfl (fun w hH => gaccR_spec w a18 c18 xs (hH.rd (.there (.there (.there .here)))) (by omega) rt (by omega) hok6 (l5.getD j []) (by omega) hw6)) (fun _ _ => (.refl _)) ?_
    rintro _ _
    refine RA.q 7 (by kernel_rfl) rfl rfl rfl (.refl _) (OpQ.neqB AB_un4 rfl rfl) ?_
    refine RA.know 67 (v' := .bool false) rfl (congrArg Value.bool (by rw [of_word hfok (by omega) htv (by omega) hw6 (by omega)]; simp)) ?_
    refine RA.tail ?_
    refine RT.done (by kernel_rfl) ?_
    refine PX.then_n ?_
    refine CT.condF rfl ?_
    refine CT.skip ?_
    refine PX.block_n ?_
    refine PX.then_n ?_
    -- region 12: law.go:98
    refine CT.region ?_
    refine Wl.q rfl rfl (OpQ.add rfl rfl (by omega)) ?_
    refine Wl.q rfl rfl (OpQ.move rfl) ?_
    refine Wl.nil ?_
    exact PX.loop hK0 (j + 1) (by omega) (by first | omega | (dsimp only; omega)) ⟨rfl, rfl, rfl, rfl, rfl, rfl, rfl, trivial⟩ (HSub.refl _)
  · -- if t57: else
    have h57 := of_decide_eq_false h57
    refine CT.exit ?_
    refine PX.then_x ?_
    refine PX.then_x ?_
    refine PX.block_x ?_
    refine PX.then_n ?_
    refine CT.seq ?_
    -- region 13: law.go:103
    refine CT.region ?_
    refine Wl.g rfl rfl (OpG.callV AB_go14 rfl (fun w hH => known_spec w)) ?_
    rintro _ _
    refine Wl.know 69 (v' := .bool true) rfl (congrArg Value.bool rfl) ?_
    refine Wl.q rfl rfl (OpQ.assign rfl) ?_
    refine Wl.nil ?_
    refine PX.then_n ?_
    refine CT.ret ?_
    refine PX.ret1 rfl rfl (fun w' hH => ?_)
    exact ⟨rfl, hH.ext⟩

end Go.Proofs.Ytdcjemjfliaaiaa
