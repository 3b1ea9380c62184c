/-
  What functions of the packages temporal and semigroupref39 compute, each by its walk. Conditions: those that each theorem names.
-/
import Derived.Test.YtlmbcdjmdgbmjaaMod
import Derived.Test.YtlmbcdjmdgbmjaaWalks8
set_option linter.unusedSimpArgs false
namespace Go.Proofs.Ytlmbcdjmdgbmjaa
open Go Go.Eng Go.Tl
open Go.Tp (zi)

theorem K_un62 : Try.prog.underlying 62 = some (.slice 5) := by kernel_rfl
theorem K_un5 : Try.prog.underlying 5 = some (.int .u8) := by kernel_rfl
theorem K_un9 : Try.prog.underlying 9 = some .string := by kernel_rfl
theorem K_un3 : Try.prog.underlying 3 = some (.int .i64) := by kernel_rfl
theorem K_un82 : Try.prog.underlying 82 = some (.int .u64) := by kernel_rfl
theorem K_un43 : Try.prog.underlying 43 = some (.slice 9) := by kernel_rfl
theorem K_in9 : (Try.prog.info? 9).map (fun i => (i.zero, i.size, i.bytes)) = some (some (.string ⟨#[]⟩), 1, 16) := by kernel_rfl
theorem K_sz9 : sizeB Try.prog 9 = some 1 := by kernel_rfl
theorem K_sc9 : scalarB Try.prog 9 = some true := by kernel_rfl
theorem K_mixed : Try.prog.follows .mixedOrders = true := by kernel_rfl
theorem K_in5 : (Try.prog.info? 5).map (fun i => (i.zero, i.size, i.bytes)) = some (some (.int .u8 0), 1, 1) := by kernel_rfl
set_option maxRecDepth 100000 in
/-- semigroup/semigroupmade.Words -/
theorem words_spec (w : World) (L M : Nat) (hL : 1 ≤ L ∧ L ≤ 6) (hM : M ≤ 2000) (hT : tsz L M ≤ 100000) : Calls Try.prog 20 #[.int .i64 (L : Int), .int .i64 (M : Int)] w (fun e w' => ∃ i : List Wd × Option Addr × Nat, (okG L M i.1 ∧ i.1.length ≤ 100000) ∧ e = .returned (.slice i.2.1 i.1.length i.2.2) ∧ Post [] [.row 9 1 (.slice i.2.1 i.1.length i.2.2) i.1.length (i.1.map sv)] w w') := by
  refine enter (args := [.int .i64 (L : Int), .int .i64 (M : Int)]) [] 43 Try.func20 rfl rfl rfl ?_
  refine CT.seq ?_
  -- region 0: made.go:70
  refine CT.region ?_
  refine Wl.q rfl rfl (OpQ.assign rfl) ?_
  refine Wl.nil ?_
  refine PX.then_n ?_
  refine CT.seq ?_
  -- region 1: made.go:71
  refine CT.region ?_
  refine Wl.g rfl rfl (OpG.lit1 K_un43 K_in9 rfl rfl rfl) ?_
  rintro b8 _
  refine Wl.q rfl rfl (OpQ.assign rfl) ?_
  refine Wl.nil ?_
  refine PX.then_n ?_
  refine CT.seq ?_
  refine CT.seq ?_
  -- region 2: made.go:72
  refine CT.region ?_
  refine Wl.q rfl rfl (OpQ.assign rfl) ?_
  refine Wl.nil ?_
  refine PX.then_n ?_
  refine CT.block ?_
  -- the loop at region 3
  refine CT.loop (ι := Nat × List Wd × Option Addr × Nat) (fun (i, l, a', c') => i ≤ l.length ∧ i + pot L M (l.drop i) = tsz L M ∧ okG L M l) (fun (i, l, a', c') => [(0, .int .i64 (L : Int)), (1, .int .i64 (M : Int)), (5, .slice a' l.length c'), (6, .int .i64 (i : Int))]) (fun (i, l, a', c') => [.row 9 1 (.slice a' l.length c') l.length (l.map sv)]) (fun (i, l, a', c') => pot L M (l.drop i)) (0, [[]], some ⟨b8, 0, none⟩, 1) ⟨Nat.zero_le _, by rw [List.drop_zero, pot_one, Nat.zero_add], okG_one _ _⟩ ⟨rfl, rfl, rfl, rfl, trivial⟩ (.keep rfl .nil) (fun ⟨i, l, a', c'⟩ ⟨hi, hp, hg⟩ K0 hK0 => ?_)
  dsimp only
  refine CT.seq ?_
  refine CT.seq ?_
  -- region 3: made.go:72
  refine CT.region ?_
  refine Wl.q rfl rfl (OpQ.move rfl) ?_
  refine Wl.q rfl rfl (OpQ.move rfl) ?_
  refine Wl.q rfl rfl (OpQ.len K_un43 rfl) ?_
  refine Wl.q rfl rfl (OpQ.lss rfl rfl) ?_
  refine Wl.nil ?_
  refine PX.then_n ?_
  refine CT.cond rfl (fun h12 => ?_) (fun h12 => ?_)
  · -- if t12: then
    have h12 := of_decide_eq_true h12
    have h0 : i < l.length := by omega
    obtain ⟨x, hx⟩ : ∃ x, x = l.getD i [] := ⟨_, rfl⟩
    have hxg := okG_get hg h0
    rw [← hx] at hxg
    have hpi := pot_in (L := L) (M := M) h0
    rw [← hx] at hpi
    refine CT.skip ?_
    refine PX.then_n ?_
    refine CT.seq ?_
    refine CT.block ?_
    refine CT.seq ?_
    -- region 5: made.go:73
    refine CT.region ?_
    refine Wl.q rfl rfl (OpQ.assign rfl) ?_
    refine Wl.nil ?_
    refine PX.then_n ?_
    refine CT.block ?_
    -- the loop at region 6
    have hxc := hx
    refine CT.loop (ι := Nat × List Wd × Option Addr × Nat) (fun (c, l, a', c') => i < l.length ∧ x = l.getD i [] ∧ c ≤ L ∧ i + 1 + pot L M (l.drop (i + 1)) + rst L M x c = tsz L M ∧ okG L M l) (fun (c, l, a', c') => [(0, .int .i64 (L : Int)), (1, .int .i64 (M : Int)), (5, .slice a' l.length c'), (6, .int .i64 (i : Int)), (7, .int .i64 (c : Int))]) (fun (c, l, a', c') => [.row 9 1 (.slice a' l.length c') l.length (l.map sv)]) (fun (c, l, a', c') => L - c) (0, l, a', c') ⟨h0, hx, Nat.zero_le _, by omega, hg⟩ ⟨rfl, rfl, rfl, rfl, rfl, trivial⟩ (HSub.refl _) (fun ⟨c, l, a', c'⟩ ⟨h0, hx, hc, hp, hg⟩ K1 hK1 => ?_)
    dsimp only
    refine CT.fact (p := 0 < l.length → a'.isSome = true) (fun w hH h0 => (hH.rd .here).isSome (j := 0) (by rw [List.length_map]; exact h0)) (fun hsa => ?_)
    refine CT.seq ?_
    refine CT.seq ?_
    -- region 6: made.go:73
    refine CT.region ?_
    refine Wl.q rfl rfl (OpQ.move rfl) ?_
    refine Wl.q rfl rfl (OpQ.move rfl) ?_
    refine Wl.q rfl rfl (OpQ.lss rfl rfl) ?_
    refine Wl.q rfl rfl (OpQ.move rfl) ?_
    refine Wl.split 18 rfl (fun hg18 => ?_) (fun hg18 => ?_)
    · -- t18 = True
      have hg18 := of_decide_eq_true hg18
      refine Wl.q rfl rfl (OpQ.move rfl) ?_
      refine Wl.q rfl rfl (OpQ.move rfl) ?_
      refine Wl.q rfl rfl (OpQ.index1 K_un43 K_sz9 rfl rfl (by omega) (hsa (by omega))) ?_
      refine Wl.q rfl rfl (OpQ.loadRow K_sc9 rfl .here (getWd l h0)) ?_
      refine Wl.know 22 (v' := sv x) rfl (congrArg sv hx.symm) ?_
      refine Wl.q rfl rfl (OpQ.lenSv K_un9 rfl) ?_
      refine Wl.q rfl rfl (OpQ.move rfl) ?_
      refine Wl.q rfl rfl (OpQ.lss rfl rfl) ?_
      refine Wl.q rfl rfl (OpQ.pickT rfl rfl) ?_
      refine Wl.nil ?_
      refine PX.then_n ?_
      refine CT.cond rfl (fun h26 => ?_) (fun h26 => ?_)
      · -- if t26: then
        have h26 := of_decide_eq_true h26
        have hlx : x.length < M := by omega
        have hgl := pot_ge (L := L) (M := M) (i := i + 1) l
        have hps := rst_step (L := L) (c := c) hlx (by omega) 0
        refine CT.skip ?_
        refine PX.then_n ?_
        refine CT.seq ?_
        refine CT.block ?_
        -- region 8, drawn: made.go:74
        refine CT.draw 12 K_mixed ?_
        refine RA.q 0 (by kernel_rfl) rfl rfl rfl (.refl _) (OpQ.move rfl) ?_
        refine RA.q 1 (by kernel_rfl) rfl rfl rfl (.refl _) (OpQ.move rfl) ?_
        refine RA.q 2 (by kernel_rfl) rfl rfl rfl (.refl _) (OpQ.move rfl) ?_
        refine RA.q 3 (by kernel_rfl) rfl rfl rfl (.refl _) (OpQ.index1 K_un43 K_sz9 rfl rfl (by omega) (hsa (by omega))) ?_
        refine RA.q 4 (by kernel_rfl) rfl rfl rfl (.refl _) (OpQ.loadRow K_sc9 rfl .here (getWd l h0)) ?_
        refine RA.know 33 (v' := sv x) rfl (congrArg sv hx.symm) ?_
        refine RA.q 5 (by kernel_rfl) rfl rfl rfl (.refl _) (OpQ.move rfl) ?_
        refine RA.q 6 (by kernel_rfl) rfl rfl rfl (.refl _) (OpQ.add rfl rfl (by omega)) ?_
        refine RA.q 7 (by kernel_rfl) rfl rfl rfl (.refl _) (OpQ.conv rfl (conv_i64_u8 K_un3 K_un5 _ (by omega))) ?_
        refine RA.know 36 (v' := bv (UInt8.ofNat (97 + (c : Int)).toNat)) rfl (bv_of (by omega)) ?_
        refine RA.f 8 (by kernel_rfl) rfl rfl rfl (OpG.lit1 K_un62 K_in5 rfl rfl rfl) (fun _ _ => (.cons _ (.refl _))) ?_
        rintro b37 _
        refine RA.fq 9 (by kernel_rfl) rfl rfl rfl (OpQ.convBS (l := [UInt8.ofNat (97 + (c : Int)).toNat]) K_un62 K_un5 K_un9 rfl (fun w hH => hH.rd .here)) (.cons _ (.refl _)) ?_
        refine RA.q 10 (by kernel_rfl) rfl rfl rfl (.cons _ (.refl _)) (OpQ.concat rfl rfl (by dsimp only [List.length_singleton]; omega)) ?_
        refine RA.f 11 (by kernel_rfl) rfl rfl rfl (OpG.lit1 K_un43 K_in9 rfl rfl rfl) (fun _ _ => (.cons _ (.cons _ (.refl _)))) ?_
        rintro b40 _
        refine RA.tail ?_
        refine RT.f 12 (by kernel_rfl) rfl rfl rfl (OpG.append K_un43 K_in9 (by rfl) (by decide) rfl rfl (p := 2) rfl (fun w hH => hH.rd .here) ⟨rfl, (by simp [Value.oneCell', sv]), (by omega), (by omega)⟩ (nm := l.length + 1) rfl (all := (l ++ [(x ++ [UInt8.ofNat (97 + (c : Int)).toNat])]).map sv) (by simp)) ?_
        rintro ⟨a41, c41⟩ h41
        refine RT.q 13 (by kernel_rfl) rfl rfl rfl (OpQ.assign rfl) ?_
        refine RT.done (by kernel_rfl) ?_
        refine PX.block_n ?_
        refine PX.then_n ?_
        -- region 7: made.go:73
        refine CT.region ?_
        refine Wl.q rfl rfl (OpQ.move rfl) ?_
        refine Wl.q rfl rfl (OpQ.add rfl rfl (by omega)) ?_
        refine Wl.q rfl rfl (OpQ.assign rfl) ?_
        refine Wl.nil ?_
        refine PX.as (fun _ h => h.take (.cons (.there (.there .here)) .nil)) ?_
        exact PX.loop hK1 (c + 1, l ++ [(x ++ [UInt8.ofNat (97 + (c : Int)).toNat])], a41, c41) ⟨by simp; omega, by rw [get_app h0]; exact hx, by omega, by have := pot_put h0 (c := c) (x := x) (L := L) (M := M) hlx (by omega) (UInt8.ofNat (97 + (c : Int)).toNat); omega, okG_snoc hg hxg.1 hlx (by omega) hL.2⟩ (show L - (c + 1) < L - c by omega) ⟨rfl, rfl, (lkV rfl (by rw [List.length_append]; rfl)), rfl, rfl, trivial⟩ (.keep (by rw [List.length_append]; rfl) .nil)
      · -- if t26: else
        have h26 := of_decide_eq_false h26
        refine CT.exit ?_
        refine PX.then_x ?_
        refine PX.then_x ?_
        refine PX.block_x ?_
        refine PX.block_n ?_
        refine PX.then_n ?_
        -- region 4: made.go:72
        refine CT.region ?_
        refine Wl.q rfl rfl (OpQ.move rfl) ?_
        refine Wl.q rfl rfl (OpQ.add rfl rfl (by omega)) ?_
        refine Wl.q rfl rfl (OpQ.assign rfl) ?_
        refine Wl.nil ?_
        exact PX.loop hK0 (i + 1, l, a', c') ⟨by omega, by have := rst_end (x := x) (c := c) (L := L) (M := M) (by omega); omega, hg⟩ (by have := pot_in (L := L) (M := M) h0; dsimp only; omega) ⟨rfl, rfl, rfl, rfl, trivial⟩ (HSub.refl _)
    · -- t18 = False
      have hg18 := of_decide_eq_false hg18
      refine Wl.skip rfl rfl ?_
      refine Wl.skip rfl rfl ?_
      refine Wl.skip rfl rfl ?_
      refine Wl.skip rfl rfl ?_
      refine Wl.skip rfl rfl ?_
      refine Wl.skip rfl rfl ?_
      refine Wl.skip rfl rfl ?_
      refine Wl.q rfl rfl (OpQ.pickF rfl rfl) ?_
      refine Wl.nil ?_
      refine PX.then_n ?_
      refine CT.condF rfl ?_
      refine CT.exit ?_
      refine PX.then_x ?_
      refine PX.then_x ?_
      refine PX.block_x ?_
      refine PX.block_n ?_
      refine PX.then_n ?_
      -- region 4: made.go:72
      refine CT.region ?_
      refine Wl.q rfl rfl (OpQ.move rfl) ?_
      refine Wl.q rfl rfl (OpQ.add rfl rfl (by omega)) ?_
      refine Wl.q rfl rfl (OpQ.assign rfl) ?_
      refine Wl.nil ?_
      exact PX.loop hK0 (i + 1, l, a', c') ⟨by omega, by have := rst_end (x := x) (c := c) (L := L) (M := M) (by omega); omega, hg⟩ (by have := pot_in (L := L) (M := M) h0; dsimp only; omega) ⟨rfl, rfl, rfl, rfl, trivial⟩ (HSub.refl _)
  · -- if t12: else
    have h12 := of_decide_eq_false h12
    refine CT.exit ?_
    refine PX.then_x ?_
    refine PX.then_x ?_
    refine PX.block_x ?_
    refine PX.then_n ?_
    refine CT.seq ?_
    -- region 9: made.go:77
    refine CT.region ?_
    refine Wl.q rfl rfl (OpQ.move rfl) ?_
    refine Wl.q rfl rfl (OpQ.assign rfl) ?_
    refine Wl.nil ?_
    refine PX.then_n ?_
    refine CT.ret ?_
    refine PX.ret1 rfl rfl (fun w' hH => ?_)
    exact ⟨(l, a', c'), ⟨hg, by first | omega | (dsimp only; omega)⟩, rfl, hH.post⟩

theorem K_in41 : (Try.prog.info? 41).map (fun i => (i.zero, i.size, i.bytes)) = some (some (.agg #[.slice none 0 0, .slice none 0 0]), 2, 48) := by kernel_rfl
theorem K_go13 : isGo Try.prog 13 = true := by kernel_rfl
theorem K_fa41_0 : fieldB Try.prog 41 0 = some 0 := by kernel_rfl
theorem K_sc25 : scalarB Try.prog 25 = some true := by kernel_rfl
theorem K_fa41_1 : fieldB Try.prog 41 1 = some 1 := by kernel_rfl
theorem K_un25 : Try.prog.underlying 25 = some (.slice 3) := by kernel_rfl
theorem K_in3 : (Try.prog.info? 3).map (fun i => (i.zero, i.size, i.bytes)) = some (some (.int .i64 0), 1, 8) := by kernel_rfl
theorem K_sz25 : sizeB Try.prog 25 = some 1 := by kernel_rfl
theorem K_ag41 : isAggB Try.prog 41 = some true := by kernel_rfl
theorem K_sz41 : sizeB Try.prog 41 = some 2 := by kernel_rfl
set_option maxRecDepth 100000 in
/-- (*semigroup/semigroupmade.Tape).Monomial -/
theorem mono_spec (w : World) (b : Nat) (ta : Option Addr) (tn tc : Nat) (tl : List Int) (htl : tl.length = tn) (htm : tn ≤ 9223372036854775806) (hr : Stays [b] w (fun w => Rd w ta (tl.map zi))) (p : Nat) (hat : p ≤ tn) (hpre : Pre [.row 61 2 (vb b) 1 [.slice ta tn tc, .int .i64 ((p : Nat) : Int)]] w) (L M : Nat) (hL : 1 ≤ L ∧ L ≤ 6) (hM : M ≤ 60) : Calls Try.prog 34 #[.pointer (some ⟨b, 0, none⟩), .int .i64 (L : Int), .int .i64 (M : Int)] w (fun e w' => ∃ i : Mo × Nat × List Nat, ((moE i.1 (L : Int) = 0 ∧ i.1.lets.length ≤ M) ∧ i.2.1 ≤ tn) ∧ e = .returned (.agg (mov i.1).toArray) ∧ Post [b] [.frag i.2.2 (MoR i.1), .row 61 2 (vb b) 1 [.slice ta tn tc, .int .i64 ((i.2.1 : Nat) : Int)]] w w') := by
  have hp64 : 1 * 2 ^ L ≤ 64 := pow_64 hL.2
  have hp01 : 1 ≤ 1 * 2 ^ L := pow_01 L
  refine enterX (args := [.pointer (some ⟨b, 0, none⟩), .int .i64 (L : Int), .int .i64 (M : Int)]) hpre 46 Try.func34 rfl rfl rfl ?_
  refine CT.seq ?_
  -- region 0: made.go:190
  refine CT.region ?_
  refine Wl.g rfl rfl (OpG.alloc (zs := [.slice none 0 0, .slice none 0 0]) K_in41 rfl rfl) ?_
  rintro b6 _
  refine Wl.nil ?_
  refine PX.then_n ?_
  refine CT.seq ?_
  -- region 1: made.go:191
  refine CT.region ?_
  refine Wl.g rfl rfl (OpG.alloc (zs := [.slice none 0 0, .slice none 0 0]) K_in41 rfl rfl) ?_
  rintro b7 _
  refine Wl.nil ?_
  refine PX.then_n ?_
  refine CT.seq ?_
  refine CT.seq ?_
  -- region 2: made.go:192
  refine CT.region ?_
  refine Wl.q rfl rfl (OpQ.move rfl) ?_
  refine Wl.q rfl rfl (OpQ.move rfl) ?_
  refine Wl.q rfl rfl (OpQ.add rfl rfl (by omega)) ?_
  refine Wl.g rfl rfl (OpG.callX K_go13 rfl (.cons (.there (.there .here)) .nil) (fun _ => (.cons .nil)) (fun w hH hp => next_spec w b ta tn tc tl htl htm (hH.stays hr (.cons (.there (.there .here)) .nil)) p hat hp ((M : Int) + 1) (by omega))) ?_
  rintro ⟨r12, p12⟩ h12
  dsimp only at h12
  obtain ⟨⟨h12a, h12b⟩, h12p⟩ := h12
  refine Wl.know 12 (v' := .int .i64 r12) rfl rfl ?_
  refine Wl.q rfl rfl (OpQ.assign rfl) ?_
  refine Wl.nil ?_
  refine PX.then_n ?_
  refine CT.block ?_
  -- the loop at region 3
  refine CT.nilrow 3 1 ?_
  refine CT.nilrow 3 1 ?_
  refine CT.loop (ι := Nat × Mo × Nat) (fun (k, m, pp) => k + m.lets.length ≤ M ∧ m.sets.length = m.lets.length ∧ m.sets.all (okS (L : Int)) = true ∧ m.lets.all (okA (L : Int)) = true ∧ pp ≤ tn) (fun (k, m, pp) => [(0, .pointer (some ⟨b, 0, none⟩)), (1, .int .i64 (L : Int)), (6, .pointer (some ⟨b6, 0, none⟩)), (7, .pointer (some ⟨b7, 0, none⟩)), (8, .int .i64 (k : Int))]) (fun (k, m, pp) => [.row 3 1 (.slice m.sa m.sets.length m.sc) m.sets.length (m.sets.map zi), .row 3 1 (.slice m.la m.lets.length m.lc) m.lets.length (m.lets.map zi), .row 61 2 (vb b) 1 [.slice ta tn tc, .int .i64 ((pp : Nat) : Int)], .row 41 2 (vb b7) 1 (mov m), .row 41 2 (vb b6) 1 [.slice none 0 0, .slice none 0 0]]) (fun (k, m, pp) => k) (r12.toNat, m0, p12) ⟨by show r12.toNat + 0 ≤ M; omega, rfl, rfl, rfl, h12p⟩ ⟨rfl, rfl, rfl, rfl, (lkV rfl (congrArg (Value.int .i64) (by omega))), trivial⟩ (HSub.refl _) (fun ⟨k, m, pp⟩ ⟨hk, hml, hms, hma, hpp⟩ K0 hK0 => ?_)
  dsimp only
  refine CT.seq ?_
  refine CT.seq ?_
  -- region 3: made.go:192
  refine CT.region ?_
  refine Wl.q rfl rfl (OpQ.move rfl) ?_
  refine Wl.q rfl rfl (OpQ.gtr rfl rfl) ?_
  refine Wl.nil ?_
  refine PX.then_n ?_
  refine CT.cond rfl (fun h14 => ?_) (fun h14 => ?_)
  · -- if t14: then
    have h14 := of_decide_eq_true h14
    refine CT.skip ?_
    refine PX.then_n ?_
    refine CT.seq ?_
    refine CT.block ?_
    -- region 5, drawn: made.go:193
    refine CT.draw' (Hc := [.row 41 2 (vb b7) 1 (mov m), .row 41 2 (vb b6) 1 [.slice none 0 0, .slice none 0 0]]) 17 K_mixed ?_
    refine RA.q 0 (by kernel_rfl) rfl rfl rfl (.cons _ (.cons _ (.cons _ (.cons_cons _ (.cons_cons _ (.refl _)))))) (OpQ.fieldAddr K_fa41_0 rfl) ?_
    refine RA.q 1 (by kernel_rfl) rfl rfl rfl (.cons _ (.cons _ (.cons _ (.cons_cons _ (.cons_cons _ (.refl _)))))) (OpQ.loadF (b := b7) K_sc25 rfl (by repeat (first | exact Has.here | apply Has.there)) (by rfl)) ?_
    refine RA.q 2 (by kernel_rfl) rfl rfl rfl (.cons _ (.cons _ (.cons _ (.cons_cons _ (.cons_cons _ (.refl _)))))) (OpQ.move rfl) ?_
    refine RA.q 3 (by kernel_rfl) rfl rfl rfl (.cons _ (.cons _ (.cons _ (.cons_cons _ (.cons_cons _ (.refl _)))))) (OpQ.move rfl) ?_
    refine RA.q 4 (by kernel_rfl) rfl rfl rfl (.cons _ (.cons _ (.cons _ (.cons_cons _ (.cons_cons _ (.refl _)))))) (OpQ.conv rfl (conv_nat_u K_un3 K_un82 _ (by omega))) ?_
    refine RA.q 5 (by kernel_rfl) rfl rfl rfl (.cons _ (.cons _ (.cons _ (.cons_cons _ (.cons_cons _ (.refl _)))))) (OpQ.ishl (m := 1) rfl rfl (by omega) (by omega)) ?_
    refine RA.q 9 (by kernel_rfl) rfl rfl rfl (.cons _ (.cons _ (.cons _ (.cons_cons _ (.cons_cons _ (.refl _)))))) (OpQ.fieldAddr K_fa41_1 rfl) ?_
    refine RA.q 10 (by kernel_rfl) rfl rfl rfl (.cons _ (.cons _ (.cons _ (.cons_cons _ (.cons_cons _ (.refl _)))))) (OpQ.loadF (b := b7) K_sc25 rfl (by repeat (first | exact Has.here | apply Has.there)) (by rfl)) ?_
    refine RA.q 11 (by kernel_rfl) rfl rfl rfl (.cons _ (.cons _ (.cons _ (.cons_cons _ (.cons_cons _ (.refl _)))))) (OpQ.move rfl) ?_
    refine RA.q 12 (by kernel_rfl) rfl rfl rfl (.cons _ (.cons _ (.cons _ (.cons_cons _ (.cons_cons _ (.refl _)))))) (OpQ.move rfl) ?_
    refine RA.f 6 (by kernel_rfl) rfl rfl rfl (OpG.callX K_go13 rfl (.cons (.there (.there .here)) .nil) (fun _ => (.cons .nil)) (fun w hH hp => next_spec w b ta tn tc tl htl htm (hH.stays hr (.cons (.there (.there .here)) .nil)) pp hpp hp (((1 * 2 ^ L : Nat) : Int)) (by omega))) (fun _ _ => (.cons _ (.cons _ (.cons _ (.cons_cons _ (.cons_cons _ (.refl _))))))) ?_
    rintro ⟨r23, p23⟩ h23
    dsimp only at h23
    obtain ⟨⟨h23a, h23b⟩, h23p⟩ := h23
    refine RA.know 23 (v' := .int .i64 r23) rfl rfl ?_
    refine RA.f 7 (by kernel_rfl) rfl rfl rfl (OpG.lit1 K_un25 K_in3 rfl rfl rfl) (fun _ _ => (.cons _ (.cons _ (.cons _ (.cons _ (.cons_cons _ (.cons_cons _ (.refl _)))))))) ?_
    rintro b24 _
    refine RA.f 8 (by kernel_rfl) rfl rfl rfl (OpG.append K_un25 K_in3 (by rfl) (by decide) rfl rfl (p := 2) rfl (fun w hH => hH.rd .here) ⟨rfl, (by simp [Value.oneCell', zi]), (by omega), (by omega)⟩ (nm := (m.sets ++ [r23]).length) (by simp) (all := (m.sets ++ [r23]).map zi) (by simp)) (fun _ _ => (.cons _ (.cons _ (.cons _ (.cons _ (.cons_cons _ (.cons_cons _ (.refl _)))))))) ?_
    rintro ⟨a25, c25⟩ h25
    refine RA.q 16 (by kernel_rfl) rfl rfl rfl (.cons _ (.cons _ (.cons _ (.cons _ (.cons_cons _ (.cons_cons _ (.refl _))))))) (OpQ.fieldAddr K_fa41_0 rfl) ?_
    refine RA.f 13 (by kernel_rfl) rfl rfl rfl (OpG.callX K_go13 rfl (.cons (.there .here) .nil) (fun _ => (.cons .nil)) (fun w hH hp => next_spec w b ta tn tc tl htl htm (hH.stays hr (.cons (.there .here) .nil)) p23 h23p hp ((L : Int)) (by omega))) (fun _ _ => (.cons _ (.cons _ (.cons _ (.cons _ (.cons_cons _ (.cons_cons _ (.refl _)))))))) ?_
    rintro ⟨r30, p30⟩ h30
    dsimp only at h30
    obtain ⟨⟨h30a, h30b⟩, h30p⟩ := h30
    refine RA.know 30 (v' := .int .i64 r30) rfl rfl ?_
    refine RA.f 14 (by kernel_rfl) rfl rfl rfl (OpG.lit1 K_un25 K_in3 rfl rfl rfl) (fun _ _ => (.cons _ (.cons _ (.cons _ (.cons _ (.cons _ (.cons_cons _ (.cons_cons _ (.refl _))))))))) ?_
    rintro b31 _
    refine RA.f 15 (by kernel_rfl) rfl rfl rfl (OpG.append K_un25 K_in3 (by rfl) (by decide) rfl rfl (p := 4) rfl (fun w hH => hH.rd .here) ⟨rfl, (by simp [Value.oneCell', zi]), (by omega), (by omega)⟩ (nm := (m.lets ++ [r30]).length) (by simp) (all := (m.lets ++ [r30]).map zi) (by simp)) (fun _ _ => (.cons _ (.cons _ (.cons _ (.cons _ (.cons _ (.cons_cons _ (.cons_cons _ (.refl _))))))))) ?_
    rintro ⟨a32, c32⟩ h32
    refine RA.tail ?_
    refine RT.f 17 (by kernel_rfl) rfl rfl rfl (OpG.storeRow (a := some ⟨b7, 0, none⟩) K_sz25 rfl rfl rfl (by repeat (first | exact Upd.here | apply Upd.there)) (by simp)) ?_
    rintro _ _
    refine RT.q 18 (by kernel_rfl) rfl rfl rfl (OpQ.fieldAddr K_fa41_1 rfl) ?_
    refine RT.f 19 (by kernel_rfl) rfl rfl rfl (OpG.storeRow (a := some ⟨b7, 0, none⟩) K_sz25 rfl rfl rfl (by repeat (first | exact Upd.here | apply Upd.there)) (by simp)) ?_
    rintro _ _
    refine RT.done (by kernel_rfl) ?_
    refine PX.block_n ?_
    refine PX.then_n ?_
    -- region 4: made.go:192
    refine CT.region ?_
    refine Wl.q rfl rfl (OpQ.move rfl) ?_
    refine Wl.q rfl rfl (OpQ.sub rfl rfl (by omega)) ?_
    refine Wl.q rfl rfl (OpQ.assign rfl) ?_
    refine Wl.nil ?_
    refine PX.as (fun _ h => h.take (.cons (.there (.there (.there .here))) (.cons (.there (.there (.there .here))) (.cons (.there .here) (.cons (.there (.there .here)) (.cons (.there (.there .here)) .nil)))))) ?_
    exact PX.loop hK0 (k - 1, ⟨a25, c25, m.sets ++ [r23], a32, c32, m.lets ++ [r30]⟩, p30) ⟨by dsimp only; rw [List.length_append]; dsimp only [List.length_singleton]; omega, by dsimp only; rw [List.length_append, List.length_append, hml]; rfl, by dsimp only; rw [List.all_append, hms]; exact okS1 (by omega), by dsimp only; rw [List.all_append, hma]; exact okA1 (by omega), h30p⟩ (show k - 1 < k by omega) ⟨rfl, rfl, rfl, rfl, (lkV rfl (congrArg (Value.int .i64) (by omega))), trivial⟩ (HSub.refl _)
  · -- if t14: else
    have h14 := of_decide_eq_false h14
    refine CT.exit ?_
    refine PX.then_x ?_
    refine PX.then_x ?_
    refine PX.block_x ?_
    refine PX.then_n ?_
    refine CT.seq ?_
    -- region 6, drawn: made.go:195
    refine CT.draw' (Hc := [.row 41 2 (vb b7) 1 (mov m), .row 41 2 (vb b6) 1 [.slice none 0 0, .slice none 0 0]]) 10 K_mixed ?_
    refine RA.q 0 (by kernel_rfl) rfl rfl rfl (.cons _ (.cons _ (.cons _ (.cons_cons _ (.cons_cons _ (.refl _)))))) (OpQ.fieldAddr K_fa41_0 rfl) ?_
    refine RA.q 1 (by kernel_rfl) rfl rfl rfl (.cons _ (.cons _ (.cons _ (.cons_cons _ (.cons_cons _ (.refl _)))))) (OpQ.loadF (b := b7) K_sc25 rfl (by repeat (first | exact Has.here | apply Has.there)) (by rfl)) ?_
    refine RA.q 2 (by kernel_rfl) rfl rfl rfl (.cons _ (.cons _ (.cons _ (.cons_cons _ (.cons_cons _ (.refl _)))))) (OpQ.move rfl) ?_
    refine RA.q 3 (by kernel_rfl) rfl rfl rfl (.cons _ (.cons _ (.cons _ (.cons_cons _ (.cons_cons _ (.refl _)))))) (OpQ.move rfl) ?_
    refine RA.q 4 (by kernel_rfl) rfl rfl rfl (.cons _ (.cons _ (.cons _ (.cons_cons _ (.cons_cons _ (.refl _)))))) (OpQ.conv rfl (conv_nat_u K_un3 K_un82 _ (by omega))) ?_
    refine RA.q 5 (by kernel_rfl) rfl rfl rfl (.cons _ (.cons _ (.cons _ (.cons_cons _ (.cons_cons _ (.refl _)))))) (OpQ.ishl (m := 1) rfl rfl (by omega) (by omega)) ?_
    refine RA.f 6 (by kernel_rfl) rfl rfl rfl (OpG.callX K_go13 rfl (.cons (.there (.there .here)) .nil) (fun _ => (.cons .nil)) (fun w hH hp => next_spec w b ta tn tc tl htl htm (hH.stays hr (.cons (.there (.there .here)) .nil)) pp hpp hp (((1 * 2 ^ L : Nat) : Int)) (by omega))) (fun _ _ => (.cons _ (.cons _ (.cons _ (.cons_cons _ (.cons_cons _ (.refl _))))))) ?_
    rintro ⟨r41, p41⟩ h41
    dsimp only at h41
    obtain ⟨⟨h41a, h41b⟩, h41p⟩ := h41
    refine RA.know 41 (v' := .int .i64 r41) rfl rfl ?_
    refine RA.f 7 (by kernel_rfl) rfl rfl rfl (OpG.lit1 K_un25 K_in3 rfl rfl rfl) (fun _ _ => (.cons _ (.cons _ (.cons _ (.cons _ (.cons_cons _ (.cons_cons _ (.refl _)))))))) ?_
    rintro b42 _
    refine RA.f 8 (by kernel_rfl) rfl rfl rfl (OpG.append K_un25 K_in3 (by rfl) (by decide) rfl rfl (p := 2) rfl (fun w hH => hH.rd .here) ⟨rfl, (by simp [Value.oneCell', zi]), (by omega), (by omega)⟩ (nm := (m.sets ++ [r41]).length) (by simp) (all := (m.sets ++ [r41]).map zi) (by simp)) (fun _ _ => (.cons _ (.cons _ (.cons _ (.cons _ (.cons_cons _ (.cons_cons _ (.refl _)))))))) ?_
    rintro ⟨a43, c43⟩ h43
    refine RA.q 9 (by kernel_rfl) rfl rfl rfl (.cons _ (.cons _ (.cons _ (.cons _ (.cons_cons _ (.cons_cons _ (.refl _))))))) (OpQ.fieldAddr K_fa41_0 rfl) ?_
    refine RA.tail ?_
    refine RT.f 10 (by kernel_rfl) rfl rfl rfl (OpG.storeRow (a := some ⟨b7, 0, none⟩) K_sz25 rfl rfl rfl (by repeat (first | exact Upd.here | apply Upd.there)) (by simp)) ?_
    rintro _ _
    refine RT.done (by kernel_rfl) ?_
    refine PX.then_n ?_
    refine CT.seq ?_
    -- region 7: made.go:196
    refine CT.region ?_
    refine Wl.q rfl rfl (OpQ.loadV (b := b7) K_ag41 K_sz41 rfl (by repeat (first | exact Has.here | apply Has.there)) (by rfl)) ?_
    refine Wl.g rfl rfl (OpG.storeV (b := b6) K_sz41 rfl rfl rfl rfl (by repeat (first | exact Upd.here | apply Upd.there))) ?_
    rintro _ _
    refine Wl.nil ?_
    refine PX.then_n ?_
    refine CT.ret ?_
    refine PX.retC rfl rfl (by repeat (first | exact Has.here | apply Has.there)) K_ag41 K_sz41 (by rfl) (fun w' hH => ?_)
    exact ⟨(⟨a43, c43, m.sets ++ [r41], m.la, m.lc, m.lets⟩, p41, _), ⟨⟨mono_ok hL hM hk hml hms hma (by omega), by dsimp only; omega⟩, h41p⟩, rfl, HOk.post ((hH.bind (p := MoR ⟨a43, c43, m.sets ++ [r41], m.la, m.lc, m.lets⟩) (.cons (.there (.there .here)) (.cons (.there (.there .here)) .nil)) (fun w hk => ⟨Rd.of_owns (hk _ List.mem_cons_self), Rd.of_owns (hk _ (List.mem_cons_of_mem _ List.mem_cons_self))⟩)).take (.cons .here (.cons (.there .here) .nil)))⟩

theorem K_go34 : isGo Try.prog 34 = true := by kernel_rfl
theorem K_un35 : Try.prog.underlying 35 = some (.slice 41) := by kernel_rfl
set_option maxRecDepth 100000 in
/-- semigroup/semigrouplaw39.monomials -/
theorem monos_spec (w : World) (b : Nat) (ta : Option Addr) (tn tc : Nat) (tl : List Int) (htl : tl.length = tn) (htm : tn ≤ 9223372036854775806) (hr : Stays [b] w (fun w => Rd w ta (tl.map zi))) (p : Nat) (hat : p ≤ tn) (hpre : Pre [.row 61 2 (vb b) 1 [.slice ta tn tc, .int .i64 ((p : Nat) : Int)]] w) (L : Nat) (hL : 1 ≤ L ∧ L ≤ 6) : Calls Try.prog 17 #[.pointer (some ⟨b, 0, none⟩), .int .i64 (L : Int)] w (fun e w' => ∃ i : List Mo × Nat × Option Addr × Nat × List Nat, (((∀ m ∈ i.1, moE m (L : Int) = 0 ∧ m.lets.length ≤ 4) ∧ i.1.length ≤ 3) ∧ i.2.1 ≤ tn) ∧ e = .returned (.slice i.2.2.1 i.1.length i.2.2.2.1) ∧ Post [b] [.row 41 2 (.slice i.2.2.1 i.1.length i.2.2.2.1) i.1.length (i.1.flatMap mov), .frag i.2.2.2.2 (mos i.1), .row 61 2 (vb b) 1 [.slice ta tn tc, .int .i64 ((i.2.1 : Nat) : Int)]] w w') := by
  refine enterX (args := [.pointer (some ⟨b, 0, none⟩), .int .i64 (L : Int)]) hpre 20 Try.func17 rfl rfl rfl ?_
  refine CT.seq ?_
  -- region 0: law.go:103
  refine CT.region ?_
  refine Wl.q rfl rfl (OpQ.assign rfl) ?_
  refine Wl.nil ?_
  refine PX.then_n ?_
  refine CT.seq ?_
  -- region 1: law.go:104
  refine CT.region ?_
  refine Wl.q rfl rfl (OpQ.assign rfl) ?_
  refine Wl.nil ?_
  refine PX.then_n ?_
  refine CT.seq ?_
  refine CT.seq ?_
  -- region 2: law.go:105
  refine CT.region ?_
  refine Wl.q rfl rfl (OpQ.move rfl) ?_
  refine Wl.g rfl rfl (OpG.callX K_go13 rfl (.cons .here .nil) (fun _ => (.cons .nil)) (fun w hH hp => next_spec w b ta tn tc tl htl htm (hH.stays hr (.cons .here .nil)) p hat hp (4) (by omega))) ?_
  rintro ⟨r8, p8⟩ h8
  dsimp only at h8
  obtain ⟨⟨h8a, h8b⟩, h8p⟩ := h8
  refine Wl.know 8 (v' := .int .i64 r8) rfl rfl ?_
  refine Wl.q rfl rfl (OpQ.assign rfl) ?_
  refine Wl.nil ?_
  refine PX.then_n ?_
  refine CT.block ?_
  -- the loop at region 3
  refine CT.nilrow 41 2 ?_
  refine CT.as (fun _ h => h.bind0 (p := mos []) (fun _ => mos_nil)) ?_
  refine CT.as (fun _ h => h.take (.cons (.there .here) (.cons .here (.cons .here .nil)))) ?_
  refine CT.loop (ι := Nat × List Mo × Nat × Option Addr × Nat × List Nat) (fun (k, ms, pp, a', c', bs) => k + ms.length ≤ 3 ∧ (∀ m ∈ ms, moE m (L : Int) = 0 ∧ m.lets.length ≤ 4) ∧ pp ≤ tn) (fun (k, ms, pp, a', c', bs) => [(0, .pointer (some ⟨b, 0, none⟩)), (1, .int .i64 (L : Int)), (5, .slice a' ms.length c'), (6, .int .i64 (k : Int))]) (fun (k, ms, pp, a', c', bs) => [.row 41 2 (.slice a' ms.length c') ms.length (ms.flatMap mov), .frag bs (mos ms), .row 61 2 (vb b) 1 [.slice ta tn tc, .int .i64 ((pp : Nat) : Int)]]) (fun (k, ms, pp, a', c', bs) => k) (r8.toNat, [], p8, none, 0, []) ⟨by show r8.toNat + 0 ≤ 3; omega, (fun m hm => by cases hm), h8p⟩ ⟨rfl, rfl, rfl, (lkV rfl (congrArg (Value.int .i64) (by omega))), trivial⟩ (.keep rfl (.keep rfl (.keep rfl .nil))) (fun ⟨k, ms, pp, a', c', bs⟩ ⟨hk, hms, hpp⟩ K0 hK0 => ?_)
  dsimp only
  refine CT.seq ?_
  refine CT.seq ?_
  -- region 3: law.go:105
  refine CT.region ?_
  refine Wl.q rfl rfl (OpQ.move rfl) ?_
  refine Wl.q rfl rfl (OpQ.gtr rfl rfl) ?_
  refine Wl.nil ?_
  refine PX.then_n ?_
  refine CT.cond rfl (fun h10 => ?_) (fun h10 => ?_)
  · -- if t10: then
    have h10 := of_decide_eq_true h10
    refine CT.skip ?_
    refine PX.then_n ?_
    refine CT.seq ?_
    refine CT.block ?_
    -- region 5: law.go:106
    refine CT.region ?_
    refine Wl.q rfl rfl (OpQ.move rfl) ?_
    refine Wl.q rfl rfl (OpQ.move rfl) ?_
    refine Wl.q rfl rfl (OpQ.move rfl) ?_
    refine Wl.g rfl rfl (OpG.callX K_go34 rfl (.cons (.there (.there .here)) .nil) (fun _ => (.cons (.cons .nil))) (fun w hH hp => mono_spec w b ta tn tc tl htl htm (hH.stays hr (.cons (.there (.there .here)) .nil)) pp hpp hp L 4 hL (by omega))) ?_
    rintro ⟨m16, p16, bs16⟩ h16
    dsimp only at h16
    obtain ⟨⟨h16e, h16l⟩, h16p⟩ := h16
    refine Wl.know 16 (v' := .agg (mov m16).toArray) rfl rfl ?_
    refine Wl.g rfl rfl (OpG.litS1 K_un35 K_in41 rfl (by decide) rfl) ?_
    rintro b17 _
    refine Wl.g rfl rfl (OpG.append K_un35 K_in41 (by rfl) (by decide) rfl rfl (p := 3) rfl (fun w hH => hH.rd .here) ⟨rfl, (by simp [Value.oneCell']), (by omega), (by omega)⟩ (nm := ms.length + 1) rfl (all := (ms ++ [m16]).flatMap mov) (by simp)) ?_
    rintro ⟨a18, c18⟩ h18
    refine Wl.q rfl rfl (OpQ.assign rfl) ?_
    refine Wl.nil ?_
    refine PX.block_n ?_
    refine PX.then_n ?_
    -- region 4: law.go:105
    refine CT.region ?_
    refine Wl.q rfl rfl (OpQ.move rfl) ?_
    refine Wl.q rfl rfl (OpQ.sub rfl rfl (by omega)) ?_
    refine Wl.q rfl rfl (OpQ.assign rfl) ?_
    refine Wl.nil ?_
    refine PX.as (fun _ h => h.bind (p := mos (ms ++ [m16])) (.cons (.there .here) (.cons (.there (.there (.there .here))) .nil)) (fun w hk => mos_snoc ((hk _ (List.mem_cons_of_mem _ List.mem_cons_self)).2 w (fun _ _ => rfl)) ((hk _ List.mem_cons_self).2 w (fun _ _ => rfl)))) ?_
    refine PX.as (fun _ h => h.take (.cons (.there (.there (.there .here))) (.cons .here (.cons (.there .here) .nil)))) ?_
    exact PX.loop hK0 (k - 1, ms ++ [m16], p16, a18, c18, _) ⟨by rw [List.length_append, List.length_singleton]; omega, mono_snoc hms ⟨h16e, h16l⟩, h16p⟩ (show k - 1 < k by omega) ⟨rfl, rfl, (lkV rfl (by rw [List.length_append]; rfl)), (lkV rfl (congrArg (Value.int .i64) (by omega))), trivial⟩ (.keep (by rw [List.length_append]; rfl) (.keep rfl (.keep rfl .nil)))
  · -- if t10: else
    have h10 := of_decide_eq_false h10
    refine CT.exit ?_
    refine PX.then_x ?_
    refine PX.then_x ?_
    refine PX.block_x ?_
    refine PX.then_n ?_
    refine CT.seq ?_
    -- region 6: law.go:108
    refine CT.region ?_
    refine Wl.q rfl rfl (OpQ.move rfl) ?_
    refine Wl.q rfl rfl (OpQ.assign rfl) ?_
    refine Wl.nil ?_
    refine PX.then_n ?_
    refine CT.ret ?_
    refine PX.ret1 rfl rfl (fun w' hH => ?_)
    exact ⟨(ms, pp, a', c', bs), ⟨⟨hms, by first | omega | (dsimp only; omega)⟩, hpp⟩, rfl, hH.post⟩

end Go.Proofs.Ytlmbcdjmdgbmjaa
