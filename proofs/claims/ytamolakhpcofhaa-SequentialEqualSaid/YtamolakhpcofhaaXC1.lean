/-
  What functions of the program compute, each by its walk. Conditions: those that each theorem names.
-/
import Derived.Test.YtamolakhpcofhaaMod
import Derived.Test.YtamolakhpcofhaaProg
import Derived.Test.YtamolakhpcofhaaXF
set_option linter.unusedSimpArgs false
namespace Go.Proofs.Ytamolakhpcofhaa
open Go Go.Eng Go.Tl
open Go.Tp (zi)
open Go.Tl (mayL Wd okW okB)

set_option maxRecDepth 100000 in
/-- semigroup/semigroupref01.MayLetters -/
theorem may_spec (w : World) (l : Int) : Calls Try.prog 77 #[.int .i64 (l)] w (fun e w' => e = .returned (.bool (mayL l)) ∧ Ext [] w w') := by
 refine enter (args := [.int .i64 (l)]) [] 9 Try.func77 rfl rfl rfl ?_
 refine CT.seq (CT.region ?_)
 refine Wl.q rfl rfl (OpQ.assign rfl) ?_
 refine Wl.nil (PX.then_n (CT.seq (CT.region ?_)))
 refine Wl.q rfl rfl (OpQ.move rfl) ?_
 refine Wl.q rfl rfl (OpQ.geq rfl rfl) ?_
 refine Wl.q rfl rfl (OpQ.move rfl) ?_
 refine Wl.split 5 rfl (fun hg5 => ?_) (fun hg5 => ?_)
 ·
  have hg5 := of_decide_eq_true hg5
  refine Wl.q rfl rfl (OpQ.move rfl) ?_
  refine Wl.q rfl rfl (OpQ.leq rfl rfl) ?_
  refine Wl.q rfl rfl (OpQ.pickT rfl rfl) ?_
  refine Wl.q rfl rfl (OpQ.assign rfl) ?_
  refine Wl.nil (PX.then_n (CT.ret ?_))
  refine PX.ret1 rfl rfl (fun w' hH => ?_)
  exact ⟨ret_b (by rw [mayL, decide_eq_decide]; omega), hH.ext⟩
 ·
  have hg5 := of_decide_eq_false hg5
  refine Wl.skip rfl rfl ?_
  refine Wl.skip rfl rfl ?_
  refine Wl.q rfl rfl (OpQ.pickF rfl rfl) ?_
  refine Wl.q rfl rfl (OpQ.assign rfl) ?_
  refine Wl.nil (PX.then_n (CT.ret ?_))
  refine PX.ret1 rfl rfl (fun w' hH => ?_)
  exact ⟨ret_b (by rw [eq_comm, mayL, decide_eq_false_iff_not]; omega), hH.ext⟩

set_option maxRecDepth 100000 in
/-- semigroup/semigroupmade.Mod -/
theorem mod_spec (w : World) (x n : Int) (hn : -9223372036854775808 ≤ n ∧ n ≤ 9223372036854775807) : Calls Try.prog 20 #[.int .i64 (x), .int .i64 (n)] w (fun e w' => ∃ r : Int, (0 ≤ r ∧ (1 ≤ n → r < n)) ∧ e = .returned (.int .i64 r) ∧ Ext [] w w') := by
 refine enter (args := [.int .i64 (x), .int .i64 (n)]) [] 16 Try.func20 rfl rfl rfl ?_
 refine CT.seq (CT.region ?_)
 refine Wl.q rfl rfl (OpQ.assign rfl) ?_
 refine Wl.nil (PX.then_n (CT.seq (CT.seq (CT.region ?_))))
 refine Wl.q rfl rfl (OpQ.move rfl) ?_
 refine Wl.q rfl rfl (OpQ.lss rfl rfl) ?_
 refine Wl.nil (PX.then_n ?_)
 refine CT.cond rfl (fun h6 => ?_) (fun h6 => ?_)
 ·
  have h6 := of_decide_eq_true h6
  refine CT.seq (CT.region ?_)
  refine Wl.q rfl rfl (OpQ.assign rfl) ?_
  refine Wl.nil (PX.then_n (CT.ret (PX.then_r ?_)))
  refine PX.ret1 rfl rfl (fun w' hH => ?_)
  exact ⟨0, ⟨by omega, by omega⟩, rfl, hH.ext⟩
 ·
  have h6 := of_decide_eq_false h6
  have hm := Tp.mod_rng (x := x) (n := n) (by omega)
  refine CT.skip (PX.then_n (CT.seq (CT.region ?_)))
  refine Wl.q rfl rfl (OpQ.move rfl) ?_
  refine Wl.q rfl rfl (OpQ.move rfl) ?_
  refine Wl.q rfl rfl (OpQ.rem rfl rfl (by omega)) ?_
  refine Wl.q rfl rfl (OpQ.assign rfl) ?_
  refine Wl.nil (PX.then_n (CT.seq (CT.seq (CT.region ?_))))
  refine Wl.q rfl rfl (OpQ.move rfl) ?_
  refine Wl.q rfl rfl (OpQ.lss rfl rfl) ?_
  refine Wl.nil (PX.then_n ?_)
  refine CT.cond rfl (fun h11 => ?_) (fun h11 => ?_)
  ·
   have h11 := of_decide_eq_true h11
   refine CT.region ?_
   refine Wl.q rfl rfl (OpQ.move rfl) ?_
   refine Wl.q rfl rfl (OpQ.move rfl) ?_
   refine Wl.q rfl rfl (OpQ.add rfl rfl (by omega)) ?_
   refine Wl.q rfl rfl (OpQ.assign rfl) ?_
   refine Wl.nil (PX.then_n (CT.seq (CT.region ?_)))
   refine Wl.q rfl rfl (OpQ.move rfl) ?_
   refine Wl.q rfl rfl (OpQ.assign rfl) ?_
   refine Wl.nil (PX.then_n (CT.ret ?_))
   refine PX.ret1 rfl rfl (fun w' hH => ?_)
   exact ⟨_, ⟨by omega, by omega⟩, rfl, hH.ext⟩
  ·
   have h11 := of_decide_eq_false h11
   refine CT.skip (PX.then_n (CT.seq (CT.region ?_)))
   refine Wl.q rfl rfl (OpQ.move rfl) ?_
   refine Wl.q rfl rfl (OpQ.assign rfl) ?_
   refine Wl.nil (PX.then_n (CT.ret ?_))
   refine PX.ret1 rfl rfl (fun w' hH => ?_)
   exact ⟨_, ⟨by omega, by omega⟩, rfl, hH.ext⟩

set_option maxRecDepth 100000 in
/-- semigroup/semigroupmade.New -/
theorem new_spec (w : World) (a : Option Addr) (cp : Nat) (l : List Int) (hcp : l.length ≤ cp) : Calls Try.prog 9 #[.slice a l.length cp] w (fun e w' => ∃ i : Nat × Nat, (i.2 ≤ l.length ∧ i.2 ≤ 80) ∧ e = .returned (.pointer (some ⟨i.1, 0, none⟩)) ∧ Post [] [.row 57 2 (vb i.1) 1 [.slice a i.2 cp, .int .i64 ((0 : Nat) : Int)]] w w') := by
 refine enter (args := [.slice a l.length cp]) [] 11 Try.func9 rfl rfl rfl ?_
 refine CT.seq (CT.region ?_)
 refine Wl.q rfl rfl (OpQ.assign rfl) ?_
 refine Wl.nil (PX.then_n (CT.seq (CT.seq (CT.region ?_))))
 refine Wl.q rfl rfl (OpQ.move rfl) ?_
 refine Wl.q rfl rfl (OpQ.len zf0 rfl) ?_
 refine Wl.q rfl rfl (OpQ.gtr rfl rfl) ?_
 refine Wl.nil (PX.then_n ?_)
 refine CT.cond rfl (fun h5 => ?_) (fun h5 => ?_)
 ·
  have h5 := of_decide_eq_true h5
  refine CT.region ?_
  refine Wl.q rfl rfl (OpQ.move rfl) ?_
  refine Wl.q rfl rfl (OpQ.sliceToN (k := 80) zf0 zf1 rfl rfl rfl (by omega)) ?_
  refine Wl.q rfl rfl (OpQ.assign rfl) ?_
  refine Wl.nil (PX.then_n (CT.seq (CT.region ?_)))
  refine Wl.q rfl rfl (OpQ.move rfl) ?_
  refine Wl.q rfl rfl (OpQ.build (cells := #[_, .int .i64 0]) zf5 rfl rfl) ?_
  refine Wl.g rfl rfl (OpG.box (size := 2) rfl rfl rfl) ?_
  rintro b10 _
  refine Wl.q rfl rfl (OpQ.assign rfl) ?_
  refine Wl.nil (PX.then_n (CT.ret ?_))
  refine PX.ret1 rfl rfl (fun w' hH => ?_)
  exact ⟨(b10, _), ⟨by first | omega | (dsimp only; omega), by first | omega | (dsimp only; omega)⟩, rfl, hH.post⟩
 ·
  have h5 := of_decide_eq_false h5
  refine CT.skip (PX.then_n (CT.seq (CT.region ?_)))
  refine Wl.q rfl rfl (OpQ.move rfl) ?_
  refine Wl.q rfl rfl (OpQ.build (cells := #[_, .int .i64 0]) zf5 rfl rfl) ?_
  refine Wl.g rfl rfl (OpG.box (size := 2) rfl rfl rfl) ?_
  rintro b10 _
  refine Wl.q rfl rfl (OpQ.assign rfl) ?_
  refine Wl.nil (PX.then_n (CT.ret ?_))
  refine PX.ret1 rfl rfl (fun w' hH => ?_)
  exact ⟨(b10, _), ⟨by first | omega | (dsimp only; omega), by first | omega | (dsimp only; omega)⟩, rfl, hH.post⟩

set_option maxRecDepth 100000 in
/-- (*semigroup/semigroupmade.Tape).Next -/
theorem next_spec (w : World) (b : Nat) (ta : Option Addr) (tn tc : Nat) (tl : List Int) (htl : tl.length = tn) (htm : tn ≤ 9223372036854775806) (hr : Stays [b] w (fun w => Rd w ta (tl.map zi))) (p : Nat) (hat : p ≤ tn) (hpre : Pre [.row 57 2 (vb b) 1 [.slice ta tn tc, .int .i64 ((p : Nat) : Int)]] w) (n : Int) (hn : -9223372036854775808 ≤ n ∧ n ≤ 9223372036854775807) : Calls Try.prog 11 #[.pointer (some ⟨b, 0, none⟩), .int .i64 (n)] w (fun e w' => ∃ i : Int × Nat, ((0 ≤ i.1 ∧ (1 ≤ n → i.1 < n)) ∧ i.2 ≤ tn) ∧ e = .returned (.int .i64 i.1) ∧ Post [b] [.row 57 2 (vb b) 1 [.slice ta tn tc, .int .i64 ((i.2 : Nat) : Int)]] w w') := by
 have sm : 0 < tl.length → ta.isSome = true := fun h => hr.now.isSome (j := 0) (by rw [List.length_map]; omega)
 refine enterX (args := [.pointer (some ⟨b, 0, none⟩), .int .i64 (n)]) hpre 35 Try.func11 rfl rfl rfl ?_
 refine CT.seq (CT.region ?_)
 refine Wl.q rfl rfl (OpQ.assign rfl) ?_
 refine Wl.nil (PX.then_n (CT.seq (CT.seq ?_)))
 refine CT.draw 10 zf6 ?_
 refine RA.q 0 (by kernel_rfl) rfl rfl rfl (.refl _) (OpQ.move rfl) ?_
 refine RA.q 1 (by kernel_rfl) rfl rfl rfl (.refl _) (OpQ.nilCheckP rfl) ?_
 refine RA.q 2 (by kernel_rfl) rfl rfl rfl (.refl _) (OpQ.fieldAddr zf7 rfl) ?_
 refine RA.q 3 (by kernel_rfl) rfl rfl rfl (.refl _) (OpQ.loadF (b := b) zf8 rfl (by repeat (first | exact Has.here | apply Has.there)) (by rfl)) ?_
 refine RA.q 4 (by kernel_rfl) rfl rfl rfl (.refl _) (OpQ.move rfl) ?_
 refine RA.q 5 (by kernel_rfl) rfl rfl rfl (.refl _) (OpQ.nilCheckP rfl) ?_
 refine RA.q 6 (by kernel_rfl) rfl rfl rfl (.refl _) (OpQ.fieldAddr zf9 rfl) ?_
 refine RA.q 7 (by kernel_rfl) rfl rfl rfl (.refl _) (OpQ.loadF (b := b) zf10 rfl (by repeat (first | exact Has.here | apply Has.there)) (by rfl)) ?_
 refine RA.q 8 (by kernel_rfl) rfl rfl rfl (.refl _) (OpQ.len zf0 rfl) ?_
 refine RA.q 9 (by kernel_rfl) rfl rfl rfl (.refl _) (OpQ.geq rfl rfl) ?_
 refine RA.tail ?_
 refine RT.done (by kernel_rfl) ?_
 refine PX.then_n ?_
 refine CT.cond rfl (fun h14 => ?_) (fun h14 => ?_)
 ·
  have h14 := of_decide_eq_true h14
  refine CT.seq (CT.region ?_)
  refine Wl.q rfl rfl (OpQ.assign rfl) ?_
  refine Wl.nil (PX.then_n (CT.ret (PX.then_r ?_)))
  refine PX.ret1 rfl rfl (fun w' hH => ?_)
  exact ⟨(0, p), ⟨⟨by first | omega | (dsimp only; omega), by first | omega | (dsimp only; omega)⟩, hat⟩, rfl, hH.post⟩
 ·
  have h14 := of_decide_eq_false h14
  refine CT.skip (PX.then_n (CT.seq (CT.region ?_)))
  refine Wl.q rfl rfl (OpQ.move rfl) ?_
  refine Wl.q rfl rfl (OpQ.nilCheckP rfl) ?_
  refine Wl.q rfl rfl (OpQ.fieldAddr zf7 rfl) ?_
  refine Wl.q rfl rfl (OpQ.loadF (b := b) zf8 rfl (by repeat (first | exact Has.here | apply Has.there)) (by rfl)) ?_
  refine Wl.q rfl rfl (OpQ.add rfl rfl (by omega)) ?_
  refine Wl.know 19 (v' := .int .i64 ((p + 1 : Nat) : Int)) rfl (congrArg (Value.int .i64) (by omega)) ?_
  refine Wl.q rfl rfl (OpQ.nilCheckP rfl) ?_
  refine Wl.q rfl rfl (OpQ.fieldAddr zf7 rfl) ?_
  refine Wl.g rfl rfl (OpG.storeRow (a := some ⟨b, 0, none⟩) zf1 rfl rfl rfl (by repeat (first | exact Upd.here | apply Upd.there)) (by simp)) ?_
  rintro _ _
  refine Wl.nil (PX.then_n (CT.seq ?_))
  refine CT.draw 14 zf6 ?_
  refine RA.q 0 (by kernel_rfl) rfl rfl rfl (.refl _) (OpQ.move rfl) ?_
  refine RA.q 1 (by kernel_rfl) rfl rfl rfl (.refl _) (OpQ.nilCheckP rfl) ?_
  refine RA.q 2 (by kernel_rfl) rfl rfl rfl (.refl _) (OpQ.fieldAddr zf9 rfl) ?_
  refine RA.q 3 (by kernel_rfl) rfl rfl rfl (.refl _) (OpQ.loadF (b := b) zf10 rfl (by repeat (first | exact Has.here | apply Has.there)) (by rfl)) ?_
  refine RA.q 4 (by kernel_rfl) rfl rfl rfl (.refl _) (OpQ.move rfl) ?_
  refine RA.q 5 (by kernel_rfl) rfl rfl rfl (.refl _) (OpQ.nilCheckP rfl) ?_
  refine RA.q 6 (by kernel_rfl) rfl rfl rfl (.refl _) (OpQ.fieldAddr zf7 rfl) ?_
  refine RA.q 7 (by kernel_rfl) rfl rfl rfl (.refl _) (OpQ.loadF (b := b) zf8 rfl (by repeat (first | exact Has.here | apply Has.there)) (by rfl)) ?_
  refine RA.q 8 (by kernel_rfl) rfl rfl rfl (.refl _) (OpQ.sub rfl rfl (by omega)) ?_
  refine RA.know 30 (v' := .int .i64 (p : Int)) rfl (congrArg (Value.int .i64) (by omega)) ?_
  refine RA.q 9 (by kernel_rfl) rfl rfl rfl (.refl _) (OpQ.index1 zf0 zf1 rfl rfl (by omega) (sm (by omega))) ?_
  refine RA.q 10 (by kernel_rfl) rfl rfl rfl (.refl _) (OpQ.loadG zf8 rfl (fun w hH => hH.use hr) (getMap zi tl 0 (j := p) (by omega))) ?_
  refine RA.q 11 (by kernel_rfl) rfl rfl rfl (.refl _) (OpQ.move rfl) ?_
  refine RA.f 12 (by kernel_rfl) rfl rfl rfl (OpG.call zf11 rfl (fun w hH => (mod_spec w _ n hn).mono fun e w' ⟨r, h1, h2, h3⟩ => ⟨r, h1, h2, hH.ext_nil h3⟩)) (fun _ _ => (.refl _)) ?_
  rintro r34 h34
  refine RA.know 34 (v' := .int .i64 r34) rfl rfl ?_
  refine RA.q 13 (by kernel_rfl) rfl rfl rfl (.refl _) (OpQ.assign rfl) ?_
  refine RA.tail ?_
  refine RT.done (by kernel_rfl) ?_
  refine PX.then_n (CT.ret ?_)
  refine PX.ret1 rfl rfl (fun w' hH => ?_)
  exact ⟨(r34, p + 1), ⟨⟨h34.1, h34.2⟩, by first | omega | (dsimp only; omega)⟩, rfl, hH.post⟩

set_option maxRecDepth 100000 in
/-- (*semigroup/semigroupmade.Tape).Word -/
theorem word_spec (w : World) (b : Nat) (ta : Option Addr) (tn tc : Nat) (tl : List Int) (htl : tl.length = tn) (htm : tn ≤ 9223372036854775806) (hr : Stays [b] w (fun w => Rd w ta (tl.map zi))) (p : Nat) (hat : p ≤ tn) (hpre : Pre [.row 57 2 (vb b) 1 [.slice ta tn tc, .int .i64 ((p : Nat) : Int)]] w) (letters most : Int) (hle : 1 ≤ letters ∧ letters ≤ 6) (hmo : 0 ≤ most ∧ most ≤ 2000) : Calls Try.prog 16 #[.pointer (some ⟨b, 0, none⟩), .int .i64 (letters), .int .i64 (most)] w (fun e w' => ∃ i : List UInt8 × Nat, ((i.1.length ≤ most ∧ Tl.okW i.1 letters = true) ∧ i.2 ≤ tn) ∧ e = .returned (sv i.1) ∧ Post [b] [.row 57 2 (vb b) 1 [.slice ta tn tc, .int .i64 ((i.2 : Nat) : Int)]] w w') := by
 refine enterX (args := [.pointer (some ⟨b, 0, none⟩), .int .i64 (letters), .int .i64 (most)]) hpre 27 Try.func16 rfl rfl rfl ?_
 refine CT.seq (CT.region ?_)
 refine Wl.q rfl rfl (OpQ.assign rfl) ?_
 refine Wl.nil (PX.then_n (CT.seq (CT.region ?_)))
 refine Wl.q rfl rfl (OpQ.assign rfl) ?_
 refine Wl.nil (PX.then_n (CT.seq (CT.seq (CT.region ?_))))
 refine Wl.q rfl rfl (OpQ.move rfl) ?_
 refine Wl.q rfl rfl (OpQ.move rfl) ?_
 refine Wl.q rfl rfl (OpQ.add rfl rfl (by omega)) ?_
 refine Wl.g rfl rfl (OpG.callX zf12 rfl (.cons .here .nil) (fun _ => (.cons .nil)) (fun w hH hp => next_spec w b ta tn tc tl htl htm (hH.stays hr (.cons .here .nil)) p hat hp (most + 1) (by omega))) ?_
 rintro ⟨r12, p12⟩ h12
 dsimp only at h12
 obtain ⟨⟨h12a, h12b⟩, h12p⟩ := h12
 refine Wl.know 12 (v' := .int .i64 r12) rfl rfl ?_
 refine Wl.q rfl rfl (OpQ.assign rfl) ?_
 refine Wl.nil (PX.then_n (CT.block ?_))
 refine CT.nilrow 5 1 ?_
 refine CT.loop (ι := Nat × List UInt8 × Nat × Option Addr × Nat) (fun (m, l, p', a', c') => (m : Int) + l.length ≤ most ∧ l.all (Tl.okB letters) = true ∧ p' ≤ tn) (fun (m, l, p', a', c') => [(0, .pointer (some ⟨b, 0, none⟩)), (1, .int .i64 (letters)), (7, .slice a' l.length c'), (8, .int .i64 (m))]) (fun (m, l, p', a', c') => [.row 5 1 (.slice a' l.length c') l.length (l.map bv), .row 57 2 (vb b) 1 [.slice ta tn tc, .int .i64 ((p' : Nat) : Int)]]) (fun (m, l, p', a', c') => m) (r12.toNat, [], p12, none, 0) ⟨by dsimp only [List.length_nil]; omega, rfl, h12p⟩ ⟨rfl, rfl, rfl, (lkV rfl (congrArg (Value.int .i64) (by omega))), trivial⟩ (.keep rfl (.keep rfl .nil)) (fun ⟨m, l, p', a', c'⟩ ⟨hm, hal, hat'⟩ K0 hK0 => ?_)
 dsimp only
 refine CT.seq (CT.seq (CT.region ?_))
 refine Wl.q rfl rfl (OpQ.move rfl) ?_
 refine Wl.q rfl rfl (OpQ.gtr rfl rfl) ?_
 refine Wl.nil (PX.then_n ?_)
 refine CT.cond rfl (fun h14 => ?_) (fun h14 => ?_)
 ·
  have h14 := of_decide_eq_true h14
  refine CT.skip (PX.then_n (CT.seq (CT.block (CT.region ?_))))
  refine Wl.q rfl rfl (OpQ.move rfl) ?_
  refine Wl.q rfl rfl (OpQ.move rfl) ?_
  refine Wl.q rfl rfl (OpQ.move rfl) ?_
  refine Wl.g rfl rfl (OpG.callX zf12 rfl (.cons (.there .here) .nil) (fun _ => (.cons .nil)) (fun w hH hp => next_spec w b ta tn tc tl htl htm (hH.stays hr (.cons (.there .here) .nil)) p' hat' hp (letters) (by omega))) ?_
  rintro ⟨r20, p20⟩ h20
  dsimp only at h20
  obtain ⟨⟨h20a, h20b⟩, h20p⟩ := h20
  refine Wl.know 20 (v' := .int .i64 r20) rfl rfl ?_
  refine Wl.q rfl rfl (OpQ.add rfl rfl (by omega)) ?_
  refine Wl.q rfl rfl (OpQ.conv rfl (conv_i64_u8 zf13 zf3 _ (by omega))) ?_
  refine Wl.know 22 (v' := bv (UInt8.ofNat (97 + r20).toNat)) rfl (Tl.bv_of (by omega)) ?_
  refine Wl.g rfl rfl (OpG.lit1 zf2 zf14 rfl rfl rfl) ?_
  rintro b23 _
  refine Wl.g rfl rfl (OpG.append zf2 zf14 (by rfl) (by decide) rfl rfl (p := 2) rfl (fun w hH => hH.rd .here) ⟨rfl, (by simp [Value.oneCell']), (by omega), (by omega)⟩ (nm := l.length + 1) rfl (all := (l ++ [UInt8.ofNat (97 + r20).toNat]).map bv) (by simp)) ?_
  rintro ⟨a24, c24⟩ h24
  refine Wl.q rfl rfl (OpQ.assign rfl) ?_
  refine Wl.nil (PX.block_n (PX.then_n (CT.region ?_)))
  refine Wl.q rfl rfl (OpQ.move rfl) ?_
  refine Wl.q rfl rfl (OpQ.sub rfl rfl (by omega)) ?_
  refine Wl.q rfl rfl (OpQ.assign rfl) ?_
  refine Wl.nil ?_
  refine PX.as (fun _ h => h.take (.cons (.there (.there .here)) (.cons (.there .here) .nil))) ?_
  exact PX.loop hK0 (m - 1, l ++ [UInt8.ofNat (97 + r20).toNat], p20, a24, c24) ⟨by simp; omega, by simp [hal, Tl.okB_of (letters := letters) (r := r20) (by omega) (by omega)], h20p⟩ (show m - 1 < m by omega) ⟨rfl, rfl, (lkV rfl (by simp)), (lkV rfl (congrArg (Value.int .i64) (by omega))), trivial⟩ (.keep (by rw [List.length_append]; rfl) (.keep rfl .nil))
 ·
  have h14 := of_decide_eq_false h14
  refine CT.exit (PX.then_x (PX.then_x (PX.block_x (PX.then_n (CT.seq (CT.region ?_))))))
  refine Wl.q rfl rfl (OpQ.move rfl) ?_
  refine Wl.q rfl rfl (OpQ.convBS zf2 zf3 zf4 rfl (fun w hH => hH.rd .here)) ?_
  refine Wl.q rfl rfl (OpQ.assign rfl) ?_
  refine Wl.nil (PX.then_n (CT.ret ?_))
  refine PX.ret1 rfl rfl (fun w' hH => ?_)
  exact ⟨(l, p'), ⟨⟨by first | omega | (dsimp only; omega), Tl.okW_of (by rw [Tl.mayL, decide_eq_true_eq]; exact hle) (by first | omega | (dsimp only; omega)) hal⟩, hat'⟩, rfl, hH.post.sub (.drop (.keep rfl .nil))⟩

set_option maxRecDepth 100000 in
/-- semigroup/word.Valid -/
theorem wvalid_spec (w : World) (ws : Wd) (hn : ws.length ≤ 9223372036854775807) (letters : Int) : Calls Try.prog 50 #[sv ws, .int .i64 (letters)] w (fun e w' => e = .returned (.bool (okW ws letters)) ∧ Ext [] w w') := by
 refine enter (args := [sv ws, .int .i64 (letters)]) [] 36 Try.func50 rfl rfl rfl ?_
 refine CT.seq (CT.region ?_)
 refine Wl.q rfl rfl (OpQ.assign rfl) ?_
 refine Wl.nil (PX.then_n (CT.seq (CT.seq (CT.region ?_))))
 refine Wl.q rfl rfl (OpQ.move rfl) ?_
 refine Wl.q rfl rfl (OpQ.lss rfl rfl) ?_
 refine Wl.q rfl rfl (OpQ.move rfl) ?_
 refine Wl.split 8 rfl (fun hg8 => ?_) (fun hg8 => ?_)
 ·
  have hg8 := of_decide_eq_true hg8
  refine Wl.skip rfl rfl ?_
  refine Wl.skip rfl rfl ?_
  refine Wl.q rfl rfl (OpQ.pickT rfl rfl) ?_
  refine Wl.q rfl rfl (OpQ.move rfl) ?_
  refine Wl.skip rfl rfl ?_
  refine Wl.skip rfl rfl ?_
  refine Wl.skip rfl rfl ?_
  refine Wl.q rfl rfl (OpQ.pickT rfl rfl) ?_
  refine Wl.nil (PX.then_n ?_)
  refine CT.condT rfl ?_
  refine CT.seq (CT.region ?_)
  refine Wl.q rfl rfl (OpQ.assign rfl) ?_
  refine Wl.nil (PX.then_n (CT.ret (PX.then_r ?_)))
  refine PX.ret1 rfl rfl (fun w' hH => ?_)
  exact ⟨ret_b (okW_may (by omega)).symm, hH.ext⟩
 ·
  have hg8 := of_decide_eq_false hg8
  refine Wl.q rfl rfl (OpQ.move rfl) ?_
  refine Wl.q rfl rfl (OpQ.gtr rfl rfl) ?_
  refine Wl.q rfl rfl (OpQ.pickF rfl rfl) ?_
  refine Wl.q rfl rfl (OpQ.move rfl) ?_
  refine Wl.split 12 rfl (fun hg12 => ?_) (fun hg12 => ?_)
  ·
   have hg12 := of_decide_eq_true hg12
   refine Wl.skip rfl rfl ?_
   refine Wl.skip rfl rfl ?_
   refine Wl.skip rfl rfl ?_
   refine Wl.q rfl rfl (OpQ.pickT rfl rfl) ?_
   refine Wl.nil (PX.then_n ?_)
   refine CT.condT rfl ?_
   refine CT.seq (CT.region ?_)
   refine Wl.q rfl rfl (OpQ.assign rfl) ?_
   refine Wl.nil (PX.then_n (CT.ret (PX.then_r ?_)))
   refine PX.ret1 rfl rfl (fun w' hH => ?_)
   exact ⟨ret_b (okW_may (by omega)).symm, hH.ext⟩
  ·
   have hg12 := of_decide_eq_false hg12
   refine Wl.q rfl rfl (OpQ.move rfl) ?_
   refine Wl.q rfl rfl (OpQ.lenSv zf4 rfl) ?_
   refine Wl.q rfl rfl (OpQ.gtr rfl rfl) ?_
   refine Wl.q rfl rfl (OpQ.pickF rfl rfl) ?_
   refine Wl.nil (PX.then_n ?_)
   refine CT.cond rfl (fun h16 => ?_) (fun h16 => ?_)
   ·
    have h16 := of_decide_eq_true h16
    refine CT.seq (CT.region ?_)
    refine Wl.q rfl rfl (OpQ.assign rfl) ?_
    refine Wl.nil (PX.then_n (CT.ret (PX.then_r ?_)))
    refine PX.ret1 rfl rfl (fun w' hH => ?_)
    exact ⟨ret_b (okW_long (by omega)).symm, hH.ext⟩
   ·
    have h16 := of_decide_eq_false h16
    refine CT.skip (PX.then_n (CT.seq (CT.seq (CT.region ?_))))
    refine Wl.q rfl rfl (OpQ.move rfl) ?_
    refine Wl.q rfl rfl (OpQ.lenSv zf4 rfl) ?_
    refine Wl.q rfl rfl (OpQ.move rfl) ?_
    refine Wl.nil (PX.then_n (CT.block ?_))
    refine CT.loop (ι := Nat) (fun k => k ≤ ws.length ∧ ∀ j, j < k → okB letters (ws.getD j 0) = true) (fun k => [(0, sv ws), (1, .int .i64 (letters)), (18, .int .i64 (ws.length : Int)), (19, .int .i64 (k : Int))]) (fun _ => []) (fun k => ws.length - k) 0 ⟨by omega, by omega⟩ ⟨rfl, rfl, rfl, rfl, trivial⟩ (HSub.none _) (fun k ⟨hk, hall⟩ K0 hK0 => ?_)
    have hu := u8_lt (ws.getD k 0)
    refine CT.seq (CT.region ?_)
    refine Wl.q rfl rfl (OpQ.lss rfl rfl) ?_
    refine Wl.nil (PX.then_n (CT.seq ?_))
    refine CT.cond rfl (fun h20 => ?_) (fun h20 => ?_)
    ·
     have h20 := of_decide_eq_true h20
     refine CT.skip (PX.then_n (CT.seq (CT.block (CT.seq (CT.region ?_)))))
     refine Wl.q rfl rfl (OpQ.move rfl) ?_
     refine Wl.q rfl rfl (OpQ.assign rfl) ?_
     refine Wl.nil (PX.then_n (CT.seq (CT.region ?_)))
     refine Wl.q rfl rfl (OpQ.move rfl) ?_
     refine Wl.q rfl rfl (OpQ.move rfl) ?_
     refine Wl.q rfl rfl (OpQ.indexSvN zf4 rfl rfl (by omega)) ?_
     refine Wl.q rfl rfl (OpQ.lss rfl rfl) ?_
     refine Wl.q rfl rfl (OpQ.move rfl) ?_
     refine Wl.split 26 rfl (fun hg26 => ?_) (fun hg26 => ?_)
     ·
      have hg26 := of_decide_eq_true hg26
      refine Wl.skip rfl rfl ?_
      refine Wl.skip rfl rfl ?_
      refine Wl.skip rfl rfl ?_
      refine Wl.skip rfl rfl ?_
      refine Wl.skip rfl rfl ?_
      refine Wl.skip rfl rfl ?_
      refine Wl.skip rfl rfl ?_
      refine Wl.q rfl rfl (OpQ.pickT rfl rfl) ?_
      refine Wl.nil (PX.then_n ?_)
      refine CT.condT rfl ?_
      refine CT.seq (CT.region ?_)
      refine Wl.q rfl rfl (OpQ.assign rfl) ?_
      refine Wl.nil (PX.then_n (CT.ret (PX.block_r (PX.then_r (PX.then_r (PX.block_r (PX.then_r ?_)))))))
      refine PX.ret1 rfl rfl (fun w' hH => ?_)
      exact ⟨ret_b (okW_bad (j := k) (by omega) (by rw [okB, decide_eq_false_iff_not]; omega)).symm, hH.ext⟩
     ·
      have hg26 := of_decide_eq_false hg26
      refine Wl.q rfl rfl (OpQ.move rfl) ?_
      refine Wl.q rfl rfl (OpQ.move rfl) ?_
      refine Wl.q rfl rfl (OpQ.indexSvN zf4 rfl rfl (by omega)) ?_
      refine Wl.q rfl rfl (OpQ.sub8 rfl rfl (by omega)) ?_
      refine Wl.q rfl rfl (OpQ.conv rfl (conv_u8_i64 zf3 zf13 _ (by omega))) ?_
      refine Wl.q rfl rfl (OpQ.move rfl) ?_
      refine Wl.q rfl rfl (OpQ.geq rfl rfl) ?_
      refine Wl.q rfl rfl (OpQ.pickF rfl rfl) ?_
      refine Wl.nil (PX.then_n ?_)
      refine CT.cond rfl (fun h34 => ?_) (fun h34 => ?_)
      ·
       have h34 := of_decide_eq_true h34
       refine CT.seq (CT.region ?_)
       refine Wl.q rfl rfl (OpQ.assign rfl) ?_
       refine Wl.nil (PX.then_n (CT.ret (PX.block_r (PX.then_r (PX.then_r (PX.block_r (PX.then_r ?_)))))))
       refine PX.ret1 rfl rfl (fun w' hH => ?_)
       exact ⟨ret_b (okW_bad (j := k) (by omega) (by rw [okB, decide_eq_false_iff_not]; omega)).symm, hH.ext⟩
      ·
       have h34 := of_decide_eq_false h34
       refine CT.skip (PX.block_n (PX.then_n (CT.region ?_)))
       refine Wl.q rfl rfl (OpQ.add rfl rfl (by omega)) ?_
       refine Wl.q rfl rfl (OpQ.move rfl) ?_
       refine Wl.nil ?_
       have hall2 : ∀ j, j < k + 1 → okB letters (ws.getD j 0) = true := fun j hj => by
        rcases Nat.lt_or_ge j k with h | h
        ·
         exact hall j h
        ·
         rw [show j = k by omega]; exact (by rw [okB, decide_eq_true_eq]; omega)
       exact PX.loop hK0 (k + 1) ⟨by omega, hall2⟩ (by first | omega | (dsimp only; omega)) ⟨rfl, rfl, rfl, rfl, trivial⟩ (HSub.none _)
    ·
     have h20 := of_decide_eq_false h20
     refine CT.exit (PX.then_x (PX.then_x (PX.block_x (PX.then_n (CT.seq (CT.region ?_))))))
     refine Wl.q rfl rfl (OpQ.assign rfl) ?_
     refine Wl.nil (PX.then_n (CT.ret ?_))
     refine PX.ret1 rfl rfl (fun w' hH => ?_)
     exact ⟨ret_b (okW_ok (may_in (by omega) (by omega)) (by omega) (fun j hj => hall j (by omega))).symm, hH.ext⟩

set_option maxRecDepth 100000 in
/-- semigroup/semigroupref01.Valid -/
theorem wvalidR_spec (w : World) (ws : Wd) (hn : ws.length ≤ 9223372036854775807) (letters : Int) : Calls Try.prog 56 #[sv ws, .int .i64 (letters)] w (fun e w' => e = .returned (.bool (okW ws letters)) ∧ Ext [] w w') := by
 refine enter (args := [sv ws, .int .i64 (letters)]) [] 33 Try.func56 rfl rfl rfl ?_
 refine CT.seq (CT.region ?_)
 refine Wl.q rfl rfl (OpQ.assign rfl) ?_
 refine Wl.nil (PX.then_n (CT.seq (CT.seq (CT.region ?_))))
 refine Wl.q rfl rfl (OpQ.move rfl) ?_
 refine Wl.g rfl rfl (OpG.callV zf15 rfl (fun w hH => may_spec w letters)) ?_
 rintro _ _
 refine Wl.q rfl rfl (OpQ.not rfl) ?_
 refine Wl.q rfl rfl (OpQ.move rfl) ?_
 refine Wl.split 9 rfl (fun hg9 => ?_) (fun hg9 => ?_)
 ·
  have hm : mayL letters = false := by simpa using hg9
  refine Wl.skip rfl rfl ?_
  refine Wl.skip rfl rfl ?_
  refine Wl.skip rfl rfl ?_
  refine Wl.q rfl rfl (OpQ.pickT rfl rfl) ?_
  refine Wl.nil (PX.then_n ?_)
  refine CT.condT rfl ?_
  refine CT.seq (CT.region ?_)
  refine Wl.q rfl rfl (OpQ.assign rfl) ?_
  refine Wl.nil (PX.then_n (CT.ret (PX.then_r ?_)))
  refine PX.ret1 rfl rfl (fun w' hH => ?_)
  exact ⟨ret_b (by rw [okW, hm]; rfl), hH.ext⟩
 ·
  have hm : mayL letters = true := by simpa using hg9
  refine Wl.q rfl rfl (OpQ.move rfl) ?_
  refine Wl.q rfl rfl (OpQ.lenSv zf4 rfl) ?_
  refine Wl.q rfl rfl (OpQ.gtr rfl rfl) ?_
  refine Wl.q rfl rfl (OpQ.pickF rfl rfl) ?_
  refine Wl.nil (PX.then_n ?_)
  refine CT.cond rfl (fun h13 => ?_) (fun h13 => ?_)
  ·
   have h13 := of_decide_eq_true h13
   refine CT.seq (CT.region ?_)
   refine Wl.q rfl rfl (OpQ.assign rfl) ?_
   refine Wl.nil (PX.then_n (CT.ret (PX.then_r ?_)))
   refine PX.ret1 rfl rfl (fun w' hH => ?_)
   exact ⟨ret_b (okW_long (by omega)).symm, hH.ext⟩
  ·
   have h13 := of_decide_eq_false h13
   refine CT.skip (PX.then_n (CT.seq (CT.seq (CT.region ?_))))
   refine Wl.q rfl rfl (OpQ.assign rfl) ?_
   refine Wl.nil (PX.then_n (CT.block ?_))
   refine CT.loop (ι := Nat) (fun k => k ≤ ws.length ∧ ∀ j, j < k → okB letters (ws.getD j 0) = true) (fun k => [(0, sv ws), (1, .int .i64 (letters)), (5, .int .i64 (k : Int))]) (fun _ => []) (fun k => ws.length - k) 0 ⟨by omega, by omega⟩ ⟨rfl, rfl, rfl, trivial⟩ (HSub.none _) (fun k ⟨hk, hall⟩ K0 hK0 => ?_)
   have hu := u8_lt (ws.getD k 0)
   refine CT.seq (CT.seq (CT.region ?_))
   refine Wl.q rfl rfl (OpQ.move rfl) ?_
   refine Wl.q rfl rfl (OpQ.move rfl) ?_
   refine Wl.q rfl rfl (OpQ.lenSv zf4 rfl) ?_
   refine Wl.q rfl rfl (OpQ.lss rfl rfl) ?_
   refine Wl.nil (PX.then_n ?_)
   refine CT.cond rfl (fun h17 => ?_) (fun h17 => ?_)
   ·
    have h17 := of_decide_eq_true h17
    refine CT.skip (PX.then_n (CT.seq (CT.block (CT.seq (CT.region ?_)))))
    refine Wl.q rfl rfl (OpQ.move rfl) ?_
    refine Wl.q rfl rfl (OpQ.move rfl) ?_
    refine Wl.q rfl rfl (OpQ.indexSvN zf4 rfl rfl (by omega)) ?_
    refine Wl.q rfl rfl (OpQ.lss rfl rfl) ?_
    refine Wl.q rfl rfl (OpQ.move rfl) ?_
    refine Wl.split 24 rfl (fun hg24 => ?_) (fun hg24 => ?_)
    ·
     have hg24 := of_decide_eq_true hg24
     refine Wl.skip rfl rfl ?_
     refine Wl.skip rfl rfl ?_
     refine Wl.skip rfl rfl ?_
     refine Wl.skip rfl rfl ?_
     refine Wl.skip rfl rfl ?_
     refine Wl.skip rfl rfl ?_
     refine Wl.skip rfl rfl ?_
     refine Wl.q rfl rfl (OpQ.pickT rfl rfl) ?_
     refine Wl.nil (PX.then_n ?_)
     refine CT.condT rfl ?_
     refine CT.seq (CT.region ?_)
     refine Wl.q rfl rfl (OpQ.assign rfl) ?_
     refine Wl.nil (PX.then_n (CT.ret (PX.block_r (PX.then_r (PX.then_r (PX.block_r (PX.then_r ?_)))))))
     refine PX.ret1 rfl rfl (fun w' hH => ?_)
     exact ⟨ret_b (okW_bad (j := k) (by omega) (by rw [okB, decide_eq_false_iff_not]; omega)).symm, hH.ext⟩
    ·
     have hg24 := of_decide_eq_false hg24
     refine Wl.q rfl rfl (OpQ.move rfl) ?_
     refine Wl.q rfl rfl (OpQ.move rfl) ?_
     refine Wl.q rfl rfl (OpQ.indexSvN zf4 rfl rfl (by omega)) ?_
     refine Wl.q rfl rfl (OpQ.sub8 rfl rfl (by omega)) ?_
     refine Wl.q rfl rfl (OpQ.conv rfl (conv_u8_i64 zf3 zf13 _ (by omega))) ?_
     refine Wl.q rfl rfl (OpQ.move rfl) ?_
     refine Wl.q rfl rfl (OpQ.geq rfl rfl) ?_
     refine Wl.q rfl rfl (OpQ.pickF rfl rfl) ?_
     refine Wl.nil (PX.then_n ?_)
     refine CT.cond rfl (fun h32 => ?_) (fun h32 => ?_)
     ·
      have h32 := of_decide_eq_true h32
      refine CT.seq (CT.region ?_)
      refine Wl.q rfl rfl (OpQ.assign rfl) ?_
      refine Wl.nil (PX.then_n (CT.ret (PX.block_r (PX.then_r (PX.then_r (PX.block_r (PX.then_r ?_)))))))
      refine PX.ret1 rfl rfl (fun w' hH => ?_)
      exact ⟨ret_b (okW_bad (j := k) (by omega) (by rw [okB, decide_eq_false_iff_not]; omega)).symm, hH.ext⟩
     ·
      have h32 := of_decide_eq_false h32
      refine CT.skip (PX.block_n (PX.then_n (CT.region ?_)))
      refine Wl.q rfl rfl (OpQ.move rfl) ?_
      refine Wl.q rfl rfl (OpQ.add rfl rfl (by omega)) ?_
      refine Wl.q rfl rfl (OpQ.assign rfl) ?_
      refine Wl.nil ?_
      have hall2 : ∀ j, j < k + 1 → okB letters (ws.getD j 0) = true := fun j hj => by
       rcases Nat.lt_or_ge j k with h | h
       ·
        exact hall j h
       ·
        rw [show j = k by omega]; exact (by rw [okB, decide_eq_true_eq]; omega)
      exact PX.loop hK0 (k + 1) ⟨by omega, hall2⟩ (by first | omega | (dsimp only; omega)) ⟨rfl, rfl, rfl, trivial⟩ (HSub.none _)
   ·
    have h17 := of_decide_eq_false h17
    refine CT.exit (PX.then_x (PX.then_x (PX.block_x (PX.then_n (CT.seq (CT.region ?_))))))
    refine Wl.q rfl rfl (OpQ.assign rfl) ?_
    refine Wl.nil (PX.then_n (CT.ret ?_))
    refine PX.ret1 rfl rfl (fun w' hH => ?_)
    exact ⟨ret_b (okW_ok hm (by omega) (fun j hj => hall j (by omega))).symm, hH.ext⟩

end Go.Proofs.Ytamolakhpcofhaa

