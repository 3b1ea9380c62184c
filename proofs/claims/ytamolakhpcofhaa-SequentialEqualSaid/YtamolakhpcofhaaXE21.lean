/-
  What functions of the program compute, each by its walk. Conditions: those that each theorem names.
-/
import Derived.Test.YtamolakhpcofhaaMod1
import Derived.Test.YtamolakhpcofhaaXE4
import Derived.Test.YtamolakhpcofhaaXE10
import Derived.Test.YtamolakhpcofhaaMod
import Derived.Test.YtamolakhpcofhaaXC1
import Derived.Test.YtamolakhpcofhaaEng1
import Derived.Test.YtamolakhpcofhaaEng
import Derived.Test.YtamolakhpcofhaaXF
set_option linter.unusedSimpArgs false
namespace Go.Proofs.Ytamolakhpcofhaa
open Go Go.Eng Go.Am Go.Sq
open Go.Tp (zi)
open Go.Tl (mayL Wd okW okB bo)

set_option maxRecDepth 100000 in
/-- semigroup/semigroupref42.empty -/
theorem emptyR_spec (w : World) (L : Nat) (hL : L ≤ 6) : Calls Try.prog 48 #[.int .i64 ((L : Nat) : Int)] w (fun e w' => ∃ i : Sv, (i.sq = emptyQ L) ∧ e = .returned (svv i) ∧ Post [] (svH i 3 22 4 9 28) w w') := by
 refine enter (args := [.int .i64 ((L : Nat) : Int)]) [] 29 Try.func48 rfl rfl rfl ?_
 refine CT.seq (CT.region ?_)
 refine Wl.g rfl rfl (OpG.alloc (zs := [.int .i64 0, .int .i64 0, .string ⟨#[]⟩, .slice none 0 0, .slice none 0 0, .slice none 0 0, .slice none 0 0]) zf19 rfl rfl) ?_
 rintro b2 _
 refine Wl.nil (PX.then_n (CT.seq (CT.region ?_)))
 refine Wl.q rfl rfl (OpQ.move rfl) ?_
 refine Wl.g rfl rfl (OpG.lit0 zf0 zf16 rfl) ?_
 rintro b6 _
 refine Wl.g rfl rfl (OpG.lit1 zf21 zf22 rfl rfl rfl) ?_
 rintro b7 _
 refine Wl.q rfl rfl (OpQ.move rfl) ?_
 refine Wl.g rfl rfl (OpG.make1 zf17 zf18 rfl rfl rfl rfl (by omega) (by omega)) ?_
 rintro b9 _
 refine Wl.g rfl rfl (OpG.lit1 zf23 zf24 rfl rfl rfl) ?_
 rintro b10 _
 refine Wl.g rfl rfl (OpG.lit1 zf25 zf26 rfl rfl rfl) ?_
 rintro b11 _
 refine Wl.g rfl rfl (OpG.lit1 zf17 zf18 rfl rfl rfl) ?_
 rintro b12 _
 refine Wl.q rfl rfl (OpQ.build (cells := #[.int .i64 ((L : Nat) : Int), .int .i64 0, .string ⟨#[]⟩, .slice (some ⟨b7, 0, none⟩) 1 1, .slice (some ⟨b10, 0, none⟩) 1 1, .slice (some ⟨b11, 0, none⟩) 1 1, .slice (some ⟨b12, 0, none⟩) 1 1]) zf27 rfl rfl) ?_
 refine Wl.g rfl rfl (OpG.alloc (zs := [.int .i64 0, .int .i64 0, .string ⟨#[]⟩, .slice none 0 0, .slice none 0 0, .slice none 0 0, .slice none 0 0]) zf19 rfl rfl) ?_
 rintro b3 _
 refine Wl.g rfl rfl (OpG.storeV (b := b3) zf28 rfl rfl rfl rfl (by repeat (first | exact Upd.here | apply Upd.there))) ?_
 rintro _ _
 refine Wl.nil (PX.then_n (CT.seq (CT.seq (CT.region ?_))))
 refine Wl.q rfl rfl (OpQ.assign rfl) ?_
 refine Wl.nil (PX.then_n (CT.block ?_))
 refine CT.loop (ι := Nat × Option Addr × Nat) (fun (x, a', c') => x ≤ L) (fun (x, a', c') => [(0, .int .i64 ((L : Nat) : Int)), (2, .pointer (some ⟨b2, 0, none⟩)), (3, .pointer (some ⟨b3, 0, none⟩)), (4, .int .i64 ((x : Nat) : Int))]) (fun (x, a', c') => [.row 30 7 (vb b3) 1 [.int .i64 ((L : Nat) : Int), .int .i64 0, .string ⟨#[]⟩, .slice (some ⟨b7, 0, none⟩) 1 1, .slice (some ⟨b10, 0, none⟩) 1 1, .slice (some ⟨b11, 0, none⟩) 1 1, .slice (some ⟨b12, 0, none⟩) 1 1], .row 9 1 (.slice (some ⟨b12, 0, none⟩) 1 1) 1 [sv []], .row 4 1 (.slice (some ⟨b11, 0, none⟩) 1 1) 1 [bo false], .row 28 1 (.slice (some ⟨b10, 0, none⟩) 1 1) 1 [.slice (some ⟨b9, 0, none⟩) L L], .row 9 1 (.slice (some ⟨b9, 0, none⟩) L L) L ((List.replicate L ([] : Wd)).map sv), .row 22 1 (.slice (some ⟨b7, 0, none⟩) 1 1) 1 [.slice a' x c'], .row 3 1 (.slice a' x c') x ((List.replicate x (none : Option Nat)).map zo), .row 30 7 (vb b2) 1 [.int .i64 0, .int .i64 0, .string ⟨#[]⟩, .slice none 0 0, .slice none 0 0, .slice none 0 0, .slice none 0 0]]) (fun (x, a', c') => L - x) (0, some ⟨b6, 0, none⟩, 0) (Nat.zero_le _) ⟨rfl, rfl, rfl, rfl, trivial⟩ (.keep rfl (.keep rfl (.keep rfl (.keep rfl (.keep (row_eq (by rw [List.map_replicate])) (.keep rfl (.keep rfl (HSub.refl _)))))))) (fun ⟨x, a', c'⟩ hx K0 hK0 => ?_)
 dsimp only
 refine CT.seq (CT.seq (CT.region ?_))
 refine Wl.q rfl rfl (OpQ.move rfl) ?_
 refine Wl.q rfl rfl (OpQ.move rfl) ?_
 refine Wl.q rfl rfl (OpQ.lss rfl rfl) ?_
 refine Wl.nil (PX.then_n ?_)
 refine CT.cond rfl (fun h16 => ?_) (fun h16 => ?_)
 ·
  have h16 := of_decide_eq_true h16
  refine CT.skip (PX.then_n (CT.seq (CT.block ?_)))
  refine CT.draw' (Hc := [.row 30 7 (vb b3) 1 [.int .i64 ((L : Nat) : Int), .int .i64 0, .string ⟨#[]⟩, .slice (some ⟨b7, 0, none⟩) 1 1, .slice (some ⟨b10, 0, none⟩) 1 1, .slice (some ⟨b11, 0, none⟩) 1 1, .slice (some ⟨b12, 0, none⟩) 1 1], .row 9 1 (.slice (some ⟨b12, 0, none⟩) 1 1) 1 [sv []], .row 4 1 (.slice (some ⟨b11, 0, none⟩) 1 1) 1 [bo false], .row 28 1 (.slice (some ⟨b10, 0, none⟩) 1 1) 1 [.slice (some ⟨b9, 0, none⟩) L L], .row 9 1 (.slice (some ⟨b9, 0, none⟩) L L) L ((List.replicate L ([] : Wd)).map sv), .row 22 1 (.slice (some ⟨b7, 0, none⟩) 1 1) 1 [.slice a' x c'], .row 30 7 (vb b2) 1 [.int .i64 0, .int .i64 0, .string ⟨#[]⟩, .slice none 0 0, .slice none 0 0, .slice none 0 0, .slice none 0 0]]) 9 zf6 ?_
  refine RA.q 0 (by kernel_rfl) rfl rfl rfl (.cons_cons _ (.cons_cons _ (.cons_cons _ (.cons_cons _ (.cons_cons _ (.cons_cons _ (.cons _ (.cons_cons _ (.refl _))))))))) (OpQ.fieldAddr zf30 rfl) ?_
  refine RA.q 1 (by kernel_rfl) rfl rfl rfl (.cons_cons _ (.cons_cons _ (.cons_cons _ (.cons_cons _ (.cons_cons _ (.cons_cons _ (.cons _ (.cons_cons _ (.refl _))))))))) (OpQ.loadF (b := b3) zf31 rfl (by repeat (first | exact Has.here | apply Has.there)) (by rfl)) ?_
  refine RA.q 2 (by kernel_rfl) rfl rfl rfl (.cons_cons _ (.cons_cons _ (.cons_cons _ (.cons_cons _ (.cons_cons _ (.cons_cons _ (.cons _ (.cons_cons _ (.refl _))))))))) (OpQ.fieldAddr zf30 rfl) ?_
  refine RA.q 3 (by kernel_rfl) rfl rfl rfl (.cons_cons _ (.cons_cons _ (.cons_cons _ (.cons_cons _ (.cons_cons _ (.cons_cons _ (.cons _ (.cons_cons _ (.refl _))))))))) (OpQ.loadF (b := b3) zf31 rfl (by repeat (first | exact Has.here | apply Has.there)) (by rfl)) ?_
  refine RA.q 4 (by kernel_rfl) rfl rfl rfl (.cons_cons _ (.cons_cons _ (.cons_cons _ (.cons_cons _ (.cons_cons _ (.cons_cons _ (.cons _ (.cons_cons _ (.refl _))))))))) (OpQ.index1 zf21 zf32 rfl rfl (by omega) rfl) ?_
  refine RA.q 5 (by kernel_rfl) rfl rfl rfl (.cons_cons _ (.cons_cons _ (.cons_cons _ (.cons_cons _ (.cons_cons _ (.cons_cons _ (.cons _ (.cons_cons _ (.refl _))))))))) (OpQ.loadRow zf10 rfl (.there (.there (.there (.there (.there .here))))) rfl) ?_
  refine RA.f 6 (by kernel_rfl) rfl rfl rfl (OpG.lit1 zf0 zf16 rfl rfl rfl) (fun _ _ => (.cons _ (.cons_cons _ (.cons_cons _ (.cons_cons _ (.cons_cons _ (.cons_cons _ (.cons_cons _ (.cons _ (.cons_cons _ (.refl _))))))))))) ?_
  rintro b25 _
  refine RA.f 7 (by kernel_rfl) rfl rfl rfl (OpG.append zf0 zf16 (by rfl) (by decide) rfl rfl (p := 7) rfl (fun w hH => hH.rd .here) ⟨rfl, (by simp [Value.oneCell']), (by omega), (by omega)⟩ (nm := (x + 1)) rfl (all := (List.replicate (x + 1) (none : Option Nat)).map zo) (by rw [List.replicate_succ', List.map_append]; rfl)) (fun _ _ => (.cons _ (.cons_cons _ (.cons_cons _ (.cons_cons _ (.cons_cons _ (.cons_cons _ (.cons_cons _ (.cons _ (.cons_cons _ (.refl _))))))))))) ?_
  rintro ⟨a26, c26⟩ h26
  refine RA.q 8 (by kernel_rfl) rfl rfl rfl (.cons _ (.cons_cons _ (.cons_cons _ (.cons_cons _ (.cons_cons _ (.cons_cons _ (.cons_cons _ (.cons _ (.cons_cons _ (.refl _)))))))))) (OpQ.index1 zf21 zf32 rfl rfl (by omega) rfl) ?_
  refine RA.tail ?_
  refine RT.f 9 (by kernel_rfl) rfl rfl rfl (OpG.storeRow zf32 rfl rfl rfl (.there (.there (.there (.there (.there (.there .here)))))) (Nat.zero_lt_one)) ?_
  rintro _ _
  refine RT.done (by kernel_rfl) ?_
  refine PX.block_n (PX.then_n (CT.region ?_))
  refine Wl.q rfl rfl (OpQ.move rfl) ?_
  refine Wl.q rfl rfl (OpQ.add rfl rfl (by omega)) ?_
  refine Wl.q rfl rfl (OpQ.assign rfl) ?_
  refine Wl.nil ?_
  exact PX.loop hK0 (x + 1, a26, c26) (show x + 1 ≤ L by omega) (show L - (x + 1) < L - x by omega) ⟨rfl, rfl, rfl, rfl, trivial⟩ (.drop (HSub.refl _))
 ·
  have h16 := of_decide_eq_false h16
  obtain rfl : L = x := by omega
  refine CT.exit (PX.then_x (PX.then_x (PX.block_x (PX.then_n (CT.seq (CT.region ?_))))))
  refine Wl.q rfl rfl (OpQ.loadV (b := b3) zf29 zf28 rfl (by repeat (first | exact Has.here | apply Has.there)) (by rfl)) ?_
  refine Wl.g rfl rfl (OpG.storeV (b := b2) zf28 rfl rfl rfl rfl (by repeat (first | exact Upd.here | apply Upd.there))) ?_
  rintro _ _
  refine Wl.nil (PX.then_n (CT.ret ?_))
  refine PX.retC rfl rfl (by repeat (first | exact Has.here | apply Has.there)) zf29 zf28 (by rfl) (fun w' hH => ?_)
  have hl1 : (List.replicate L (none : Option Nat)).length = L := List.length_replicate
  have hl2 : (List.replicate L ([] : Wd)).length = L := List.length_replicate
  exact ⟨⟨L, 0, [], (some ⟨b7, 0, none⟩), 1, [⟨a', c', List.replicate L none⟩], (some ⟨b10, 0, none⟩), 1, [⟨(some ⟨b9, 0, none⟩), L, List.replicate L []⟩], (some ⟨b11, 0, none⟩), 1, [false], (some ⟨b12, 0, none⟩), 1, [[]]⟩, rfl, rfl, (hH.take (.cons (.there (.there (.there (.there (.there .here))))) (.cons (.there (.there (.there .here))) (.cons (.there (.there .here)) (.cons (.there .here) (.cons (.there (.there .here)) (.cons (.there .here) .nil))))))).post.conv (.keep (row_eq (by show [Value.slice _ (List.replicate L (none : Option Nat)).length _] = _; rw [hl1])) (.keep (row_eq (by show [Value.slice _ (List.replicate L ([] : Wd)).length L] = _; rw [hl2])) (.keep rfl (.keep rfl (.keep (by show Chunk.row _ _ (.slice _ (List.replicate L (none : Option Nat)).length _) (List.replicate L (none : Option Nat)).length _ = _; rw [hl1]) (.keep (by show Chunk.row _ _ (.slice _ (List.replicate L ([] : Wd)).length _) (List.replicate L ([] : Wd)).length _ = _; rw [hl2]) .nil))))))⟩

set_option maxRecDepth 100000 in
set_option maxHeartbeats 1000000 in
/-- semigroup/semigroupref42.useful -/
theorem useful_spec (w : World) {M : Nat} (S : Sv) (hS : Stays [] w (svm S)) (hv : S.sq.Ok M) : Calls Try.prog 79 #[svv S] w (fun e w' => ∃ i : List Bool × Nat, (i.1.length = S.rs.length ∧ ∀ p, Rch S.sq p → i.1.getD p false = S.sq.tr.co S.L p) ∧ e = .returned (.slice (some ⟨i.2, 0, none⟩) S.rs.length S.rs.length) ∧ Post [] [.row 4 1 (.slice (some ⟨i.2, 0, none⟩) S.rs.length S.rs.length) S.rs.length (i.1.map bo)] w w') := by
 obtain ⟨hb1, hb2, hb3, hb4⟩ := hv.bnd
 obtain ⟨hlo, hle, hlf⟩ := hv.lens
 have hns : 0 < S.rs.length → S.na.isSome = true := fun h => hS.now.n.isSome (j := 0) (by rw [List.length_map]; exact h)
 have hos : 0 < S.os.length → S.oa.isSome = true := fun h => hS.now.o.isSome (j := 0) (by rw [List.length_map]; exact h)
 have hes : 0 < S.en.length → S.ea.isSome = true := fun h => hS.now.e.isSome (j := 0) (by rw [List.length_map]; exact h)
 have hfs : 0 < S.fi.length → S.fa.isSome = true := fun h => hS.now.f.isSome (j := 0) (by rw [List.length_map]; exact h)
 have hrs : ∀ q, q < S.rs.length → 0 < (S.rs.getD q rx0).xs.length → (S.rs.getD q rx0).a.isSome = true := fun q hq h => (hS.now.r _ (getDm hq)).isSome (j := 0) (by rw [List.length_map]; exact h)
 have hus : ∀ q, q < S.os.length → 0 < (S.os.getD q rx0).xs.length → (S.os.getD q rx0).a.isSome = true := fun q hq h => (hS.now.u _ (getDm hq)).isSome (j := 0) (by rw [List.length_map]; exact h)
 have hnn := S.n_eq
 refine enter (args := [svv S]) [] 124 Try.func79 rfl rfl rfl ?_
 refine CT.seq (CT.region ?_)
 refine Wl.g rfl rfl (OpG.box (size := 7) rfl rfl rfl) ?_
 rintro b1 _
 refine Wl.q rfl rfl (OpQ.assign rfl) ?_
 refine Wl.nil (PX.then_n (CT.seq (CT.region ?_)))
 refine Wl.q rfl rfl (OpQ.fieldAddr zf30 rfl) ?_
 refine Wl.q rfl rfl (OpQ.loadF (b := b1) zf31 rfl (by repeat (first | exact Has.here | apply Has.there)) (by rfl)) ?_
 refine Wl.q rfl rfl (OpQ.len zf21 rfl) ?_
 refine Wl.q rfl rfl (OpQ.assign rfl) ?_
 refine Wl.nil (PX.then_n (CT.seq (CT.region ?_)))
 refine Wl.g rfl rfl (OpG.lit0 zf25 zf26 rfl) ?_
 rintro b18 _
 refine Wl.q rfl rfl (OpQ.fieldAddr zf42 rfl) ?_
 refine Wl.q rfl rfl (OpQ.loadF (b := b1) zf43 rfl (by repeat (first | exact Has.here | apply Has.there)) (by rfl)) ?_
 refine Wl.g rfl rfl (OpG.append zf25 zf26 (by rfl) (by decide) rfl rfl (p := 0) rfl (fun w hH => (hH.use hS).e) ⟨(by rw [List.length_map, Nat.mul_one]), (ones_map (fun _ => rfl) _), (by omega), (by omega)⟩ (nm := S.rs.length) (by omega) (all := S.en.map bo) (by simp)) ?_
 rintro ⟨ba, bc⟩ hba
 refine Wl.q rfl rfl (OpQ.assign rfl) ?_
 refine Wl.nil (PX.then_n (CT.seq (CT.seq (CT.region ?_))))
 refine Wl.q rfl rfl (OpQ.assign rfl) ?_
 refine Wl.nil (PX.then_n (CT.block ?_))
 refine CT.loop (ι := List Bool × Bool) (fun (B, ch) => ∃ c0, UsI S.sq c0 B ch S.sq.n 0) (fun (B, ch) => [(1, .pointer (some ⟨b1, 0, none⟩)), (3, .int .i64 ((S.rs.length : Nat) : Int)), (4, .slice ba S.rs.length bc), (5, .bool ch)]) (fun (B, ch) => [.row 4 1 (.slice ba S.rs.length bc) S.rs.length (B.map bo), .row 30 7 (vb b1) 1 (svc S)]) (fun (B, ch) => 2 * (S.rs.length - cnt B) + (if ch then 1 else 0)) (S.en, true) ⟨0, UsI.start hv.len.2.1⟩ ⟨rfl, rfl, rfl, rfl, trivial⟩ (HSub.refl _) (fun ⟨B, ch⟩ ⟨c0, hU⟩ K0 hK0 => ?_)
 dsimp only
 have hBl : B.length = S.rs.length := by rw [hU.len, hnn]
 have hba1 : 0 < S.rs.length → ba.isSome = true := fun h => hba (by omega)
 refine CT.seq (CT.seq (CT.region ?_))
 refine Wl.q rfl rfl (OpQ.move rfl) ?_
 refine Wl.nil (PX.then_n ?_)
 refine CT.cond rfl (fun h22 => ?_) (fun h22 => ?_)
 ·
  refine CT.skip (PX.then_n (CT.block (CT.seq (CT.region ?_))))
  refine Wl.q rfl rfl (OpQ.assign rfl) ?_
  refine Wl.nil (PX.then_n (CT.seq (CT.region ?_)))
  refine Wl.q rfl rfl (OpQ.fieldAddr zf30 rfl) ?_
  refine Wl.q rfl rfl (OpQ.loadF (b := b1) zf31 rfl (by repeat (first | exact Has.here | apply Has.there)) (by rfl)) ?_
  refine Wl.q rfl rfl (OpQ.len zf21 rfl) ?_
  refine Wl.q rfl rfl (OpQ.move rfl) ?_
  refine Wl.nil (PX.then_n (CT.block ?_))
  refine CT.loop (ι := Nat × List Bool × Bool) (fun (q, B', ch') => q ≤ S.rs.length ∧ UsI S.sq (cnt B + 1) B' ch' q 0) (fun (q, B', ch') => [(1, .pointer (some ⟨b1, 0, none⟩)), (3, .int .i64 ((S.rs.length : Nat) : Int)), (4, .slice ba S.rs.length bc), (5, .bool ch'), (24, .slice S.na S.rs.length S.nc), (25, .int .i64 ((S.rs.length : Nat) : Int)), (26, .int .i64 ((q : Nat) : Int))]) (fun (q, B', ch') => [.row 4 1 (.slice ba S.rs.length bc) S.rs.length (B'.map bo), .row 30 7 (vb b1) 1 (svc S)]) (fun (q, B', ch') => S.rs.length - q) (0, B, false) ⟨Nat.zero_le _, hU.pass⟩ ⟨rfl, rfl, rfl, rfl, rfl, rfl, rfl, trivial⟩ (HSub.refl _) (fun ⟨q, B', ch'⟩ ⟨hq, hU'⟩ K1 hK1 => ?_)
  dsimp only
  refine CT.seq (CT.region ?_)
  refine Wl.q rfl rfl (OpQ.lss rfl rfl) ?_
  refine Wl.nil (PX.then_n (CT.seq ?_))
  refine CT.cond rfl (fun h27 => ?_) (fun h27 => ?_)
  ·
   have h27 := of_decide_eq_true h27
   have hrl := hv.rlen (q := q) (by omega)
   have hol := hv.olen (q := q) (by omega)
   have hqn : q < S.sq.n := by rw [S.n_eq]; omega
   refine CT.skip (PX.then_n (CT.seq (CT.block (CT.seq (CT.region ?_)))))
   refine Wl.q rfl rfl (OpQ.move rfl) ?_
   refine Wl.q rfl rfl (OpQ.assign rfl) ?_
   refine Wl.nil (PX.then_n (CT.seq (CT.region ?_)))
   refine Wl.q rfl rfl (OpQ.fieldAddr zf30 rfl) ?_
   refine Wl.q rfl rfl (OpQ.loadF (b := b1) zf31 rfl (by repeat (first | exact Has.here | apply Has.there)) (by rfl)) ?_
   refine Wl.q rfl rfl (OpQ.move rfl) ?_
   refine Wl.q rfl rfl (OpQ.index1 zf21 zf32 rfl rfl (by omega) (hns (by omega))) ?_
   refine Wl.q rfl rfl (OpQ.loadG zf10 rfl (fun w hH => (hH.use hS).n) (getMap rxv S.rs rx0 (j := q) (by omega))) ?_
   refine Wl.q rfl rfl (OpQ.len zf0 rfl) ?_
   refine Wl.know 34 (v' := .int .i64 ((S.L : Nat) : Int)) rfl (congrArg (Value.int .i64) (by rw [hrl])) ?_
   refine Wl.q rfl rfl (OpQ.move rfl) ?_
   refine Wl.nil (PX.then_n (CT.block ?_))
   refine CT.loop (ι := Nat × List Bool × Bool) (fun (x, B2, ch2) => x ≤ S.L ∧ UsI S.sq (cnt B + 1) B2 ch2 q x) (fun (x, B2, ch2) => [(1, .pointer (some ⟨b1, 0, none⟩)), (3, .int .i64 ((S.rs.length : Nat) : Int)), (4, .slice ba S.rs.length bc), (5, .bool ch2), (24, .slice S.na S.rs.length S.nc), (25, .int .i64 ((S.rs.length : Nat) : Int)), (26, .int .i64 ((q : Nat) : Int)), (6, .int .i64 ((q : Nat) : Int)), (33, rxv (S.rs.getD q rx0)), (34, .int .i64 ((S.L : Nat) : Int)), (35, .int .i64 ((x : Nat) : Int))]) (fun (x, B2, ch2) => [.row 4 1 (.slice ba S.rs.length bc) S.rs.length (B2.map bo), .row 30 7 (vb b1) 1 (svc S)]) (fun (x, B2, ch2) => S.L - x) (0, B', ch') ⟨Nat.zero_le _, hU'⟩ ⟨rfl, rfl, rfl, rfl, rfl, rfl, rfl, rfl, rfl, rfl, rfl, trivial⟩ (HSub.refl _) (fun ⟨x, B2, ch2⟩ ⟨hx, hU2⟩ K2 hK2 => ?_)
   dsimp only
   have hB2 : B2.length = S.rs.length := by rw [hU2.len, hnn]
   refine CT.seq (CT.region ?_)
   refine Wl.q rfl rfl (OpQ.lss rfl rfl) ?_
   refine Wl.nil (PX.then_n (CT.seq ?_))
   refine CT.cond rfl (fun h36 => ?_) (fun h36 => ?_)
   ·
    have h36 := of_decide_eq_true h36
    refine CT.skip (PX.then_n (CT.seq (CT.block (CT.seq (CT.region ?_)))))
    refine Wl.q rfl rfl (OpQ.index1 zf0 zf1 rfl rfl (by omega) (hrs q (by omega) (by omega))) ?_
    refine Wl.q rfl rfl (OpQ.loadG zf8 rfl (fun w hH => (hH.use hS).r _ (getDm (show q < S.rs.length by omega))) (getMap zo (S.rs.getD q rx0).xs none (j := x) (by omega))) ?_
    refine Wl.know 38 (v' := zo (S.sq.to q x)) rfl (congrArg zo (S.to_eq q x).symm) ?_
    refine Wl.q rfl rfl (OpQ.assign rfl) ?_
    refine Wl.nil (PX.then_n (CT.seq (CT.region ?_)))
    refine Wl.q rfl rfl (OpQ.move rfl) ?_
    refine Wl.q rfl rfl (OpQ.geq rfl rfl) ?_
    refine Wl.q rfl rfl (OpQ.move rfl) ?_
    refine Wl.split 41 rfl (fun hg41 => ?_) (fun hg41 => ?_)
    ·
     obtain ⟨r, hto⟩ : ∃ r, S.sq.to q x = some r := oi_some (by have := of_decide_eq_true hg41; omega)
     have hr := hv.lt q x r (by rw [S.n_eq]; omega) (show x < S.sq.L by show x < S.L; omega) hto
     have hrn : r < S.rs.length := by rw [← S.n_eq]; exact hr
     refine Wl.know 8 (v' := zn r) rfl (by rw [hto]; rfl) ?_
     refine Wl.q rfl rfl (OpQ.move rfl) ?_
     refine Wl.q rfl rfl (OpQ.move rfl) ?_
     refine Wl.q rfl rfl (OpQ.index1 zf25 zf44 rfl rfl (by omega) (hba1 (by omega))) ?_
     refine Wl.q rfl rfl (OpQ.loadRow zf45 rfl .here (getMap bo B2 false (j := r) (by omega))) ?_
     refine Wl.know 45 (v' := .bool (B2.getD r false)) rfl rfl ?_
     refine Wl.q rfl rfl (OpQ.pickT rfl rfl) ?_
     refine Wl.q rfl rfl (OpQ.move rfl) ?_
     refine Wl.split 47 rfl (fun hg47 => ?_) (fun hg47 => ?_)
     ·
      have hbr : B2.getD r false = true := hg47
      refine Wl.q rfl rfl (OpQ.move rfl) ?_
      refine Wl.q rfl rfl (OpQ.move rfl) ?_
      refine Wl.q rfl rfl (OpQ.index1 zf25 zf44 rfl rfl (by omega) (hba1 (by omega))) ?_
      refine Wl.q rfl rfl (OpQ.loadRow zf45 rfl .here (getMap bo B2 false (j := q) (by omega))) ?_
      refine Wl.know 51 (v' := .bool (B2.getD q false)) rfl rfl ?_
      refine Wl.q rfl rfl (OpQ.not rfl) ?_
      refine Wl.q rfl rfl (OpQ.pickT rfl rfl) ?_
      refine Wl.nil (PX.then_n ?_)
      refine CT.cond rfl (fun h53 => ?_) (fun h53 => ?_)
      ·
       have hbq : B2.getD q false = false := by simpa using h53
       refine CT.region ?_
       refine Wl.q rfl rfl (OpQ.move rfl) ?_
       refine Wl.q rfl rfl (OpQ.move rfl) ?_
       refine Wl.q rfl rfl (OpQ.index1 zf25 zf44 rfl rfl (by omega) (hba1 (by omega))) ?_
       refine Wl.g rfl rfl (OpG.storeRow zf44 rfl rfl rfl .here (by rw [List.length_map]; omega)) ?_
       rintro _ _
       refine Wl.q rfl rfl (OpQ.assign rfl) ?_
       refine Wl.nil (PX.block_n (PX.then_n (CT.region ?_)))
       refine Wl.q rfl rfl (OpQ.add rfl rfl (by omega)) ?_
       refine Wl.q rfl rfl (OpQ.move rfl) ?_
       refine Wl.nil ?_
       exact PX.loop hK2 (x + 1, B2.set q true, true) ⟨by omega, hU2.put hqn (show x < S.sq.L by show x < S.L; omega) hto hbr hbq⟩ (show S.L - (x + 1) < S.L - x by omega) ⟨rfl, rfl, rfl, rfl, rfl, rfl, rfl, rfl, rfl, rfl, rfl, trivial⟩ (.keep (row_eq (by rw [List.map_set]; rfl)) (HSub.refl _))
      ·
       have hkeep : ∀ r, S.sq.to q x = some r → B2.getD r false = true → B2.getD q false = true := fun _ _ _ => by simpa using h53
       refine CT.skip (PX.block_n (PX.then_n (CT.region ?_)))
       refine Wl.q rfl rfl (OpQ.add rfl rfl (by omega)) ?_
       refine Wl.q rfl rfl (OpQ.move rfl) ?_
       refine Wl.nil ?_
       exact PX.loop hK2 (x + 1, B2, ch2) ⟨by omega, hU2.keep hkeep⟩ (show S.L - (x + 1) < S.L - x by omega) ⟨rfl, rfl, rfl, rfl, rfl, rfl, rfl, rfl, rfl, rfl, rfl, trivial⟩ (HSub.refl _)
     ·
      have hkeep : ∀ r, S.sq.to q x = some r → B2.getD r false = true → B2.getD q false = true := fun r2 hr2 hb => by rw [hto] at hr2; cases hr2; rw [show B2.getD r false = false from hg47] at hb; cases hb
      refine Wl.skip rfl rfl ?_
      refine Wl.skip rfl rfl ?_
      refine Wl.skip rfl rfl ?_
      refine Wl.skip rfl rfl ?_
      refine Wl.skip rfl rfl ?_
      refine Wl.q rfl rfl (OpQ.pickF rfl rfl) ?_
      refine Wl.nil (PX.then_n ?_)
      refine CT.condF rfl ?_
      refine CT.skip (PX.block_n (PX.then_n (CT.region ?_)))
      refine Wl.q rfl rfl (OpQ.add rfl rfl (by omega)) ?_
      refine Wl.q rfl rfl (OpQ.move rfl) ?_
      refine Wl.nil ?_
      exact PX.loop hK2 (x + 1, B2, ch2) ⟨by omega, hU2.keep hkeep⟩ (show S.L - (x + 1) < S.L - x by omega) ⟨rfl, rfl, rfl, rfl, rfl, rfl, rfl, rfl, rfl, rfl, rfl, trivial⟩ (HSub.refl _)
    ·
     have hno : S.sq.to q x = none := oi_neg.1 (by have := of_decide_eq_false hg41; have := oi_ge (S.sq.to q x); omega)
     have hkeep : ∀ r, S.sq.to q x = some r → B2.getD r false = true → B2.getD q false = true := fun r hr => by rw [hno] at hr; cases hr
     refine Wl.skip rfl rfl ?_
     refine Wl.skip rfl rfl ?_
     refine Wl.skip rfl rfl ?_
     refine Wl.skip rfl rfl ?_
     refine Wl.q rfl rfl (OpQ.pickF rfl rfl) ?_
     refine Wl.q rfl rfl (OpQ.move rfl) ?_
     refine Wl.skip rfl rfl ?_
     refine Wl.skip rfl rfl ?_
     refine Wl.skip rfl rfl ?_
     refine Wl.skip rfl rfl ?_
     refine Wl.skip rfl rfl ?_
     refine Wl.q rfl rfl (OpQ.pickF rfl rfl) ?_
     refine Wl.nil (PX.then_n ?_)
     refine CT.condF rfl ?_
     refine CT.skip (PX.block_n (PX.then_n (CT.region ?_)))
     refine Wl.q rfl rfl (OpQ.add rfl rfl (by omega)) ?_
     refine Wl.q rfl rfl (OpQ.move rfl) ?_
     refine Wl.nil ?_
     exact PX.loop hK2 (x + 1, B2, ch2) ⟨by omega, hU2.keep hkeep⟩ (show S.L - (x + 1) < S.L - x by omega) ⟨rfl, rfl, rfl, rfl, rfl, rfl, rfl, rfl, rfl, rfl, rfl, trivial⟩ (HSub.refl _)
   ·
    have h36 := of_decide_eq_false h36
    refine CT.exit (PX.then_x (PX.then_x (PX.block_x (PX.block_n (PX.then_n (CT.region ?_))))))
    refine Wl.q rfl rfl (OpQ.add rfl rfl (by omega)) ?_
    refine Wl.q rfl rfl (OpQ.move rfl) ?_
    refine Wl.nil ?_
    exact PX.loop hK1 (q + 1, B2, ch2) ⟨by omega, by have := hU2; rw [show x = S.sq.L from (show x = S.L by omega)] at this; exact this.next⟩ (show S.rs.length - (q + 1) < S.rs.length - q by omega) ⟨rfl, rfl, rfl, rfl, rfl, rfl, rfl, trivial⟩ (HSub.refl _)
  ·
   have h27 := of_decide_eq_false h27
   obtain rfl : q = S.rs.length := by omega
   rw [← hnn] at hU'
   refine CT.exit (PX.then_x (PX.then_x (PX.block_x (PX.block_n ?_))))
   exact PX.loop hK0 (B', ch') ⟨cnt B + 1, hU'⟩ (by have h1 := hU'.up; have h2 := cnt_le B'; have h3 := cnt_le B; rw [hU'.len, hnn] at h2; rw [hBl] at h3; subst h22; dsimp only; cases ch' <;> simp at h1 ⊢ <;> omega) ⟨rfl, rfl, rfl, rfl, trivial⟩ (HSub.refl _)
 ·
  subst h22
  have hBco : ∀ p, p < S.sq.n → B.getD p false = S.sq.tr.co S.L p := fun p hp => hU.done hv.fit hp
  refine CT.exit (PX.then_x (PX.then_x (PX.block_x (PX.then_n (CT.seq (CT.region ?_))))))
  refine Wl.q rfl rfl (OpQ.move rfl) ?_
  refine Wl.g rfl rfl (OpG.make1 zf25 zf26 rfl rfl rfl rfl (by omega) (by omega)) ?_
  rintro b60 _
  refine Wl.q rfl rfl (OpQ.assign rfl) ?_
  refine Wl.nil (PX.then_n (CT.seq (CT.region ?_)))
  refine Wl.q rfl rfl (OpQ.move rfl) ?_
  refine Wl.q rfl rfl (OpQ.fieldAddr zf46 rfl) ?_
  refine Wl.q rfl rfl (OpQ.loadF (b := b1) zf8 rfl (by repeat (first | exact Has.here | apply Has.there)) (by rfl)) ?_
  refine Wl.q rfl rfl (OpQ.index1 zf25 zf44 rfl rfl (by omega) rfl) ?_
  refine Wl.g rfl rfl (OpG.storeRow zf44 rfl rfl rfl .here (by rw [List.length_replicate]; omega)) ?_
  rintro _ _
  refine Wl.nil (PX.then_n (CT.seq (CT.region ?_)))
  refine Wl.q rfl rfl (OpQ.fieldAddr zf46 rfl) ?_
  refine Wl.q rfl rfl (OpQ.loadF (b := b1) zf8 rfl (by repeat (first | exact Has.here | apply Has.there)) (by rfl)) ?_
  refine Wl.g rfl rfl (OpG.lit1 zf0 zf16 rfl rfl rfl) ?_
  rintro b67 _
  refine Wl.q rfl rfl (OpQ.assign rfl) ?_
  refine Wl.nil (PX.then_n (CT.seq (CT.seq (CT.region ?_))))
  refine Wl.q rfl rfl (OpQ.assign rfl) ?_
  refine Wl.nil (PX.then_n (CT.block ?_))
  refine CT.loop (ι := Nat × List Bool × List Nat × Option Addr × Nat) (fun (i, M, l, a', c') => UrI S.sq M l i 0) (fun (i, M, l, a', c') => [(1, .pointer (some ⟨b1, 0, none⟩)), (4, .slice ba S.rs.length bc), (9, .slice (some ⟨b60, 0, none⟩) S.rs.length S.rs.length), (10, .slice a' l.length c'), (11, .int .i64 ((i : Nat) : Int))]) (fun (i, M, l, a', c') => [.row 3 1 (.slice a' l.length c') l.length (l.map zn), .row 4 1 (.slice (some ⟨b60, 0, none⟩) S.rs.length S.rs.length) S.rs.length ((M).map bo), .row 4 1 (.slice ba S.rs.length bc) S.rs.length (B.map bo), .row 30 7 (vb b1) 1 (svc S)]) (fun (i, M, l, a', c') => S.rs.length - i) (0, (List.replicate S.sq.n false).set S.sq.s true, [S.sq.s], some ⟨b67, 0, none⟩, 1) (UrI.start hv.st) ⟨rfl, rfl, rfl, rfl, rfl, trivial⟩ (.keep rfl (.keep (row_eq (by rw [List.map_set, List.map_replicate, hnn]; rfl)) (HSub.refl _))) (fun ⟨i, M, l, a', c'⟩ hr K3 hK3 => ?_)
  dsimp only
  refine CT.fact (p := 0 < l.length → a'.isSome = true) (fun w hH h => (hH.rd .here).isSome (j := 0) (by rw [List.length_map]; exact h)) (fun hqa => ?_)
  have hll : l.length ≤ S.rs.length := by have := hr.le; rwa [hnn] at this
  have hMl : M.length = S.rs.length := by rw [hr.len, hnn]
  refine CT.seq (CT.seq (CT.region ?_))
  refine Wl.q rfl rfl (OpQ.move rfl) ?_
  refine Wl.q rfl rfl (OpQ.move rfl) ?_
  refine Wl.q rfl rfl (OpQ.len zf0 rfl) ?_
  refine Wl.q rfl rfl (OpQ.lss rfl rfl) ?_
  refine Wl.nil (PX.then_n ?_)
  refine CT.cond rfl (fun h71 => ?_) (fun h71 => ?_)
  ·
   have h71 := of_decide_eq_true h71
   have hi : i < l.length := by omega
   have hqin : (l.getD i 0) < S.sq.n := hr.lt _ (getDm hi)
   have hqi : (l.getD i 0) < S.rs.length := by rw [← hnn]; exact hqin
   have hrl := hv.rlen (q := (l.getD i 0)) hqi
   refine CT.skip (PX.then_n (CT.seq (CT.block (CT.seq ?_))))
   refine CT.draw 10 zf6 ?_
   refine RA.q 0 (by kernel_rfl) rfl rfl rfl (.refl _) (OpQ.fieldAddr zf30 rfl) ?_
   refine RA.q 1 (by kernel_rfl) rfl rfl rfl (.refl _) (OpQ.loadF (b := b1) zf31 rfl (by repeat (first | exact Has.here | apply Has.there)) (by rfl)) ?_
   refine RA.q 2 (by kernel_rfl) rfl rfl rfl (.refl _) (OpQ.move rfl) ?_
   refine RA.q 3 (by kernel_rfl) rfl rfl rfl (.refl _) (OpQ.move rfl) ?_
   refine RA.q 4 (by kernel_rfl) rfl rfl rfl (.refl _) (OpQ.index1 zf0 zf1 rfl rfl (by omega) (hqa (by omega))) ?_
   refine RA.q 5 (by kernel_rfl) rfl rfl rfl (.refl _) (OpQ.loadRow zf8 rfl .here (getMap zn l 0 (j := i) hi)) ?_
   refine RA.q 6 (by kernel_rfl) rfl rfl rfl (.refl _) (OpQ.index1 zf21 zf32 rfl rfl (by omega) (hns (by omega))) ?_
   refine RA.q 7 (by kernel_rfl) rfl rfl rfl (.refl _) (OpQ.loadG zf10 rfl (fun w hH => (hH.use hS).n) (getMap rxv S.rs rx0 (j := (l.getD i 0)) (by omega))) ?_
   refine RA.q 8 (by kernel_rfl) rfl rfl rfl (.refl _) (OpQ.len zf0 rfl) ?_
   refine RA.know 82 (v' := .int .i64 ((S.L : Nat) : Int)) rfl (congrArg (Value.int .i64) (by rw [hrl])) ?_
   refine RA.q 9 (by kernel_rfl) rfl rfl rfl (.refl _) (OpQ.move rfl) ?_
   refine RA.tail ?_
   refine RT.done (by kernel_rfl) ?_
   refine PX.then_n (CT.block ?_)
   refine CT.loop (ι := Nat × List Bool × List Nat × Option Addr × Nat) (fun (x, M2, l2, a2, c2) => x ≤ S.L ∧ UrI S.sq M2 l2 i x ∧ i < l2.length ∧ l2.getD i 0 = (l.getD i 0)) (fun (x, M2, l2, a2, c2) => [(1, .pointer (some ⟨b1, 0, none⟩)), (4, .slice ba S.rs.length bc), (9, .slice (some ⟨b60, 0, none⟩) S.rs.length S.rs.length), (10, .slice a2 l2.length c2), (11, .int .i64 ((i : Nat) : Int)), (81, rxv (S.rs.getD (l.getD i 0) rx0)), (82, .int .i64 ((S.L : Nat) : Int)), (83, .int .i64 ((x : Nat) : Int))]) (fun (x, M2, l2, a2, c2) => [.row 3 1 (.slice a2 l2.length c2) l2.length (l2.map zn), .row 4 1 (.slice (some ⟨b60, 0, none⟩) S.rs.length S.rs.length) S.rs.length ((M2).map bo), .row 4 1 (.slice ba S.rs.length bc) S.rs.length (B.map bo), .row 30 7 (vb b1) 1 (svc S)]) (fun (x, M2, l2, a2, c2) => S.L - x) (0, M, l, a', c') ⟨Nat.zero_le _, hr, hi, rfl⟩ ⟨rfl, rfl, rfl, rfl, rfl, rfl, rfl, rfl, trivial⟩ (HSub.refl _) (fun ⟨x, M2, l2, a2, c2⟩ ⟨hx, hr2, hi2, hgq⟩ K4 hK4 => ?_)
   dsimp only
   have hll2 : l2.length ≤ S.rs.length := by have := hr2.le; rwa [hnn] at this
   have hMl2 : M2.length = S.rs.length := by rw [hr2.len, hnn]
   refine CT.seq (CT.region ?_)
   refine Wl.q rfl rfl (OpQ.lss rfl rfl) ?_
   refine Wl.nil (PX.then_n (CT.seq ?_))
   refine CT.cond rfl (fun h84 => ?_) (fun h84 => ?_)
   ·
    have h84 := of_decide_eq_true h84
    refine CT.skip (PX.then_n (CT.seq (CT.block (CT.seq (CT.region ?_)))))
    refine Wl.q rfl rfl (OpQ.index1 zf0 zf1 rfl rfl (by omega) (hrs (l.getD i 0) (by omega) (by omega))) ?_
    refine Wl.q rfl rfl (OpQ.loadG zf8 rfl (fun w hH => (hH.use hS).r _ (getDm (show (l.getD i 0) < S.rs.length by omega))) (getMap zo (S.rs.getD (l.getD i 0) rx0).xs none (j := x) (by omega))) ?_
    refine Wl.know 86 (v' := zo (S.sq.to (l.getD i 0) x)) rfl (congrArg zo (S.to_eq (l.getD i 0) x).symm) ?_
    refine Wl.q rfl rfl (OpQ.assign rfl) ?_
    refine Wl.nil (PX.then_n (CT.seq (CT.region ?_)))
    refine Wl.q rfl rfl (OpQ.move rfl) ?_
    refine Wl.q rfl rfl (OpQ.geq rfl rfl) ?_
    refine Wl.q rfl rfl (OpQ.move rfl) ?_
    refine Wl.split 89 rfl (fun hg89 => ?_) (fun hg89 => ?_)
    ·
     obtain ⟨r, hto⟩ : ∃ r, S.sq.to (l.getD i 0) x = some r := oi_some (by have := of_decide_eq_true hg89; omega)
     have hr_ := hv.lt (l.getD i 0) x r (by rw [S.n_eq]; omega) (show x < S.sq.L by show x < S.L; omega) hto
     have hrn : r < S.rs.length := by rw [← S.n_eq]; exact hr_
     refine Wl.know 13 (v' := zn r) rfl (by rw [hto]; rfl) ?_
     refine Wl.q rfl rfl (OpQ.move rfl) ?_
     refine Wl.q rfl rfl (OpQ.move rfl) ?_
     refine Wl.q rfl rfl (OpQ.index1 zf25 zf44 rfl rfl (by omega) rfl) ?_
     refine Wl.q rfl rfl (OpQ.loadRow zf45 rfl (.there .here) (getMap bo M2 false (j := r) (by omega))) ?_
     refine Wl.know 93 (v' := .bool (M2.getD r false)) rfl rfl ?_
     refine Wl.q rfl rfl (OpQ.not rfl) ?_
     refine Wl.q rfl rfl (OpQ.pickT rfl rfl) ?_
     refine Wl.nil (PX.then_n ?_)
     refine CT.cond rfl (fun h95 => ?_) (fun h95 => ?_)
     ·
      have hnl : r ∉ l2 := fun h => by have := (hr2.mem r).2 h; rw [this] at h95; cases h95
      refine CT.seq (CT.region ?_)
      refine Wl.q rfl rfl (OpQ.move rfl) ?_
      refine Wl.q rfl rfl (OpQ.move rfl) ?_
      refine Wl.q rfl rfl (OpQ.index1 zf25 zf44 rfl rfl (by omega) rfl) ?_
      refine Wl.g rfl rfl (OpG.storeRow zf44 rfl rfl rfl (.there .here) (by rw [List.length_map]; omega)) ?_
      rintro _ _
      refine Wl.nil (PX.then_n (CT.region ?_))
      refine Wl.q rfl rfl (OpQ.move rfl) ?_
      refine Wl.q rfl rfl (OpQ.move rfl) ?_
      refine Wl.g rfl rfl (OpG.lit1 zf0 zf16 rfl rfl rfl) ?_
      rintro b101 _
      refine Wl.g rfl rfl (OpG.append zf0 zf16 (by rfl) (by decide) rfl rfl (p := 1) rfl (fun w hH => hH.rd .here) ⟨rfl, (by simp [Value.oneCell']), (by omega), (by omega)⟩ (nm := (l2.length + 1)) rfl (all := (l2 ++ [r]).map zn) (by simp)) ?_
      rintro ⟨a102, c102⟩ h102
      refine Wl.q rfl rfl (OpQ.assign rfl) ?_
      refine Wl.nil (PX.block_n (PX.then_n (CT.region ?_)))
      refine Wl.q rfl rfl (OpQ.add rfl rfl (by omega)) ?_
      refine Wl.q rfl rfl (OpQ.move rfl) ?_
      refine Wl.nil ?_
      exact PX.loop hK4 (x + 1, M2.set r true, l2 ++ [r], a102, c102) ⟨by omega, hr2.put hi2 (show x < S.sq.L by show x < S.L; omega) (by rw [hgq]; exact hto) hr_ hnl, by rw [List.length_append]; omega, by rw [getD_grow hi2]; exact hgq⟩ (show S.L - (x + 1) < S.L - x by omega) ⟨rfl, rfl, rfl, (lkV rfl (by rw [List.length_append]; rfl)), rfl, rfl, rfl, rfl, trivial⟩ (.drop (.keep (by rw [List.length_append]; rfl) (.keep (row_eq (by rw [List.map_set]; rfl)) (HSub.refl _))))
     ·
      have hkeep : ∀ r, S.sq.to (l.getD i 0) x = some r → r ∈ l2 := fun r2 hr2x => by rw [hto] at hr2x; cases hr2x; exact (hr2.mem r).1 (by simpa using h95)
      refine CT.skip (PX.block_n (PX.then_n (CT.region ?_)))
      refine Wl.q rfl rfl (OpQ.add rfl rfl (by omega)) ?_
      refine Wl.q rfl rfl (OpQ.move rfl) ?_
      refine Wl.nil ?_
      exact PX.loop hK4 (x + 1, M2, l2, a2, c2) ⟨by omega, hr2.keep (by rw [hgq]; exact hkeep), hi2, hgq⟩ (show S.L - (x + 1) < S.L - x by omega) ⟨rfl, rfl, rfl, rfl, rfl, rfl, rfl, rfl, trivial⟩ (HSub.refl _)
    ·
     have hno : S.sq.to (l.getD i 0) x = none := oi_neg.1 (by have := of_decide_eq_false hg89; have := oi_ge (S.sq.to (l.getD i 0) x); omega)
     have hkeep : ∀ r, S.sq.to (l.getD i 0) x = some r → r ∈ l2 := fun r hr => by rw [hno] at hr; cases hr
     refine Wl.skip rfl rfl ?_
     refine Wl.skip rfl rfl ?_
     refine Wl.skip rfl rfl ?_
     refine Wl.skip rfl rfl ?_
     refine Wl.skip rfl rfl ?_
     refine Wl.q rfl rfl (OpQ.pickF rfl rfl) ?_
     refine Wl.nil (PX.then_n ?_)
     refine CT.condF rfl ?_
     refine CT.skip (PX.block_n (PX.then_n (CT.region ?_)))
     refine Wl.q rfl rfl (OpQ.add rfl rfl (by omega)) ?_
     refine Wl.q rfl rfl (OpQ.move rfl) ?_
     refine Wl.nil ?_
     exact PX.loop hK4 (x + 1, M2, l2, a2, c2) ⟨by omega, hr2.keep (by rw [hgq]; exact hkeep), hi2, hgq⟩ (show S.L - (x + 1) < S.L - x by omega) ⟨rfl, rfl, rfl, rfl, rfl, rfl, rfl, rfl, trivial⟩ (HSub.refl _)
   ·
    have h84 := of_decide_eq_false h84
    refine CT.exit (PX.then_x (PX.then_x (PX.block_x (PX.block_n (PX.then_n (CT.region ?_))))))
    refine Wl.q rfl rfl (OpQ.move rfl) ?_
    refine Wl.q rfl rfl (OpQ.add rfl rfl (by omega)) ?_
    refine Wl.q rfl rfl (OpQ.assign rfl) ?_
    refine Wl.nil ?_
    exact PX.loop hK3 (i + 1, M2, l2, a2, c2) (by have := hr2; rw [show x = S.sq.L from (show x = S.L by omega)] at this; exact this.next) (show S.rs.length - (i + 1) < S.rs.length - i by omega) ⟨rfl, rfl, rfl, rfl, rfl, trivial⟩ (HSub.refl _)
  ·
   have h71 := of_decide_eq_false h71
   have hend : l.length ≤ i := by omega
   refine CT.exit (PX.then_x (PX.then_x (PX.block_x (PX.then_n (CT.seq (CT.seq (CT.region ?_)))))))
   refine Wl.q rfl rfl (OpQ.move rfl) ?_
   refine Wl.q rfl rfl (OpQ.len zf25 rfl) ?_
   refine Wl.q rfl rfl (OpQ.move rfl) ?_
   refine Wl.nil (PX.then_n (CT.block ?_))
   refine CT.loop (ι := Nat) (fun j => j ≤ S.rs.length) (fun j => [(4, .slice ba S.rs.length bc), (9, .slice (some ⟨b60, 0, none⟩) S.rs.length S.rs.length), (104, .slice (some ⟨b60, 0, none⟩) S.rs.length S.rs.length), (105, .int .i64 ((S.rs.length : Nat) : Int)), (106, .int .i64 ((j : Nat) : Int))]) (fun j => [.row 3 1 (.slice a' l.length c') l.length (l.map zn), .row 4 1 (.slice (some ⟨b60, 0, none⟩) S.rs.length S.rs.length) S.rs.length ((muL M B j).map bo), .row 4 1 (.slice ba S.rs.length bc) S.rs.length (B.map bo), .row 30 7 (vb b1) 1 (svc S)]) (fun j => S.rs.length - j) 0 (Nat.zero_le _) ⟨rfl, rfl, rfl, rfl, rfl, trivial⟩ (.keep rfl (.keep (row_eq (by rw [muL_zero])) (HSub.refl _))) (fun j hj K5 hK5 => ?_)
   refine CT.seq (CT.region ?_)
   refine Wl.q rfl rfl (OpQ.lss rfl rfl) ?_
   refine Wl.nil (PX.then_n (CT.seq ?_))
   refine CT.cond rfl (fun h107 => ?_) (fun h107 => ?_)
   ·
    have h107 := of_decide_eq_true h107
    have hmj : (muL M B j).getD j false = M.getD j false := by rw [muL_get (by omega), if_neg (by omega)]
    refine CT.skip (PX.then_n (CT.seq (CT.block (CT.seq (CT.region ?_)))))
    refine Wl.q rfl rfl (OpQ.move rfl) ?_
    refine Wl.q rfl rfl (OpQ.assign rfl) ?_
    refine Wl.nil (PX.then_n (CT.region ?_))
    refine Wl.q rfl rfl (OpQ.move rfl) ?_
    refine Wl.q rfl rfl (OpQ.move rfl) ?_
    refine Wl.q rfl rfl (OpQ.move rfl) ?_
    refine Wl.q rfl rfl (OpQ.move rfl) ?_
    refine Wl.q rfl rfl (OpQ.index1 zf25 zf44 rfl rfl (by omega) rfl) ?_
    refine Wl.q rfl rfl (OpQ.loadRow zf45 rfl (.there .here) (getMap bo (muL M B j) false (j := j) (by rw [muL_len]; omega))) ?_
    refine Wl.know 114 (v' := .bool (M.getD j false)) rfl (congrArg Value.bool hmj) ?_
    refine Wl.q rfl rfl (OpQ.move rfl) ?_
    refine Wl.split 115 rfl (fun hg115 => ?_) (fun hg115 => ?_)
    ·
     refine Wl.q rfl rfl (OpQ.move rfl) ?_
     refine Wl.q rfl rfl (OpQ.move rfl) ?_
     refine Wl.q rfl rfl (OpQ.index1 zf25 zf44 rfl rfl (by omega) (hba1 (by omega))) ?_
     refine Wl.q rfl rfl (OpQ.loadRow zf45 rfl (.there (.there .here)) (getMap bo B false (j := j) (by omega))) ?_
     refine Wl.q rfl rfl (OpQ.pickT rfl rfl) ?_
     refine Wl.know 120 (v' := .bool (M.getD j false && B.getD j false)) rfl (by rw [hg115]; rfl) ?_
     refine Wl.q rfl rfl (OpQ.index1 zf25 zf44 rfl rfl (by omega) rfl) ?_
     refine Wl.g rfl rfl (OpG.storeRow zf44 rfl rfl rfl (.there .here) (by rw [List.length_map, muL_len]; omega)) ?_
     rintro _ _
     refine Wl.nil (PX.block_n (PX.then_n (CT.region ?_)))
     refine Wl.q rfl rfl (OpQ.add rfl rfl (by omega)) ?_
     refine Wl.q rfl rfl (OpQ.move rfl) ?_
     refine Wl.nil ?_
     exact PX.loop hK5 (j + 1) (by omega) (by first | omega | (dsimp only; omega)) ⟨rfl, rfl, rfl, rfl, rfl, trivial⟩ (.keep rfl (.keep (row_eq muL_put.symm) (HSub.refl _)))
    ·
     refine Wl.skip rfl rfl ?_
     refine Wl.skip rfl rfl ?_
     refine Wl.skip rfl rfl ?_
     refine Wl.skip rfl rfl ?_
     refine Wl.q rfl rfl (OpQ.pickF rfl rfl) ?_
     refine Wl.know 120 (v' := .bool (M.getD j false && B.getD j false)) rfl (by rw [hg115]; rfl) ?_
     refine Wl.q rfl rfl (OpQ.index1 zf25 zf44 rfl rfl (by omega) rfl) ?_
     refine Wl.g rfl rfl (OpG.storeRow zf44 rfl rfl rfl (.there .here) (by rw [List.length_map, muL_len]; omega)) ?_
     rintro _ _
     refine Wl.nil (PX.block_n (PX.then_n (CT.region ?_)))
     refine Wl.q rfl rfl (OpQ.add rfl rfl (by omega)) ?_
     refine Wl.q rfl rfl (OpQ.move rfl) ?_
     refine Wl.nil ?_
     exact PX.loop hK5 (j + 1) (by omega) (by first | omega | (dsimp only; omega)) ⟨rfl, rfl, rfl, rfl, rfl, trivial⟩ (.keep rfl (.keep (row_eq muL_put.symm) (HSub.refl _)))
   ·
    have h107 := of_decide_eq_false h107
    obtain rfl : j = S.rs.length := by omega
    refine CT.exit (PX.then_x (PX.then_x (PX.block_x (PX.then_n (CT.seq (CT.region ?_))))))
    refine Wl.q rfl rfl (OpQ.move rfl) ?_
    refine Wl.q rfl rfl (OpQ.assign rfl) ?_
    refine Wl.nil (PX.then_n (CT.ret ?_))
    refine PX.ret1 rfl rfl (fun w' hH => ?_)
    have hMB : ∀ p, Rch S.sq p → (muL M B S.rs.length).getD p false = S.sq.tr.co S.L p := fun p hp => by
     have h1 := hr.done hend hp
     have h2 := hr.lt p h1
     have h3 : p < S.rs.length := by rw [← hnn]; exact h2
     rw [muL_get (by omega), if_pos h3, (hr.mem p).2 h1, Bool.true_and, hBco p h2]
    exact ⟨(muL M B S.rs.length, b60), ⟨by rw [muL_len]; exact hMl, hMB⟩, rfl, (hH.take (.cons (.there .here) .nil)).post⟩

end Go.Proofs.Ytamolakhpcofhaa

