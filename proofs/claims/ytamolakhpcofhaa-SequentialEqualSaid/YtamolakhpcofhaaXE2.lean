/-
  What functions of the program compute, each by its walk. Conditions: those that each theorem names.
-/
import Derived.Test.YtamolakhpcofhaaEng1
import Derived.Test.YtamolakhpcofhaaMod
import Derived.Test.YtamolakhpcofhaaXC1
import Derived.Test.YtamolakhpcofhaaXF
set_option linter.unusedSimpArgs false
namespace Go.Proofs.Ytamolakhpcofhaa
open Go Go.Eng Go.Am Go.Sq
open Go.Tl (mayL Wd okW okB bo)

set_option maxRecDepth 100000 in
/-- semigroup/sequential.row -/
theorem row_spec (w : World) (L : Nat) (hL : L ≤ 6) : Calls Try.prog 37 #[.int .i64 ((L : Nat) : Int)] w (fun e w' => ∃ i : Nat × Nat, True ∧ e = .returned (.tuple #[.slice (some ⟨i.1, 0, none⟩) L L, .slice (some ⟨i.2, 0, none⟩) L L]) ∧ Post [] [.row 3 1 (.slice (some ⟨i.1, 0, none⟩) L L) L ((List.replicate L (none : Option Nat)).map zo), .row 9 1 (.slice (some ⟨i.2, 0, none⟩) L L) L ((List.replicate L ([] : Wd)).map sv)] w w') := by
 refine enter (args := [.int .i64 ((L : Nat) : Int)]) [] 20 Try.func37 rfl rfl rfl ?_
 refine CT.seq (CT.region ?_)
 refine Wl.q rfl rfl (OpQ.assign rfl) ?_
 refine Wl.q rfl rfl (OpQ.assign rfl) ?_
 refine Wl.nil (PX.then_n (CT.seq (CT.region ?_)))
 refine Wl.q rfl rfl (OpQ.move rfl) ?_
 refine Wl.g rfl rfl (OpG.make1 zf0 zf16 rfl rfl rfl rfl (by omega) (by omega)) ?_
 rintro b7 _
 refine Wl.q rfl rfl (OpQ.assign rfl) ?_
 refine Wl.nil (PX.then_n (CT.seq (CT.seq (CT.region ?_))))
 refine Wl.q rfl rfl (OpQ.move rfl) ?_
 refine Wl.q rfl rfl (OpQ.len zf0 rfl) ?_
 refine Wl.q rfl rfl (OpQ.move rfl) ?_
 refine Wl.nil (PX.then_n (CT.block ?_))
 refine CT.loop (ι := Nat) (fun x => x ≤ L) (fun x => [(0, .int .i64 ((L : Nat) : Int)), (4, .slice (some ⟨b7, 0, none⟩) L L), (9, .int .i64 ((L : Nat) : Int)), (10, .int .i64 ((x : Nat) : Int))]) (fun x => [.row 3 1 (.slice (some ⟨b7, 0, none⟩) L L) L ((List.replicate x (none : Option Nat) ++ List.replicate (L - x) (some 0)).map zo)]) (fun x => L - x) 0 (Nat.zero_le _) ⟨rfl, rfl, rfl, rfl, trivial⟩ (.keep (row_eq (by simp [zo, oi])) (HSub.refl _)) (fun x hx K0 hK0 => ?_)
 refine CT.seq (CT.region ?_)
 refine Wl.q rfl rfl (OpQ.lss rfl rfl) ?_
 refine Wl.nil (PX.then_n (CT.seq ?_))
 refine CT.cond rfl (fun h11 => ?_) (fun h11 => ?_)
 ·
  have h11 := of_decide_eq_true h11
  refine CT.skip (PX.then_n (CT.seq (CT.block (CT.seq (CT.region ?_)))))
  refine Wl.q rfl rfl (OpQ.move rfl) ?_
  refine Wl.q rfl rfl (OpQ.assign rfl) ?_
  refine Wl.nil (PX.then_n (CT.region ?_))
  refine Wl.q rfl rfl (OpQ.move rfl) ?_
  refine Wl.q rfl rfl (OpQ.move rfl) ?_
  refine Wl.q rfl rfl (OpQ.index1 zf0 zf1 rfl rfl (by omega) rfl) ?_
  refine Wl.g rfl rfl (OpG.storeRow (a := some ⟨b7, 0, none⟩) zf1 rfl rfl rfl (by repeat (first | exact Upd.here | apply Upd.there)) (by simp; omega)) ?_
  rintro _ _
  refine Wl.nil (PX.block_n (PX.then_n (CT.region ?_)))
  refine Wl.q rfl rfl (OpQ.add rfl rfl (by omega)) ?_
  refine Wl.q rfl rfl (OpQ.move rfl) ?_
  refine Wl.nil ?_
  exact PX.loop hK0 (x + 1) (by omega) (by first | omega | (dsimp only; omega)) ⟨rfl, rfl, rfl, rfl, trivial⟩ (.keep (row_eq (by rw [← rep_put (show x < L by omega), List.map_set]; rfl)) (HSub.refl _))
 ·
  have h11 := of_decide_eq_false h11
  obtain rfl : x = L := by omega
  refine CT.mem (.keep (row_eq (xs := (List.replicate x (none : Option Nat)).map zo) (by simp)) (HSub.refl _)) ?_
  refine CT.exit (PX.then_x (PX.then_x (PX.block_x (PX.then_n (CT.seq ?_)))))
  refine CT.draw 5 zf6 ?_
  refine RA.q 0 (by kernel_rfl) rfl rfl rfl (.refl _) (OpQ.move rfl) ?_
  refine RA.q 1 (by kernel_rfl) rfl rfl rfl (.refl _) (OpQ.move rfl) ?_
  refine RA.q 3 (by kernel_rfl) rfl rfl rfl (.refl _) (OpQ.assign rfl) ?_
  refine RA.f 2 (by kernel_rfl) rfl rfl rfl (OpG.make1 zf17 zf18 rfl rfl rfl rfl (by omega) (by omega)) (fun _ _ => (.cons _ (.refl _))) ?_
  rintro b19 _
  refine RA.q 4 (by kernel_rfl) rfl rfl rfl (.cons _ (.refl _)) (OpQ.assign rfl) ?_
  refine RA.tail ?_
  refine RT.done (by kernel_rfl) ?_
  refine PX.then_n (CT.ret ?_)
  refine PX.ret2 rfl rfl rfl (fun w' hH => ?_)
  exact ⟨(b7, b19), trivial, rfl, (hH.take (.cons (.there .here) (.cons .here .nil))).post.conv (.keep rfl (.keep (row_eq (by rw [List.map_replicate])) .nil))⟩

set_option maxRecDepth 100000 in
/-- semigroup/sequential.empty -/
theorem empty_spec (w : World) (L : Nat) (hL : L ≤ 6) : Calls Try.prog 41 #[.int .i64 ((L : Nat) : Int)] w (fun e w' => ∃ i : Sv, (i.sq = emptyQ L) ∧ e = .returned (svv i) ∧ Post [] (svH i 3 22 4 9 28) w w') := by
 refine enter (args := [.int .i64 ((L : Nat) : Int)]) [] 18 Try.func41 rfl rfl rfl ?_
 refine CT.seq (CT.region ?_)
 refine Wl.g rfl rfl (OpG.alloc (zs := [.int .i64 0, .int .i64 0, .string ⟨#[]⟩, .slice none 0 0, .slice none 0 0, .slice none 0 0, .slice none 0 0]) zf19 rfl rfl) ?_
 rintro b2 _
 refine Wl.nil (PX.then_n (CT.seq (CT.region ?_)))
 refine Wl.q rfl rfl (OpQ.move rfl) ?_
 refine Wl.g rfl rfl (OpG.callX zf20 rfl .nil (fun _ => (.cons (.cons .nil))) (fun w hH hp => row_spec w L hL)) ?_
 rintro ⟨b7, b7o⟩ _
 refine Wl.q rfl rfl (OpQ.move rfl) ?_
 refine Wl.q rfl rfl (OpQ.extract rfl rfl) ?_
 refine Wl.q rfl rfl (OpQ.extract rfl rfl) ?_
 refine Wl.q rfl rfl (OpQ.assign rfl) ?_
 refine Wl.q rfl rfl (OpQ.assign rfl) ?_
 refine Wl.nil (PX.then_n (CT.seq (CT.region ?_)))
 refine Wl.q rfl rfl (OpQ.move rfl) ?_
 refine Wl.q rfl rfl (OpQ.move rfl) ?_
 refine Wl.g rfl rfl (OpG.lit1 zf21 zf22 rfl rfl rfl) ?_
 rintro b12 _
 refine Wl.q rfl rfl (OpQ.move rfl) ?_
 refine Wl.g rfl rfl (OpG.lit1 zf23 zf24 rfl rfl rfl) ?_
 rintro b14 _
 refine Wl.g rfl rfl (OpG.lit1 zf25 zf26 rfl rfl rfl) ?_
 rintro b15 _
 refine Wl.g rfl rfl (OpG.lit1 zf17 zf18 rfl rfl rfl) ?_
 rintro b16 _
 refine Wl.q rfl rfl (OpQ.build (cells := #[.int .i64 ((L : Nat) : Int), .int .i64 0, .string ⟨#[]⟩, .slice (some ⟨b12, 0, none⟩) 1 1, .slice (some ⟨b14, 0, none⟩) 1 1, .slice (some ⟨b15, 0, none⟩) 1 1, .slice (some ⟨b16, 0, none⟩) 1 1]) zf27 rfl rfl) ?_
 refine Wl.g rfl rfl (OpG.storeV (b := b2) zf28 rfl rfl rfl rfl (by repeat (first | exact Upd.here | apply Upd.there))) ?_
 rintro _ _
 refine Wl.nil (PX.then_n (CT.ret ?_))
 refine PX.retC rfl rfl (by repeat (first | exact Has.here | apply Has.there)) zf29 zf28 (by rfl) (fun w' hH => ?_)
 have hl1 : (List.replicate L (none : Option Nat)).length = L := List.length_replicate
 have hl2 : (List.replicate L ([] : Wd)).length = L := List.length_replicate
 exact ⟨⟨L, 0, [], some ⟨b12, 0, none⟩, 1, [⟨some ⟨b7, 0, none⟩, L, List.replicate L none⟩], some ⟨b14, 0, none⟩, 1, [⟨some ⟨b7o, 0, none⟩, L, List.replicate L []⟩], some ⟨b15, 0, none⟩, 1, [false], some ⟨b16, 0, none⟩, 1, [[]]⟩, rfl, rfl, (hH.take (.cons (.there (.there (.there .here))) (.cons (.there (.there .here)) (.cons (.there .here) (.cons .here (.cons .here (.cons .here .nil))))))).post.conv (.keep (row_eq (by show [Value.slice _ (List.replicate L (none : Option Nat)).length L] = _; rw [hl1]; rfl)) (.keep (row_eq (by show [Value.slice _ (List.replicate L ([] : Wd)).length L] = _; rw [hl2]; rfl)) (.keep rfl (.keep rfl (.keep (by show Chunk.row _ _ (.slice _ (List.replicate L (none : Option Nat)).length _) (List.replicate L (none : Option Nat)).length _ = _; rw [hl1]) (.keep (by show Chunk.row _ _ (.slice _ (List.replicate L ([] : Wd)).length _) (List.replicate L ([] : Wd)).length _ = _; rw [hl2]) .nil))))))⟩

end Go.Proofs.Ytamolakhpcofhaa

