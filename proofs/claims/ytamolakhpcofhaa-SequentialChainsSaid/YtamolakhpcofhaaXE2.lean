/-
  What functions of the program compute, each by its walk. Conditions: those that each theorem names.
-/
import Derived.Test.YtamolakhpcofhaaEng1
import Derived.Test.YtamolakhpcofhaaModb
import Derived.Test.YtamolakhpcofhaaXC1
set_option linter.unusedSimpArgs false
namespace Go.Proofs.Ytamolakhpcofhaa
open Go Go.Eng Go.Am Go.Sq
open Go.Tl (mayL Wd okW okB bo)

theorem RB_sz3 : sizeB Try.prog 3 = some 1 := by kernel_rfl
theorem RB_un22 : Try.prog.underlying 22 = some (.slice 3) := by kernel_rfl
theorem RB_in3 : (Try.prog.info? 3).map (fun i => (i.zero, i.size, i.bytes)) = some (some (.int .i64 0), 1, 8) := by kernel_rfl
theorem RB_mixed : Try.prog.follows .mixedOrders = true := by kernel_rfl
theorem RB_un28 : Try.prog.underlying 28 = some (.slice 9) := by kernel_rfl
theorem RB_in9 : (Try.prog.info? 9).map (fun i => (i.zero, i.size, i.bytes)) = some (some (.string ⟨#[]⟩), 1, 16) := by kernel_rfl
set_option maxRecDepth 100000 in
/-- semigroup/sequential.row -/
theorem row_spec (w : World) (L : Nat) (hL : L ≤ 6) : Calls Try.prog 37 #[.int .i64 ((L : Nat) : Int)] w (fun e w' => ∃ i : Nat × Nat, True ∧ e = .returned (.tuple #[.slice (some ⟨i.1, 0, none⟩) L L, .slice (some ⟨i.2, 0, none⟩) L L]) ∧ Post [] [.row 3 1 (.slice (some ⟨i.1, 0, none⟩) L L) L ((List.replicate L (none : Option Nat)).map zo), .row 9 1 (.slice (some ⟨i.2, 0, none⟩) L L) L ((List.replicate L ([] : Wd)).map sv)] w w') := by
 refine enter (args := [.int .i64 ((L : Nat) : Int)]) [] 20 Try.func37 rfl rfl rfl ?_
 refine CT.seq ?_
 refine CT.region ?_
 refine Wl.q rfl rfl (OpQ.assign rfl) ?_
 refine Wl.q rfl rfl (OpQ.assign rfl) ?_
 refine Wl.nil ?_
 refine PX.then_n ?_
 refine CT.seq ?_
 refine CT.region ?_
 refine Wl.q rfl rfl (OpQ.move rfl) ?_
 refine Wl.g rfl rfl (OpG.make1 RB_un22 RB_in3 rfl rfl rfl rfl (by omega) (by omega)) ?_
 rintro b7 _
 refine Wl.q rfl rfl (OpQ.assign rfl) ?_
 refine Wl.nil ?_
 refine PX.then_n ?_
 refine CT.seq ?_
 refine CT.seq ?_
 refine CT.region ?_
 refine Wl.q rfl rfl (OpQ.move rfl) ?_
 refine Wl.q rfl rfl (OpQ.len RB_un22 rfl) ?_
 refine Wl.q rfl rfl (OpQ.move rfl) ?_
 refine Wl.nil ?_
 refine PX.then_n ?_
 refine CT.block ?_
 refine CT.loop (ι := Nat) (fun x => x ≤ L) (fun x => [(0, .int .i64 ((L : Nat) : Int)), (4, .slice (some ⟨b7, 0, none⟩) L L), (9, .int .i64 ((L : Nat) : Int)), (10, .int .i64 ((x : Nat) : Int))]) (fun x => [.row 3 1 (.slice (some ⟨b7, 0, none⟩) L L) L ((List.replicate x (none : Option Nat) ++ List.replicate (L - x) (some 0)).map zo)]) (fun x => L - x) 0 (Nat.zero_le _) ⟨rfl, rfl, rfl, rfl, trivial⟩ (.keep (row_eq (by simp [zo, oi])) (HSub.refl _)) (fun x hx K0 hK0 => ?_)
 refine CT.seq ?_
 refine CT.region ?_
 refine Wl.q rfl rfl (OpQ.lss rfl rfl) ?_
 refine Wl.nil ?_
 refine PX.then_n ?_
 refine CT.seq ?_
 refine CT.cond rfl (fun h11 => ?_) (fun h11 => ?_)
 ·
  have h11 := of_decide_eq_true h11
  refine CT.skip ?_
  refine PX.then_n ?_
  refine CT.seq ?_
  refine CT.block ?_
  refine CT.seq ?_
  refine CT.region ?_
  refine Wl.q rfl rfl (OpQ.move rfl) ?_
  refine Wl.q rfl rfl (OpQ.assign rfl) ?_
  refine Wl.nil ?_
  refine PX.then_n ?_
  refine CT.region ?_
  refine Wl.q rfl rfl (OpQ.move rfl) ?_
  refine Wl.q rfl rfl (OpQ.move rfl) ?_
  refine Wl.q rfl rfl (OpQ.index1 RB_un22 RB_sz3 rfl rfl (by omega) rfl) ?_
  refine Wl.g rfl rfl (OpG.storeRow (a := some ⟨b7, 0, none⟩) RB_sz3 rfl rfl rfl (by repeat (first | exact Upd.here | apply Upd.there)) (by simp; omega)) ?_
  rintro _ _
  refine Wl.nil ?_
  refine PX.block_n ?_
  refine PX.then_n ?_
  refine CT.region ?_
  refine Wl.q rfl rfl (OpQ.add rfl rfl (by omega)) ?_
  refine Wl.q rfl rfl (OpQ.move rfl) ?_
  refine Wl.nil ?_
  exact PX.loop hK0 (x + 1) (by omega) (by first | omega | (dsimp only; omega)) ⟨rfl, rfl, rfl, rfl, trivial⟩ (.keep (row_eq (by rw [← rep_put (show x < L by omega), List.map_set]; rfl)) (HSub.refl _))
 ·
  have h11 := of_decide_eq_false h11
  obtain rfl : x = L := by omega
  refine CT.mem (.keep (row_eq (xs := (List.replicate x (none : Option Nat)).map zo) (by simp)) (HSub.refl _)) ?_
  refine CT.exit ?_
  refine PX.then_x ?_
  refine PX.then_x ?_
  refine PX.block_x ?_
  refine PX.then_n ?_
  refine CT.seq ?_
  refine CT.draw 5 RB_mixed ?_
  refine RA.q 0 (by kernel_rfl) rfl rfl rfl (.refl _) (OpQ.move rfl) ?_
  refine RA.q 1 (by kernel_rfl) rfl rfl rfl (.refl _) (OpQ.move rfl) ?_
  refine RA.q 3 (by kernel_rfl) rfl rfl rfl (.refl _) (OpQ.assign rfl) ?_
  refine RA.f 2 (by kernel_rfl) rfl rfl rfl (OpG.make1 RB_un28 RB_in9 rfl rfl rfl rfl (by omega) (by omega)) (fun _ _ => (.cons _ (.refl _))) ?_
  rintro b19 _
  refine RA.q 4 (by kernel_rfl) rfl rfl rfl (.cons _ (.refl _)) (OpQ.assign rfl) ?_
  refine RA.tail ?_
  refine RT.done (by kernel_rfl) ?_
  refine PX.then_n ?_
  refine CT.ret ?_
  refine PX.ret2 rfl rfl rfl (fun w' hH => ?_)
  exact ⟨(b7, b19), trivial, rfl, (hH.take (.cons (.there .here) (.cons .here .nil))).post.conv (.keep rfl (.keep (row_eq (by rw [List.map_replicate])) .nil))⟩

theorem RB_in30 : (Try.prog.info? 30).map (fun i => (i.zero, i.size, i.bytes)) = some (some (.agg #[.int .i64 0, .int .i64 0, .string ⟨#[]⟩, .slice none 0 0, .slice none 0 0, .slice none 0 0, .slice none 0 0]), 7, 128) := by kernel_rfl
theorem RB_go37 : isGo Try.prog 37 = true := by kernel_rfl
theorem RB_un25 : Try.prog.underlying 25 = some (.slice 22) := by kernel_rfl
theorem RB_in22 : (Try.prog.info? 22).map (fun i => (i.zero, i.size, i.bytes)) = some (some (.slice none 0 0), 1, 24) := by kernel_rfl
theorem RB_un26 : Try.prog.underlying 26 = some (.slice 28) := by kernel_rfl
theorem RB_in28 : (Try.prog.info? 28).map (fun i => (i.zero, i.size, i.bytes)) = some (some (.slice none 0 0), 1, 24) := by kernel_rfl
theorem RB_un27 : Try.prog.underlying 27 = some (.slice 4) := by kernel_rfl
theorem RB_in4 : (Try.prog.info? 4).map (fun i => (i.zero, i.size, i.bytes)) = some (some (.bool false), 1, 1) := by kernel_rfl
theorem RB_pl30 : placesB Try.prog 30 = some (#[.int .i64 0, .int .i64 0, .string ⟨#[]⟩, .slice none 0 0, .slice none 0 0, .slice none 0 0, .slice none 0 0], [(0, 1), (1, 1), (2, 1), (3, 1), (4, 1), (5, 1), (6, 1)]) := by kernel_rfl
theorem RB_sz30 : sizeB Try.prog 30 = some 7 := by kernel_rfl
theorem RB_ag30 : isAggB Try.prog 30 = some true := by kernel_rfl
set_option maxRecDepth 100000 in
/-- semigroup/sequential.empty -/
theorem empty_spec (w : World) (L : Nat) (hL : L ≤ 6) : Calls Try.prog 41 #[.int .i64 ((L : Nat) : Int)] w (fun e w' => ∃ i : Sv, (i.sq = emptyQ L) ∧ e = .returned (svv i) ∧ Post [] (svH i 3 22 4 9 28) w w') := by
 refine enter (args := [.int .i64 ((L : Nat) : Int)]) [] 18 Try.func41 rfl rfl rfl ?_
 refine CT.seq ?_
 refine CT.region ?_
 refine Wl.g rfl rfl (OpG.alloc (zs := [.int .i64 0, .int .i64 0, .string ⟨#[]⟩, .slice none 0 0, .slice none 0 0, .slice none 0 0, .slice none 0 0]) RB_in30 rfl rfl) ?_
 rintro b2 _
 refine Wl.nil ?_
 refine PX.then_n ?_
 refine CT.seq ?_
 refine CT.region ?_
 refine Wl.q rfl rfl (OpQ.move rfl) ?_
 refine Wl.g rfl rfl (OpG.callX RB_go37 rfl .nil (fun _ => (.cons (.cons .nil))) (fun w hH hp => row_spec w L hL)) ?_
 rintro ⟨b7, b7o⟩ _
 refine Wl.q rfl rfl (OpQ.move rfl) ?_
 refine Wl.q rfl rfl (OpQ.extract rfl rfl) ?_
 refine Wl.q rfl rfl (OpQ.extract rfl rfl) ?_
 refine Wl.q rfl rfl (OpQ.assign rfl) ?_
 refine Wl.q rfl rfl (OpQ.assign rfl) ?_
 refine Wl.nil ?_
 refine PX.then_n ?_
 refine CT.seq ?_
 refine CT.region ?_
 refine Wl.q rfl rfl (OpQ.move rfl) ?_
 refine Wl.q rfl rfl (OpQ.move rfl) ?_
 refine Wl.g rfl rfl (OpG.lit1 RB_un25 RB_in22 rfl rfl rfl) ?_
 rintro b12 _
 refine Wl.q rfl rfl (OpQ.move rfl) ?_
 refine Wl.g rfl rfl (OpG.lit1 RB_un26 RB_in28 rfl rfl rfl) ?_
 rintro b14 _
 refine Wl.g rfl rfl (OpG.lit1 RB_un27 RB_in4 rfl rfl rfl) ?_
 rintro b15 _
 refine Wl.g rfl rfl (OpG.lit1 RB_un28 RB_in9 rfl rfl rfl) ?_
 rintro b16 _
 refine Wl.q rfl rfl (OpQ.build (cells := #[.int .i64 ((L : Nat) : Int), .int .i64 0, .string ⟨#[]⟩, .slice (some ⟨b12, 0, none⟩) 1 1, .slice (some ⟨b14, 0, none⟩) 1 1, .slice (some ⟨b15, 0, none⟩) 1 1, .slice (some ⟨b16, 0, none⟩) 1 1]) RB_pl30 rfl rfl) ?_
 refine Wl.g rfl rfl (OpG.storeV (b := b2) RB_sz30 rfl rfl rfl rfl (by repeat (first | exact Upd.here | apply Upd.there))) ?_
 rintro _ _
 refine Wl.nil ?_
 refine PX.then_n ?_
 refine CT.ret ?_
 refine PX.retC rfl rfl (by repeat (first | exact Has.here | apply Has.there)) RB_ag30 RB_sz30 (by rfl) (fun w' hH => ?_)
 have hl1 : (List.replicate L (none : Option Nat)).length = L := List.length_replicate
 have hl2 : (List.replicate L ([] : Wd)).length = L := List.length_replicate
 exact ⟨⟨L, 0, [], some ⟨b12, 0, none⟩, 1, [⟨some ⟨b7, 0, none⟩, L, List.replicate L none⟩], some ⟨b14, 0, none⟩, 1, [⟨some ⟨b7o, 0, none⟩, L, List.replicate L []⟩], some ⟨b15, 0, none⟩, 1, [false], some ⟨b16, 0, none⟩, 1, [[]]⟩, rfl, rfl, (hH.take (.cons (.there (.there (.there .here))) (.cons (.there (.there .here)) (.cons (.there .here) (.cons .here (.cons .here (.cons .here .nil))))))).post.conv (.keep (row_eq (by show [Value.slice _ (List.replicate L (none : Option Nat)).length L] = _; rw [hl1]; rfl)) (.keep (row_eq (by show [Value.slice _ (List.replicate L ([] : Wd)).length L] = _; rw [hl2]; rfl)) (.keep rfl (.keep rfl (.keep (by show Chunk.row _ _ (.slice _ (List.replicate L (none : Option Nat)).length _) (List.replicate L (none : Option Nat)).length _ = _; rw [hl1]) (.keep (by show Chunk.row _ _ (.slice _ (List.replicate L ([] : Wd)).length _) (List.replicate L ([] : Wd)).length _ = _; rw [hl2]) .nil))))))⟩

end Go.Proofs.Ytamolakhpcofhaa

