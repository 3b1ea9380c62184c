/-
  What functions of the program compute, each by its walk. Conditions: those that each theorem names.
-/
import Derived.Test.YtamolakhpcofhaaMod
import Derived.Test.YtamolakhpcofhaaEng1
import Derived.Test.YtamolakhpcofhaaXE6
import Derived.Test.YtamolakhpcofhaaXF
set_option linter.unusedSimpArgs false
namespace Go.Proofs.Ytamolakhpcofhaa
open Go Go.Eng Go.Am Go.Sq
open Go.Tl (mayL Wd okW okB bo)

set_option maxRecDepth 100000 in
/-- semigroup/sequential.common -/
theorem common_spec (w : World) (s t : Wd) (hs : s.length ≤ 1000000000) (ht : t.length ≤ 1000000000) : Calls Try.prog 104 #[sv s, sv t] w (fun e w' => e = .returned (.int .i64 (((cm s t).length : Nat) : Int)) ∧ Ext [] w w') := by
 refine enter (args := [sv s, sv t]) [] 43 Try.func104 rfl rfl rfl ?_
 refine CT.seq (CT.region ?_)
 refine Wl.q rfl rfl (OpQ.assign rfl) ?_
 refine Wl.nil (PX.then_n (CT.seq (CT.region ?_)))
 refine Wl.q rfl rfl (OpQ.move rfl) ?_
 refine Wl.q rfl rfl (OpQ.lenSv zf4 rfl) ?_
 refine Wl.q rfl rfl (OpQ.move rfl) ?_
 refine Wl.q rfl rfl (OpQ.lenSv zf4 rfl) ?_
 refine Wl.q rfl rfl (OpQ.imin rfl rfl) ?_
 refine Wl.know 13 (v' := .int .i64 (((min s.length t.length) : Nat) : Int)) rfl (congrArg (Value.int .i64) (by omega)) ?_
 refine Wl.q rfl rfl (OpQ.assign rfl) ?_
 refine Wl.nil (PX.then_n (CT.seq (CT.seq ?_)))
 refine CT.draw 7 zf6 ?_
 refine RA.q 0 (by kernel_rfl) rfl rfl rfl (.refl _) (OpQ.move rfl) ?_
 refine RA.q 1 (by kernel_rfl) rfl rfl rfl (.refl _) (OpQ.move rfl) ?_
 refine RA.q 2 (by kernel_rfl) rfl rfl rfl (.refl _) (OpQ.sliceSH zf4 rfl rfl (by omega)) ?_
 refine RA.q 3 (by kernel_rfl) rfl rfl rfl (.refl _) (OpQ.move rfl) ?_
 refine RA.q 4 (by kernel_rfl) rfl rfl rfl (.refl _) (OpQ.move rfl) ?_
 refine RA.q 5 (by kernel_rfl) rfl rfl rfl (.refl _) (OpQ.sliceSH zf4 rfl rfl (by omega)) ?_
 refine RA.q 6 (by kernel_rfl) rfl rfl rfl (.refl _) (OpQ.eqlS rfl rfl) ?_
 refine RA.tail ?_
 refine RT.done (by kernel_rfl) ?_
 refine PX.then_n ?_
 refine CT.cond rfl (fun h20 => ?_) (fun h20 => ?_)
 ·
  have hfull : s.take (min s.length t.length) = t.take (min s.length t.length) := by simpa using h20
  refine CT.seq (CT.region ?_)
  refine Wl.q rfl rfl (OpQ.move rfl) ?_
  refine Wl.q rfl rfl (OpQ.assign rfl) ?_
  refine Wl.nil (PX.then_n (CT.ret (PX.then_r ?_)))
  refine PX.ret1 rfl rfl (fun w' hH => ?_)
  exact ⟨by rw [cm_len (by omega) (by omega) hfull (by omega)], hH.ext⟩
 ·
  have hnf : s.take (min s.length t.length) ≠ t.take (min s.length t.length) := by simpa using h20
  have hpos : 0 < min s.length t.length := by rcases Nat.eq_zero_or_pos (min s.length t.length) with h | h; rw [h] at hnf; exact absurd rfl hnf; exact h
  refine CT.skip (PX.then_n (CT.seq (CT.region ?_)))
  refine Wl.q rfl rfl (OpQ.move rfl) ?_
  refine Wl.q rfl rfl (OpQ.assign rfl) ?_
  refine Wl.q rfl rfl (OpQ.assign rfl) ?_
  refine Wl.nil (PX.then_n (CT.seq (CT.block ?_)))
  refine CT.loop (ι := Nat × Nat) (fun (lo, hi) => lo < hi ∧ hi ≤ (min s.length t.length) ∧ s.take lo = t.take lo ∧ s.take hi ≠ t.take hi) (fun (lo, hi) => [(0, sv s), (1, sv t), (6, .int .i64 ((lo : Nat) : Int)), (7, .int .i64 ((hi : Nat) : Int))]) (fun _ => []) (fun (lo, hi) => hi - lo) (0, (min s.length t.length)) ⟨hpos, Nat.le_refl _, rfl, hnf⟩ ⟨rfl, rfl, rfl, rfl, trivial⟩ (HSub.none _) (fun ⟨lo, hi⟩ ⟨hlh, hhn, hlo, hhi⟩ K0 hK0 => ?_)
  dsimp only
  refine CT.seq (CT.seq (CT.region ?_))
  refine Wl.q rfl rfl (OpQ.move rfl) ?_
  refine Wl.q rfl rfl (OpQ.move rfl) ?_
  refine Wl.q rfl rfl (OpQ.sub rfl rfl (by omega)) ?_
  refine Wl.q rfl rfl (OpQ.gtr rfl rfl) ?_
  refine Wl.nil (PX.then_n ?_)
  refine CT.cond rfl (fun h26 => ?_) (fun h26 => ?_)
  ·
   have h26 := of_decide_eq_true h26
   refine CT.skip (PX.then_n (CT.block (CT.seq (CT.region ?_))))
   refine Wl.q rfl rfl (OpQ.move rfl) ?_
   refine Wl.q rfl rfl (OpQ.move rfl) ?_
   refine Wl.q rfl rfl (OpQ.add rfl rfl (by omega)) ?_
   refine Wl.know 29 (v' := .int .i64 (((lo + hi) : Nat) : Int)) rfl (congrArg (Value.int .i64) (by omega)) ?_
   refine Wl.q rfl rfl (OpQ.quo rfl rfl ⟨by decide, by rw [tdiv2]; omega, by rw [tdiv2]; omega⟩) ?_
   refine Wl.know 30 (v' := .int .i64 ((((lo + hi) / 2) : Nat) : Int)) rfl (congrArg (Value.int .i64) (tdiv2 _)) ?_
   refine Wl.q rfl rfl (OpQ.assign rfl) ?_
   refine Wl.nil (PX.then_n (CT.seq ?_))
   refine CT.draw 9 zf6 ?_
   refine RA.q 0 (by kernel_rfl) rfl rfl rfl (.refl _) (OpQ.move rfl) ?_
   refine RA.q 1 (by kernel_rfl) rfl rfl rfl (.refl _) (OpQ.move rfl) ?_
   refine RA.q 2 (by kernel_rfl) rfl rfl rfl (.refl _) (OpQ.move rfl) ?_
   refine RA.q 3 (by kernel_rfl) rfl rfl rfl (.refl _) (OpQ.sliceSLH zf4 rfl rfl rfl (by omega) (by omega)) ?_
   refine RA.q 4 (by kernel_rfl) rfl rfl rfl (.refl _) (OpQ.move rfl) ?_
   refine RA.q 5 (by kernel_rfl) rfl rfl rfl (.refl _) (OpQ.move rfl) ?_
   refine RA.q 6 (by kernel_rfl) rfl rfl rfl (.refl _) (OpQ.move rfl) ?_
   refine RA.q 7 (by kernel_rfl) rfl rfl rfl (.refl _) (OpQ.sliceSLH zf4 rfl rfl rfl (by omega) (by omega)) ?_
   refine RA.q 8 (by kernel_rfl) rfl rfl rfl (.refl _) (OpQ.eqlS rfl rfl) ?_
   refine RA.tail ?_
   refine RT.done (by kernel_rfl) ?_
   refine PX.then_n ?_
   refine CT.cond rfl (fun h39 => ?_) (fun h39 => ?_)
   ·
    refine CT.region ?_
    refine Wl.q rfl rfl (OpQ.move rfl) ?_
    refine Wl.q rfl rfl (OpQ.assign rfl) ?_
    refine Wl.nil (PX.block_n ?_)
    exact PX.loop hK0 ((lo + hi) / 2, hi) ⟨by omega, by omega, (mid_eq (by omega) hlo).1 h39, hhi⟩ (show hi - (lo + hi) / 2 < hi - lo by omega) ⟨rfl, rfl, rfl, rfl, trivial⟩ (HSub.none _)
   ·
    refine CT.region ?_
    refine Wl.q rfl rfl (OpQ.move rfl) ?_
    refine Wl.q rfl rfl (OpQ.assign rfl) ?_
    refine Wl.nil (PX.block_n ?_)
    exact PX.loop hK0 (lo, (lo + hi) / 2) ⟨by omega, by omega, hlo, fun h => by rw [(mid_eq (by omega) hlo).2 h] at h39; cases h39⟩ (show (lo + hi) / 2 - lo < hi - lo by omega) ⟨rfl, rfl, rfl, rfl, trivial⟩ (HSub.none _)
  ·
   have h26 := of_decide_eq_false h26
   refine CT.exit (PX.then_x (PX.then_x (PX.block_x (PX.then_n (CT.seq (CT.region ?_))))))
   refine Wl.q rfl rfl (OpQ.move rfl) ?_
   refine Wl.q rfl rfl (OpQ.assign rfl) ?_
   refine Wl.nil (PX.then_n (CT.ret ?_))
   refine PX.ret1 rfl rfl (fun w' hH => ?_)
   exact ⟨by rw [cm_len (by omega) (by omega) hlo (fun ⟨_, _, h⟩ => hhi (by rw [show hi = lo + 1 by omega]; exact h))], hH.ext⟩

set_option maxRecDepth 100000 in
/-- semigroup/sequential.commonLength -/
theorem clen_spec (w : World) (s u v : Wd) (hs : s.length ≤ 1000000000) (hu : u.length ≤ 1000000000) (hv : v.length ≤ 1000000000) : Calls Try.prog 91 #[sv s, sv u, sv v] w (fun e w' => e = .returned (.int .i64 (((cm s (u ++ v)).length : Nat) : Int)) ∧ Ext [] w w') := by
 have hcs := (cm_l s u).length_le
 have hcu := (cm_r s u).length_le
 have hcv := (cm_r (s.drop (cm s u).length) v).length_le
 refine enter (args := [sv s, sv u, sv v]) [] 29 Try.func91 rfl rfl rfl ?_
 refine CT.seq (CT.region ?_)
 refine Wl.q rfl rfl (OpQ.assign rfl) ?_
 refine Wl.nil (PX.then_n (CT.seq (CT.region ?_)))
 refine Wl.q rfl rfl (OpQ.move rfl) ?_
 refine Wl.q rfl rfl (OpQ.move rfl) ?_
 refine Wl.g rfl rfl (OpG.callV zf82 rfl (fun w hH => common_spec w s u hs hu)) ?_
 rintro _ _
 refine Wl.q rfl rfl (OpQ.assign rfl) ?_
 refine Wl.nil (PX.then_n (CT.seq (CT.seq (CT.region ?_))))
 refine Wl.q rfl rfl (OpQ.move rfl) ?_
 refine Wl.q rfl rfl (OpQ.move rfl) ?_
 refine Wl.q rfl rfl (OpQ.lenSv zf4 rfl) ?_
 refine Wl.q rfl rfl (OpQ.lss rfl rfl) ?_
 refine Wl.q rfl rfl (OpQ.move rfl) ?_
 refine Wl.split 15 rfl (fun hg15 => ?_) (fun hg15 => ?_)
 ·
  have hg15 := of_decide_eq_true hg15
  refine Wl.skip rfl rfl ?_
  refine Wl.skip rfl rfl ?_
  refine Wl.skip rfl rfl ?_
  refine Wl.skip rfl rfl ?_
  refine Wl.q rfl rfl (OpQ.pickT rfl rfl) ?_
  refine Wl.nil (PX.then_n ?_)
  refine CT.condT rfl ?_
  refine CT.seq (CT.region ?_)
  refine Wl.q rfl rfl (OpQ.move rfl) ?_
  refine Wl.q rfl rfl (OpQ.assign rfl) ?_
  refine Wl.nil (PX.then_n (CT.ret (PX.then_r ?_)))
  refine PX.ret1 rfl rfl (fun w' hH => ?_)
  exact ⟨by rw [cm_app_1 (.inl (by omega))], hH.ext⟩
 ·
  have hg15 := of_decide_eq_false hg15
  refine Wl.q rfl rfl (OpQ.move rfl) ?_
  refine Wl.q rfl rfl (OpQ.move rfl) ?_
  refine Wl.q rfl rfl (OpQ.lenSv zf4 rfl) ?_
  refine Wl.q rfl rfl (OpQ.eql rfl rfl) ?_
  refine Wl.q rfl rfl (OpQ.pickF rfl rfl) ?_
  refine Wl.nil (PX.then_n ?_)
  refine CT.cond rfl (fun h20 => ?_) (fun h20 => ?_)
  ·
   refine CT.seq (CT.region ?_)
   refine Wl.q rfl rfl (OpQ.move rfl) ?_
   refine Wl.q rfl rfl (OpQ.assign rfl) ?_
   refine Wl.nil (PX.then_n (CT.ret (PX.then_r ?_)))
   refine PX.ret1 rfl rfl (fun w' hH => ?_)
   exact ⟨by rw [cm_app_1 (.inr (by have := of_decide_eq_true h20; omega))], hH.ext⟩
  ·
   refine CT.skip (PX.then_n (CT.seq (CT.region ?_)))
   refine Wl.q rfl rfl (OpQ.move rfl) ?_
   refine Wl.q rfl rfl (OpQ.move rfl) ?_
   refine Wl.q rfl rfl (OpQ.move rfl) ?_
   refine Wl.q rfl rfl (OpQ.sliceSL zf4 rfl rfl hcs) ?_
   refine Wl.q rfl rfl (OpQ.move rfl) ?_
   refine Wl.g rfl rfl (OpG.callV zf82 rfl (fun w hH => common_spec w (s.drop (cm s u).length) v (by rw [List.length_drop]; omega) hv)) ?_
   rintro _ _
   refine Wl.q rfl rfl (OpQ.add rfl rfl (by omega)) ?_
   refine Wl.q rfl rfl (OpQ.assign rfl) ?_
   refine Wl.nil (PX.then_n (CT.ret ?_))
   refine PX.ret1 rfl rfl (fun w' hH => ?_)
   exact ⟨by rw [← cm_app_2 (by omega)]; exact congrArg (fun z => Ending.returned (Value.int .i64 z)) (by omega), hH.ext⟩

set_option maxRecDepth 100000 in
/-- internal/stringslite.Clone -/
theorem slclone_spec (w : World) (s : Wd) (hs : s.length ≤ 1000000000) : Calls Try.prog 92 #[sv s] w (fun e w' => e = .returned (sv s) ∧ Ext [] w w') := by
 refine enter (args := [sv s]) [] 18 Try.func92 rfl rfl rfl ?_
 refine CT.seq (CT.region ?_)
 refine Wl.q rfl rfl (OpQ.assign rfl) ?_
 refine Wl.nil (PX.then_n (CT.seq (CT.seq (CT.region ?_))))
 refine Wl.q rfl rfl (OpQ.move rfl) ?_
 refine Wl.q rfl rfl (OpQ.lenSv zf4 rfl) ?_
 refine Wl.q rfl rfl (OpQ.eql rfl rfl) ?_
 refine Wl.nil (PX.then_n ?_)
 refine CT.cond rfl (fun h6 => ?_) (fun h6 => ?_)
 ·
  have h6 := of_decide_eq_true h6
  refine CT.seq (CT.region ?_)
  refine Wl.q rfl rfl (OpQ.assign rfl) ?_
  refine Wl.nil (PX.then_n (CT.ret (PX.then_r ?_)))
  refine PX.ret1 rfl rfl (fun w' hH => ?_)
  exact ⟨by rw [List.eq_nil_of_length_eq_zero (show s.length = 0 by omega)], hH.ext⟩
 ·
  have h6 := of_decide_eq_false h6
  refine CT.skip (PX.then_n (CT.seq (CT.region ?_)))
  refine Wl.q rfl rfl (OpQ.move rfl) ?_
  refine Wl.q rfl rfl (OpQ.lenSv zf4 rfl) ?_
  refine Wl.g rfl rfl (OpG.make1 zf2 zf14 rfl rfl rfl rfl (by omega) (by omega)) ?_
  rintro b9 _
  refine Wl.q rfl rfl (OpQ.assign rfl) ?_
  refine Wl.nil (PX.then_n (CT.seq (CT.region ?_)))
  refine Wl.q rfl rfl (OpQ.move rfl) ?_
  refine Wl.q rfl rfl (OpQ.move rfl) ?_
  refine Wl.g rfl rfl (OpG.copyS zf2 zf83 rfl rfl rfl (by repeat (first | exact Upd.here | apply Upd.there))) ?_
  rintro _ _
  refine Wl.nil (PX.then_n (CT.seq (CT.region ?_)))
  refine Wl.q rfl rfl (OpQ.move rfl) ?_
  refine Wl.q rfl rfl (OpQ.index1 zf2 zf83 rfl rfl (by omega) rfl) ?_
  refine Wl.q rfl rfl (OpQ.move rfl) ?_
  refine Wl.q rfl rfl (OpQ.len zf2 rfl) ?_
  refine Wl.g rfl rfl (OpG.unsafeString (a := some ⟨b9, 0, none⟩) (cp := s.length) (l := s) zf76 (by kernel_rfl) rfl rfl (p := 0) rfl (by omega)) ?_
  rintro _ _
  refine Wl.q rfl rfl (OpQ.assign rfl) ?_
  refine Wl.nil (PX.then_n (CT.ret ?_))
  refine PX.ret1 rfl rfl (fun w' hH => ?_)
  exact ⟨rfl, hH.ext⟩

set_option maxRecDepth 100000 in
/-- strings.Clone -/
theorem clone_spec (w : World) (s : Wd) (hs : s.length ≤ 1000000000) : Calls Try.prog 73 #[sv s] w (fun e w' => e = .returned (sv s) ∧ Ext [] w w') := by
 refine enter (args := [sv s]) [] 5 Try.func73 rfl rfl rfl ?_
 refine CT.seq (CT.region ?_)
 refine Wl.q rfl rfl (OpQ.assign rfl) ?_
 refine Wl.nil (PX.then_n (CT.seq (CT.region ?_)))
 refine Wl.q rfl rfl (OpQ.move rfl) ?_
 refine Wl.g rfl rfl (OpG.callV zf84 rfl (fun w hH => slclone_spec w s hs)) ?_
 rintro _ _
 refine Wl.q rfl rfl (OpQ.assign rfl) ?_
 refine Wl.nil (PX.then_n (CT.ret ?_))
 refine PX.ret1 rfl rfl (fun w' hH => ?_)
 exact ⟨rfl, hH.ext⟩

set_option maxRecDepth 100000 in
/-- semigroup/sequential.tail -/
theorem tail_spec (w : World) (u v : Wd) (n : Nat) (hu : u.length ≤ 1000000000) (hv : v.length ≤ 1000000000) (hn : n ≤ u.length + v.length) : Calls Try.prog 35 #[sv u, sv v, .int .i64 ((n : Nat) : Int)] w (fun e w' => e = .returned (sv ((u ++ v).drop n)) ∧ Ext [] w w') := by
 refine enter (args := [sv u, sv v, .int .i64 ((n : Nat) : Int)]) [] 23 Try.func35 rfl rfl rfl ?_
 refine CT.seq (CT.region ?_)
 refine Wl.q rfl rfl (OpQ.assign rfl) ?_
 refine Wl.nil (PX.then_n (CT.seq (CT.seq (CT.region ?_))))
 refine Wl.q rfl rfl (OpQ.move rfl) ?_
 refine Wl.q rfl rfl (OpQ.move rfl) ?_
 refine Wl.q rfl rfl (OpQ.lenSv zf4 rfl) ?_
 refine Wl.q rfl rfl (OpQ.leq rfl rfl) ?_
 refine Wl.nil (PX.then_n ?_)
 refine CT.cond rfl (fun h10 => ?_) (fun h10 => ?_)
 ·
  have h10 := of_decide_eq_true h10
  refine CT.seq (CT.region ?_)
  refine Wl.q rfl rfl (OpQ.move rfl) ?_
  refine Wl.q rfl rfl (OpQ.move rfl) ?_
  refine Wl.q rfl rfl (OpQ.sliceSL zf4 rfl rfl (by omega)) ?_
  refine Wl.q rfl rfl (OpQ.move rfl) ?_
  refine Wl.q rfl rfl (OpQ.concat rfl rfl (by rw [List.length_drop]; omega)) ?_
  refine Wl.q rfl rfl (OpQ.assign rfl) ?_
  refine Wl.nil (PX.then_n (CT.ret (PX.then_r ?_)))
  refine PX.ret1 rfl rfl (fun w' hH => ?_)
  exact ⟨by rw [tail_1 (by omega)], hH.ext⟩
 ·
  have h10 := of_decide_eq_false h10
  refine CT.skip (PX.then_n (CT.seq (CT.region ?_)))
  refine Wl.q rfl rfl (OpQ.move rfl) ?_
  refine Wl.q rfl rfl (OpQ.move rfl) ?_
  refine Wl.q rfl rfl (OpQ.move rfl) ?_
  refine Wl.q rfl rfl (OpQ.lenSv zf4 rfl) ?_
  refine Wl.q rfl rfl (OpQ.sub rfl rfl (by omega)) ?_
  refine Wl.know 20 (v' := .int .i64 (((n - u.length) : Nat) : Int)) rfl (congrArg (Value.int .i64) (by omega)) ?_
  refine Wl.q rfl rfl (OpQ.sliceSL zf4 rfl rfl (by omega)) ?_
  refine Wl.g rfl rfl (OpG.callV zf85 rfl (fun w hH => clone_spec w _ (by rw [List.length_drop]; omega))) ?_
  rintro _ _
  refine Wl.q rfl rfl (OpQ.assign rfl) ?_
  refine Wl.nil (PX.then_n (CT.ret ?_))
  refine PX.ret1 rfl rfl (fun w' hH => ?_)
  exact ⟨by rw [tail_2 (by omega)], hH.ext⟩

end Go.Proofs.Ytamolakhpcofhaa

