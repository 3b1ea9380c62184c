/-
  What functions of the program compute, each by its walk. Conditions: those that each theorem names.
-/
import Derived.Test.YtmggcdegekbncaaGreatDoorMod
import Derived.Test.YtmggcdegekbncaaGreatDoorXGA5
import Derived.Test.YtmggcdegekbncaaGreatDoorXF
set_option linter.unusedSimpArgs false
namespace Go.Proofs.YtmggcdegekbncaaGreatDoor
open Go Go.Eng Go.Am
open Go.Tp (zi)
open Go.Tl (mayL Wd okW okB bo)
theorem K6_sc3 : scalarB Tryz.prog 3 = some true := by kernel_rfl
theorem K6_mixed : Tryz.prog.follows .mixedOrders = true := by kernel_rfl
theorem K6_un46 : Tryz.prog.underlying 46 = some (.slice 3) := by kernel_rfl
theorem K6_sz3 : sizeB Tryz.prog 3 = some 1 := by kernel_rfl
set_option maxRecDepth 100000 in
/-- semigroup/semigroupref03.Same -/
theorem same3_spec (w : World) (a : Option Addr) (ac : Nat) (l : List Nat) (hra : Stays [] w (fun w => Rd w a (l.map zn))) (hna : l.length ≤ 100000) (b : Option Addr) (bc : Nat) (m : List Nat) (hrb : Stays [] w (fun w => Rd w b (m.map zn))) : Calls Tryz.prog 22 #[.slice a l.length ac, .slice b m.length bc] w (fun e w' => e = .returned (.bool (decide (l = m))) ∧ Ext [] w w') := by
 have hsa : 0 < l.length → a.isSome = true := fun h => hra.now.isSome (j := 0) (by rw [List.length_map]; exact h)
 have hsb : 0 < m.length → b.isSome = true := fun h => hrb.now.isSome (j := 0) (by rw [List.length_map]; exact h)
 refine enter (args := [.slice a l.length ac, .slice b m.length bc]) [] 26 Tryz.func22 rfl rfl rfl ?_
 refine CT.seq (CT.region ?_)
 refine Wl.q rfl rfl (OpQ.assign rfl) ?_
 refine Wl.nil (PX.then_n (CT.seq (CT.seq (CT.region ?_))))
 refine Wl.q rfl rfl (OpQ.move rfl) ?_
 refine Wl.q rfl rfl (OpQ.len K6_un46 rfl) ?_
 refine Wl.q rfl rfl (OpQ.move rfl) ?_
 refine Wl.q rfl rfl (OpQ.len K6_un46 rfl) ?_
 refine Wl.q rfl rfl (OpQ.neq rfl rfl) ?_
 refine Wl.nil (PX.then_n ?_)
 refine CT.cond rfl (fun h10 => ?_) (fun h10 => ?_)
 ·
  have h10 := of_nd_t h10
  refine CT.seq (CT.region ?_)
  refine Wl.q rfl rfl (OpQ.assign rfl) ?_
  refine Wl.nil (PX.then_n (CT.ret (PX.then_r ?_)))
  refine PX.ret1 rfl rfl (fun w' hH => ?_)
  exact ⟨congrArg (fun b => Ending.returned (.bool b)) (decide_eq_false fun hh => h10 (by rw [hh])).symm, hH.ext⟩
 ·
  have h10 := of_nd_f h10
  refine CT.skip (PX.then_n (CT.seq (CT.seq (CT.region ?_))))
  refine Wl.q rfl rfl (OpQ.move rfl) ?_
  refine Wl.q rfl rfl (OpQ.len K6_un46 rfl) ?_
  refine Wl.q rfl rfl (OpQ.move rfl) ?_
  refine Wl.nil (PX.then_n (CT.block ?_))
  refine CT.loop (ι := Nat) (fun i => i ≤ l.length ∧ ∀ q, q < i → l.getD q 0 = m.getD q 0) (fun i => [(0, .slice a l.length ac), (1, .slice b m.length bc), (12, .int .i64 ((l.length : Nat) : Int)), (13, .int .i64 ((i : Nat) : Int))]) (fun _ => []) (fun i => l.length - i) 0 ⟨Nat.zero_le _, fun q hq => by omega⟩ ⟨rfl, rfl, rfl, rfl, trivial⟩ (HSub.none _) (fun i ⟨hi, hfe⟩ K0 hK0 => ?_)
  refine CT.seq (CT.region ?_)
  refine Wl.q rfl rfl (OpQ.lss rfl rfl) ?_
  refine Wl.nil (PX.then_n (CT.seq ?_))
  refine CT.cond rfl (fun h14 => ?_) (fun h14 => ?_)
  ·
   have h14 := of_decide_eq_true h14
   refine CT.skip (PX.then_n (CT.seq (CT.block (CT.seq (CT.region ?_)))))
   refine Wl.q rfl rfl (OpQ.move rfl) ?_
   refine Wl.q rfl rfl (OpQ.assign rfl) ?_
   refine Wl.nil (PX.then_n (CT.seq ?_))
   refine CT.draw 9 K6_mixed ?_
   refine RA.q 0 (by kernel_rfl) rfl rfl rfl (.refl _) (OpQ.move rfl) ?_
   refine RA.q 1 (by kernel_rfl) rfl rfl rfl (.refl _) (OpQ.move rfl) ?_
   refine RA.q 2 (by kernel_rfl) rfl rfl rfl (.refl _) (OpQ.index1 K6_un46 K6_sz3 rfl rfl (by omega) (hsa (by omega))) ?_
   refine RA.q 3 (by kernel_rfl) rfl rfl rfl (.refl _) (OpQ.loadG K6_sc3 rfl (fun w hH => hH.use hra) (getMap zn l 0 (j := i) (by omega))) ?_
   refine RA.q 4 (by kernel_rfl) rfl rfl rfl (.refl _) (OpQ.move rfl) ?_
   refine RA.q 5 (by kernel_rfl) rfl rfl rfl (.refl _) (OpQ.move rfl) ?_
   refine RA.q 6 (by kernel_rfl) rfl rfl rfl (.refl _) (OpQ.index1 K6_un46 K6_sz3 rfl rfl (by omega) (hsb (by omega))) ?_
   refine RA.q 7 (by kernel_rfl) rfl rfl rfl (.refl _) (OpQ.loadG K6_sc3 rfl (fun w hH => hH.use hrb) (getMap zn m 0 (j := i) (by omega))) ?_
   refine RA.q 8 (by kernel_rfl) rfl rfl rfl (.refl _) (OpQ.neq rfl rfl) ?_
   refine RA.tail ?_
   refine RT.done (by kernel_rfl) ?_
   refine PX.then_n ?_
   refine CT.cond rfl (fun h24 => ?_) (fun h24 => ?_)
   ·
    have h24 := of_nd_t h24
    refine CT.seq (CT.region ?_)
    refine Wl.q rfl rfl (OpQ.assign rfl) ?_
    refine Wl.nil (PX.then_n (CT.ret (PX.block_r (PX.then_r (PX.then_r (PX.block_r (PX.then_r ?_)))))))
    refine PX.ret1 rfl rfl (fun w' hH => ?_)
    exact ⟨congrArg (fun b => Ending.returned (.bool b)) (decide_eq_false fun hh => h24 (by rw [hh])).symm, hH.ext⟩
   ·
    have h24 := of_nd_f h24
    refine CT.skip (PX.block_n (PX.then_n (CT.region ?_)))
    refine Wl.q rfl rfl (OpQ.add rfl rfl (by omega)) ?_
    refine Wl.q rfl rfl (OpQ.move rfl) ?_
    refine Wl.nil ?_
    exact PX.loop hK0 (i + 1) ⟨by omega, fun q hq => by rcases Nat.lt_or_ge q i with h1 | h1; exact hfe q h1; obtain rfl : q = i := (by omega); omega⟩ (by first | omega | (dsimp only; omega)) ⟨rfl, rfl, rfl, rfl, trivial⟩ (HSub.none _)
  ·
   have h14 := of_decide_eq_false h14
   refine CT.exit (PX.then_x (PX.then_x (PX.block_x (PX.then_n (CT.seq (CT.region ?_))))))
   refine Wl.q rfl rfl (OpQ.assign rfl) ?_
   refine Wl.nil (PX.then_n (CT.ret ?_))
   refine PX.ret1 rfl rfl (fun w' hH => ?_)
   exact ⟨congrArg (fun b => Ending.returned (.bool b)) (decide_eq_true (list_ext_getD 0 (by omega) (fun q hq => hfe q (by omega)))).symm, hH.ext⟩

end Go.Proofs.YtmggcdegekbncaaGreatDoor

