/-
  What functions of the program compute, each by its walk. Conditions: those that each theorem names.
-/
import Derived.Test.YtmggcdegekbncabGreatDoorMod
import Derived.Test.YtmggcdegekbncabGreatDoorProg
import Derived.Test.YtmggcdegekbncabGreatDoorXF
set_option linter.unusedSimpArgs false
namespace Go.Proofs.YtmggcdegekbncabGreatDoor
open Go Go.Eng Go.Tl
open Go.Tp (zi)
open Go.Tl (mayL Wd okW okB)
set_option maxRecDepth 100000 in
/-- semigroup/semigroupref01.MayLetters -/
theorem may_spec (w : World) (l : Int) : Calls Tryz.prog 44 #[.int .i64 (l)] w (fun e w' => e = .returned (.bool (mayL l)) ∧ Ext [] w w') := by
 refine enter (args := [.int .i64 (l)]) [] 9 Tryz.func44 rfl rfl rfl ?_
 refine CT.seq (CT.region ?_)
 refine Wl.q rfl rfl (OpQ.assign rfl) ?_
 refine Wl.nil (PX.then_n (CT.seq (CT.region ?_)))
 refine Wl.q rfl rfl (OpQ.move rfl) ?_
 refine Wl.q rfl rfl (OpQ.geq rfl rfl) ?_
 refine Wl.q rfl rfl (OpQ.move rfl) ?_
 refine Wl.split 5 rfl (fun hg5 => ?_) (fun hg5 => ?_)
 ·
  have hg5 := of_decide_eq_true hg5
  refine Wl.q rfl rfl (OpQ.move rfl) ?_
  refine Wl.q rfl rfl (OpQ.leq rfl rfl) ?_
  refine Wl.q rfl rfl (OpQ.pickT rfl rfl) ?_
  refine Wl.q rfl rfl (OpQ.assign rfl) ?_
  refine Wl.nil (PX.then_n (CT.ret ?_))
  refine PX.ret1 rfl rfl (fun w' hH => ?_)
  exact ⟨ret_b (by rw [mayL, decide_eq_decide]; omega), hH.ext⟩
 ·
  have hg5 := of_decide_eq_false hg5
  refine Wl.skip rfl rfl ?_
  refine Wl.skip rfl rfl ?_
  refine Wl.q rfl rfl (OpQ.pickF rfl rfl) ?_
  refine Wl.q rfl rfl (OpQ.assign rfl) ?_
  refine Wl.nil (PX.then_n (CT.ret ?_))
  refine PX.ret1 rfl rfl (fun w' hH => ?_)
  exact ⟨ret_b (by rw [eq_comm, mayL, decide_eq_false_iff_not]; omega), hH.ext⟩

theorem K1_un9 : Tryz.prog.underlying 9 = some .string := by kernel_rfl
theorem K1_un5 : Tryz.prog.underlying 5 = some (.int .u8) := by kernel_rfl
theorem K1_un3 : Tryz.prog.underlying 3 = some (.int .i64) := by kernel_rfl
set_option maxRecDepth 100000 in
/-- semigroup/word.Valid -/
theorem wvalid_spec (w : World) (ws : Wd) (hn : ws.length ≤ 9223372036854775807) (letters : Int) : Calls Tryz.prog 48 #[sv ws, .int .i64 (letters)] w (fun e w' => e = .returned (.bool (okW ws letters)) ∧ Ext [] w w') := by
 refine enter (args := [sv ws, .int .i64 (letters)]) [] 36 Tryz.func48 rfl rfl rfl ?_
 refine CT.seq (CT.region ?_)
 refine Wl.q rfl rfl (OpQ.assign rfl) ?_
 refine Wl.nil (PX.then_n (CT.seq (CT.seq (CT.region ?_))))
 refine Wl.q rfl rfl (OpQ.move rfl) ?_
 refine Wl.q rfl rfl (OpQ.lss rfl rfl) ?_
 refine Wl.q rfl rfl (OpQ.move rfl) ?_
 refine Wl.split 8 rfl (fun hg8 => ?_) (fun hg8 => ?_)
 ·
  have hg8 := of_decide_eq_true hg8
  refine Wl.skip rfl rfl ?_
  refine Wl.skip rfl rfl ?_
  refine Wl.q rfl rfl (OpQ.pickT rfl rfl) ?_
  refine Wl.q rfl rfl (OpQ.move rfl) ?_
  refine Wl.skip rfl rfl ?_
  refine Wl.skip rfl rfl ?_
  refine Wl.skip rfl rfl ?_
  refine Wl.q rfl rfl (OpQ.pickT rfl rfl) ?_
  refine Wl.nil (PX.then_n ?_)
  refine CT.condT rfl ?_
  refine CT.seq (CT.region ?_)
  refine Wl.q rfl rfl (OpQ.assign rfl) ?_
  refine Wl.nil (PX.then_n (CT.ret (PX.then_r ?_)))
  refine PX.ret1 rfl rfl (fun w' hH => ?_)
  exact ⟨ret_b (okW_may (by omega)).symm, hH.ext⟩
 ·
  have hg8 := of_decide_eq_false hg8
  refine Wl.q rfl rfl (OpQ.move rfl) ?_
  refine Wl.q rfl rfl (OpQ.gtr rfl rfl) ?_
  refine Wl.q rfl rfl (OpQ.pickF rfl rfl) ?_
  refine Wl.q rfl rfl (OpQ.move rfl) ?_
  refine Wl.split 12 rfl (fun hg12 => ?_) (fun hg12 => ?_)
  ·
   have hg12 := of_decide_eq_true hg12
   refine Wl.skip rfl rfl ?_
   refine Wl.skip rfl rfl ?_
   refine Wl.skip rfl rfl ?_
   refine Wl.q rfl rfl (OpQ.pickT rfl rfl) ?_
   refine Wl.nil (PX.then_n ?_)
   refine CT.condT rfl ?_
   refine CT.seq (CT.region ?_)
   refine Wl.q rfl rfl (OpQ.assign rfl) ?_
   refine Wl.nil (PX.then_n (CT.ret (PX.then_r ?_)))
   refine PX.ret1 rfl rfl (fun w' hH => ?_)
   exact ⟨ret_b (okW_may (by omega)).symm, hH.ext⟩
  ·
   have hg12 := of_decide_eq_false hg12
   refine Wl.q rfl rfl (OpQ.move rfl) ?_
   refine Wl.q rfl rfl (OpQ.lenSv K1_un9 rfl) ?_
   refine Wl.q rfl rfl (OpQ.gtr rfl rfl) ?_
   refine Wl.q rfl rfl (OpQ.pickF rfl rfl) ?_
   refine Wl.nil (PX.then_n ?_)
   refine CT.cond rfl (fun h16 => ?_) (fun h16 => ?_)
   ·
    have h16 := of_decide_eq_true h16
    refine CT.seq (CT.region ?_)
    refine Wl.q rfl rfl (OpQ.assign rfl) ?_
    refine Wl.nil (PX.then_n (CT.ret (PX.then_r ?_)))
    refine PX.ret1 rfl rfl (fun w' hH => ?_)
    exact ⟨ret_b (okW_long (by omega)).symm, hH.ext⟩
   ·
    have h16 := of_decide_eq_false h16
    refine CT.skip (PX.then_n (CT.seq (CT.seq (CT.region ?_))))
    refine Wl.q rfl rfl (OpQ.move rfl) ?_
    refine Wl.q rfl rfl (OpQ.lenSv K1_un9 rfl) ?_
    refine Wl.q rfl rfl (OpQ.move rfl) ?_
    refine Wl.nil (PX.then_n (CT.block ?_))
    refine CT.loop (ι := Nat) (fun k => k ≤ ws.length ∧ ∀ j, j < k → okB letters (ws.getD j 0) = true) (fun k => [(0, sv ws), (1, .int .i64 (letters)), (18, .int .i64 (ws.length : Int)), (19, .int .i64 (k : Int))]) (fun _ => []) (fun k => ws.length - k) 0 ⟨by omega, by omega⟩ ⟨rfl, rfl, rfl, rfl, trivial⟩ (HSub.none _) (fun k ⟨hk, hall⟩ K0 hK0 => ?_)
    have hu := u8_lt (ws.getD k 0)
    refine CT.seq (CT.region ?_)
    refine Wl.q rfl rfl (OpQ.lss rfl rfl) ?_
    refine Wl.nil (PX.then_n (CT.seq ?_))
    refine CT.cond rfl (fun h20 => ?_) (fun h20 => ?_)
    ·
     have h20 := of_decide_eq_true h20
     refine CT.skip (PX.then_n (CT.seq (CT.block (CT.seq (CT.region ?_)))))
     refine Wl.q rfl rfl (OpQ.move rfl) ?_
     refine Wl.q rfl rfl (OpQ.assign rfl) ?_
     refine Wl.nil (PX.then_n (CT.seq (CT.region ?_)))
     refine Wl.q rfl rfl (OpQ.move rfl) ?_
     refine Wl.q rfl rfl (OpQ.move rfl) ?_
     refine Wl.q rfl rfl (OpQ.indexSvN K1_un9 rfl rfl (by omega)) ?_
     refine Wl.q rfl rfl (OpQ.lss rfl rfl) ?_
     refine Wl.q rfl rfl (OpQ.move rfl) ?_
     refine Wl.split 26 rfl (fun hg26 => ?_) (fun hg26 => ?_)
     ·
      have hg26 := of_decide_eq_true hg26
      refine Wl.skip rfl rfl ?_
      refine Wl.skip rfl rfl ?_
      refine Wl.skip rfl rfl ?_
      refine Wl.skip rfl rfl ?_
      refine Wl.skip rfl rfl ?_
      refine Wl.skip rfl rfl ?_
      refine Wl.skip rfl rfl ?_
      refine Wl.q rfl rfl (OpQ.pickT rfl rfl) ?_
      refine Wl.nil (PX.then_n ?_)
      refine CT.condT rfl ?_
      refine CT.seq (CT.region ?_)
      refine Wl.q rfl rfl (OpQ.assign rfl) ?_
      refine Wl.nil (PX.then_n (CT.ret (PX.block_r (PX.then_r (PX.then_r (PX.block_r (PX.then_r ?_)))))))
      refine PX.ret1 rfl rfl (fun w' hH => ?_)
      exact ⟨ret_b (okW_bad (j := k) (by omega) (by rw [okB, decide_eq_false_iff_not]; omega)).symm, hH.ext⟩
     ·
      have hg26 := of_decide_eq_false hg26
      refine Wl.q rfl rfl (OpQ.move rfl) ?_
      refine Wl.q rfl rfl (OpQ.move rfl) ?_
      refine Wl.q rfl rfl (OpQ.indexSvN K1_un9 rfl rfl (by omega)) ?_
      refine Wl.q rfl rfl (OpQ.sub8 rfl rfl (by omega)) ?_
      refine Wl.q rfl rfl (OpQ.conv rfl (conv_u8_i64 K1_un5 K1_un3 _ (by omega))) ?_
      refine Wl.q rfl rfl (OpQ.move rfl) ?_
      refine Wl.q rfl rfl (OpQ.geq rfl rfl) ?_
      refine Wl.q rfl rfl (OpQ.pickF rfl rfl) ?_
      refine Wl.nil (PX.then_n ?_)
      refine CT.cond rfl (fun h34 => ?_) (fun h34 => ?_)
      ·
       have h34 := of_decide_eq_true h34
       refine CT.seq (CT.region ?_)
       refine Wl.q rfl rfl (OpQ.assign rfl) ?_
       refine Wl.nil (PX.then_n (CT.ret (PX.block_r (PX.then_r (PX.then_r (PX.block_r (PX.then_r ?_)))))))
       refine PX.ret1 rfl rfl (fun w' hH => ?_)
       exact ⟨ret_b (okW_bad (j := k) (by omega) (by rw [okB, decide_eq_false_iff_not]; omega)).symm, hH.ext⟩
      ·
       have h34 := of_decide_eq_false h34
       refine CT.skip (PX.block_n (PX.then_n (CT.region ?_)))
       refine Wl.q rfl rfl (OpQ.add rfl rfl (by omega)) ?_
       refine Wl.q rfl rfl (OpQ.move rfl) ?_
       refine Wl.nil ?_
       have hall2 : ∀ j, j < k + 1 → okB letters (ws.getD j 0) = true := fun j hj => by
        rcases Nat.lt_or_ge j k with h | h
        ·
         exact hall j h
        ·
         rw [show j = k by omega]; exact (by rw [okB, decide_eq_true_eq]; omega)
       exact PX.loop hK0 (k + 1) ⟨by omega, hall2⟩ (by first | omega | (dsimp only; omega)) ⟨rfl, rfl, rfl, rfl, trivial⟩ (HSub.none _)
    ·
     have h20 := of_decide_eq_false h20
     refine CT.exit (PX.then_x (PX.then_x (PX.block_x (PX.then_n (CT.seq (CT.region ?_))))))
     refine Wl.q rfl rfl (OpQ.assign rfl) ?_
     refine Wl.nil (PX.then_n (CT.ret ?_))
     refine PX.ret1 rfl rfl (fun w' hH => ?_)
     exact ⟨ret_b (okW_ok (may_in (by omega) (by omega)) (by omega) (fun j hj => hall j (by omega))).symm, hH.ext⟩

end Go.Proofs.YtmggcdegekbncabGreatDoor

