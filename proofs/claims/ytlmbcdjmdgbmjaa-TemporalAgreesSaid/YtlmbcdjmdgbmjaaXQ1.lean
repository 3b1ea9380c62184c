/-
  What functions of the program compute, each by its walk. Conditions: those that each theorem names.
-/
import Derived.Test.YtlmbcdjmdgbmjaaMod
import Derived.Test.YtlmbcdjmdgbmjaaProg
set_option linter.unusedSimpArgs false
namespace Go.Proofs.Ytlmbcdjmdgbmjaa
open Go Go.Eng Go.Tl

theorem in97 : (Try.prog.info? 97).map (fun i => (i.zero, i.size, i.bytes)) = some (some (.agg #[.bool false, .bool false, .bool false, .bool false]), 4, 4) := by kernel_rfl
theorem pl97 : placesB Try.prog 97 = some (#[.bool false, .bool false, .bool false, .bool false], [(0, 1), (1, 1), (2, 1), (3, 1)]) := by kernel_rfl
theorem sz97 : sizeB Try.prog 97 = some 4 := by kernel_rfl
theorem ag97 : isAggB Try.prog 97 = some true := by kernel_rfl
set_option maxRecDepth 100000 in
/-- semigroup/temporal.fieldsOf -/
theorem fieldsOf_spec (w : World) (op : Int) : Calls Try.prog 53 #[.int .i64 (op)] w (fun e w' => e = .returned (.agg #[.bool (fl op), .bool (fa op), .bool (fb op), .bool (fk op)]) ∧ Ext [] w w') := by
 refine enter (args := [.int .i64 (op)]) [] 21 Try.func53 rfl rfl rfl ?_
 refine CT.seq ?_
 refine CT.region ?_
 refine Wl.g rfl rfl (OpG.alloc (zs := [.bool false, .bool false, .bool false, .bool false]) in97 rfl rfl) ?_
 rintro b2 _
 refine Wl.nil ?_
 refine PX.then_n ?_
 refine CT.seq ?_
 refine CT.seq ?_
 refine CT.region ?_
 refine Wl.q rfl rfl (OpQ.move rfl) ?_
 refine Wl.nil ?_
 refine PX.then_n ?_
 refine CT.block ?_
 refine CT.seq ?_
 refine CT.seq ?_
 refine CT.region ?_
 refine Wl.q rfl rfl (OpQ.eql rfl rfl) ?_
 refine Wl.q rfl rfl (OpQ.assign rfl) ?_
 refine Wl.nil ?_
 refine PX.then_n ?_
 refine CT.cond rfl (fun h4 => ?_) (fun h4 => ?_)
 ·
  have h4 := of_decide_eq_true h4
  refine CT.skip ?_
  refine PX.then_n ?_
  refine CT.cond rfl (fun h4 => ?_) (fun h4 => ?_)
  ·
   have h4 := of_decide_eq_true h4
   refine CT.seq ?_
   refine CT.region ?_
   refine Wl.q rfl rfl (OpQ.build pl97 rfl rfl) ?_
   refine Wl.g rfl rfl (OpG.storeV (b := b2) sz97 rfl rfl rfl rfl (by repeat (first | exact Upd.here | apply Upd.there))) ?_
   rintro _ _
   refine Wl.nil ?_
   refine PX.then_n ?_
   refine CT.ret ?_
   refine PX.block_r ?_
   refine PX.then_r ?_
   refine PX.retC rfl rfl (by repeat (first | exact Has.here | apply Has.there)) ag97 sz97 (by rfl) (fun w' hH => ?_)
   exact ⟨fd_ret (by first | (rw [fl, decide_eq_true_eq]; omega) | (rw [fl, decide_eq_false_iff_not]; omega)) (by first | (rw [fa, decide_eq_true_eq]; omega) | (rw [fa, decide_eq_false_iff_not]; omega)) (by first | (rw [fb, decide_eq_true_eq]; omega) | (rw [fb, decide_eq_false_iff_not]; omega)) (by first | (rw [fk, decide_eq_true_eq]; omega) | (rw [fk, decide_eq_false_iff_not]; omega)), hH.ext⟩
  ·
   have h4 := of_decide_eq_false h4
   refine CT.seq ?_
   refine CT.region ?_
   refine Wl.q rfl rfl (OpQ.eql rfl rfl) ?_
   refine Wl.q rfl rfl (OpQ.assign rfl) ?_
   refine Wl.nil ?_
   refine PX.then_n ?_
   refine CT.cond rfl (fun h8 => ?_) (fun h8 => ?_)
   ·
    have h8 := of_decide_eq_true h8
    refine CT.seq ?_
    refine CT.region ?_
    refine Wl.q rfl rfl (OpQ.build pl97 rfl rfl) ?_
    refine Wl.g rfl rfl (OpG.storeV (b := b2) sz97 rfl rfl rfl rfl (by repeat (first | exact Upd.here | apply Upd.there))) ?_
    rintro _ _
    refine Wl.nil ?_
    refine PX.then_n ?_
    refine CT.ret ?_
    refine PX.block_r ?_
    refine PX.then_r ?_
    refine PX.retC rfl rfl (by repeat (first | exact Has.here | apply Has.there)) ag97 sz97 (by rfl) (fun w' hH => ?_)
    exact ⟨fd_ret (by first | (rw [fl, decide_eq_true_eq]; omega) | (rw [fl, decide_eq_false_iff_not]; omega)) (by first | (rw [fa, decide_eq_true_eq]; omega) | (rw [fa, decide_eq_false_iff_not]; omega)) (by first | (rw [fb, decide_eq_true_eq]; omega) | (rw [fb, decide_eq_false_iff_not]; omega)) (by first | (rw [fk, decide_eq_true_eq]; omega) | (rw [fk, decide_eq_false_iff_not]; omega)), hH.ext⟩
   ·
    have h8 := of_decide_eq_false h8
    refine CT.seq ?_
    refine CT.seq ?_
    refine CT.region ?_
    refine Wl.q rfl rfl (OpQ.eql rfl rfl) ?_
    refine Wl.q rfl rfl (OpQ.assign rfl) ?_
    refine Wl.nil ?_
    refine PX.then_n ?_
    refine CT.cond rfl (fun h11 => ?_) (fun h11 => ?_)
    ·
     have h11 := of_decide_eq_true h11
     refine CT.skip ?_
     refine PX.then_n ?_
     refine CT.cond rfl (fun h11 => ?_) (fun h11 => ?_)
     ·
      have h11 := of_decide_eq_true h11
      refine CT.seq ?_
      refine CT.region ?_
      refine Wl.q rfl rfl (OpQ.build pl97 rfl rfl) ?_
      refine Wl.g rfl rfl (OpG.storeV (b := b2) sz97 rfl rfl rfl rfl (by repeat (first | exact Upd.here | apply Upd.there))) ?_
      rintro _ _
      refine Wl.nil ?_
      refine PX.then_n ?_
      refine CT.ret ?_
      refine PX.block_r ?_
      refine PX.then_r ?_
      refine PX.retC rfl rfl (by repeat (first | exact Has.here | apply Has.there)) ag97 sz97 (by rfl) (fun w' hH => ?_)
      exact ⟨fd_ret (by first | (rw [fl, decide_eq_true_eq]; omega) | (rw [fl, decide_eq_false_iff_not]; omega)) (by first | (rw [fa, decide_eq_true_eq]; omega) | (rw [fa, decide_eq_false_iff_not]; omega)) (by first | (rw [fb, decide_eq_true_eq]; omega) | (rw [fb, decide_eq_false_iff_not]; omega)) (by first | (rw [fk, decide_eq_true_eq]; omega) | (rw [fk, decide_eq_false_iff_not]; omega)), hH.ext⟩
     ·
      have h11 := of_decide_eq_false h11
      refine CT.seq ?_
      refine CT.seq ?_
      refine CT.region ?_
      refine Wl.q rfl rfl (OpQ.eql rfl rfl) ?_
      refine Wl.q rfl rfl (OpQ.assign rfl) ?_
      refine Wl.nil ?_
      refine PX.then_n ?_
      refine CT.cond rfl (fun h15 => ?_) (fun h15 => ?_)
      ·
       have h15 := of_decide_eq_true h15
       refine CT.skip ?_
       refine PX.then_n ?_
       refine CT.cond rfl (fun h15 => ?_) (fun h15 => ?_)
       ·
        have h15 := of_decide_eq_true h15
        refine CT.seq ?_
        refine CT.region ?_
        refine Wl.q rfl rfl (OpQ.build pl97 rfl rfl) ?_
        refine Wl.g rfl rfl (OpG.storeV (b := b2) sz97 rfl rfl rfl rfl (by repeat (first | exact Upd.here | apply Upd.there))) ?_
        rintro _ _
        refine Wl.nil ?_
        refine PX.then_n ?_
        refine CT.ret ?_
        refine PX.block_r ?_
        refine PX.then_r ?_
        refine PX.retC rfl rfl (by repeat (first | exact Has.here | apply Has.there)) ag97 sz97 (by rfl) (fun w' hH => ?_)
        exact ⟨fd_ret (by first | (rw [fl, decide_eq_true_eq]; omega) | (rw [fl, decide_eq_false_iff_not]; omega)) (by first | (rw [fa, decide_eq_true_eq]; omega) | (rw [fa, decide_eq_false_iff_not]; omega)) (by first | (rw [fb, decide_eq_true_eq]; omega) | (rw [fb, decide_eq_false_iff_not]; omega)) (by first | (rw [fk, decide_eq_true_eq]; omega) | (rw [fk, decide_eq_false_iff_not]; omega)), hH.ext⟩
       ·
        have h15 := of_decide_eq_false h15
        refine CT.skip ?_
        refine PX.block_n ?_
        refine PX.then_n ?_
        refine CT.seq ?_
        refine CT.region ?_
        refine Wl.q rfl rfl (OpQ.build pl97 rfl rfl) ?_
        refine Wl.g rfl rfl (OpG.storeV (b := b2) sz97 rfl rfl rfl rfl (by repeat (first | exact Upd.here | apply Upd.there))) ?_
        rintro _ _
        refine Wl.nil ?_
        refine PX.then_n ?_
        refine CT.ret ?_
        refine PX.retC rfl rfl (by repeat (first | exact Has.here | apply Has.there)) ag97 sz97 (by rfl) (fun w' hH => ?_)
        exact ⟨fd_ret (by first | (rw [fl, decide_eq_true_eq]; omega) | (rw [fl, decide_eq_false_iff_not]; omega)) (by first | (rw [fa, decide_eq_true_eq]; omega) | (rw [fa, decide_eq_false_iff_not]; omega)) (by first | (rw [fb, decide_eq_true_eq]; omega) | (rw [fb, decide_eq_false_iff_not]; omega)) (by first | (rw [fk, decide_eq_true_eq]; omega) | (rw [fk, decide_eq_false_iff_not]; omega)), hH.ext⟩
      ·
       have h15 := of_decide_eq_false h15
       refine CT.seq ?_
       refine CT.region ?_
       refine Wl.q rfl rfl (OpQ.eql rfl rfl) ?_
       refine Wl.q rfl rfl (OpQ.assign rfl) ?_
       refine Wl.nil ?_
       refine PX.then_n ?_
       refine CT.cond rfl (fun h15 => ?_) (fun h15 => ?_)
       ·
        have h15 := of_decide_eq_true h15
        refine CT.skip ?_
        refine PX.then_n ?_
        refine CT.cond rfl (fun h15 => ?_) (fun h15 => ?_)
        ·
         have h15 := of_decide_eq_true h15
         refine CT.seq ?_
         refine CT.region ?_
         refine Wl.q rfl rfl (OpQ.build pl97 rfl rfl) ?_
         refine Wl.g rfl rfl (OpG.storeV (b := b2) sz97 rfl rfl rfl rfl (by repeat (first | exact Upd.here | apply Upd.there))) ?_
         rintro _ _
         refine Wl.nil ?_
         refine PX.then_n ?_
         refine CT.ret ?_
         refine PX.block_r ?_
         refine PX.then_r ?_
         refine PX.retC rfl rfl (by repeat (first | exact Has.here | apply Has.there)) ag97 sz97 (by rfl) (fun w' hH => ?_)
         exact ⟨fd_ret (by first | (rw [fl, decide_eq_true_eq]; omega) | (rw [fl, decide_eq_false_iff_not]; omega)) (by first | (rw [fa, decide_eq_true_eq]; omega) | (rw [fa, decide_eq_false_iff_not]; omega)) (by first | (rw [fb, decide_eq_true_eq]; omega) | (rw [fb, decide_eq_false_iff_not]; omega)) (by first | (rw [fk, decide_eq_true_eq]; omega) | (rw [fk, decide_eq_false_iff_not]; omega)), hH.ext⟩
        ·
         have h15 := of_decide_eq_false h15
         refine CT.skip ?_
         refine PX.block_n ?_
         refine PX.then_n ?_
         refine CT.seq ?_
         refine CT.region ?_
         refine Wl.q rfl rfl (OpQ.build pl97 rfl rfl) ?_
         refine Wl.g rfl rfl (OpG.storeV (b := b2) sz97 rfl rfl rfl rfl (by repeat (first | exact Upd.here | apply Upd.there))) ?_
         rintro _ _
         refine Wl.nil ?_
         refine PX.then_n ?_
         refine CT.ret ?_
         refine PX.retC rfl rfl (by repeat (first | exact Has.here | apply Has.there)) ag97 sz97 (by rfl) (fun w' hH => ?_)
         exact ⟨fd_ret (by first | (rw [fl, decide_eq_true_eq]; omega) | (rw [fl, decide_eq_false_iff_not]; omega)) (by first | (rw [fa, decide_eq_true_eq]; omega) | (rw [fa, decide_eq_false_iff_not]; omega)) (by first | (rw [fb, decide_eq_true_eq]; omega) | (rw [fb, decide_eq_false_iff_not]; omega)) (by first | (rw [fk, decide_eq_true_eq]; omega) | (rw [fk, decide_eq_false_iff_not]; omega)), hH.ext⟩
       ·
        have h15 := of_decide_eq_false h15
        refine CT.region ?_
        refine Wl.q rfl rfl (OpQ.eql rfl rfl) ?_
        refine Wl.q rfl rfl (OpQ.assign rfl) ?_
        refine Wl.nil ?_
        refine PX.then_n ?_
        refine CT.cond rfl (fun h15 => ?_) (fun h15 => ?_)
        ·
         have h15 := of_decide_eq_true h15
         refine CT.seq ?_
         refine CT.region ?_
         refine Wl.q rfl rfl (OpQ.build pl97 rfl rfl) ?_
         refine Wl.g rfl rfl (OpG.storeV (b := b2) sz97 rfl rfl rfl rfl (by repeat (first | exact Upd.here | apply Upd.there))) ?_
         rintro _ _
         refine Wl.nil ?_
         refine PX.then_n ?_
         refine CT.ret ?_
         refine PX.block_r ?_
         refine PX.then_r ?_
         refine PX.retC rfl rfl (by repeat (first | exact Has.here | apply Has.there)) ag97 sz97 (by rfl) (fun w' hH => ?_)
         exact ⟨fd_ret (by first | (rw [fl, decide_eq_true_eq]; omega) | (rw [fl, decide_eq_false_iff_not]; omega)) (by first | (rw [fa, decide_eq_true_eq]; omega) | (rw [fa, decide_eq_false_iff_not]; omega)) (by first | (rw [fb, decide_eq_true_eq]; omega) | (rw [fb, decide_eq_false_iff_not]; omega)) (by first | (rw [fk, decide_eq_true_eq]; omega) | (rw [fk, decide_eq_false_iff_not]; omega)), hH.ext⟩
        ·
         have h15 := of_decide_eq_false h15
         refine CT.skip ?_
         refine PX.block_n ?_
         refine PX.then_n ?_
         refine CT.seq ?_
         refine CT.region ?_
         refine Wl.q rfl rfl (OpQ.build pl97 rfl rfl) ?_
         refine Wl.g rfl rfl (OpG.storeV (b := b2) sz97 rfl rfl rfl rfl (by repeat (first | exact Upd.here | apply Upd.there))) ?_
         rintro _ _
         refine Wl.nil ?_
         refine PX.then_n ?_
         refine CT.ret ?_
         refine PX.retC rfl rfl (by repeat (first | exact Has.here | apply Has.there)) ag97 sz97 (by rfl) (fun w' hH => ?_)
         exact ⟨fd_ret (by first | (rw [fl, decide_eq_true_eq]; omega) | (rw [fl, decide_eq_false_iff_not]; omega)) (by first | (rw [fa, decide_eq_true_eq]; omega) | (rw [fa, decide_eq_false_iff_not]; omega)) (by first | (rw [fb, decide_eq_true_eq]; omega) | (rw [fb, decide_eq_false_iff_not]; omega)) (by first | (rw [fk, decide_eq_true_eq]; omega) | (rw [fk, decide_eq_false_iff_not]; omega)), hH.ext⟩
    ·
     have h11 := of_decide_eq_false h11
     refine CT.region ?_
     refine Wl.q rfl rfl (OpQ.eql rfl rfl) ?_
     refine Wl.q rfl rfl (OpQ.assign rfl) ?_
     refine Wl.nil ?_
     refine PX.then_n ?_
     refine CT.cond rfl (fun h11 => ?_) (fun h11 => ?_)
     ·
      have h11 := of_decide_eq_true h11
      refine CT.seq ?_
      refine CT.region ?_
      refine Wl.q rfl rfl (OpQ.build pl97 rfl rfl) ?_
      refine Wl.g rfl rfl (OpG.storeV (b := b2) sz97 rfl rfl rfl rfl (by repeat (first | exact Upd.here | apply Upd.there))) ?_
      rintro _ _
      refine Wl.nil ?_
      refine PX.then_n ?_
      refine CT.ret ?_
      refine PX.block_r ?_
      refine PX.then_r ?_
      refine PX.retC rfl rfl (by repeat (first | exact Has.here | apply Has.there)) ag97 sz97 (by rfl) (fun w' hH => ?_)
      exact ⟨fd_ret (by first | (rw [fl, decide_eq_true_eq]; omega) | (rw [fl, decide_eq_false_iff_not]; omega)) (by first | (rw [fa, decide_eq_true_eq]; omega) | (rw [fa, decide_eq_false_iff_not]; omega)) (by first | (rw [fb, decide_eq_true_eq]; omega) | (rw [fb, decide_eq_false_iff_not]; omega)) (by first | (rw [fk, decide_eq_true_eq]; omega) | (rw [fk, decide_eq_false_iff_not]; omega)), hH.ext⟩
     ·
      have h11 := of_decide_eq_false h11
      refine CT.seq ?_
      refine CT.seq ?_
      refine CT.region ?_
      refine Wl.q rfl rfl (OpQ.eql rfl rfl) ?_
      refine Wl.q rfl rfl (OpQ.assign rfl) ?_
      refine Wl.nil ?_
      refine PX.then_n ?_
      refine CT.cond rfl (fun h15 => ?_) (fun h15 => ?_)
      ·
       have h15 := of_decide_eq_true h15
       refine CT.skip ?_
       refine PX.then_n ?_
       refine CT.cond rfl (fun h15 => ?_) (fun h15 => ?_)
       ·
        have h15 := of_decide_eq_true h15
        refine CT.seq ?_
        refine CT.region ?_
        refine Wl.q rfl rfl (OpQ.build pl97 rfl rfl) ?_
        refine Wl.g rfl rfl (OpG.storeV (b := b2) sz97 rfl rfl rfl rfl (by repeat (first | exact Upd.here | apply Upd.there))) ?_
        rintro _ _
        refine Wl.nil ?_
        refine PX.then_n ?_
        refine CT.ret ?_
        refine PX.block_r ?_
        refine PX.then_r ?_
        refine PX.retC rfl rfl (by repeat (first | exact Has.here | apply Has.there)) ag97 sz97 (by rfl) (fun w' hH => ?_)
        exact ⟨fd_ret (by first | (rw [fl, decide_eq_true_eq]; omega) | (rw [fl, decide_eq_false_iff_not]; omega)) (by first | (rw [fa, decide_eq_true_eq]; omega) | (rw [fa, decide_eq_false_iff_not]; omega)) (by first | (rw [fb, decide_eq_true_eq]; omega) | (rw [fb, decide_eq_false_iff_not]; omega)) (by first | (rw [fk, decide_eq_true_eq]; omega) | (rw [fk, decide_eq_false_iff_not]; omega)), hH.ext⟩
       ·
        have h15 := of_decide_eq_false h15
        refine CT.skip ?_
        refine PX.block_n ?_
        refine PX.then_n ?_
        refine CT.seq ?_
        refine CT.region ?_
        refine Wl.q rfl rfl (OpQ.build pl97 rfl rfl) ?_
        refine Wl.g rfl rfl (OpG.storeV (b := b2) sz97 rfl rfl rfl rfl (by repeat (first | exact Upd.here | apply Upd.there))) ?_
        rintro _ _
        refine Wl.nil ?_
        refine PX.then_n ?_
        refine CT.ret ?_
        refine PX.retC rfl rfl (by repeat (first | exact Has.here | apply Has.there)) ag97 sz97 (by rfl) (fun w' hH => ?_)
        exact ⟨fd_ret (by first | (rw [fl, decide_eq_true_eq]; omega) | (rw [fl, decide_eq_false_iff_not]; omega)) (by first | (rw [fa, decide_eq_true_eq]; omega) | (rw [fa, decide_eq_false_iff_not]; omega)) (by first | (rw [fb, decide_eq_true_eq]; omega) | (rw [fb, decide_eq_false_iff_not]; omega)) (by first | (rw [fk, decide_eq_true_eq]; omega) | (rw [fk, decide_eq_false_iff_not]; omega)), hH.ext⟩
      ·
       have h15 := of_decide_eq_false h15
       refine CT.seq ?_
       refine CT.region ?_
       refine Wl.q rfl rfl (OpQ.eql rfl rfl) ?_
       refine Wl.q rfl rfl (OpQ.assign rfl) ?_
       refine Wl.nil ?_
       refine PX.then_n ?_
       refine CT.cond rfl (fun h15 => ?_) (fun h15 => ?_)
       ·
        have h15 := of_decide_eq_true h15
        refine CT.skip ?_
        refine PX.then_n ?_
        refine CT.cond rfl (fun h15 => ?_) (fun h15 => ?_)
        ·
         have h15 := of_decide_eq_true h15
         refine CT.seq ?_
         refine CT.region ?_
         refine Wl.q rfl rfl (OpQ.build pl97 rfl rfl) ?_
         refine Wl.g rfl rfl (OpG.storeV (b := b2) sz97 rfl rfl rfl rfl (by repeat (first | exact Upd.here | apply Upd.there))) ?_
         rintro _ _
         refine Wl.nil ?_
         refine PX.then_n ?_
         refine CT.ret ?_
         refine PX.block_r ?_
         refine PX.then_r ?_
         refine PX.retC rfl rfl (by repeat (first | exact Has.here | apply Has.there)) ag97 sz97 (by rfl) (fun w' hH => ?_)
         exact ⟨fd_ret (by first | (rw [fl, decide_eq_true_eq]; omega) | (rw [fl, decide_eq_false_iff_not]; omega)) (by first | (rw [fa, decide_eq_true_eq]; omega) | (rw [fa, decide_eq_false_iff_not]; omega)) (by first | (rw [fb, decide_eq_true_eq]; omega) | (rw [fb, decide_eq_false_iff_not]; omega)) (by first | (rw [fk, decide_eq_true_eq]; omega) | (rw [fk, decide_eq_false_iff_not]; omega)), hH.ext⟩
        ·
         have h15 := of_decide_eq_false h15
         refine CT.skip ?_
         refine PX.block_n ?_
         refine PX.then_n ?_
         refine CT.seq ?_
         refine CT.region ?_
         refine Wl.q rfl rfl (OpQ.build pl97 rfl rfl) ?_
         refine Wl.g rfl rfl (OpG.storeV (b := b2) sz97 rfl rfl rfl rfl (by repeat (first | exact Upd.here | apply Upd.there))) ?_
         rintro _ _
         refine Wl.nil ?_
         refine PX.then_n ?_
         refine CT.ret ?_
         refine PX.retC rfl rfl (by repeat (first | exact Has.here | apply Has.there)) ag97 sz97 (by rfl) (fun w' hH => ?_)
         exact ⟨fd_ret (by first | (rw [fl, decide_eq_true_eq]; omega) | (rw [fl, decide_eq_false_iff_not]; omega)) (by first | (rw [fa, decide_eq_true_eq]; omega) | (rw [fa, decide_eq_false_iff_not]; omega)) (by first | (rw [fb, decide_eq_true_eq]; omega) | (rw [fb, decide_eq_false_iff_not]; omega)) (by first | (rw [fk, decide_eq_true_eq]; omega) | (rw [fk, decide_eq_false_iff_not]; omega)), hH.ext⟩
       ·
        have h15 := of_decide_eq_false h15
        refine CT.region ?_
        refine Wl.q rfl rfl (OpQ.eql rfl rfl) ?_
        refine Wl.q rfl rfl (OpQ.assign rfl) ?_
        refine Wl.nil ?_
        refine PX.then_n ?_
        refine CT.cond rfl (fun h15 => ?_) (fun h15 => ?_)
        ·
         have h15 := of_decide_eq_true h15
         refine CT.seq ?_
         refine CT.region ?_
         refine Wl.q rfl rfl (OpQ.build pl97 rfl rfl) ?_
         refine Wl.g rfl rfl (OpG.storeV (b := b2) sz97 rfl rfl rfl rfl (by repeat (first | exact Upd.here | apply Upd.there))) ?_
         rintro _ _
         refine Wl.nil ?_
         refine PX.then_n ?_
         refine CT.ret ?_
         refine PX.block_r ?_
         refine PX.then_r ?_
         refine PX.retC rfl rfl (by repeat (first | exact Has.here | apply Has.there)) ag97 sz97 (by rfl) (fun w' hH => ?_)
         exact ⟨fd_ret (by first | (rw [fl, decide_eq_true_eq]; omega) | (rw [fl, decide_eq_false_iff_not]; omega)) (by first | (rw [fa, decide_eq_true_eq]; omega) | (rw [fa, decide_eq_false_iff_not]; omega)) (by first | (rw [fb, decide_eq_true_eq]; omega) | (rw [fb, decide_eq_false_iff_not]; omega)) (by first | (rw [fk, decide_eq_true_eq]; omega) | (rw [fk, decide_eq_false_iff_not]; omega)), hH.ext⟩
        ·
         have h15 := of_decide_eq_false h15
         refine CT.skip ?_
         refine PX.block_n ?_
         refine PX.then_n ?_
         refine CT.seq ?_
         refine CT.region ?_
         refine Wl.q rfl rfl (OpQ.build pl97 rfl rfl) ?_
         refine Wl.g rfl rfl (OpG.storeV (b := b2) sz97 rfl rfl rfl rfl (by repeat (first | exact Upd.here | apply Upd.there))) ?_
         rintro _ _
         refine Wl.nil ?_
         refine PX.then_n ?_
         refine CT.ret ?_
         refine PX.retC rfl rfl (by repeat (first | exact Has.here | apply Has.there)) ag97 sz97 (by rfl) (fun w' hH => ?_)
         exact ⟨fd_ret (by first | (rw [fl, decide_eq_true_eq]; omega) | (rw [fl, decide_eq_false_iff_not]; omega)) (by first | (rw [fa, decide_eq_true_eq]; omega) | (rw [fa, decide_eq_false_iff_not]; omega)) (by first | (rw [fb, decide_eq_true_eq]; omega) | (rw [fb, decide_eq_false_iff_not]; omega)) (by first | (rw [fk, decide_eq_true_eq]; omega) | (rw [fk, decide_eq_false_iff_not]; omega)), hH.ext⟩
 ·
  have h4 := of_decide_eq_false h4
  refine CT.region ?_
  refine Wl.q rfl rfl (OpQ.eql rfl rfl) ?_
  refine Wl.q rfl rfl (OpQ.assign rfl) ?_
  refine Wl.nil ?_
  refine PX.then_n ?_
  refine CT.cond rfl (fun h4 => ?_) (fun h4 => ?_)
  ·
   have h4 := of_decide_eq_true h4
   refine CT.seq ?_
   refine CT.region ?_
   refine Wl.q rfl rfl (OpQ.build pl97 rfl rfl) ?_
   refine Wl.g rfl rfl (OpG.storeV (b := b2) sz97 rfl rfl rfl rfl (by repeat (first | exact Upd.here | apply Upd.there))) ?_
   rintro _ _
   refine Wl.nil ?_
   refine PX.then_n ?_
   refine CT.ret ?_
   refine PX.block_r ?_
   refine PX.then_r ?_
   refine PX.retC rfl rfl (by repeat (first | exact Has.here | apply Has.there)) ag97 sz97 (by rfl) (fun w' hH => ?_)
   exact ⟨fd_ret (by first | (rw [fl, decide_eq_true_eq]; omega) | (rw [fl, decide_eq_false_iff_not]; omega)) (by first | (rw [fa, decide_eq_true_eq]; omega) | (rw [fa, decide_eq_false_iff_not]; omega)) (by first | (rw [fb, decide_eq_true_eq]; omega) | (rw [fb, decide_eq_false_iff_not]; omega)) (by first | (rw [fk, decide_eq_true_eq]; omega) | (rw [fk, decide_eq_false_iff_not]; omega)), hH.ext⟩
  ·
   have h4 := of_decide_eq_false h4
   refine CT.seq ?_
   refine CT.region ?_
   refine Wl.q rfl rfl (OpQ.eql rfl rfl) ?_
   refine Wl.q rfl rfl (OpQ.assign rfl) ?_
   refine Wl.nil ?_
   refine PX.then_n ?_
   refine CT.cond rfl (fun h8 => ?_) (fun h8 => ?_)
   ·
    have h8 := of_decide_eq_true h8
    refine CT.seq ?_
    refine CT.region ?_
    refine Wl.q rfl rfl (OpQ.build pl97 rfl rfl) ?_
    refine Wl.g rfl rfl (OpG.storeV (b := b2) sz97 rfl rfl rfl rfl (by repeat (first | exact Upd.here | apply Upd.there))) ?_
    rintro _ _
    refine Wl.nil ?_
    refine PX.then_n ?_
    refine CT.ret ?_
    refine PX.block_r ?_
    refine PX.then_r ?_
    refine PX.retC rfl rfl (by repeat (first | exact Has.here | apply Has.there)) ag97 sz97 (by rfl) (fun w' hH => ?_)
    exact ⟨fd_ret (by first | (rw [fl, decide_eq_true_eq]; omega) | (rw [fl, decide_eq_false_iff_not]; omega)) (by first | (rw [fa, decide_eq_true_eq]; omega) | (rw [fa, decide_eq_false_iff_not]; omega)) (by first | (rw [fb, decide_eq_true_eq]; omega) | (rw [fb, decide_eq_false_iff_not]; omega)) (by first | (rw [fk, decide_eq_true_eq]; omega) | (rw [fk, decide_eq_false_iff_not]; omega)), hH.ext⟩
   ·
    have h8 := of_decide_eq_false h8
    refine CT.seq ?_
    refine CT.seq ?_
    refine CT.region ?_
    refine Wl.q rfl rfl (OpQ.eql rfl rfl) ?_
    refine Wl.q rfl rfl (OpQ.assign rfl) ?_
    refine Wl.nil ?_
    refine PX.then_n ?_
    refine CT.cond rfl (fun h11 => ?_) (fun h11 => ?_)
    ·
     have h11 := of_decide_eq_true h11
     refine CT.skip ?_
     refine PX.then_n ?_
     refine CT.cond rfl (fun h11 => ?_) (fun h11 => ?_)
     ·
      have h11 := of_decide_eq_true h11
      refine CT.seq ?_
      refine CT.region ?_
      refine Wl.q rfl rfl (OpQ.build pl97 rfl rfl) ?_
      refine Wl.g rfl rfl (OpG.storeV (b := b2) sz97 rfl rfl rfl rfl (by repeat (first | exact Upd.here | apply Upd.there))) ?_
      rintro _ _
      refine Wl.nil ?_
      refine PX.then_n ?_
      refine CT.ret ?_
      refine PX.block_r ?_
      refine PX.then_r ?_
      refine PX.retC rfl rfl (by repeat (first | exact Has.here | apply Has.there)) ag97 sz97 (by rfl) (fun w' hH => ?_)
      exact ⟨fd_ret (by first | (rw [fl, decide_eq_true_eq]; omega) | (rw [fl, decide_eq_false_iff_not]; omega)) (by first | (rw [fa, decide_eq_true_eq]; omega) | (rw [fa, decide_eq_false_iff_not]; omega)) (by first | (rw [fb, decide_eq_true_eq]; omega) | (rw [fb, decide_eq_false_iff_not]; omega)) (by first | (rw [fk, decide_eq_true_eq]; omega) | (rw [fk, decide_eq_false_iff_not]; omega)), hH.ext⟩
     ·
      have h11 := of_decide_eq_false h11
      refine CT.seq ?_
      refine CT.seq ?_
      refine CT.region ?_
      refine Wl.q rfl rfl (OpQ.eql rfl rfl) ?_
      refine Wl.q rfl rfl (OpQ.assign rfl) ?_
      refine Wl.nil ?_
      refine PX.then_n ?_
      refine CT.cond rfl (fun h15 => ?_) (fun h15 => ?_)
      ·
       have h15 := of_decide_eq_true h15
       refine CT.skip ?_
       refine PX.then_n ?_
       refine CT.cond rfl (fun h15 => ?_) (fun h15 => ?_)
       ·
        have h15 := of_decide_eq_true h15
        refine CT.seq ?_
        refine CT.region ?_
        refine Wl.q rfl rfl (OpQ.build pl97 rfl rfl) ?_
        refine Wl.g rfl rfl (OpG.storeV (b := b2) sz97 rfl rfl rfl rfl (by repeat (first | exact Upd.here | apply Upd.there))) ?_
        rintro _ _
        refine Wl.nil ?_
        refine PX.then_n ?_
        refine CT.ret ?_
        refine PX.block_r ?_
        refine PX.then_r ?_
        refine PX.retC rfl rfl (by repeat (first | exact Has.here | apply Has.there)) ag97 sz97 (by rfl) (fun w' hH => ?_)
        exact ⟨fd_ret (by first | (rw [fl, decide_eq_true_eq]; omega) | (rw [fl, decide_eq_false_iff_not]; omega)) (by first | (rw [fa, decide_eq_true_eq]; omega) | (rw [fa, decide_eq_false_iff_not]; omega)) (by first | (rw [fb, decide_eq_true_eq]; omega) | (rw [fb, decide_eq_false_iff_not]; omega)) (by first | (rw [fk, decide_eq_true_eq]; omega) | (rw [fk, decide_eq_false_iff_not]; omega)), hH.ext⟩
       ·
        have h15 := of_decide_eq_false h15
        refine CT.skip ?_
        refine PX.block_n ?_
        refine PX.then_n ?_
        refine CT.seq ?_
        refine CT.region ?_
        refine Wl.q rfl rfl (OpQ.build pl97 rfl rfl) ?_
        refine Wl.g rfl rfl (OpG.storeV (b := b2) sz97 rfl rfl rfl rfl (by repeat (first | exact Upd.here | apply Upd.there))) ?_
        rintro _ _
        refine Wl.nil ?_
        refine PX.then_n ?_
        refine CT.ret ?_
        refine PX.retC rfl rfl (by repeat (first | exact Has.here | apply Has.there)) ag97 sz97 (by rfl) (fun w' hH => ?_)
        exact ⟨fd_ret (by first | (rw [fl, decide_eq_true_eq]; omega) | (rw [fl, decide_eq_false_iff_not]; omega)) (by first | (rw [fa, decide_eq_true_eq]; omega) | (rw [fa, decide_eq_false_iff_not]; omega)) (by first | (rw [fb, decide_eq_true_eq]; omega) | (rw [fb, decide_eq_false_iff_not]; omega)) (by first | (rw [fk, decide_eq_true_eq]; omega) | (rw [fk, decide_eq_false_iff_not]; omega)), hH.ext⟩
      ·
       have h15 := of_decide_eq_false h15
       refine CT.seq ?_
       refine CT.region ?_
       refine Wl.q rfl rfl (OpQ.eql rfl rfl) ?_
       refine Wl.q rfl rfl (OpQ.assign rfl) ?_
       refine Wl.nil ?_
       refine PX.then_n ?_
       refine CT.cond rfl (fun h15 => ?_) (fun h15 => ?_)
       ·
        have h15 := of_decide_eq_true h15
        refine CT.skip ?_
        refine PX.then_n ?_
        refine CT.cond rfl (fun h15 => ?_) (fun h15 => ?_)
        ·
         have h15 := of_decide_eq_true h15
         refine CT.seq ?_
         refine CT.region ?_
         refine Wl.q rfl rfl (OpQ.build pl97 rfl rfl) ?_
         refine Wl.g rfl rfl (OpG.storeV (b := b2) sz97 rfl rfl rfl rfl (by repeat (first | exact Upd.here | apply Upd.there))) ?_
         rintro _ _
         refine Wl.nil ?_
         refine PX.then_n ?_
         refine CT.ret ?_
         refine PX.block_r ?_
         refine PX.then_r ?_
         refine PX.retC rfl rfl (by repeat (first | exact Has.here | apply Has.there)) ag97 sz97 (by rfl) (fun w' hH => ?_)
         exact ⟨fd_ret (by first | (rw [fl, decide_eq_true_eq]; omega) | (rw [fl, decide_eq_false_iff_not]; omega)) (by first | (rw [fa, decide_eq_true_eq]; omega) | (rw [fa, decide_eq_false_iff_not]; omega)) (by first | (rw [fb, decide_eq_true_eq]; omega) | (rw [fb, decide_eq_false_iff_not]; omega)) (by first | (rw [fk, decide_eq_true_eq]; omega) | (rw [fk, decide_eq_false_iff_not]; omega)), hH.ext⟩
        ·
         have h15 := of_decide_eq_false h15
         refine CT.skip ?_
         refine PX.block_n ?_
         refine PX.then_n ?_
         refine CT.seq ?_
         refine CT.region ?_
         refine Wl.q rfl rfl (OpQ.build pl97 rfl rfl) ?_
         refine Wl.g rfl rfl (OpG.storeV (b := b2) sz97 rfl rfl rfl rfl (by repeat (first | exact Upd.here | apply Upd.there))) ?_
         rintro _ _
         refine Wl.nil ?_
         refine PX.then_n ?_
         refine CT.ret ?_
         refine PX.retC rfl rfl (by repeat (first | exact Has.here | apply Has.there)) ag97 sz97 (by rfl) (fun w' hH => ?_)
         exact ⟨fd_ret (by first | (rw [fl, decide_eq_true_eq]; omega) | (rw [fl, decide_eq_false_iff_not]; omega)) (by first | (rw [fa, decide_eq_true_eq]; omega) | (rw [fa, decide_eq_false_iff_not]; omega)) (by first | (rw [fb, decide_eq_true_eq]; omega) | (rw [fb, decide_eq_false_iff_not]; omega)) (by first | (rw [fk, decide_eq_true_eq]; omega) | (rw [fk, decide_eq_false_iff_not]; omega)), hH.ext⟩
       ·
        have h15 := of_decide_eq_false h15
        refine CT.region ?_
        refine Wl.q rfl rfl (OpQ.eql rfl rfl) ?_
        refine Wl.q rfl rfl (OpQ.assign rfl) ?_
        refine Wl.nil ?_
        refine PX.then_n ?_
        refine CT.cond rfl (fun h15 => ?_) (fun h15 => ?_)
        ·
         have h15 := of_decide_eq_true h15
         refine CT.seq ?_
         refine CT.region ?_
         refine Wl.q rfl rfl (OpQ.build pl97 rfl rfl) ?_
         refine Wl.g rfl rfl (OpG.storeV (b := b2) sz97 rfl rfl rfl rfl (by repeat (first | exact Upd.here | apply Upd.there))) ?_
         rintro _ _
         refine Wl.nil ?_
         refine PX.then_n ?_
         refine CT.ret ?_
         refine PX.block_r ?_
         refine PX.then_r ?_
         refine PX.retC rfl rfl (by repeat (first | exact Has.here | apply Has.there)) ag97 sz97 (by rfl) (fun w' hH => ?_)
         exact ⟨fd_ret (by first | (rw [fl, decide_eq_true_eq]; omega) | (rw [fl, decide_eq_false_iff_not]; omega)) (by first | (rw [fa, decide_eq_true_eq]; omega) | (rw [fa, decide_eq_false_iff_not]; omega)) (by first | (rw [fb, decide_eq_true_eq]; omega) | (rw [fb, decide_eq_false_iff_not]; omega)) (by first | (rw [fk, decide_eq_true_eq]; omega) | (rw [fk, decide_eq_false_iff_not]; omega)), hH.ext⟩
        ·
         have h15 := of_decide_eq_false h15
         refine CT.skip ?_
         refine PX.block_n ?_
         refine PX.then_n ?_
         refine CT.seq ?_
         refine CT.region ?_
         refine Wl.q rfl rfl (OpQ.build pl97 rfl rfl) ?_
         refine Wl.g rfl rfl (OpG.storeV (b := b2) sz97 rfl rfl rfl rfl (by repeat (first | exact Upd.here | apply Upd.there))) ?_
         rintro _ _
         refine Wl.nil ?_
         refine PX.then_n ?_
         refine CT.ret ?_
         refine PX.retC rfl rfl (by repeat (first | exact Has.here | apply Has.there)) ag97 sz97 (by rfl) (fun w' hH => ?_)
         exact ⟨fd_ret (by first | (rw [fl, decide_eq_true_eq]; omega) | (rw [fl, decide_eq_false_iff_not]; omega)) (by first | (rw [fa, decide_eq_true_eq]; omega) | (rw [fa, decide_eq_false_iff_not]; omega)) (by first | (rw [fb, decide_eq_true_eq]; omega) | (rw [fb, decide_eq_false_iff_not]; omega)) (by first | (rw [fk, decide_eq_true_eq]; omega) | (rw [fk, decide_eq_false_iff_not]; omega)), hH.ext⟩
    ·
     have h11 := of_decide_eq_false h11
     refine CT.region ?_
     refine Wl.q rfl rfl (OpQ.eql rfl rfl) ?_
     refine Wl.q rfl rfl (OpQ.assign rfl) ?_
     refine Wl.nil ?_
     refine PX.then_n ?_
     refine CT.cond rfl (fun h11 => ?_) (fun h11 => ?_)
     ·
      have h11 := of_decide_eq_true h11
      refine CT.seq ?_
      refine CT.region ?_
      refine Wl.q rfl rfl (OpQ.build pl97 rfl rfl) ?_
      refine Wl.g rfl rfl (OpG.storeV (b := b2) sz97 rfl rfl rfl rfl (by repeat (first | exact Upd.here | apply Upd.there))) ?_
      rintro _ _
      refine Wl.nil ?_
      refine PX.then_n ?_
      refine CT.ret ?_
      refine PX.block_r ?_
      refine PX.then_r ?_
      refine PX.retC rfl rfl (by repeat (first | exact Has.here | apply Has.there)) ag97 sz97 (by rfl) (fun w' hH => ?_)
      exact ⟨fd_ret (by first | (rw [fl, decide_eq_true_eq]; omega) | (rw [fl, decide_eq_false_iff_not]; omega)) (by first | (rw [fa, decide_eq_true_eq]; omega) | (rw [fa, decide_eq_false_iff_not]; omega)) (by first | (rw [fb, decide_eq_true_eq]; omega) | (rw [fb, decide_eq_false_iff_not]; omega)) (by first | (rw [fk, decide_eq_true_eq]; omega) | (rw [fk, decide_eq_false_iff_not]; omega)), hH.ext⟩
     ·
      have h11 := of_decide_eq_false h11
      refine CT.seq ?_
      refine CT.seq ?_
      refine CT.region ?_
      refine Wl.q rfl rfl (OpQ.eql rfl rfl) ?_
      refine Wl.q rfl rfl (OpQ.assign rfl) ?_
      refine Wl.nil ?_
      refine PX.then_n ?_
      refine CT.cond rfl (fun h15 => ?_) (fun h15 => ?_)
      ·
       have h15 := of_decide_eq_true h15
       refine CT.skip ?_
       refine PX.then_n ?_
       refine CT.cond rfl (fun h15 => ?_) (fun h15 => ?_)
       ·
        have h15 := of_decide_eq_true h15
        refine CT.seq ?_
        refine CT.region ?_
        refine Wl.q rfl rfl (OpQ.build pl97 rfl rfl) ?_
        refine Wl.g rfl rfl (OpG.storeV (b := b2) sz97 rfl rfl rfl rfl (by repeat (first | exact Upd.here | apply Upd.there))) ?_
        rintro _ _
        refine Wl.nil ?_
        refine PX.then_n ?_
        refine CT.ret ?_
        refine PX.block_r ?_
        refine PX.then_r ?_
        refine PX.retC rfl rfl (by repeat (first | exact Has.here | apply Has.there)) ag97 sz97 (by rfl) (fun w' hH => ?_)
        exact ⟨fd_ret (by first | (rw [fl, decide_eq_true_eq]; omega) | (rw [fl, decide_eq_false_iff_not]; omega)) (by first | (rw [fa, decide_eq_true_eq]; omega) | (rw [fa, decide_eq_false_iff_not]; omega)) (by first | (rw [fb, decide_eq_true_eq]; omega) | (rw [fb, decide_eq_false_iff_not]; omega)) (by first | (rw [fk, decide_eq_true_eq]; omega) | (rw [fk, decide_eq_false_iff_not]; omega)), hH.ext⟩
       ·
        have h15 := of_decide_eq_false h15
        refine CT.skip ?_
        refine PX.block_n ?_
        refine PX.then_n ?_
        refine CT.seq ?_
        refine CT.region ?_
        refine Wl.q rfl rfl (OpQ.build pl97 rfl rfl) ?_
        refine Wl.g rfl rfl (OpG.storeV (b := b2) sz97 rfl rfl rfl rfl (by repeat (first | exact Upd.here | apply Upd.there))) ?_
        rintro _ _
        refine Wl.nil ?_
        refine PX.then_n ?_
        refine CT.ret ?_
        refine PX.retC rfl rfl (by repeat (first | exact Has.here | apply Has.there)) ag97 sz97 (by rfl) (fun w' hH => ?_)
        exact ⟨fd_ret (by first | (rw [fl, decide_eq_true_eq]; omega) | (rw [fl, decide_eq_false_iff_not]; omega)) (by first | (rw [fa, decide_eq_true_eq]; omega) | (rw [fa, decide_eq_false_iff_not]; omega)) (by first | (rw [fb, decide_eq_true_eq]; omega) | (rw [fb, decide_eq_false_iff_not]; omega)) (by first | (rw [fk, decide_eq_true_eq]; omega) | (rw [fk, decide_eq_false_iff_not]; omega)), hH.ext⟩
      ·
       have h15 := of_decide_eq_false h15
       refine CT.seq ?_
       refine CT.region ?_
       refine Wl.q rfl rfl (OpQ.eql rfl rfl) ?_
       refine Wl.q rfl rfl (OpQ.assign rfl) ?_
       refine Wl.nil ?_
       refine PX.then_n ?_
       refine CT.cond rfl (fun h15 => ?_) (fun h15 => ?_)
       ·
        have h15 := of_decide_eq_true h15
        refine CT.skip ?_
        refine PX.then_n ?_
        refine CT.cond rfl (fun h15 => ?_) (fun h15 => ?_)
        ·
         have h15 := of_decide_eq_true h15
         refine CT.seq ?_
         refine CT.region ?_
         refine Wl.q rfl rfl (OpQ.build pl97 rfl rfl) ?_
         refine Wl.g rfl rfl (OpG.storeV (b := b2) sz97 rfl rfl rfl rfl (by repeat (first | exact Upd.here | apply Upd.there))) ?_
         rintro _ _
         refine Wl.nil ?_
         refine PX.then_n ?_
         refine CT.ret ?_
         refine PX.block_r ?_
         refine PX.then_r ?_
         refine PX.retC rfl rfl (by repeat (first | exact Has.here | apply Has.there)) ag97 sz97 (by rfl) (fun w' hH => ?_)
         exact ⟨fd_ret (by first | (rw [fl, decide_eq_true_eq]; omega) | (rw [fl, decide_eq_false_iff_not]; omega)) (by first | (rw [fa, decide_eq_true_eq]; omega) | (rw [fa, decide_eq_false_iff_not]; omega)) (by first | (rw [fb, decide_eq_true_eq]; omega) | (rw [fb, decide_eq_false_iff_not]; omega)) (by first | (rw [fk, decide_eq_true_eq]; omega) | (rw [fk, decide_eq_false_iff_not]; omega)), hH.ext⟩
        ·
         have h15 := of_decide_eq_false h15
         refine CT.skip ?_
         refine PX.block_n ?_
         refine PX.then_n ?_
         refine CT.seq ?_
         refine CT.region ?_
         refine Wl.q rfl rfl (OpQ.build pl97 rfl rfl) ?_
         refine Wl.g rfl rfl (OpG.storeV (b := b2) sz97 rfl rfl rfl rfl (by repeat (first | exact Upd.here | apply Upd.there))) ?_
         rintro _ _
         refine Wl.nil ?_
         refine PX.then_n ?_
         refine CT.ret ?_
         refine PX.retC rfl rfl (by repeat (first | exact Has.here | apply Has.there)) ag97 sz97 (by rfl) (fun w' hH => ?_)
         exact ⟨fd_ret (by first | (rw [fl, decide_eq_true_eq]; omega) | (rw [fl, decide_eq_false_iff_not]; omega)) (by first | (rw [fa, decide_eq_true_eq]; omega) | (rw [fa, decide_eq_false_iff_not]; omega)) (by first | (rw [fb, decide_eq_true_eq]; omega) | (rw [fb, decide_eq_false_iff_not]; omega)) (by first | (rw [fk, decide_eq_true_eq]; omega) | (rw [fk, decide_eq_false_iff_not]; omega)), hH.ext⟩
       ·
        have h15 := of_decide_eq_false h15
        refine CT.region ?_
        refine Wl.q rfl rfl (OpQ.eql rfl rfl) ?_
        refine Wl.q rfl rfl (OpQ.assign rfl) ?_
        refine Wl.nil ?_
        refine PX.then_n ?_
        refine CT.cond rfl (fun h15 => ?_) (fun h15 => ?_)
        ·
         have h15 := of_decide_eq_true h15
         refine CT.seq ?_
         refine CT.region ?_
         refine Wl.q rfl rfl (OpQ.build pl97 rfl rfl) ?_
         refine Wl.g rfl rfl (OpG.storeV (b := b2) sz97 rfl rfl rfl rfl (by repeat (first | exact Upd.here | apply Upd.there))) ?_
         rintro _ _
         refine Wl.nil ?_
         refine PX.then_n ?_
         refine CT.ret ?_
         refine PX.block_r ?_
         refine PX.then_r ?_
         refine PX.retC rfl rfl (by repeat (first | exact Has.here | apply Has.there)) ag97 sz97 (by rfl) (fun w' hH => ?_)
         exact ⟨fd_ret (by first | (rw [fl, decide_eq_true_eq]; omega) | (rw [fl, decide_eq_false_iff_not]; omega)) (by first | (rw [fa, decide_eq_true_eq]; omega) | (rw [fa, decide_eq_false_iff_not]; omega)) (by first | (rw [fb, decide_eq_true_eq]; omega) | (rw [fb, decide_eq_false_iff_not]; omega)) (by first | (rw [fk, decide_eq_true_eq]; omega) | (rw [fk, decide_eq_false_iff_not]; omega)), hH.ext⟩
        ·
         have h15 := of_decide_eq_false h15
         refine CT.skip ?_
         refine PX.block_n ?_
         refine PX.then_n ?_
         refine CT.seq ?_
         refine CT.region ?_
         refine Wl.q rfl rfl (OpQ.build pl97 rfl rfl) ?_
         refine Wl.g rfl rfl (OpG.storeV (b := b2) sz97 rfl rfl rfl rfl (by repeat (first | exact Upd.here | apply Upd.there))) ?_
         rintro _ _
         refine Wl.nil ?_
         refine PX.then_n ?_
         refine CT.ret ?_
         refine PX.retC rfl rfl (by repeat (first | exact Has.here | apply Has.there)) ag97 sz97 (by rfl) (fun w' hH => ?_)
         exact ⟨fd_ret (by first | (rw [fl, decide_eq_true_eq]; omega) | (rw [fl, decide_eq_false_iff_not]; omega)) (by first | (rw [fa, decide_eq_true_eq]; omega) | (rw [fa, decide_eq_false_iff_not]; omega)) (by first | (rw [fb, decide_eq_true_eq]; omega) | (rw [fb, decide_eq_false_iff_not]; omega)) (by first | (rw [fk, decide_eq_true_eq]; omega) | (rw [fk, decide_eq_false_iff_not]; omega)), hH.ext⟩

set_option maxRecDepth 100000 in
/-- semigroup/temporal.validField -/
theorem validField_spec (w : World) (v n : Int) (need : Bool) : Calls Try.prog 54 #[.int .i64 (v), .int .i64 (n), .bool need] w (fun e w' => e = .returned (.bool (vf v n need)) ∧ Ext [] w w') := by
 refine enter (args := [.int .i64 (v), .int .i64 (n), .bool need]) [] 17 Try.func54 rfl rfl rfl ?_
 refine CT.seq ?_
 refine CT.region ?_
 refine Wl.q rfl rfl (OpQ.assign rfl) ?_
 refine Wl.nil ?_
 refine PX.then_n ?_
 refine CT.seq ?_
 refine CT.seq ?_
 refine CT.region ?_
 refine Wl.q rfl rfl (OpQ.move rfl) ?_
 refine Wl.nil ?_
 refine PX.then_n ?_
 refine CT.cond rfl (fun h7 => ?_) (fun h7 => ?_)
 ·
  subst h7
  rw [vf_t]
  refine CT.seq ?_
  refine CT.region ?_
  refine Wl.q rfl rfl (OpQ.move rfl) ?_
  refine Wl.q rfl rfl (OpQ.geq rfl rfl) ?_
  refine Wl.q rfl rfl (OpQ.move rfl) ?_
  refine Wl.split 10 rfl (fun hg10 => ?_) (fun hg10 => ?_)
  ·
   have hg10 := of_decide_eq_true hg10
   refine Wl.q rfl rfl (OpQ.move rfl) ?_
   refine Wl.q rfl rfl (OpQ.move rfl) ?_
   refine Wl.q rfl rfl (OpQ.lss rfl rfl) ?_
   refine Wl.q rfl rfl (OpQ.pickT rfl rfl) ?_
   refine Wl.q rfl rfl (OpQ.assign rfl) ?_
   refine Wl.nil ?_
   refine PX.then_n ?_
   refine CT.ret ?_
   refine PX.then_r ?_
   refine PX.ret1 rfl rfl (fun w' hH => ?_)
   exact ⟨ret_b (by rw [decide_eq_decide]; omega), hH.ext⟩
  ·
   have hg10 := of_decide_eq_false hg10
   refine Wl.skip rfl rfl ?_
   refine Wl.skip rfl rfl ?_
   refine Wl.skip rfl rfl ?_
   refine Wl.q rfl rfl (OpQ.pickF rfl rfl) ?_
   refine Wl.q rfl rfl (OpQ.assign rfl) ?_
   refine Wl.nil ?_
   refine PX.then_n ?_
   refine CT.ret ?_
   refine PX.then_r ?_
   refine PX.ret1 rfl rfl (fun w' hH => ?_)
   exact ⟨ret_b (by rw [eq_comm, decide_eq_false_iff_not]; omega), hH.ext⟩
 ·
  subst h7
  rw [vf_f]
  refine CT.skip ?_
  refine PX.then_n ?_
  refine CT.seq ?_
  refine CT.region ?_
  refine Wl.q rfl rfl (OpQ.move rfl) ?_
  refine Wl.q rfl rfl (OpQ.eql rfl rfl) ?_
  refine Wl.q rfl rfl (OpQ.assign rfl) ?_
  refine Wl.nil ?_
  refine PX.then_n ?_
  refine CT.ret ?_
  refine PX.ret1 rfl rfl (fun w' hH => ?_)
  exact ⟨rfl, hH.ext⟩

set_option maxRecDepth 100000 in
/-- semigroup/semigroupref01.MayLetters -/
theorem may_spec (w : World) (l : Int) : Calls Try.prog 39 #[.int .i64 (l)] w (fun e w' => e = .returned (.bool (mayL l)) ∧ Ext [] w w') := by
 refine enter (args := [.int .i64 (l)]) [] 9 Try.func39 rfl rfl rfl ?_
 refine CT.seq ?_
 refine CT.region ?_
 refine Wl.q rfl rfl (OpQ.assign rfl) ?_
 refine Wl.nil ?_
 refine PX.then_n ?_
 refine CT.seq ?_
 refine CT.region ?_
 refine Wl.q rfl rfl (OpQ.move rfl) ?_
 refine Wl.q rfl rfl (OpQ.geq rfl rfl) ?_
 refine Wl.q rfl rfl (OpQ.move rfl) ?_
 refine Wl.split 5 rfl (fun hg5 => ?_) (fun hg5 => ?_)
 ·
  have hg5 := of_decide_eq_true hg5
  refine Wl.q rfl rfl (OpQ.move rfl) ?_
  refine Wl.q rfl rfl (OpQ.leq rfl rfl) ?_
  refine Wl.q rfl rfl (OpQ.pickT rfl rfl) ?_
  refine Wl.q rfl rfl (OpQ.assign rfl) ?_
  refine Wl.nil ?_
  refine PX.then_n ?_
  refine CT.ret ?_
  refine PX.ret1 rfl rfl (fun w' hH => ?_)
  exact ⟨ret_b (by rw [mayL, decide_eq_decide]; omega), hH.ext⟩
 ·
  have hg5 := of_decide_eq_false hg5
  refine Wl.skip rfl rfl ?_
  refine Wl.skip rfl rfl ?_
  refine Wl.q rfl rfl (OpQ.pickF rfl rfl) ?_
  refine Wl.q rfl rfl (OpQ.assign rfl) ?_
  refine Wl.nil ?_
  refine PX.then_n ?_
  refine CT.ret ?_
  refine PX.ret1 rfl rfl (fun w' hH => ?_)
  exact ⟨ret_b (by rw [eq_comm, mayL, decide_eq_false_iff_not]; omega), hH.ext⟩

set_option maxRecDepth 100000 in
/-- semigroup/semigroupref39.refers -/
theorem refers_spec (w : World) (op : Int) : Calls Try.prog 40 #[.int .i64 (op)] w (fun e w' => e = .returned (.int .i64 (rf op)) ∧ Ext [] w w') := by
 refine enter (args := [.int .i64 (op)]) [] 11 Try.func40 rfl rfl rfl ?_
 refine CT.seq ?_
 refine CT.region ?_
 refine Wl.q rfl rfl (OpQ.assign rfl) ?_
 refine Wl.nil ?_
 refine PX.then_n ?_
 refine CT.seq ?_
 refine CT.seq ?_
 refine CT.region ?_
 refine Wl.q rfl rfl (OpQ.move rfl) ?_
 refine Wl.nil ?_
 refine PX.then_n ?_
 refine CT.block ?_
 refine CT.seq ?_
 refine CT.seq ?_
 refine CT.region ?_
 refine Wl.q rfl rfl (OpQ.eql rfl rfl) ?_
 refine Wl.q rfl rfl (OpQ.assign rfl) ?_
 refine Wl.nil ?_
 refine PX.then_n ?_
 refine CT.cond rfl (fun h4 => ?_) (fun h4 => ?_)
 ·
  have h4 := of_decide_eq_true h4
  refine CT.skip ?_
  refine PX.then_n ?_
  refine CT.cond rfl (fun h4 => ?_) (fun h4 => ?_)
  ·
   have h4 := of_decide_eq_true h4
   refine CT.seq ?_
   refine CT.region ?_
   refine Wl.q rfl rfl (OpQ.assign rfl) ?_
   refine Wl.nil ?_
   refine PX.then_n ?_
   refine CT.ret ?_
   refine PX.block_r ?_
   refine PX.then_r ?_
   refine PX.ret1 rfl rfl (fun w' hH => ?_)
   exact ⟨ret_i (by unfold rf; split <;> first | omega | (split <;> omega)), hH.ext⟩
  ·
   have h4 := of_decide_eq_false h4
   refine CT.seq ?_
   refine CT.seq ?_
   refine CT.region ?_
   refine Wl.q rfl rfl (OpQ.eql rfl rfl) ?_
   refine Wl.q rfl rfl (OpQ.assign rfl) ?_
   refine Wl.nil ?_
   refine PX.then_n ?_
   refine CT.cond rfl (fun h7 => ?_) (fun h7 => ?_)
   ·
    have h7 := of_decide_eq_true h7
    refine CT.skip ?_
    refine PX.then_n ?_
    refine CT.cond rfl (fun h7 => ?_) (fun h7 => ?_)
    ·
     have h7 := of_decide_eq_true h7
     refine CT.seq ?_
     refine CT.region ?_
     refine Wl.q rfl rfl (OpQ.assign rfl) ?_
     refine Wl.nil ?_
     refine PX.then_n ?_
     refine CT.ret ?_
     refine PX.block_r ?_
     refine PX.then_r ?_
     refine PX.ret1 rfl rfl (fun w' hH => ?_)
     exact ⟨ret_i (by unfold rf; split <;> first | omega | (split <;> omega)), hH.ext⟩
    ·
     have h7 := of_decide_eq_false h7
     refine CT.skip ?_
     refine PX.block_n ?_
     refine PX.then_n ?_
     refine CT.seq ?_
     refine CT.region ?_
     refine Wl.q rfl rfl (OpQ.assign rfl) ?_
     refine Wl.nil ?_
     refine PX.then_n ?_
     refine CT.ret ?_
     refine PX.ret1 rfl rfl (fun w' hH => ?_)
     exact ⟨ret_i (by unfold rf; split <;> first | omega | (split <;> omega)), hH.ext⟩
   ·
    have h7 := of_decide_eq_false h7
    refine CT.seq ?_
    refine CT.region ?_
    refine Wl.q rfl rfl (OpQ.eql rfl rfl) ?_
    refine Wl.q rfl rfl (OpQ.assign rfl) ?_
    refine Wl.nil ?_
    refine PX.then_n ?_
    refine CT.cond rfl (fun h7 => ?_) (fun h7 => ?_)
    ·
     have h7 := of_decide_eq_true h7
     refine CT.skip ?_
     refine PX.then_n ?_
     refine CT.cond rfl (fun h7 => ?_) (fun h7 => ?_)
     ·
      have h7 := of_decide_eq_true h7
      refine CT.seq ?_
      refine CT.region ?_
      refine Wl.q rfl rfl (OpQ.assign rfl) ?_
      refine Wl.nil ?_
      refine PX.then_n ?_
      refine CT.ret ?_
      refine PX.block_r ?_
      refine PX.then_r ?_
      refine PX.ret1 rfl rfl (fun w' hH => ?_)
      exact ⟨ret_i (by unfold rf; split <;> first | omega | (split <;> omega)), hH.ext⟩
     ·
      have h7 := of_decide_eq_false h7
      refine CT.skip ?_
      refine PX.block_n ?_
      refine PX.then_n ?_
      refine CT.seq ?_
      refine CT.region ?_
      refine Wl.q rfl rfl (OpQ.assign rfl) ?_
      refine Wl.nil ?_
      refine PX.then_n ?_
      refine CT.ret ?_
      refine PX.ret1 rfl rfl (fun w' hH => ?_)
      exact ⟨ret_i (by unfold rf; split <;> first | omega | (split <;> omega)), hH.ext⟩
    ·
     have h7 := of_decide_eq_false h7
     refine CT.region ?_
     refine Wl.q rfl rfl (OpQ.eql rfl rfl) ?_
     refine Wl.q rfl rfl (OpQ.assign rfl) ?_
     refine Wl.nil ?_
     refine PX.then_n ?_
     refine CT.cond rfl (fun h7 => ?_) (fun h7 => ?_)
     ·
      have h7 := of_decide_eq_true h7
      refine CT.seq ?_
      refine CT.region ?_
      refine Wl.q rfl rfl (OpQ.assign rfl) ?_
      refine Wl.nil ?_
      refine PX.then_n ?_
      refine CT.ret ?_
      refine PX.block_r ?_
      refine PX.then_r ?_
      refine PX.ret1 rfl rfl (fun w' hH => ?_)
      exact ⟨ret_i (by unfold rf; split <;> first | omega | (split <;> omega)), hH.ext⟩
     ·
      have h7 := of_decide_eq_false h7
      refine CT.skip ?_
      refine PX.block_n ?_
      refine PX.then_n ?_
      refine CT.seq ?_
      refine CT.region ?_
      refine Wl.q rfl rfl (OpQ.assign rfl) ?_
      refine Wl.nil ?_
      refine PX.then_n ?_
      refine CT.ret ?_
      refine PX.ret1 rfl rfl (fun w' hH => ?_)
      exact ⟨ret_i (by unfold rf; split <;> first | omega | (split <;> omega)), hH.ext⟩
 ·
  have h4 := of_decide_eq_false h4
  refine CT.region ?_
  refine Wl.q rfl rfl (OpQ.eql rfl rfl) ?_
  refine Wl.q rfl rfl (OpQ.assign rfl) ?_
  refine Wl.nil ?_
  refine PX.then_n ?_
  refine CT.cond rfl (fun h4 => ?_) (fun h4 => ?_)
  ·
   have h4 := of_decide_eq_true h4
   refine CT.seq ?_
   refine CT.region ?_
   refine Wl.q rfl rfl (OpQ.assign rfl) ?_
   refine Wl.nil ?_
   refine PX.then_n ?_
   refine CT.ret ?_
   refine PX.block_r ?_
   refine PX.then_r ?_
   refine PX.ret1 rfl rfl (fun w' hH => ?_)
   exact ⟨ret_i (by unfold rf; split <;> first | omega | (split <;> omega)), hH.ext⟩
  ·
   have h4 := of_decide_eq_false h4
   refine CT.seq ?_
   refine CT.seq ?_
   refine CT.region ?_
   refine Wl.q rfl rfl (OpQ.eql rfl rfl) ?_
   refine Wl.q rfl rfl (OpQ.assign rfl) ?_
   refine Wl.nil ?_
   refine PX.then_n ?_
   refine CT.cond rfl (fun h7 => ?_) (fun h7 => ?_)
   ·
    have h7 := of_decide_eq_true h7
    refine CT.skip ?_
    refine PX.then_n ?_
    refine CT.cond rfl (fun h7 => ?_) (fun h7 => ?_)
    ·
     have h7 := of_decide_eq_true h7
     refine CT.seq ?_
     refine CT.region ?_
     refine Wl.q rfl rfl (OpQ.assign rfl) ?_
     refine Wl.nil ?_
     refine PX.then_n ?_
     refine CT.ret ?_
     refine PX.block_r ?_
     refine PX.then_r ?_
     refine PX.ret1 rfl rfl (fun w' hH => ?_)
     exact ⟨ret_i (by unfold rf; split <;> first | omega | (split <;> omega)), hH.ext⟩
    ·
     have h7 := of_decide_eq_false h7
     refine CT.skip ?_
     refine PX.block_n ?_
     refine PX.then_n ?_
     refine CT.seq ?_
     refine CT.region ?_
     refine Wl.q rfl rfl (OpQ.assign rfl) ?_
     refine Wl.nil ?_
     refine PX.then_n ?_
     refine CT.ret ?_
     refine PX.ret1 rfl rfl (fun w' hH => ?_)
     exact ⟨ret_i (by unfold rf; split <;> first | omega | (split <;> omega)), hH.ext⟩
   ·
    have h7 := of_decide_eq_false h7
    refine CT.seq ?_
    refine CT.region ?_
    refine Wl.q rfl rfl (OpQ.eql rfl rfl) ?_
    refine Wl.q rfl rfl (OpQ.assign rfl) ?_
    refine Wl.nil ?_
    refine PX.then_n ?_
    refine CT.cond rfl (fun h7 => ?_) (fun h7 => ?_)
    ·
     have h7 := of_decide_eq_true h7
     refine CT.skip ?_
     refine PX.then_n ?_
     refine CT.cond rfl (fun h7 => ?_) (fun h7 => ?_)
     ·
      have h7 := of_decide_eq_true h7
      refine CT.seq ?_
      refine CT.region ?_
      refine Wl.q rfl rfl (OpQ.assign rfl) ?_
      refine Wl.nil ?_
      refine PX.then_n ?_
      refine CT.ret ?_
      refine PX.block_r ?_
      refine PX.then_r ?_
      refine PX.ret1 rfl rfl (fun w' hH => ?_)
      exact ⟨ret_i (by unfold rf; split <;> first | omega | (split <;> omega)), hH.ext⟩
     ·
      have h7 := of_decide_eq_false h7
      refine CT.skip ?_
      refine PX.block_n ?_
      refine PX.then_n ?_
      refine CT.seq ?_
      refine CT.region ?_
      refine Wl.q rfl rfl (OpQ.assign rfl) ?_
      refine Wl.nil ?_
      refine PX.then_n ?_
      refine CT.ret ?_
      refine PX.ret1 rfl rfl (fun w' hH => ?_)
      exact ⟨ret_i (by unfold rf; split <;> first | omega | (split <;> omega)), hH.ext⟩
    ·
     have h7 := of_decide_eq_false h7
     refine CT.region ?_
     refine Wl.q rfl rfl (OpQ.eql rfl rfl) ?_
     refine Wl.q rfl rfl (OpQ.assign rfl) ?_
     refine Wl.nil ?_
     refine PX.then_n ?_
     refine CT.cond rfl (fun h7 => ?_) (fun h7 => ?_)
     ·
      have h7 := of_decide_eq_true h7
      refine CT.seq ?_
      refine CT.region ?_
      refine Wl.q rfl rfl (OpQ.assign rfl) ?_
      refine Wl.nil ?_
      refine PX.then_n ?_
      refine CT.ret ?_
      refine PX.block_r ?_
      refine PX.then_r ?_
      refine PX.ret1 rfl rfl (fun w' hH => ?_)
      exact ⟨ret_i (by unfold rf; split <;> first | omega | (split <;> omega)), hH.ext⟩
     ·
      have h7 := of_decide_eq_false h7
      refine CT.skip ?_
      refine PX.block_n ?_
      refine PX.then_n ?_
      refine CT.seq ?_
      refine CT.region ?_
      refine Wl.q rfl rfl (OpQ.assign rfl) ?_
      refine Wl.nil ?_
      refine PX.then_n ?_
      refine CT.ret ?_
      refine PX.ret1 rfl rfl (fun w' hH => ?_)
      exact ⟨ret_i (by unfold rf; split <;> first | omega | (split <;> omega)), hH.ext⟩

theorem un22 : Try.prog.underlying 22 = some (.slice 31) := by kernel_rfl
theorem sz31 : sizeB Try.prog 31 = some 4 := by kernel_rfl
theorem ag31 : isAggB Try.prog 31 = some true := by kernel_rfl
theorem in31 : (Try.prog.info? 31).map (fun i => (i.zero, i.size, i.bytes)) = some (some (.agg #[.int .i64 0, .int .i64 0, .int .i64 0, .int .i64 0]), 4, 32) := by kernel_rfl
theorem fa31_0 : fieldB Try.prog 31 0 = some 0 := by kernel_rfl
theorem sc3 : scalarB Try.prog 3 = some true := by kernel_rfl
theorem go53 : isGo Try.prog 53 = true := by kernel_rfl
theorem fa97_3 : fieldB Try.prog 97 3 = some 3 := by kernel_rfl
theorem sc4 : scalarB Try.prog 4 = some true := by kernel_rfl
theorem fa31_1 : fieldB Try.prog 31 1 = some 1 := by kernel_rfl
theorem fa97_0 : fieldB Try.prog 97 0 = some 0 := by kernel_rfl
theorem go54 : isGo Try.prog 54 = true := by kernel_rfl
theorem fa31_2 : fieldB Try.prog 31 2 = some 2 := by kernel_rfl
theorem fa97_1 : fieldB Try.prog 97 1 = some 1 := by kernel_rfl
theorem fa31_3 : fieldB Try.prog 31 3 = some 3 := by kernel_rfl
theorem fa97_2 : fieldB Try.prog 97 2 = some 2 := by kernel_rfl
set_option maxRecDepth 100000 in
/-- semigroup/temporal.Validate -/
theorem validate_spec (w : World) (a : Option Addr) (cp : Nat) (xs : List Tm) (hr : Rd w a (xs.flatMap tv)) (hn : xs.length ≤ 9223372036854775807) (root letters : Int) : Calls Try.prog 30 #[.slice a xs.length cp, .int .i64 (root), .int .i64 (letters)] w (fun e w' => e = .returned (.int .i64 (vdF xs root letters)) ∧ Ext [] w w') := by
 have sm : 0 < xs.length → a.isSome = true := fun h => hr.isSome (j := 0) (by rw [flat_len tv_len]; omega)
 refine enter (args := [.slice a xs.length cp, .int .i64 (root), .int .i64 (letters)]) [] 68 Try.func30 rfl rfl rfl ?_
 refine CT.seq ?_
 refine CT.region ?_
 refine Wl.q rfl rfl (OpQ.assign rfl) ?_
 refine Wl.nil ?_
 refine PX.then_n ?_
 refine CT.seq ?_
 refine CT.seq ?_
 refine CT.region ?_
 refine Wl.q rfl rfl (OpQ.move rfl) ?_
 refine Wl.q rfl rfl (OpQ.lss rfl rfl) ?_
 refine Wl.q rfl rfl (OpQ.move rfl) ?_
 refine Wl.split 12 rfl (fun hg12 => ?_) (fun hg12 => ?_)
 ·
  have hg12 := of_decide_eq_true hg12
  refine Wl.skip rfl rfl ?_
  refine Wl.skip rfl rfl ?_
  refine Wl.q rfl rfl (OpQ.pickT rfl rfl) ?_
  refine Wl.nil ?_
  refine PX.then_n ?_
  refine CT.condT rfl ?_
  refine CT.seq ?_
  refine CT.region ?_
  refine Wl.q rfl rfl (OpQ.assign rfl) ?_
  refine Wl.nil ?_
  refine PX.then_n ?_
  refine CT.ret ?_
  refine PX.then_r ?_
  refine PX.ret1 rfl rfl (fun w' hH => ?_)
  exact ⟨ret_i (vd_may (by omega)).symm, hH.ext⟩
 ·
  have hg12 := of_decide_eq_false hg12
  refine Wl.q rfl rfl (OpQ.move rfl) ?_
  refine Wl.q rfl rfl (OpQ.gtr rfl rfl) ?_
  refine Wl.q rfl rfl (OpQ.pickF rfl rfl) ?_
  refine Wl.nil ?_
  refine PX.then_n ?_
  refine CT.cond rfl (fun h15 => ?_) (fun h15 => ?_)
  ·
   have h15 := of_decide_eq_true h15
   refine CT.seq ?_
   refine CT.region ?_
   refine Wl.q rfl rfl (OpQ.assign rfl) ?_
   refine Wl.nil ?_
   refine PX.then_n ?_
   refine CT.ret ?_
   refine PX.then_r ?_
   refine PX.ret1 rfl rfl (fun w' hH => ?_)
   exact ⟨ret_i (vd_may (by omega)).symm, hH.ext⟩
  ·
   have h15 := of_decide_eq_false h15
   refine CT.skip ?_
   refine PX.then_n ?_
   refine CT.seq ?_
   refine CT.seq ?_
   refine CT.region ?_
   refine Wl.q rfl rfl (OpQ.move rfl) ?_
   refine Wl.q rfl rfl (OpQ.len un22 rfl) ?_
   refine Wl.q rfl rfl (OpQ.gtr rfl rfl) ?_
   refine Wl.nil ?_
   refine PX.then_n ?_
   refine CT.cond rfl (fun h18 => ?_) (fun h18 => ?_)
   ·
    have h18 := of_decide_eq_true h18
    refine CT.seq ?_
    refine CT.region ?_
    refine Wl.q rfl rfl (OpQ.assign rfl) ?_
    refine Wl.nil ?_
    refine PX.then_n ?_
    refine CT.ret ?_
    refine PX.then_r ?_
    refine PX.ret1 rfl rfl (fun w' hH => ?_)
    exact ⟨ret_i (vd_long (may_in (by omega) (by omega)) (by omega)).symm, hH.ext⟩
   ·
    have h18 := of_decide_eq_false h18
    refine CT.skip ?_
    refine PX.then_n ?_
    refine CT.seq ?_
    refine CT.seq ?_
    refine CT.region ?_
    refine Wl.q rfl rfl (OpQ.move rfl) ?_
    refine Wl.q rfl rfl (OpQ.len un22 rfl) ?_
    refine Wl.q rfl rfl (OpQ.move rfl) ?_
    refine Wl.nil ?_
    refine PX.then_n ?_
    refine CT.block ?_
    refine CT.loop (ι := Nat) (fun k => k ≤ xs.length ∧ ∀ j, j < k → okF (xs.getD j t0) j letters = true) (fun k => [(0, .slice a xs.length cp), (1, .int .i64 (root)), (2, .int .i64 (letters)), (19, .slice a xs.length cp), (20, .int .i64 (xs.length : Int)), (21, .int .i64 (k : Int))]) (fun _ => []) (fun k => xs.length - k) 0 ⟨by omega, by omega⟩ ⟨rfl, rfl, rfl, rfl, rfl, rfl, trivial⟩ (HSub.none _) (fun k ⟨hk, hall⟩ K0 hK0 => ?_)
    refine CT.seq ?_
    refine CT.region ?_
    refine Wl.q rfl rfl (OpQ.lss rfl rfl) ?_
    refine Wl.nil ?_
    refine PX.then_n ?_
    refine CT.seq ?_
    refine CT.cond rfl (fun h22 => ?_) (fun h22 => ?_)
    ·
     have h22 := of_decide_eq_true h22
     refine CT.skip ?_
     refine PX.then_n ?_
     refine CT.seq ?_
     refine CT.block ?_
     refine CT.seq ?_
     refine CT.region ?_
     refine Wl.q rfl rfl (OpQ.move rfl) ?_
     refine Wl.q rfl rfl (OpQ.index un22 sz31 rfl rfl (by omega) (sm (by omega))) ?_
     refine Wl.q rfl rfl (OpQ.loadAggG (cs := tv (xs.getD k t0)) ag31 sz31 rfl (fun w hH => hH.rd0 hr rfl) (flat_cells tv_len xs t0 (by omega))) ?_
     refine Wl.g rfl rfl (OpG.alloc (zs := [.int .i64 0, .int .i64 0, .int .i64 0, .int .i64 0]) in31 rfl rfl) ?_
     rintro b8 _
     refine Wl.q rfl rfl (OpQ.assign rfl) ?_
     refine Wl.g rfl rfl (OpG.storeV (b := b8) sz31 rfl rfl rfl rfl (by repeat (first | exact Upd.here | apply Upd.there))) ?_
     rintro _ _
     refine Wl.nil ?_
     refine PX.then_n ?_
     refine CT.seq ?_
     refine CT.region ?_
     refine Wl.q rfl rfl (OpQ.fieldAddr fa31_0 rfl) ?_
     refine Wl.q rfl rfl (OpQ.loadF (b := b8) sc3 rfl (by repeat (first | exact Has.here | apply Has.there)) (by rfl)) ?_
     refine Wl.g rfl rfl (OpG.callV go53 rfl (fun w hH => fieldsOf_spec w _)) ?_
     rintro _ _
     refine Wl.g rfl rfl (OpG.alloc (zs := [.bool false, .bool false, .bool false, .bool false]) in97 rfl rfl) ?_
     rintro b9 _
     refine Wl.g rfl rfl (OpG.storeV (b := b9) sz97 rfl rfl rfl rfl (by repeat (first | exact Upd.here | apply Upd.there))) ?_
     rintro _ _
     refine Wl.nil ?_
     refine PX.then_n ?_
     refine CT.weak (E' := [(0, _), (1, _), (2, _), (7, _), (8, _), (9, _), (19, _), (20, _), (21, _)]) (by repeat (first | exact trivial | refine ⟨rfl, ?_⟩)) (HSub.refl _) ?_
     refine CT.cutB 58 (!okF (xs.getD k t0) k letters) (fun K1 hK1 => ?_) ?_
     ·
      refine CT.region ?_
      refine Wl.q rfl rfl (OpQ.fieldAddr fa97_3 rfl) ?_
      refine Wl.q rfl rfl (OpQ.loadF (b := b9) sc4 rfl (by repeat (first | exact Has.here | apply Has.there)) (by rfl)) ?_
      refine Wl.q rfl rfl (OpQ.not rfl) ?_
      refine Wl.q rfl rfl (OpQ.move rfl) ?_
      refine Wl.split 32 rfl (fun hg32 => ?_) (fun hg32 => ?_)
      ·
       refine Wl.skip rfl rfl ?_
       refine Wl.skip rfl rfl ?_
       refine Wl.skip rfl rfl ?_
       refine Wl.skip rfl rfl ?_
       refine Wl.skip rfl rfl ?_
       refine Wl.skip rfl rfl ?_
       refine Wl.skip rfl rfl ?_
       refine Wl.q rfl rfl (OpQ.pickT rfl rfl) ?_
       refine Wl.q rfl rfl (OpQ.move rfl) ?_
       refine Wl.skip rfl rfl ?_
       refine Wl.skip rfl rfl ?_
       refine Wl.skip rfl rfl ?_
       refine Wl.skip rfl rfl ?_
       refine Wl.skip rfl rfl ?_
       refine Wl.skip rfl rfl ?_
       refine Wl.skip rfl rfl ?_
       refine Wl.q rfl rfl (OpQ.pickT rfl rfl) ?_
       refine Wl.q rfl rfl (OpQ.move rfl) ?_
       refine Wl.skip rfl rfl ?_
       refine Wl.skip rfl rfl ?_
       refine Wl.skip rfl rfl ?_
       refine Wl.skip rfl rfl ?_
       refine Wl.skip rfl rfl ?_
       refine Wl.skip rfl rfl ?_
       refine Wl.skip rfl rfl ?_
       refine Wl.q rfl rfl (OpQ.pickT rfl rfl) ?_
       refine Wl.nil ?_
       exact PX.cutB hK1 ⟨lkV rfl (congrArg Value.bool (by first | (simp [-List.getD_eq_getElem?_getD, okF, hg32, hg41, hg50]) | (simp [-List.getD_eq_getElem?_getD, okF, hg32, hg41]) | (simp [-List.getD_eq_getElem?_getD, okF, hg32]))), (by repeat (first | exact trivial | refine ⟨rfl, ?_⟩))⟩ (HSub.refl _)
      ·
       refine Wl.q rfl rfl (OpQ.fieldAddr fa31_1 rfl) ?_
       refine Wl.q rfl rfl (OpQ.loadF (b := b8) sc3 rfl (by repeat (first | exact Has.here | apply Has.there)) (by rfl)) ?_
       refine Wl.q rfl rfl (OpQ.move rfl) ?_
       refine Wl.q rfl rfl (OpQ.fieldAddr fa97_0 rfl) ?_
       refine Wl.q rfl rfl (OpQ.loadF (b := b9) sc4 rfl (by repeat (first | exact Has.here | apply Has.there)) (by rfl)) ?_
       refine Wl.g rfl rfl (OpG.callV go54 rfl (fun w hH => validField_spec w _ _ _)) ?_
       rintro _ _
       refine Wl.q rfl rfl (OpQ.not rfl) ?_
       refine Wl.q rfl rfl (OpQ.pickF rfl rfl) ?_
       refine Wl.q rfl rfl (OpQ.move rfl) ?_
       refine Wl.split 41 rfl (fun hg41 => ?_) (fun hg41 => ?_)
       ·
        refine Wl.skip rfl rfl ?_
        refine Wl.skip rfl rfl ?_
        refine Wl.skip rfl rfl ?_
        refine Wl.skip rfl rfl ?_
        refine Wl.skip rfl rfl ?_
        refine Wl.skip rfl rfl ?_
        refine Wl.skip rfl rfl ?_
        refine Wl.q rfl rfl (OpQ.pickT rfl rfl) ?_
        refine Wl.q rfl rfl (OpQ.move rfl) ?_
        refine Wl.skip rfl rfl ?_
        refine Wl.skip rfl rfl ?_
        refine Wl.skip rfl rfl ?_
        refine Wl.skip rfl rfl ?_
        refine Wl.skip rfl rfl ?_
        refine Wl.skip rfl rfl ?_
        refine Wl.skip rfl rfl ?_
        refine Wl.q rfl rfl (OpQ.pickT rfl rfl) ?_
        refine Wl.nil ?_
        exact PX.cutB hK1 ⟨lkV rfl (congrArg Value.bool (by first | (simp [-List.getD_eq_getElem?_getD, okF, hg32, hg41, hg50]) | (simp [-List.getD_eq_getElem?_getD, okF, hg32, hg41]) | (simp [-List.getD_eq_getElem?_getD, okF, hg32]))), (by repeat (first | exact trivial | refine ⟨rfl, ?_⟩))⟩ (HSub.refl _)
       ·
        refine Wl.q rfl rfl (OpQ.fieldAddr fa31_2 rfl) ?_
        refine Wl.q rfl rfl (OpQ.loadF (b := b8) sc3 rfl (by repeat (first | exact Has.here | apply Has.there)) (by rfl)) ?_
        refine Wl.q rfl rfl (OpQ.move rfl) ?_
        refine Wl.q rfl rfl (OpQ.fieldAddr fa97_1 rfl) ?_
        refine Wl.q rfl rfl (OpQ.loadF (b := b9) sc4 rfl (by repeat (first | exact Has.here | apply Has.there)) (by rfl)) ?_
        refine Wl.g rfl rfl (OpG.callV go54 rfl (fun w hH => validField_spec w _ _ _)) ?_
        rintro _ _
        refine Wl.q rfl rfl (OpQ.not rfl) ?_
        refine Wl.q rfl rfl (OpQ.pickF rfl rfl) ?_
        refine Wl.q rfl rfl (OpQ.move rfl) ?_
        refine Wl.split 50 rfl (fun hg50 => ?_) (fun hg50 => ?_)
        ·
         refine Wl.skip rfl rfl ?_
         refine Wl.skip rfl rfl ?_
         refine Wl.skip rfl rfl ?_
         refine Wl.skip rfl rfl ?_
         refine Wl.skip rfl rfl ?_
         refine Wl.skip rfl rfl ?_
         refine Wl.skip rfl rfl ?_
         refine Wl.q rfl rfl (OpQ.pickT rfl rfl) ?_
         refine Wl.nil ?_
         exact PX.cutB hK1 ⟨lkV rfl (congrArg Value.bool (by first | (simp [-List.getD_eq_getElem?_getD, okF, hg32, hg41, hg50]) | (simp [-List.getD_eq_getElem?_getD, okF, hg32, hg41]) | (simp [-List.getD_eq_getElem?_getD, okF, hg32]))), (by repeat (first | exact trivial | refine ⟨rfl, ?_⟩))⟩ (HSub.refl _)
        ·
         refine Wl.q rfl rfl (OpQ.fieldAddr fa31_3 rfl) ?_
         refine Wl.q rfl rfl (OpQ.loadF (b := b8) sc3 rfl (by repeat (first | exact Has.here | apply Has.there)) (by rfl)) ?_
         refine Wl.q rfl rfl (OpQ.move rfl) ?_
         refine Wl.q rfl rfl (OpQ.fieldAddr fa97_2 rfl) ?_
         refine Wl.q rfl rfl (OpQ.loadF (b := b9) sc4 rfl (by repeat (first | exact Has.here | apply Has.there)) (by rfl)) ?_
         refine Wl.g rfl rfl (OpG.callV go54 rfl (fun w hH => validField_spec w _ _ _)) ?_
         rintro _ _
         refine Wl.q rfl rfl (OpQ.not rfl) ?_
         refine Wl.q rfl rfl (OpQ.pickF rfl rfl) ?_
         refine Wl.nil ?_
         exact PX.cutB hK1 ⟨lkV rfl (congrArg Value.bool (by first | (simp [-List.getD_eq_getElem?_getD, okF, hg32, hg41, hg50]) | (simp [-List.getD_eq_getElem?_getD, okF, hg32, hg41]) | (simp [-List.getD_eq_getElem?_getD, okF, hg32]))), (by repeat (first | exact trivial | refine ⟨rfl, ?_⟩))⟩ (HSub.refl _)
     ·
      refine CT.cond rfl (fun h58 => ?_) (fun h58 => ?_)
      ·
       refine CT.seq ?_
       refine CT.region ?_
       refine Wl.q rfl rfl (OpQ.assign rfl) ?_
       refine Wl.nil ?_
       refine PX.then_n ?_
       refine CT.ret ?_
       refine PX.block_r ?_
       refine PX.then_r ?_
       refine PX.then_r ?_
       refine PX.block_r ?_
       refine PX.then_r ?_
       refine PX.ret1 rfl rfl (fun w' hH => ?_)
       exact ⟨ret_i (vd_bad (may_in (by omega) (by omega)) (by omega) (okL_bad (k := k) (by omega) (by simpa [-List.getD_eq_getElem?_getD] using h58))).symm, hH.ext⟩
      ·
       refine CT.skip ?_
       refine PX.block_n ?_
       refine PX.then_n ?_
       refine CT.region ?_
       refine Wl.q rfl rfl (OpQ.add rfl rfl (by omega)) ?_
       refine Wl.q rfl rfl (OpQ.move rfl) ?_
       refine Wl.nil ?_
       have hall2 : ∀ j, j < k + 1 → okF (xs.getD j t0) j letters = true := fun j hj => by
        rcases Nat.lt_or_ge j k with h | h
        ·
         exact hall j h
        ·
         rw [show j = k by omega]; exact (by simpa [-List.getD_eq_getElem?_getD] using h58)
       exact PX.loop hK0 (k + 1) ⟨by omega, hall2⟩ (by first | omega | (dsimp only; omega)) ⟨rfl, rfl, rfl, rfl, rfl, rfl, trivial⟩ (HSub.none _)
    ·
     have h22 := of_decide_eq_false h22
     refine CT.exit ?_
     refine PX.then_x ?_
     refine PX.then_x ?_
     refine PX.block_x ?_
     refine PX.then_n ?_
     refine CT.seq ?_
     refine CT.seq ?_
     refine CT.region ?_
     refine Wl.q rfl rfl (OpQ.move rfl) ?_
     refine Wl.q rfl rfl (OpQ.lss rfl rfl) ?_
     refine Wl.q rfl rfl (OpQ.move rfl) ?_
     refine Wl.split 62 rfl (fun hg62 => ?_) (fun hg62 => ?_)
     ·
      have hg62 := of_decide_eq_true hg62
      refine Wl.skip rfl rfl ?_
      refine Wl.skip rfl rfl ?_
      refine Wl.skip rfl rfl ?_
      refine Wl.skip rfl rfl ?_
      refine Wl.q rfl rfl (OpQ.pickT rfl rfl) ?_
      refine Wl.nil ?_
      refine PX.then_n ?_
      refine CT.condT rfl ?_
      refine CT.seq ?_
      refine CT.region ?_
      refine Wl.q rfl rfl (OpQ.assign rfl) ?_
      refine Wl.nil ?_
      refine PX.then_n ?_
      refine CT.ret ?_
      refine PX.then_r ?_
      refine PX.ret1 rfl rfl (fun w' hH => ?_)
      exact ⟨ret_i (vd_root (may_in (by omega) (by omega)) (by omega) (okL_ok (fun j hj => hall j (by omega))) (by omega)).symm, hH.ext⟩
     ·
      have hg62 := of_decide_eq_false hg62
      refine Wl.q rfl rfl (OpQ.move rfl) ?_
      refine Wl.q rfl rfl (OpQ.move rfl) ?_
      refine Wl.q rfl rfl (OpQ.len un22 rfl) ?_
      refine Wl.q rfl rfl (OpQ.geq rfl rfl) ?_
      refine Wl.q rfl rfl (OpQ.pickF rfl rfl) ?_
      refine Wl.nil ?_
      refine PX.then_n ?_
      refine CT.cond rfl (fun h67 => ?_) (fun h67 => ?_)
      ·
       have h67 := of_decide_eq_true h67
       refine CT.seq ?_
       refine CT.region ?_
       refine Wl.q rfl rfl (OpQ.assign rfl) ?_
       refine Wl.nil ?_
       refine PX.then_n ?_
       refine CT.ret ?_
       refine PX.then_r ?_
       refine PX.ret1 rfl rfl (fun w' hH => ?_)
       exact ⟨ret_i (vd_root (may_in (by omega) (by omega)) (by omega) (okL_ok (fun j hj => hall j (by omega))) (by omega)).symm, hH.ext⟩
      ·
       have h67 := of_decide_eq_false h67
       refine CT.skip ?_
       refine PX.then_n ?_
       refine CT.seq ?_
       refine CT.region ?_
       refine Wl.q rfl rfl (OpQ.assign rfl) ?_
       refine Wl.nil ?_
       refine PX.then_n ?_
       refine CT.ret ?_
       refine PX.ret1 rfl rfl (fun w' hH => ?_)
       exact ⟨ret_i (vd_ok (may_in (by omega) (by omega)) (by omega) (okL_ok (fun j hj => hall j (by omega))) (by omega)).symm, hH.ext⟩

theorem go39 : isGo Try.prog 39 = true := by kernel_rfl
theorem go40 : isGo Try.prog 40 = true := by kernel_rfl
set_option maxRecDepth 100000 in
/-- semigroup/semigroupref39.Validate -/
theorem validateR_spec (w : World) (a : Option Addr) (cp : Nat) (xs : List Tm) (hr : Rd w a (xs.flatMap tv)) (hn : xs.length ≤ 9223372036854775807) (root letters : Int) : Calls Try.prog 19 #[.slice a xs.length cp, .int .i64 (root), .int .i64 (letters)] w (fun e w' => e = .returned (.int .i64 (vdF xs root letters)) ∧ Ext [] w w') := by
 have sm : 0 < xs.length → a.isSome = true := fun h => hr.isSome (j := 0) (by rw [flat_len tv_len]; omega)
 refine enter (args := [.slice a xs.length cp, .int .i64 (root), .int .i64 (letters)]) [] 115 Try.func19 rfl rfl rfl ?_
 refine CT.seq ?_
 refine CT.region ?_
 refine Wl.q rfl rfl (OpQ.assign rfl) ?_
 refine Wl.nil ?_
 refine PX.then_n ?_
 refine CT.seq ?_
 refine CT.seq ?_
 refine CT.region ?_
 refine Wl.q rfl rfl (OpQ.move rfl) ?_
 refine Wl.g rfl rfl (OpG.callV go39 rfl (fun w hH => may_spec w letters)) ?_
 rintro _ _
 refine Wl.q rfl rfl (OpQ.not rfl) ?_
 refine Wl.nil ?_
 refine PX.then_n ?_
 refine CT.cond rfl (fun h12 => ?_) (fun h12 => ?_)
 ·
  have hm : mayL letters = false := by simpa using h12
  refine CT.seq ?_
  refine CT.region ?_
  refine Wl.q rfl rfl (OpQ.assign rfl) ?_
  refine Wl.nil ?_
  refine PX.then_n ?_
  refine CT.ret ?_
  refine PX.then_r ?_
  refine PX.ret1 rfl rfl (fun w' hH => ?_)
  exact ⟨ret_i (vd_mayF hm).symm, hH.ext⟩
 ·
  have hm : mayL letters = true := by simpa using h12
  refine CT.skip ?_
  refine PX.then_n ?_
  refine CT.seq ?_
  refine CT.seq ?_
  refine CT.region ?_
  refine Wl.q rfl rfl (OpQ.move rfl) ?_
  refine Wl.q rfl rfl (OpQ.len un22 rfl) ?_
  refine Wl.q rfl rfl (OpQ.gtr rfl rfl) ?_
  refine Wl.nil ?_
  refine PX.then_n ?_
  refine CT.cond rfl (fun h15 => ?_) (fun h15 => ?_)
  ·
   have h15 := of_decide_eq_true h15
   refine CT.seq ?_
   refine CT.region ?_
   refine Wl.q rfl rfl (OpQ.assign rfl) ?_
   refine Wl.nil ?_
   refine PX.then_n ?_
   refine CT.ret ?_
   refine PX.then_r ?_
   refine PX.ret1 rfl rfl (fun w' hH => ?_)
   exact ⟨ret_i (vd_long hm (by omega)).symm, hH.ext⟩
  ·
   have h15 := of_decide_eq_false h15
   refine CT.skip ?_
   refine PX.then_n ?_
   refine CT.seq ?_
   refine CT.seq ?_
   refine CT.region ?_
   refine Wl.q rfl rfl (OpQ.move rfl) ?_
   refine Wl.q rfl rfl (OpQ.len un22 rfl) ?_
   refine Wl.q rfl rfl (OpQ.move rfl) ?_
   refine Wl.nil ?_
   refine PX.then_n ?_
   refine CT.block ?_
   refine CT.loop (ι := Nat) (fun k => k ≤ xs.length ∧ ∀ j, j < k → okF (xs.getD j t0) j letters = true) (fun k => [(0, .slice a xs.length cp), (1, .int .i64 (root)), (2, .int .i64 (letters)), (16, .slice a xs.length cp), (17, .int .i64 (xs.length : Int)), (18, .int .i64 (k : Int))]) (fun _ => []) (fun k => xs.length - k) 0 ⟨by omega, by omega⟩ ⟨rfl, rfl, rfl, rfl, rfl, rfl, trivial⟩ (HSub.none _) (fun k ⟨hk, hall⟩ K0 hK0 => ?_)
   refine CT.seq ?_
   refine CT.region ?_
   refine Wl.q rfl rfl (OpQ.lss rfl rfl) ?_
   refine Wl.nil ?_
   refine PX.then_n ?_
   refine CT.seq ?_
   refine CT.cond rfl (fun h19 => ?_) (fun h19 => ?_)
   ·
    have h19 := of_decide_eq_true h19
    refine CT.skip ?_
    refine PX.then_n ?_
    refine CT.seq ?_
    refine CT.block ?_
    refine CT.seq ?_
    refine CT.region ?_
    refine Wl.q rfl rfl (OpQ.move rfl) ?_
    refine Wl.q rfl rfl (OpQ.index un22 sz31 rfl rfl (by omega) (sm (by omega))) ?_
    refine Wl.q rfl rfl (OpQ.loadAggG (cs := tv (xs.getD k t0)) ag31 sz31 rfl (fun w hH => hH.rd0 hr rfl) (flat_cells tv_len xs t0 (by omega))) ?_
    refine Wl.g rfl rfl (OpG.alloc (zs := [.int .i64 0, .int .i64 0, .int .i64 0, .int .i64 0]) in31 rfl rfl) ?_
    rintro b8 _
    refine Wl.q rfl rfl (OpQ.assign rfl) ?_
    refine Wl.g rfl rfl (OpG.storeV (b := b8) sz31 rfl rfl rfl rfl (by repeat (first | exact Upd.here | apply Upd.there))) ?_
    rintro _ _
    refine Wl.nil ?_
    refine PX.then_n ?_
    refine CT.seq ?_
    refine CT.region ?_
    refine Wl.q rfl rfl (OpQ.fieldAddr fa31_0 rfl) ?_
    refine Wl.q rfl rfl (OpQ.loadF (b := b8) sc3 rfl (by repeat (first | exact Has.here | apply Has.there)) (by rfl)) ?_
    refine Wl.g rfl rfl (OpG.callV go40 rfl (fun w hH => refers_spec w _)) ?_
    rintro _ _
    refine Wl.q rfl rfl (OpQ.assign rfl) ?_
    refine Wl.nil ?_
    refine PX.then_n ?_
    refine CT.seq ?_
    refine CT.weak (E' := [(0, _), (1, _), (2, _), (7, _), (8, _), (9, _), (16, _), (17, _), (18, _)]) (by repeat (first | exact trivial | refine ⟨rfl, ?_⟩)) (HSub.refl _) ?_
    refine CT.cutB 59 (bad1 (xs.getD k t0) letters) (fun K1 hK1 => ?_) ?_
    ·
     refine CT.region ?_
     refine Wl.q rfl rfl (OpQ.fieldAddr fa31_0 rfl) ?_
     refine Wl.q rfl rfl (OpQ.loadF (b := b8) sc3 rfl (by repeat (first | exact Has.here | apply Has.there)) (by rfl)) ?_
     refine Wl.q rfl rfl (OpQ.lss rfl rfl) ?_
     refine Wl.q rfl rfl (OpQ.move rfl) ?_
     refine Wl.split 29 rfl (fun hg29 => ?_) (fun hg29 => ?_)
     ·
      refine Wl.skip rfl rfl ?_
      refine Wl.skip rfl rfl ?_
      refine Wl.skip rfl rfl ?_
      refine Wl.q rfl rfl (OpQ.pickT rfl rfl) ?_
      refine Wl.q rfl rfl (OpQ.move rfl) ?_
      refine Wl.skip rfl rfl ?_
      refine Wl.skip rfl rfl ?_
      refine Wl.skip rfl rfl ?_
      refine Wl.skip rfl rfl ?_
      refine Wl.skip rfl rfl ?_
      refine Wl.skip rfl rfl ?_
      refine Wl.skip rfl rfl ?_
      refine Wl.skip rfl rfl ?_
      refine Wl.skip rfl rfl ?_
      refine Wl.skip rfl rfl ?_
      refine Wl.skip rfl rfl ?_
      refine Wl.skip rfl rfl ?_
      refine Wl.skip rfl rfl ?_
      refine Wl.skip rfl rfl ?_
      refine Wl.q rfl rfl (OpQ.pickT rfl rfl) ?_
      refine Wl.q rfl rfl (OpQ.move rfl) ?_
      refine Wl.skip rfl rfl ?_
      refine Wl.skip rfl rfl ?_
      refine Wl.skip rfl rfl ?_
      refine Wl.skip rfl rfl ?_
      refine Wl.skip rfl rfl ?_
      refine Wl.skip rfl rfl ?_
      refine Wl.skip rfl rfl ?_
      refine Wl.skip rfl rfl ?_
      refine Wl.q rfl rfl (OpQ.pickT rfl rfl) ?_
      refine Wl.nil ?_
      exact PX.cutB hK1 ⟨lkV rfl (congrArg Value.bool (by (try simp only [decide_eq_true_eq, decide_eq_false_iff_not, Bool.not_eq_true', Bool.not_eq_false'] at hg29); (try simp only [decide_eq_true_eq, decide_eq_false_iff_not, Bool.not_eq_true', Bool.not_eq_false'] at hg34); (try simp only [decide_eq_true_eq, decide_eq_false_iff_not, Bool.not_eq_true', Bool.not_eq_false'] at hg38); (try simp only [decide_eq_true_eq, decide_eq_false_iff_not, Bool.not_eq_true', Bool.not_eq_false'] at hg42); (try simp only [decide_eq_true_eq, decide_eq_false_iff_not, Bool.not_eq_true', Bool.not_eq_false'] at hg50); (try simp only [decide_eq_true_eq, decide_eq_false_iff_not, Bool.not_eq_true', Bool.not_eq_false'] at hg54); rw [Bool.eq_iff_iff]; simp [-List.getD_eq_getElem?_getD, bad1]; try omega)), (by repeat (first | exact trivial | refine ⟨rfl, ?_⟩))⟩ (HSub.refl _)
     ·
      refine Wl.q rfl rfl (OpQ.fieldAddr fa31_0 rfl) ?_
      refine Wl.q rfl rfl (OpQ.loadF (b := b8) sc3 rfl (by repeat (first | exact Has.here | apply Has.there)) (by rfl)) ?_
      refine Wl.q rfl rfl (OpQ.gtr rfl rfl) ?_
      refine Wl.q rfl rfl (OpQ.pickF rfl rfl) ?_
      refine Wl.q rfl rfl (OpQ.move rfl) ?_
      refine Wl.split 34 rfl (fun hg34 => ?_) (fun hg34 => ?_)
      ·
       refine Wl.skip rfl rfl ?_
       refine Wl.skip rfl rfl ?_
       refine Wl.skip rfl rfl ?_
       refine Wl.skip rfl rfl ?_
       refine Wl.skip rfl rfl ?_
       refine Wl.skip rfl rfl ?_
       refine Wl.skip rfl rfl ?_
       refine Wl.skip rfl rfl ?_
       refine Wl.skip rfl rfl ?_
       refine Wl.skip rfl rfl ?_
       refine Wl.skip rfl rfl ?_
       refine Wl.skip rfl rfl ?_
       refine Wl.skip rfl rfl ?_
       refine Wl.skip rfl rfl ?_
       refine Wl.q rfl rfl (OpQ.pickT rfl rfl) ?_
       refine Wl.q rfl rfl (OpQ.move rfl) ?_
       refine Wl.skip rfl rfl ?_
       refine Wl.skip rfl rfl ?_
       refine Wl.skip rfl rfl ?_
       refine Wl.skip rfl rfl ?_
       refine Wl.skip rfl rfl ?_
       refine Wl.skip rfl rfl ?_
       refine Wl.skip rfl rfl ?_
       refine Wl.skip rfl rfl ?_
       refine Wl.q rfl rfl (OpQ.pickT rfl rfl) ?_
       refine Wl.nil ?_
       exact PX.cutB hK1 ⟨lkV rfl (congrArg Value.bool (by (try simp only [decide_eq_true_eq, decide_eq_false_iff_not, Bool.not_eq_true', Bool.not_eq_false'] at hg29); (try simp only [decide_eq_true_eq, decide_eq_false_iff_not, Bool.not_eq_true', Bool.not_eq_false'] at hg34); (try simp only [decide_eq_true_eq, decide_eq_false_iff_not, Bool.not_eq_true', Bool.not_eq_false'] at hg38); (try simp only [decide_eq_true_eq, decide_eq_false_iff_not, Bool.not_eq_true', Bool.not_eq_false'] at hg42); (try simp only [decide_eq_true_eq, decide_eq_false_iff_not, Bool.not_eq_true', Bool.not_eq_false'] at hg50); (try simp only [decide_eq_true_eq, decide_eq_false_iff_not, Bool.not_eq_true', Bool.not_eq_false'] at hg54); rw [Bool.eq_iff_iff]; simp [-List.getD_eq_getElem?_getD, bad1]; try omega)), (by repeat (first | exact trivial | refine ⟨rfl, ?_⟩))⟩ (HSub.refl _)
      ·
       refine Wl.q rfl rfl (OpQ.fieldAddr fa31_0 rfl) ?_
       refine Wl.q rfl rfl (OpQ.loadF (b := b8) sc3 rfl (by repeat (first | exact Has.here | apply Has.there)) (by rfl)) ?_
       refine Wl.q rfl rfl (OpQ.eql rfl rfl) ?_
       refine Wl.q rfl rfl (OpQ.move rfl) ?_
       refine Wl.split 38 rfl (fun hg38 => ?_) (fun hg38 => ?_)
       ·
        refine Wl.q rfl rfl (OpQ.fieldAddr fa31_1 rfl) ?_
        refine Wl.q rfl rfl (OpQ.loadF (b := b8) sc3 rfl (by repeat (first | exact Has.here | apply Has.there)) (by rfl)) ?_
        refine Wl.q rfl rfl (OpQ.lss rfl rfl) ?_
        refine Wl.q rfl rfl (OpQ.move rfl) ?_
        refine Wl.split 42 rfl (fun hg42 => ?_) (fun hg42 => ?_)
        ·
         refine Wl.skip rfl rfl ?_
         refine Wl.skip rfl rfl ?_
         refine Wl.skip rfl rfl ?_
         refine Wl.skip rfl rfl ?_
         refine Wl.q rfl rfl (OpQ.pickT rfl rfl) ?_
         refine Wl.q rfl rfl (OpQ.pickT rfl rfl) ?_
         refine Wl.q rfl rfl (OpQ.pickF rfl rfl) ?_
         refine Wl.q rfl rfl (OpQ.move rfl) ?_
         refine Wl.skip rfl rfl ?_
         refine Wl.skip rfl rfl ?_
         refine Wl.skip rfl rfl ?_
         refine Wl.skip rfl rfl ?_
         refine Wl.skip rfl rfl ?_
         refine Wl.skip rfl rfl ?_
         refine Wl.skip rfl rfl ?_
         refine Wl.skip rfl rfl ?_
         refine Wl.q rfl rfl (OpQ.pickT rfl rfl) ?_
         refine Wl.nil ?_
         exact PX.cutB hK1 ⟨lkV rfl (congrArg Value.bool (by (try simp only [decide_eq_true_eq, decide_eq_false_iff_not, Bool.not_eq_true', Bool.not_eq_false'] at hg29); (try simp only [decide_eq_true_eq, decide_eq_false_iff_not, Bool.not_eq_true', Bool.not_eq_false'] at hg34); (try simp only [decide_eq_true_eq, decide_eq_false_iff_not, Bool.not_eq_true', Bool.not_eq_false'] at hg38); (try simp only [decide_eq_true_eq, decide_eq_false_iff_not, Bool.not_eq_true', Bool.not_eq_false'] at hg42); (try simp only [decide_eq_true_eq, decide_eq_false_iff_not, Bool.not_eq_true', Bool.not_eq_false'] at hg50); (try simp only [decide_eq_true_eq, decide_eq_false_iff_not, Bool.not_eq_true', Bool.not_eq_false'] at hg54); rw [Bool.eq_iff_iff]; simp [-List.getD_eq_getElem?_getD, bad1]; try omega)), (by repeat (first | exact trivial | refine ⟨rfl, ?_⟩))⟩ (HSub.refl _)
        ·
         refine Wl.q rfl rfl (OpQ.fieldAddr fa31_1 rfl) ?_
         refine Wl.q rfl rfl (OpQ.loadF (b := b8) sc3 rfl (by repeat (first | exact Has.here | apply Has.there)) (by rfl)) ?_
         refine Wl.q rfl rfl (OpQ.move rfl) ?_
         refine Wl.q rfl rfl (OpQ.geq rfl rfl) ?_
         refine Wl.q rfl rfl (OpQ.pickF rfl rfl) ?_
         refine Wl.q rfl rfl (OpQ.pickT rfl rfl) ?_
         refine Wl.q rfl rfl (OpQ.pickF rfl rfl) ?_
         refine Wl.q rfl rfl (OpQ.move rfl) ?_
         refine Wl.split 50 rfl (fun hg50 => ?_) (fun hg50 => ?_)
         ·
          refine Wl.skip rfl rfl ?_
          refine Wl.skip rfl rfl ?_
          refine Wl.skip rfl rfl ?_
          refine Wl.skip rfl rfl ?_
          refine Wl.skip rfl rfl ?_
          refine Wl.skip rfl rfl ?_
          refine Wl.skip rfl rfl ?_
          refine Wl.skip rfl rfl ?_
          refine Wl.q rfl rfl (OpQ.pickT rfl rfl) ?_
          refine Wl.nil ?_
          exact PX.cutB hK1 ⟨lkV rfl (congrArg Value.bool (by (try simp only [decide_eq_true_eq, decide_eq_false_iff_not, Bool.not_eq_true', Bool.not_eq_false'] at hg29); (try simp only [decide_eq_true_eq, decide_eq_false_iff_not, Bool.not_eq_true', Bool.not_eq_false'] at hg34); (try simp only [decide_eq_true_eq, decide_eq_false_iff_not, Bool.not_eq_true', Bool.not_eq_false'] at hg38); (try simp only [decide_eq_true_eq, decide_eq_false_iff_not, Bool.not_eq_true', Bool.not_eq_false'] at hg42); (try simp only [decide_eq_true_eq, decide_eq_false_iff_not, Bool.not_eq_true', Bool.not_eq_false'] at hg50); (try simp only [decide_eq_true_eq, decide_eq_false_iff_not, Bool.not_eq_true', Bool.not_eq_false'] at hg54); rw [Bool.eq_iff_iff]; simp [-List.getD_eq_getElem?_getD, bad1]; try omega)), (by repeat (first | exact trivial | refine ⟨rfl, ?_⟩))⟩ (HSub.refl _)
         ·
          refine Wl.q rfl rfl (OpQ.fieldAddr fa31_0 rfl) ?_
          refine Wl.q rfl rfl (OpQ.loadF (b := b8) sc3 rfl (by repeat (first | exact Has.here | apply Has.there)) (by rfl)) ?_
          refine Wl.q rfl rfl (OpQ.neq rfl rfl) ?_
          refine Wl.q rfl rfl (OpQ.move rfl) ?_
          refine Wl.split 54 rfl (fun hg54 => ?_) (fun hg54 => ?_)
          ·
           refine Wl.q rfl rfl (OpQ.fieldAddr fa31_1 rfl) ?_
           refine Wl.q rfl rfl (OpQ.loadF (b := b8) sc3 rfl (by repeat (first | exact Has.here | apply Has.there)) (by rfl)) ?_
           refine Wl.q rfl rfl (OpQ.neq rfl rfl) ?_
           refine Wl.q rfl rfl (OpQ.pickT rfl rfl) ?_
           refine Wl.q rfl rfl (OpQ.pickF rfl rfl) ?_
           refine Wl.nil ?_
           exact PX.cutB hK1 ⟨lkV rfl (congrArg Value.bool (by (try simp only [decide_eq_true_eq, decide_eq_false_iff_not, Bool.not_eq_true', Bool.not_eq_false'] at hg29); (try simp only [decide_eq_true_eq, decide_eq_false_iff_not, Bool.not_eq_true', Bool.not_eq_false'] at hg34); (try simp only [decide_eq_true_eq, decide_eq_false_iff_not, Bool.not_eq_true', Bool.not_eq_false'] at hg38); (try simp only [decide_eq_true_eq, decide_eq_false_iff_not, Bool.not_eq_true', Bool.not_eq_false'] at hg42); (try simp only [decide_eq_true_eq, decide_eq_false_iff_not, Bool.not_eq_true', Bool.not_eq_false'] at hg50); (try simp only [decide_eq_true_eq, decide_eq_false_iff_not, Bool.not_eq_true', Bool.not_eq_false'] at hg54); rw [Bool.eq_iff_iff]; simp [-List.getD_eq_getElem?_getD, bad1]; try omega)), (by repeat (first | exact trivial | refine ⟨rfl, ?_⟩))⟩ (HSub.refl _)
          ·
           refine Wl.skip rfl rfl ?_
           refine Wl.skip rfl rfl ?_
           refine Wl.skip rfl rfl ?_
           refine Wl.q rfl rfl (OpQ.pickF rfl rfl) ?_
           refine Wl.q rfl rfl (OpQ.pickF rfl rfl) ?_
           refine Wl.nil ?_
           exact PX.cutB hK1 ⟨lkV rfl (congrArg Value.bool (by (try simp only [decide_eq_true_eq, decide_eq_false_iff_not, Bool.not_eq_true', Bool.not_eq_false'] at hg29); (try simp only [decide_eq_true_eq, decide_eq_false_iff_not, Bool.not_eq_true', Bool.not_eq_false'] at hg34); (try simp only [decide_eq_true_eq, decide_eq_false_iff_not, Bool.not_eq_true', Bool.not_eq_false'] at hg38); (try simp only [decide_eq_true_eq, decide_eq_false_iff_not, Bool.not_eq_true', Bool.not_eq_false'] at hg42); (try simp only [decide_eq_true_eq, decide_eq_false_iff_not, Bool.not_eq_true', Bool.not_eq_false'] at hg50); (try simp only [decide_eq_true_eq, decide_eq_false_iff_not, Bool.not_eq_true', Bool.not_eq_false'] at hg54); rw [Bool.eq_iff_iff]; simp [-List.getD_eq_getElem?_getD, bad1]; try omega)), (by repeat (first | exact trivial | refine ⟨rfl, ?_⟩))⟩ (HSub.refl _)
       ·
        refine Wl.skip rfl rfl ?_
        refine Wl.skip rfl rfl ?_
        refine Wl.skip rfl rfl ?_
        refine Wl.skip rfl rfl ?_
        refine Wl.skip rfl rfl ?_
        refine Wl.skip rfl rfl ?_
        refine Wl.skip rfl rfl ?_
        refine Wl.skip rfl rfl ?_
        refine Wl.skip rfl rfl ?_
        refine Wl.q rfl rfl (OpQ.pickF rfl rfl) ?_
        refine Wl.q rfl rfl (OpQ.pickF rfl rfl) ?_
        refine Wl.q rfl rfl (OpQ.move rfl) ?_
        refine Wl.q rfl rfl (OpQ.fieldAddr fa31_0 rfl) ?_
        refine Wl.q rfl rfl (OpQ.loadF (b := b8) sc3 rfl (by repeat (first | exact Has.here | apply Has.there)) (by rfl)) ?_
        refine Wl.q rfl rfl (OpQ.neq rfl rfl) ?_
        refine Wl.q rfl rfl (OpQ.move rfl) ?_
        refine Wl.split 54 rfl (fun hg54 => ?_) (fun hg54 => ?_)
        ·
         refine Wl.q rfl rfl (OpQ.fieldAddr fa31_1 rfl) ?_
         refine Wl.q rfl rfl (OpQ.loadF (b := b8) sc3 rfl (by repeat (first | exact Has.here | apply Has.there)) (by rfl)) ?_
         refine Wl.q rfl rfl (OpQ.neq rfl rfl) ?_
         refine Wl.q rfl rfl (OpQ.pickT rfl rfl) ?_
         refine Wl.q rfl rfl (OpQ.pickF rfl rfl) ?_
         refine Wl.nil ?_
         exact PX.cutB hK1 ⟨lkV rfl (congrArg Value.bool (by (try simp only [decide_eq_true_eq, decide_eq_false_iff_not, Bool.not_eq_true', Bool.not_eq_false'] at hg29); (try simp only [decide_eq_true_eq, decide_eq_false_iff_not, Bool.not_eq_true', Bool.not_eq_false'] at hg34); (try simp only [decide_eq_true_eq, decide_eq_false_iff_not, Bool.not_eq_true', Bool.not_eq_false'] at hg38); (try simp only [decide_eq_true_eq, decide_eq_false_iff_not, Bool.not_eq_true', Bool.not_eq_false'] at hg42); (try simp only [decide_eq_true_eq, decide_eq_false_iff_not, Bool.not_eq_true', Bool.not_eq_false'] at hg50); (try simp only [decide_eq_true_eq, decide_eq_false_iff_not, Bool.not_eq_true', Bool.not_eq_false'] at hg54); rw [Bool.eq_iff_iff]; simp [-List.getD_eq_getElem?_getD, bad1]; try omega)), (by repeat (first | exact trivial | refine ⟨rfl, ?_⟩))⟩ (HSub.refl _)
        ·
         refine Wl.skip rfl rfl ?_
         refine Wl.skip rfl rfl ?_
         refine Wl.skip rfl rfl ?_
         refine Wl.q rfl rfl (OpQ.pickF rfl rfl) ?_
         refine Wl.q rfl rfl (OpQ.pickF rfl rfl) ?_
         refine Wl.nil ?_
         exact PX.cutB hK1 ⟨lkV rfl (congrArg Value.bool (by (try simp only [decide_eq_true_eq, decide_eq_false_iff_not, Bool.not_eq_true', Bool.not_eq_false'] at hg29); (try simp only [decide_eq_true_eq, decide_eq_false_iff_not, Bool.not_eq_true', Bool.not_eq_false'] at hg34); (try simp only [decide_eq_true_eq, decide_eq_false_iff_not, Bool.not_eq_true', Bool.not_eq_false'] at hg38); (try simp only [decide_eq_true_eq, decide_eq_false_iff_not, Bool.not_eq_true', Bool.not_eq_false'] at hg42); (try simp only [decide_eq_true_eq, decide_eq_false_iff_not, Bool.not_eq_true', Bool.not_eq_false'] at hg50); (try simp only [decide_eq_true_eq, decide_eq_false_iff_not, Bool.not_eq_true', Bool.not_eq_false'] at hg54); rw [Bool.eq_iff_iff]; simp [-List.getD_eq_getElem?_getD, bad1]; try omega)), (by repeat (first | exact trivial | refine ⟨rfl, ?_⟩))⟩ (HSub.refl _)
    ·
     refine CT.cond rfl (fun h59 => ?_) (fun h59 => ?_)
     ·
      refine CT.seq ?_
      refine CT.region ?_
      refine Wl.q rfl rfl (OpQ.assign rfl) ?_
      refine Wl.nil ?_
      refine PX.then_n ?_
      refine CT.ret ?_
      refine PX.then_r ?_
      refine PX.block_r ?_
      refine PX.then_r ?_
      refine PX.then_r ?_
      refine PX.block_r ?_
      refine PX.then_r ?_
      refine PX.ret1 rfl rfl (fun w' hH => ?_)
      exact ⟨ret_i (vd_bad hm (by omega) (okL_bad (k := k) (by omega) (by rw [ok_bad, h59]; rfl))).symm, hH.ext⟩
     ·
      refine CT.skip ?_
      refine PX.then_n ?_
      refine CT.weak (E' := [(0, _), (1, _), (2, _), (7, _), (8, _), (9, _), (16, _), (17, _), (18, _)]) (by repeat (first | exact trivial | refine ⟨rfl, ?_⟩)) (HSub.refl _) ?_
      refine CT.cutB 105 (bad2 (xs.getD k t0) k) (fun K2 hK2 => ?_) ?_
      ·
       refine CT.region ?_
       refine Wl.q rfl rfl (OpQ.move rfl) ?_
       refine Wl.q rfl rfl (OpQ.gtr rfl rfl) ?_
       refine Wl.q rfl rfl (OpQ.move rfl) ?_
       refine Wl.split 62 rfl (fun hg62 => ?_) (fun hg62 => ?_)
       ·
        refine Wl.q rfl rfl (OpQ.fieldAddr fa31_2 rfl) ?_
        refine Wl.q rfl rfl (OpQ.loadF (b := b8) sc3 rfl (by repeat (first | exact Has.here | apply Has.there)) (by rfl)) ?_
        refine Wl.q rfl rfl (OpQ.lss rfl rfl) ?_
        refine Wl.q rfl rfl (OpQ.move rfl) ?_
        refine Wl.split 66 rfl (fun hg66 => ?_) (fun hg66 => ?_)
        ·
         refine Wl.skip rfl rfl ?_
         refine Wl.skip rfl rfl ?_
         refine Wl.skip rfl rfl ?_
         refine Wl.skip rfl rfl ?_
         refine Wl.q rfl rfl (OpQ.pickT rfl rfl) ?_
         refine Wl.q rfl rfl (OpQ.pickT rfl rfl) ?_
         refine Wl.q rfl rfl (OpQ.move rfl) ?_
         refine Wl.skip rfl rfl ?_
         refine Wl.skip rfl rfl ?_
         refine Wl.skip rfl rfl ?_
         refine Wl.skip rfl rfl ?_
         refine Wl.skip rfl rfl ?_
         refine Wl.skip rfl rfl ?_
         refine Wl.skip rfl rfl ?_
         refine Wl.q rfl rfl (OpQ.pickT rfl rfl) ?_
         refine Wl.q rfl rfl (OpQ.move rfl) ?_
         refine Wl.skip rfl rfl ?_
         refine Wl.skip rfl rfl ?_
         refine Wl.skip rfl rfl ?_
         refine Wl.skip rfl rfl ?_
         refine Wl.skip rfl rfl ?_
         refine Wl.skip rfl rfl ?_
         refine Wl.skip rfl rfl ?_
         refine Wl.skip rfl rfl ?_
         refine Wl.skip rfl rfl ?_
         refine Wl.skip rfl rfl ?_
         refine Wl.skip rfl rfl ?_
         refine Wl.skip rfl rfl ?_
         refine Wl.skip rfl rfl ?_
         refine Wl.q rfl rfl (OpQ.pickT rfl rfl) ?_
         refine Wl.q rfl rfl (OpQ.move rfl) ?_
         refine Wl.skip rfl rfl ?_
         refine Wl.skip rfl rfl ?_
         refine Wl.skip rfl rfl ?_
         refine Wl.skip rfl rfl ?_
         refine Wl.skip rfl rfl ?_
         refine Wl.skip rfl rfl ?_
         refine Wl.skip rfl rfl ?_
         refine Wl.q rfl rfl (OpQ.pickT rfl rfl) ?_
         refine Wl.nil ?_
         exact PX.cutB hK2 ⟨lkV rfl (congrArg Value.bool (by (try simp only [decide_eq_true_eq, decide_eq_false_iff_not, Bool.not_eq_true', Bool.not_eq_false'] at hg62); (try simp only [decide_eq_true_eq, decide_eq_false_iff_not, Bool.not_eq_true', Bool.not_eq_false'] at hg66); (try simp only [decide_eq_true_eq, decide_eq_false_iff_not, Bool.not_eq_true', Bool.not_eq_false'] at hg73); (try simp only [decide_eq_true_eq, decide_eq_false_iff_not, Bool.not_eq_true', Bool.not_eq_false'] at hg76); (try simp only [decide_eq_true_eq, decide_eq_false_iff_not, Bool.not_eq_true', Bool.not_eq_false'] at hg82); (try simp only [decide_eq_true_eq, decide_eq_false_iff_not, Bool.not_eq_true', Bool.not_eq_false'] at hg85); (try simp only [decide_eq_true_eq, decide_eq_false_iff_not, Bool.not_eq_true', Bool.not_eq_false'] at hg89); (try simp only [decide_eq_true_eq, decide_eq_false_iff_not, Bool.not_eq_true', Bool.not_eq_false'] at hg97); (try simp only [decide_eq_true_eq, decide_eq_false_iff_not, Bool.not_eq_true', Bool.not_eq_false'] at hg100); rw [Bool.eq_iff_iff]; simp [-List.getD_eq_getElem?_getD, bad2]; try omega)), (by repeat (first | exact trivial | refine ⟨rfl, ?_⟩))⟩ (HSub.refl _)
        ·
         refine Wl.q rfl rfl (OpQ.fieldAddr fa31_2 rfl) ?_
         refine Wl.q rfl rfl (OpQ.loadF (b := b8) sc3 rfl (by repeat (first | exact Has.here | apply Has.there)) (by rfl)) ?_
         refine Wl.q rfl rfl (OpQ.move rfl) ?_
         refine Wl.q rfl rfl (OpQ.geq rfl rfl) ?_
         refine Wl.q rfl rfl (OpQ.pickF rfl rfl) ?_
         refine Wl.q rfl rfl (OpQ.pickT rfl rfl) ?_
         refine Wl.q rfl rfl (OpQ.move rfl) ?_
         refine Wl.split 73 rfl (fun hg73 => ?_) (fun hg73 => ?_)
         ·
          refine Wl.skip rfl rfl ?_
          refine Wl.skip rfl rfl ?_
          refine Wl.skip rfl rfl ?_
          refine Wl.skip rfl rfl ?_
          refine Wl.skip rfl rfl ?_
          refine Wl.skip rfl rfl ?_
          refine Wl.skip rfl rfl ?_
          refine Wl.q rfl rfl (OpQ.pickT rfl rfl) ?_
          refine Wl.q rfl rfl (OpQ.move rfl) ?_
          refine Wl.skip rfl rfl ?_
          refine Wl.skip rfl rfl ?_
          refine Wl.skip rfl rfl ?_
          refine Wl.skip rfl rfl ?_
          refine Wl.skip rfl rfl ?_
          refine Wl.skip rfl rfl ?_
          refine Wl.skip rfl rfl ?_
          refine Wl.skip rfl rfl ?_
          refine Wl.skip rfl rfl ?_
          refine Wl.skip rfl rfl ?_
          refine Wl.skip rfl rfl ?_
          refine Wl.skip rfl rfl ?_
          refine Wl.skip rfl rfl ?_
          refine Wl.q rfl rfl (OpQ.pickT rfl rfl) ?_
          refine Wl.q rfl rfl (OpQ.move rfl) ?_
          refine Wl.skip rfl rfl ?_
          refine Wl.skip rfl rfl ?_
          refine Wl.skip rfl rfl ?_
          refine Wl.skip rfl rfl ?_
          refine Wl.skip rfl rfl ?_
          refine Wl.skip rfl rfl ?_
          refine Wl.skip rfl rfl ?_
          refine Wl.q rfl rfl (OpQ.pickT rfl rfl) ?_
          refine Wl.nil ?_
          exact PX.cutB hK2 ⟨lkV rfl (congrArg Value.bool (by (try simp only [decide_eq_true_eq, decide_eq_false_iff_not, Bool.not_eq_true', Bool.not_eq_false'] at hg62); (try simp only [decide_eq_true_eq, decide_eq_false_iff_not, Bool.not_eq_true', Bool.not_eq_false'] at hg66); (try simp only [decide_eq_true_eq, decide_eq_false_iff_not, Bool.not_eq_true', Bool.not_eq_false'] at hg73); (try simp only [decide_eq_true_eq, decide_eq_false_iff_not, Bool.not_eq_true', Bool.not_eq_false'] at hg76); (try simp only [decide_eq_true_eq, decide_eq_false_iff_not, Bool.not_eq_true', Bool.not_eq_false'] at hg82); (try simp only [decide_eq_true_eq, decide_eq_false_iff_not, Bool.not_eq_true', Bool.not_eq_false'] at hg85); (try simp only [decide_eq_true_eq, decide_eq_false_iff_not, Bool.not_eq_true', Bool.not_eq_false'] at hg89); (try simp only [decide_eq_true_eq, decide_eq_false_iff_not, Bool.not_eq_true', Bool.not_eq_false'] at hg97); (try simp only [decide_eq_true_eq, decide_eq_false_iff_not, Bool.not_eq_true', Bool.not_eq_false'] at hg100); rw [Bool.eq_iff_iff]; simp [-List.getD_eq_getElem?_getD, bad2]; try omega)), (by repeat (first | exact trivial | refine ⟨rfl, ?_⟩))⟩ (HSub.refl _)
         ·
          refine Wl.q rfl rfl (OpQ.move rfl) ?_
          refine Wl.q rfl rfl (OpQ.eql rfl rfl) ?_
          refine Wl.q rfl rfl (OpQ.move rfl) ?_
          refine Wl.split 76 rfl (fun hg76 => ?_) (fun hg76 => ?_)
          ·
           refine Wl.q rfl rfl (OpQ.fieldAddr fa31_2 rfl) ?_
           refine Wl.q rfl rfl (OpQ.loadF (b := b8) sc3 rfl (by repeat (first | exact Has.here | apply Has.there)) (by rfl)) ?_
           refine Wl.q rfl rfl (OpQ.neq rfl rfl) ?_
           refine Wl.q rfl rfl (OpQ.pickT rfl rfl) ?_
           refine Wl.q rfl rfl (OpQ.pickF rfl rfl) ?_
           refine Wl.q rfl rfl (OpQ.move rfl) ?_
           refine Wl.split 82 rfl (fun hg82 => ?_) (fun hg82 => ?_)
           ·
            refine Wl.skip rfl rfl ?_
            refine Wl.skip rfl rfl ?_
            refine Wl.skip rfl rfl ?_
            refine Wl.skip rfl rfl ?_
            refine Wl.skip rfl rfl ?_
            refine Wl.skip rfl rfl ?_
            refine Wl.skip rfl rfl ?_
            refine Wl.skip rfl rfl ?_
            refine Wl.skip rfl rfl ?_
            refine Wl.skip rfl rfl ?_
            refine Wl.skip rfl rfl ?_
            refine Wl.skip rfl rfl ?_
            refine Wl.skip rfl rfl ?_
            refine Wl.q rfl rfl (OpQ.pickT rfl rfl) ?_
            refine Wl.q rfl rfl (OpQ.move rfl) ?_
            refine Wl.skip rfl rfl ?_
            refine Wl.skip rfl rfl ?_
            refine Wl.skip rfl rfl ?_
            refine Wl.skip rfl rfl ?_
            refine Wl.skip rfl rfl ?_
            refine Wl.skip rfl rfl ?_
            refine Wl.skip rfl rfl ?_
            refine Wl.q rfl rfl (OpQ.pickT rfl rfl) ?_
            refine Wl.nil ?_
            exact PX.cutB hK2 ⟨lkV rfl (congrArg Value.bool (by (try simp only [decide_eq_true_eq, decide_eq_false_iff_not, Bool.not_eq_true', Bool.not_eq_false'] at hg62); (try simp only [decide_eq_true_eq, decide_eq_false_iff_not, Bool.not_eq_true', Bool.not_eq_false'] at hg66); (try simp only [decide_eq_true_eq, decide_eq_false_iff_not, Bool.not_eq_true', Bool.not_eq_false'] at hg73); (try simp only [decide_eq_true_eq, decide_eq_false_iff_not, Bool.not_eq_true', Bool.not_eq_false'] at hg76); (try simp only [decide_eq_true_eq, decide_eq_false_iff_not, Bool.not_eq_true', Bool.not_eq_false'] at hg82); (try simp only [decide_eq_true_eq, decide_eq_false_iff_not, Bool.not_eq_true', Bool.not_eq_false'] at hg85); (try simp only [decide_eq_true_eq, decide_eq_false_iff_not, Bool.not_eq_true', Bool.not_eq_false'] at hg89); (try simp only [decide_eq_true_eq, decide_eq_false_iff_not, Bool.not_eq_true', Bool.not_eq_false'] at hg97); (try simp only [decide_eq_true_eq, decide_eq_false_iff_not, Bool.not_eq_true', Bool.not_eq_false'] at hg100); rw [Bool.eq_iff_iff]; simp [-List.getD_eq_getElem?_getD, bad2]; try omega)), (by repeat (first | exact trivial | refine ⟨rfl, ?_⟩))⟩ (HSub.refl _)
           ·
            refine Wl.q rfl rfl (OpQ.move rfl) ?_
            refine Wl.q rfl rfl (OpQ.gtr rfl rfl) ?_
            refine Wl.q rfl rfl (OpQ.move rfl) ?_
            refine Wl.split 85 rfl (fun hg85 => ?_) (fun hg85 => ?_)
            ·
             refine Wl.q rfl rfl (OpQ.fieldAddr fa31_3 rfl) ?_
             refine Wl.q rfl rfl (OpQ.loadF (b := b8) sc3 rfl (by repeat (first | exact Has.here | apply Has.there)) (by rfl)) ?_
             refine Wl.q rfl rfl (OpQ.lss rfl rfl) ?_
             refine Wl.q rfl rfl (OpQ.move rfl) ?_
             refine Wl.split 89 rfl (fun hg89 => ?_) (fun hg89 => ?_)
             ·
              refine Wl.skip rfl rfl ?_
              refine Wl.skip rfl rfl ?_
              refine Wl.skip rfl rfl ?_
              refine Wl.skip rfl rfl ?_
              refine Wl.q rfl rfl (OpQ.pickT rfl rfl) ?_
              refine Wl.q rfl rfl (OpQ.pickT rfl rfl) ?_
              refine Wl.q rfl rfl (OpQ.pickF rfl rfl) ?_
              refine Wl.q rfl rfl (OpQ.move rfl) ?_
              refine Wl.skip rfl rfl ?_
              refine Wl.skip rfl rfl ?_
              refine Wl.skip rfl rfl ?_
              refine Wl.skip rfl rfl ?_
              refine Wl.skip rfl rfl ?_
              refine Wl.skip rfl rfl ?_
              refine Wl.skip rfl rfl ?_
              refine Wl.q rfl rfl (OpQ.pickT rfl rfl) ?_
              refine Wl.nil ?_
              exact PX.cutB hK2 ⟨lkV rfl (congrArg Value.bool (by (try simp only [decide_eq_true_eq, decide_eq_false_iff_not, Bool.not_eq_true', Bool.not_eq_false'] at hg62); (try simp only [decide_eq_true_eq, decide_eq_false_iff_not, Bool.not_eq_true', Bool.not_eq_false'] at hg66); (try simp only [decide_eq_true_eq, decide_eq_false_iff_not, Bool.not_eq_true', Bool.not_eq_false'] at hg73); (try simp only [decide_eq_true_eq, decide_eq_false_iff_not, Bool.not_eq_true', Bool.not_eq_false'] at hg76); (try simp only [decide_eq_true_eq, decide_eq_false_iff_not, Bool.not_eq_true', Bool.not_eq_false'] at hg82); (try simp only [decide_eq_true_eq, decide_eq_false_iff_not, Bool.not_eq_true', Bool.not_eq_false'] at hg85); (try simp only [decide_eq_true_eq, decide_eq_false_iff_not, Bool.not_eq_true', Bool.not_eq_false'] at hg89); (try simp only [decide_eq_true_eq, decide_eq_false_iff_not, Bool.not_eq_true', Bool.not_eq_false'] at hg97); (try simp only [decide_eq_true_eq, decide_eq_false_iff_not, Bool.not_eq_true', Bool.not_eq_false'] at hg100); rw [Bool.eq_iff_iff]; simp [-List.getD_eq_getElem?_getD, bad2]; try omega)), (by repeat (first | exact trivial | refine ⟨rfl, ?_⟩))⟩ (HSub.refl _)
             ·
              refine Wl.q rfl rfl (OpQ.fieldAddr fa31_3 rfl) ?_
              refine Wl.q rfl rfl (OpQ.loadF (b := b8) sc3 rfl (by repeat (first | exact Has.here | apply Has.there)) (by rfl)) ?_
              refine Wl.q rfl rfl (OpQ.move rfl) ?_
              refine Wl.q rfl rfl (OpQ.geq rfl rfl) ?_
              refine Wl.q rfl rfl (OpQ.pickF rfl rfl) ?_
              refine Wl.q rfl rfl (OpQ.pickT rfl rfl) ?_
              refine Wl.q rfl rfl (OpQ.pickF rfl rfl) ?_
              refine Wl.q rfl rfl (OpQ.move rfl) ?_
              refine Wl.split 97 rfl (fun hg97 => ?_) (fun hg97 => ?_)
              ·
               refine Wl.skip rfl rfl ?_
               refine Wl.skip rfl rfl ?_
               refine Wl.skip rfl rfl ?_
               refine Wl.skip rfl rfl ?_
               refine Wl.skip rfl rfl ?_
               refine Wl.skip rfl rfl ?_
               refine Wl.skip rfl rfl ?_
               refine Wl.q rfl rfl (OpQ.pickT rfl rfl) ?_
               refine Wl.nil ?_
               exact PX.cutB hK2 ⟨lkV rfl (congrArg Value.bool (by (try simp only [decide_eq_true_eq, decide_eq_false_iff_not, Bool.not_eq_true', Bool.not_eq_false'] at hg62); (try simp only [decide_eq_true_eq, decide_eq_false_iff_not, Bool.not_eq_true', Bool.not_eq_false'] at hg66); (try simp only [decide_eq_true_eq, decide_eq_false_iff_not, Bool.not_eq_true', Bool.not_eq_false'] at hg73); (try simp only [decide_eq_true_eq, decide_eq_false_iff_not, Bool.not_eq_true', Bool.not_eq_false'] at hg76); (try simp only [decide_eq_true_eq, decide_eq_false_iff_not, Bool.not_eq_true', Bool.not_eq_false'] at hg82); (try simp only [decide_eq_true_eq, decide_eq_false_iff_not, Bool.not_eq_true', Bool.not_eq_false'] at hg85); (try simp only [decide_eq_true_eq, decide_eq_false_iff_not, Bool.not_eq_true', Bool.not_eq_false'] at hg89); (try simp only [decide_eq_true_eq, decide_eq_false_iff_not, Bool.not_eq_true', Bool.not_eq_false'] at hg97); (try simp only [decide_eq_true_eq, decide_eq_false_iff_not, Bool.not_eq_true', Bool.not_eq_false'] at hg100); rw [Bool.eq_iff_iff]; simp [-List.getD_eq_getElem?_getD, bad2]; try omega)), (by repeat (first | exact trivial | refine ⟨rfl, ?_⟩))⟩ (HSub.refl _)
              ·
               refine Wl.q rfl rfl (OpQ.move rfl) ?_
               refine Wl.q rfl rfl (OpQ.lss rfl rfl) ?_
               refine Wl.q rfl rfl (OpQ.move rfl) ?_
               refine Wl.split 100 rfl (fun hg100 => ?_) (fun hg100 => ?_)
               ·
                refine Wl.q rfl rfl (OpQ.fieldAddr fa31_3 rfl) ?_
                refine Wl.q rfl rfl (OpQ.loadF (b := b8) sc3 rfl (by repeat (first | exact Has.here | apply Has.there)) (by rfl)) ?_
                refine Wl.q rfl rfl (OpQ.neq rfl rfl) ?_
                refine Wl.q rfl rfl (OpQ.pickT rfl rfl) ?_
                refine Wl.q rfl rfl (OpQ.pickF rfl rfl) ?_
                refine Wl.nil ?_
                exact PX.cutB hK2 ⟨lkV rfl (congrArg Value.bool (by (try simp only [decide_eq_true_eq, decide_eq_false_iff_not, Bool.not_eq_true', Bool.not_eq_false'] at hg62); (try simp only [decide_eq_true_eq, decide_eq_false_iff_not, Bool.not_eq_true', Bool.not_eq_false'] at hg66); (try simp only [decide_eq_true_eq, decide_eq_false_iff_not, Bool.not_eq_true', Bool.not_eq_false'] at hg73); (try simp only [decide_eq_true_eq, decide_eq_false_iff_not, Bool.not_eq_true', Bool.not_eq_false'] at hg76); (try simp only [decide_eq_true_eq, decide_eq_false_iff_not, Bool.not_eq_true', Bool.not_eq_false'] at hg82); (try simp only [decide_eq_true_eq, decide_eq_false_iff_not, Bool.not_eq_true', Bool.not_eq_false'] at hg85); (try simp only [decide_eq_true_eq, decide_eq_false_iff_not, Bool.not_eq_true', Bool.not_eq_false'] at hg89); (try simp only [decide_eq_true_eq, decide_eq_false_iff_not, Bool.not_eq_true', Bool.not_eq_false'] at hg97); (try simp only [decide_eq_true_eq, decide_eq_false_iff_not, Bool.not_eq_true', Bool.not_eq_false'] at hg100); rw [Bool.eq_iff_iff]; simp [-List.getD_eq_getElem?_getD, bad2]; try omega)), (by repeat (first | exact trivial | refine ⟨rfl, ?_⟩))⟩ (HSub.refl _)
               ·
                refine Wl.skip rfl rfl ?_
                refine Wl.skip rfl rfl ?_
                refine Wl.skip rfl rfl ?_
                refine Wl.q rfl rfl (OpQ.pickF rfl rfl) ?_
                refine Wl.q rfl rfl (OpQ.pickF rfl rfl) ?_
                refine Wl.nil ?_
                exact PX.cutB hK2 ⟨lkV rfl (congrArg Value.bool (by (try simp only [decide_eq_true_eq, decide_eq_false_iff_not, Bool.not_eq_true', Bool.not_eq_false'] at hg62); (try simp only [decide_eq_true_eq, decide_eq_false_iff_not, Bool.not_eq_true', Bool.not_eq_false'] at hg66); (try simp only [decide_eq_true_eq, decide_eq_false_iff_not, Bool.not_eq_true', Bool.not_eq_false'] at hg73); (try simp only [decide_eq_true_eq, decide_eq_false_iff_not, Bool.not_eq_true', Bool.not_eq_false'] at hg76); (try simp only [decide_eq_true_eq, decide_eq_false_iff_not, Bool.not_eq_true', Bool.not_eq_false'] at hg82); (try simp only [decide_eq_true_eq, decide_eq_false_iff_not, Bool.not_eq_true', Bool.not_eq_false'] at hg85); (try simp only [decide_eq_true_eq, decide_eq_false_iff_not, Bool.not_eq_true', Bool.not_eq_false'] at hg89); (try simp only [decide_eq_true_eq, decide_eq_false_iff_not, Bool.not_eq_true', Bool.not_eq_false'] at hg97); (try simp only [decide_eq_true_eq, decide_eq_false_iff_not, Bool.not_eq_true', Bool.not_eq_false'] at hg100); rw [Bool.eq_iff_iff]; simp [-List.getD_eq_getElem?_getD, bad2]; try omega)), (by repeat (first | exact trivial | refine ⟨rfl, ?_⟩))⟩ (HSub.refl _)
            ·
             refine Wl.skip rfl rfl ?_
             refine Wl.skip rfl rfl ?_
             refine Wl.skip rfl rfl ?_
             refine Wl.skip rfl rfl ?_
             refine Wl.skip rfl rfl ?_
             refine Wl.skip rfl rfl ?_
             refine Wl.skip rfl rfl ?_
             refine Wl.skip rfl rfl ?_
             refine Wl.skip rfl rfl ?_
             refine Wl.q rfl rfl (OpQ.pickF rfl rfl) ?_
             refine Wl.q rfl rfl (OpQ.pickF rfl rfl) ?_
             refine Wl.q rfl rfl (OpQ.move rfl) ?_
             refine Wl.q rfl rfl (OpQ.move rfl) ?_
             refine Wl.q rfl rfl (OpQ.lss rfl rfl) ?_
             refine Wl.q rfl rfl (OpQ.move rfl) ?_
             refine Wl.split 100 rfl (fun hg100 => ?_) (fun hg100 => ?_)
             ·
              refine Wl.q rfl rfl (OpQ.fieldAddr fa31_3 rfl) ?_
              refine Wl.q rfl rfl (OpQ.loadF (b := b8) sc3 rfl (by repeat (first | exact Has.here | apply Has.there)) (by rfl)) ?_
              refine Wl.q rfl rfl (OpQ.neq rfl rfl) ?_
              refine Wl.q rfl rfl (OpQ.pickT rfl rfl) ?_
              refine Wl.q rfl rfl (OpQ.pickF rfl rfl) ?_
              refine Wl.nil ?_
              exact PX.cutB hK2 ⟨lkV rfl (congrArg Value.bool (by (try simp only [decide_eq_true_eq, decide_eq_false_iff_not, Bool.not_eq_true', Bool.not_eq_false'] at hg62); (try simp only [decide_eq_true_eq, decide_eq_false_iff_not, Bool.not_eq_true', Bool.not_eq_false'] at hg66); (try simp only [decide_eq_true_eq, decide_eq_false_iff_not, Bool.not_eq_true', Bool.not_eq_false'] at hg73); (try simp only [decide_eq_true_eq, decide_eq_false_iff_not, Bool.not_eq_true', Bool.not_eq_false'] at hg76); (try simp only [decide_eq_true_eq, decide_eq_false_iff_not, Bool.not_eq_true', Bool.not_eq_false'] at hg82); (try simp only [decide_eq_true_eq, decide_eq_false_iff_not, Bool.not_eq_true', Bool.not_eq_false'] at hg85); (try simp only [decide_eq_true_eq, decide_eq_false_iff_not, Bool.not_eq_true', Bool.not_eq_false'] at hg89); (try simp only [decide_eq_true_eq, decide_eq_false_iff_not, Bool.not_eq_true', Bool.not_eq_false'] at hg97); (try simp only [decide_eq_true_eq, decide_eq_false_iff_not, Bool.not_eq_true', Bool.not_eq_false'] at hg100); rw [Bool.eq_iff_iff]; simp [-List.getD_eq_getElem?_getD, bad2]; try omega)), (by repeat (first | exact trivial | refine ⟨rfl, ?_⟩))⟩ (HSub.refl _)
             ·
              refine Wl.skip rfl rfl ?_
              refine Wl.skip rfl rfl ?_
              refine Wl.skip rfl rfl ?_
              refine Wl.q rfl rfl (OpQ.pickF rfl rfl) ?_
              refine Wl.q rfl rfl (OpQ.pickF rfl rfl) ?_
              refine Wl.nil ?_
              exact PX.cutB hK2 ⟨lkV rfl (congrArg Value.bool (by (try simp only [decide_eq_true_eq, decide_eq_false_iff_not, Bool.not_eq_true', Bool.not_eq_false'] at hg62); (try simp only [decide_eq_true_eq, decide_eq_false_iff_not, Bool.not_eq_true', Bool.not_eq_false'] at hg66); (try simp only [decide_eq_true_eq, decide_eq_false_iff_not, Bool.not_eq_true', Bool.not_eq_false'] at hg73); (try simp only [decide_eq_true_eq, decide_eq_false_iff_not, Bool.not_eq_true', Bool.not_eq_false'] at hg76); (try simp only [decide_eq_true_eq, decide_eq_false_iff_not, Bool.not_eq_true', Bool.not_eq_false'] at hg82); (try simp only [decide_eq_true_eq, decide_eq_false_iff_not, Bool.not_eq_true', Bool.not_eq_false'] at hg85); (try simp only [decide_eq_true_eq, decide_eq_false_iff_not, Bool.not_eq_true', Bool.not_eq_false'] at hg89); (try simp only [decide_eq_true_eq, decide_eq_false_iff_not, Bool.not_eq_true', Bool.not_eq_false'] at hg97); (try simp only [decide_eq_true_eq, decide_eq_false_iff_not, Bool.not_eq_true', Bool.not_eq_false'] at hg100); rw [Bool.eq_iff_iff]; simp [-List.getD_eq_getElem?_getD, bad2]; try omega)), (by repeat (first | exact trivial | refine ⟨rfl, ?_⟩))⟩ (HSub.refl _)
          ·
           refine Wl.skip rfl rfl ?_
           refine Wl.skip rfl rfl ?_
           refine Wl.skip rfl rfl ?_
           refine Wl.q rfl rfl (OpQ.pickF rfl rfl) ?_
           refine Wl.q rfl rfl (OpQ.pickF rfl rfl) ?_
           refine Wl.q rfl rfl (OpQ.move rfl) ?_
           refine Wl.q rfl rfl (OpQ.move rfl) ?_
           refine Wl.q rfl rfl (OpQ.gtr rfl rfl) ?_
           refine Wl.q rfl rfl (OpQ.move rfl) ?_
           refine Wl.split 85 rfl (fun hg85 => ?_) (fun hg85 => ?_)
           ·
            refine Wl.q rfl rfl (OpQ.fieldAddr fa31_3 rfl) ?_
            refine Wl.q rfl rfl (OpQ.loadF (b := b8) sc3 rfl (by repeat (first | exact Has.here | apply Has.there)) (by rfl)) ?_
            refine Wl.q rfl rfl (OpQ.lss rfl rfl) ?_
            refine Wl.q rfl rfl (OpQ.move rfl) ?_
            refine Wl.split 89 rfl (fun hg89 => ?_) (fun hg89 => ?_)
            ·
             refine Wl.skip rfl rfl ?_
             refine Wl.skip rfl rfl ?_
             refine Wl.skip rfl rfl ?_
             refine Wl.skip rfl rfl ?_
             refine Wl.q rfl rfl (OpQ.pickT rfl rfl) ?_
             refine Wl.q rfl rfl (OpQ.pickT rfl rfl) ?_
             refine Wl.q rfl rfl (OpQ.pickF rfl rfl) ?_
             refine Wl.q rfl rfl (OpQ.move rfl) ?_
             refine Wl.skip rfl rfl ?_
             refine Wl.skip rfl rfl ?_
             refine Wl.skip rfl rfl ?_
             refine Wl.skip rfl rfl ?_
             refine Wl.skip rfl rfl ?_
             refine Wl.skip rfl rfl ?_
             refine Wl.skip rfl rfl ?_
             refine Wl.q rfl rfl (OpQ.pickT rfl rfl) ?_
             refine Wl.nil ?_
             exact PX.cutB hK2 ⟨lkV rfl (congrArg Value.bool (by (try simp only [decide_eq_true_eq, decide_eq_false_iff_not, Bool.not_eq_true', Bool.not_eq_false'] at hg62); (try simp only [decide_eq_true_eq, decide_eq_false_iff_not, Bool.not_eq_true', Bool.not_eq_false'] at hg66); (try simp only [decide_eq_true_eq, decide_eq_false_iff_not, Bool.not_eq_true', Bool.not_eq_false'] at hg73); (try simp only [decide_eq_true_eq, decide_eq_false_iff_not, Bool.not_eq_true', Bool.not_eq_false'] at hg76); (try simp only [decide_eq_true_eq, decide_eq_false_iff_not, Bool.not_eq_true', Bool.not_eq_false'] at hg82); (try simp only [decide_eq_true_eq, decide_eq_false_iff_not, Bool.not_eq_true', Bool.not_eq_false'] at hg85); (try simp only [decide_eq_true_eq, decide_eq_false_iff_not, Bool.not_eq_true', Bool.not_eq_false'] at hg89); (try simp only [decide_eq_true_eq, decide_eq_false_iff_not, Bool.not_eq_true', Bool.not_eq_false'] at hg97); (try simp only [decide_eq_true_eq, decide_eq_false_iff_not, Bool.not_eq_true', Bool.not_eq_false'] at hg100); rw [Bool.eq_iff_iff]; simp [-List.getD_eq_getElem?_getD, bad2]; try omega)), (by repeat (first | exact trivial | refine ⟨rfl, ?_⟩))⟩ (HSub.refl _)
            ·
             refine Wl.q rfl rfl (OpQ.fieldAddr fa31_3 rfl) ?_
             refine Wl.q rfl rfl (OpQ.loadF (b := b8) sc3 rfl (by repeat (first | exact Has.here | apply Has.there)) (by rfl)) ?_
             refine Wl.q rfl rfl (OpQ.move rfl) ?_
             refine Wl.q rfl rfl (OpQ.geq rfl rfl) ?_
             refine Wl.q rfl rfl (OpQ.pickF rfl rfl) ?_
             refine Wl.q rfl rfl (OpQ.pickT rfl rfl) ?_
             refine Wl.q rfl rfl (OpQ.pickF rfl rfl) ?_
             refine Wl.q rfl rfl (OpQ.move rfl) ?_
             refine Wl.split 97 rfl (fun hg97 => ?_) (fun hg97 => ?_)
             ·
              refine Wl.skip rfl rfl ?_
              refine Wl.skip rfl rfl ?_
              refine Wl.skip rfl rfl ?_
              refine Wl.skip rfl rfl ?_
              refine Wl.skip rfl rfl ?_
              refine Wl.skip rfl rfl ?_
              refine Wl.skip rfl rfl ?_
              refine Wl.q rfl rfl (OpQ.pickT rfl rfl) ?_
              refine Wl.nil ?_
              exact PX.cutB hK2 ⟨lkV rfl (congrArg Value.bool (by (try simp only [decide_eq_true_eq, decide_eq_false_iff_not, Bool.not_eq_true', Bool.not_eq_false'] at hg62); (try simp only [decide_eq_true_eq, decide_eq_false_iff_not, Bool.not_eq_true', Bool.not_eq_false'] at hg66); (try simp only [decide_eq_true_eq, decide_eq_false_iff_not, Bool.not_eq_true', Bool.not_eq_false'] at hg73); (try simp only [decide_eq_true_eq, decide_eq_false_iff_not, Bool.not_eq_true', Bool.not_eq_false'] at hg76); (try simp only [decide_eq_true_eq, decide_eq_false_iff_not, Bool.not_eq_true', Bool.not_eq_false'] at hg82); (try simp only [decide_eq_true_eq, decide_eq_false_iff_not, Bool.not_eq_true', Bool.not_eq_false'] at hg85); (try simp only [decide_eq_true_eq, decide_eq_false_iff_not, Bool.not_eq_true', Bool.not_eq_false'] at hg89); (try simp only [decide_eq_true_eq, decide_eq_false_iff_not, Bool.not_eq_true', Bool.not_eq_false'] at hg97); (try simp only [decide_eq_true_eq, decide_eq_false_iff_not, Bool.not_eq_true', Bool.not_eq_false'] at hg100); rw [Bool.eq_iff_iff]; simp [-List.getD_eq_getElem?_getD, bad2]; try omega)), (by repeat (first | exact trivial | refine ⟨rfl, ?_⟩))⟩ (HSub.refl _)
             ·
              refine Wl.q rfl rfl (OpQ.move rfl) ?_
              refine Wl.q rfl rfl (OpQ.lss rfl rfl) ?_
              refine Wl.q rfl rfl (OpQ.move rfl) ?_
              refine Wl.split 100 rfl (fun hg100 => ?_) (fun hg100 => ?_)
              ·
               refine Wl.q rfl rfl (OpQ.fieldAddr fa31_3 rfl) ?_
               refine Wl.q rfl rfl (OpQ.loadF (b := b8) sc3 rfl (by repeat (first | exact Has.here | apply Has.there)) (by rfl)) ?_
               refine Wl.q rfl rfl (OpQ.neq rfl rfl) ?_
               refine Wl.q rfl rfl (OpQ.pickT rfl rfl) ?_
               refine Wl.q rfl rfl (OpQ.pickF rfl rfl) ?_
               refine Wl.nil ?_
               exact PX.cutB hK2 ⟨lkV rfl (congrArg Value.bool (by (try simp only [decide_eq_true_eq, decide_eq_false_iff_not, Bool.not_eq_true', Bool.not_eq_false'] at hg62); (try simp only [decide_eq_true_eq, decide_eq_false_iff_not, Bool.not_eq_true', Bool.not_eq_false'] at hg66); (try simp only [decide_eq_true_eq, decide_eq_false_iff_not, Bool.not_eq_true', Bool.not_eq_false'] at hg73); (try simp only [decide_eq_true_eq, decide_eq_false_iff_not, Bool.not_eq_true', Bool.not_eq_false'] at hg76); (try simp only [decide_eq_true_eq, decide_eq_false_iff_not, Bool.not_eq_true', Bool.not_eq_false'] at hg82); (try simp only [decide_eq_true_eq, decide_eq_false_iff_not, Bool.not_eq_true', Bool.not_eq_false'] at hg85); (try simp only [decide_eq_true_eq, decide_eq_false_iff_not, Bool.not_eq_true', Bool.not_eq_false'] at hg89); (try simp only [decide_eq_true_eq, decide_eq_false_iff_not, Bool.not_eq_true', Bool.not_eq_false'] at hg97); (try simp only [decide_eq_true_eq, decide_eq_false_iff_not, Bool.not_eq_true', Bool.not_eq_false'] at hg100); rw [Bool.eq_iff_iff]; simp [-List.getD_eq_getElem?_getD, bad2]; try omega)), (by repeat (first | exact trivial | refine ⟨rfl, ?_⟩))⟩ (HSub.refl _)
              ·
               refine Wl.skip rfl rfl ?_
               refine Wl.skip rfl rfl ?_
               refine Wl.skip rfl rfl ?_
               refine Wl.q rfl rfl (OpQ.pickF rfl rfl) ?_
               refine Wl.q rfl rfl (OpQ.pickF rfl rfl) ?_
               refine Wl.nil ?_
               exact PX.cutB hK2 ⟨lkV rfl (congrArg Value.bool (by (try simp only [decide_eq_true_eq, decide_eq_false_iff_not, Bool.not_eq_true', Bool.not_eq_false'] at hg62); (try simp only [decide_eq_true_eq, decide_eq_false_iff_not, Bool.not_eq_true', Bool.not_eq_false'] at hg66); (try simp only [decide_eq_true_eq, decide_eq_false_iff_not, Bool.not_eq_true', Bool.not_eq_false'] at hg73); (try simp only [decide_eq_true_eq, decide_eq_false_iff_not, Bool.not_eq_true', Bool.not_eq_false'] at hg76); (try simp only [decide_eq_true_eq, decide_eq_false_iff_not, Bool.not_eq_true', Bool.not_eq_false'] at hg82); (try simp only [decide_eq_true_eq, decide_eq_false_iff_not, Bool.not_eq_true', Bool.not_eq_false'] at hg85); (try simp only [decide_eq_true_eq, decide_eq_false_iff_not, Bool.not_eq_true', Bool.not_eq_false'] at hg89); (try simp only [decide_eq_true_eq, decide_eq_false_iff_not, Bool.not_eq_true', Bool.not_eq_false'] at hg97); (try simp only [decide_eq_true_eq, decide_eq_false_iff_not, Bool.not_eq_true', Bool.not_eq_false'] at hg100); rw [Bool.eq_iff_iff]; simp [-List.getD_eq_getElem?_getD, bad2]; try omega)), (by repeat (first | exact trivial | refine ⟨rfl, ?_⟩))⟩ (HSub.refl _)
           ·
            refine Wl.skip rfl rfl ?_
            refine Wl.skip rfl rfl ?_
            refine Wl.skip rfl rfl ?_
            refine Wl.skip rfl rfl ?_
            refine Wl.skip rfl rfl ?_
            refine Wl.skip rfl rfl ?_
            refine Wl.skip rfl rfl ?_
            refine Wl.skip rfl rfl ?_
            refine Wl.skip rfl rfl ?_
            refine Wl.q rfl rfl (OpQ.pickF rfl rfl) ?_
            refine Wl.q rfl rfl (OpQ.pickF rfl rfl) ?_
            refine Wl.q rfl rfl (OpQ.move rfl) ?_
            refine Wl.q rfl rfl (OpQ.move rfl) ?_
            refine Wl.q rfl rfl (OpQ.lss rfl rfl) ?_
            refine Wl.q rfl rfl (OpQ.move rfl) ?_
            refine Wl.split 100 rfl (fun hg100 => ?_) (fun hg100 => ?_)
            ·
             refine Wl.q rfl rfl (OpQ.fieldAddr fa31_3 rfl) ?_
             refine Wl.q rfl rfl (OpQ.loadF (b := b8) sc3 rfl (by repeat (first | exact Has.here | apply Has.there)) (by rfl)) ?_
             refine Wl.q rfl rfl (OpQ.neq rfl rfl) ?_
             refine Wl.q rfl rfl (OpQ.pickT rfl rfl) ?_
             refine Wl.q rfl rfl (OpQ.pickF rfl rfl) ?_
             refine Wl.nil ?_
             exact PX.cutB hK2 ⟨lkV rfl (congrArg Value.bool (by (try simp only [decide_eq_true_eq, decide_eq_false_iff_not, Bool.not_eq_true', Bool.not_eq_false'] at hg62); (try simp only [decide_eq_true_eq, decide_eq_false_iff_not, Bool.not_eq_true', Bool.not_eq_false'] at hg66); (try simp only [decide_eq_true_eq, decide_eq_false_iff_not, Bool.not_eq_true', Bool.not_eq_false'] at hg73); (try simp only [decide_eq_true_eq, decide_eq_false_iff_not, Bool.not_eq_true', Bool.not_eq_false'] at hg76); (try simp only [decide_eq_true_eq, decide_eq_false_iff_not, Bool.not_eq_true', Bool.not_eq_false'] at hg82); (try simp only [decide_eq_true_eq, decide_eq_false_iff_not, Bool.not_eq_true', Bool.not_eq_false'] at hg85); (try simp only [decide_eq_true_eq, decide_eq_false_iff_not, Bool.not_eq_true', Bool.not_eq_false'] at hg89); (try simp only [decide_eq_true_eq, decide_eq_false_iff_not, Bool.not_eq_true', Bool.not_eq_false'] at hg97); (try simp only [decide_eq_true_eq, decide_eq_false_iff_not, Bool.not_eq_true', Bool.not_eq_false'] at hg100); rw [Bool.eq_iff_iff]; simp [-List.getD_eq_getElem?_getD, bad2]; try omega)), (by repeat (first | exact trivial | refine ⟨rfl, ?_⟩))⟩ (HSub.refl _)
            ·
             refine Wl.skip rfl rfl ?_
             refine Wl.skip rfl rfl ?_
             refine Wl.skip rfl rfl ?_
             refine Wl.q rfl rfl (OpQ.pickF rfl rfl) ?_
             refine Wl.q rfl rfl (OpQ.pickF rfl rfl) ?_
             refine Wl.nil ?_
             exact PX.cutB hK2 ⟨lkV rfl (congrArg Value.bool (by (try simp only [decide_eq_true_eq, decide_eq_false_iff_not, Bool.not_eq_true', Bool.not_eq_false'] at hg62); (try simp only [decide_eq_true_eq, decide_eq_false_iff_not, Bool.not_eq_true', Bool.not_eq_false'] at hg66); (try simp only [decide_eq_true_eq, decide_eq_false_iff_not, Bool.not_eq_true', Bool.not_eq_false'] at hg73); (try simp only [decide_eq_true_eq, decide_eq_false_iff_not, Bool.not_eq_true', Bool.not_eq_false'] at hg76); (try simp only [decide_eq_true_eq, decide_eq_false_iff_not, Bool.not_eq_true', Bool.not_eq_false'] at hg82); (try simp only [decide_eq_true_eq, decide_eq_false_iff_not, Bool.not_eq_true', Bool.not_eq_false'] at hg85); (try simp only [decide_eq_true_eq, decide_eq_false_iff_not, Bool.not_eq_true', Bool.not_eq_false'] at hg89); (try simp only [decide_eq_true_eq, decide_eq_false_iff_not, Bool.not_eq_true', Bool.not_eq_false'] at hg97); (try simp only [decide_eq_true_eq, decide_eq_false_iff_not, Bool.not_eq_true', Bool.not_eq_false'] at hg100); rw [Bool.eq_iff_iff]; simp [-List.getD_eq_getElem?_getD, bad2]; try omega)), (by repeat (first | exact trivial | refine ⟨rfl, ?_⟩))⟩ (HSub.refl _)
       ·
        refine Wl.skip rfl rfl ?_
        refine Wl.skip rfl rfl ?_
        refine Wl.skip rfl rfl ?_
        refine Wl.skip rfl rfl ?_
        refine Wl.skip rfl rfl ?_
        refine Wl.skip rfl rfl ?_
        refine Wl.skip rfl rfl ?_
        refine Wl.skip rfl rfl ?_
        refine Wl.skip rfl rfl ?_
        refine Wl.q rfl rfl (OpQ.pickF rfl rfl) ?_
        refine Wl.q rfl rfl (OpQ.move rfl) ?_
        refine Wl.q rfl rfl (OpQ.move rfl) ?_
        refine Wl.q rfl rfl (OpQ.eql rfl rfl) ?_
        refine Wl.q rfl rfl (OpQ.move rfl) ?_
        refine Wl.split 76 rfl (fun hg76 => ?_) (fun hg76 => ?_)
        ·
         refine Wl.q rfl rfl (OpQ.fieldAddr fa31_2 rfl) ?_
         refine Wl.q rfl rfl (OpQ.loadF (b := b8) sc3 rfl (by repeat (first | exact Has.here | apply Has.there)) (by rfl)) ?_
         refine Wl.q rfl rfl (OpQ.neq rfl rfl) ?_
         refine Wl.q rfl rfl (OpQ.pickT rfl rfl) ?_
         refine Wl.q rfl rfl (OpQ.pickF rfl rfl) ?_
         refine Wl.q rfl rfl (OpQ.move rfl) ?_
         refine Wl.split 82 rfl (fun hg82 => ?_) (fun hg82 => ?_)
         ·
          refine Wl.skip rfl rfl ?_
          refine Wl.skip rfl rfl ?_
          refine Wl.skip rfl rfl ?_
          refine Wl.skip rfl rfl ?_
          refine Wl.skip rfl rfl ?_
          refine Wl.skip rfl rfl ?_
          refine Wl.skip rfl rfl ?_
          refine Wl.skip rfl rfl ?_
          refine Wl.skip rfl rfl ?_
          refine Wl.skip rfl rfl ?_
          refine Wl.skip rfl rfl ?_
          refine Wl.skip rfl rfl ?_
          refine Wl.skip rfl rfl ?_
          refine Wl.q rfl rfl (OpQ.pickT rfl rfl) ?_
          refine Wl.q rfl rfl (OpQ.move rfl) ?_
          refine Wl.skip rfl rfl ?_
          refine Wl.skip rfl rfl ?_
          refine Wl.skip rfl rfl ?_
          refine Wl.skip rfl rfl ?_
          refine Wl.skip rfl rfl ?_
          refine Wl.skip rfl rfl ?_
          refine Wl.skip rfl rfl ?_
          refine Wl.q rfl rfl (OpQ.pickT rfl rfl) ?_
          refine Wl.nil ?_
          exact PX.cutB hK2 ⟨lkV rfl (congrArg Value.bool (by (try simp only [decide_eq_true_eq, decide_eq_false_iff_not, Bool.not_eq_true', Bool.not_eq_false'] at hg62); (try simp only [decide_eq_true_eq, decide_eq_false_iff_not, Bool.not_eq_true', Bool.not_eq_false'] at hg66); (try simp only [decide_eq_true_eq, decide_eq_false_iff_not, Bool.not_eq_true', Bool.not_eq_false'] at hg73); (try simp only [decide_eq_true_eq, decide_eq_false_iff_not, Bool.not_eq_true', Bool.not_eq_false'] at hg76); (try simp only [decide_eq_true_eq, decide_eq_false_iff_not, Bool.not_eq_true', Bool.not_eq_false'] at hg82); (try simp only [decide_eq_true_eq, decide_eq_false_iff_not, Bool.not_eq_true', Bool.not_eq_false'] at hg85); (try simp only [decide_eq_true_eq, decide_eq_false_iff_not, Bool.not_eq_true', Bool.not_eq_false'] at hg89); (try simp only [decide_eq_true_eq, decide_eq_false_iff_not, Bool.not_eq_true', Bool.not_eq_false'] at hg97); (try simp only [decide_eq_true_eq, decide_eq_false_iff_not, Bool.not_eq_true', Bool.not_eq_false'] at hg100); rw [Bool.eq_iff_iff]; simp [-List.getD_eq_getElem?_getD, bad2]; try omega)), (by repeat (first | exact trivial | refine ⟨rfl, ?_⟩))⟩ (HSub.refl _)
         ·
          refine Wl.q rfl rfl (OpQ.move rfl) ?_
          refine Wl.q rfl rfl (OpQ.gtr rfl rfl) ?_
          refine Wl.q rfl rfl (OpQ.move rfl) ?_
          refine Wl.split 85 rfl (fun hg85 => ?_) (fun hg85 => ?_)
          ·
           refine Wl.q rfl rfl (OpQ.fieldAddr fa31_3 rfl) ?_
           refine Wl.q rfl rfl (OpQ.loadF (b := b8) sc3 rfl (by repeat (first | exact Has.here | apply Has.there)) (by rfl)) ?_
           refine Wl.q rfl rfl (OpQ.lss rfl rfl) ?_
           refine Wl.q rfl rfl (OpQ.move rfl) ?_
           refine Wl.split 89 rfl (fun hg89 => ?_) (fun hg89 => ?_)
           ·
            refine Wl.skip rfl rfl ?_
            refine Wl.skip rfl rfl ?_
            refine Wl.skip rfl rfl ?_
            refine Wl.skip rfl rfl ?_
            refine Wl.q rfl rfl (OpQ.pickT rfl rfl) ?_
            refine Wl.q rfl rfl (OpQ.pickT rfl rfl) ?_
            refine Wl.q rfl rfl (OpQ.pickF rfl rfl) ?_
            refine Wl.q rfl rfl (OpQ.move rfl) ?_
            refine Wl.skip rfl rfl ?_
            refine Wl.skip rfl rfl ?_
            refine Wl.skip rfl rfl ?_
            refine Wl.skip rfl rfl ?_
            refine Wl.skip rfl rfl ?_
            refine Wl.skip rfl rfl ?_
            refine Wl.skip rfl rfl ?_
            refine Wl.q rfl rfl (OpQ.pickT rfl rfl) ?_
            refine Wl.nil ?_
            exact PX.cutB hK2 ⟨lkV rfl (congrArg Value.bool (by (try simp only [decide_eq_true_eq, decide_eq_false_iff_not, Bool.not_eq_true', Bool.not_eq_false'] at hg62); (try simp only [decide_eq_true_eq, decide_eq_false_iff_not, Bool.not_eq_true', Bool.not_eq_false'] at hg66); (try simp only [decide_eq_true_eq, decide_eq_false_iff_not, Bool.not_eq_true', Bool.not_eq_false'] at hg73); (try simp only [decide_eq_true_eq, decide_eq_false_iff_not, Bool.not_eq_true', Bool.not_eq_false'] at hg76); (try simp only [decide_eq_true_eq, decide_eq_false_iff_not, Bool.not_eq_true', Bool.not_eq_false'] at hg82); (try simp only [decide_eq_true_eq, decide_eq_false_iff_not, Bool.not_eq_true', Bool.not_eq_false'] at hg85); (try simp only [decide_eq_true_eq, decide_eq_false_iff_not, Bool.not_eq_true', Bool.not_eq_false'] at hg89); (try simp only [decide_eq_true_eq, decide_eq_false_iff_not, Bool.not_eq_true', Bool.not_eq_false'] at hg97); (try simp only [decide_eq_true_eq, decide_eq_false_iff_not, Bool.not_eq_true', Bool.not_eq_false'] at hg100); rw [Bool.eq_iff_iff]; simp [-List.getD_eq_getElem?_getD, bad2]; try omega)), (by repeat (first | exact trivial | refine ⟨rfl, ?_⟩))⟩ (HSub.refl _)
           ·
            refine Wl.q rfl rfl (OpQ.fieldAddr fa31_3 rfl) ?_
            refine Wl.q rfl rfl (OpQ.loadF (b := b8) sc3 rfl (by repeat (first | exact Has.here | apply Has.there)) (by rfl)) ?_
            refine Wl.q rfl rfl (OpQ.move rfl) ?_
            refine Wl.q rfl rfl (OpQ.geq rfl rfl) ?_
            refine Wl.q rfl rfl (OpQ.pickF rfl rfl) ?_
            refine Wl.q rfl rfl (OpQ.pickT rfl rfl) ?_
            refine Wl.q rfl rfl (OpQ.pickF rfl rfl) ?_
            refine Wl.q rfl rfl (OpQ.move rfl) ?_
            refine Wl.split 97 rfl (fun hg97 => ?_) (fun hg97 => ?_)
            ·
             refine Wl.skip rfl rfl ?_
             refine Wl.skip rfl rfl ?_
             refine Wl.skip rfl rfl ?_
             refine Wl.skip rfl rfl ?_
             refine Wl.skip rfl rfl ?_
             refine Wl.skip rfl rfl ?_
             refine Wl.skip rfl rfl ?_
             refine Wl.q rfl rfl (OpQ.pickT rfl rfl) ?_
             refine Wl.nil ?_
             exact PX.cutB hK2 ⟨lkV rfl (congrArg Value.bool (by (try simp only [decide_eq_true_eq, decide_eq_false_iff_not, Bool.not_eq_true', Bool.not_eq_false'] at hg62); (try simp only [decide_eq_true_eq, decide_eq_false_iff_not, Bool.not_eq_true', Bool.not_eq_false'] at hg66); (try simp only [decide_eq_true_eq, decide_eq_false_iff_not, Bool.not_eq_true', Bool.not_eq_false'] at hg73); (try simp only [decide_eq_true_eq, decide_eq_false_iff_not, Bool.not_eq_true', Bool.not_eq_false'] at hg76); (try simp only [decide_eq_true_eq, decide_eq_false_iff_not, Bool.not_eq_true', Bool.not_eq_false'] at hg82); (try simp only [decide_eq_true_eq, decide_eq_false_iff_not, Bool.not_eq_true', Bool.not_eq_false'] at hg85); (try simp only [decide_eq_true_eq, decide_eq_false_iff_not, Bool.not_eq_true', Bool.not_eq_false'] at hg89); (try simp only [decide_eq_true_eq, decide_eq_false_iff_not, Bool.not_eq_true', Bool.not_eq_false'] at hg97); (try simp only [decide_eq_true_eq, decide_eq_false_iff_not, Bool.not_eq_true', Bool.not_eq_false'] at hg100); rw [Bool.eq_iff_iff]; simp [-List.getD_eq_getElem?_getD, bad2]; try omega)), (by repeat (first | exact trivial | refine ⟨rfl, ?_⟩))⟩ (HSub.refl _)
            ·
             refine Wl.q rfl rfl (OpQ.move rfl) ?_
             refine Wl.q rfl rfl (OpQ.lss rfl rfl) ?_
             refine Wl.q rfl rfl (OpQ.move rfl) ?_
             refine Wl.split 100 rfl (fun hg100 => ?_) (fun hg100 => ?_)
             ·
              refine Wl.q rfl rfl (OpQ.fieldAddr fa31_3 rfl) ?_
              refine Wl.q rfl rfl (OpQ.loadF (b := b8) sc3 rfl (by repeat (first | exact Has.here | apply Has.there)) (by rfl)) ?_
              refine Wl.q rfl rfl (OpQ.neq rfl rfl) ?_
              refine Wl.q rfl rfl (OpQ.pickT rfl rfl) ?_
              refine Wl.q rfl rfl (OpQ.pickF rfl rfl) ?_
              refine Wl.nil ?_
              exact PX.cutB hK2 ⟨lkV rfl (congrArg Value.bool (by (try simp only [decide_eq_true_eq, decide_eq_false_iff_not, Bool.not_eq_true', Bool.not_eq_false'] at hg62); (try simp only [decide_eq_true_eq, decide_eq_false_iff_not, Bool.not_eq_true', Bool.not_eq_false'] at hg66); (try simp only [decide_eq_true_eq, decide_eq_false_iff_not, Bool.not_eq_true', Bool.not_eq_false'] at hg73); (try simp only [decide_eq_true_eq, decide_eq_false_iff_not, Bool.not_eq_true', Bool.not_eq_false'] at hg76); (try simp only [decide_eq_true_eq, decide_eq_false_iff_not, Bool.not_eq_true', Bool.not_eq_false'] at hg82); (try simp only [decide_eq_true_eq, decide_eq_false_iff_not, Bool.not_eq_true', Bool.not_eq_false'] at hg85); (try simp only [decide_eq_true_eq, decide_eq_false_iff_not, Bool.not_eq_true', Bool.not_eq_false'] at hg89); (try simp only [decide_eq_true_eq, decide_eq_false_iff_not, Bool.not_eq_true', Bool.not_eq_false'] at hg97); (try simp only [decide_eq_true_eq, decide_eq_false_iff_not, Bool.not_eq_true', Bool.not_eq_false'] at hg100); rw [Bool.eq_iff_iff]; simp [-List.getD_eq_getElem?_getD, bad2]; try omega)), (by repeat (first | exact trivial | refine ⟨rfl, ?_⟩))⟩ (HSub.refl _)
             ·
              refine Wl.skip rfl rfl ?_
              refine Wl.skip rfl rfl ?_
              refine Wl.skip rfl rfl ?_
              refine Wl.q rfl rfl (OpQ.pickF rfl rfl) ?_
              refine Wl.q rfl rfl (OpQ.pickF rfl rfl) ?_
              refine Wl.nil ?_
              exact PX.cutB hK2 ⟨lkV rfl (congrArg Value.bool (by (try simp only [decide_eq_true_eq, decide_eq_false_iff_not, Bool.not_eq_true', Bool.not_eq_false'] at hg62); (try simp only [decide_eq_true_eq, decide_eq_false_iff_not, Bool.not_eq_true', Bool.not_eq_false'] at hg66); (try simp only [decide_eq_true_eq, decide_eq_false_iff_not, Bool.not_eq_true', Bool.not_eq_false'] at hg73); (try simp only [decide_eq_true_eq, decide_eq_false_iff_not, Bool.not_eq_true', Bool.not_eq_false'] at hg76); (try simp only [decide_eq_true_eq, decide_eq_false_iff_not, Bool.not_eq_true', Bool.not_eq_false'] at hg82); (try simp only [decide_eq_true_eq, decide_eq_false_iff_not, Bool.not_eq_true', Bool.not_eq_false'] at hg85); (try simp only [decide_eq_true_eq, decide_eq_false_iff_not, Bool.not_eq_true', Bool.not_eq_false'] at hg89); (try simp only [decide_eq_true_eq, decide_eq_false_iff_not, Bool.not_eq_true', Bool.not_eq_false'] at hg97); (try simp only [decide_eq_true_eq, decide_eq_false_iff_not, Bool.not_eq_true', Bool.not_eq_false'] at hg100); rw [Bool.eq_iff_iff]; simp [-List.getD_eq_getElem?_getD, bad2]; try omega)), (by repeat (first | exact trivial | refine ⟨rfl, ?_⟩))⟩ (HSub.refl _)
          ·
           refine Wl.skip rfl rfl ?_
           refine Wl.skip rfl rfl ?_
           refine Wl.skip rfl rfl ?_
           refine Wl.skip rfl rfl ?_
           refine Wl.skip rfl rfl ?_
           refine Wl.skip rfl rfl ?_
           refine Wl.skip rfl rfl ?_
           refine Wl.skip rfl rfl ?_
           refine Wl.skip rfl rfl ?_
           refine Wl.q rfl rfl (OpQ.pickF rfl rfl) ?_
           refine Wl.q rfl rfl (OpQ.pickF rfl rfl) ?_
           refine Wl.q rfl rfl (OpQ.move rfl) ?_
           refine Wl.q rfl rfl (OpQ.move rfl) ?_
           refine Wl.q rfl rfl (OpQ.lss rfl rfl) ?_
           refine Wl.q rfl rfl (OpQ.move rfl) ?_
           refine Wl.split 100 rfl (fun hg100 => ?_) (fun hg100 => ?_)
           ·
            refine Wl.q rfl rfl (OpQ.fieldAddr fa31_3 rfl) ?_
            refine Wl.q rfl rfl (OpQ.loadF (b := b8) sc3 rfl (by repeat (first | exact Has.here | apply Has.there)) (by rfl)) ?_
            refine Wl.q rfl rfl (OpQ.neq rfl rfl) ?_
            refine Wl.q rfl rfl (OpQ.pickT rfl rfl) ?_
            refine Wl.q rfl rfl (OpQ.pickF rfl rfl) ?_
            refine Wl.nil ?_
            exact PX.cutB hK2 ⟨lkV rfl (congrArg Value.bool (by (try simp only [decide_eq_true_eq, decide_eq_false_iff_not, Bool.not_eq_true', Bool.not_eq_false'] at hg62); (try simp only [decide_eq_true_eq, decide_eq_false_iff_not, Bool.not_eq_true', Bool.not_eq_false'] at hg66); (try simp only [decide_eq_true_eq, decide_eq_false_iff_not, Bool.not_eq_true', Bool.not_eq_false'] at hg73); (try simp only [decide_eq_true_eq, decide_eq_false_iff_not, Bool.not_eq_true', Bool.not_eq_false'] at hg76); (try simp only [decide_eq_true_eq, decide_eq_false_iff_not, Bool.not_eq_true', Bool.not_eq_false'] at hg82); (try simp only [decide_eq_true_eq, decide_eq_false_iff_not, Bool.not_eq_true', Bool.not_eq_false'] at hg85); (try simp only [decide_eq_true_eq, decide_eq_false_iff_not, Bool.not_eq_true', Bool.not_eq_false'] at hg89); (try simp only [decide_eq_true_eq, decide_eq_false_iff_not, Bool.not_eq_true', Bool.not_eq_false'] at hg97); (try simp only [decide_eq_true_eq, decide_eq_false_iff_not, Bool.not_eq_true', Bool.not_eq_false'] at hg100); rw [Bool.eq_iff_iff]; simp [-List.getD_eq_getElem?_getD, bad2]; try omega)), (by repeat (first | exact trivial | refine ⟨rfl, ?_⟩))⟩ (HSub.refl _)
           ·
            refine Wl.skip rfl rfl ?_
            refine Wl.skip rfl rfl ?_
            refine Wl.skip rfl rfl ?_
            refine Wl.q rfl rfl (OpQ.pickF rfl rfl) ?_
            refine Wl.q rfl rfl (OpQ.pickF rfl rfl) ?_
            refine Wl.nil ?_
            exact PX.cutB hK2 ⟨lkV rfl (congrArg Value.bool (by (try simp only [decide_eq_true_eq, decide_eq_false_iff_not, Bool.not_eq_true', Bool.not_eq_false'] at hg62); (try simp only [decide_eq_true_eq, decide_eq_false_iff_not, Bool.not_eq_true', Bool.not_eq_false'] at hg66); (try simp only [decide_eq_true_eq, decide_eq_false_iff_not, Bool.not_eq_true', Bool.not_eq_false'] at hg73); (try simp only [decide_eq_true_eq, decide_eq_false_iff_not, Bool.not_eq_true', Bool.not_eq_false'] at hg76); (try simp only [decide_eq_true_eq, decide_eq_false_iff_not, Bool.not_eq_true', Bool.not_eq_false'] at hg82); (try simp only [decide_eq_true_eq, decide_eq_false_iff_not, Bool.not_eq_true', Bool.not_eq_false'] at hg85); (try simp only [decide_eq_true_eq, decide_eq_false_iff_not, Bool.not_eq_true', Bool.not_eq_false'] at hg89); (try simp only [decide_eq_true_eq, decide_eq_false_iff_not, Bool.not_eq_true', Bool.not_eq_false'] at hg97); (try simp only [decide_eq_true_eq, decide_eq_false_iff_not, Bool.not_eq_true', Bool.not_eq_false'] at hg100); rw [Bool.eq_iff_iff]; simp [-List.getD_eq_getElem?_getD, bad2]; try omega)), (by repeat (first | exact trivial | refine ⟨rfl, ?_⟩))⟩ (HSub.refl _)
        ·
         refine Wl.skip rfl rfl ?_
         refine Wl.skip rfl rfl ?_
         refine Wl.skip rfl rfl ?_
         refine Wl.q rfl rfl (OpQ.pickF rfl rfl) ?_
         refine Wl.q rfl rfl (OpQ.pickF rfl rfl) ?_
         refine Wl.q rfl rfl (OpQ.move rfl) ?_
         refine Wl.q rfl rfl (OpQ.move rfl) ?_
         refine Wl.q rfl rfl (OpQ.gtr rfl rfl) ?_
         refine Wl.q rfl rfl (OpQ.move rfl) ?_
         refine Wl.split 85 rfl (fun hg85 => ?_) (fun hg85 => ?_)
         ·
          refine Wl.q rfl rfl (OpQ.fieldAddr fa31_3 rfl) ?_
          refine Wl.q rfl rfl (OpQ.loadF (b := b8) sc3 rfl (by repeat (first | exact Has.here | apply Has.there)) (by rfl)) ?_
          refine Wl.q rfl rfl (OpQ.lss rfl rfl) ?_
          refine Wl.q rfl rfl (OpQ.move rfl) ?_
          refine Wl.split 89 rfl (fun hg89 => ?_) (fun hg89 => ?_)
          ·
           refine Wl.skip rfl rfl ?_
           refine Wl.skip rfl rfl ?_
           refine Wl.skip rfl rfl ?_
           refine Wl.skip rfl rfl ?_
           refine Wl.q rfl rfl (OpQ.pickT rfl rfl) ?_
           refine Wl.q rfl rfl (OpQ.pickT rfl rfl) ?_
           refine Wl.q rfl rfl (OpQ.pickF rfl rfl) ?_
           refine Wl.q rfl rfl (OpQ.move rfl) ?_
           refine Wl.skip rfl rfl ?_
           refine Wl.skip rfl rfl ?_
           refine Wl.skip rfl rfl ?_
           refine Wl.skip rfl rfl ?_
           refine Wl.skip rfl rfl ?_
           refine Wl.skip rfl rfl ?_
           refine Wl.skip rfl rfl ?_
           refine Wl.q rfl rfl (OpQ.pickT rfl rfl) ?_
           refine Wl.nil ?_
           exact PX.cutB hK2 ⟨lkV rfl (congrArg Value.bool (by (try simp only [decide_eq_true_eq, decide_eq_false_iff_not, Bool.not_eq_true', Bool.not_eq_false'] at hg62); (try simp only [decide_eq_true_eq, decide_eq_false_iff_not, Bool.not_eq_true', Bool.not_eq_false'] at hg66); (try simp only [decide_eq_true_eq, decide_eq_false_iff_not, Bool.not_eq_true', Bool.not_eq_false'] at hg73); (try simp only [decide_eq_true_eq, decide_eq_false_iff_not, Bool.not_eq_true', Bool.not_eq_false'] at hg76); (try simp only [decide_eq_true_eq, decide_eq_false_iff_not, Bool.not_eq_true', Bool.not_eq_false'] at hg82); (try simp only [decide_eq_true_eq, decide_eq_false_iff_not, Bool.not_eq_true', Bool.not_eq_false'] at hg85); (try simp only [decide_eq_true_eq, decide_eq_false_iff_not, Bool.not_eq_true', Bool.not_eq_false'] at hg89); (try simp only [decide_eq_true_eq, decide_eq_false_iff_not, Bool.not_eq_true', Bool.not_eq_false'] at hg97); (try simp only [decide_eq_true_eq, decide_eq_false_iff_not, Bool.not_eq_true', Bool.not_eq_false'] at hg100); rw [Bool.eq_iff_iff]; simp [-List.getD_eq_getElem?_getD, bad2]; try omega)), (by repeat (first | exact trivial | refine ⟨rfl, ?_⟩))⟩ (HSub.refl _)
          ·
           refine Wl.q rfl rfl (OpQ.fieldAddr fa31_3 rfl) ?_
           refine Wl.q rfl rfl (OpQ.loadF (b := b8) sc3 rfl (by repeat (first | exact Has.here | apply Has.there)) (by rfl)) ?_
           refine Wl.q rfl rfl (OpQ.move rfl) ?_
           refine Wl.q rfl rfl (OpQ.geq rfl rfl) ?_
           refine Wl.q rfl rfl (OpQ.pickF rfl rfl) ?_
           refine Wl.q rfl rfl (OpQ.pickT rfl rfl) ?_
           refine Wl.q rfl rfl (OpQ.pickF rfl rfl) ?_
           refine Wl.q rfl rfl (OpQ.move rfl) ?_
           refine Wl.split 97 rfl (fun hg97 => ?_) (fun hg97 => ?_)
           ·
            refine Wl.skip rfl rfl ?_
            refine Wl.skip rfl rfl ?_
            refine Wl.skip rfl rfl ?_
            refine Wl.skip rfl rfl ?_
            refine Wl.skip rfl rfl ?_
            refine Wl.skip rfl rfl ?_
            refine Wl.skip rfl rfl ?_
            refine Wl.q rfl rfl (OpQ.pickT rfl rfl) ?_
            refine Wl.nil ?_
            exact PX.cutB hK2 ⟨lkV rfl (congrArg Value.bool (by (try simp only [decide_eq_true_eq, decide_eq_false_iff_not, Bool.not_eq_true', Bool.not_eq_false'] at hg62); (try simp only [decide_eq_true_eq, decide_eq_false_iff_not, Bool.not_eq_true', Bool.not_eq_false'] at hg66); (try simp only [decide_eq_true_eq, decide_eq_false_iff_not, Bool.not_eq_true', Bool.not_eq_false'] at hg73); (try simp only [decide_eq_true_eq, decide_eq_false_iff_not, Bool.not_eq_true', Bool.not_eq_false'] at hg76); (try simp only [decide_eq_true_eq, decide_eq_false_iff_not, Bool.not_eq_true', Bool.not_eq_false'] at hg82); (try simp only [decide_eq_true_eq, decide_eq_false_iff_not, Bool.not_eq_true', Bool.not_eq_false'] at hg85); (try simp only [decide_eq_true_eq, decide_eq_false_iff_not, Bool.not_eq_true', Bool.not_eq_false'] at hg89); (try simp only [decide_eq_true_eq, decide_eq_false_iff_not, Bool.not_eq_true', Bool.not_eq_false'] at hg97); (try simp only [decide_eq_true_eq, decide_eq_false_iff_not, Bool.not_eq_true', Bool.not_eq_false'] at hg100); rw [Bool.eq_iff_iff]; simp [-List.getD_eq_getElem?_getD, bad2]; try omega)), (by repeat (first | exact trivial | refine ⟨rfl, ?_⟩))⟩ (HSub.refl _)
           ·
            refine Wl.q rfl rfl (OpQ.move rfl) ?_
            refine Wl.q rfl rfl (OpQ.lss rfl rfl) ?_
            refine Wl.q rfl rfl (OpQ.move rfl) ?_
            refine Wl.split 100 rfl (fun hg100 => ?_) (fun hg100 => ?_)
            ·
             refine Wl.q rfl rfl (OpQ.fieldAddr fa31_3 rfl) ?_
             refine Wl.q rfl rfl (OpQ.loadF (b := b8) sc3 rfl (by repeat (first | exact Has.here | apply Has.there)) (by rfl)) ?_
             refine Wl.q rfl rfl (OpQ.neq rfl rfl) ?_
             refine Wl.q rfl rfl (OpQ.pickT rfl rfl) ?_
             refine Wl.q rfl rfl (OpQ.pickF rfl rfl) ?_
             refine Wl.nil ?_
             exact PX.cutB hK2 ⟨lkV rfl (congrArg Value.bool (by (try simp only [decide_eq_true_eq, decide_eq_false_iff_not, Bool.not_eq_true', Bool.not_eq_false'] at hg62); (try simp only [decide_eq_true_eq, decide_eq_false_iff_not, Bool.not_eq_true', Bool.not_eq_false'] at hg66); (try simp only [decide_eq_true_eq, decide_eq_false_iff_not, Bool.not_eq_true', Bool.not_eq_false'] at hg73); (try simp only [decide_eq_true_eq, decide_eq_false_iff_not, Bool.not_eq_true', Bool.not_eq_false'] at hg76); (try simp only [decide_eq_true_eq, decide_eq_false_iff_not, Bool.not_eq_true', Bool.not_eq_false'] at hg82); (try simp only [decide_eq_true_eq, decide_eq_false_iff_not, Bool.not_eq_true', Bool.not_eq_false'] at hg85); (try simp only [decide_eq_true_eq, decide_eq_false_iff_not, Bool.not_eq_true', Bool.not_eq_false'] at hg89); (try simp only [decide_eq_true_eq, decide_eq_false_iff_not, Bool.not_eq_true', Bool.not_eq_false'] at hg97); (try simp only [decide_eq_true_eq, decide_eq_false_iff_not, Bool.not_eq_true', Bool.not_eq_false'] at hg100); rw [Bool.eq_iff_iff]; simp [-List.getD_eq_getElem?_getD, bad2]; try omega)), (by repeat (first | exact trivial | refine ⟨rfl, ?_⟩))⟩ (HSub.refl _)
            ·
             refine Wl.skip rfl rfl ?_
             refine Wl.skip rfl rfl ?_
             refine Wl.skip rfl rfl ?_
             refine Wl.q rfl rfl (OpQ.pickF rfl rfl) ?_
             refine Wl.q rfl rfl (OpQ.pickF rfl rfl) ?_
             refine Wl.nil ?_
             exact PX.cutB hK2 ⟨lkV rfl (congrArg Value.bool (by (try simp only [decide_eq_true_eq, decide_eq_false_iff_not, Bool.not_eq_true', Bool.not_eq_false'] at hg62); (try simp only [decide_eq_true_eq, decide_eq_false_iff_not, Bool.not_eq_true', Bool.not_eq_false'] at hg66); (try simp only [decide_eq_true_eq, decide_eq_false_iff_not, Bool.not_eq_true', Bool.not_eq_false'] at hg73); (try simp only [decide_eq_true_eq, decide_eq_false_iff_not, Bool.not_eq_true', Bool.not_eq_false'] at hg76); (try simp only [decide_eq_true_eq, decide_eq_false_iff_not, Bool.not_eq_true', Bool.not_eq_false'] at hg82); (try simp only [decide_eq_true_eq, decide_eq_false_iff_not, Bool.not_eq_true', Bool.not_eq_false'] at hg85); (try simp only [decide_eq_true_eq, decide_eq_false_iff_not, Bool.not_eq_true', Bool.not_eq_false'] at hg89); (try simp only [decide_eq_true_eq, decide_eq_false_iff_not, Bool.not_eq_true', Bool.not_eq_false'] at hg97); (try simp only [decide_eq_true_eq, decide_eq_false_iff_not, Bool.not_eq_true', Bool.not_eq_false'] at hg100); rw [Bool.eq_iff_iff]; simp [-List.getD_eq_getElem?_getD, bad2]; try omega)), (by repeat (first | exact trivial | refine ⟨rfl, ?_⟩))⟩ (HSub.refl _)
         ·
          refine Wl.skip rfl rfl ?_
          refine Wl.skip rfl rfl ?_
          refine Wl.skip rfl rfl ?_
          refine Wl.skip rfl rfl ?_
          refine Wl.skip rfl rfl ?_
          refine Wl.skip rfl rfl ?_
          refine Wl.skip rfl rfl ?_
          refine Wl.skip rfl rfl ?_
          refine Wl.skip rfl rfl ?_
          refine Wl.q rfl rfl (OpQ.pickF rfl rfl) ?_
          refine Wl.q rfl rfl (OpQ.pickF rfl rfl) ?_
          refine Wl.q rfl rfl (OpQ.move rfl) ?_
          refine Wl.q rfl rfl (OpQ.move rfl) ?_
          refine Wl.q rfl rfl (OpQ.lss rfl rfl) ?_
          refine Wl.q rfl rfl (OpQ.move rfl) ?_
          refine Wl.split 100 rfl (fun hg100 => ?_) (fun hg100 => ?_)
          ·
           refine Wl.q rfl rfl (OpQ.fieldAddr fa31_3 rfl) ?_
           refine Wl.q rfl rfl (OpQ.loadF (b := b8) sc3 rfl (by repeat (first | exact Has.here | apply Has.there)) (by rfl)) ?_
           refine Wl.q rfl rfl (OpQ.neq rfl rfl) ?_
           refine Wl.q rfl rfl (OpQ.pickT rfl rfl) ?_
           refine Wl.q rfl rfl (OpQ.pickF rfl rfl) ?_
           refine Wl.nil ?_
           exact PX.cutB hK2 ⟨lkV rfl (congrArg Value.bool (by (try simp only [decide_eq_true_eq, decide_eq_false_iff_not, Bool.not_eq_true', Bool.not_eq_false'] at hg62); (try simp only [decide_eq_true_eq, decide_eq_false_iff_not, Bool.not_eq_true', Bool.not_eq_false'] at hg66); (try simp only [decide_eq_true_eq, decide_eq_false_iff_not, Bool.not_eq_true', Bool.not_eq_false'] at hg73); (try simp only [decide_eq_true_eq, decide_eq_false_iff_not, Bool.not_eq_true', Bool.not_eq_false'] at hg76); (try simp only [decide_eq_true_eq, decide_eq_false_iff_not, Bool.not_eq_true', Bool.not_eq_false'] at hg82); (try simp only [decide_eq_true_eq, decide_eq_false_iff_not, Bool.not_eq_true', Bool.not_eq_false'] at hg85); (try simp only [decide_eq_true_eq, decide_eq_false_iff_not, Bool.not_eq_true', Bool.not_eq_false'] at hg89); (try simp only [decide_eq_true_eq, decide_eq_false_iff_not, Bool.not_eq_true', Bool.not_eq_false'] at hg97); (try simp only [decide_eq_true_eq, decide_eq_false_iff_not, Bool.not_eq_true', Bool.not_eq_false'] at hg100); rw [Bool.eq_iff_iff]; simp [-List.getD_eq_getElem?_getD, bad2]; try omega)), (by repeat (first | exact trivial | refine ⟨rfl, ?_⟩))⟩ (HSub.refl _)
          ·
           refine Wl.skip rfl rfl ?_
           refine Wl.skip rfl rfl ?_
           refine Wl.skip rfl rfl ?_
           refine Wl.q rfl rfl (OpQ.pickF rfl rfl) ?_
           refine Wl.q rfl rfl (OpQ.pickF rfl rfl) ?_
           refine Wl.nil ?_
           exact PX.cutB hK2 ⟨lkV rfl (congrArg Value.bool (by (try simp only [decide_eq_true_eq, decide_eq_false_iff_not, Bool.not_eq_true', Bool.not_eq_false'] at hg62); (try simp only [decide_eq_true_eq, decide_eq_false_iff_not, Bool.not_eq_true', Bool.not_eq_false'] at hg66); (try simp only [decide_eq_true_eq, decide_eq_false_iff_not, Bool.not_eq_true', Bool.not_eq_false'] at hg73); (try simp only [decide_eq_true_eq, decide_eq_false_iff_not, Bool.not_eq_true', Bool.not_eq_false'] at hg76); (try simp only [decide_eq_true_eq, decide_eq_false_iff_not, Bool.not_eq_true', Bool.not_eq_false'] at hg82); (try simp only [decide_eq_true_eq, decide_eq_false_iff_not, Bool.not_eq_true', Bool.not_eq_false'] at hg85); (try simp only [decide_eq_true_eq, decide_eq_false_iff_not, Bool.not_eq_true', Bool.not_eq_false'] at hg89); (try simp only [decide_eq_true_eq, decide_eq_false_iff_not, Bool.not_eq_true', Bool.not_eq_false'] at hg97); (try simp only [decide_eq_true_eq, decide_eq_false_iff_not, Bool.not_eq_true', Bool.not_eq_false'] at hg100); rw [Bool.eq_iff_iff]; simp [-List.getD_eq_getElem?_getD, bad2]; try omega)), (by repeat (first | exact trivial | refine ⟨rfl, ?_⟩))⟩ (HSub.refl _)
      ·
       refine CT.cond rfl (fun h105 => ?_) (fun h105 => ?_)
       ·
        refine CT.seq ?_
        refine CT.region ?_
        refine Wl.q rfl rfl (OpQ.assign rfl) ?_
        refine Wl.nil ?_
        refine PX.then_n ?_
        refine CT.ret ?_
        refine PX.block_r ?_
        refine PX.then_r ?_
        refine PX.then_r ?_
        refine PX.block_r ?_
        refine PX.then_r ?_
        refine PX.ret1 rfl rfl (fun w' hH => ?_)
        exact ⟨ret_i (vd_bad hm (by omega) (okL_bad (k := k) (by omega) (by rw [ok_bad, h59, h105]; rfl))).symm, hH.ext⟩
       ·
        refine CT.skip ?_
        refine PX.block_n ?_
        refine PX.then_n ?_
        refine CT.region ?_
        refine Wl.q rfl rfl (OpQ.add rfl rfl (by omega)) ?_
        refine Wl.q rfl rfl (OpQ.move rfl) ?_
        refine Wl.nil ?_
        have hall2 : ∀ j, j < k + 1 → okF (xs.getD j t0) j letters = true := fun j hj => by
         rcases Nat.lt_or_ge j k with h | h
         ·
          exact hall j h
         ·
          rw [show j = k by omega]; exact by rw [ok_bad, h59, h105]; rfl
        exact PX.loop hK0 (k + 1) ⟨by omega, hall2⟩ (by first | omega | (dsimp only; omega)) ⟨rfl, rfl, rfl, rfl, rfl, rfl, trivial⟩ (HSub.none _)
   ·
    have h19 := of_decide_eq_false h19
    refine CT.exit ?_
    refine PX.then_x ?_
    refine PX.then_x ?_
    refine PX.block_x ?_
    refine PX.then_n ?_
    refine CT.seq ?_
    refine CT.seq ?_
    refine CT.region ?_
    refine Wl.q rfl rfl (OpQ.move rfl) ?_
    refine Wl.q rfl rfl (OpQ.lss rfl rfl) ?_
    refine Wl.q rfl rfl (OpQ.move rfl) ?_
    refine Wl.split 109 rfl (fun hg109 => ?_) (fun hg109 => ?_)
    ·
     have hg109 := of_decide_eq_true hg109
     refine Wl.skip rfl rfl ?_
     refine Wl.skip rfl rfl ?_
     refine Wl.skip rfl rfl ?_
     refine Wl.skip rfl rfl ?_
     refine Wl.q rfl rfl (OpQ.pickT rfl rfl) ?_
     refine Wl.nil ?_
     refine PX.then_n ?_
     refine CT.condT rfl ?_
     refine CT.seq ?_
     refine CT.region ?_
     refine Wl.q rfl rfl (OpQ.assign rfl) ?_
     refine Wl.nil ?_
     refine PX.then_n ?_
     refine CT.ret ?_
     refine PX.then_r ?_
     refine PX.ret1 rfl rfl (fun w' hH => ?_)
     exact ⟨ret_i (vd_root hm (by omega) (okL_ok (fun j hj => hall j (by omega))) (by omega)).symm, hH.ext⟩
    ·
     have hg109 := of_decide_eq_false hg109
     refine Wl.q rfl rfl (OpQ.move rfl) ?_
     refine Wl.q rfl rfl (OpQ.move rfl) ?_
     refine Wl.q rfl rfl (OpQ.len un22 rfl) ?_
     refine Wl.q rfl rfl (OpQ.geq rfl rfl) ?_
     refine Wl.q rfl rfl (OpQ.pickF rfl rfl) ?_
     refine Wl.nil ?_
     refine PX.then_n ?_
     refine CT.cond rfl (fun h114 => ?_) (fun h114 => ?_)
     ·
      have h114 := of_decide_eq_true h114
      refine CT.seq ?_
      refine CT.region ?_
      refine Wl.q rfl rfl (OpQ.assign rfl) ?_
      refine Wl.nil ?_
      refine PX.then_n ?_
      refine CT.ret ?_
      refine PX.then_r ?_
      refine PX.ret1 rfl rfl (fun w' hH => ?_)
      exact ⟨ret_i (vd_root hm (by omega) (okL_ok (fun j hj => hall j (by omega))) (by omega)).symm, hH.ext⟩
     ·
      have h114 := of_decide_eq_false h114
      refine CT.skip ?_
      refine PX.then_n ?_
      refine CT.seq ?_
      refine CT.region ?_
      refine Wl.q rfl rfl (OpQ.assign rfl) ?_
      refine Wl.nil ?_
      refine PX.then_n ?_
      refine CT.ret ?_
      refine PX.ret1 rfl rfl (fun w' hH => ?_)
      exact ⟨ret_i (vd_ok hm (by omega) (okL_ok (fun j hj => hall j (by omega))) (by omega)).symm, hH.ext⟩

theorem un9 : Try.prog.underlying 9 = some .string := by kernel_rfl
theorem un5 : Try.prog.underlying 5 = some (.int .u8) := by kernel_rfl
theorem un3 : Try.prog.underlying 3 = some (.int .i64) := by kernel_rfl
set_option maxRecDepth 100000 in
/-- semigroup/word.Valid -/
theorem wvalid_spec (w : World) (ws : Wd) (hn : ws.length ≤ 9223372036854775807) (letters : Int) : Calls Try.prog 31 #[sv ws, .int .i64 (letters)] w (fun e w' => e = .returned (.bool (okW ws letters)) ∧ Ext [] w w') := by
 refine enter (args := [sv ws, .int .i64 (letters)]) [] 36 Try.func31 rfl rfl rfl ?_
 refine CT.seq ?_
 refine CT.region ?_
 refine Wl.q rfl rfl (OpQ.assign rfl) ?_
 refine Wl.nil ?_
 refine PX.then_n ?_
 refine CT.seq ?_
 refine CT.seq ?_
 refine CT.region ?_
 refine Wl.q rfl rfl (OpQ.move rfl) ?_
 refine Wl.q rfl rfl (OpQ.lss rfl rfl) ?_
 refine Wl.q rfl rfl (OpQ.move rfl) ?_
 refine Wl.split 8 rfl (fun hg8 => ?_) (fun hg8 => ?_)
 ·
  have hg8 := of_decide_eq_true hg8
  refine Wl.skip rfl rfl ?_
  refine Wl.skip rfl rfl ?_
  refine Wl.q rfl rfl (OpQ.pickT rfl rfl) ?_
  refine Wl.q rfl rfl (OpQ.move rfl) ?_
  refine Wl.skip rfl rfl ?_
  refine Wl.skip rfl rfl ?_
  refine Wl.skip rfl rfl ?_
  refine Wl.q rfl rfl (OpQ.pickT rfl rfl) ?_
  refine Wl.nil ?_
  refine PX.then_n ?_
  refine CT.condT rfl ?_
  refine CT.seq ?_
  refine CT.region ?_
  refine Wl.q rfl rfl (OpQ.assign rfl) ?_
  refine Wl.nil ?_
  refine PX.then_n ?_
  refine CT.ret ?_
  refine PX.then_r ?_
  refine PX.ret1 rfl rfl (fun w' hH => ?_)
  exact ⟨ret_b (okW_may (by omega)).symm, hH.ext⟩
 ·
  have hg8 := of_decide_eq_false hg8
  refine Wl.q rfl rfl (OpQ.move rfl) ?_
  refine Wl.q rfl rfl (OpQ.gtr rfl rfl) ?_
  refine Wl.q rfl rfl (OpQ.pickF rfl rfl) ?_
  refine Wl.q rfl rfl (OpQ.move rfl) ?_
  refine Wl.split 12 rfl (fun hg12 => ?_) (fun hg12 => ?_)
  ·
   have hg12 := of_decide_eq_true hg12
   refine Wl.skip rfl rfl ?_
   refine Wl.skip rfl rfl ?_
   refine Wl.skip rfl rfl ?_
   refine Wl.q rfl rfl (OpQ.pickT rfl rfl) ?_
   refine Wl.nil ?_
   refine PX.then_n ?_
   refine CT.condT rfl ?_
   refine CT.seq ?_
   refine CT.region ?_
   refine Wl.q rfl rfl (OpQ.assign rfl) ?_
   refine Wl.nil ?_
   refine PX.then_n ?_
   refine CT.ret ?_
   refine PX.then_r ?_
   refine PX.ret1 rfl rfl (fun w' hH => ?_)
   exact ⟨ret_b (okW_may (by omega)).symm, hH.ext⟩
  ·
   have hg12 := of_decide_eq_false hg12
   refine Wl.q rfl rfl (OpQ.move rfl) ?_
   refine Wl.q rfl rfl (OpQ.lenSv un9 rfl) ?_
   refine Wl.q rfl rfl (OpQ.gtr rfl rfl) ?_
   refine Wl.q rfl rfl (OpQ.pickF rfl rfl) ?_
   refine Wl.nil ?_
   refine PX.then_n ?_
   refine CT.cond rfl (fun h16 => ?_) (fun h16 => ?_)
   ·
    have h16 := of_decide_eq_true h16
    refine CT.seq ?_
    refine CT.region ?_
    refine Wl.q rfl rfl (OpQ.assign rfl) ?_
    refine Wl.nil ?_
    refine PX.then_n ?_
    refine CT.ret ?_
    refine PX.then_r ?_
    refine PX.ret1 rfl rfl (fun w' hH => ?_)
    exact ⟨ret_b (okW_long (by omega)).symm, hH.ext⟩
   ·
    have h16 := of_decide_eq_false h16
    refine CT.skip ?_
    refine PX.then_n ?_
    refine CT.seq ?_
    refine CT.seq ?_
    refine CT.region ?_
    refine Wl.q rfl rfl (OpQ.move rfl) ?_
    refine Wl.q rfl rfl (OpQ.lenSv un9 rfl) ?_
    refine Wl.q rfl rfl (OpQ.move rfl) ?_
    refine Wl.nil ?_
    refine PX.then_n ?_
    refine CT.block ?_
    refine CT.loop (ι := Nat) (fun k => k ≤ ws.length ∧ ∀ j, j < k → okB letters (ws.getD j 0) = true) (fun k => [(0, sv ws), (1, .int .i64 (letters)), (18, .int .i64 (ws.length : Int)), (19, .int .i64 (k : Int))]) (fun _ => []) (fun k => ws.length - k) 0 ⟨by omega, by omega⟩ ⟨rfl, rfl, rfl, rfl, trivial⟩ (HSub.none _) (fun k ⟨hk, hall⟩ K0 hK0 => ?_)
    have hu := u8_lt (ws.getD k 0)
    refine CT.seq ?_
    refine CT.region ?_
    refine Wl.q rfl rfl (OpQ.lss rfl rfl) ?_
    refine Wl.nil ?_
    refine PX.then_n ?_
    refine CT.seq ?_
    refine CT.cond rfl (fun h20 => ?_) (fun h20 => ?_)
    ·
     have h20 := of_decide_eq_true h20
     refine CT.skip ?_
     refine PX.then_n ?_
     refine CT.seq ?_
     refine CT.block ?_
     refine CT.seq ?_
     refine CT.region ?_
     refine Wl.q rfl rfl (OpQ.move rfl) ?_
     refine Wl.q rfl rfl (OpQ.assign rfl) ?_
     refine Wl.nil ?_
     refine PX.then_n ?_
     refine CT.seq ?_
     refine CT.region ?_
     refine Wl.q rfl rfl (OpQ.move rfl) ?_
     refine Wl.q rfl rfl (OpQ.move rfl) ?_
     refine Wl.q rfl rfl (OpQ.indexSvN un9 rfl rfl (by omega)) ?_
     refine Wl.q rfl rfl (OpQ.lss rfl rfl) ?_
     refine Wl.q rfl rfl (OpQ.move rfl) ?_
     refine Wl.split 26 rfl (fun hg26 => ?_) (fun hg26 => ?_)
     ·
      have hg26 := of_decide_eq_true hg26
      refine Wl.skip rfl rfl ?_
      refine Wl.skip rfl rfl ?_
      refine Wl.skip rfl rfl ?_
      refine Wl.skip rfl rfl ?_
      refine Wl.skip rfl rfl ?_
      refine Wl.skip rfl rfl ?_
      refine Wl.skip rfl rfl ?_
      refine Wl.q rfl rfl (OpQ.pickT rfl rfl) ?_
      refine Wl.nil ?_
      refine PX.then_n ?_
      refine CT.condT rfl ?_
      refine CT.seq ?_
      refine CT.region ?_
      refine Wl.q rfl rfl (OpQ.assign rfl) ?_
      refine Wl.nil ?_
      refine PX.then_n ?_
      refine CT.ret ?_
      refine PX.block_r ?_
      refine PX.then_r ?_
      refine PX.then_r ?_
      refine PX.block_r ?_
      refine PX.then_r ?_
      refine PX.ret1 rfl rfl (fun w' hH => ?_)
      exact ⟨ret_b (okW_bad (j := k) (by omega) (by rw [okB, decide_eq_false_iff_not]; omega)).symm, hH.ext⟩
     ·
      have hg26 := of_decide_eq_false hg26
      refine Wl.q rfl rfl (OpQ.move rfl) ?_
      refine Wl.q rfl rfl (OpQ.move rfl) ?_
      refine Wl.q rfl rfl (OpQ.indexSvN un9 rfl rfl (by omega)) ?_
      refine Wl.q rfl rfl (OpQ.sub8 rfl rfl (by omega)) ?_
      refine Wl.q rfl rfl (OpQ.conv rfl (conv_u8_i64 un5 un3 _ (by omega))) ?_
      refine Wl.q rfl rfl (OpQ.move rfl) ?_
      refine Wl.q rfl rfl (OpQ.geq rfl rfl) ?_
      refine Wl.q rfl rfl (OpQ.pickF rfl rfl) ?_
      refine Wl.nil ?_
      refine PX.then_n ?_
      refine CT.cond rfl (fun h34 => ?_) (fun h34 => ?_)
      ·
       have h34 := of_decide_eq_true h34
       refine CT.seq ?_
       refine CT.region ?_
       refine Wl.q rfl rfl (OpQ.assign rfl) ?_
       refine Wl.nil ?_
       refine PX.then_n ?_
       refine CT.ret ?_
       refine PX.block_r ?_
       refine PX.then_r ?_
       refine PX.then_r ?_
       refine PX.block_r ?_
       refine PX.then_r ?_
       refine PX.ret1 rfl rfl (fun w' hH => ?_)
       exact ⟨ret_b (okW_bad (j := k) (by omega) (by rw [okB, decide_eq_false_iff_not]; omega)).symm, hH.ext⟩
      ·
       have h34 := of_decide_eq_false h34
       refine CT.skip ?_
       refine PX.block_n ?_
       refine PX.then_n ?_
       refine CT.region ?_
       refine Wl.q rfl rfl (OpQ.add rfl rfl (by omega)) ?_
       refine Wl.q rfl rfl (OpQ.move rfl) ?_
       refine Wl.nil ?_
       have hall2 : ∀ j, j < k + 1 → okB letters (ws.getD j 0) = true := fun j hj => by
        rcases Nat.lt_or_ge j k with h | h
        ·
         exact hall j h
        ·
         rw [show j = k by omega]; exact (by rw [okB, decide_eq_true_eq]; omega)
       exact PX.loop hK0 (k + 1) ⟨by omega, hall2⟩ (by first | omega | (dsimp only; omega)) ⟨rfl, rfl, rfl, rfl, trivial⟩ (HSub.none _)
    ·
     have h20 := of_decide_eq_false h20
     refine CT.exit ?_
     refine PX.then_x ?_
     refine PX.then_x ?_
     refine PX.block_x ?_
     refine PX.then_n ?_
     refine CT.seq ?_
     refine CT.region ?_
     refine Wl.q rfl rfl (OpQ.assign rfl) ?_
     refine Wl.nil ?_
     refine PX.then_n ?_
     refine CT.ret ?_
     refine PX.ret1 rfl rfl (fun w' hH => ?_)
     exact ⟨ret_b (okW_ok (may_in (by omega) (by omega)) (by omega) (fun j hj => hall j (by omega))).symm, hH.ext⟩

end Go.Proofs.Ytlmbcdjmdgbmjaa

