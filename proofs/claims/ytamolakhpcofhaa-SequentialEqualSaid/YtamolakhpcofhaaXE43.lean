/-
  What functions of the program compute, each by its walk. Conditions: those that each theorem names.
-/
import Derived.Test.YtamolakhpcofhaaMod1
import Derived.Test.YtamolakhpcofhaaXE42
import Derived.Test.YtamolakhpcofhaaXF
set_option linter.unusedSimpArgs false
namespace Go.Proofs.Ytamolakhpcofhaa
open Go Go.Eng Go.Am Go.Sq
open Go.Tp (zi)
open Go.Tl (mayL Wd okW okB bo)

set_option maxRecDepth 100000 in
set_option maxHeartbeats 2000000 in
/-- semigroup/sequential.difference -/
theorem difference_spec (w : World) (S S2 : Sv) (hS : Stays [] w (svm S)) (hv : S.sq.Ok 4096) (hS2 : Stays [] w (svm S2)) (hv2 : S2.sq.Ok 4096) (bs : Nat) (F : List Nat) (a1 : Option Addr) (c1 : Nat) (a2 : Option Addr) (c2 : Nat) (hB : Stays [] w (fun w => Rd w (some ⟨bs, 0, none⟩) (svc S ++ [.slice a1 F.length c1, .slice a2 S.rs.length c2]))) (hF : Stays [] w (fun w => Rd w a1 (F.map zn))) (hE : Stays [] w (fun w => Rd w a2 ((coL S.sq).map bo))) (δ : Nat → Nat) (hf : FirstsI S.sq F δ) (bt : Nat) (F2 : List Nat) (a3 : Option Addr) (c3 : Nat) (a4 : Option Addr) (c4 : Nat) (hB2 : Stays [] w (fun w => Rd w (some ⟨bt, 0, none⟩) (svc S2 ++ [.slice a3 F2.length c3, .slice a4 S2.rs.length c4]))) (hF2 : Stays [] w (fun w => Rd w a3 (F2.map zn))) (hE2 : Stays [] w (fun w => Rd w a4 ((coL S2.sq).map bo))) (δ2 : Nat → Nat) (hf2 : FirstsI S2.sq F2 δ2) (hLL : S.L = S2.L) (hN1 : (S.sq.tr.co S.L S.s) = true → S.sq.Nf) (hN2 : (S2.sq.tr.co S2.L S2.s) = true → S2.sq.Nf) (hn1 : S.sq.n ≤ 200) (hn2 : S2.sq.n ≤ 200) : Calls Try.prog 54 #[.pointer (some ⟨bs, 0, none⟩), .pointer (some ⟨bt, 0, none⟩)] w (fun e w' => ∃ o : Wd × Bool, Dif S.sq S2.sq (3 * (S.sq.n + S2.sq.n) + 1) o ∧ e = .returned (.tuple #[sv o.1, .bool o.2]) ∧ Ext [] w w') := by
 have hb1 := hv.bnd
 have hs1 : S.s < S.sq.n := hv.st
 have hs2 : S2.s < S2.sq.n := hv2.st
 have hnr1 := S.n_eq
 have hnr2 := S2.n_eq
 have ha2 : a2.isSome = true := hE.now.isSome (j := 0) (by rw [List.length_map, coL_len]; omega)
 have ha4 : a4.isSome = true := hE2.now.isSome (j := 0) (by rw [List.length_map, coL_len]; omega)
 have hlt1 : ∀ q a p, q < S.sq.n → a < S.L → S.sq.to q a = some p → p < S.sq.n := fun q a p h1 h2 h3 => hv.lt q a p h1 h2 h3
 have hlt2 : ∀ q a p, q < S2.sq.n → a < S.L → S2.sq.to q a = some p → p < S2.sq.n := fun q a p h1 h2 h3 => hv2.lt q a p h1 (by show a < S2.L; omega) h3
 refine enter (args := [.pointer (some ⟨bs, 0, none⟩), .pointer (some ⟨bt, 0, none⟩)]) [] 176 Try.func54 rfl rfl rfl ?_
 refine CT.seq (CT.region ?_)
 refine Wl.q rfl rfl (OpQ.assign rfl) ?_
 refine Wl.q rfl rfl (OpQ.assign rfl) ?_
 refine Wl.nil (PX.then_n (CT.seq ?_))
 refine CT.cut (ι := Unit) (Φ := fun _ => True) (E' := fun _ => [(0, .pointer (some ⟨bs, 0, none⟩)), (1, .pointer (some ⟨bt, 0, none⟩)), (36, .bool (!((S.sq.tr.co S.L S.s) && (S2.sq.tr.co S2.L S2.s))))]) (H' := fun _ => []) (fun K0 hK0 => ?_) (fun _ _ => ?_)
 ·
  refine CT.draw 26 zf6 ?_
  refine RA.q 0 (by kernel_rfl) rfl rfl rfl (.refl _) (OpQ.move rfl) ?_
  refine RA.q 1 (by kernel_rfl) rfl rfl rfl (.refl _) (OpQ.nilCheckP rfl) ?_
  refine RA.q 2 (by kernel_rfl) rfl rfl rfl (.refl _) (OpQ.fieldAddr zf132 rfl) ?_
  refine RA.q 3 (by kernel_rfl) rfl rfl rfl (.refl _) (OpQ.loadG (a := some ⟨bs, 0, none⟩) (j := 8) zf43 rfl (fun w hH => hH.use hB) rfl) ?_
  refine RA.q 4 (by kernel_rfl) rfl rfl rfl (.refl _) (OpQ.move rfl) ?_
  refine RA.q 5 (by kernel_rfl) rfl rfl rfl (.refl _) (OpQ.nilCheckP rfl) ?_
  refine RA.q 6 (by kernel_rfl) rfl rfl rfl (.refl _) (OpQ.fieldAddr zf101 rfl) ?_
  refine RA.q 7 (by kernel_rfl) rfl rfl rfl (.refl _) (OpQ.fieldAddr zf46 rfl) ?_
  refine RA.q 8 (by kernel_rfl) rfl rfl rfl (.refl _) (OpQ.loadG (a := some ⟨bs, 0, none⟩) (j := 1) zf8 rfl (fun w hH => hH.use hB) rfl) ?_
  refine RA.q 9 (by kernel_rfl) rfl rfl rfl (.refl _) (OpQ.index1 zf25 zf44 rfl rfl (by omega) ha2) ?_
  refine RA.q 10 (by kernel_rfl) rfl rfl rfl (.refl _) (OpQ.loadG zf45 rfl (fun w hH => hH.use hE) (getMap bo (coL S.sq) false (j := S.s) (by rw [coL_len]; omega))) ?_
  refine RA.know 21 (v' := .bool (S.sq.tr.co S.L S.s)) rfl (congrArg Value.bool (coL_get (by omega))) ?_
  refine RA.q 11 (by kernel_rfl) rfl rfl rfl (.refl _) (OpQ.not rfl) ?_
  refine RA.q 12 (by kernel_rfl) rfl rfl rfl (.refl _) (OpQ.move rfl) ?_
  refine RA.split 23 rfl (fun hg23 => ?_) (fun hg23 => ?_)
  ·
   refine RA.skip 13 (by kernel_rfl) rfl rfl rfl (.refl _) ?_
   refine RA.skip 14 (by kernel_rfl) rfl rfl rfl (.refl _) ?_
   refine RA.skip 15 (by kernel_rfl) rfl rfl rfl (.refl _) ?_
   refine RA.skip 16 (by kernel_rfl) rfl rfl rfl (.refl _) ?_
   refine RA.skip 17 (by kernel_rfl) rfl rfl rfl (.refl _) ?_
   refine RA.skip 18 (by kernel_rfl) rfl rfl rfl (.refl _) ?_
   refine RA.skip 19 (by kernel_rfl) rfl rfl rfl (.refl _) ?_
   refine RA.skip 20 (by kernel_rfl) rfl rfl rfl (.refl _) ?_
   refine RA.skip 21 (by kernel_rfl) rfl rfl rfl (.refl _) ?_
   refine RA.skip 22 (by kernel_rfl) rfl rfl rfl (.refl _) ?_
   refine RA.skip 23 (by kernel_rfl) rfl rfl rfl (.refl _) ?_
   refine RA.skip 24 (by kernel_rfl) rfl rfl rfl (.refl _) ?_
   refine RA.q 25 (by kernel_rfl) rfl rfl rfl (.refl _) (OpQ.pickT rfl rfl) ?_
   refine RA.tail ?_
   refine RT.done (by kernel_rfl) ?_
   exact PX.cut hK0 () trivial ⟨rfl, rfl, (lkV rfl (congrArg Value.bool (by rw [show (S.sq.tr.co S.L S.s) = false by simpa using hg23]; rfl))), trivial⟩ (HSub.none _)
  ·
   refine RA.q 13 (by kernel_rfl) rfl rfl rfl (.refl _) (OpQ.move rfl) ?_
   refine RA.q 14 (by kernel_rfl) rfl rfl rfl (.refl _) (OpQ.nilCheckP rfl) ?_
   refine RA.q 15 (by kernel_rfl) rfl rfl rfl (.refl _) (OpQ.fieldAddr zf132 rfl) ?_
   refine RA.q 16 (by kernel_rfl) rfl rfl rfl (.refl _) (OpQ.loadG (a := some ⟨bt, 0, none⟩) (j := 8) zf43 rfl (fun w hH => hH.use hB2) rfl) ?_
   refine RA.q 17 (by kernel_rfl) rfl rfl rfl (.refl _) (OpQ.move rfl) ?_
   refine RA.q 18 (by kernel_rfl) rfl rfl rfl (.refl _) (OpQ.nilCheckP rfl) ?_
   refine RA.q 19 (by kernel_rfl) rfl rfl rfl (.refl _) (OpQ.fieldAddr zf101 rfl) ?_
   refine RA.q 20 (by kernel_rfl) rfl rfl rfl (.refl _) (OpQ.fieldAddr zf46 rfl) ?_
   refine RA.q 21 (by kernel_rfl) rfl rfl rfl (.refl _) (OpQ.loadG (a := some ⟨bt, 0, none⟩) (j := 1) zf8 rfl (fun w hH => hH.use hB2) rfl) ?_
   refine RA.q 22 (by kernel_rfl) rfl rfl rfl (.refl _) (OpQ.index1 zf25 zf44 rfl rfl (by omega) ha4) ?_
   refine RA.q 23 (by kernel_rfl) rfl rfl rfl (.refl _) (OpQ.loadG zf45 rfl (fun w hH => hH.use hE2) (getMap bo (coL S2.sq) false (j := S2.s) (by rw [coL_len]; omega))) ?_
   refine RA.know 34 (v' := .bool (S2.sq.tr.co S2.L S2.s)) rfl (congrArg Value.bool (coL_get (by omega))) ?_
   refine RA.q 24 (by kernel_rfl) rfl rfl rfl (.refl _) (OpQ.not rfl) ?_
   refine RA.q 25 (by kernel_rfl) rfl rfl rfl (.refl _) (OpQ.pickF rfl rfl) ?_
   refine RA.tail ?_
   refine RT.done (by kernel_rfl) ?_
   exact PX.cut hK0 () trivial ⟨rfl, rfl, (lkV rfl (congrArg Value.bool (by rw [show (S.sq.tr.co S.L S.s) = true by simpa using hg23]; rfl))), trivial⟩ (HSub.none _)
 ·
  refine CT.cond rfl (fun h36 => ?_) (fun h36 => ?_)
  ·
   refine CT.seq (CT.seq ?_)
   refine CT.draw 11 zf6 ?_
   refine RA.q 0 (by kernel_rfl) rfl rfl rfl (.refl _) (OpQ.move rfl) ?_
   refine RA.q 1 (by kernel_rfl) rfl rfl rfl (.refl _) (OpQ.nilCheckP rfl) ?_
   refine RA.q 2 (by kernel_rfl) rfl rfl rfl (.refl _) (OpQ.fieldAddr zf132 rfl) ?_
   refine RA.q 3 (by kernel_rfl) rfl rfl rfl (.refl _) (OpQ.loadG (a := some ⟨bs, 0, none⟩) (j := 8) zf43 rfl (fun w hH => hH.use hB) rfl) ?_
   refine RA.q 4 (by kernel_rfl) rfl rfl rfl (.refl _) (OpQ.move rfl) ?_
   refine RA.q 5 (by kernel_rfl) rfl rfl rfl (.refl _) (OpQ.nilCheckP rfl) ?_
   refine RA.q 6 (by kernel_rfl) rfl rfl rfl (.refl _) (OpQ.fieldAddr zf101 rfl) ?_
   refine RA.q 7 (by kernel_rfl) rfl rfl rfl (.refl _) (OpQ.fieldAddr zf46 rfl) ?_
   refine RA.q 8 (by kernel_rfl) rfl rfl rfl (.refl _) (OpQ.loadG (a := some ⟨bs, 0, none⟩) (j := 1) zf8 rfl (fun w hH => hH.use hB) rfl) ?_
   refine RA.q 9 (by kernel_rfl) rfl rfl rfl (.refl _) (OpQ.index1 zf25 zf44 rfl rfl (by omega) ha2) ?_
   refine RA.q 10 (by kernel_rfl) rfl rfl rfl (.refl _) (OpQ.loadG zf45 rfl (fun w hH => hH.use hE) (getMap bo (coL S.sq) false (j := S.s) (by rw [coL_len]; omega))) ?_
   refine RA.know 47 (v' := .bool (S.sq.tr.co S.L S.s)) rfl (congrArg Value.bool (coL_get (by omega))) ?_
   refine RA.tail ?_
   refine RT.done (by kernel_rfl) ?_
   refine PX.then_n ?_
   refine CT.cond rfl (fun h47 => ?_) (fun h47 => ?_)
   ·
    have hc1 : (S.sq.tr.co S.L S.s) = true := h47
    have hc2 : (S2.sq.tr.co S2.L S2.s) = false := by rw [hc1] at h36; simpa using h36
    refine CT.seq (CT.region ?_)
    refine Wl.q rfl rfl (OpQ.move rfl) ?_
    refine Wl.q rfl rfl (OpQ.move rfl) ?_
    refine Wl.q rfl rfl (OpQ.nilCheckP rfl) ?_
    refine Wl.q rfl rfl (OpQ.fieldAddr zf101 rfl) ?_
    refine Wl.q rfl rfl (OpQ.fieldAddr zf46 rfl) ?_
    refine Wl.q rfl rfl (OpQ.loadG (a := some ⟨bs, 0, none⟩) (j := 1) zf8 rfl (fun w hH => hH.use hB) rfl) ?_
    refine Wl.g rfl rfl (OpG.call zf106 rfl (fun w hH => (finish_spec w S (hH.stays0 hS) hv bs F a1 c1 a2 _ c2 (hH.stays0 hB) (hH.stays0 hF) δ hf (hN1 hc1).tr.co S.s (by omega)).mono fun e w' ⟨ws, h1, h2, h3⟩ => ⟨ws, h1, h2, hH.ext_nil h3⟩)) ?_
    rintro ws ⟨hw1, hw2, hw3⟩
    refine Wl.q rfl rfl (OpQ.assign rfl) ?_
    refine Wl.q rfl rfl (OpQ.assign rfl) ?_
    refine Wl.nil (PX.then_n (CT.ret (PX.then_r (PX.then_r ?_))))
    refine PX.ret2 rfl rfl rfl (fun w' hH => ?_)
    exact ⟨(ws, true), Dif.yes (hw1) (by omega) (by rw [value_emp (l := S2.sq) hc2 (show InW S2.L _ from hLL ▸ wl_inw hw1)]; exact value_is hw3), rfl, hH.ext⟩
   ·
    refine CT.skip (PX.then_n (CT.seq (CT.seq ?_)))
    refine CT.draw 11 zf6 ?_
    refine RA.q 0 (by kernel_rfl) rfl rfl rfl (.refl _) (OpQ.move rfl) ?_
    refine RA.q 1 (by kernel_rfl) rfl rfl rfl (.refl _) (OpQ.nilCheckP rfl) ?_
    refine RA.q 2 (by kernel_rfl) rfl rfl rfl (.refl _) (OpQ.fieldAddr zf132 rfl) ?_
    refine RA.q 3 (by kernel_rfl) rfl rfl rfl (.refl _) (OpQ.loadG (a := some ⟨bt, 0, none⟩) (j := 8) zf43 rfl (fun w hH => hH.use hB2) rfl) ?_
    refine RA.q 4 (by kernel_rfl) rfl rfl rfl (.refl _) (OpQ.move rfl) ?_
    refine RA.q 5 (by kernel_rfl) rfl rfl rfl (.refl _) (OpQ.nilCheckP rfl) ?_
    refine RA.q 6 (by kernel_rfl) rfl rfl rfl (.refl _) (OpQ.fieldAddr zf101 rfl) ?_
    refine RA.q 7 (by kernel_rfl) rfl rfl rfl (.refl _) (OpQ.fieldAddr zf46 rfl) ?_
    refine RA.q 8 (by kernel_rfl) rfl rfl rfl (.refl _) (OpQ.loadG (a := some ⟨bt, 0, none⟩) (j := 1) zf8 rfl (fun w hH => hH.use hB2) rfl) ?_
    refine RA.q 9 (by kernel_rfl) rfl rfl rfl (.refl _) (OpQ.index1 zf25 zf44 rfl rfl (by omega) ha4) ?_
    refine RA.q 10 (by kernel_rfl) rfl rfl rfl (.refl _) (OpQ.loadG zf45 rfl (fun w hH => hH.use hE2) (getMap bo (coL S2.sq) false (j := S2.s) (by rw [coL_len]; omega))) ?_
    refine RA.know 65 (v' := .bool (S2.sq.tr.co S2.L S2.s)) rfl (congrArg Value.bool (coL_get (by omega))) ?_
    refine RA.tail ?_
    refine RT.done (by kernel_rfl) ?_
    refine PX.then_n ?_
    refine CT.cond rfl (fun h65 => ?_) (fun h65 => ?_)
    ·
     have hc2 : (S2.sq.tr.co S2.L S2.s) = true := h65
     have hc1 : (S.sq.tr.co S.L S.s) = false := h47
     refine CT.seq (CT.region ?_)
     refine Wl.q rfl rfl (OpQ.move rfl) ?_
     refine Wl.q rfl rfl (OpQ.move rfl) ?_
     refine Wl.q rfl rfl (OpQ.nilCheckP rfl) ?_
     refine Wl.q rfl rfl (OpQ.fieldAddr zf101 rfl) ?_
     refine Wl.q rfl rfl (OpQ.fieldAddr zf46 rfl) ?_
     refine Wl.q rfl rfl (OpQ.loadG (a := some ⟨bt, 0, none⟩) (j := 1) zf8 rfl (fun w hH => hH.use hB2) rfl) ?_
     refine Wl.g rfl rfl (OpG.call zf106 rfl (fun w hH => (finish_spec w S2 (hH.stays0 hS2) hv2 bt F2 a3 c3 a4 _ c4 (hH.stays0 hB2) (hH.stays0 hF2) δ2 hf2 (hN2 hc2).tr.co S2.s (by omega)).mono fun e w' ⟨ws, h1, h2, h3⟩ => ⟨ws, h1, h2, hH.ext_nil h3⟩)) ?_
     rintro ws ⟨hw1, hw2, hw3⟩
     refine Wl.q rfl rfl (OpQ.assign rfl) ?_
     refine Wl.q rfl rfl (OpQ.assign rfl) ?_
     refine Wl.nil (PX.then_n (CT.ret (PX.then_r (PX.then_r ?_))))
     refine PX.ret2 rfl rfl rfl (fun w' hH => ?_)
     exact ⟨(ws, true), Dif.yes (by show Lw S.L ws; rw [hLL]; exact hw1) (by omega) (by rw [value_emp (l := S.sq) hc1 (show InW S.L _ from hLL ▸ wl_inw hw1)]; exact (value_is hw3).symm), rfl, hH.ext⟩
    ·
     have hc2 : (S2.sq.tr.co S2.L S2.s) = false := h65
     have hc1 : (S.sq.tr.co S.L S.s) = false := h47
     refine CT.skip (PX.then_n (CT.seq (CT.region ?_)))
     refine Wl.q rfl rfl (OpQ.assign rfl) ?_
     refine Wl.q rfl rfl (OpQ.assign rfl) ?_
     refine Wl.nil (PX.then_n (CT.ret (PX.then_r ?_)))
     refine PX.ret2 rfl rfl rfl (fun w' hH => ?_)
     exact ⟨([], false), Dif.no (fun w hw => by rw [value_emp (l := S.sq) hc1 hw, value_emp (l := S2.sq) hc2 (show InW S2.L _ from hLL ▸ hw)]), rfl, hH.ext⟩
  ·
   obtain ⟨hc1, hc2⟩ : (S.sq.tr.co S.L S.s) = true ∧ (S2.sq.tr.co S2.L S2.s) = true := by simpa using h36
   refine CT.skip (PX.then_n (CT.seq (CT.seq ?_)))
   refine CT.draw 11 zf6 ?_
   refine RA.q 0 (by kernel_rfl) rfl rfl rfl (.refl _) (OpQ.move rfl) ?_
   refine RA.q 1 (by kernel_rfl) rfl rfl rfl (.refl _) (OpQ.nilCheckP rfl) ?_
   refine RA.q 2 (by kernel_rfl) rfl rfl rfl (.refl _) (OpQ.fieldAddr zf101 rfl) ?_
   refine RA.q 3 (by kernel_rfl) rfl rfl rfl (.refl _) (OpQ.fieldAddr zf47 rfl) ?_
   refine RA.q 4 (by kernel_rfl) rfl rfl rfl (.refl _) (OpQ.loadG (a := some ⟨bs, 0, none⟩) (j := 2) zf39 rfl (fun w hH => hH.use hB) rfl) ?_
   refine RA.q 5 (by kernel_rfl) rfl rfl rfl (.refl _) (OpQ.move rfl) ?_
   refine RA.q 6 (by kernel_rfl) rfl rfl rfl (.refl _) (OpQ.nilCheckP rfl) ?_
   refine RA.q 7 (by kernel_rfl) rfl rfl rfl (.refl _) (OpQ.fieldAddr zf101 rfl) ?_
   refine RA.q 8 (by kernel_rfl) rfl rfl rfl (.refl _) (OpQ.fieldAddr zf47 rfl) ?_
   refine RA.q 9 (by kernel_rfl) rfl rfl rfl (.refl _) (OpQ.loadG (a := some ⟨bt, 0, none⟩) (j := 2) zf39 rfl (fun w hH => hH.use hB2) rfl) ?_
   refine RA.q 10 (by kernel_rfl) rfl rfl rfl (.refl _) (OpQ.neqS rfl rfl) ?_
   refine RA.tail ?_
   refine RT.done (by kernel_rfl) ?_
   refine PX.then_n ?_
   refine CT.cond rfl (fun h83 => ?_) (fun h83 => ?_)
   ·
    have hne : S.init ≠ S2.init := by simpa using h83
    refine CT.seq ?_
    refine CT.draw 26 zf6 ?_
    refine RA.q 0 (by kernel_rfl) rfl rfl rfl (.refl _) (OpQ.move rfl) ?_
    refine RA.q 1 (by kernel_rfl) rfl rfl rfl (.refl _) (OpQ.move rfl) ?_
    refine RA.q 2 (by kernel_rfl) rfl rfl rfl (.refl _) (OpQ.move rfl) ?_
    refine RA.q 3 (by kernel_rfl) rfl rfl rfl (.refl _) (OpQ.nilCheckP rfl) ?_
    refine RA.q 4 (by kernel_rfl) rfl rfl rfl (.refl _) (OpQ.fieldAddr zf101 rfl) ?_
    refine RA.q 5 (by kernel_rfl) rfl rfl rfl (.refl _) (OpQ.fieldAddr zf46 rfl) ?_
    refine RA.q 6 (by kernel_rfl) rfl rfl rfl (.refl _) (OpQ.loadG (a := some ⟨bs, 0, none⟩) (j := 1) zf8 rfl (fun w hH => hH.use hB) rfl) ?_
    refine RA.q 7 (by kernel_rfl) rfl rfl rfl (.refl _) (OpQ.move rfl) ?_
    refine RA.q 8 (by kernel_rfl) rfl rfl rfl (.refl _) (OpQ.nilCheckP rfl) ?_
    refine RA.q 9 (by kernel_rfl) rfl rfl rfl (.refl _) (OpQ.fieldAddr zf101 rfl) ?_
    refine RA.q 10 (by kernel_rfl) rfl rfl rfl (.refl _) (OpQ.fieldAddr zf46 rfl) ?_
    refine RA.q 11 (by kernel_rfl) rfl rfl rfl (.refl _) (OpQ.loadG (a := some ⟨bt, 0, none⟩) (j := 1) zf8 rfl (fun w hH => hH.use hB2) rfl) ?_
    refine RA.q 12 (by kernel_rfl) rfl rfl rfl (.refl _) (OpQ.build (cells := #[zn S.s, zn S2.s]) zf129 rfl rfl) ?_
    refine RA.know 96 (v' := kp (S.s, S2.s)) rfl rfl ?_
    refine RA.q 13 (by kernel_rfl) rfl rfl rfl (.refl _) (OpQ.move rfl) ?_
    refine RA.q 14 (by kernel_rfl) rfl rfl rfl (.refl _) (OpQ.nilCheckP rfl) ?_
    refine RA.q 15 (by kernel_rfl) rfl rfl rfl (.refl _) (OpQ.fieldAddr zf101 rfl) ?_
    refine RA.q 16 (by kernel_rfl) rfl rfl rfl (.refl _) (OpQ.fieldAddr zf47 rfl) ?_
    refine RA.q 17 (by kernel_rfl) rfl rfl rfl (.refl _) (OpQ.loadG (a := some ⟨bs, 0, none⟩) (j := 2) zf39 rfl (fun w hH => hH.use hB) rfl) ?_
    refine RA.q 18 (by kernel_rfl) rfl rfl rfl (.refl _) (OpQ.move rfl) ?_
    refine RA.q 19 (by kernel_rfl) rfl rfl rfl (.refl _) (OpQ.nilCheckP rfl) ?_
    refine RA.q 20 (by kernel_rfl) rfl rfl rfl (.refl _) (OpQ.fieldAddr zf101 rfl) ?_
    refine RA.q 21 (by kernel_rfl) rfl rfl rfl (.refl _) (OpQ.fieldAddr zf47 rfl) ?_
    refine RA.q 22 (by kernel_rfl) rfl rfl rfl (.refl _) (OpQ.loadG (a := some ⟨bt, 0, none⟩) (j := 2) zf39 rfl (fun w hH => hH.use hB2) rfl) ?_
    refine RA.f 23 (by kernel_rfl) rfl rfl rfl (OpG.call zf130 rfl (fun w hH => ((apart_spec w S (hH.stays0 hS) hv bs F a1 c1 a2 S.rs.length c2 (hH.stays0 hB) (hH.stays0 hF) δ hf (hN1 hc1).tr.co S2 (hH.stays0 hS2) hv2 bt F2 a3 c3 a4 S2.rs.length c4 (hH.stays0 hB2) (hH.stays0 hF2) δ2 hf2 (hN2 hc2).tr.co (hN1 hc1) (hN2 hc2) hLL S.s S2.s (by omega) (by omega) _ _ hne (2 * (S.sq.n + S2.sq.n)) (by omega) (by omega))).mono fun e w' ⟨ws, h1, h2, h3⟩ => ⟨ws, h1, h2, hH.ext_nil h3⟩)) (fun _ _ => (.refl _)) ?_
    rintro ws ⟨hw1, hw2, hw3⟩
    refine RA.q 24 (by kernel_rfl) rfl rfl rfl (.refl _) (OpQ.assign rfl) ?_
    refine RA.q 25 (by kernel_rfl) rfl rfl rfl (.refl _) (OpQ.assign rfl) ?_
    refine RA.tail ?_
    refine RT.done (by kernel_rfl) ?_
    refine PX.then_n (CT.ret (PX.then_r ?_))
    refine PX.ret2 rfl rfl rfl (fun w' hH => ?_)
    exact ⟨(ws, true), Dif.yes (hw1) (by omega) (hw3), rfl, hH.ext⟩
   ·
    have hii : S.init = S2.init := by simpa using h83
    refine CT.skip (PX.then_n (CT.seq ?_))
    refine CT.draw 19 zf6 ?_
    refine RA.q 0 (by kernel_rfl) rfl rfl rfl (.refl _) (OpQ.move rfl) ?_
    refine RA.q 1 (by kernel_rfl) rfl rfl rfl (.refl _) (OpQ.move rfl) ?_
    refine RA.q 2 (by kernel_rfl) rfl rfl rfl (.refl _) (OpQ.move rfl) ?_
    refine RA.q 3 (by kernel_rfl) rfl rfl rfl (.refl _) (OpQ.nilCheckP rfl) ?_
    refine RA.q 4 (by kernel_rfl) rfl rfl rfl (.refl _) (OpQ.fieldAddr zf101 rfl) ?_
    refine RA.q 5 (by kernel_rfl) rfl rfl rfl (.refl _) (OpQ.fieldAddr zf30 rfl) ?_
    refine RA.q 6 (by kernel_rfl) rfl rfl rfl (.refl _) (OpQ.loadG (a := some ⟨bs, 0, none⟩) (j := 3) zf31 rfl (fun w hH => hH.use hB) rfl) ?_
    refine RA.q 7 (by kernel_rfl) rfl rfl rfl (.refl _) (OpQ.len zf21 rfl) ?_
    refine RA.q 8 (by kernel_rfl) rfl rfl rfl (.refl _) (OpQ.move rfl) ?_
    refine RA.q 9 (by kernel_rfl) rfl rfl rfl (.refl _) (OpQ.nilCheckP rfl) ?_
    refine RA.q 10 (by kernel_rfl) rfl rfl rfl (.refl _) (OpQ.fieldAddr zf101 rfl) ?_
    refine RA.q 11 (by kernel_rfl) rfl rfl rfl (.refl _) (OpQ.fieldAddr zf30 rfl) ?_
    refine RA.q 12 (by kernel_rfl) rfl rfl rfl (.refl _) (OpQ.loadG (a := some ⟨bt, 0, none⟩) (j := 3) zf31 rfl (fun w hH => hH.use hB2) rfl) ?_
    refine RA.q 13 (by kernel_rfl) rfl rfl rfl (.refl _) (OpQ.len zf21 rfl) ?_
    refine RA.q 14 (by kernel_rfl) rfl rfl rfl (.refl _) (OpQ.add rfl rfl (by omega)) ?_
    refine RA.know 122 (v' := .int .i64 (((S.sq.n + S2.sq.n) : Nat) : Int)) rfl (congrArg (Value.int .i64) (by rw [S.n_eq, S2.n_eq]; push_cast; rfl)) ?_
    refine RA.f 15 (by kernel_rfl) rfl rfl rfl (OpG.make1 zf0 zf16 rfl rfl rfl rfl (by omega) (by omega)) (fun _ _ => (.cons _ (.refl _))) ?_
    rintro b123 _
    refine RA.q 16 (by kernel_rfl) rfl rfl rfl (.cons _ (.refl _)) (OpQ.build (cells := #[.pointer (some ⟨bs, 0, none⟩), .pointer (some ⟨bt, 0, none⟩), .slice (some ⟨b123, 0, none⟩) (S.sq.n + S2.sq.n) (S.sq.n + S2.sq.n), .slice none 0 0, .slice none 0 0, .slice none 0 0]) zf133 rfl (by kernel_rfl)) ?_
    refine RA.f 17 (by kernel_rfl) rfl rfl rfl (OpG.box (size := 6) rfl rfl rfl) (fun _ _ => (.cons _ (.cons _ (.refl _)))) ?_
    rintro b125 _
    refine RA.q 18 (by kernel_rfl) rfl rfl rfl (.cons _ (.cons _ (.refl _))) (OpQ.assign rfl) ?_
    refine RA.tail ?_
    refine RT.done (by kernel_rfl) ?_
    refine PX.then_n (CT.seq (CT.seq (CT.region ?_)))
    refine Wl.q rfl rfl (OpQ.move rfl) ?_
    refine Wl.q rfl rfl (OpQ.nilCheckP rfl) ?_
    refine Wl.q rfl rfl (OpQ.fieldAddr zf107 rfl) ?_
    refine Wl.q rfl rfl (OpQ.loadF (b := b125) zf10 rfl (by repeat (first | exact Has.here | apply Has.there)) (by rfl)) ?_
    refine Wl.q rfl rfl (OpQ.len zf0 rfl) ?_
    refine Wl.q rfl rfl (OpQ.move rfl) ?_
    refine Wl.nil (PX.then_n (CT.block ?_))
    refine CT.loop (ι := Nat) (fun k => k ≤ (S.sq.n + S2.sq.n)) (fun k => [(0, .pointer (some ⟨bs, 0, none⟩)), (1, .pointer (some ⟨bt, 0, none⟩)), (6, .pointer (some ⟨b125, 0, none⟩)), (130, .int .i64 (((S.sq.n + S2.sq.n) : Nat) : Int)), (131, .int .i64 ((k : Nat) : Int))]) (fun k => [.row 135 6 (vb b125) 1 [.pointer (some ⟨bs, 0, none⟩), .pointer (some ⟨bt, 0, none⟩), .slice (some ⟨b123, 0, none⟩) (S.sq.n + S2.sq.n) (S.sq.n + S2.sq.n), .slice none 0 0, .slice none 0 0, .slice none 0 0], .row 3 1 (.slice (some ⟨b123, 0, none⟩) (S.sq.n + S2.sq.n) (S.sq.n + S2.sq.n)) (S.sq.n + S2.sq.n) ((rgP (S.sq.n + S2.sq.n) k).map zn)]) (fun k => (S.sq.n + S2.sq.n) - k) 0 (Nat.zero_le _) ⟨rfl, rfl, rfl, rfl, rfl, trivial⟩ (.keep rfl (.keep (row_eq (by rw [rgP_zero, List.map_replicate]; rfl)) (HSub.refl _))) (fun k hk K1 hK1 => ?_)
    refine CT.seq (CT.region ?_)
    refine Wl.q rfl rfl (OpQ.lss rfl rfl) ?_
    refine Wl.nil (PX.then_n (CT.seq ?_))
    refine CT.cond rfl (fun h132 => ?_) (fun h132 => ?_)
    ·
     have h132 := of_decide_eq_true h132
     have hkN : k < (S.sq.n + S2.sq.n) := by omega
     refine CT.skip (PX.then_n (CT.seq (CT.block (CT.seq (CT.region ?_)))))
     refine Wl.q rfl rfl (OpQ.move rfl) ?_
     refine Wl.q rfl rfl (OpQ.assign rfl) ?_
     refine Wl.nil (PX.then_n (CT.region ?_))
     refine Wl.q rfl rfl (OpQ.move rfl) ?_
     refine Wl.q rfl rfl (OpQ.nilCheckP rfl) ?_
     refine Wl.q rfl rfl (OpQ.fieldAddr zf107 rfl) ?_
     refine Wl.q rfl rfl (OpQ.loadF (b := b125) zf10 rfl (by repeat (first | exact Has.here | apply Has.there)) (by rfl)) ?_
     refine Wl.q rfl rfl (OpQ.move rfl) ?_
     refine Wl.q rfl rfl (OpQ.move rfl) ?_
     refine Wl.q rfl rfl (OpQ.index1 zf0 zf1 rfl rfl (by omega) rfl) ?_
     refine Wl.g rfl rfl (OpG.storeRow zf1 rfl rfl rfl (.there .here) (by rw [List.length_map, rgP_len]; exact hkN)) ?_
     rintro _ _
     refine Wl.nil (PX.block_n (PX.then_n (CT.region ?_)))
     refine Wl.q rfl rfl (OpQ.add rfl rfl (by omega)) ?_
     refine Wl.q rfl rfl (OpQ.move rfl) ?_
     refine Wl.nil ?_
     exact PX.loop hK1 (k + 1) (by omega) (by first | omega | (dsimp only; omega)) ⟨rfl, rfl, rfl, rfl, rfl, trivial⟩ (.keep rfl (.keep (row_eq (by rw [← rgP_put hkN, List.map_set]; rfl)) (HSub.refl _)))
    ·
     have h132 := of_decide_eq_false h132
     obtain rfl : k = (S.sq.n + S2.sq.n) := by omega
     refine CT.nilrow 3 1 ?_
     refine CT.nilrow 3 1 ?_
     refine CT.nilrow 82 2 ?_
     refine CT.as (fun _ h => h.take (.cons (.there (.there (.there .here))) (.cons (.there (.there (.there .here))) (.cons .here (.cons .here (.cons .here .nil)))))) ?_
     refine CT.mem (H' := [.row 135 6 (vb b125) 1 [.pointer (some ⟨bs, 0, none⟩), .pointer (some ⟨bt, 0, none⟩), .slice (some ⟨b123, 0, none⟩) (S.sq.n + S2.sq.n) (S.sq.n + S2.sq.n), .slice (⟨List.range (S.sq.n + S2.sq.n), [], [], [], none, 0, none, 0, none, 0, fun i => i, fun _ => 0⟩ : Cs).qa (⟨List.range (S.sq.n + S2.sq.n), [], [], [], none, 0, none, 0, none, 0, fun i => i, fun _ => 0⟩ : Cs).Q.length (⟨List.range (S.sq.n + S2.sq.n), [], [], [], none, 0, none, 0, none, 0, fun i => i, fun _ => 0⟩ : Cs).qc, .slice (⟨List.range (S.sq.n + S2.sq.n), [], [], [], none, 0, none, 0, none, 0, fun i => i, fun _ => 0⟩ : Cs).fa (⟨List.range (S.sq.n + S2.sq.n), [], [], [], none, 0, none, 0, none, 0, fun i => i, fun _ => 0⟩ : Cs).F.length (⟨List.range (S.sq.n + S2.sq.n), [], [], [], none, 0, none, 0, none, 0, fun i => i, fun _ => 0⟩ : Cs).fc, .slice (⟨List.range (S.sq.n + S2.sq.n), [], [], [], none, 0, none, 0, none, 0, fun i => i, fun _ => 0⟩ : Cs).ba (⟨List.range (S.sq.n + S2.sq.n), [], [], [], none, 0, none, 0, none, 0, fun i => i, fun _ => 0⟩ : Cs).B.length (⟨List.range (S.sq.n + S2.sq.n), [], [], [], none, 0, none, 0, none, 0, fun i => i, fun _ => 0⟩ : Cs).bc], .row 3 1 (.slice (some ⟨b123, 0, none⟩) (S.sq.n + S2.sq.n) (S.sq.n + S2.sq.n)) (S.sq.n + S2.sq.n) (((⟨List.range (S.sq.n + S2.sq.n), [], [], [], none, 0, none, 0, none, 0, fun i => i, fun _ => 0⟩ : Cs).P).map zn), .row 82 2 (.slice (⟨List.range (S.sq.n + S2.sq.n), [], [], [], none, 0, none, 0, none, 0, fun i => i, fun _ => 0⟩ : Cs).qa (⟨List.range (S.sq.n + S2.sq.n), [], [], [], none, 0, none, 0, none, 0, fun i => i, fun _ => 0⟩ : Cs).Q.length (⟨List.range (S.sq.n + S2.sq.n), [], [], [], none, 0, none, 0, none, 0, fun i => i, fun _ => 0⟩ : Cs).qc) (⟨List.range (S.sq.n + S2.sq.n), [], [], [], none, 0, none, 0, none, 0, fun i => i, fun _ => 0⟩ : Cs).Q.length ((⟨List.range (S.sq.n + S2.sq.n), [], [], [], none, 0, none, 0, none, 0, fun i => i, fun _ => 0⟩ : Cs).Q.flatMap stv), .row 3 1 (.slice (⟨List.range (S.sq.n + S2.sq.n), [], [], [], none, 0, none, 0, none, 0, fun i => i, fun _ => 0⟩ : Cs).fa (⟨List.range (S.sq.n + S2.sq.n), [], [], [], none, 0, none, 0, none, 0, fun i => i, fun _ => 0⟩ : Cs).F.length (⟨List.range (S.sq.n + S2.sq.n), [], [], [], none, 0, none, 0, none, 0, fun i => i, fun _ => 0⟩ : Cs).fc) (⟨List.range (S.sq.n + S2.sq.n), [], [], [], none, 0, none, 0, none, 0, fun i => i, fun _ => 0⟩ : Cs).F.length ((⟨List.range (S.sq.n + S2.sq.n), [], [], [], none, 0, none, 0, none, 0, fun i => i, fun _ => 0⟩ : Cs).F.map zn), .row 3 1 (.slice (⟨List.range (S.sq.n + S2.sq.n), [], [], [], none, 0, none, 0, none, 0, fun i => i, fun _ => 0⟩ : Cs).ba (⟨List.range (S.sq.n + S2.sq.n), [], [], [], none, 0, none, 0, none, 0, fun i => i, fun _ => 0⟩ : Cs).B.length (⟨List.range (S.sq.n + S2.sq.n), [], [], [], none, 0, none, 0, none, 0, fun i => i, fun _ => 0⟩ : Cs).bc) (⟨List.range (S.sq.n + S2.sq.n), [], [], [], none, 0, none, 0, none, 0, fun i => i, fun _ => 0⟩ : Cs).B.length ((⟨List.range (S.sq.n + S2.sq.n), [], [], [], none, 0, none, 0, none, 0, fun i => i, fun _ => 0⟩ : Cs).B.map zn)]) (.keep rfl (.keep (row_eq (by rw [rgP_full])) (HSub.refl _))) ?_
     refine CT.exit (PX.then_x (PX.then_x (PX.block_x (PX.then_n (CT.seq ?_)))))
     refine CT.draw' (Hc := []) 13 zf6 ?_
     refine RA.q 0 (by kernel_rfl) rfl rfl rfl (List.nil_sublist _) (OpQ.move rfl) ?_
     refine RA.q 1 (by kernel_rfl) rfl rfl rfl (List.nil_sublist _) (OpQ.move rfl) ?_
     refine RA.q 2 (by kernel_rfl) rfl rfl rfl (List.nil_sublist _) (OpQ.nilCheckP rfl) ?_
     refine RA.q 3 (by kernel_rfl) rfl rfl rfl (List.nil_sublist _) (OpQ.fieldAddr zf101 rfl) ?_
     refine RA.q 4 (by kernel_rfl) rfl rfl rfl (List.nil_sublist _) (OpQ.fieldAddr zf46 rfl) ?_
     refine RA.q 5 (by kernel_rfl) rfl rfl rfl (List.nil_sublist _) (OpQ.loadG (a := some ⟨bs, 0, none⟩) (j := 1) zf8 rfl (fun w hH => hH.use hB) rfl) ?_
     refine RA.q 6 (by kernel_rfl) rfl rfl rfl (List.nil_sublist _) (OpQ.move rfl) ?_
     refine RA.q 7 (by kernel_rfl) rfl rfl rfl (List.nil_sublist _) (OpQ.nilCheckP rfl) ?_
     refine RA.q 8 (by kernel_rfl) rfl rfl rfl (List.nil_sublist _) (OpQ.fieldAddr zf101 rfl) ?_
     refine RA.q 9 (by kernel_rfl) rfl rfl rfl (List.nil_sublist _) (OpQ.fieldAddr zf46 rfl) ?_
     refine RA.q 10 (by kernel_rfl) rfl rfl rfl (List.nil_sublist _) (OpQ.loadG (a := some ⟨bt, 0, none⟩) (j := 1) zf8 rfl (fun w hH => hH.use hB2) rfl) ?_
     refine RA.q 11 (by kernel_rfl) rfl rfl rfl (List.nil_sublist _) (OpQ.build (cells := #[zn S.s, zn S2.s]) zf129 rfl rfl) ?_
     refine RA.know 153 (v' := kp (S.s, S2.s)) rfl rfl ?_
     refine RA.f 12 (by kernel_rfl) rfl rfl rfl (OpG.callX zf131 rfl (.cons .here (.cons .here (.cons .here (.cons .here (.cons .here .nil))))) (fun _ => (.cons (.cons (.cons (.cons (.cons .nil)))))) (fun w hH hp => cadd_spec w S S2 bs bt b125 (some ⟨b123, 0, none⟩) (S.sq.n + S2.sq.n) (⟨List.range (S.sq.n + S2.sq.n), [], [], [], none, 0, none, 0, none, 0, fun i => i, fun _ => 0⟩ : Cs) hv hv2 (CsOk.start _ _) rfl _ _ _ _ _ _ (hH.stays hB (.cons .here (.cons .here (.cons .here (.cons .here (.cons .here .nil)))))) (S.s, S2.s) (by show S.s < _; omega) (by show S2.s < _; omega) 0 0 (.inl ⟨rfl, rfl⟩) hp)) (fun _ _ => (List.nil_sublist _)) ?_
     rintro C0 ⟨hO0, hj0, _, _⟩
     refine RA.tail ?_
     refine RT.done (by kernel_rfl) ?_
     refine PX.then_n (CT.seq (CT.seq (CT.region ?_)))
     refine Wl.q rfl rfl (OpQ.assign rfl) ?_
     refine Wl.nil (PX.then_n (CT.block ?_))
     refine CT.loop (ι := Nat × Cs) (fun (i, C) => CsOk S.sq S2.sq C ∧ i ≤ C.Q.length ∧ (∀ j, j < i → Cl S.sq S2.sq C.k (C.Q.getD j z2) S.L) ∧ C.k S.s = C.k (S.sq.n + S2.s)) (fun (i, C) => [(6, .pointer (some ⟨b125, 0, none⟩)), (8, .int .i64 ((i : Nat) : Int))]) (fun (i, C) => [.row 135 6 (vb b125) 1 [.pointer (some ⟨bs, 0, none⟩), .pointer (some ⟨bt, 0, none⟩), .slice (some ⟨b123, 0, none⟩) (S.sq.n + S2.sq.n) (S.sq.n + S2.sq.n), .slice C.qa C.Q.length C.qc, .slice C.fa C.F.length C.fc, .slice C.ba C.B.length C.bc], .row 3 1 (.slice (some ⟨b123, 0, none⟩) (S.sq.n + S2.sq.n) (S.sq.n + S2.sq.n)) (S.sq.n + S2.sq.n) ((C.P).map zn), .row 82 2 (.slice C.qa C.Q.length C.qc) C.Q.length (C.Q.flatMap stv), .row 3 1 (.slice C.fa C.F.length C.fc) C.F.length (C.F.map zn), .row 3 1 (.slice C.ba C.B.length C.bc) C.B.length (C.B.map zn)]) (fun (i, C) => (S.sq.n + S2.sq.n) + 1 - i) (0, C0) ⟨hO0, Nat.zero_le _, fun j hj => absurd hj (Nat.not_lt_zero j), hj0⟩ ⟨rfl, rfl, trivial⟩ (HSub.refl _) (fun ⟨i, C⟩ ⟨hO, hiQ0, hcl, hjs⟩ K2 hK2 => ?_)
     dsimp only
     have hQl := hO.cp.len
     refine CT.seq (CT.seq (CT.region ?_))
     refine Wl.q rfl rfl (OpQ.move rfl) ?_
     refine Wl.q rfl rfl (OpQ.move rfl) ?_
     refine Wl.q rfl rfl (OpQ.nilCheckP rfl) ?_
     refine Wl.q rfl rfl (OpQ.fieldAddr zf117 rfl) ?_
     refine Wl.q rfl rfl (OpQ.loadF (b := b125) zf118 rfl (by repeat (first | exact Has.here | apply Has.there)) (by rfl)) ?_
     refine Wl.q rfl rfl (OpQ.len zf121 rfl) ?_
     refine Wl.q rfl rfl (OpQ.lss rfl rfl) ?_
     refine Wl.nil (PX.then_n ?_)
     refine CT.cond rfl (fun h161 => ?_) (fun h161 => ?_)
     ·
      have h161 := of_decide_eq_true h161
      have hiQ : i < C.Q.length := by omega
      refine CT.skip (PX.then_n (CT.seq (CT.block (CT.seq (CT.region ?_)))))
      refine Wl.q rfl rfl (OpQ.move rfl) ?_
      refine Wl.q rfl rfl (OpQ.move rfl) ?_
      refine Wl.g rfl rfl (OpG.callX zf134 rfl (.cons .here (.cons .here (.cons .here (.cons .here (.cons .here .nil))))) (fun _ => (.cons (.cons (.cons (.cons (.cons .nil)))))) (fun w hH hp => ccompare_spec w S S2 bs bt b125 (some ⟨b123, 0, none⟩) (S.sq.n + S2.sq.n) C (hH.stays hS (.cons .here (.cons .here (.cons .here (.cons .here (.cons .here .nil)))))) hv (hH.stays hS2 (.cons .here (.cons .here (.cons .here (.cons .here (.cons .here .nil)))))) hv2 F a1 c1 a2 _ c2 (hH.stays hB (.cons .here (.cons .here (.cons .here (.cons .here (.cons .here .nil)))))) (hH.stays hF (.cons .here (.cons .here (.cons .here (.cons .here (.cons .here .nil)))))) δ hf (hN1 hc1).tr.co F2 a3 c3 a4 _ c4 (hH.stays hB2 (.cons .here (.cons .here (.cons .here (.cons .here (.cons .here .nil)))))) (hH.stays hF2 (.cons .here (.cons .here (.cons .here (.cons .here (.cons .here .nil)))))) δ2 hf2 (hN2 hc2).tr.co (hN1 hc1) (hN2 hc2) hLL (2 * (S.sq.n + S2.sq.n)) (by omega) (by omega) (by omega) hO rfl i hiQ _ rfl hp)) ?_
      rintro ⟨wd, b, D⟩ hD
      dsimp only at hD
      obtain ⟨hO2, hcr, hpx, hdt, hdf⟩ := hD
      have hpl := hpx.length_le
      have hQ2 := hO2.cp.len
      refine Wl.q rfl rfl (OpQ.move rfl) ?_
      refine Wl.q rfl rfl (OpQ.extract rfl rfl) ?_
      refine Wl.know 168 (v' := sv wd) rfl rfl ?_
      refine Wl.q rfl rfl (OpQ.extract rfl rfl) ?_
      refine Wl.know 169 (v' := .bool b) rfl rfl ?_
      refine Wl.q rfl rfl (OpQ.assign rfl) ?_
      refine Wl.q rfl rfl (OpQ.assign rfl) ?_
      refine Wl.nil (PX.then_n (CT.seq (CT.region ?_)))
      refine Wl.q rfl rfl (OpQ.move rfl) ?_
      refine Wl.nil (PX.then_n ?_)
      refine CT.cond rfl (fun h170 => ?_) (fun h170 => ?_)
      ·
       obtain ⟨hd1, hd2, hd3⟩ := hdt h170
       rw [← pre_getD hpx hiQ] at hd3
       refine CT.seq (CT.region ?_)
       refine Wl.q rfl rfl (OpQ.move rfl) ?_
       refine Wl.q rfl rfl (OpQ.move rfl) ?_
       refine Wl.g rfl rfl (OpG.call zf135 rfl (fun w hH => (cword_spec w b125 D _ _ _ _ (Stays.rd (hH.staysK0 .here)) (Stays.rd (hH.staysK0 (.there (.there (.there .here))))) (Stays.rd (hH.staysK0 (.there (.there (.there (.there .here)))))) S.sq S2.sq hO2.cp (show S.L ≤ 6 by omega) (by omega) i (by omega)).mono fun e w' ⟨ws, h1, h2, h3⟩ => ⟨ws, h1, h2, hH.ext_nil h3⟩)) ?_
       rintro ws ⟨hw1, hw2, hw3⟩
       refine Wl.q rfl rfl (OpQ.move rfl) ?_
       refine Wl.q rfl rfl (OpQ.concat rfl rfl (by omega)) ?_
       refine Wl.q rfl rfl (OpQ.assign rfl) ?_
       refine Wl.q rfl rfl (OpQ.assign rfl) ?_
       refine Wl.nil (PX.then_n (CT.ret (PX.block_r (PX.then_r (PX.then_r (PX.block_r (PX.then_r ?_)))))))
       refine PX.ret2 rfl rfl rfl (fun w' hH => ?_)
       exact ⟨(ws ++ wd, true), Dif.yes (Lw.app hw2 hd1) (by rw [List.length_append]; omega) (by rw [wl_app]; exact value_ne hii (hw1.differ hd3)), rfl, hH.ext⟩
      ·
       have hb := h170
       refine CT.skip (PX.block_n (PX.then_n (CT.region ?_)))
       refine Wl.q rfl rfl (OpQ.move rfl) ?_
       refine Wl.q rfl rfl (OpQ.add rfl rfl (by omega)) ?_
       refine Wl.q rfl rfl (OpQ.assign rfl) ?_
       refine Wl.nil ?_
       exact PX.loop hK2 (i + 1, D) ⟨hO2, by omega, fun j hj => by
        by_cases e : j < i
        ·
         rw [pre_getD hpx (by omega)]
         have hlj := hO.cp.lt _ (show C.Q.getD j z2 ∈ C.Q from getDm (by omega))
         exact (hcl j e).mono hlt1 hlt2 hlj.1 hlj.2 hcr
        ·
         obtain rfl : j = i := by omega
         rw [pre_getD hpx hiQ]; exact hdf hb, hcr _ _ (by omega) (by omega) hjs⟩ (show (S.sq.n + S2.sq.n) + 1 - (i + 1) < (S.sq.n + S2.sq.n) + 1 - i by omega) ⟨rfl, rfl, trivial⟩ (HSub.refl _)
     ·
      have h161 := of_decide_eq_false h161
      have hiQ : C.Q.length ≤ i := by omega
      refine CT.exit (PX.then_x (PX.then_x (PX.block_x (PX.then_n (CT.seq (CT.region ?_))))))
      refine Wl.q rfl rfl (OpQ.assign rfl) ?_
      refine Wl.q rfl rfl (OpQ.assign rfl) ?_
      refine Wl.nil (PX.then_n (CT.ret ?_))
      refine PX.ret2 rfl rfl rfl (fun w' hH => ?_)
      exact ⟨([], false), Dif.no (fun w hw => hO.all hlt1 hlt2 hii hs1 hs2 hjs (fun j hj => hcl j (by omega)) w hw), rfl, hH.ext⟩

end Go.Proofs.Ytamolakhpcofhaa

