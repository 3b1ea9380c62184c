/-
  What functions of the program compute, each by its walk. Conditions: those that each theorem names.
-/
import Derived.Test.YtlmbcdjmdgbmjaaMod
import Derived.Test.YtlmbcdjmdgbmjaaXQ3
set_option linter.unusedSimpArgs false
namespace Go.Proofs.Ytlmbcdjmdgbmjaa
open Go Go.Eng Go.Tl
open Go.Rel (iv mapSet)

theorem D_un9 : Try.prog.underlying 9 = some .string := by kernel_rfl
theorem D_un5 : Try.prog.underlying 5 = some (.int .u8) := by kernel_rfl
theorem D_un3 : Try.prog.underlying 3 = some (.int .i64) := by kernel_rfl
theorem D_un49 : Try.prog.underlying 49 = some (.slice 4) := by kernel_rfl
theorem D_sz4 : sizeB Try.prog 4 = some 1 := by kernel_rfl
theorem D_sc4 : scalarB Try.prog 4 = some true := by kernel_rfl
theorem D_go30 : isGo Try.prog 30 = true := by kernel_rfl
theorem D_go31 : isGo Try.prog 31 = true := by kernel_rfl
theorem D_go32 : isGo Try.prog 32 = true := by kernel_rfl
theorem D_mixed : Try.prog.follows .mixedOrders = true := by kernel_rfl
theorem D_un22 : Try.prog.underlying 22 = some (.slice 31) := by kernel_rfl
theorem D_in4 : (Try.prog.info? 4).map (fun i => (i.zero, i.size, i.bytes)) = some (some (.bool false), 1, 1) := by kernel_rfl
theorem D_go33 : isGo Try.prog 33 = true := by kernel_rfl
set_option maxRecDepth 100000 in
/-- semigroup/temporal.Holds -/
theorem holds_spec (w : World) (a : Option Addr) (cp : Nat) (xs : List Tm) (hr : Rd w a (xs.flatMap tv)) (hn : xs.length ≤ 9223372036854775807) (hcp : xs.length ≤ cp) (root : Int) (ws : Wd) (hw : ws.length ≤ 9223372036854775807) : Calls Try.prog 16 #[.slice a xs.length cp, .int .i64 (root), sv ws] w (fun e w' => e = .returned (.bool (holdsB xs root ws)) ∧ Ext [] w w') := by
 refine enter (args := [.slice a xs.length cp, .int .i64 (root), sv ws]) [] 56 Try.func16 rfl rfl rfl ?_
 refine CT.seq ?_
 refine CT.region ?_
 refine Wl.q rfl rfl (OpQ.assign rfl) ?_
 refine Wl.nil ?_
 refine PX.then_n ?_
 refine CT.seq ?_
 refine CT.seq ?_
 refine CT.region ?_
 refine Wl.q rfl rfl (OpQ.move rfl) ?_
 refine Wl.q rfl rfl (OpQ.move rfl) ?_
 refine Wl.g rfl rfl (OpG.callV D_go30 rfl (fun w hH => validate_spec w a cp xs (hH.rd0 hr rfl) hn root 6)) ?_
 rintro _ _
 refine Wl.q rfl rfl (OpQ.neq rfl rfl) ?_
 refine Wl.q rfl rfl (OpQ.move rfl) ?_
 refine Wl.split 14 rfl (fun hg14 => ?_) (fun hg14 => ?_)
 ·
  have hv : ¬ vdF xs root 6 = 0 := by simpa using hg14
  refine Wl.skip rfl rfl ?_
  refine Wl.skip rfl rfl ?_
  refine Wl.skip rfl rfl ?_
  refine Wl.q rfl rfl (OpQ.pickT rfl rfl) ?_
  refine Wl.nil ?_
  refine PX.then_n ?_
  refine CT.condT rfl ?_
  refine CT.seq ?_
  refine CT.region ?_
  refine Wl.q rfl rfl (OpQ.assign rfl) ?_
  refine Wl.nil ?_
  refine PX.then_n ?_
  refine CT.ret ?_
  refine PX.then_r ?_
  refine PX.ret1 rfl rfl (fun w' hH => ?_)
  exact ⟨ret_b (by rw [holdsB, decide_eq_false_iff_not.2 hv]; rfl), hH.ext⟩
 ·
  have hv : vdF xs root 6 = 0 := by simpa using hg14
  obtain ⟨hl, hok, hr0, hr1⟩ := vd_zero hv
  refine Wl.q rfl rfl (OpQ.move rfl) ?_
  refine Wl.g rfl rfl (OpG.callV D_go31 rfl (fun w hH => wvalid_spec w ws hw 6)) ?_
  rintro _ _
  refine Wl.q rfl rfl (OpQ.not rfl) ?_
  refine Wl.q rfl rfl (OpQ.pickF rfl rfl) ?_
  refine Wl.nil ?_
  refine PX.then_n ?_
  refine CT.cond rfl (fun h18 => ?_) (fun h18 => ?_)
  ·
   have hk : okW ws 6 = false := by simpa using h18
   refine CT.seq ?_
   refine CT.region ?_
   refine Wl.q rfl rfl (OpQ.assign rfl) ?_
   refine Wl.nil ?_
   refine PX.then_n ?_
   refine CT.ret ?_
   refine PX.then_r ?_
   refine PX.ret1 rfl rfl (fun w' hH => ?_)
   exact ⟨ret_b (by rw [holdsB, hk]; simp), hH.ext⟩
  ·
   have hk : okW ws 6 = true := by simpa using h18
   have hwl := okW_len hk
   obtain ⟨rt, rfl⟩ := Int.eq_ofNat_of_zero_le hr0
   have hrt : rt < xs.length := by omega
   have hL1 := num_root xs rt
   have hLe : (cutL xs rt).length ≤ rt + 1 := cuS_le _ _ _ _
   have hLk := cut_ok hok hrt
   refine CT.skip ?_
   refine PX.then_n ?_
   refine CT.seq ?_
   refine CT.region ?_
   refine Wl.q rfl rfl (OpQ.move rfl) ?_
   refine Wl.q rfl rfl (OpQ.move rfl) ?_
   refine Wl.g rfl rfl (OpG.callR D_go32 rfl (fun w hH => cut_spec w a cp xs (hH.rd0 hr rfl) hl hcp rt hrt hok)) ?_
   rintro ⟨a21, c21⟩ h21
   refine Wl.q rfl rfl (OpQ.assign rfl) ?_
   refine Wl.nil ?_
   refine PX.then_n ?_
   refine CT.cut (ι := Nat × Nat) (Φ := fun _ => True) (E' := fun (b1, b2) => [(0, .slice a21 (cutL xs rt).length c21), (2, sv ws), (7, .slice (some ⟨b1, 0, none⟩) (cutL xs rt).length (cutL xs rt).length), (8, .slice (some ⟨b2, 0, none⟩) (cutL xs rt).length (cutL xs rt).length)]) (H' := fun (b1, b2) => [.row 4 1 (.slice (some ⟨b2, 0, none⟩) (cutL xs rt).length (cutL xs rt).length) (cutL xs rt).length (((List.replicate (cutL xs rt).length false)).map bo), .row 4 1 (.slice (some ⟨b1, 0, none⟩) (cutL xs rt).length (cutL xs rt).length) (cutL xs rt).length (((List.replicate (cutL xs rt).length false)).map bo), .row 31 4 (.slice a21 (cutL xs rt).length c21) (cutL xs rt).length ((cutL xs rt).flatMap tv)]) (fun K0 hK0 => ?_) (fun ⟨b1, b2⟩ _ => ?_)
   ·
    refine CT.draw 8 D_mixed ?_
    refine RA.q 0 (by kernel_rfl) rfl rfl rfl (.refl _) (OpQ.move rfl) ?_
    refine RA.q 1 (by kernel_rfl) rfl rfl rfl (.refl _) (OpQ.len D_un22 rfl) ?_
    refine RA.q 3 (by kernel_rfl) rfl rfl rfl (.refl _) (OpQ.move rfl) ?_
    refine RA.q 4 (by kernel_rfl) rfl rfl rfl (.refl _) (OpQ.len D_un22 rfl) ?_
    refine RA.two 2 5 (by kernel_rfl) rfl rfl rfl (OpG.make1 D_un49 D_in4 rfl rfl rfl rfl (by omega) (by omega)) (fun _ _ => (.cons _ (.refl _))) rfl rfl rfl (OpG.make1 D_un49 D_in4 rfl rfl rfl rfl (by omega) (by omega)) (fun _ _ => (.cons _ (.refl _))) ?_ ?_
    ·
     rintro b24 _
     refine RA.q 6 (by kernel_rfl) rfl rfl rfl (.cons _ (.refl _)) (OpQ.assign rfl) ?_
     refine RA.f 5 (by kernel_rfl) rfl rfl rfl (OpG.make1 D_un49 D_in4 rfl rfl rfl rfl (by omega) (by omega)) (fun _ _ => (.cons _ (.cons _ (.refl _)))) ?_
     rintro b27 _
     refine RA.q 7 (by kernel_rfl) rfl rfl rfl (.cons _ (.cons _ (.refl _))) (OpQ.assign rfl) ?_
     refine RA.tail ?_
     refine RT.done (by kernel_rfl) ?_
     exact PX.cut hK0 (b24, b27) trivial ⟨rfl, rfl, rfl, rfl, trivial⟩ (.keep (row_eq (by simp)) (.keep (row_eq (by simp)) (.keep rfl .nil)))
    ·
     rintro b27 _
     refine RA.f 2 (by kernel_rfl) rfl rfl rfl (OpG.make1 D_un49 D_in4 rfl rfl rfl rfl (by omega) (by omega)) (fun _ _ => (.cons _ (.cons _ (.refl _)))) ?_
     rintro b24 _
     refine RA.q 6 (by kernel_rfl) rfl rfl rfl (.cons _ (.cons _ (.refl _))) (OpQ.assign rfl) ?_
     refine RA.q 7 (by kernel_rfl) rfl rfl rfl (.cons _ (.cons _ (.refl _))) (OpQ.assign rfl) ?_
     refine RA.tail ?_
     refine RT.perm (.swap _ _ _) ?_
     refine RT.done (by kernel_rfl) ?_
     exact PX.cut hK0 (b24, b27) trivial ⟨rfl, rfl, rfl, rfl, trivial⟩ (.keep (row_eq (by simp)) (.keep (row_eq (by simp)) (.keep rfl .nil)))
   ·
    dsimp only
    refine CT.seq ?_
    refine CT.region ?_
    refine Wl.q rfl rfl (OpQ.move rfl) ?_
    refine Wl.q rfl rfl (OpQ.move rfl) ?_
    refine Wl.q rfl rfl (OpQ.move rfl) ?_
    refine Wl.g rfl rfl (OpG.callU D_go33 rfl .here (fun w hH hown => evaluate_spec w a21 c21 (cutL xs rt) (hH.rd (.there (.there .here))) (by omega) (-1) (some ⟨b1, 0, none⟩) (cutL xs rt).length (cutL xs rt).length (List.replicate (cutL xs rt).length false) (hH.rd (.there .here)) (fun _ => by simp) (fun _ => by simp) hLk (some ⟨b2, 0, none⟩) (cutL xs rt).length (List.replicate (cutL xs rt).length false) (by simp) hown (hH.sep (.snd (.there .here))) (hH.sep (.snd .here)))) ?_
    rintro _ _
    refine Wl.nil ?_
    refine PX.then_n ?_
    refine CT.seq ?_
    refine CT.seq ?_
    refine CT.region ?_
    refine Wl.q rfl rfl (OpQ.move rfl) ?_
    refine Wl.q rfl rfl (OpQ.lenSv D_un9 rfl) ?_
    refine Wl.q rfl rfl (OpQ.sub rfl rfl (by omega)) ?_
    refine Wl.q rfl rfl (OpQ.assign rfl) ?_
    refine Wl.nil ?_
    refine PX.then_n ?_
    refine CT.block ?_
    refine CT.loop (ι := Nat × Nat × Nat × List Bool) (fun (m, bn, bb, vb) => m ≤ ws.length ∧ vb.length = (cutL xs rt).length) (fun (m, bn, bb, vb) => [(0, .slice a21 (cutL xs rt).length c21), (2, sv ws), (7, .slice (some ⟨bb, 0, none⟩) (cutL xs rt).length (cutL xs rt).length), (8, .slice (some ⟨bn, 0, none⟩) (cutL xs rt).length (cutL xs rt).length), (9, .int .i64 ((m : Int) - 1))]) (fun (m, bn, bb, vb) => [.row 4 1 (.slice (some ⟨bn, 0, none⟩) (cutL xs rt).length (cutL xs rt).length) (cutL xs rt).length (((runL (cutL xs rt) (ws.drop m))).map bo), .row 4 1 (.slice (some ⟨bb, 0, none⟩) (cutL xs rt).length (cutL xs rt).length) (cutL xs rt).length ((vb).map bo), .row 31 4 (.slice a21 (cutL xs rt).length c21) (cutL xs rt).length ((cutL xs rt).flatMap tv)]) (fun (m, bn, bb, vb) => m) (ws.length, b2, b1, (List.replicate (cutL xs rt).length false)) ⟨by omega, by simp⟩ ⟨rfl, rfl, rfl, rfl, rfl, trivial⟩ (.keep (row_eq (by rw [List.drop_length]; exact congrArg _ (evL_any hLk (by simp) (by simp) (fun h => absurd rfl h)))) (.keep rfl (.keep rfl .nil))) (fun ⟨m, bn, bb, vb⟩ ⟨hm, hvb⟩ K1 hK1 => ?_)
    dsimp only
    refine CT.seq ?_
    refine CT.seq ?_
    refine CT.region ?_
    refine Wl.q rfl rfl (OpQ.move rfl) ?_
    refine Wl.q rfl rfl (OpQ.geq rfl rfl) ?_
    refine Wl.nil ?_
    refine PX.then_n ?_
    refine CT.cond rfl (fun h36 => ?_) (fun h36 => ?_)
    ·
     have h36 := of_decide_eq_true h36
     obtain ⟨i, rfl⟩ : ∃ i, m = i + 1 := ⟨m - 1, by omega⟩
     refine CT.know 9 (v' := .int .i64 (i : Int)) rfl (congrArg (Value.int .i64) (by omega)) ?_
     have hu := okW_get hk (j := i) (by omega)
     refine CT.skip ?_
     refine PX.then_n ?_
     refine CT.seq ?_
     refine CT.block ?_
     refine CT.seq ?_
     refine CT.region ?_
     refine Wl.q rfl rfl (OpQ.move rfl) ?_
     refine Wl.q rfl rfl (OpQ.move rfl) ?_
     refine Wl.q rfl rfl (OpQ.assign rfl) ?_
     refine Wl.q rfl rfl (OpQ.assign rfl) ?_
     refine Wl.nil ?_
     refine PX.then_n ?_
     refine CT.region ?_
     refine Wl.q rfl rfl (OpQ.move rfl) ?_
     refine Wl.q rfl rfl (OpQ.move rfl) ?_
     refine Wl.q rfl rfl (OpQ.move rfl) ?_
     refine Wl.q rfl rfl (OpQ.indexSvN D_un9 rfl rfl (by omega)) ?_
     refine Wl.q rfl rfl (OpQ.sub8 rfl rfl (by omega)) ?_
     refine Wl.q rfl rfl (OpQ.conv rfl (conv_u8_i64 D_un5 D_un3 _ (by omega))) ?_
     refine Wl.q rfl rfl (OpQ.move rfl) ?_
     refine Wl.q rfl rfl (OpQ.move rfl) ?_
     refine Wl.g rfl rfl (OpG.callU D_go33 rfl (.there .here) (fun w hH hown => evaluate_spec w a21 c21 (cutL xs rt) (hH.rd (.there (.there .here))) (by omega) _ (some ⟨bn, 0, none⟩) (cutL xs rt).length (cutL xs rt).length (runL (cutL xs rt) (ws.drop (i + 1))) (hH.rd .here) (fun _ => (runL_len _ _).symm) (fun _ => runL_len _ _) hLk (some ⟨bb, 0, none⟩) (cutL xs rt).length vb hvb hown (hH.sep (.there (.snd .here))) (hH.sep (.fst .here)))) ?_
     rintro _ _
     refine Wl.nil ?_
     refine PX.block_n ?_
     refine PX.then_n ?_
     refine CT.region ?_
     refine Wl.q rfl rfl (OpQ.move rfl) ?_
     refine Wl.q rfl rfl (OpQ.sub rfl rfl (by omega)) ?_
     refine Wl.q rfl rfl (OpQ.assign rfl) ?_
     refine Wl.nil ?_
     refine PX.perm (.swap _ _ _) ?_
     exact PX.loop hK1 (i, bb, bn, (runL (cutL xs rt) (ws.drop (i + 1)))) ⟨by omega, runL_len _ _⟩ (show i < i + 1 by omega) ⟨rfl, rfl, rfl, rfl, rfl, trivial⟩ (.keep (row_eq (by rw [run_step (by omega)]; exact congrArg _ (evL_any hLk (by simp) hvb (fun _ => rfl)))) (.keep rfl (.keep rfl .nil)))
    ·
     have h36 := of_decide_eq_false h36
     obtain rfl : m = 0 := by omega
     refine CT.exit ?_
     refine PX.then_x ?_
     refine PX.then_x ?_
     refine PX.block_x ?_
     refine PX.then_n ?_
     refine CT.seq ?_
     refine CT.region ?_
     refine Wl.q rfl rfl (OpQ.move rfl) ?_
     refine Wl.q rfl rfl (OpQ.move rfl) ?_
     refine Wl.q rfl rfl (OpQ.len D_un22 rfl) ?_
     refine Wl.q rfl rfl (OpQ.sub rfl rfl (by omega)) ?_
     refine Wl.q rfl rfl (OpQ.index1 D_un49 D_sz4 rfl rfl (by omega) rfl) ?_
     refine Wl.q rfl rfl (OpQ.loadRow D_sc4 rfl .here (gt_get ⟨by omega, by rw [runL_len]; omega⟩)) ?_
     refine Wl.q rfl rfl (OpQ.assign rfl) ?_
     refine Wl.nil ?_
     refine PX.then_n ?_
     refine CT.ret ?_
     refine PX.ret1 rfl rfl (fun w' hH => ?_)
     exact ⟨ret_b (by rw [holdsB, hk, hv, List.drop_zero, gt, show (((cutL xs rt).length : Int) - 1).toNat = (cutL xs rt).length - 1 by omega, cut_same hok hrt]; simp), hH.ext⟩

end Go.Proofs.Ytlmbcdjmdgbmjaa

