/-
  What functions of the program compute, each by its walk. Conditions: those that each theorem names.
-/
import Derived.Test.YtlmbcdjmdgbmjaaMod
import Derived.Test.YtlmbcdjmdgbmjaaEng
import Derived.Test.YtlmbcdjmdgbmjaaXQ2
set_option linter.unusedSimpArgs false
namespace Go.Proofs.Ytlmbcdjmdgbmjaa
open Go Go.Eng Go.Tl
open Go.Rel (iv mapSet)

theorem C_un22 : Try.prog.underlying 22 = some (.slice 31) := by kernel_rfl
theorem C_sz31 : sizeB Try.prog 31 = some 4 := by kernel_rfl
theorem C_un49 : Try.prog.underlying 49 = some (.slice 4) := by kernel_rfl
theorem C_in4 : (Try.prog.info? 4).map (fun i => (i.zero, i.size, i.bytes)) = some (some (.bool false), 1, 1) := by kernel_rfl
theorem C_sz4 : sizeB Try.prog 4 = some 1 := by kernel_rfl
theorem C_sc4 : scalarB Try.prog 4 = some true := by kernel_rfl
theorem C_fa31_0 : fieldB Try.prog 31 0 = some 0 := by kernel_rfl
theorem C_sc3 : scalarB Try.prog 3 = some true := by kernel_rfl
theorem C_go53 : isGo Try.prog 53 = true := by kernel_rfl
theorem C_in97 : (Try.prog.info? 97).map (fun i => (i.zero, i.size, i.bytes)) = some (some (.agg #[.bool false, .bool false, .bool false, .bool false]), 4, 4) := by kernel_rfl
theorem C_sz97 : sizeB Try.prog 97 = some 4 := by kernel_rfl
theorem C_fa97_1 : fieldB Try.prog 97 1 = some 1 := by kernel_rfl
theorem C_fa31_2 : fieldB Try.prog 31 2 = some 2 := by kernel_rfl
theorem C_fa97_2 : fieldB Try.prog 97 2 = some 2 := by kernel_rfl
theorem C_fa31_3 : fieldB Try.prog 31 3 = some 3 := by kernel_rfl
theorem C_un25 : Try.prog.underlying 25 = some (.slice 3) := by kernel_rfl
theorem C_in3 : (Try.prog.info? 3).map (fun i => (i.zero, i.size, i.bytes)) = some (some (.int .i64 0), 1, 8) := by kernel_rfl
theorem C_ag31 : isAggB Try.prog 31 = some true := by kernel_rfl
theorem C_in31 : (Try.prog.info? 31).map (fun i => (i.zero, i.size, i.bytes)) = some (some (.agg #[.int .i64 0, .int .i64 0, .int .i64 0, .int .i64 0]), 4, 32) := by kernel_rfl
theorem C_sz3 : sizeB Try.prog 3 = some 1 := by kernel_rfl
set_option maxRecDepth 100000 in
/-- semigroup/temporal.cut -/
theorem cut_spec (w : World) (a : Option Addr) (cp : Nat) (xs : List Tm) (hr : Rd w a (xs.flatMap tv)) (hn : xs.length ≤ 200000) (hcp : xs.length ≤ cp) (root : Nat) (hroot : root < xs.length) (hok : okL xs 6 = true) : Calls Try.prog 32 #[.slice a xs.length cp, .int .i64 (root : Int)] w (fun e w' => New 31 4 w w' e (cutL xs root).length ((cutL xs root).flatMap tv)) := by
 have sm : 0 < xs.length → a.isSome = true := fun h => hr.isSome (j := 0) (by rw [flat_len tv_len]; omega)
 refine enter (args := [.slice a xs.length cp, .int .i64 (root : Int)]) [] 101 Try.func32 rfl rfl rfl ?_
 refine CT.seq ?_
 refine CT.region ?_
 refine Wl.q rfl rfl (OpQ.assign rfl) ?_
 refine Wl.nil ?_
 refine PX.then_n ?_
 refine CT.seq ?_
 refine CT.region ?_
 refine Wl.q rfl rfl (OpQ.move rfl) ?_
 refine Wl.q rfl rfl (OpQ.add rfl rfl (by omega)) ?_
 refine Wl.g rfl rfl (OpG.make1 C_un49 C_in4 rfl rfl rfl (show (root : Int) + 1 = ((root + 1 : Nat) : Int) by omega) (by omega) (by omega)) ?_
 rintro b15 _
 refine Wl.q rfl rfl (OpQ.assign rfl) ?_
 refine Wl.nil ?_
 refine PX.then_n ?_
 refine CT.seq ?_
 refine CT.region ?_
 refine Wl.q rfl rfl (OpQ.move rfl) ?_
 refine Wl.q rfl rfl (OpQ.move rfl) ?_
 refine Wl.q rfl rfl (OpQ.index1 C_un49 C_sz4 rfl rfl (by omega) rfl) ?_
 refine Wl.g rfl rfl (OpG.storeRow C_sz4 rfl rfl rfl .here (by simp)) ?_
 rintro _ _
 refine Wl.nil ?_
 refine PX.then_n ?_
 refine CT.seq ?_
 refine CT.seq ?_
 refine CT.region ?_
 refine Wl.q rfl rfl (OpQ.move rfl) ?_
 refine Wl.q rfl rfl (OpQ.assign rfl) ?_
 refine Wl.nil ?_
 refine PX.then_n ?_
 refine CT.block ?_
 refine CT.loop (ι := Nat × List Bool) (fun (m, r) => rcD xs m r = rcF xs root ∧ r.length = root + 1 ∧ m ≤ root + 1) (fun (m, r) => [(0, .slice a xs.length cp), (1, .int .i64 (root : Int)), (5, .slice (some ⟨b15, 0, none⟩) (root + 1) (root + 1)), (6, .int .i64 ((m : Int) - 1))]) (fun (m, r) => [.row 4 1 (.slice (some ⟨b15, 0, none⟩) (root + 1) (root + 1)) (root + 1) ((r).map bo)]) (fun (m, r) => m) (root + 1, (List.replicate (root + 1) false).set root true) ⟨rfl, by simp, by omega⟩ ⟨rfl, rfl, rfl, (lkV rfl (congrArg (Value.int .i64) (by omega))), trivial⟩ (.keep (row_eq (by simp)) .nil) (fun ⟨m, r⟩ ⟨hrun, hlen, hm⟩ K0 hK0 => ?_)
 dsimp only
 refine CT.seq ?_
 refine CT.seq ?_
 refine CT.region ?_
 refine Wl.q rfl rfl (OpQ.move rfl) ?_
 refine Wl.q rfl rfl (OpQ.geq rfl rfl) ?_
 refine Wl.nil ?_
 refine PX.then_n ?_
 refine CT.cond rfl (fun h21 => ?_) (fun h21 => ?_)
 ·
  have h21 := of_decide_eq_true h21
  obtain ⟨i, rfl⟩ : ∃ i, m = i + 1 := ⟨m - 1, by omega⟩
  refine CT.know 6 (v' := .int .i64 (i : Int)) rfl (congrArg (Value.int .i64) (by omega)) ?_
  have hokk := okL_get hok (j := i) (by omega)
  refine CT.skip ?_
  refine PX.then_n ?_
  refine CT.seq ?_
  refine CT.block ?_
  refine CT.seq ?_
  refine CT.seq ?_
  refine CT.region ?_
  refine Wl.q rfl rfl (OpQ.move rfl) ?_
  refine Wl.q rfl rfl (OpQ.move rfl) ?_
  refine Wl.q rfl rfl (OpQ.index1 C_un49 C_sz4 rfl rfl (by omega) rfl) ?_
  refine Wl.q rfl rfl (OpQ.loadRow C_sc4 rfl .here (getMap bo r false (j := i) (by omega))) ?_
  refine Wl.q rfl rfl (OpQ.not rfl) ?_
  refine Wl.nil ?_
  refine PX.then_n ?_
  refine CT.cond rfl (fun h28 => ?_) (fun h28 => ?_)
  ·
   have hri : r.getD i false = false := by simpa [-List.getD_eq_getElem?_getD] using h28
   refine CT.exit ?_
   refine PX.then_x ?_
   refine PX.block_x ?_
   refine PX.then_n ?_
   refine CT.region ?_
   refine Wl.q rfl rfl (OpQ.move rfl) ?_
   refine Wl.q rfl rfl (OpQ.sub rfl rfl (by omega)) ?_
   refine Wl.q rfl rfl (OpQ.assign rfl) ?_
   refine Wl.nil ?_
   exact PX.loop hK0 (i, stp xs i r) ⟨hrun, by rw [stp_len]; exact hlen, by omega⟩ (show i < i + 1 by omega) ⟨rfl, rfl, rfl, rfl, trivial⟩ (.keep (row_eq (by rw [stp_no hri])) .nil)
  ·
   have hri : r.getD i false = true := by simpa [-List.getD_eq_getElem?_getD] using h28
   refine CT.skip ?_
   refine PX.then_n ?_
   refine CT.seq ?_
   refine CT.region ?_
   refine Wl.q rfl rfl (OpQ.move rfl) ?_
   refine Wl.q rfl rfl (OpQ.move rfl) ?_
   refine Wl.q rfl rfl (OpQ.index C_un22 C_sz31 rfl rfl (by omega) (sm (by omega))) ?_
   refine Wl.q rfl rfl (OpQ.fieldAddr C_fa31_0 rfl) ?_
   refine Wl.q rfl rfl (OpQ.loadGF C_sc3 rfl (fun w hH => hH.rd0 hr rfl) (flat_cells tv_len xs t0 (j := i) (by omega) 0 _ rfl)) ?_
   refine Wl.g rfl rfl (OpG.callV C_go53 rfl (fun w hH => fieldsOf_spec w _)) ?_
   rintro _ _
   refine Wl.g rfl rfl (OpG.alloc (zs := [.bool false, .bool false, .bool false, .bool false]) C_in97 rfl rfl) ?_
   rintro b7 _
   refine Wl.g rfl rfl (OpG.storeV (b := b7) C_sz97 rfl rfl rfl rfl (by repeat (first | exact Upd.here | apply Upd.there))) ?_
   rintro _ _
   refine Wl.nil ?_
   refine PX.then_n ?_
   refine CT.seq ?_
   refine CT.seq ?_
   refine CT.region ?_
   refine Wl.q rfl rfl (OpQ.fieldAddr C_fa97_1 rfl) ?_
   refine Wl.q rfl rfl (OpQ.loadF (b := b7) C_sc4 rfl (by repeat (first | exact Has.here | apply Has.there)) (by rfl)) ?_
   refine Wl.nil ?_
   refine PX.then_n ?_
   refine CT.cond rfl (fun h36 => ?_) (fun h36 => ?_)
   ·
    have ha := ok_a hokk (fa_op h36)
    refine CT.region ?_
    refine Wl.q rfl rfl (OpQ.move rfl) ?_
    refine Wl.q rfl rfl (OpQ.move rfl) ?_
    refine Wl.q rfl rfl (OpQ.move rfl) ?_
    refine Wl.q rfl rfl (OpQ.index C_un22 C_sz31 rfl rfl (by omega) (sm (by omega))) ?_
    refine Wl.q rfl rfl (OpQ.fieldAddr C_fa31_2 rfl) ?_
    refine Wl.q rfl rfl (OpQ.loadGF C_sc3 rfl (fun w hH => hH.rd0 hr rfl) (flat_cells tv_len xs t0 (j := i) (by omega) 2 _ rfl)) ?_
    refine Wl.q rfl rfl (OpQ.index1 C_un49 C_sz4 rfl rfl ⟨ha.1, by have := ha.2; omega⟩ rfl) ?_
    refine Wl.g rfl rfl (OpG.storeRow C_sz4 rfl rfl rfl (.there .here) (by simp [-List.getD_eq_getElem?_getD]; omega)) ?_
    rintro _ _
    refine Wl.nil ?_
    refine PX.then_n ?_
    refine CT.seq ?_
    refine CT.region ?_
    refine Wl.q rfl rfl (OpQ.fieldAddr C_fa97_2 rfl) ?_
    refine Wl.q rfl rfl (OpQ.loadF (b := b7) C_sc4 rfl (by repeat (first | exact Has.here | apply Has.there)) (by rfl)) ?_
    refine Wl.nil ?_
    refine PX.then_n ?_
    refine CT.cond rfl (fun h45 => ?_) (fun h45 => ?_)
    ·
     have hb := ok_b hokk (fb_op h45)
     refine CT.region ?_
     refine Wl.q rfl rfl (OpQ.move rfl) ?_
     refine Wl.q rfl rfl (OpQ.move rfl) ?_
     refine Wl.q rfl rfl (OpQ.move rfl) ?_
     refine Wl.q rfl rfl (OpQ.index C_un22 C_sz31 rfl rfl (by omega) (sm (by omega))) ?_
     refine Wl.q rfl rfl (OpQ.fieldAddr C_fa31_3 rfl) ?_
     refine Wl.q rfl rfl (OpQ.loadGF C_sc3 rfl (fun w hH => hH.rd0 hr rfl) (flat_cells tv_len xs t0 (j := i) (by omega) 3 _ rfl)) ?_
     refine Wl.q rfl rfl (OpQ.index1 C_un49 C_sz4 rfl rfl ⟨hb.1, by have := hb.2; omega⟩ rfl) ?_
     refine Wl.g rfl rfl (OpG.storeRow C_sz4 rfl rfl rfl (.there .here) (by simp [-List.getD_eq_getElem?_getD]; omega)) ?_
     rintro _ _
     refine Wl.nil ?_
     refine PX.block_n ?_
     refine PX.then_n ?_
     refine CT.region ?_
     refine Wl.q rfl rfl (OpQ.move rfl) ?_
     refine Wl.q rfl rfl (OpQ.sub rfl rfl (by omega)) ?_
     refine Wl.q rfl rfl (OpQ.assign rfl) ?_
     refine Wl.nil ?_
     exact PX.loop hK0 (i, stp xs i r) ⟨hrun, by rw [stp_len]; exact hlen, by omega⟩ (show i < i + 1 by omega) ⟨rfl, rfl, rfl, rfl, trivial⟩ (.drop (.keep (row_eq (by rw [stp_yes hri h36 h45]; simp)) .nil))
    ·
     refine CT.skip ?_
     refine PX.block_n ?_
     refine PX.then_n ?_
     refine CT.region ?_
     refine Wl.q rfl rfl (OpQ.move rfl) ?_
     refine Wl.q rfl rfl (OpQ.sub rfl rfl (by omega)) ?_
     refine Wl.q rfl rfl (OpQ.assign rfl) ?_
     refine Wl.nil ?_
     exact PX.loop hK0 (i, stp xs i r) ⟨hrun, by rw [stp_len]; exact hlen, by omega⟩ (show i < i + 1 by omega) ⟨rfl, rfl, rfl, rfl, trivial⟩ (.drop (.keep (row_eq (by rw [stp_yes hri h36 h45]; simp)) .nil))
   ·
    refine CT.skip ?_
    refine PX.then_n ?_
    refine CT.seq ?_
    refine CT.region ?_
    refine Wl.q rfl rfl (OpQ.fieldAddr C_fa97_2 rfl) ?_
    refine Wl.q rfl rfl (OpQ.loadF (b := b7) C_sc4 rfl (by repeat (first | exact Has.here | apply Has.there)) (by rfl)) ?_
    refine Wl.nil ?_
    refine PX.then_n ?_
    refine CT.cond rfl (fun h45 => ?_) (fun h45 => ?_)
    ·
     have hb := ok_b hokk (fb_op h45)
     refine CT.region ?_
     refine Wl.q rfl rfl (OpQ.move rfl) ?_
     refine Wl.q rfl rfl (OpQ.move rfl) ?_
     refine Wl.q rfl rfl (OpQ.move rfl) ?_
     refine Wl.q rfl rfl (OpQ.index C_un22 C_sz31 rfl rfl (by omega) (sm (by omega))) ?_
     refine Wl.q rfl rfl (OpQ.fieldAddr C_fa31_3 rfl) ?_
     refine Wl.q rfl rfl (OpQ.loadGF C_sc3 rfl (fun w hH => hH.rd0 hr rfl) (flat_cells tv_len xs t0 (j := i) (by omega) 3 _ rfl)) ?_
     refine Wl.q rfl rfl (OpQ.index1 C_un49 C_sz4 rfl rfl ⟨hb.1, by have := hb.2; omega⟩ rfl) ?_
     refine Wl.g rfl rfl (OpG.storeRow C_sz4 rfl rfl rfl (.there .here) (by simp [-List.getD_eq_getElem?_getD]; omega)) ?_
     rintro _ _
     refine Wl.nil ?_
     refine PX.block_n ?_
     refine PX.then_n ?_
     refine CT.region ?_
     refine Wl.q rfl rfl (OpQ.move rfl) ?_
     refine Wl.q rfl rfl (OpQ.sub rfl rfl (by omega)) ?_
     refine Wl.q rfl rfl (OpQ.assign rfl) ?_
     refine Wl.nil ?_
     exact PX.loop hK0 (i, stp xs i r) ⟨hrun, by rw [stp_len]; exact hlen, by omega⟩ (show i < i + 1 by omega) ⟨rfl, rfl, rfl, rfl, trivial⟩ (.drop (.keep (row_eq (by rw [stp_yes hri h36 h45]; simp)) .nil))
    ·
     refine CT.skip ?_
     refine PX.block_n ?_
     refine PX.then_n ?_
     refine CT.region ?_
     refine Wl.q rfl rfl (OpQ.move rfl) ?_
     refine Wl.q rfl rfl (OpQ.sub rfl rfl (by omega)) ?_
     refine Wl.q rfl rfl (OpQ.assign rfl) ?_
     refine Wl.nil ?_
     exact PX.loop hK0 (i, stp xs i r) ⟨hrun, by rw [stp_len]; exact hlen, by omega⟩ (show i < i + 1 by omega) ⟨rfl, rfl, rfl, rfl, trivial⟩ (.drop (.keep (row_eq (by rw [stp_yes hri h36 h45]; simp)) .nil))
 ·
  have h21 := of_decide_eq_false h21
  obtain rfl : m = 0 := by omega
  have hrr : r = rcF xs root := hrun
  subst hrr
  refine CT.exit ?_
  refine PX.then_x ?_
  refine PX.then_x ?_
  refine PX.block_x ?_
  refine PX.then_n ?_
  refine CT.seq ?_
  refine CT.region ?_
  refine Wl.q rfl rfl (OpQ.move rfl) ?_
  refine Wl.q rfl rfl (OpQ.add rfl rfl (by omega)) ?_
  refine Wl.g rfl rfl (OpG.make1 C_un25 C_in3 rfl rfl rfl (show (root : Int) + 1 = ((root + 1 : Nat) : Int) by omega) (by omega) (by omega)) ?_
  rintro b55 _
  refine Wl.q rfl rfl (OpQ.assign rfl) ?_
  refine Wl.nil ?_
  refine PX.then_n ?_
  refine CT.seq ?_
  refine CT.region ?_
  refine Wl.q rfl rfl (OpQ.assign rfl) ?_
  refine Wl.nil ?_
  refine PX.then_n ?_
  refine CT.seq ?_
  refine CT.seq ?_
  refine CT.region ?_
  refine Wl.q rfl rfl (OpQ.move rfl) ?_
  refine Wl.q rfl rfl (OpQ.move rfl) ?_
  refine Wl.q rfl rfl (OpQ.add rfl rfl (by omega)) ?_
  refine Wl.q rfl rfl (OpQ.sliceToN C_un22 C_sz31 rfl rfl (show (root : Int) + 1 = ((root + 1 : Nat) : Int) by omega) (by omega)) ?_
  refine Wl.q rfl rfl (OpQ.len C_un22 rfl) ?_
  refine Wl.q rfl rfl (OpQ.move rfl) ?_
  refine Wl.nil ?_
  refine PX.then_n ?_
  refine CT.block ?_
  refine CT.nilrow 31 4 ?_
  refine CT.loop (ι := Nat × Option Addr × Nat) (fun (k, a', c') => k ≤ root + 1) (fun (k, a', c') => [(5, .slice (some ⟨b15, 0, none⟩) (root + 1) (root + 1)), (8, .slice (some ⟨b55, 0, none⟩) (root + 1) (root + 1)), (9, .slice a' (cuS xs (rcF xs root) (root + 1) k).2.length c'), (59, .slice a (root + 1) cp), (60, .int .i64 ((root + 1 : Nat) : Int)), (61, .int .i64 (k : Int))]) (fun (k, a', c') => [.row 31 4 (.slice a' (cuS xs (rcF xs root) (root + 1) k).2.length c') (cuS xs (rcF xs root) (root + 1) k).2.length ((cuS xs (rcF xs root) (root + 1) k).2.flatMap tv), .row 3 1 (.slice (some ⟨b55, 0, none⟩) (root + 1) (root + 1)) (root + 1) (((cuS xs (rcF xs root) (root + 1) k).1).map iv), .row 4 1 (.slice (some ⟨b15, 0, none⟩) (root + 1) (root + 1)) (root + 1) ((rcF xs root).map bo)]) (fun (k, a', c') => root + 1 - k) (0, none, 0) (show 0 ≤ root + 1 by omega) ⟨rfl, rfl, rfl, rfl, rfl, rfl, trivial⟩ (.keep rfl (.keep (row_eq (by simp [cuS, iv])) (.keep rfl .nil))) (fun ⟨k, a', c'⟩ hk K1 hK1 => ?_)
  dsimp only
  have hRl := rcF_len xs root
  have hCl := cuS_len xs (rcF xs root) (root + 1) k
  have hCs := cuS_le xs (rcF xs root) (root + 1) k
  refine CT.seq ?_
  refine CT.region ?_
  refine Wl.q rfl rfl (OpQ.lss rfl rfl) ?_
  refine Wl.nil ?_
  refine PX.then_n ?_
  refine CT.seq ?_
  refine CT.cond rfl (fun h62 => ?_) (fun h62 => ?_)
  ·
   have h62 := of_decide_eq_true h62
   refine CT.skip ?_
   refine PX.then_n ?_
   refine CT.seq ?_
   refine CT.block ?_
   refine CT.seq ?_
   refine CT.region ?_
   refine Wl.q rfl rfl (OpQ.move rfl) ?_
   refine Wl.q rfl rfl (OpQ.index C_un22 C_sz31 rfl rfl (by omega) (sm (by omega))) ?_
   refine Wl.q rfl rfl (OpQ.loadAggG (cs := tv (xs.getD k t0)) C_ag31 C_sz31 rfl (fun w hH => hH.rd0 hr rfl) (flat_cells tv_len xs t0 (by omega))) ?_
   refine Wl.g rfl rfl (OpG.alloc (zs := [.int .i64 0, .int .i64 0, .int .i64 0, .int .i64 0]) C_in31 rfl rfl) ?_
   rintro b11 _
   refine Wl.q rfl rfl (OpQ.assign rfl) ?_
   refine Wl.g rfl rfl (OpG.storeV (b := b11) C_sz31 rfl rfl rfl rfl (by repeat (first | exact Upd.here | apply Upd.there))) ?_
   rintro _ _
   refine Wl.nil ?_
   refine PX.then_n ?_
   refine CT.seq ?_
   refine CT.seq ?_
   refine CT.region ?_
   refine Wl.q rfl rfl (OpQ.move rfl) ?_
   refine Wl.q rfl rfl (OpQ.move rfl) ?_
   refine Wl.q rfl rfl (OpQ.index1 C_un49 C_sz4 rfl rfl (by omega) rfl) ?_
   refine Wl.q rfl rfl (OpQ.loadRow C_sc4 rfl (.there (.there (.there .here))) (getMap bo (rcF xs root) false (j := k) (by omega))) ?_
   refine Wl.q rfl rfl (OpQ.not rfl) ?_
   refine Wl.nil ?_
   refine PX.then_n ?_
   refine CT.cond rfl (fun h70 => ?_) (fun h70 => ?_)
   ·
    have hri : (rcF xs root).getD k false = false := by simpa [-List.getD_eq_getElem?_getD] using h70
    refine CT.exit ?_
    refine PX.then_x ?_
    refine PX.block_x ?_
    refine PX.then_n ?_
    refine CT.region ?_
    refine Wl.q rfl rfl (OpQ.add rfl rfl (by omega)) ?_
    refine Wl.q rfl rfl (OpQ.move rfl) ?_
    refine Wl.nil ?_
    exact PX.loop hK1 (k + 1, a', c') (show k + 1 ≤ root + 1 by omega) (show root + 1 - (k + 1) < root + 1 - k by omega) ⟨rfl, rfl, (lkV rfl (by rw [cuS_miss hri])), rfl, rfl, rfl, trivial⟩ (.drop (.keep (by rw [cuS_miss hri]) (.keep (row_eq (by rw [cuS_miss hri])) (.keep rfl .nil))))
   ·
    have hri : (rcF xs root).getD k false = true := by simpa [-List.getD_eq_getElem?_getD] using h70
    have hokk := okL_get hok (j := k) (by omega)
    refine CT.skip ?_
    refine PX.then_n ?_
    refine CT.seq ?_
    refine CT.region ?_
    refine Wl.q rfl rfl (OpQ.fieldAddr C_fa31_0 rfl) ?_
    refine Wl.q rfl rfl (OpQ.loadF (b := b11) C_sc3 rfl (by repeat (first | exact Has.here | apply Has.there)) (by rfl)) ?_
    refine Wl.g rfl rfl (OpG.callV C_go53 rfl (fun w hH => fieldsOf_spec w _)) ?_
    rintro _ _
    refine Wl.g rfl rfl (OpG.alloc (zs := [.bool false, .bool false, .bool false, .bool false]) C_in97 rfl rfl) ?_
    rintro b12 _
    refine Wl.g rfl rfl (OpG.storeV (b := b12) C_sz97 rfl rfl rfl rfl (by repeat (first | exact Upd.here | apply Upd.there))) ?_
    rintro _ _
    refine Wl.nil ?_
    refine PX.then_n ?_
    refine CT.seq ?_
    refine CT.seq ?_
    refine CT.region ?_
    refine Wl.q rfl rfl (OpQ.fieldAddr C_fa97_1 rfl) ?_
    refine Wl.q rfl rfl (OpQ.loadF (b := b12) C_sc4 rfl (by repeat (first | exact Has.here | apply Has.there)) (by rfl)) ?_
    refine Wl.nil ?_
    refine PX.then_n ?_
    refine CT.cond rfl (fun h75 => ?_) (fun h75 => ?_)
    ·
     have ha := ok_a hokk (fa_op h75)
     refine CT.region ?_
     refine Wl.q rfl rfl (OpQ.move rfl) ?_
     refine Wl.q rfl rfl (OpQ.fieldAddr C_fa31_2 rfl) ?_
     refine Wl.q rfl rfl (OpQ.loadF (b := b11) C_sc3 rfl (by repeat (first | exact Has.here | apply Has.there)) (by rfl)) ?_
     refine Wl.q rfl rfl (OpQ.index1 C_un25 C_sz3 rfl rfl ⟨ha.1, by have := ha.2; omega⟩ rfl) ?_
     refine Wl.q rfl rfl (OpQ.loadRow C_sc3 rfl (.there (.there (.there .here))) (getMap iv _ 0 (j := (xs.getD k t0).a.toNat) (by have := ha.2; omega))) ?_
     refine Wl.q rfl rfl (OpQ.fieldAddr C_fa31_2 rfl) ?_
     refine Wl.g rfl rfl (OpG.storeRow (a := some ⟨b11, 0, none⟩) C_sz3 rfl rfl rfl (by repeat (first | exact Upd.here | apply Upd.there)) (by simp)) ?_
     rintro _ _
     refine Wl.nil ?_
     refine PX.then_n ?_
     refine CT.seq ?_
     refine CT.seq ?_
     refine CT.region ?_
     refine Wl.q rfl rfl (OpQ.fieldAddr C_fa97_2 rfl) ?_
     refine Wl.q rfl rfl (OpQ.loadF (b := b12) C_sc4 rfl (by repeat (first | exact Has.here | apply Has.there)) (by rfl)) ?_
     refine Wl.nil ?_
     refine PX.then_n ?_
     refine CT.cond rfl (fun h83 => ?_) (fun h83 => ?_)
     ·
      have hb := ok_b hokk (fb_op h83)
      refine CT.region ?_
      refine Wl.q rfl rfl (OpQ.move rfl) ?_
      refine Wl.q rfl rfl (OpQ.fieldAddr C_fa31_3 rfl) ?_
      refine Wl.q rfl rfl (OpQ.loadF (b := b11) C_sc3 rfl (by repeat (first | exact Has.here | apply Has.there)) (by rfl)) ?_
      refine Wl.q rfl rfl (OpQ.index1 C_un25 C_sz3 rfl rfl ⟨hb.1, by have := hb.2; omega⟩ rfl) ?_
      refine Wl.q rfl rfl (OpQ.loadRow C_sc3 rfl (.there (.there (.there .here))) (getMap iv _ 0 (j := (xs.getD k t0).b.toNat) (by have := hb.2; omega))) ?_
      refine Wl.q rfl rfl (OpQ.fieldAddr C_fa31_3 rfl) ?_
      refine Wl.g rfl rfl (OpG.storeRow (a := some ⟨b11, 0, none⟩) C_sz3 rfl rfl rfl (by repeat (first | exact Upd.here | apply Upd.there)) (by simp)) ?_
      rintro _ _
      refine Wl.nil ?_
      refine PX.then_n ?_
      refine CT.seq ?_
      refine CT.region ?_
      refine Wl.q rfl rfl (OpQ.move rfl) ?_
      refine Wl.q rfl rfl (OpQ.move rfl) ?_
      refine Wl.q rfl rfl (OpQ.move rfl) ?_
      refine Wl.q rfl rfl (OpQ.len C_un22 rfl) ?_
      refine Wl.q rfl rfl (OpQ.index1 C_un25 C_sz3 rfl rfl (by omega) rfl) ?_
      refine Wl.g rfl rfl (OpG.storeRow C_sz3 rfl rfl rfl (.there (.there (.there .here))) (by simp; omega)) ?_
      rintro _ _
      refine Wl.nil ?_
      refine PX.then_n ?_
      refine CT.region ?_
      refine Wl.q rfl rfl (OpQ.move rfl) ?_
      refine Wl.q rfl rfl (OpQ.loadV (b := b11) C_ag31 C_sz31 rfl (by repeat (first | exact Has.here | apply Has.there)) (by rfl)) ?_
      refine Wl.g rfl rfl (OpG.litS1 C_un22 C_in31 rfl (by decide) rfl) ?_
      rintro b97 _
      refine Wl.g rfl rfl (OpG.append C_un22 C_in31 (by rfl) (by decide) rfl rfl (p := 3) rfl (fun w hH => hH.rd .here) ⟨rfl, (by simp [Value.oneCell', iv]), (by omega), (by omega)⟩ (nm := (cuS xs (rcF xs root) (root + 1) k).2.length + 1) (by omega) (all := ((cuS xs (rcF xs root) (root + 1) k).2 ++ [rn (xs.getD k t0) (cuS xs (rcF xs root) (root + 1) k).1]).flatMap tv) (by simp [-List.getD_eq_getElem?_getD, rn, h75, h83, iv])) ?_
      rintro ⟨a98, c98⟩ h98
      refine Wl.q rfl rfl (OpQ.assign rfl) ?_
      refine Wl.nil ?_
      refine PX.block_n ?_
      refine PX.then_n ?_
      refine CT.region ?_
      refine Wl.q rfl rfl (OpQ.add rfl rfl (by omega)) ?_
      refine Wl.q rfl rfl (OpQ.move rfl) ?_
      refine Wl.nil ?_
      exact PX.loop hK1 (k + 1, a98, c98) (show k + 1 ≤ root + 1 by omega) (show root + 1 - (k + 1) < root + 1 - k by omega) ⟨rfl, rfl, (lkV rfl (by rw [cuS_hit hri]; simp)), rfl, rfl, rfl, trivial⟩ (.drop (.drop (.drop (.keep (by rw [cuS_hit hri]; simp) (.keep (row_eq (by rw [cuS_hit hri]; exact mapSet iv _ _ _)) (.keep rfl .nil))))))
     ·
      refine CT.skip ?_
      refine PX.then_n ?_
      refine CT.seq ?_
      refine CT.region ?_
      refine Wl.q rfl rfl (OpQ.move rfl) ?_
      refine Wl.q rfl rfl (OpQ.move rfl) ?_
      refine Wl.q rfl rfl (OpQ.move rfl) ?_
      refine Wl.q rfl rfl (OpQ.len C_un22 rfl) ?_
      refine Wl.q rfl rfl (OpQ.index1 C_un25 C_sz3 rfl rfl (by omega) rfl) ?_
      refine Wl.g rfl rfl (OpG.storeRow C_sz3 rfl rfl rfl (.there (.there (.there .here))) (by simp; omega)) ?_
      rintro _ _
      refine Wl.nil ?_
      refine PX.then_n ?_
      refine CT.region ?_
      refine Wl.q rfl rfl (OpQ.move rfl) ?_
      refine Wl.q rfl rfl (OpQ.loadV (b := b11) C_ag31 C_sz31 rfl (by repeat (first | exact Has.here | apply Has.there)) (by rfl)) ?_
      refine Wl.g rfl rfl (OpG.litS1 C_un22 C_in31 rfl (by decide) rfl) ?_
      rintro b97 _
      refine Wl.g rfl rfl (OpG.append C_un22 C_in31 (by rfl) (by decide) rfl rfl (p := 3) rfl (fun w hH => hH.rd .here) ⟨rfl, (by simp [Value.oneCell', iv]), (by omega), (by omega)⟩ (nm := (cuS xs (rcF xs root) (root + 1) k).2.length + 1) (by omega) (all := ((cuS xs (rcF xs root) (root + 1) k).2 ++ [rn (xs.getD k t0) (cuS xs (rcF xs root) (root + 1) k).1]).flatMap tv) (by simp [-List.getD_eq_getElem?_getD, rn, h75, h83, iv])) ?_
      rintro ⟨a98, c98⟩ h98
      refine Wl.q rfl rfl (OpQ.assign rfl) ?_
      refine Wl.nil ?_
      refine PX.block_n ?_
      refine PX.then_n ?_
      refine CT.region ?_
      refine Wl.q rfl rfl (OpQ.add rfl rfl (by omega)) ?_
      refine Wl.q rfl rfl (OpQ.move rfl) ?_
      refine Wl.nil ?_
      exact PX.loop hK1 (k + 1, a98, c98) (show k + 1 ≤ root + 1 by omega) (show root + 1 - (k + 1) < root + 1 - k by omega) ⟨rfl, rfl, (lkV rfl (by rw [cuS_hit hri]; simp)), rfl, rfl, rfl, trivial⟩ (.drop (.drop (.drop (.keep (by rw [cuS_hit hri]; simp) (.keep (row_eq (by rw [cuS_hit hri]; exact mapSet iv _ _ _)) (.keep rfl .nil))))))
    ·
     refine CT.skip ?_
     refine PX.then_n ?_
     refine CT.seq ?_
     refine CT.seq ?_
     refine CT.region ?_
     refine Wl.q rfl rfl (OpQ.fieldAddr C_fa97_2 rfl) ?_
     refine Wl.q rfl rfl (OpQ.loadF (b := b12) C_sc4 rfl (by repeat (first | exact Has.here | apply Has.there)) (by rfl)) ?_
     refine Wl.nil ?_
     refine PX.then_n ?_
     refine CT.cond rfl (fun h83 => ?_) (fun h83 => ?_)
     ·
      have hb := ok_b hokk (fb_op h83)
      refine CT.region ?_
      refine Wl.q rfl rfl (OpQ.move rfl) ?_
      refine Wl.q rfl rfl (OpQ.fieldAddr C_fa31_3 rfl) ?_
      refine Wl.q rfl rfl (OpQ.loadF (b := b11) C_sc3 rfl (by repeat (first | exact Has.here | apply Has.there)) (by rfl)) ?_
      refine Wl.q rfl rfl (OpQ.index1 C_un25 C_sz3 rfl rfl ⟨hb.1, by have := hb.2; omega⟩ rfl) ?_
      refine Wl.q rfl rfl (OpQ.loadRow C_sc3 rfl (.there (.there (.there .here))) (getMap iv _ 0 (j := (xs.getD k t0).b.toNat) (by have := hb.2; omega))) ?_
      refine Wl.q rfl rfl (OpQ.fieldAddr C_fa31_3 rfl) ?_
      refine Wl.g rfl rfl (OpG.storeRow (a := some ⟨b11, 0, none⟩) C_sz3 rfl rfl rfl (by repeat (first | exact Upd.here | apply Upd.there)) (by simp)) ?_
      rintro _ _
      refine Wl.nil ?_
      refine PX.then_n ?_
      refine CT.seq ?_
      refine CT.region ?_
      refine Wl.q rfl rfl (OpQ.move rfl) ?_
      refine Wl.q rfl rfl (OpQ.move rfl) ?_
      refine Wl.q rfl rfl (OpQ.move rfl) ?_
      refine Wl.q rfl rfl (OpQ.len C_un22 rfl) ?_
      refine Wl.q rfl rfl (OpQ.index1 C_un25 C_sz3 rfl rfl (by omega) rfl) ?_
      refine Wl.g rfl rfl (OpG.storeRow C_sz3 rfl rfl rfl (.there (.there (.there .here))) (by simp; omega)) ?_
      rintro _ _
      refine Wl.nil ?_
      refine PX.then_n ?_
      refine CT.region ?_
      refine Wl.q rfl rfl (OpQ.move rfl) ?_
      refine Wl.q rfl rfl (OpQ.loadV (b := b11) C_ag31 C_sz31 rfl (by repeat (first | exact Has.here | apply Has.there)) (by rfl)) ?_
      refine Wl.g rfl rfl (OpG.litS1 C_un22 C_in31 rfl (by decide) rfl) ?_
      rintro b97 _
      refine Wl.g rfl rfl (OpG.append C_un22 C_in31 (by rfl) (by decide) rfl rfl (p := 3) rfl (fun w hH => hH.rd .here) ⟨rfl, (by simp [Value.oneCell', iv]), (by omega), (by omega)⟩ (nm := (cuS xs (rcF xs root) (root + 1) k).2.length + 1) (by omega) (all := ((cuS xs (rcF xs root) (root + 1) k).2 ++ [rn (xs.getD k t0) (cuS xs (rcF xs root) (root + 1) k).1]).flatMap tv) (by simp [-List.getD_eq_getElem?_getD, rn, h75, h83, iv])) ?_
      rintro ⟨a98, c98⟩ h98
      refine Wl.q rfl rfl (OpQ.assign rfl) ?_
      refine Wl.nil ?_
      refine PX.block_n ?_
      refine PX.then_n ?_
      refine CT.region ?_
      refine Wl.q rfl rfl (OpQ.add rfl rfl (by omega)) ?_
      refine Wl.q rfl rfl (OpQ.move rfl) ?_
      refine Wl.nil ?_
      exact PX.loop hK1 (k + 1, a98, c98) (show k + 1 ≤ root + 1 by omega) (show root + 1 - (k + 1) < root + 1 - k by omega) ⟨rfl, rfl, (lkV rfl (by rw [cuS_hit hri]; simp)), rfl, rfl, rfl, trivial⟩ (.drop (.drop (.drop (.keep (by rw [cuS_hit hri]; simp) (.keep (row_eq (by rw [cuS_hit hri]; exact mapSet iv _ _ _)) (.keep rfl .nil))))))
     ·
      refine CT.skip ?_
      refine PX.then_n ?_
      refine CT.seq ?_
      refine CT.region ?_
      refine Wl.q rfl rfl (OpQ.move rfl) ?_
      refine Wl.q rfl rfl (OpQ.move rfl) ?_
      refine Wl.q rfl rfl (OpQ.move rfl) ?_
      refine Wl.q rfl rfl (OpQ.len C_un22 rfl) ?_
      refine Wl.q rfl rfl (OpQ.index1 C_un25 C_sz3 rfl rfl (by omega) rfl) ?_
      refine Wl.g rfl rfl (OpG.storeRow C_sz3 rfl rfl rfl (.there (.there (.there .here))) (by simp; omega)) ?_
      rintro _ _
      refine Wl.nil ?_
      refine PX.then_n ?_
      refine CT.region ?_
      refine Wl.q rfl rfl (OpQ.move rfl) ?_
      refine Wl.q rfl rfl (OpQ.loadV (b := b11) C_ag31 C_sz31 rfl (by repeat (first | exact Has.here | apply Has.there)) (by rfl)) ?_
      refine Wl.g rfl rfl (OpG.litS1 C_un22 C_in31 rfl (by decide) rfl) ?_
      rintro b97 _
      refine Wl.g rfl rfl (OpG.append C_un22 C_in31 (by rfl) (by decide) rfl rfl (p := 3) rfl (fun w hH => hH.rd .here) ⟨rfl, (by simp [Value.oneCell', iv]), (by omega), (by omega)⟩ (nm := (cuS xs (rcF xs root) (root + 1) k).2.length + 1) (by omega) (all := ((cuS xs (rcF xs root) (root + 1) k).2 ++ [rn (xs.getD k t0) (cuS xs (rcF xs root) (root + 1) k).1]).flatMap tv) (by simp [-List.getD_eq_getElem?_getD, rn, h75, h83, iv])) ?_
      rintro ⟨a98, c98⟩ h98
      refine Wl.q rfl rfl (OpQ.assign rfl) ?_
      refine Wl.nil ?_
      refine PX.block_n ?_
      refine PX.then_n ?_
      refine CT.region ?_
      refine Wl.q rfl rfl (OpQ.add rfl rfl (by omega)) ?_
      refine Wl.q rfl rfl (OpQ.move rfl) ?_
      refine Wl.nil ?_
      exact PX.loop hK1 (k + 1, a98, c98) (show k + 1 ≤ root + 1 by omega) (show root + 1 - (k + 1) < root + 1 - k by omega) ⟨rfl, rfl, (lkV rfl (by rw [cuS_hit hri]; simp)), rfl, rfl, rfl, trivial⟩ (.drop (.drop (.drop (.keep (by rw [cuS_hit hri]; simp) (.keep (row_eq (by rw [cuS_hit hri]; exact mapSet iv _ _ _)) (.keep rfl .nil))))))
  ·
   have h62 := of_decide_eq_false h62
   refine CT.exit ?_
   refine PX.then_x ?_
   refine PX.then_x ?_
   refine PX.block_x ?_
   refine PX.then_n ?_
   refine CT.seq ?_
   refine CT.region ?_
   refine Wl.q rfl rfl (OpQ.move rfl) ?_
   refine Wl.q rfl rfl (OpQ.assign rfl) ?_
   refine Wl.nil ?_
   refine PX.then_n ?_
   refine CT.ret ?_
   refine PX.ret1 rfl rfl (fun w' hH => ?_)
   obtain rfl : k = root + 1 := by omega
   exact hH.newRow .here

end Go.Proofs.Ytlmbcdjmdgbmjaa

