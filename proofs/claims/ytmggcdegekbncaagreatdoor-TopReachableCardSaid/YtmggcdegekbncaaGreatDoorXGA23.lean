/-
  What functions of the program compute, each by its walk. Conditions: those that each theorem names.
-/
import Derived.Test.YtmggcdegekbncaaGreatDoorEng1
import Derived.Test.YtmggcdegekbncaaGreatDoorXGA21
import Derived.Test.YtmggcdegekbncaaGreatDoorXF
set_option linter.unusedSimpArgs false
namespace Go.Proofs.YtmggcdegekbncaaGreatDoor
open Go Go.Eng Go.Am Go.Ex
open Go.Tp (zi)
open Go.Tl (mayL Wd okW okB bo)
open Go.Ex.simp (simpL)
open Go.Ex.dv (dvL dvC)
open Go.Ex.hasU (hasAny hasAll)
open Go.Ex.wf (wfL)
open Go.Ex.szE (szL)
open Go.Ex.dpE (dpL)
open Go.Ex.cmpE (cmpL)
open Go.Ex.fmtE (fmtK fmtR)
theorem K23_un46 : Tryz.prog.underlying 46 = some (.slice 3) := by kernel_rfl
theorem K23_sz3 : sizeB Tryz.prog 3 = some 1 := by kernel_rfl
theorem K23_sc3 : scalarB Tryz.prog 3 = some true := by kernel_rfl
set_option maxRecDepth 100000 in
/-- semigroup/trans.Valid -/
theorem tvalid_spec (w : World) (n : Nat) (a : Option Addr) (c : Nat) (l : List Nat) (hr : Stays [] w (fun w => Rd w a (l.map zn))) (hl : VldN l) (hn : l.length = n) : Calls Tryz.prog 39 #[.slice a n c] w (fun e w' => e = .returned (.bool true) ∧ Ext [] w w') := by
 have ha : a.isSome = true := hr.now.isSome (j := 0) (by rw [List.length_map]; exact hl.pos)
 have hp := hl.pos
 have hq := hl.le
 refine enter (args := [.slice a n c]) [] 28 Tryz.func39 rfl rfl rfl ?_
 refine CT.seq (CT.region ?_)
 refine Wl.q rfl rfl (OpQ.assign rfl) ?_
 refine Wl.nil (PX.then_n (CT.seq (CT.seq (CT.region ?_))))
 refine Wl.q rfl rfl (OpQ.move rfl) ?_
 refine Wl.q rfl rfl (OpQ.len K23_un46 rfl) ?_
 refine Wl.q rfl rfl (OpQ.lss rfl rfl) ?_
 refine Wl.know 7 (v' := .bool false) rfl (congrArg Value.bool (decide_eq_false (by omega))) ?_
 refine Wl.q rfl rfl (OpQ.move rfl) ?_
 refine Wl.q rfl rfl (OpQ.move rfl) ?_
 refine Wl.q rfl rfl (OpQ.len K23_un46 rfl) ?_
 refine Wl.q rfl rfl (OpQ.gtr rfl rfl) ?_
 refine Wl.know 11 (v' := .bool false) rfl (congrArg Value.bool (decide_eq_false (by omega))) ?_
 refine Wl.q rfl rfl (OpQ.pickF rfl rfl) ?_
 refine Wl.nil (PX.then_n ?_)
 refine CT.condF rfl ?_
 refine CT.skip (PX.then_n (CT.seq (CT.seq (CT.region ?_))))
 refine Wl.q rfl rfl (OpQ.move rfl) ?_
 refine Wl.q rfl rfl (OpQ.len K23_un46 rfl) ?_
 refine Wl.q rfl rfl (OpQ.move rfl) ?_
 refine Wl.nil (PX.then_n (CT.block ?_))
 refine CT.loop (ι := Nat) (fun i => i ≤ n) (fun i => [(0, .slice a n c), (13, .slice a n c), (14, .int .i64 ((n : Nat) : Int)), (15, .int .i64 ((i : Nat) : Int))]) (fun _ => []) (fun i => n - i) 0 (Nat.zero_le _) ⟨rfl, rfl, rfl, rfl, trivial⟩ (HSub.refl _) (fun i hi K0 hK0 => ?_)
 refine CT.seq (CT.region ?_)
 refine Wl.q rfl rfl (OpQ.lss rfl rfl) ?_
 refine Wl.nil (PX.then_n (CT.seq ?_))
 refine CT.cond rfl (fun h16 => ?_) (fun h16 => ?_)
 ·
  have h16 := of_decide_eq_true h16
  have hil : i < l.length := by omega
  have hx := hl.at hil
  refine CT.skip (PX.then_n (CT.seq (CT.block (CT.seq (CT.region ?_)))))
  refine Wl.q rfl rfl (OpQ.index1 K23_un46 K23_sz3 rfl rfl (by omega) ha) ?_
  refine Wl.q rfl rfl (OpQ.loadG K23_sc3 rfl (fun w hH => hH.use hr) (getMap zn l 0 (j := i) (by omega))) ?_
  refine Wl.q rfl rfl (OpQ.assign rfl) ?_
  refine Wl.nil (PX.then_n (CT.seq (CT.region ?_)))
  refine Wl.q rfl rfl (OpQ.move rfl) ?_
  refine Wl.q rfl rfl (OpQ.lss rfl rfl) ?_
  refine Wl.know 20 (v' := .bool false) rfl (congrArg Value.bool (decide_eq_false (by omega))) ?_
  refine Wl.q rfl rfl (OpQ.move rfl) ?_
  refine Wl.q rfl rfl (OpQ.move rfl) ?_
  refine Wl.q rfl rfl (OpQ.move rfl) ?_
  refine Wl.q rfl rfl (OpQ.len K23_un46 rfl) ?_
  refine Wl.q rfl rfl (OpQ.geq rfl rfl) ?_
  refine Wl.know 25 (v' := .bool false) rfl (congrArg Value.bool (decide_eq_false (by omega))) ?_
  refine Wl.q rfl rfl (OpQ.pickF rfl rfl) ?_
  refine Wl.nil (PX.then_n ?_)
  refine CT.condF rfl ?_
  refine CT.skip (PX.block_n (PX.then_n (CT.region ?_)))
  refine Wl.q rfl rfl (OpQ.add rfl rfl (by omega)) ?_
  refine Wl.q rfl rfl (OpQ.move rfl) ?_
  refine Wl.nil ?_
  exact PX.loop hK0 (i + 1) (by omega) (by first | omega | (dsimp only; omega)) ⟨rfl, rfl, rfl, rfl, trivial⟩ (HSub.refl _)
 ·
  have h16 := of_decide_eq_false h16
  refine CT.exit (PX.then_x (PX.then_x (PX.block_x (PX.then_n (CT.seq (CT.region ?_))))))
  refine Wl.q rfl rfl (OpQ.assign rfl) ?_
  refine Wl.nil (PX.then_n (CT.ret ?_))
  refine PX.ret1 rfl rfl (fun w' hH => ?_)
  exact ⟨rfl, hH.ext⟩

theorem K23_in3 : (Tryz.prog.info? 3).map (fun i => (i.zero, i.size, i.bytes)) = some (some (.int .i64 0), 1, 8) := by kernel_rfl
set_option maxRecDepth 100000 in
/-- semigroup/trans.Identity -/
theorem tident_spec (w : World) (n : Nat) (hn : 1 ≤ n ∧ n ≤ 32) : Calls Tryz.prog 40 #[.int .i64 ((n : Nat) : Int)] w (fun e w' => ∃ b : Nat, True ∧ e = .returned (.slice (some ⟨b, 0, none⟩) n n) ∧ Post [] [.row 3 1 (.slice (some ⟨b, 0, none⟩) n n) n ((tabN n fun q => q).map zn)] w w') := by
 refine enter (args := [.int .i64 ((n : Nat) : Int)]) [] 24 Tryz.func40 rfl rfl rfl ?_
 refine CT.seq (CT.region ?_)
 refine Wl.q rfl rfl (OpQ.assign rfl) ?_
 refine Wl.nil (PX.then_n (CT.seq (CT.seq (CT.region ?_))))
 refine Wl.q rfl rfl (OpQ.move rfl) ?_
 refine Wl.q rfl rfl (OpQ.lss rfl rfl) ?_
 refine Wl.know 6 (v' := .bool false) rfl (congrArg Value.bool (decide_eq_false (by omega))) ?_
 refine Wl.q rfl rfl (OpQ.move rfl) ?_
 refine Wl.q rfl rfl (OpQ.move rfl) ?_
 refine Wl.q rfl rfl (OpQ.gtr rfl rfl) ?_
 refine Wl.know 9 (v' := .bool false) rfl (congrArg Value.bool (decide_eq_false (by omega))) ?_
 refine Wl.q rfl rfl (OpQ.pickF rfl rfl) ?_
 refine Wl.nil (PX.then_n ?_)
 refine CT.condF rfl ?_
 refine CT.skip (PX.then_n (CT.seq (CT.region ?_)))
 refine Wl.q rfl rfl (OpQ.move rfl) ?_
 refine Wl.g rfl rfl (OpG.make1 K23_un46 K23_in3 rfl rfl rfl rfl (by omega) (by omega)) ?_
 rintro b12 _
 refine Wl.q rfl rfl (OpQ.assign rfl) ?_
 refine Wl.nil (PX.then_n (CT.seq (CT.seq (CT.region ?_))))
 refine Wl.q rfl rfl (OpQ.move rfl) ?_
 refine Wl.q rfl rfl (OpQ.len K23_un46 rfl) ?_
 refine Wl.q rfl rfl (OpQ.move rfl) ?_
 refine Wl.nil (PX.then_n (CT.block ?_))
 refine CT.loop (ι := Nat) (fun k => k ≤ n) (fun k => [(3, .slice (some ⟨b12, 0, none⟩) n n), (13, .slice (some ⟨b12, 0, none⟩) n n), (14, .int .i64 ((n : Nat) : Int)), (15, .int .i64 ((k : Nat) : Int))]) (fun k => [.row 3 1 (.slice (some ⟨b12, 0, none⟩) n n) n ((tabN n (tabP (fun q => q) k)).map zn)]) (fun k => n - k) 0 (Nat.zero_le _) ⟨rfl, rfl, rfl, rfl, trivial⟩ (.keep (row_eq ((congrArg (List.map zn) (tabP_0 n _).symm).trans (tabN_zero n).symm)) (HSub.refl _)) (fun k hk K0 hK0 => ?_)
 refine CT.seq (CT.region ?_)
 refine Wl.q rfl rfl (OpQ.lss rfl rfl) ?_
 refine Wl.nil (PX.then_n (CT.seq ?_))
 refine CT.cond rfl (fun h16 => ?_) (fun h16 => ?_)
 ·
  have h16 := of_decide_eq_true h16
  refine CT.skip (PX.then_n (CT.seq (CT.block (CT.seq (CT.region ?_)))))
  refine Wl.q rfl rfl (OpQ.move rfl) ?_
  refine Wl.q rfl rfl (OpQ.assign rfl) ?_
  refine Wl.nil (PX.then_n (CT.region ?_))
  refine Wl.q rfl rfl (OpQ.move rfl) ?_
  refine Wl.q rfl rfl (OpQ.move rfl) ?_
  refine Wl.q rfl rfl (OpQ.move rfl) ?_
  refine Wl.q rfl rfl (OpQ.index1 K23_un46 K23_sz3 rfl rfl (by omega) rfl) ?_
  refine Wl.g rfl rfl (OpG.storeRow K23_sz3 rfl rfl rfl .here (by rw [List.length_map, tabN_len]; show k < n; omega)) ?_
  rintro _ _
  refine Wl.nil (PX.block_n (PX.then_n (CT.region ?_)))
  refine Wl.q rfl rfl (OpQ.add rfl rfl (by omega)) ?_
  refine Wl.q rfl rfl (OpQ.move rfl) ?_
  refine Wl.nil ?_
  exact PX.loop hK0 (k + 1) (by omega) (by first | omega | (dsimp only; omega)) ⟨rfl, rfl, rfl, rfl, trivial⟩ (.keep (row_eq tabP_s.symm) (HSub.refl _))
 ·
  have h16 := of_decide_eq_false h16
  obtain rfl : k = n := by omega
  refine CT.exit (PX.then_x (PX.then_x (PX.block_x (PX.then_n (CT.seq (CT.region ?_))))))
  refine Wl.q rfl rfl (OpQ.move rfl) ?_
  refine Wl.q rfl rfl (OpQ.assign rfl) ?_
  refine Wl.nil (PX.then_n (CT.ret ?_))
  refine PX.ret1 rfl rfl (fun w' hH => ?_)
  exact ⟨b12, trivial, rfl, (hH.take (.cons .here .nil)).post.conv (.keep (row_eq (by rw [tabP_n])) (HSub.refl _))⟩

theorem K23_go39 : isGo Tryz.prog 39 = true := by kernel_rfl
set_option maxRecDepth 100000 in
/-- semigroup/trans.Compose -/
theorem tcomp_spec (w : World) (n : Nat) (a : Option Addr) (c : Nat) (l : List Nat) (hr : Stays [] w (fun w => Rd w a (l.map zn))) (hl : VldN l) (hn : l.length = n) (a2 : Option Addr) (c2 : Nat) (m : List Nat) (hr2 : Stays [] w (fun w => Rd w a2 (m.map zn))) (hm : VldN m) (hn2 : m.length = n) : Calls Tryz.prog 41 #[.slice a n c, .slice a2 n c2] w (fun e w' => ∃ b : Nat, True ∧ e = .returned (.slice (some ⟨b, 0, none⟩) n n) ∧ Post [] [.row 3 1 (.slice (some ⟨b, 0, none⟩) n n) n ((tabN n (fun q => m.getD (l.getD q 0) 0)).map zn)] w w') := by
 have ha : a.isSome = true := hr.now.isSome (j := 0) (by rw [List.length_map]; exact hl.pos)
 have ha2 : a2.isSome = true := hr2.now.isSome (j := 0) (by rw [List.length_map]; exact hm.pos)
 have hp := hl.pos
 have hq := hl.le
 refine enter (args := [.slice a n c, .slice a2 n c2]) [] 42 Tryz.func41 rfl rfl rfl ?_
 refine CT.seq (CT.region ?_)
 refine Wl.q rfl rfl (OpQ.assign rfl) ?_
 refine Wl.nil (PX.then_n (CT.seq (CT.seq (CT.region ?_))))
 refine Wl.q rfl rfl (OpQ.move rfl) ?_
 refine Wl.q rfl rfl (OpQ.len K23_un46 rfl) ?_
 refine Wl.q rfl rfl (OpQ.move rfl) ?_
 refine Wl.q rfl rfl (OpQ.len K23_un46 rfl) ?_
 refine Wl.q rfl rfl (OpQ.neq rfl rfl) ?_
 refine Wl.know 12 (v' := .bool false) rfl (congrArg Value.bool (by simp)) ?_
 refine Wl.q rfl rfl (OpQ.move rfl) ?_
 refine Wl.q rfl rfl (OpQ.move rfl) ?_
 refine Wl.g rfl rfl (OpG.callV K23_go39 rfl (fun w hH => tvalid_spec w n a c l (hH.stays0 hr) hl hn)) ?_
 rintro _ _
 refine Wl.know 15 (v' := .bool true) rfl (congrArg Value.bool rfl) ?_
 refine Wl.q rfl rfl (OpQ.not rfl) ?_
 refine Wl.know 16 (v' := .bool false) rfl (congrArg Value.bool rfl) ?_
 refine Wl.q rfl rfl (OpQ.pickF rfl rfl) ?_
 refine Wl.q rfl rfl (OpQ.move rfl) ?_
 refine Wl.q rfl rfl (OpQ.move rfl) ?_
 refine Wl.g rfl rfl (OpG.callV K23_go39 rfl (fun w hH => tvalid_spec w n a2 c2 m (hH.stays0 hr2) hm hn2)) ?_
 rintro _ _
 refine Wl.know 20 (v' := .bool true) rfl (congrArg Value.bool rfl) ?_
 refine Wl.q rfl rfl (OpQ.not rfl) ?_
 refine Wl.know 21 (v' := .bool false) rfl (congrArg Value.bool rfl) ?_
 refine Wl.q rfl rfl (OpQ.pickF rfl rfl) ?_
 refine Wl.nil (PX.then_n ?_)
 refine CT.condF rfl ?_
 refine CT.skip (PX.then_n (CT.seq (CT.region ?_)))
 refine Wl.q rfl rfl (OpQ.move rfl) ?_
 refine Wl.q rfl rfl (OpQ.len K23_un46 rfl) ?_
 refine Wl.g rfl rfl (OpG.make1 K23_un46 K23_in3 rfl rfl rfl rfl (by omega) (by omega)) ?_
 rintro b25 _
 refine Wl.q rfl rfl (OpQ.assign rfl) ?_
 refine Wl.nil (PX.then_n (CT.seq (CT.seq (CT.region ?_))))
 refine Wl.q rfl rfl (OpQ.move rfl) ?_
 refine Wl.q rfl rfl (OpQ.len K23_un46 rfl) ?_
 refine Wl.q rfl rfl (OpQ.move rfl) ?_
 refine Wl.nil (PX.then_n (CT.block ?_))
 refine CT.loop (ι := Nat) (fun k => k ≤ n) (fun k => [(1, .slice a2 n c2), (5, .slice (some ⟨b25, 0, none⟩) n n), (26, .slice a n c), (27, .int .i64 ((n : Nat) : Int)), (28, .int .i64 ((k : Nat) : Int))]) (fun k => [.row 3 1 (.slice (some ⟨b25, 0, none⟩) n n) n ((tabN n (tabP (fun q => m.getD (l.getD q 0) 0) k)).map zn)]) (fun k => n - k) 0 (Nat.zero_le _) ⟨rfl, rfl, rfl, rfl, rfl, trivial⟩ (.keep (row_eq ((congrArg (List.map zn) (tabP_0 n _).symm).trans (tabN_zero n).symm)) (HSub.refl _)) (fun k hk K0 hK0 => ?_)
 refine CT.seq (CT.region ?_)
 refine Wl.q rfl rfl (OpQ.lss rfl rfl) ?_
 refine Wl.nil (PX.then_n (CT.seq ?_))
 refine CT.cond rfl (fun h29 => ?_) (fun h29 => ?_)
 ·
  have h29 := of_decide_eq_true h29
  have hil : k < l.length := by omega
  have hx := hl.at hil
  refine CT.skip (PX.then_n (CT.seq (CT.block (CT.seq (CT.region ?_)))))
  refine Wl.q rfl rfl (OpQ.move rfl) ?_
  refine Wl.q rfl rfl (OpQ.index1 K23_un46 K23_sz3 rfl rfl (by omega) ha) ?_
  refine Wl.q rfl rfl (OpQ.loadG K23_sc3 rfl (fun w hH => hH.use hr) (getMap zn l 0 (j := k) (by omega))) ?_
  refine Wl.q rfl rfl (OpQ.assign rfl) ?_
  refine Wl.q rfl rfl (OpQ.assign rfl) ?_
  refine Wl.nil (PX.then_n (CT.region ?_))
  refine Wl.q rfl rfl (OpQ.move rfl) ?_
  refine Wl.q rfl rfl (OpQ.move rfl) ?_
  refine Wl.q rfl rfl (OpQ.move rfl) ?_
  refine Wl.q rfl rfl (OpQ.move rfl) ?_
  refine Wl.q rfl rfl (OpQ.index1 K23_un46 K23_sz3 rfl rfl (by omega) ha2) ?_
  refine Wl.q rfl rfl (OpQ.loadG K23_sc3 rfl (fun w hH => hH.use hr2) (getMap zn m 0 (j := (l.getD k 0)) (by omega))) ?_
  refine Wl.q rfl rfl (OpQ.index1 K23_un46 K23_sz3 rfl rfl (by omega) rfl) ?_
  refine Wl.g rfl rfl (OpG.storeRow K23_sz3 rfl rfl rfl .here (by rw [List.length_map, tabN_len]; show k < n; omega)) ?_
  rintro _ _
  refine Wl.nil (PX.block_n (PX.then_n (CT.region ?_)))
  refine Wl.q rfl rfl (OpQ.add rfl rfl (by omega)) ?_
  refine Wl.q rfl rfl (OpQ.move rfl) ?_
  refine Wl.nil ?_
  exact PX.loop hK0 (k + 1) (by omega) (by first | omega | (dsimp only; omega)) ⟨rfl, rfl, rfl, rfl, rfl, trivial⟩ (.keep (row_eq tabP_s.symm) (HSub.refl _))
 ·
  have h29 := of_decide_eq_false h29
  obtain rfl : k = n := by omega
  refine CT.exit (PX.then_x (PX.then_x (PX.block_x (PX.then_n (CT.seq (CT.region ?_))))))
  refine Wl.q rfl rfl (OpQ.move rfl) ?_
  refine Wl.q rfl rfl (OpQ.assign rfl) ?_
  refine Wl.nil (PX.then_n (CT.ret ?_))
  refine PX.ret1 rfl rfl (fun w' hH => ?_)
  exact ⟨b25, trivial, rfl, (hH.take (.cons .here .nil)).post.conv (.keep (row_eq (by rw [tabP_n])) (HSub.refl _))⟩

theorem K23_sz46 : sizeB Tryz.prog 46 = some 1 := by kernel_rfl
theorem K23_ag25 : isAggB Tryz.prog 25 = some true := by kernel_rfl
theorem K23_sz25 : sizeB Tryz.prog 25 = some 4 := by kernel_rfl
theorem K23_go11 : isGo Tryz.prog 11 = true := by kernel_rfl
theorem K23_fa25_2 : fieldB Tryz.prog 25 2 = some 2 := by kernel_rfl
theorem K23_sc22 : scalarB Tryz.prog 22 = some true := by kernel_rfl
theorem K23_un22 : Tryz.prog.underlying 22 = some (.slice 4) := by kernel_rfl
theorem K23_fa25_0 : fieldB Tryz.prog 25 0 = some 0 := by kernel_rfl
theorem K23_un23 : Tryz.prog.underlying 23 = some (.slice 46) := by kernel_rfl
theorem K23_in46 : (Tryz.prog.info? 46).map (fun i => (i.zero, i.size, i.bytes)) = some (some (.slice none 0 0), 1, 24) := by kernel_rfl
theorem K23_fa25_3 : fieldB Tryz.prog 25 3 = some 3 := by kernel_rfl
theorem K23_sc23 : scalarB Tryz.prog 23 = some true := by kernel_rfl
theorem K23_sc46 : scalarB Tryz.prog 46 = some true := by kernel_rfl
theorem K23_mixed : Tryz.prog.follows .mixedOrders = true := by kernel_rfl
set_option maxRecDepth 100000 in
/-- semigroup/trans.OfDFA -/
theorem ofdfa_spec (w : World) (D : Dv) (hD : Stays [] w (dvm D)) (hv : D.Ok) (hn : D.fin.length ≤ 32) : Calls Tryz.prog 19 #[dvv D] w (fun e w' => ∃ z : Nat × List Rw × List Nat, GenR D.da D.da.L z.2.1 ∧ e = .returned (.tuple #[.slice (some ⟨z.1, 0, none⟩) D.da.L D.da.L, .int .i64 0]) ∧ Post [] [.row 46 1 (.slice (some ⟨z.1, 0, none⟩) D.da.L D.da.L) D.da.L (z.2.1.map rv), .frag z.2.2 (rws z.2.1)] w w') := by
 have hns : 0 < D.rs.length → D.na.isSome = true := fun h => hD.now.2.1.isSome (j := 0) (by rw [List.length_map]; exact h)
 have hrs : ∀ q, q < D.rs.length → 0 < (D.rs.getD q rw0).xs.length → (D.rs.getD q rw0).a.isSome = true := fun q hq h => (hD.now.2.2 _ (getDm hq)).isSome (j := 0) (by rw [List.length_map]; exact h)
 have hlen := hv.len
 have hmay := hv.may
 have hLe := hv.L_eq
 refine enter (args := [dvv D]) [] 54 Tryz.func19 rfl rfl rfl ?_
 refine CT.seq (CT.region ?_)
 refine Wl.g rfl rfl (OpG.box (size := 4) rfl rfl rfl) ?_
 rintro b1 _
 refine Wl.q rfl rfl (OpQ.assign rfl) ?_
 refine Wl.q rfl rfl (OpQ.assign rfl) ?_
 refine Wl.nil (PX.then_n (CT.seq (CT.seq (CT.region ?_))))
 refine Wl.q rfl rfl (OpQ.loadV (b := b1) K23_ag25 K23_sz25 rfl (by repeat (first | exact Has.here | apply Has.there)) (by rfl)) ?_
 refine Wl.know 9 (v' := dvv D) rfl rfl ?_
 refine Wl.g rfl rfl (OpG.callV K23_go11 rfl (fun w hH => dvalid_spec w D (hH.stays0 hD))) ?_
 rintro _ _
 refine Wl.know 10 (v' := .int .i64 0) rfl (congrArg (Value.int .i64) (hv.zero (by omega))) ?_
 refine Wl.q rfl rfl (OpQ.assign rfl) ?_
 refine Wl.nil (PX.then_n (CT.seq (CT.region ?_)))
 refine Wl.q rfl rfl (OpQ.move rfl) ?_
 refine Wl.q rfl rfl (OpQ.neq rfl rfl) ?_
 refine Wl.know 12 (v' := .bool false) rfl (congrArg Value.bool rfl) ?_
 refine Wl.nil (PX.then_n ?_)
 refine CT.condF rfl ?_
 refine CT.skip (PX.then_n (CT.seq (CT.seq (CT.region ?_))))
 refine Wl.q rfl rfl (OpQ.fieldAddr K23_fa25_2 rfl) ?_
 refine Wl.q rfl rfl (OpQ.loadF (b := b1) K23_sc22 rfl (by repeat (first | exact Has.here | apply Has.there)) (by rfl)) ?_
 refine Wl.q rfl rfl (OpQ.len K23_un22 rfl) ?_
 refine Wl.q rfl rfl (OpQ.gtr rfl rfl) ?_
 refine Wl.know 17 (v' := .bool false) rfl (congrArg Value.bool (decide_eq_false (by omega))) ?_
 refine Wl.nil (PX.then_n ?_)
 refine CT.condF rfl ?_
 refine CT.skip (PX.then_n (CT.seq (CT.region ?_)))
 refine Wl.q rfl rfl (OpQ.fieldAddr K23_fa25_0 rfl) ?_
 refine Wl.q rfl rfl (OpQ.loadF (b := b1) K23_sc3 rfl (by repeat (first | exact Has.here | apply Has.there)) (by rfl)) ?_
 refine Wl.know 19 (v' := .int .i64 ((D.da.L : Nat) : Int)) rfl (congrArg (Value.int .i64) hv.L_eq) ?_
 refine Wl.g rfl rfl (OpG.make1 K23_un23 K23_in46 rfl rfl rfl rfl (by omega) (by omega)) ?_
 rintro b20 _
 refine Wl.q rfl rfl (OpQ.assign rfl) ?_
 refine Wl.nil (PX.then_n (CT.seq (CT.seq (CT.region ?_))))
 refine Wl.q rfl rfl (OpQ.move rfl) ?_
 refine Wl.q rfl rfl (OpQ.len K23_un23 rfl) ?_
 refine Wl.q rfl rfl (OpQ.move rfl) ?_
 refine Wl.nil (PX.then_n (CT.block ?_))
 refine CT.as (fun _ h => h.bind0 (p := rws []) (rws_nil)) ?_
 refine CT.as (fun _ h => h.take (.cons (.there .here) (.cons .here (.cons .here .nil)))) ?_
 refine CT.loop (ι := Nat × List Rw × List Nat) (fun (x, rs, gs) => x ≤ D.da.L ∧ GenR D.da x rs) (fun (x, rs, gs) => [(1, .pointer (some ⟨b1, 0, none⟩)), (5, .slice (some ⟨b20, 0, none⟩) D.da.L D.da.L), (21, .slice (some ⟨b20, 0, none⟩) D.da.L D.da.L), (22, .int .i64 ((D.da.L : Nat) : Int)), (23, .int .i64 ((x : Nat) : Int))]) (fun (x, rs, gs) => [.row 46 1 (.slice (some ⟨b20, 0, none⟩) D.da.L D.da.L) D.da.L (((rs) ++ List.replicate (D.da.L - (x)) rw0).map rv), .frag gs (rws rs), .row 25 4 (vb b1) 1 (dvc D)]) (fun (x, rs, gs) => D.da.L - x) (0, [], []) ⟨Nat.zero_le _, rfl⟩ ⟨rfl, rfl, rfl, rfl, rfl, trivial⟩ (.keep (row_eq (by simp [rw0])) (HSub.refl _)) (fun ⟨x, rs, gs⟩ ⟨hx, hg⟩ K0 hK0 => ?_)
 dsimp only
 refine CT.seq (CT.region ?_)
 refine Wl.q rfl rfl (OpQ.lss rfl rfl) ?_
 refine Wl.nil (PX.then_n (CT.seq ?_))
 refine CT.cond rfl (fun h24 => ?_) (fun h24 => ?_)
 ·
  have h24 := of_decide_eq_true h24
  have hxl : x < D.da.L := by omega
  refine CT.skip (PX.then_n (CT.seq (CT.block (CT.seq (CT.region ?_)))))
  refine Wl.q rfl rfl (OpQ.move rfl) ?_
  refine Wl.q rfl rfl (OpQ.assign rfl) ?_
  refine Wl.nil (PX.then_n (CT.seq (CT.region ?_)))
  refine Wl.q rfl rfl (OpQ.move rfl) ?_
  refine Wl.q rfl rfl (OpQ.move rfl) ?_
  refine Wl.q rfl rfl (OpQ.fieldAddr K23_fa25_3 rfl) ?_
  refine Wl.q rfl rfl (OpQ.loadF (b := b1) K23_sc23 rfl (by repeat (first | exact Has.here | apply Has.there)) (by rfl)) ?_
  refine Wl.q rfl rfl (OpQ.len K23_un23 rfl) ?_
  refine Wl.know 30 (v' := .int .i64 ((D.da.n : Nat) : Int)) rfl (congrArg (Value.int .i64) (by rw [hlen]; rfl)) ?_
  refine Wl.g rfl rfl (OpG.make1 K23_un46 K23_in3 rfl rfl rfl rfl (by have h : D.da.n = D.fin.length := rfl; omega) (by have h : D.da.n = D.fin.length := rfl; omega)) ?_
  rintro b31 _
  refine Wl.q rfl rfl (OpQ.index1 K23_un23 K23_sz46 rfl rfl (by omega) rfl) ?_
  refine Wl.g rfl rfl (OpG.storeRow (a := some ⟨b20, 0, none⟩) K23_sz46 rfl rfl rfl (by repeat (first | exact Upd.here | apply Upd.there)) (by rw [List.length_map, List.length_append, List.length_replicate, hg.len]; show x < _; omega)) ?_
  rintro _ _
  refine Wl.nil (PX.then_n (CT.seq (CT.region ?_)))
  refine Wl.q rfl rfl (OpQ.fieldAddr K23_fa25_3 rfl) ?_
  refine Wl.q rfl rfl (OpQ.loadF (b := b1) K23_sc23 rfl (by repeat (first | exact Has.here | apply Has.there)) (by rfl)) ?_
  refine Wl.q rfl rfl (OpQ.len K23_un23 rfl) ?_
  refine Wl.know 35 (v' := .int .i64 ((D.da.n : Nat) : Int)) rfl (congrArg (Value.int .i64) (by rw [hlen]; rfl)) ?_
  refine Wl.q rfl rfl (OpQ.move rfl) ?_
  refine Wl.nil (PX.then_n (CT.block ?_))
  have hrv : rv (⟨some ⟨b31, 0, none⟩, D.da.n, (gnN D.da x).map fun n : Nat => (n : Int)⟩ : Rw) = .slice (some ⟨b31, 0, none⟩) D.da.n D.da.n := by
   show Value.slice _ ((gnN D.da x).map _).length _ = _
   rw [List.length_map, gnN_len]
  refine CT.loop (ι := Nat) (fun q => q ≤ D.da.n) (fun q => [(1, .pointer (some ⟨b1, 0, none⟩)), (5, .slice (some ⟨b20, 0, none⟩) D.da.L D.da.L), (21, .slice (some ⟨b20, 0, none⟩) D.da.L D.da.L), (22, .int .i64 ((D.da.L : Nat) : Int)), (23, .int .i64 ((x : Nat) : Int)), (6, .int .i64 ((x : Nat) : Int)), (34, .slice D.na D.rs.length D.nc), (35, .int .i64 ((D.da.n : Nat) : Int)), (36, .int .i64 ((q : Nat) : Int))]) (fun q => [.row 3 1 (.slice (some ⟨b31, 0, none⟩) D.da.n D.da.n) D.da.n ((tabN D.da.n (tabP (fun q => D.da.to q x) q)).map zn), .row 46 1 (.slice (some ⟨b20, 0, none⟩) D.da.L D.da.L) D.da.L (((rs ++ [(⟨some ⟨b31, 0, none⟩, D.da.n, (gnN D.da x).map fun n : Nat => (n : Int)⟩ : Rw)]) ++ List.replicate (D.da.L - (x + 1)) rw0).map rv), .frag gs (rws rs), .row 25 4 (vb b1) 1 (dvc D)]) (fun q => D.da.n - q) 0 (Nat.zero_le _) ⟨rfl, rfl, rfl, rfl, rfl, rfl, rfl, rfl, rfl, trivial⟩ (.keep (row_eq ((congrArg (List.map zn) (tabP_0 D.da.n _).symm).trans (tabN_zero D.da.n).symm)) (.keep (row_eq (by rw [← fill_set hg.len hxl, hrv]; rfl)) (HSub.refl _))) (fun q hq K1 hK1 => ?_)
  refine CT.seq (CT.region ?_)
  refine Wl.q rfl rfl (OpQ.lss rfl rfl) ?_
  refine Wl.nil (PX.then_n (CT.seq ?_))
  refine CT.cond rfl (fun h37 => ?_) (fun h37 => ?_)
  ·
   have h37 := of_decide_eq_true h37
   have hql : q < D.fin.length := by have h : D.da.n = D.fin.length := rfl; omega
   have hrwl := (hv.row q hql).1
   refine CT.skip (PX.then_n (CT.seq (CT.block (CT.seq (CT.region ?_)))))
   refine Wl.q rfl rfl (OpQ.move rfl) ?_
   refine Wl.q rfl rfl (OpQ.index1 K23_un23 K23_sz46 rfl rfl (by omega) (hns (by omega))) ?_
   refine Wl.q rfl rfl (OpQ.loadG K23_sc46 rfl (fun w hH => (hH.use hD).2.1) (getMap rv D.rs rw0 (j := q) (by omega))) ?_
   refine Wl.q rfl rfl (OpQ.assign rfl) ?_
   refine Wl.q rfl rfl (OpQ.assign rfl) ?_
   refine Wl.nil (PX.then_n ?_)
   refine CT.draw 10 K23_mixed ?_
   refine RA.q 0 (by kernel_rfl) rfl rfl rfl (.refl _) (OpQ.move rfl) ?_
   refine RA.q 1 (by kernel_rfl) rfl rfl rfl (.refl _) (OpQ.move rfl) ?_
   refine RA.q 2 (by kernel_rfl) rfl rfl rfl (.refl _) (OpQ.index1 K23_un23 K23_sz46 rfl rfl (by omega) rfl) ?_
   refine RA.q 3 (by kernel_rfl) rfl rfl rfl (.refl _) (OpQ.loadRow K23_sc46 rfl (.there .here) (gen_at hg.len)) ?_
   refine RA.know 44 (v' := .slice (some ⟨b31, 0, none⟩) D.da.n D.da.n) rfl hrv ?_
   refine RA.q 4 (by kernel_rfl) rfl rfl rfl (.refl _) (OpQ.move rfl) ?_
   refine RA.q 5 (by kernel_rfl) rfl rfl rfl (.refl _) (OpQ.move rfl) ?_
   refine RA.q 6 (by kernel_rfl) rfl rfl rfl (.refl _) (OpQ.move rfl) ?_
   refine RA.q 7 (by kernel_rfl) rfl rfl rfl (.refl _) (OpQ.index1 K23_un46 K23_sz3 rfl rfl (by omega) (hrs q (by omega) (by omega))) ?_
   refine RA.q 8 (by kernel_rfl) rfl rfl rfl (.refl _) (OpQ.loadG K23_sc3 rfl (fun w hH => (hH.use hD).2.2 _ (getDm (show q < D.rs.length by omega))) (getMap zz (D.rs.getD q rw0).xs 0 (j := x) (by omega))) ?_
   refine RA.know 49 (v' := .int .i64 ((D.da.to q x : Nat) : Int)) rfl (congrArg (Value.int .i64) (hv.to hql (by omega))) ?_
   refine RA.q 9 (by kernel_rfl) rfl rfl rfl (.refl _) (OpQ.index1 K23_un46 K23_sz3 rfl rfl (by omega) rfl) ?_
   refine RA.tail ?_
   refine RT.f 10 (by kernel_rfl) rfl rfl rfl (OpG.storeRow (a := some ⟨b31, 0, none⟩) K23_sz3 rfl rfl rfl (by repeat (first | exact Upd.here | apply Upd.there)) (by rw [List.length_map, tabN_len]; show q < _; omega)) ?_
   rintro _ _
   refine RT.done (by kernel_rfl) ?_
   refine PX.block_n (PX.then_n (CT.region ?_))
   refine Wl.q rfl rfl (OpQ.add rfl rfl (by omega)) ?_
   refine Wl.q rfl rfl (OpQ.move rfl) ?_
   refine Wl.nil ?_
   exact PX.loop hK1 (q + 1) (by omega) (by first | omega | (dsimp only; omega)) ⟨rfl, rfl, rfl, rfl, rfl, rfl, rfl, rfl, rfl, trivial⟩ (.keep (row_eq tabP_s.symm) (HSub.refl _))
  ·
   have h37 := of_decide_eq_false h37
   obtain rfl : q = D.da.n := by omega
   refine CT.exit (PX.then_x (PX.then_x (PX.block_x (PX.block_n (PX.then_n (CT.region ?_))))))
   refine Wl.q rfl rfl (OpQ.add rfl rfl (by omega)) ?_
   refine Wl.q rfl rfl (OpQ.move rfl) ?_
   refine Wl.nil ?_
   refine PX.as (fun _ h => h.bind (L := [.frag gs (rws rs), .row 3 1 (.slice (some ⟨b31, 0, none⟩) D.da.n D.da.n) D.da.n ((tabN D.da.n (tabP (fun q => D.da.to q x) D.da.n)).map zn)]) (p := rws (rs ++ [(⟨some ⟨b31, 0, none⟩, D.da.n, (gnN D.da x).map fun n : Nat => (n : Int)⟩ : Rw)])) (.cons (.there (.there .here)) (.cons .here .nil)) (fun w hk => rws_snoc (r := (⟨some ⟨b31, 0, none⟩, D.da.n, (gnN D.da x).map fun n : Nat => (n : Int)⟩ : Rw)) ((hk _ List.mem_cons_self).2 w (fun _ _ => rfl)) (by show Rd w _ (((gnN D.da x).map fun n : Nat => (n : Int)).map zz); rw [zz_zn, gnN, ← tabP_n]; exact Rd.of_owns (hk _ (List.mem_cons_of_mem _ List.mem_cons_self))))) ?_
   refine PX.as (fun _ h => h.take (.cons (.there .here) (.cons .here (.cons .here .nil)))) ?_
   exact PX.loop hK0 (x + 1, rs ++ [(⟨some ⟨b31, 0, none⟩, D.da.n, (gnN D.da x).map fun n : Nat => (n : Int)⟩ : Rw)], _) ⟨by omega, hg.snoc rfl⟩ (show D.da.L - (x + 1) < D.da.L - x by omega) ⟨rfl, rfl, rfl, rfl, rfl, trivial⟩ (HSub.refl _)
 ·
  have h24 := of_decide_eq_false h24
  obtain rfl : x = D.da.L := by omega
  refine CT.exit (PX.then_x (PX.then_x (PX.block_x (PX.then_n (CT.seq (CT.region ?_))))))
  refine Wl.q rfl rfl (OpQ.move rfl) ?_
  refine Wl.q rfl rfl (OpQ.assign rfl) ?_
  refine Wl.q rfl rfl (OpQ.assign rfl) ?_
  refine Wl.nil (PX.then_n (CT.ret ?_))
  refine PX.ret2 rfl rfl rfl (fun w' hH => ?_)
  exact ⟨(b20, rs, gs), hg, rfl, (hH.take (.cons .here (.cons .here .nil))).post.conv (.keep (row_eq (by rw [Nat.sub_self, List.replicate_zero, List.append_nil])) (HSub.refl _))⟩

theorem K23_un9 : Tryz.prog.underlying 9 = some .string := by kernel_rfl
theorem K23_go30 : isGo Tryz.prog 30 = true := by kernel_rfl
theorem K23_go40 : isGo Tryz.prog 40 = true := by kernel_rfl
theorem K23_go41 : isGo Tryz.prog 41 = true := by kernel_rfl
set_option maxRecDepth 100000 in
/-- semigroup/trans.OfWord -/
theorem ofword_spec (w : World) (d : Da) (hd : d.Ok) (hn : d.n ≤ 32) (hL : 1 ≤ d.L ∧ d.L ≤ 6) (b : Nat) (rs : List Rw) (hG : GenR d d.L rs) (hr : Stays [] w (fun w => Rd w (some ⟨b, 0, none⟩) (rs.map rv))) (hrw : Stays [] w (rws rs)) (ws : Wd) (hws : okW ws ((d.L : Nat) : Int) = true) (hnw : ws.length ≤ 9223372036854775807) : Calls Tryz.prog 21 #[.slice (some ⟨b, 0, none⟩) d.L d.L, sv ws] w (fun e w' => ∃ i : Option Addr × Nat, True ∧ e = .returned (.slice i.1 d.n i.2) ∧ Post [] [.row 3 1 (.slice i.1 d.n i.2) d.n ((trN d (wl ws)).map zn)] w w') := by
 have hasc : ∀ j, j < ws.length → (ws.getD j 0).toNat < 128 := fun j hj => by have := okW_byte hws hj; omega
 have hin : InW d.L (wl ws) := by have h := wl_in hws; rwa [Int.toNat_natCast] at h
 have h0L : 0 < d.L := hL.1
 refine enter (args := [.slice (some ⟨b, 0, none⟩) d.L d.L, sv ws]) [] 57 Tryz.func21 rfl rfl rfl ?_
 refine CT.seq (CT.region ?_)
 refine Wl.q rfl rfl (OpQ.assign rfl) ?_
 refine Wl.nil (PX.then_n (CT.seq (CT.seq (CT.region ?_))))
 refine Wl.q rfl rfl (OpQ.move rfl) ?_
 refine Wl.q rfl rfl (OpQ.len K23_un23 rfl) ?_
 refine Wl.q rfl rfl (OpQ.eql rfl rfl) ?_
 refine Wl.know 12 (v' := .bool false) rfl (congrArg Value.bool (decide_eq_false (by omega))) ?_
 refine Wl.q rfl rfl (OpQ.move rfl) ?_
 refine Wl.q rfl rfl (OpQ.move rfl) ?_
 refine Wl.q rfl rfl (OpQ.move rfl) ?_
 refine Wl.q rfl rfl (OpQ.len K23_un23 rfl) ?_
 refine Wl.g rfl rfl (OpG.callV K23_go30 rfl (fun w hH => wvalid_spec w ws hnw ((d.L : Nat) : Int))) ?_
 rintro _ _
 refine Wl.know 17 (v' := .bool true) rfl (congrArg Value.bool hws) ?_
 refine Wl.q rfl rfl (OpQ.not rfl) ?_
 refine Wl.know 18 (v' := .bool false) rfl (congrArg Value.bool rfl) ?_
 refine Wl.q rfl rfl (OpQ.pickF rfl rfl) ?_
 refine Wl.nil (PX.then_n ?_)
 refine CT.condF rfl ?_
 refine CT.skip (PX.then_n (CT.seq (CT.seq (CT.region ?_))))
 refine Wl.q rfl rfl (OpQ.move rfl) ?_
 refine Wl.q rfl rfl (OpQ.len K23_un23 rfl) ?_
 refine Wl.q rfl rfl (OpQ.move rfl) ?_
 refine Wl.nil (PX.then_n (CT.block ?_))
 refine CT.loop (ι := Nat) (fun i => i ≤ d.L) (fun i => [(0, .slice (some ⟨b, 0, none⟩) d.L d.L), (1, sv ws), (20, .slice (some ⟨b, 0, none⟩) d.L d.L), (21, .int .i64 ((d.L : Nat) : Int)), (22, .int .i64 ((i : Nat) : Int))]) (fun _ => []) (fun i => d.L - i) 0 (Nat.zero_le _) ⟨rfl, rfl, rfl, rfl, rfl, trivial⟩ (HSub.refl _) (fun i hi K0 hK0 => ?_)
 refine CT.seq (CT.region ?_)
 refine Wl.q rfl rfl (OpQ.lss rfl rfl) ?_
 refine Wl.nil (PX.then_n (CT.seq ?_))
 refine CT.cond rfl (fun h23 => ?_) (fun h23 => ?_)
 ·
  have h23 := of_decide_eq_true h23
  have hil : i < d.L := by omega
  refine CT.skip (PX.then_n (CT.seq (CT.block (CT.seq (CT.region ?_)))))
  refine Wl.q rfl rfl (OpQ.index1 K23_un23 K23_sz46 rfl rfl (by omega) rfl) ?_
  refine Wl.q rfl rfl (OpQ.loadG K23_sc46 rfl (fun w hH => hH.use hr) (getMap rv rs rw0 (j := i) (by rw [hG.len]; omega))) ?_
  refine Wl.know 25 (v' := .slice (rs.getD (i) rw0).a d.n (rs.getD (i) rw0).cp) rfl (by show Value.slice _ _ _ = _; rw [hG.xl hil]) ?_
  refine Wl.q rfl rfl (OpQ.assign rfl) ?_
  refine Wl.nil (PX.then_n (CT.seq (CT.region ?_)))
  refine Wl.q rfl rfl (OpQ.move rfl) ?_
  refine Wl.q rfl rfl (OpQ.len K23_un46 rfl) ?_
  refine Wl.q rfl rfl (OpQ.move rfl) ?_
  refine Wl.q rfl rfl (OpQ.index1 K23_un23 K23_sz46 rfl rfl (by omega) rfl) ?_
  refine Wl.q rfl rfl (OpQ.loadG K23_sc46 rfl (fun w hH => hH.use hr) (getMap rv rs rw0 (j := 0) (by rw [hG.len]; omega))) ?_
  refine Wl.know 30 (v' := .slice (rs.getD (0) rw0).a d.n (rs.getD (0) rw0).cp) rfl (by show Value.slice _ _ _ = _; rw [hG.xl h0L]) ?_
  refine Wl.q rfl rfl (OpQ.len K23_un46 rfl) ?_
  refine Wl.q rfl rfl (OpQ.neq rfl rfl) ?_
  refine Wl.know 32 (v' := .bool false) rfl (congrArg Value.bool (by simp)) ?_
  refine Wl.q rfl rfl (OpQ.move rfl) ?_
  refine Wl.q rfl rfl (OpQ.move rfl) ?_
  refine Wl.g rfl rfl (OpG.callV K23_go39 rfl (fun w hH => tvalid_spec w d.n (rs.getD (i) rw0).a (rs.getD (i) rw0).cp (gnN d i) (fun w' he => gen_rd hG hil ((hH.stays0 hrw) w' he)) (gnN_ok hd hn hil) (gnN_len d i))) ?_
  rintro _ _
  refine Wl.know 35 (v' := .bool true) rfl (congrArg Value.bool rfl) ?_
  refine Wl.q rfl rfl (OpQ.not rfl) ?_
  refine Wl.know 36 (v' := .bool false) rfl (congrArg Value.bool rfl) ?_
  refine Wl.q rfl rfl (OpQ.pickF rfl rfl) ?_
  refine Wl.nil (PX.then_n ?_)
  refine CT.condF rfl ?_
  refine CT.skip (PX.block_n (PX.then_n (CT.region ?_)))
  refine Wl.q rfl rfl (OpQ.add rfl rfl (by omega)) ?_
  refine Wl.q rfl rfl (OpQ.move rfl) ?_
  refine Wl.nil ?_
  exact PX.loop hK0 (i + 1) (by omega) (by first | omega | (dsimp only; omega)) ⟨rfl, rfl, rfl, rfl, rfl, trivial⟩ (HSub.refl _)
 ·
  have h23 := of_decide_eq_false h23
  refine CT.exit (PX.then_x (PX.then_x (PX.block_x (PX.then_n (CT.seq (CT.region ?_))))))
  refine Wl.q rfl rfl (OpQ.move rfl) ?_
  refine Wl.q rfl rfl (OpQ.index1 K23_un23 K23_sz46 rfl rfl (by omega) rfl) ?_
  refine Wl.q rfl rfl (OpQ.loadG K23_sc46 rfl (fun w hH => hH.use hr) (getMap rv rs rw0 (j := 0) (by rw [hG.len]; omega))) ?_
  refine Wl.know 41 (v' := .slice (rs.getD (0) rw0).a d.n (rs.getD (0) rw0).cp) rfl (by show Value.slice _ _ _ = _; rw [hG.xl h0L]) ?_
  refine Wl.q rfl rfl (OpQ.len K23_un46 rfl) ?_
  refine Wl.g rfl rfl (OpG.callX K23_go40 rfl .nil (fun _ => (.cons .nil)) (fun w hH hp => tident_spec w d.n ⟨hd.pos_n, hn⟩)) ?_
  rintro b43 _
  refine Wl.q rfl rfl (OpQ.assign rfl) ?_
  refine Wl.nil (PX.then_n (CT.seq (CT.seq (CT.region ?_))))
  refine Wl.q rfl rfl (OpQ.move rfl) ?_
  refine Wl.g rfl rfl (OpG.rangeS K23_un9 rfl) ?_
  rintro b45 _
  refine Wl.nil (PX.then_n (CT.block ?_))
  refine CT.loop (ι := Nat × Option Addr × Nat) (fun (k, fa, fc) => k ≤ ws.length) (fun (k, fa, fc) => [(0, .slice (some ⟨b, 0, none⟩) d.L d.L), (7, .slice fa d.n fc), (45, .pointer (some ⟨b45, 0, none⟩))]) (fun (k, fa, fc) => [.blk b45 (itO ws k), .row 3 1 (.slice fa d.n fc) d.n ((trN d ((wl ws).take k)).map zn)]) (fun (k, fa, fc) => ws.length - k) (0, some ⟨b43, 0, none⟩, d.n) (Nat.zero_le _) ⟨rfl, rfl, rfl, trivial⟩ (.keep rfl (.keep (row_eq (by rw [List.take_zero]; rfl)) (HSub.refl _))) (fun ⟨k, fa, fc⟩ hk K1 hK1 => ?_)
  dsimp only
  dsimp only at hk
  refine CT.seq (CT.region ?_)
  refine Wl.g rfl rfl (OpG.nextS (b := b45) (k := k) (l := ws) rfl hk hasc (by repeat (first | exact Upd.here | apply Upd.there))) ?_
  rintro _ _
  refine Wl.q rfl rfl (OpQ.extractN rfl) ?_
  refine Wl.nil (PX.then_n (CT.seq ?_))
  refine CT.cond rfl (fun h47 => ?_) (fun h47 => ?_)
  ·
   have h47 := of_decide_eq_true h47
   refine CT.know 46 (v' := .tuple #[.bool true, .int .i64 ((k : Nat) : Int), .int .i32 (((ws.getD k 0).toNat : Nat) : Int)]) rfl (by simp only [nextV, if_pos h47]) ?_
   have hby := okW_byte hws h47
   have hXL : ((ws.getD k 0).toNat - 97) < d.L := by omega
   refine CT.skip (PX.then_n (CT.block (CT.seq (CT.region ?_))))
   refine Wl.q rfl rfl (OpQ.extract rfl rfl) ?_
   refine Wl.q rfl rfl (OpQ.assign rfl) ?_
   refine Wl.nil (PX.then_n (CT.region ?_))
   refine Wl.q rfl rfl (OpQ.move rfl) ?_
   refine Wl.q rfl rfl (OpQ.move rfl) ?_
   refine Wl.q rfl rfl (OpQ.move rfl) ?_
   refine Wl.q rfl rfl (OpQ.sub32 rfl rfl (by omega)) ?_
   refine Wl.know 52 (v' := .int .i32 ((((ws.getD k 0).toNat - 97) : Nat) : Int)) rfl (congrArg (Value.int .i32) (by omega)) ?_
   refine Wl.q rfl rfl (OpQ.indexK1 K23_un23 K23_sz46 rfl rfl (by omega) rfl) ?_
   refine Wl.q rfl rfl (OpQ.loadG K23_sc46 rfl (fun w hH => hH.use hr) (getMap rv rs rw0 (j := ((ws.getD k 0).toNat - 97)) (by rw [hG.len]; omega))) ?_
   refine Wl.know 54 (v' := .slice (rs.getD (((ws.getD k 0).toNat - 97)) rw0).a d.n (rs.getD (((ws.getD k 0).toNat - 97)) rw0).cp) rfl (by show Value.slice _ _ _ = _; rw [hG.xl hXL]) ?_
   refine Wl.g rfl rfl (OpG.callX K23_go41 rfl .nil (fun _ => (.cons .nil)) (fun w hH hp => tcomp_spec w d.n fa fc (trN d ((wl ws).take k)) (Stays.rd (hH.staysK0 (show Has _ (.row 3 1 (.slice fa d.n fc) d.n ((trN d ((wl ws).take k)).map zn)) from (by repeat (first | exact Has.here | apply Has.there))))) (trN_ok hd hn (hin.take k)) (trN_len d _) (rs.getD (((ws.getD k 0).toNat - 97)) rw0).a (rs.getD (((ws.getD k 0).toNat - 97)) rw0).cp (gnN d ((ws.getD k 0).toNat - 97)) (fun w' he => gen_rd hG hXL ((hH.stays0 hrw) w' he)) (gnN_ok hd hn hXL) (gnN_len d _))) ?_
   rintro b55 _
   refine Wl.q rfl rfl (OpQ.assign rfl) ?_
   refine Wl.nil (PX.block_n ?_)
   refine PX.as (fun _ h => h.take (.cons (.there .here) (.cons .here .nil))) ?_
   exact PX.loop hK1 (k + 1, some ⟨b55, 0, none⟩, d.n) (show k + 1 ≤ ws.length by omega) (show ws.length - (k + 1) < ws.length - k by omega) ⟨rfl, rfl, rfl, trivial⟩ (.keep (by rw [Nat.min_eq_left (by omega)]) (.keep (row_eq (by rw [wl_take h47, ← tr_comp hd (hin.take k)])) (HSub.refl _)))
  ·
   have h47 := of_decide_eq_false h47
   obtain rfl : k = ws.length := by omega
   refine CT.exit (PX.then_x (PX.then_x (PX.block_x (PX.then_n (CT.seq (CT.region ?_))))))
   refine Wl.q rfl rfl (OpQ.move rfl) ?_
   refine Wl.q rfl rfl (OpQ.assign rfl) ?_
   refine Wl.nil (PX.then_n (CT.ret ?_))
   refine PX.ret1 rfl rfl (fun w' hH => ?_)
   exact ⟨(fa, fc), trivial, rfl, (hH.take (.cons (.there .here) .nil)).post.conv (.keep (row_eq (by rw [List.take_of_length_le (by rw [wl_len]; exact Nat.le_refl _)])) (HSub.refl _))⟩

end Go.Proofs.YtmggcdegekbncaaGreatDoor

