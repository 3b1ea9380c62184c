/-
  What functions of the program compute, each by its walk. Conditions: those that each theorem names.
-/
import Derived.Test.YtamolakhpcofhaaEng1
import Derived.Test.YtamolakhpcofhaaMod
import Derived.Test.YtamolakhpcofhaaXC1
set_option linter.unusedSimpArgs false
namespace Go.Proofs.Ytamolakhpcofhaa
open Go Go.Eng Go.Am Go.Sq
open Go.Tl (mayL Wd okW okB bo)

theorem RA_un9 : Try.prog.underlying 9 = some .string := by kernel_rfl
set_option maxRecDepth 100000 in
/-- semigroup/sequential.validText -/
theorem vtext_spec (w : World) (s : Wd) (h : okT 4096 s) : Calls Try.prog 70 #[sv s] w (fun e w' => e = .returned (.bool true) ∧ Ext [] w w') := by
 have hl := h.1
 refine enter (args := [sv s]) [] 23 Try.func70 rfl rfl rfl ?_
 refine CT.seq ?_
 refine CT.region ?_
 refine Wl.q rfl rfl (OpQ.assign rfl) ?_
 refine Wl.nil ?_
 refine PX.then_n ?_
 refine CT.seq ?_
 refine CT.seq ?_
 refine CT.region ?_
 refine Wl.q rfl rfl (OpQ.move rfl) ?_
 refine Wl.q rfl rfl (OpQ.lenSv RA_un9 rfl) ?_
 refine Wl.q rfl rfl (OpQ.gtr rfl rfl) ?_
 refine Wl.know 6 (v' := .bool false) rfl (congrArg Value.bool (decide_eq_false (by omega))) ?_
 refine Wl.nil ?_
 refine PX.then_n ?_
 refine CT.condF rfl ?_
 refine CT.skip ?_
 refine PX.then_n ?_
 refine CT.seq ?_
 refine CT.seq ?_
 refine CT.region ?_
 refine Wl.q rfl rfl (OpQ.move rfl) ?_
 refine Wl.q rfl rfl (OpQ.lenSv RA_un9 rfl) ?_
 refine Wl.q rfl rfl (OpQ.move rfl) ?_
 refine Wl.nil ?_
 refine PX.then_n ?_
 refine CT.block ?_
 refine CT.loop (ι := Nat) (fun k => k ≤ s.length) (fun k => [(0, sv s), (8, .int .i64 ((s.length : Nat) : Int)), (9, .int .i64 ((k : Nat) : Int))]) (fun _ => []) (fun k => s.length - k) 0 (Nat.zero_le _) ⟨rfl, rfl, rfl, trivial⟩ (HSub.none _) (fun k hk K0 hK0 => ?_)
 refine CT.seq ?_
 refine CT.region ?_
 refine Wl.q rfl rfl (OpQ.lss rfl rfl) ?_
 refine Wl.nil ?_
 refine PX.then_n ?_
 refine CT.seq ?_
 refine CT.cond rfl (fun h10 => ?_) (fun h10 => ?_)
 ·
  have h10 := of_decide_eq_true h10
  have hbb := h.2 _ (getDm (show k < s.length by omega) (d := 0))
  refine CT.skip ?_
  refine PX.then_n ?_
  refine CT.seq ?_
  refine CT.block ?_
  refine CT.seq ?_
  refine CT.region ?_
  refine Wl.q rfl rfl (OpQ.move rfl) ?_
  refine Wl.q rfl rfl (OpQ.assign rfl) ?_
  refine Wl.nil ?_
  refine PX.then_n ?_
  refine CT.seq ?_
  refine CT.region ?_
  refine Wl.q rfl rfl (OpQ.move rfl) ?_
  refine Wl.q rfl rfl (OpQ.move rfl) ?_
  refine Wl.q rfl rfl (OpQ.indexSvN RA_un9 rfl rfl (by omega)) ?_
  refine Wl.q rfl rfl (OpQ.lss rfl rfl) ?_
  refine Wl.know 15 (v' := .bool false) rfl (congrArg Value.bool (decide_eq_false (by omega))) ?_
  refine Wl.q rfl rfl (OpQ.move rfl) ?_
  refine Wl.q rfl rfl (OpQ.move rfl) ?_
  refine Wl.q rfl rfl (OpQ.move rfl) ?_
  refine Wl.q rfl rfl (OpQ.indexSvN RA_un9 rfl rfl (by omega)) ?_
  refine Wl.q rfl rfl (OpQ.gtr rfl rfl) ?_
  refine Wl.know 20 (v' := .bool false) rfl (congrArg Value.bool (decide_eq_false (by omega))) ?_
  refine Wl.q rfl rfl (OpQ.pickF rfl rfl) ?_
  refine Wl.nil ?_
  refine PX.then_n ?_
  refine CT.condF rfl ?_
  refine CT.skip ?_
  refine PX.block_n ?_
  refine PX.then_n ?_
  refine CT.region ?_
  refine Wl.q rfl rfl (OpQ.add rfl rfl (by omega)) ?_
  refine Wl.q rfl rfl (OpQ.move rfl) ?_
  refine Wl.nil ?_
  exact PX.loop hK0 (k + 1) (by omega) (by first | omega | (dsimp only; omega)) ⟨rfl, rfl, rfl, trivial⟩ (HSub.none _)
 ·
  have h10 := of_decide_eq_false h10
  refine CT.exit ?_
  refine PX.then_x ?_
  refine PX.then_x ?_
  refine PX.block_x ?_
  refine PX.then_n ?_
  refine CT.seq ?_
  refine CT.region ?_
  refine Wl.q rfl rfl (OpQ.assign rfl) ?_
  refine Wl.nil ?_
  refine PX.then_n ?_
  refine CT.ret ?_
  refine PX.ret1 rfl rfl (fun w' hH => ?_)
  exact ⟨rfl, hH.ext⟩

theorem RA_mixed : Try.prog.follows .mixedOrders = true := by kernel_rfl
theorem RA_fa30_3 : fieldB Try.prog 30 3 = some 3 := by kernel_rfl
theorem RA_sc25 : scalarB Try.prog 25 = some true := by kernel_rfl
theorem RA_un25 : Try.prog.underlying 25 = some (.slice 22) := by kernel_rfl
theorem RA_sz22 : sizeB Try.prog 22 = some 1 := by kernel_rfl
theorem RA_sc22 : scalarB Try.prog 22 = some true := by kernel_rfl
theorem RA_un22 : Try.prog.underlying 22 = some (.slice 3) := by kernel_rfl
theorem RA_fa30_0 : fieldB Try.prog 30 0 = some 0 := by kernel_rfl
theorem RA_sc3 : scalarB Try.prog 3 = some true := by kernel_rfl
theorem RA_fa30_4 : fieldB Try.prog 30 4 = some 4 := by kernel_rfl
theorem RA_sc26 : scalarB Try.prog 26 = some true := by kernel_rfl
theorem RA_un26 : Try.prog.underlying 26 = some (.slice 28) := by kernel_rfl
theorem RA_sz28 : sizeB Try.prog 28 = some 1 := by kernel_rfl
theorem RA_sc28 : scalarB Try.prog 28 = some true := by kernel_rfl
theorem RA_un28 : Try.prog.underlying 28 = some (.slice 9) := by kernel_rfl
theorem RA_sz3 : sizeB Try.prog 3 = some 1 := by kernel_rfl
theorem RA_sz9 : sizeB Try.prog 9 = some 1 := by kernel_rfl
theorem RA_sc9 : scalarB Try.prog 9 = some true := by kernel_rfl
theorem RA_go70 : isGo Try.prog 70 = true := by kernel_rfl
theorem RA_fa30_6 : fieldB Try.prog 30 6 = some 6 := by kernel_rfl
theorem RA_fa30_5 : fieldB Try.prog 30 5 = some 5 := by kernel_rfl
theorem RA_sc27 : scalarB Try.prog 27 = some true := by kernel_rfl
theorem RA_un27 : Try.prog.underlying 27 = some (.slice 4) := by kernel_rfl
theorem RA_sz4 : sizeB Try.prog 4 = some 1 := by kernel_rfl
theorem RA_sc4 : scalarB Try.prog 4 = some true := by kernel_rfl
set_option maxRecDepth 100000 in
/-- semigroup/sequential.validState -/
theorem vstate_spec (w : World) (S : Sv) (hS : Stays [] w (svm S)) (hv : S.sq.Ok 4096) (q : Nat) (hq : q < S.rs.length) : Calls Try.prog 71 #[svv S, .int .i64 ((q : Nat) : Int)] w (fun e w' => e = .returned (.bool true) ∧ Ext [] w w') := by
 obtain ⟨hb1, hb2, hb3, hb4⟩ := hv.bnd
 obtain ⟨hlo, hle, hlf⟩ := hv.lens
 have hns : 0 < S.rs.length → S.na.isSome = true := fun h => hS.now.n.isSome (j := 0) (by rw [List.length_map]; exact h)
 have hos : 0 < S.os.length → S.oa.isSome = true := fun h => hS.now.o.isSome (j := 0) (by rw [List.length_map]; exact h)
 have hes : 0 < S.en.length → S.ea.isSome = true := fun h => hS.now.e.isSome (j := 0) (by rw [List.length_map]; exact h)
 have hfs : 0 < S.fi.length → S.fa.isSome = true := fun h => hS.now.f.isSome (j := 0) (by rw [List.length_map]; exact h)
 have hrs : ∀ q, q < S.rs.length → 0 < (S.rs.getD q rx0).xs.length → (S.rs.getD q rx0).a.isSome = true := fun q hq h => (hS.now.r _ (getDm hq)).isSome (j := 0) (by rw [List.length_map]; exact h)
 have hus : ∀ q, q < S.os.length → 0 < (S.os.getD q rx0).xs.length → (S.os.getD q rx0).a.isSome = true := fun q hq h => (hS.now.u _ (getDm hq)).isSome (j := 0) (by rw [List.length_map]; exact h)
 have hrl := hv.rlen (q := q) (by omega)
 have hol := hv.olen (q := q) (by omega)
 refine enter (args := [svv S, .int .i64 ((q : Nat) : Int)]) [] 96 Try.func71 rfl rfl rfl ?_
 refine CT.seq ?_
 refine CT.region ?_
 refine Wl.g rfl rfl (OpG.box (size := 7) rfl rfl rfl) ?_
 rintro b2 _
 refine Wl.q rfl rfl (OpQ.assign rfl) ?_
 refine Wl.nil ?_
 refine PX.then_n ?_
 refine CT.seq ?_
 refine CT.seq ?_
 refine CT.draw 20 RA_mixed ?_
 refine RA.q 0 (by kernel_rfl) rfl rfl rfl (.refl _) (OpQ.fieldAddr RA_fa30_3 rfl) ?_
 refine RA.q 1 (by kernel_rfl) rfl rfl rfl (.refl _) (OpQ.loadF (b := b2) RA_sc25 rfl (by repeat (first | exact Has.here | apply Has.there)) (by rfl)) ?_
 refine RA.q 2 (by kernel_rfl) rfl rfl rfl (.refl _) (OpQ.move rfl) ?_
 refine RA.q 3 (by kernel_rfl) rfl rfl rfl (.refl _) (OpQ.index1 RA_un25 RA_sz22 rfl rfl (by omega) (hns (by omega))) ?_
 refine RA.q 4 (by kernel_rfl) rfl rfl rfl (.refl _) (OpQ.loadG RA_sc22 rfl (fun w hH => (hH.use hS).n) (getMap rxv S.rs rx0 (j := q) (by omega))) ?_
 refine RA.q 5 (by kernel_rfl) rfl rfl rfl (.refl _) (OpQ.len RA_un22 rfl) ?_
 refine RA.q 6 (by kernel_rfl) rfl rfl rfl (.refl _) (OpQ.fieldAddr RA_fa30_0 rfl) ?_
 refine RA.q 7 (by kernel_rfl) rfl rfl rfl (.refl _) (OpQ.loadF (b := b2) RA_sc3 rfl (by repeat (first | exact Has.here | apply Has.there)) (by rfl)) ?_
 refine RA.q 8 (by kernel_rfl) rfl rfl rfl (.refl _) (OpQ.neq rfl rfl) ?_
 refine RA.know 15 (v' := .bool false) rfl (congrArg Value.bool (by rw [hrl]; simp)) ?_
 refine RA.q 9 (by kernel_rfl) rfl rfl rfl (.refl _) (OpQ.move rfl) ?_
 refine RA.q 10 (by kernel_rfl) rfl rfl rfl (.refl _) (OpQ.fieldAddr RA_fa30_4 rfl) ?_
 refine RA.q 11 (by kernel_rfl) rfl rfl rfl (.refl _) (OpQ.loadF (b := b2) RA_sc26 rfl (by repeat (first | exact Has.here | apply Has.there)) (by rfl)) ?_
 refine RA.q 12 (by kernel_rfl) rfl rfl rfl (.refl _) (OpQ.move rfl) ?_
 refine RA.q 13 (by kernel_rfl) rfl rfl rfl (.refl _) (OpQ.index1 RA_un26 RA_sz28 rfl rfl (by omega) (hos (by omega))) ?_
 refine RA.q 14 (by kernel_rfl) rfl rfl rfl (.refl _) (OpQ.loadG RA_sc28 rfl (fun w hH => (hH.use hS).o) (getMap rxv S.os rx0 (j := q) (by omega))) ?_
 refine RA.q 15 (by kernel_rfl) rfl rfl rfl (.refl _) (OpQ.len RA_un28 rfl) ?_
 refine RA.q 16 (by kernel_rfl) rfl rfl rfl (.refl _) (OpQ.fieldAddr RA_fa30_0 rfl) ?_
 refine RA.q 17 (by kernel_rfl) rfl rfl rfl (.refl _) (OpQ.loadF (b := b2) RA_sc3 rfl (by repeat (first | exact Has.here | apply Has.there)) (by rfl)) ?_
 refine RA.q 18 (by kernel_rfl) rfl rfl rfl (.refl _) (OpQ.neq rfl rfl) ?_
 refine RA.know 25 (v' := .bool false) rfl (congrArg Value.bool (by rw [hol]; simp)) ?_
 refine RA.q 19 (by kernel_rfl) rfl rfl rfl (.refl _) (OpQ.pickF rfl rfl) ?_
 refine RA.tail ?_
 refine RT.done (by kernel_rfl) ?_
 refine PX.then_n ?_
 refine CT.condF rfl ?_
 refine CT.skip ?_
 refine PX.then_n ?_
 refine CT.seq ?_
 refine CT.seq ?_
 refine CT.region ?_
 refine Wl.q rfl rfl (OpQ.fieldAddr RA_fa30_3 rfl) ?_
 refine Wl.q rfl rfl (OpQ.loadF (b := b2) RA_sc25 rfl (by repeat (first | exact Has.here | apply Has.there)) (by rfl)) ?_
 refine Wl.q rfl rfl (OpQ.move rfl) ?_
 refine Wl.q rfl rfl (OpQ.index1 RA_un25 RA_sz22 rfl rfl (by omega) (hns (by omega))) ?_
 refine Wl.q rfl rfl (OpQ.loadG RA_sc22 rfl (fun w hH => (hH.use hS).n) (getMap rxv S.rs rx0 (j := q) (by omega))) ?_
 refine Wl.q rfl rfl (OpQ.len RA_un22 rfl) ?_
 refine Wl.know 32 (v' := .int .i64 ((S.L : Nat) : Int)) rfl (congrArg (Value.int .i64) (by rw [hrl])) ?_
 refine Wl.q rfl rfl (OpQ.move rfl) ?_
 refine Wl.nil ?_
 refine PX.then_n ?_
 refine CT.block ?_
 refine CT.loop (ι := Nat) (fun x => x ≤ S.L) (fun x => [(1, .int .i64 ((q : Nat) : Int)), (2, .pointer (some ⟨b2, 0, none⟩)), (31, rxv (S.rs.getD q rx0)), (32, .int .i64 ((S.L : Nat) : Int)), (33, .int .i64 ((x : Nat) : Int))]) (fun _ => [.row 30 7 (vb b2) 1 (svc S)]) (fun x => S.L - x) 0 (Nat.zero_le _) ⟨rfl, rfl, rfl, rfl, rfl, trivial⟩ (HSub.refl _) (fun x hx K0 hK0 => ?_)
 refine CT.seq ?_
 refine CT.region ?_
 refine Wl.q rfl rfl (OpQ.lss rfl rfl) ?_
 refine Wl.nil ?_
 refine PX.then_n ?_
 refine CT.seq ?_
 refine CT.cond rfl (fun h34 => ?_) (fun h34 => ?_)
 ·
  have h34 := of_decide_eq_true h34
  have hge := oi_ge (S.sq.to q x)
  have hlt := oi_lt hv (show q < S.rs.length by omega) (show x < S.L by omega)
  have hno := hv.no q x (by rw [S.n_eq]; omega) (show x < S.L by omega)
  refine CT.skip ?_
  refine PX.then_n ?_
  refine CT.seq ?_
  refine CT.block ?_
  refine CT.seq ?_
  refine CT.region ?_
  refine Wl.q rfl rfl (OpQ.move rfl) ?_
  refine Wl.q rfl rfl (OpQ.index1 RA_un22 RA_sz3 rfl rfl (by omega) (hrs q (by omega) (by omega))) ?_
  refine Wl.q rfl rfl (OpQ.loadG RA_sc3 rfl (fun w hH => (hH.use hS).r _ (getDm (show q < S.rs.length by omega))) (getMap zo (S.rs.getD q rx0).xs none (j := x) (by omega))) ?_
  refine Wl.know 37 (v' := zo (S.sq.to q x)) rfl (congrArg zo (S.to_eq q x).symm) ?_
  refine Wl.q rfl rfl (OpQ.assign rfl) ?_
  refine Wl.q rfl rfl (OpQ.assign rfl) ?_
  refine Wl.nil ?_
  refine PX.then_n ?_
  refine CT.seq ?_
  refine CT.region ?_
  refine Wl.q rfl rfl (OpQ.move rfl) ?_
  refine Wl.q rfl rfl (OpQ.lss rfl rfl) ?_
  refine Wl.know 39 (v' := .bool false) rfl (congrArg Value.bool (decide_eq_false (by omega))) ?_
  refine Wl.q rfl rfl (OpQ.move rfl) ?_
  refine Wl.q rfl rfl (OpQ.move rfl) ?_
  refine Wl.q rfl rfl (OpQ.fieldAddr RA_fa30_3 rfl) ?_
  refine Wl.q rfl rfl (OpQ.loadF (b := b2) RA_sc25 rfl (by repeat (first | exact Has.here | apply Has.there)) (by rfl)) ?_
  refine Wl.q rfl rfl (OpQ.len RA_un25 rfl) ?_
  refine Wl.q rfl rfl (OpQ.geq rfl rfl) ?_
  refine Wl.know 45 (v' := .bool false) rfl (congrArg Value.bool (decide_eq_false (by omega))) ?_
  refine Wl.q rfl rfl (OpQ.pickF rfl rfl) ?_
  refine Wl.q rfl rfl (OpQ.move rfl) ?_
  refine Wl.q rfl rfl (OpQ.fieldAddr RA_fa30_4 rfl) ?_
  refine Wl.q rfl rfl (OpQ.loadF (b := b2) RA_sc26 rfl (by repeat (first | exact Has.here | apply Has.there)) (by rfl)) ?_
  refine Wl.q rfl rfl (OpQ.move rfl) ?_
  refine Wl.q rfl rfl (OpQ.index1 RA_un26 RA_sz28 rfl rfl (by omega) (hos (by omega))) ?_
  refine Wl.q rfl rfl (OpQ.loadG RA_sc28 rfl (fun w hH => (hH.use hS).o) (getMap rxv S.os rx0 (j := q) (by omega))) ?_
  refine Wl.q rfl rfl (OpQ.move rfl) ?_
  refine Wl.q rfl rfl (OpQ.index1 RA_un28 RA_sz9 rfl rfl (by omega) (hus q (by omega) (by omega))) ?_
  refine Wl.q rfl rfl (OpQ.loadG RA_sc9 rfl (fun w hH => (hH.use hS).u _ (getDm (show q < S.os.length by omega))) (getMap sv (S.os.getD q rx0).xs [] (j := x) (by omega))) ?_
  refine Wl.know 55 (v' := sv (S.sq.o q x)) rfl (congrArg sv (S.o_eq q x).symm) ?_
  refine Wl.g rfl rfl (OpG.callV RA_go70 rfl (fun w hH => vtext_spec w _ (hv.to' q x (by rw [S.n_eq]; omega) (show x < S.L by omega)))) ?_
  rintro _ _
  refine Wl.know 56 (v' := .bool true) rfl (congrArg Value.bool rfl) ?_
  refine Wl.q rfl rfl (OpQ.not rfl) ?_
  refine Wl.q rfl rfl (OpQ.pickF rfl rfl) ?_
  refine Wl.q rfl rfl (OpQ.move rfl) ?_
  refine Wl.q rfl rfl (OpQ.move rfl) ?_
  refine Wl.q rfl rfl (OpQ.eql rfl rfl) ?_
  refine Wl.q rfl rfl (OpQ.move rfl) ?_
  refine Wl.split 62 rfl (fun hg62 => ?_) (fun hg62 => ?_)
  ·
   have hno := hno (oi_neg.1 (of_decide_eq_true hg62))
   refine Wl.q rfl rfl (OpQ.fieldAddr RA_fa30_4 rfl) ?_
   refine Wl.q rfl rfl (OpQ.loadF (b := b2) RA_sc26 rfl (by repeat (first | exact Has.here | apply Has.there)) (by rfl)) ?_
   refine Wl.q rfl rfl (OpQ.move rfl) ?_
   refine Wl.q rfl rfl (OpQ.index1 RA_un26 RA_sz28 rfl rfl (by omega) (hos (by omega))) ?_
   refine Wl.q rfl rfl (OpQ.loadG RA_sc28 rfl (fun w hH => (hH.use hS).o) (getMap rxv S.os rx0 (j := q) (by omega))) ?_
   refine Wl.q rfl rfl (OpQ.move rfl) ?_
   refine Wl.q rfl rfl (OpQ.index1 RA_un28 RA_sz9 rfl rfl (by omega) (hus q (by omega) (by omega))) ?_
   refine Wl.q rfl rfl (OpQ.loadG RA_sc9 rfl (fun w hH => (hH.use hS).u _ (getDm (show q < S.os.length by omega))) (getMap sv (S.os.getD q rx0).xs [] (j := x) (by omega))) ?_
   refine Wl.know 70 (v' := sv (S.sq.o q x)) rfl (congrArg sv (S.o_eq q x).symm) ?_
   refine Wl.q rfl rfl (OpQ.neqS rfl rfl) ?_
   refine Wl.know 71 (v' := .bool false) rfl (congrArg Value.bool (by rw [hno]; rfl)) ?_
   refine Wl.q rfl rfl (OpQ.pickT rfl rfl) ?_
   refine Wl.q rfl rfl (OpQ.pickF rfl rfl) ?_
   refine Wl.nil ?_
   refine PX.then_n ?_
   refine CT.condF rfl ?_
   refine CT.skip ?_
   refine PX.block_n ?_
   refine PX.then_n ?_
   refine CT.region ?_
   refine Wl.q rfl rfl (OpQ.add rfl rfl (by omega)) ?_
   refine Wl.q rfl rfl (OpQ.move rfl) ?_
   refine Wl.nil ?_
   exact PX.loop hK0 (x + 1) (by omega) (by first | omega | (dsimp only; omega)) ⟨rfl, rfl, rfl, rfl, rfl, trivial⟩ (HSub.refl _)
  ·
   refine Wl.skip rfl rfl ?_
   refine Wl.skip rfl rfl ?_
   refine Wl.skip rfl rfl ?_
   refine Wl.skip rfl rfl ?_
   refine Wl.skip rfl rfl ?_
   refine Wl.skip rfl rfl ?_
   refine Wl.skip rfl rfl ?_
   refine Wl.skip rfl rfl ?_
   refine Wl.skip rfl rfl ?_
   refine Wl.q rfl rfl (OpQ.pickF rfl rfl) ?_
   refine Wl.q rfl rfl (OpQ.pickF rfl rfl) ?_
   refine Wl.nil ?_
   refine PX.then_n ?_
   refine CT.condF rfl ?_
   refine CT.skip ?_
   refine PX.block_n ?_
   refine PX.then_n ?_
   refine CT.region ?_
   refine Wl.q rfl rfl (OpQ.add rfl rfl (by omega)) ?_
   refine Wl.q rfl rfl (OpQ.move rfl) ?_
   refine Wl.nil ?_
   exact PX.loop hK0 (x + 1) (by omega) (by first | omega | (dsimp only; omega)) ⟨rfl, rfl, rfl, rfl, rfl, trivial⟩ (HSub.refl _)
 ·
  have h34 := of_decide_eq_false h34
  refine CT.exit ?_
  refine PX.then_x ?_
  refine PX.then_x ?_
  refine PX.block_x ?_
  refine PX.then_n ?_
  refine CT.seq ?_
  refine CT.region ?_
  refine Wl.q rfl rfl (OpQ.fieldAddr RA_fa30_6 rfl) ?_
  refine Wl.q rfl rfl (OpQ.loadF (b := b2) RA_sc28 rfl (by repeat (first | exact Has.here | apply Has.there)) (by rfl)) ?_
  refine Wl.q rfl rfl (OpQ.move rfl) ?_
  refine Wl.q rfl rfl (OpQ.index1 RA_un28 RA_sz9 rfl rfl (by omega) (hfs (by omega))) ?_
  refine Wl.q rfl rfl (OpQ.loadG RA_sc9 rfl (fun w hH => (hH.use hS).f) (getMap sv S.fi [] (j := q) (by omega))) ?_
  refine Wl.know 79 (v' := sv (S.sq.f q)) rfl rfl ?_
  refine Wl.g rfl rfl (OpG.callV RA_go70 rfl (fun w hH => vtext_spec w _ (hv.tf q (by rw [S.n_eq]; omega)))) ?_
  rintro _ _
  refine Wl.know 80 (v' := .bool true) rfl (congrArg Value.bool rfl) ?_
  refine Wl.q rfl rfl (OpQ.move rfl) ?_
  refine Wl.q rfl rfl (OpQ.fieldAddr RA_fa30_5 rfl) ?_
  refine Wl.q rfl rfl (OpQ.loadF (b := b2) RA_sc27 rfl (by repeat (first | exact Has.here | apply Has.there)) (by rfl)) ?_
  refine Wl.q rfl rfl (OpQ.move rfl) ?_
  refine Wl.q rfl rfl (OpQ.index1 RA_un27 RA_sz4 rfl rfl (by omega) (hes (by omega))) ?_
  refine Wl.q rfl rfl (OpQ.loadG RA_sc4 rfl (fun w hH => (hH.use hS).e) (getMap bo S.en false (j := q) (by omega))) ?_
  refine Wl.know 86 (v' := .bool (S.sq.e q)) rfl rfl ?_
  refine Wl.q rfl rfl (OpQ.move rfl) ?_
  refine Wl.split 87 rfl (fun hg87 => ?_) (fun hg87 => ?_)
  ·
   refine Wl.skip rfl rfl ?_
   refine Wl.skip rfl rfl ?_
   refine Wl.skip rfl rfl ?_
   refine Wl.skip rfl rfl ?_
   refine Wl.skip rfl rfl ?_
   refine Wl.skip rfl rfl ?_
   refine Wl.q rfl rfl (OpQ.pickT rfl rfl) ?_
   refine Wl.q rfl rfl (OpQ.pickT rfl rfl) ?_
   refine Wl.q rfl rfl (OpQ.assign rfl) ?_
   refine Wl.nil ?_
   refine PX.then_n ?_
   refine CT.ret ?_
   refine PX.ret1 rfl rfl (fun w' hH => ?_)
   exact ⟨rfl, hH.ext⟩
  ·
   have hnf := hv.nf q (by rw [S.n_eq]; omega) hg87
   refine Wl.q rfl rfl (OpQ.fieldAddr RA_fa30_6 rfl) ?_
   refine Wl.q rfl rfl (OpQ.loadF (b := b2) RA_sc28 rfl (by repeat (first | exact Has.here | apply Has.there)) (by rfl)) ?_
   refine Wl.q rfl rfl (OpQ.move rfl) ?_
   refine Wl.q rfl rfl (OpQ.index1 RA_un28 RA_sz9 rfl rfl (by omega) (hfs (by omega))) ?_
   refine Wl.q rfl rfl (OpQ.loadG RA_sc9 rfl (fun w hH => (hH.use hS).f) (getMap sv S.fi [] (j := q) (by omega))) ?_
   refine Wl.know 92 (v' := sv (S.sq.f q)) rfl rfl ?_
   refine Wl.q rfl rfl (OpQ.eqlS rfl rfl) ?_
   refine Wl.know 93 (v' := .bool true) rfl (congrArg Value.bool (by rw [hnf]; rfl)) ?_
   refine Wl.q rfl rfl (OpQ.pickF rfl rfl) ?_
   refine Wl.q rfl rfl (OpQ.pickT rfl rfl) ?_
   refine Wl.q rfl rfl (OpQ.assign rfl) ?_
   refine Wl.nil ?_
   refine PX.then_n ?_
   refine CT.ret ?_
   refine PX.ret1 rfl rfl (fun w' hH => ?_)
   exact ⟨rfl, hH.ext⟩

theorem RA_fa30_1 : fieldB Try.prog 30 1 = some 1 := by kernel_rfl
theorem RA_fa30_2 : fieldB Try.prog 30 2 = some 2 := by kernel_rfl
theorem RA_ag30 : isAggB Try.prog 30 = some true := by kernel_rfl
theorem RA_sz30 : sizeB Try.prog 30 = some 7 := by kernel_rfl
theorem RA_go71 : isGo Try.prog 71 = true := by kernel_rfl
set_option maxRecDepth 100000 in
/-- semigroup/sequential.Validate -/
theorem svalid_spec (w : World) (S : Sv) (hS : Stays [] w (svm S)) (hv : S.sq.Ok 4096) : Calls Try.prog 31 #[svv S] w (fun e w' => e = .returned (.int .i64 0) ∧ Ext [] w w') := by
 obtain ⟨hb1, hb2, hb3, hb4⟩ := hv.bnd
 obtain ⟨hlo, hle, hlf⟩ := hv.lens
 have hns : 0 < S.rs.length → S.na.isSome = true := fun h => hS.now.n.isSome (j := 0) (by rw [List.length_map]; exact h)
 have hos : 0 < S.os.length → S.oa.isSome = true := fun h => hS.now.o.isSome (j := 0) (by rw [List.length_map]; exact h)
 have hes : 0 < S.en.length → S.ea.isSome = true := fun h => hS.now.e.isSome (j := 0) (by rw [List.length_map]; exact h)
 have hfs : 0 < S.fi.length → S.fa.isSome = true := fun h => hS.now.f.isSome (j := 0) (by rw [List.length_map]; exact h)
 have hrs : ∀ q, q < S.rs.length → 0 < (S.rs.getD q rx0).xs.length → (S.rs.getD q rx0).a.isSome = true := fun q hq h => (hS.now.r _ (getDm hq)).isSome (j := 0) (by rw [List.length_map]; exact h)
 have hus : ∀ q, q < S.os.length → 0 < (S.os.getD q rx0).xs.length → (S.os.getD q rx0).a.isSome = true := fun q hq h => (hS.now.u _ (getDm hq)).isSome (j := 0) (by rw [List.length_map]; exact h)
 refine enter (args := [svv S]) [] 63 Try.func31 rfl rfl rfl ?_
 refine CT.seq ?_
 refine CT.region ?_
 refine Wl.g rfl rfl (OpG.box (size := 7) rfl rfl rfl) ?_
 rintro b1 _
 refine Wl.q rfl rfl (OpQ.assign rfl) ?_
 refine Wl.nil ?_
 refine PX.then_n ?_
 refine CT.seq ?_
 refine CT.seq ?_
 refine CT.region ?_
 refine Wl.q rfl rfl (OpQ.fieldAddr RA_fa30_0 rfl) ?_
 refine Wl.q rfl rfl (OpQ.loadF (b := b1) RA_sc3 rfl (by repeat (first | exact Has.here | apply Has.there)) (by rfl)) ?_
 refine Wl.q rfl rfl (OpQ.lss rfl rfl) ?_
 refine Wl.know 7 (v' := .bool false) rfl (congrArg Value.bool (decide_eq_false (by omega))) ?_
 refine Wl.q rfl rfl (OpQ.move rfl) ?_
 refine Wl.q rfl rfl (OpQ.fieldAddr RA_fa30_0 rfl) ?_
 refine Wl.q rfl rfl (OpQ.loadF (b := b1) RA_sc3 rfl (by repeat (first | exact Has.here | apply Has.there)) (by rfl)) ?_
 refine Wl.q rfl rfl (OpQ.gtr rfl rfl) ?_
 refine Wl.know 11 (v' := .bool false) rfl (congrArg Value.bool (decide_eq_false (by omega))) ?_
 refine Wl.q rfl rfl (OpQ.pickF rfl rfl) ?_
 refine Wl.nil ?_
 refine PX.then_n ?_
 refine CT.condF rfl ?_
 refine CT.skip ?_
 refine PX.then_n ?_
 refine CT.seq ?_
 refine CT.region ?_
 refine Wl.q rfl rfl (OpQ.fieldAddr RA_fa30_3 rfl) ?_
 refine Wl.q rfl rfl (OpQ.loadF (b := b1) RA_sc25 rfl (by repeat (first | exact Has.here | apply Has.there)) (by rfl)) ?_
 refine Wl.q rfl rfl (OpQ.len RA_un25 rfl) ?_
 refine Wl.q rfl rfl (OpQ.assign rfl) ?_
 refine Wl.nil ?_
 refine PX.then_n ?_
 refine CT.seq ?_
 refine CT.seq ?_
 refine CT.region ?_
 refine Wl.q rfl rfl (OpQ.move rfl) ?_
 refine Wl.q rfl rfl (OpQ.gtr rfl rfl) ?_
 refine Wl.know 17 (v' := .bool false) rfl (congrArg Value.bool (decide_eq_false (by omega))) ?_
 refine Wl.nil ?_
 refine PX.then_n ?_
 refine CT.condF rfl ?_
 refine CT.skip ?_
 refine PX.then_n ?_
 refine CT.seq ?_
 refine CT.seq ?_
 refine CT.region ?_
 refine Wl.q rfl rfl (OpQ.fieldAddr RA_fa30_1 rfl) ?_
 refine Wl.q rfl rfl (OpQ.loadF (b := b1) RA_sc3 rfl (by repeat (first | exact Has.here | apply Has.there)) (by rfl)) ?_
 refine Wl.q rfl rfl (OpQ.lss rfl rfl) ?_
 refine Wl.know 20 (v' := .bool false) rfl (congrArg Value.bool (decide_eq_false (by omega))) ?_
 refine Wl.q rfl rfl (OpQ.move rfl) ?_
 refine Wl.q rfl rfl (OpQ.fieldAddr RA_fa30_1 rfl) ?_
 refine Wl.q rfl rfl (OpQ.loadF (b := b1) RA_sc3 rfl (by repeat (first | exact Has.here | apply Has.there)) (by rfl)) ?_
 refine Wl.q rfl rfl (OpQ.move rfl) ?_
 refine Wl.q rfl rfl (OpQ.geq rfl rfl) ?_
 refine Wl.know 25 (v' := .bool false) rfl (congrArg Value.bool (decide_eq_false (by omega))) ?_
 refine Wl.q rfl rfl (OpQ.pickF rfl rfl) ?_
 refine Wl.q rfl rfl (OpQ.move rfl) ?_
 refine Wl.q rfl rfl (OpQ.fieldAddr RA_fa30_4 rfl) ?_
 refine Wl.q rfl rfl (OpQ.loadF (b := b1) RA_sc26 rfl (by repeat (first | exact Has.here | apply Has.there)) (by rfl)) ?_
 refine Wl.q rfl rfl (OpQ.len RA_un26 rfl) ?_
 refine Wl.q rfl rfl (OpQ.move rfl) ?_
 refine Wl.q rfl rfl (OpQ.neq rfl rfl) ?_
 refine Wl.know 32 (v' := .bool false) rfl (congrArg Value.bool (by rw [hlo]; simp)) ?_
 refine Wl.q rfl rfl (OpQ.pickF rfl rfl) ?_
 refine Wl.q rfl rfl (OpQ.move rfl) ?_
 refine Wl.q rfl rfl (OpQ.fieldAddr RA_fa30_5 rfl) ?_
 refine Wl.q rfl rfl (OpQ.loadF (b := b1) RA_sc27 rfl (by repeat (first | exact Has.here | apply Has.there)) (by rfl)) ?_
 refine Wl.q rfl rfl (OpQ.len RA_un27 rfl) ?_
 refine Wl.q rfl rfl (OpQ.move rfl) ?_
 refine Wl.q rfl rfl (OpQ.neq rfl rfl) ?_
 refine Wl.know 39 (v' := .bool false) rfl (congrArg Value.bool (by rw [hle]; simp)) ?_
 refine Wl.q rfl rfl (OpQ.pickF rfl rfl) ?_
 refine Wl.q rfl rfl (OpQ.move rfl) ?_
 refine Wl.q rfl rfl (OpQ.fieldAddr RA_fa30_6 rfl) ?_
 refine Wl.q rfl rfl (OpQ.loadF (b := b1) RA_sc28 rfl (by repeat (first | exact Has.here | apply Has.there)) (by rfl)) ?_
 refine Wl.q rfl rfl (OpQ.len RA_un28 rfl) ?_
 refine Wl.q rfl rfl (OpQ.move rfl) ?_
 refine Wl.q rfl rfl (OpQ.neq rfl rfl) ?_
 refine Wl.know 46 (v' := .bool false) rfl (congrArg Value.bool (by rw [hlf]; simp)) ?_
 refine Wl.q rfl rfl (OpQ.pickF rfl rfl) ?_
 refine Wl.q rfl rfl (OpQ.move rfl) ?_
 refine Wl.q rfl rfl (OpQ.fieldAddr RA_fa30_2 rfl) ?_
 refine Wl.q rfl rfl (OpQ.loadF (b := b1) RA_sc9 rfl (by repeat (first | exact Has.here | apply Has.there)) (by rfl)) ?_
 refine Wl.g rfl rfl (OpG.callV RA_go70 rfl (fun w hH => vtext_spec w _ hv.ti)) ?_
 rintro _ _
 refine Wl.know 51 (v' := .bool true) rfl (congrArg Value.bool rfl) ?_
 refine Wl.q rfl rfl (OpQ.not rfl) ?_
 refine Wl.q rfl rfl (OpQ.pickF rfl rfl) ?_
 refine Wl.nil ?_
 refine PX.then_n ?_
 refine CT.condF rfl ?_
 refine CT.skip ?_
 refine PX.then_n ?_
 refine CT.seq ?_
 refine CT.seq ?_
 refine CT.region ?_
 refine Wl.q rfl rfl (OpQ.move rfl) ?_
 refine Wl.q rfl rfl (OpQ.move rfl) ?_
 refine Wl.nil ?_
 refine PX.then_n ?_
 refine CT.block ?_
 refine CT.loop (ι := Nat) (fun q => q ≤ S.rs.length) (fun q => [(1, .pointer (some ⟨b1, 0, none⟩)), (54, .int .i64 ((S.rs.length : Nat) : Int)), (55, .int .i64 ((q : Nat) : Int))]) (fun _ => [.row 30 7 (vb b1) 1 (svc S)]) (fun q => S.rs.length - q) 0 (Nat.zero_le _) ⟨rfl, rfl, rfl, trivial⟩ (HSub.refl _) (fun q hq K0 hK0 => ?_)
 refine CT.seq ?_
 refine CT.region ?_
 refine Wl.q rfl rfl (OpQ.lss rfl rfl) ?_
 refine Wl.nil ?_
 refine PX.then_n ?_
 refine CT.seq ?_
 refine CT.cond rfl (fun h56 => ?_) (fun h56 => ?_)
 ·
  have h56 := of_decide_eq_true h56
  refine CT.skip ?_
  refine PX.then_n ?_
  refine CT.seq ?_
  refine CT.block ?_
  refine CT.seq ?_
  refine CT.region ?_
  refine Wl.q rfl rfl (OpQ.move rfl) ?_
  refine Wl.q rfl rfl (OpQ.assign rfl) ?_
  refine Wl.nil ?_
  refine PX.then_n ?_
  refine CT.seq ?_
  refine CT.region ?_
  refine Wl.q rfl rfl (OpQ.loadV (b := b1) RA_ag30 RA_sz30 rfl (by repeat (first | exact Has.here | apply Has.there)) (by rfl)) ?_
  refine Wl.know 58 (v' := svv S) rfl rfl ?_
  refine Wl.q rfl rfl (OpQ.move rfl) ?_
  refine Wl.g rfl rfl (OpG.callV RA_go71 rfl (fun w hH => vstate_spec w S (hH.stays0 hS) hv q (by omega))) ?_
  rintro _ _
  refine Wl.know 60 (v' := .bool true) rfl (congrArg Value.bool rfl) ?_
  refine Wl.q rfl rfl (OpQ.not rfl) ?_
  refine Wl.nil ?_
  refine PX.then_n ?_
  refine CT.condF rfl ?_
  refine CT.skip ?_
  refine PX.block_n ?_
  refine PX.then_n ?_
  refine CT.region ?_
  refine Wl.q rfl rfl (OpQ.add rfl rfl (by omega)) ?_
  refine Wl.q rfl rfl (OpQ.move rfl) ?_
  refine Wl.nil ?_
  exact PX.loop hK0 (q + 1) (by omega) (by first | omega | (dsimp only; omega)) ⟨rfl, rfl, rfl, trivial⟩ (HSub.refl _)
 ·
  have h56 := of_decide_eq_false h56
  refine CT.exit ?_
  refine PX.then_x ?_
  refine PX.then_x ?_
  refine PX.block_x ?_
  refine PX.then_n ?_
  refine CT.seq ?_
  refine CT.region ?_
  refine Wl.q rfl rfl (OpQ.assign rfl) ?_
  refine Wl.nil ?_
  refine PX.then_n ?_
  refine CT.ret ?_
  refine PX.ret1 rfl rfl (fun w' hH => ?_)
  exact ⟨rfl, hH.ext⟩

end Go.Proofs.Ytamolakhpcofhaa

