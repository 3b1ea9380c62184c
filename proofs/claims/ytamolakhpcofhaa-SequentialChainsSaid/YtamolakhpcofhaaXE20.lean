/-
  What functions of the program compute, each by its walk. Conditions: those that each theorem names.
-/
import Derived.Test.YtamolakhpcofhaaMod1
import Derived.Test.YtamolakhpcofhaaXE2
import Derived.Test.YtamolakhpcofhaaXE6
set_option linter.unusedSimpArgs false
namespace Go.Proofs.Ytamolakhpcofhaa
open Go Go.Eng Go.Am Go.Sq
open Go.Tp (zi)
open Go.Tl (mayL Wd okW okB bo)

theorem RT_un9 : Try.prog.underlying 9 = some .string := by kernel_rfl
theorem RT_un5 : Try.prog.underlying 5 = some (.int .u8) := by kernel_rfl
theorem RT_un3 : Try.prog.underlying 3 = some (.int .i64) := by kernel_rfl
set_option maxRecDepth 100000 in
/-- semigroup/sequential.over -/
theorem over_spec (w : World) (s : Wd) (hl : s.length ≤ 4096) (u : Nat) (hu : u ≤ 6) (h : okO u s) : Calls Try.prog 76 #[sv s, .int .i64 ((u : Nat) : Int)] w (fun e w' => e = .returned (.bool true) ∧ Ext [] w w') := by
 refine enter (args := [sv s, .int .i64 ((u : Nat) : Int)]) [] 19 Try.func76 rfl rfl rfl ?_
 refine CT.seq ?_
 refine CT.region ?_
 refine Wl.q rfl rfl (OpQ.assign rfl) ?_
 refine Wl.nil ?_
 refine PX.then_n ?_
 refine CT.seq ?_
 refine CT.seq ?_
 refine CT.region ?_
 refine Wl.q rfl rfl (OpQ.move rfl) ?_
 refine Wl.q rfl rfl (OpQ.lenSv RT_un9 rfl) ?_
 refine Wl.q rfl rfl (OpQ.move rfl) ?_
 refine Wl.nil ?_
 refine PX.then_n ?_
 refine CT.block ?_
 refine CT.loop (ι := Nat) (fun k => k ≤ s.length) (fun k => [(0, sv s), (1, .int .i64 ((u : Nat) : Int)), (7, .int .i64 ((s.length : Nat) : Int)), (8, .int .i64 ((k : Nat) : Int))]) (fun _ => []) (fun k => s.length - k) 0 (Nat.zero_le _) ⟨rfl, rfl, rfl, rfl, trivial⟩ (HSub.none _) (fun k hk K0 hK0 => ?_)
 refine CT.seq ?_
 refine CT.region ?_
 refine Wl.q rfl rfl (OpQ.lss rfl rfl) ?_
 refine Wl.nil ?_
 refine PX.then_n ?_
 refine CT.seq ?_
 refine CT.cond rfl (fun h9 => ?_) (fun h9 => ?_)
 ·
  have h9 := of_decide_eq_true h9
  have hbb := h _ (getDm (show k < s.length by omega) (d := 0))
  refine CT.skip ?_
  refine PX.then_n ?_
  refine CT.seq ?_
  refine CT.block ?_
  refine CT.seq ?_
  refine CT.region ?_
  refine Wl.q rfl rfl (OpQ.move rfl) ?_
  refine Wl.q rfl rfl (OpQ.assign rfl) ?_
  refine Wl.nil ?_
  refine PX.then_n ?_
  refine CT.seq ?_
  refine CT.region ?_
  refine Wl.q rfl rfl (OpQ.move rfl) ?_
  refine Wl.q rfl rfl (OpQ.move rfl) ?_
  refine Wl.q rfl rfl (OpQ.indexSvN RT_un9 rfl rfl (by omega)) ?_
  refine Wl.q rfl rfl (OpQ.conv rfl (conv_u8_i64 RT_un5 RT_un3 _ (by omega))) ?_
  refine Wl.q rfl rfl (OpQ.move rfl) ?_
  refine Wl.q rfl rfl (OpQ.add rfl rfl (by omega)) ?_
  refine Wl.q rfl rfl (OpQ.geq rfl rfl) ?_
  refine Wl.know 17 (v' := .bool false) rfl (congrArg Value.bool (decide_eq_false (by omega))) ?_
  refine Wl.nil ?_
  refine PX.then_n ?_
  refine CT.condF rfl ?_
  refine CT.skip ?_
  refine PX.block_n ?_
  refine PX.then_n ?_
  refine CT.region ?_
  refine Wl.q rfl rfl (OpQ.add rfl rfl (by omega)) ?_
  refine Wl.q rfl rfl (OpQ.move rfl) ?_
  refine Wl.nil ?_
  exact PX.loop hK0 (k + 1) (by omega) (by first | omega | (dsimp only; omega)) ⟨rfl, rfl, rfl, rfl, trivial⟩ (HSub.none _)
 ·
  have h9 := of_decide_eq_false h9
  refine CT.exit ?_
  refine PX.then_x ?_
  refine PX.then_x ?_
  refine PX.block_x ?_
  refine PX.then_n ?_
  refine CT.seq ?_
  refine CT.region ?_
  refine Wl.q rfl rfl (OpQ.assign rfl) ?_
  refine Wl.nil ?_
  refine PX.then_n ?_
  refine CT.ret ?_
  refine PX.ret1 rfl rfl (fun w' hH => ?_)
  exact ⟨rfl, hH.ext⟩

theorem RT_fa30_2 : fieldB Try.prog 30 2 = some 2 := by kernel_rfl
theorem RT_sc9 : scalarB Try.prog 9 = some true := by kernel_rfl
theorem RT_go76 : isGo Try.prog 76 = true := by kernel_rfl
theorem RT_fa30_3 : fieldB Try.prog 30 3 = some 3 := by kernel_rfl
theorem RT_sc25 : scalarB Try.prog 25 = some true := by kernel_rfl
theorem RT_un25 : Try.prog.underlying 25 = some (.slice 22) := by kernel_rfl
theorem RT_fa30_6 : fieldB Try.prog 30 6 = some 6 := by kernel_rfl
theorem RT_sc28 : scalarB Try.prog 28 = some true := by kernel_rfl
theorem RT_un28 : Try.prog.underlying 28 = some (.slice 9) := by kernel_rfl
theorem RT_sz9 : sizeB Try.prog 9 = some 1 := by kernel_rfl
theorem RT_fa30_4 : fieldB Try.prog 30 4 = some 4 := by kernel_rfl
theorem RT_sc26 : scalarB Try.prog 26 = some true := by kernel_rfl
theorem RT_un26 : Try.prog.underlying 26 = some (.slice 28) := by kernel_rfl
theorem RT_sz28 : sizeB Try.prog 28 = some 1 := by kernel_rfl
set_option maxRecDepth 100000 in
/-- semigroup/sequential.writesOver -/
theorem wover_spec (w : World) (S : Sv) (hS : Stays [] w (svm S)) (hv : S.sq.Ok 4096) (u : Nat) (hu : u ≤ 6) (ho : S.sq.Over u) : Calls Try.prog 39 #[svv S, .int .i64 ((u : Nat) : Int)] w (fun e w' => e = .returned (.bool true) ∧ Ext [] w w') := by
 obtain ⟨hb1, hb2, hb3, hb4⟩ := hv.bnd
 obtain ⟨hlo, hle, hlf⟩ := hv.lens
 have hns : 0 < S.rs.length → S.na.isSome = true := fun h => hS.now.n.isSome (j := 0) (by rw [List.length_map]; exact h)
 have hos : 0 < S.os.length → S.oa.isSome = true := fun h => hS.now.o.isSome (j := 0) (by rw [List.length_map]; exact h)
 have hes : 0 < S.en.length → S.ea.isSome = true := fun h => hS.now.e.isSome (j := 0) (by rw [List.length_map]; exact h)
 have hfs : 0 < S.fi.length → S.fa.isSome = true := fun h => hS.now.f.isSome (j := 0) (by rw [List.length_map]; exact h)
 have hrs : ∀ q, q < S.rs.length → 0 < (S.rs.getD q rx0).xs.length → (S.rs.getD q rx0).a.isSome = true := fun q hq h => (hS.now.r _ (getDm hq)).isSome (j := 0) (by rw [List.length_map]; exact h)
 have hus : ∀ q, q < S.os.length → 0 < (S.os.getD q rx0).xs.length → (S.os.getD q rx0).a.isSome = true := fun q hq h => (hS.now.u _ (getDm hq)).isSome (j := 0) (by rw [List.length_map]; exact h)
 refine enter (args := [svv S, .int .i64 ((u : Nat) : Int)]) [] 43 Try.func39 rfl rfl rfl ?_
 refine CT.seq ?_
 refine CT.region ?_
 refine Wl.g rfl rfl (OpG.box (size := 7) rfl rfl rfl) ?_
 rintro b2 _
 refine Wl.q rfl rfl (OpQ.assign rfl) ?_
 refine Wl.nil ?_
 refine PX.then_n ?_
 refine CT.seq ?_
 refine CT.seq ?_
 refine CT.region ?_
 refine Wl.q rfl rfl (OpQ.fieldAddr RT_fa30_2 rfl) ?_
 refine Wl.q rfl rfl (OpQ.loadF (b := b2) RT_sc9 rfl (by repeat (first | exact Has.here | apply Has.there)) (by rfl)) ?_
 refine Wl.q rfl rfl (OpQ.move rfl) ?_
 refine Wl.g rfl rfl (OpG.callV RT_go76 rfl (fun w hH => over_spec w S.init hv.ti.1 u hu ho.i)) ?_
 rintro _ _
 refine Wl.know 11 (v' := .bool true) rfl (congrArg Value.bool rfl) ?_
 refine Wl.q rfl rfl (OpQ.not rfl) ?_
 refine Wl.nil ?_
 refine PX.then_n ?_
 refine CT.condF rfl ?_
 refine CT.skip ?_
 refine PX.then_n ?_
 refine CT.seq ?_
 refine CT.seq ?_
 refine CT.region ?_
 refine Wl.q rfl rfl (OpQ.fieldAddr RT_fa30_3 rfl) ?_
 refine Wl.q rfl rfl (OpQ.loadF (b := b2) RT_sc25 rfl (by repeat (first | exact Has.here | apply Has.there)) (by rfl)) ?_
 refine Wl.q rfl rfl (OpQ.len RT_un25 rfl) ?_
 refine Wl.q rfl rfl (OpQ.move rfl) ?_
 refine Wl.nil ?_
 refine PX.then_n ?_
 refine CT.block ?_
 refine CT.loop (ι := Nat) (fun q => q ≤ S.rs.length) (fun q => [(1, .int .i64 ((u : Nat) : Int)), (2, .pointer (some ⟨b2, 0, none⟩)), (15, .int .i64 ((S.rs.length : Nat) : Int)), (16, .int .i64 ((q : Nat) : Int))]) (fun _ => [.row 30 7 (vb b2) 1 (svc S)]) (fun q => S.rs.length - q) 0 (Nat.zero_le _) ⟨rfl, rfl, rfl, rfl, trivial⟩ (HSub.refl _) (fun q hq K0 hK0 => ?_)
 refine CT.seq ?_
 refine CT.region ?_
 refine Wl.q rfl rfl (OpQ.lss rfl rfl) ?_
 refine Wl.nil ?_
 refine PX.then_n ?_
 refine CT.seq ?_
 refine CT.cond rfl (fun h17 => ?_) (fun h17 => ?_)
 ·
  have h17 := of_decide_eq_true h17
  have hrl := hv.rlen (q := q) (by omega)
  have hol := hv.olen (q := q) (by omega)
  refine CT.skip ?_
  refine PX.then_n ?_
  refine CT.seq ?_
  refine CT.block ?_
  refine CT.seq ?_
  refine CT.region ?_
  refine Wl.q rfl rfl (OpQ.move rfl) ?_
  refine Wl.q rfl rfl (OpQ.assign rfl) ?_
  refine Wl.nil ?_
  refine PX.then_n ?_
  refine CT.seq ?_
  refine CT.seq ?_
  refine CT.region ?_
  refine Wl.q rfl rfl (OpQ.fieldAddr RT_fa30_6 rfl) ?_
  refine Wl.q rfl rfl (OpQ.loadF (b := b2) RT_sc28 rfl (by repeat (first | exact Has.here | apply Has.there)) (by rfl)) ?_
  refine Wl.q rfl rfl (OpQ.move rfl) ?_
  refine Wl.q rfl rfl (OpQ.index1 RT_un28 RT_sz9 rfl rfl (by omega) (hfs (by omega))) ?_
  refine Wl.q rfl rfl (OpQ.loadG RT_sc9 rfl (fun w hH => (hH.use hS).f) (getMap sv S.fi [] (j := q) (by omega))) ?_
  refine Wl.know 23 (v' := sv (S.sq.f q)) rfl rfl ?_
  refine Wl.q rfl rfl (OpQ.move rfl) ?_
  refine Wl.g rfl rfl (OpG.callV RT_go76 rfl (fun w hH => over_spec w (S.sq.f q) (hv.tf q (by rw [S.n_eq]; omega)).1 u hu (ho.f q (by rw [S.n_eq]; omega)))) ?_
  rintro _ _
  refine Wl.know 25 (v' := .bool true) rfl (congrArg Value.bool rfl) ?_
  refine Wl.q rfl rfl (OpQ.not rfl) ?_
  refine Wl.nil ?_
  refine PX.then_n ?_
  refine CT.condF rfl ?_
  refine CT.skip ?_
  refine PX.then_n ?_
  refine CT.seq ?_
  refine CT.region ?_
  refine Wl.q rfl rfl (OpQ.fieldAddr RT_fa30_4 rfl) ?_
  refine Wl.q rfl rfl (OpQ.loadF (b := b2) RT_sc26 rfl (by repeat (first | exact Has.here | apply Has.there)) (by rfl)) ?_
  refine Wl.q rfl rfl (OpQ.move rfl) ?_
  refine Wl.q rfl rfl (OpQ.index1 RT_un26 RT_sz28 rfl rfl (by omega) (hos (by omega))) ?_
  refine Wl.q rfl rfl (OpQ.loadG RT_sc28 rfl (fun w hH => (hH.use hS).o) (getMap rxv S.os rx0 (j := q) (by omega))) ?_
  refine Wl.q rfl rfl (OpQ.len RT_un28 rfl) ?_
  refine Wl.know 32 (v' := .int .i64 ((S.L : Nat) : Int)) rfl (congrArg (Value.int .i64) (by rw [hol])) ?_
  refine Wl.q rfl rfl (OpQ.move rfl) ?_
  refine Wl.nil ?_
  refine PX.then_n ?_
  refine CT.block ?_
  refine CT.loop (ι := Nat) (fun x => x ≤ S.L) (fun x => [(1, .int .i64 ((u : Nat) : Int)), (2, .pointer (some ⟨b2, 0, none⟩)), (15, .int .i64 ((S.rs.length : Nat) : Int)), (16, .int .i64 ((q : Nat) : Int)), (31, rxv (S.os.getD q rx0)), (32, .int .i64 ((S.L : Nat) : Int)), (33, .int .i64 ((x : Nat) : Int))]) (fun _ => [.row 30 7 (vb b2) 1 (svc S)]) (fun x => S.L - x) 0 (Nat.zero_le _) ⟨rfl, rfl, rfl, rfl, rfl, rfl, rfl, trivial⟩ (HSub.refl _) (fun x hx K1 hK1 => ?_)
  refine CT.seq ?_
  refine CT.region ?_
  refine Wl.q rfl rfl (OpQ.lss rfl rfl) ?_
  refine Wl.nil ?_
  refine PX.then_n ?_
  refine CT.seq ?_
  refine CT.cond rfl (fun h34 => ?_) (fun h34 => ?_)
  ·
   have h34 := of_decide_eq_true h34
   refine CT.skip ?_
   refine PX.then_n ?_
   refine CT.seq ?_
   refine CT.block ?_
   refine CT.seq ?_
   refine CT.region ?_
   refine Wl.q rfl rfl (OpQ.index1 RT_un28 RT_sz9 rfl rfl (by omega) (hus q (by omega) (by omega))) ?_
   refine Wl.q rfl rfl (OpQ.loadG RT_sc9 rfl (fun w hH => (hH.use hS).u _ (getDm (show q < S.os.length by omega))) (getMap sv (S.os.getD q rx0).xs [] (j := x) (by omega))) ?_
   refine Wl.know 36 (v' := sv (S.sq.o q x)) rfl (congrArg sv (S.o_eq q x).symm) ?_
   refine Wl.q rfl rfl (OpQ.assign rfl) ?_
   refine Wl.nil ?_
   refine PX.then_n ?_
   refine CT.seq ?_
   refine CT.region ?_
   refine Wl.q rfl rfl (OpQ.move rfl) ?_
   refine Wl.q rfl rfl (OpQ.move rfl) ?_
   refine Wl.g rfl rfl (OpG.callV RT_go76 rfl (fun w hH => over_spec w (S.sq.o q x) (hv.to' q x (by rw [S.n_eq]; omega) (show x < S.L by omega)).1 u hu (ho.o q x (by rw [S.n_eq]; omega) (show x < S.L by omega)))) ?_
   rintro _ _
   refine Wl.know 39 (v' := .bool true) rfl (congrArg Value.bool rfl) ?_
   refine Wl.q rfl rfl (OpQ.not rfl) ?_
   refine Wl.nil ?_
   refine PX.then_n ?_
   refine CT.condF rfl ?_
   refine CT.skip ?_
   refine PX.block_n ?_
   refine PX.then_n ?_
   refine CT.region ?_
   refine Wl.q rfl rfl (OpQ.add rfl rfl (by omega)) ?_
   refine Wl.q rfl rfl (OpQ.move rfl) ?_
   refine Wl.nil ?_
   exact PX.loop hK1 (x + 1) (by omega) (by first | omega | (dsimp only; omega)) ⟨rfl, rfl, rfl, rfl, rfl, rfl, rfl, trivial⟩ (HSub.refl _)
  ·
   have h34 := of_decide_eq_false h34
   refine CT.exit ?_
   refine PX.then_x ?_
   refine PX.then_x ?_
   refine PX.block_x ?_
   refine PX.block_n ?_
   refine PX.then_n ?_
   refine CT.region ?_
   refine Wl.q rfl rfl (OpQ.add rfl rfl (by omega)) ?_
   refine Wl.q rfl rfl (OpQ.move rfl) ?_
   refine Wl.nil ?_
   exact PX.loop hK0 (q + 1) (by omega) (by first | omega | (dsimp only; omega)) ⟨rfl, rfl, rfl, rfl, trivial⟩ (HSub.refl _)
 ·
  have h17 := of_decide_eq_false h17
  refine CT.exit ?_
  refine PX.then_x ?_
  refine PX.then_x ?_
  refine PX.block_x ?_
  refine PX.then_n ?_
  refine CT.seq ?_
  refine CT.region ?_
  refine Wl.q rfl rfl (OpQ.assign rfl) ?_
  refine Wl.nil ?_
  refine PX.then_n ?_
  refine CT.ret ?_
  refine PX.ret1 rfl rfl (fun w' hH => ?_)
  exact ⟨rfl, hH.ext⟩

theorem RT_un69 : Try.prog.underlying 69 = some (.slice 5) := by kernel_rfl
theorem RT_in5 : (Try.prog.info? 5).map (fun i => (i.zero, i.size, i.bytes)) = some (some (.int .u8 0), 1, 1) := by kernel_rfl
theorem RT_sz22 : sizeB Try.prog 22 = some 1 := by kernel_rfl
theorem RT_sc22 : scalarB Try.prog 22 = some true := by kernel_rfl
theorem RT_un22 : Try.prog.underlying 22 = some (.slice 3) := by kernel_rfl
theorem RT_sz3 : sizeB Try.prog 3 = some 1 := by kernel_rfl
theorem RT_sc3 : scalarB Try.prog 3 = some true := by kernel_rfl
theorem RT_mixed : Try.prog.follows .mixedOrders = true := by kernel_rfl
set_option maxRecDepth 100000 in
/-- semigroup/sequential.follow -/
theorem follow_spec (w : World) {M : Nat} (S : Sv) (hS : Stays [] w (svm S)) (hv : S.sq.Ok M) (q0 : Nat) (hq0 : q0 < S.rs.length) {B : Nat} (ws : Wd) (hws : okT B ws) (ho : okO S.L ws) (hBM : B * M ≤ 4096) (hwlen : ws.length ≤ 1000000) : Calls Try.prog 40 #[svv S, .int .i64 ((q0 : Nat) : Int), sv ws] w (fun e w' => e = .returned (flv (S.sq.tr.run q0 (wl ws))) ∧ Ext [] w w') := by
 obtain ⟨hb1, hb2, hb3, hb4⟩ := hv.bnd
 obtain ⟨hlo, hle, hlf⟩ := hv.lens
 have hns : 0 < S.rs.length → S.na.isSome = true := fun h => hS.now.n.isSome (j := 0) (by rw [List.length_map]; exact h)
 have hos : 0 < S.os.length → S.oa.isSome = true := fun h => hS.now.o.isSome (j := 0) (by rw [List.length_map]; exact h)
 have hes : 0 < S.en.length → S.ea.isSome = true := fun h => hS.now.e.isSome (j := 0) (by rw [List.length_map]; exact h)
 have hfs : 0 < S.fi.length → S.fa.isSome = true := fun h => hS.now.f.isSome (j := 0) (by rw [List.length_map]; exact h)
 have hrs : ∀ q, q < S.rs.length → 0 < (S.rs.getD q rx0).xs.length → (S.rs.getD q rx0).a.isSome = true := fun q hq h => (hS.now.r _ (getDm hq)).isSome (j := 0) (by rw [List.length_map]; exact h)
 have hus : ∀ q, q < S.os.length → 0 < (S.os.getD q rx0).xs.length → (S.os.getD q rx0).a.isSome = true := fun q hq h => (hS.now.u _ (getDm hq)).isSome (j := 0) (by rw [List.length_map]; exact h)
 have hwl1 := hws.1
 have hB6 : ws.length ≤ 1000000 := hwlen
 refine enter (args := [svv S, .int .i64 ((q0 : Nat) : Int), sv ws]) [] 55 Try.func40 rfl rfl rfl ?_
 refine CT.seq ?_
 refine CT.region ?_
 refine Wl.g rfl rfl (OpG.box (size := 7) rfl rfl rfl) ?_
 rintro b3 _
 refine Wl.q rfl rfl (OpQ.assign rfl) ?_
 refine Wl.q rfl rfl (OpQ.assign rfl) ?_
 refine Wl.q rfl rfl (OpQ.assign rfl) ?_
 refine Wl.nil ?_
 refine PX.then_n ?_
 refine CT.seq ?_
 refine CT.region ?_
 refine Wl.q rfl rfl (OpQ.assign rfl) ?_
 refine Wl.nil ?_
 refine PX.then_n ?_
 refine CT.seq ?_
 refine CT.seq ?_
 refine CT.region ?_
 refine Wl.q rfl rfl (OpQ.move rfl) ?_
 refine Wl.q rfl rfl (OpQ.lenSv RT_un9 rfl) ?_
 refine Wl.q rfl rfl (OpQ.move rfl) ?_
 refine Wl.nil ?_
 refine PX.then_n ?_
 refine CT.block ?_
 refine CT.nilrow 5 1 ?_
 refine CT.loop (ι := Nat × Nat × Wd × Option Addr × Nat) (fun (k, q, l, a', c') => k ≤ ws.length ∧ q < S.rs.length ∧ S.sq.tr.run q0 ((wl ws).take k) = some (q, l) ∧ (a'.isSome = true → c' ≠ 0) ∧ l.length ≤ k * M) (fun (k, q, l, a', c') => [(1, .int .i64 ((q : Nat) : Int)), (2, sv ws), (3, .pointer (some ⟨b3, 0, none⟩)), (9, .slice a' l.length c'), (13, .int .i64 ((ws.length : Nat) : Int)), (14, .int .i64 ((k : Nat) : Int))]) (fun (k, q, l, a', c') => [.row 5 1 (.slice a' (l).length c') (l).length ((l).map bv), .row 30 7 (vb b3) 1 (svc S)]) (fun (k, q, l, a', c') => ws.length - k) (0, q0, [], none, 0) ⟨Nat.zero_le _, hq0, rfl, (fun h => by cases h), Nat.zero_le _⟩ ⟨rfl, rfl, rfl, rfl, rfl, rfl, trivial⟩ (HSub.refl _) (fun ⟨k, q, l, a', c'⟩ ⟨hk, hq, hrun, hc, hll⟩ K0 hK0 => ?_)
 dsimp only
 refine CT.seq ?_
 refine CT.region ?_
 refine Wl.q rfl rfl (OpQ.lss rfl rfl) ?_
 refine Wl.nil ?_
 refine PX.then_n ?_
 refine CT.seq ?_
 refine CT.cond rfl (fun h15 => ?_) (fun h15 => ?_)
 ·
  have h15 := of_decide_eq_true h15
  have hkl : k < ws.length := by omega
  have hbb := hws.2 _ (getDm (d := 0) hkl)
  have hbo := ho _ (getDm (d := 0) hkl)
  have hxL : ((ws.getD k 0).toNat - 97) < S.L := by omega
  have hqn : q < S.sq.n := by rw [S.n_eq]; exact hq
  have hrl := hv.rlen (q := q) (by omega)
  have hol := hv.olen (q := q) (by omega)
  have hot := (hv.to' q ((ws.getD k 0).toNat - 97) hqn hxL).1
  have hwlB := hws.1
  have hkM : (k + 1) * M ≤ B * M := Nat.mul_le_mul_right _ (by omega)
  have hkM2 : (k + 1) * M = k * M + M := by rw [Nat.add_mul, Nat.one_mul]
  refine CT.skip ?_
  refine PX.then_n ?_
  refine CT.seq ?_
  refine CT.block ?_
  refine CT.seq ?_
  refine CT.region ?_
  refine Wl.q rfl rfl (OpQ.move rfl) ?_
  refine Wl.q rfl rfl (OpQ.assign rfl) ?_
  refine Wl.nil ?_
  refine PX.then_n ?_
  refine CT.seq ?_
  refine CT.region ?_
  refine Wl.q rfl rfl (OpQ.move rfl) ?_
  refine Wl.q rfl rfl (OpQ.move rfl) ?_
  refine Wl.q rfl rfl (OpQ.indexSvN RT_un9 rfl rfl (by omega)) ?_
  refine Wl.q rfl rfl (OpQ.sub8 rfl rfl (by omega)) ?_
  refine Wl.know 20 (v' := .int .u8 ((((ws.getD k 0).toNat - 97) : Nat) : Int)) rfl (congrArg (Value.int .u8) (by omega)) ?_
  refine Wl.q rfl rfl (OpQ.assign rfl) ?_
  refine Wl.nil ?_
  refine PX.then_n ?_
  refine CT.seq ?_
  refine CT.seq ?_
  refine CT.region ?_
  refine Wl.q rfl rfl (OpQ.fieldAddr RT_fa30_3 rfl) ?_
  refine Wl.q rfl rfl (OpQ.loadF (b := b3) RT_sc25 rfl (by repeat (first | exact Has.here | apply Has.there)) (by rfl)) ?_
  refine Wl.q rfl rfl (OpQ.move rfl) ?_
  refine Wl.q rfl rfl (OpQ.index1 RT_un25 RT_sz22 rfl rfl (by omega) (hns (by omega))) ?_
  refine Wl.q rfl rfl (OpQ.loadG RT_sc22 rfl (fun w hH => (hH.use hS).n) (getMap rxv S.rs rx0 (j := q) (by omega))) ?_
  refine Wl.q rfl rfl (OpQ.move rfl) ?_
  refine Wl.q rfl rfl (OpQ.indexK1 RT_un22 RT_sz3 rfl rfl (by omega) (hrs q (by omega) (by omega))) ?_
  refine Wl.q rfl rfl (OpQ.loadG RT_sc3 rfl (fun w hH => (hH.use hS).r _ (getDm (show q < S.rs.length by omega))) (getMap zo (S.rs.getD q rx0).xs none (j := ((ws.getD k 0).toNat - 97)) (by omega))) ?_
  refine Wl.know 28 (v' := zo (S.sq.to q ((ws.getD k 0).toNat - 97))) rfl (congrArg zo (S.to_eq q ((ws.getD k 0).toNat - 97)).symm) ?_
  refine Wl.q rfl rfl (OpQ.eql rfl rfl) ?_
  refine Wl.nil ?_
  refine PX.then_n ?_
  refine CT.cond rfl (fun h29 => ?_) (fun h29 => ?_)
  ·
   have h29 := of_decide_eq_true h29
   have hdead := run_deadQ hkl hrun (oi_neg.1 h29)
   refine CT.seq ?_
   refine CT.region ?_
   refine Wl.q rfl rfl (OpQ.assign rfl) ?_
   refine Wl.q rfl rfl (OpQ.assign rfl) ?_
   refine Wl.q rfl rfl (OpQ.assign rfl) ?_
   refine Wl.nil ?_
   refine PX.then_n ?_
   refine CT.ret ?_
   refine PX.then_r ?_
   refine PX.block_r ?_
   refine PX.then_r ?_
   refine PX.then_r ?_
   refine PX.block_r ?_
   refine PX.then_r ?_
   refine PX.ret3 rfl rfl rfl rfl (fun w' hH => ?_)
   exact ⟨by rw [hdead]; rfl, hH.ext⟩
  ·
   have h29 := of_decide_eq_false h29
   obtain ⟨r, hto⟩ := oi_some h29
   have hr := hv.lt q ((ws.getD k 0).toNat - 97) r hqn hxL hto
   have hrn : r < S.rs.length := by rw [← S.n_eq]; exact hr
   refine CT.skip ?_
   refine PX.then_n ?_
   refine CT.seq ?_
   refine CT.seq ?_
   refine CT.region ?_
   refine Wl.q rfl rfl (OpQ.move rfl) ?_
   refine Wl.q rfl rfl (OpQ.len RT_un69 rfl) ?_
   refine Wl.q rfl rfl (OpQ.leq rfl rfl) ?_
   refine Wl.know 32 (v' := .bool true) rfl (congrArg Value.bool (decide_eq_true (by omega))) ?_
   refine Wl.nil ?_
   refine PX.then_n ?_
   refine CT.condT rfl ?_
   refine CT.region ?_
   refine Wl.q rfl rfl (OpQ.move rfl) ?_
   refine Wl.q rfl rfl (OpQ.fieldAddr RT_fa30_4 rfl) ?_
   refine Wl.q rfl rfl (OpQ.loadF (b := b3) RT_sc26 rfl (by repeat (first | exact Has.here | apply Has.there)) (by rfl)) ?_
   refine Wl.q rfl rfl (OpQ.move rfl) ?_
   refine Wl.q rfl rfl (OpQ.index1 RT_un26 RT_sz28 rfl rfl (by omega) (hos (by omega))) ?_
   refine Wl.q rfl rfl (OpQ.loadG RT_sc28 rfl (fun w hH => (hH.use hS).o) (getMap rxv S.os rx0 (j := q) (by omega))) ?_
   refine Wl.q rfl rfl (OpQ.move rfl) ?_
   refine Wl.q rfl rfl (OpQ.indexK1 RT_un28 RT_sz9 rfl rfl (by omega) (hus q (by omega) (by omega))) ?_
   refine Wl.q rfl rfl (OpQ.loadG RT_sc9 rfl (fun w hH => (hH.use hS).u _ (getDm (show q < S.os.length by omega))) (getMap sv (S.os.getD q rx0).xs [] (j := ((ws.getD k 0).toNat - 97)) (by omega))) ?_
   refine Wl.know 41 (v' := sv (S.sq.o q ((ws.getD k 0).toNat - 97))) rfl (congrArg sv (S.o_eq q ((ws.getD k 0).toNat - 97)).symm) ?_
   refine Wl.g rfl rfl (OpG.appendS RT_un69 RT_un9 RT_in5 rfl rfl (p := 0) rfl hc (by omega) (nm := (l ++ S.sq.o q ((ws.getD k 0).toNat - 97)).length) (by rw [List.length_append]) (all := (l ++ S.sq.o q ((ws.getD k 0).toNat - 97)).map bv) (by rw [List.map_append])) ?_
   rintro ⟨a42, c42⟩ hc42
   dsimp only at hc42
   refine Wl.q rfl rfl (OpQ.assign rfl) ?_
   refine Wl.nil ?_
   refine PX.then_n ?_
   refine CT.region ?_
   refine Wl.q rfl rfl (OpQ.fieldAddr RT_fa30_3 rfl) ?_
   refine Wl.q rfl rfl (OpQ.loadF (b := b3) RT_sc25 rfl (by repeat (first | exact Has.here | apply Has.there)) (by rfl)) ?_
   refine Wl.q rfl rfl (OpQ.move rfl) ?_
   refine Wl.q rfl rfl (OpQ.index1 RT_un25 RT_sz22 rfl rfl (by omega) (hns (by omega))) ?_
   refine Wl.q rfl rfl (OpQ.loadG RT_sc22 rfl (fun w hH => (hH.use hS).n) (getMap rxv S.rs rx0 (j := q) (by omega))) ?_
   refine Wl.q rfl rfl (OpQ.move rfl) ?_
   refine Wl.q rfl rfl (OpQ.indexK1 RT_un22 RT_sz3 rfl rfl (by omega) (hrs q (by omega) (by omega))) ?_
   refine Wl.q rfl rfl (OpQ.loadG RT_sc3 rfl (fun w hH => (hH.use hS).r _ (getDm (show q < S.rs.length by omega))) (getMap zo (S.rs.getD q rx0).xs none (j := ((ws.getD k 0).toNat - 97)) (by omega))) ?_
   refine Wl.know 50 (v' := .int .i64 ((r : Nat) : Int)) rfl ((congrArg zo (S.to_eq q ((ws.getD k 0).toNat - 97)).symm).trans (by rw [hto]; rfl)) ?_
   refine Wl.q rfl rfl (OpQ.assign rfl) ?_
   refine Wl.nil ?_
   refine PX.block_n ?_
   refine PX.then_n ?_
   refine CT.region ?_
   refine Wl.q rfl rfl (OpQ.add rfl rfl (by omega)) ?_
   refine Wl.q rfl rfl (OpQ.move rfl) ?_
   refine Wl.nil ?_
   exact PX.loop hK0 (k + 1, r, l ++ S.sq.o q ((ws.getD k 0).toNat - 97), a42, c42) ⟨by omega, hrn, run_stepQ hkl hrun hto, hc42, by rw [List.length_append]; omega⟩ (show ws.length - (k + 1) < ws.length - k by omega) ⟨rfl, rfl, rfl, rfl, rfl, rfl, trivial⟩ (HSub.refl _)
 ·
  have h15 := of_decide_eq_false h15
  obtain rfl : k = ws.length := by omega
  have hend := run_endQ hrun
  refine CT.exit ?_
  refine PX.then_x ?_
  refine PX.then_x ?_
  refine PX.block_x ?_
  refine PX.then_n ?_
  refine CT.seq ?_
  refine CT.draw 6 RT_mixed ?_
  refine RA.q 0 (by kernel_rfl) rfl rfl rfl (.refl _) (OpQ.move rfl) ?_
  refine RA.q 1 (by kernel_rfl) rfl rfl rfl (.refl _) (OpQ.move rfl) ?_
  refine RA.q 2 (by kernel_rfl) rfl rfl rfl (.refl _) (OpQ.convBS (l := l) RT_un69 RT_un5 RT_un9 rfl (fun w hH => hH.rd .here)) ?_
  refine RA.q 3 (by kernel_rfl) rfl rfl rfl (.refl _) (OpQ.assign rfl) ?_
  refine RA.q 4 (by kernel_rfl) rfl rfl rfl (.refl _) (OpQ.assign rfl) ?_
  refine RA.q 5 (by kernel_rfl) rfl rfl rfl (.refl _) (OpQ.assign rfl) ?_
  refine RA.tail ?_
  refine RT.done (by kernel_rfl) ?_
  refine PX.then_n ?_
  refine CT.ret ?_
  refine PX.ret3 rfl rfl rfl rfl (fun w' hH => ?_)
  exact ⟨by rw [hend]; rfl, hH.ext⟩

end Go.Proofs.Ytamolakhpcofhaa

