/-
  What functions of the program compute, each by its walk. Conditions: those that each theorem names.
-/
import Derived.Test.YtamolakhpcofhaaMod1
import Derived.Test.YtamolakhpcofhaaXE2
import Derived.Test.YtamolakhpcofhaaXE6
set_option linter.unusedSimpArgs false
namespace Go.Proofs.Ytamolakhpcofhaa
open Go Go.Eng Go.Am Go.Sq
open Go.Tp (zi)
open Go.Tl (mayL Wd okW okB bo)

theorem RT_un9 : Try.prog.underlying 9 = some .string := by kernel_rfl
theorem RT_un5 : Try.prog.underlying 5 = some (.int .u8) := by kernel_rfl
theorem RT_un3 : Try.prog.underlying 3 = some (.int .i64) := by kernel_rfl
set_option maxRecDepth 100000 in
/-- semigroup/sequential.over -/
theorem over_spec (w : World) (s : Wd) (hl : s.length ≤ 4096) (u : Nat) (hu : u ≤ 6) (h : okO u s) : Calls Try.prog 76 #[sv s, .int .i64 ((u : Nat) : Int)] w (fun e w' => e = .returned (.bool true) ∧ Ext [] w w') := by
 refine enter (args := [sv s, .int .i64 ((u : Nat) : Int)]) [] 19 Try.func76 rfl rfl rfl ?_
 refine CT.seq ?_
 refine CT.region ?_
 refine Wl.q rfl rfl (OpQ.assign rfl) ?_
 refine Wl.nil ?_
 refine PX.then_n ?_
 refine CT.seq ?_
 refine CT.seq ?_
 refine CT.region ?_
 refine Wl.q rfl rfl (OpQ.move rfl) ?_
 refine Wl.q rfl rfl (OpQ.lenSv RT_un9 rfl) ?_
 refine Wl.q rfl rfl (OpQ.move rfl) ?_
 refine Wl.nil ?_
 refine PX.then_n ?_
 refine CT.block ?_
 refine CT.loop (ι := Nat) (fun k => k ≤ s.length) (fun k => [(0, sv s), (1, .int .i64 ((u : Nat) : Int)), (7, .int .i64 ((s.length : Nat) : Int)), (8, .int .i64 ((k : Nat) : Int))]) (fun _ => []) (fun k => s.length - k) 0 (Nat.zero_le _) ⟨rfl, rfl, rfl, rfl, trivial⟩ (HSub.none _) (fun k hk K0 hK0 => ?_)
 refine CT.seq ?_
 refine CT.region ?_
 refine Wl.q rfl rfl (OpQ.lss rfl rfl) ?_
 refine Wl.nil ?_
 refine PX.then_n ?_
 refine CT.seq ?_
 refine CT.cond rfl (fun h9 => ?_) (fun h9 => ?_)
 ·
  have h9 := of_decide_eq_true h9
  have hbb := h _ (getDm (show k < s.length by omega) (d := 0))
  refine CT.skip ?_
  refine PX.then_n ?_
  refine CT.seq ?_
  refine CT.block ?_
  refine CT.seq ?_
  refine CT.region ?_
  refine Wl.q rfl rfl (OpQ.move rfl) ?_
  refine Wl.q rfl rfl (OpQ.assign rfl) ?_
  refine Wl.nil ?_
  refine PX.then_n ?_
  refine CT.seq ?_
  refine CT.region ?_
  refine Wl.q rfl rfl (OpQ.move rfl) ?_
  refine Wl.q rfl rfl (OpQ.move rfl) ?_
  refine Wl.q rfl rfl (OpQ.indexSvN RT_un9 rfl rfl (by omega)) ?_
  refine Wl.q rfl rfl (OpQ.conv rfl (conv_u8_i64 RT_un5 RT_un3 _ (by omega))) ?_
  refine Wl.q rfl rfl (OpQ.move rfl) ?_
  refine Wl.q rfl rfl (OpQ.add rfl rfl (by omega)) ?_
  refine Wl.q rfl rfl (OpQ.geq rfl rfl) ?_
  refine Wl.know 17 (v' := .bool false) rfl (congrArg Value.bool (decide_eq_false (by omega))) ?_
  refine Wl.nil ?_
  refine PX.then_n ?_
  refine CT.condF rfl ?_
  refine CT.skip ?_
  refine PX.block_n ?_
  refine PX.then_n ?_
  refine CT.region ?_
  refine Wl.q rfl rfl (OpQ.add rfl rfl (by omega)) ?_
  refine Wl.q rfl rfl (OpQ.move rfl) ?_
  refine Wl.nil ?_
  exact PX.loop hK0 (k + 1) (by omega) (by first | omega | (dsimp only; omega)) ⟨rfl, rfl, rfl, rfl, trivial⟩ (HSub.none _)
 ·
  have h9 := of_decide_eq_false h9
  refine CT.exit ?_
  refine PX.then_x ?_
  refine PX.then_x ?_
  refine PX.block_x ?_
  refine PX.then_n ?_
  refine CT.seq ?_
  refine CT.region ?_
  refine Wl.q rfl rfl (OpQ.assign rfl) ?_
  refine Wl.nil ?_
  refine PX.then_n ?_
  refine CT.ret ?_
  refine PX.ret1 rfl rfl (fun w' hH => ?_)
  exact ⟨rfl, hH.ext⟩

theorem RT_fa30_2 : fieldB Try.prog 30 2 = some 2 := by kernel_rfl
theorem RT_sc9 : scalarB Try.prog 9 = some true := by kernel_rfl
theorem RT_go76 : isGo Try.prog 76 = true := by kernel_rfl
theorem RT_fa30_3 : fieldB Try.prog 30 3 = some 3 := by kernel_rfl
theorem RT_sc25 : scalarB Try.prog 25 = some true := by kernel_rfl
theorem RT_un25 : Try.prog.underlying 25 = some (.slice 22) := by kernel_rfl
theorem RT_fa30_6 : fieldB Try.prog 30 6 = some 6 := by kernel_rfl
theorem RT_sc28 : scalarB Try.prog 28 = some true := by kernel_rfl
theorem RT_un28 : Try.prog.underlying 28 = some (.slice 9) := by kernel_rfl
theorem RT_sz9 : sizeB Try.prog 9 = some 1 := by kernel_rfl
theorem RT_fa30_4 : fieldB Try.prog 30 4 = some 4 := by kernel_rfl
theorem RT_sc26 : scalarB Try.prog 26 = some true := by kernel_rfl
theorem RT_un26 : Try.prog.underlying 26 = some (.slice 28) := by kernel_rfl
theorem RT_sz28 : sizeB Try.prog 28 = some 1 := by kernel_rfl
set_option maxRecDepth 100000 in
/-- semigroup/sequential.writesOver -/
theorem wover_spec (w : World) (S : Sv) (hS : Stays [] w (svm S)) (hv : S.sq.Ok 4096) (u : Nat) (hu : u ≤ 6) (ho : S.sq.Over u) : Calls Try.prog 39 #[svv S, .int .i64 ((u : Nat) : Int)] w (fun e w' => e = .returned (.bool true) ∧ Ext [] w w') := by
 obtain ⟨hb1, hb2, hb3, hb4⟩ := hv.bnd
 obtain ⟨hlo, hle, hlf⟩ := hv.lens
 have hns : 0 < S.rs.length → S.na.isSome = true := fun h => hS.now.n.isSome (j := 0) (by rw [List.length_map]; exact h)
 have hos : 0 < S.os.length → S.oa.isSome = true := fun h => hS.now.o.isSome (j := 0) (by rw [List.length_map]; exact h)
 have hes : 0 < S.en.length → S.ea.isSome = true := fun h => hS.now.e.isSome (j := 0) (by rw [List.length_map]; exact h)
 have hfs : 0 < S.fi.length → S.fa.isSome = true := fun h => hS.now.f.isSome (j := 0) (by rw [List.length_map]; exact h)
 have hrs : ∀ q, q < S.rs.length → 0 < (S.rs.getD q rx0).xs.length → (S.rs.getD q rx0).a.isSome = true := fun q hq h => (hS.now.r _ (getDm hq)).isSome (j := 0) (by rw [List.length_map]; exact h)
 have hus : ∀ q, q < S.os.length → 0 < (S.os.getD q rx0).xs.length → (S.os.getD q rx0).a.isSome = true := fun q hq h => (hS.now.u _ (getDm hq)).isSome (j := 0) (by rw [List.length_map]; exact h)
 refine enter (args := [svv S, .int .i64 ((u : Nat) : Int)]) [] 43 Try.func39 rfl rfl rfl ?_
 refine CT.seq ?_
 refine CT.region ?_
 refine Wl.g rfl rfl (OpG.box (size := 7) rfl rfl rfl) ?_
 rintro b2 _
 refine Wl.q rfl rfl (OpQ.assign rfl) ?_
 refine Wl.nil ?_
 refine PX.then_n ?_
 refine CT.seq ?_
 refine CT.seq ?_
 refine CT.region ?_
 refine Wl.q rfl rfl (OpQ.fieldAddr RT_fa30_2 rfl) ?_
 refine Wl.q rfl rfl (OpQ.loadF (b := b2) RT_sc9 rfl (by repeat (first | exact Has.here | apply Has.there)) (by rfl)) ?_
 refine Wl.q rfl rfl (OpQ.move rfl) ?_
 refine Wl.g rfl rfl (OpG.callV RT_go76 rfl (fun w hH => over_spec w S.init hv.ti.1 u hu ho.i)) ?_
 rintro _ _
 refine Wl.know 11 (v' := .bool true) rfl (congrArg Value.bool rfl) ?_
 refine Wl.q rfl rfl (OpQ.not rfl) ?_
 refine Wl.nil ?_
 refine PX.then_n ?_
 refine CT.condF rfl ?_
 refine CT.skip ?_
 refine PX.then_n ?_
 refine CT.seq ?_
 refine CT.seq ?_
 refine CT.region ?_
 refine Wl.q rfl rfl (OpQ.fieldAddr RT_fa30_3 rfl) ?_
 refine Wl.q rfl rfl (OpQ.loadF (b := b2) RT_sc25 rfl (by repeat (first | exact Has.here | apply Has.there)) (by rfl)) ?_
 refine Wl.q rfl rfl (OpQ.len RT_un25 rfl) ?_
 refine Wl.q rfl rfl (OpQ.move rfl) ?_
 refine Wl.nil ?_
 refine PX.then_n ?_
 refine CT.block ?_
 refine CT.loop (ι := Nat) (fun q => q ≤ S.rs.length) (fun q => [(1, .int .i64 ((u : Nat) : Int)), (2, .pointer (some ⟨b2, 0, none⟩)), (15, .int .i64 ((S.rs.length : Nat) : Int)), (16, .int .i64 ((q : Nat) : Int))]) (fun _ => [.row 30 7 (vb b2) 1 (svc S)]) (fun q => S.rs.length - q) 0 (Nat.zero_le _) ⟨rfl, rfl, rfl, rfl, trivial⟩ (HSub.refl _) (fun q hq K0 hK0 => ?_)
 refine CT.seq ?_
 refine CT.region ?_
 refine Wl.q rfl rfl (OpQ.lss rfl rfl) ?_
 refine Wl.nil ?_
 refine PX.then_n ?_
 refine CT.seq ?_
 refine CT.cond rfl (fun h17 => ?_) (fun h17 => ?_)
 ·
  have h17 := of_decide_eq_true h17
  have hrl := hv.rlen (q := q) (by omega)
  have hol := hv.olen (q := q) (by omega)
  refine CT.skip ?_
  refine PX.then_n ?_
  refine CT.seq ?_
  refine CT.block ?_
  refine CT.seq ?_
  refine CT.region ?_
  refine Wl.q rfl rfl (OpQ.move rfl) ?_
  refine Wl.q rfl rfl (OpQ.assign rfl) ?_
  refine Wl.nil ?_
  refine PX.then_n ?_
  refine CT.seq ?_
  refine CT.seq ?_
  refine CT.region ?_
  refine Wl.q rfl rfl (OpQ.fieldAddr RT_fa30_6 rfl) ?_
  refine Wl.q rfl rfl (OpQ.loadF (b := b2) RT_sc28 rfl (by repeat (first | exact Has.here | apply Has.there)) (by rfl)) ?_
  refine Wl.q rfl rfl (OpQ.move rfl) ?_
  refine Wl.q rfl rfl (OpQ.index1 RT_un28 RT_sz9 rfl rfl (by omega) (hfs (by omega))) ?_
  refine Wl.q rfl rfl (OpQ.loadG RT_sc9 rfl (fun w hH => (hH.use hS).f) (getMap sv S.fi [] (j := q) (by omega))) ?_
  refine Wl.know 23 (v' := sv (S.sq.f q)) rfl rfl ?_
  refine Wl.q rfl rfl (OpQ.move rfl) ?_
  refine Wl.g rfl rfl (OpG.callV RT_go76 rfl (fun w hH => over_spec w (S.sq.f q) (hv.tf q (by rw [S.n_eq]; omega)).1 u hu (ho.f q (by rw [S.n_eq]; omega)))) ?_
  rintro _ _
  refine Wl.know 25 (v' := .bool true) rfl (congrArg Value.bool rfl) ?_
  refine Wl.q rfl rfl (OpQ.not rfl) ?_
  refine Wl.nil ?_
  refine PX.then_n ?_
  refine CT.condF rfl ?_
  refine CT.skip ?_
  refine PX.then_n ?_
  refine CT.seq ?_
  refine CT.region ?_
  refine Wl.q rfl rfl (OpQ.fieldAddr RT_fa30_4 rfl) ?_
  refine Wl.q rfl rfl (OpQ.loadF (b := b2) RT_sc26 rfl (by repeat (first | exact Has.here | apply Has.there)) (by rfl)) ?_
  refine Wl.q rfl rfl (OpQ.move rfl) ?_
  refine Wl.q rfl rfl (OpQ.index1 RT_un26 RT_sz28 rfl rfl (by omega) (hos (by omega))) ?_
  refine Wl.q rfl rfl (OpQ.loadG RT_sc28 rfl (fun w hH => (hH.use hS).o) (getMap rxv S.os rx0 (j := q) (by omega))) ?_
  refine Wl.q rfl rfl (OpQ.len RT_un28 rfl) ?_
  refine Wl.know 32 (v' := .int .i64 ((S.L : Nat) : Int)) rfl (congrArg (Value.int .i64) (by rw [hol])) ?_
  refine Wl.q rfl rfl (OpQ.move rfl) ?_
  refine Wl.nil ?_
  refine PX.then_n ?_
  refine CT.block ?_
  refine CT.loop (ι := Nat) (fun x => x ≤ S.L) (fun x => [(1, .int .i64 ((u : Nat) : Int)), (2, .pointer (some ⟨b2, 0, none⟩)), (15, .int .i64 ((S.rs.length : Nat) : Int)), (16, .int .i64 ((q : Nat) : Int)), (31, rxv (S.os.getD q rx0)), (32, .int .i64 ((S.L : Nat) : Int)), (33, .int .i64 ((x : Nat) : Int))]) (fun _ => [.row 30 7 (vb b2) 1 (svc S)]) (fun x => S.L - x) 0 (Nat.zero_le _) ⟨rfl, rfl, rfl, rfl, rfl, rfl, rfl, trivial⟩ (HSub.refl _) (fun x hx K1 hK1 => ?_)
  refine CT.seq ?_
  refine CT.region ?_
  refine Wl.q rfl rfl (OpQ.lss rfl rfl) ?_
  refine Wl.nil ?_
  refine PX.then_n ?_
  refine CT.seq ?_
  refine CT.cond rfl (fun h34 => ?_) (fun h34 => ?_)
  ·
   have h34 := of_decide_eq_true h34
   refine CT.skip ?_
   refine PX.then_n ?_
   refine CT.seq ?_
   refine CT.block ?_
   refine CT.seq ?_
   refine CT.region ?_
   refine Wl.q rfl rfl (OpQ.index1 RT_un28 RT_sz9 rfl rfl (by omega) (hus q (by omega) (by omega))) ?_
   refine Wl.q rfl rfl (OpQ.loadG RT_sc9 rfl (fun w hH => (hH.use hS).u _ (getDm (show q < S.os.length by omega))) (getMap sv (S.os.getD q rx0).xs [] (j := x) (by omega))) ?_
   refine Wl.know 36 (v' := sv (S.sq.o q x)) rfl (congrArg sv (S.o_eq q x).symm) ?_
   refine Wl.q rfl rfl (OpQ.assign rfl) ?_
   refine Wl.nil ?_
   refine PX.then_n ?_
   refine CT.seq ?_
   refine CT.region ?_
   refine Wl.q rfl rfl (OpQ.move rfl) ?_
   refine Wl.q rfl rfl (OpQ.move rfl) ?_
   refine Wl.g rfl rfl (OpG.callV RT_go76 rfl (fun w hH => over_spec w (S.sq.o q x) (hv.to' q x (by rw [S.n_eq]; omega) (show x < S.L by omega)).1 u hu (ho.o q x (by rw [S.n_eq]; omega) (show x < S.L by omega)))) ?_
   rintro _ _
   refine Wl.know 39 (v' := .bool true) rfl (congrArg Value.bool rfl) ?_
   refine Wl.q rfl rfl (OpQ.not rfl) ?_
   refine Wl.nil ?_
   refine PX.then_n ?_
   refine CT.condF rfl ?_
   refine CT.skip ?_
   refine PX.block_n ?_
   refine PX.then_n ?_
   refine CT.region ?_
   refine Wl.q rfl rfl (OpQ.add rfl rfl (by omega)) ?_
   refine Wl.q rfl rfl (OpQ.move rfl) ?_
   refine Wl.nil ?_
   exact PX.loop hK1 (x + 1) (by omega) (by first | omega | (dsimp only; omega)) ⟨rfl, rfl, rfl, rfl, rfl, rfl, rfl, trivial⟩ (HSub.refl _)
  ·
   have h34 := of_decide_eq_false h34
   refine CT.exit ?_
   refine PX.then_x ?_
   refine PX.then_x ?_
   refine PX.block_x ?_
   refine PX.block_n ?_
   refine PX.then_n ?_
   refine CT.region ?_
   refine Wl.q rfl rfl (OpQ.add rfl rfl (by omega)) ?_
   refine Wl.q rfl rfl (OpQ.move rfl) ?_
   refine Wl.nil ?_
   exact PX.loop hK0 (q + 1) (by omega) (by first | omega | (dsimp only; omega)) ⟨rfl, rfl, rfl, rfl, trivial⟩ (HSub.refl _)
 ·
  have h17 := of_decide_eq_false h17
  refine CT.exit ?_
  refine PX.then_x ?_
  refine PX.then_x ?_
  refine PX.block_x ?_
  refine PX.then_n ?_
  refine CT.seq ?_
  refine CT.region ?_
  refine Wl.q rfl rfl (OpQ.assign rfl) ?_
  refine Wl.nil ?_
  refine PX.then_n ?_
  refine CT.ret ?_
  refine PX.ret1 rfl rfl (fun w' hH => ?_)
  exact ⟨rfl, hH.ext⟩

theorem RT_un69 : Try.prog.underlying 69 = some (.slice 5) := by kernel_rfl
theorem RT_in5 : (Try.prog.info? 5).map (fun i => (i.zero, i.size, i.bytes)) = some (some (.int .u8 0), 1, 1) := by kernel_rfl
theorem RT_sz22 : sizeB Try.prog 22 = some 1 := by kernel_rfl
theorem RT_sc22 : scalarB Try.prog 22 = some true := by kernel_rfl
theorem RT_un22 : Try.prog.underlying 22 = some (.slice 3) := by kernel_rfl
theorem RT_sz3 : sizeB Try.prog 3 = some 1 := by kernel_rfl
theorem RT_sc3 : scalarB Try.prog 3 = some true := by kernel_rfl
theorem RT_mixed : Try.prog.follows .mixedOrders = true := by kernel_rfl
set_option maxRecDepth 100000 in
/-- semigroup/sequential.follow -/
theorem follow_spec (w : World) {M : Nat} (S : Sv) (hS : Stays [] w (svm S)) (hv : S.sq.Ok M) (q0 : Nat) (hq0 : q0 < S.rs.length) {B : Nat} (ws : Wd) (hws : okT B ws) (ho : okO S.L ws) (hBM : B * M ≤ 4096) (hwlen : ws.length ≤ 1000000) : Calls Try.prog 40 #[svv S, .int .i64 ((q0 : Nat) : Int), sv ws] w (fun e w' => e = .returned (flv (S.sq.tr.run q0 (wl ws))) ∧ Ext [] w w') := by
 obtain ⟨hb1, hb2, hb3, hb4⟩ := hv.bnd
 obtain ⟨hlo, hle, hlf⟩ := hv.lens
 have hns : 0 < S.rs.length → S.na.isSome = true := fun h => hS.now.n.isSome (j := 0) (by rw [List.length_map]; exact h)
 have hos : 0 < S.os.length → S.oa.isSome = true := fun h => hS.now.o.isSome (j := 0) (by rw [List.length_map]; exact h)
 have hes : 0 < S.en.length → S.ea.isSome = true := fun h => hS.now.e.isSome (j := 0) (by rw [List.length_map]; exact h)
 have hfs : 0 < S.fi.length → S.fa.isSome = true := fun h => hS.now.f.isSome (j := 0) (by rw [List.length_map]; exact h)
 have hrs : ∀ q, q < S.rs.length → 0 < (S.rs.getD q rx0).xs.length → (S.rs.getD q rx0).a.isSome = true := fun q hq h => (hS.now.r _ (getDm hq)).isSome (j := 0) (by rw [List.length_map]; exact h)
 have hus : ∀ q, q < S.os.length → 0 < (S.os.getD q rx0).xs.length → (S.os.getD q rx0).a.isSome = true := fun q hq h => (hS.now.u _ (getDm hq)).isSome (j := 0) (by rw [List.length_map]; exact h)
 have hwl1 := hws.1
 have hB6 : ws.length ≤ 1000000 := hwlen
 refine enter (args := [svv S, .int .i64 ((q0 : Nat) : Int), sv ws]) [] 55 Try.func40 rfl rfl rfl ?_
 refine CT.seq ?_
 refine CT.region ?_
 refine Wl.g rfl rfl (OpG.box (size := 7) rfl rfl rfl) ?_
 rintro b3 _
 refine Wl.q rfl rfl (OpQ.assign rfl) ?_
 refine Wl.q rfl rfl (OpQ.assign rfl) ?_
 refine Wl.q rfl rfl (OpQ.assign rfl) ?_
 refine Wl.nil ?_
 refine PX.then_n ?_
 refine CT.seq ?_
 refine CT.region ?_
 refine Wl.q rfl rfl (OpQ.assign rfl) ?_
 refine Wl.nil ?_
 refine PX.then_n ?_
 refine CT.seq ?_
 refine CT.seq ?_
 refine CT.region ?_
 refine Wl.q rfl rfl (OpQ.move rfl) ?_
 refine Wl.q rfl rfl (OpQ.lenSv RT_un9 rfl) ?_
 refine Wl.q rfl rfl (OpQ.move rfl) ?_
 refine Wl.nil ?_
 refine PX.then_n ?_
 refine CT.block ?_
 refine CT.nilrow 5 1 ?_
 refine CT.loop (ι := Nat × Nat × Wd × Option Addr × Nat) (fun (k, q, l, a', c') => k ≤ ws.length ∧ q < S.rs.length ∧ S.sq.tr.run q0 ((wl ws).take k) = some (q, l) ∧ (a'.isSome = true → c' ≠ 0) ∧ l.length ≤ k * M) (fun (k, q, l, a', c') => [(1, .int .i64 ((q : Nat) : Int)), (2, sv ws), (3, .pointer (some ⟨b3, 0, none⟩)), (9, .slice a' l.length c'), (13, .int .i64 ((ws.length : Nat) : Int)), (14, .int .i64 ((k : Nat) : Int))]) (fun (k, q, l, a', c') => [.row 5 1 (.slice a' (l).length c') (l).length ((l).map bv), .row 30 7 (vb b3) 1 (svc S)]) (fun (k, q, l, a', c') => ws.length - k) (0, q0, [], none, 0) ⟨Nat.zero_le _, hq0, rfl, (fun h => by cases h), Nat.zero_le _⟩ ⟨rfl, rfl, rfl, rfl, rfl, rfl, trivial⟩ (HSub.refl _) (fun ⟨k, q, l, a', c'⟩ ⟨hk, hq, hrun, hc, hll⟩ K0 hK0 => ?_)
 dsimp only
 refine CT.seq ?_
 refine CT.region ?_
 refine Wl.q rfl rfl (OpQ.lss rfl rfl) ?_
 refine Wl.nil ?_
 refine PX.then_n ?_
 refine CT.seq ?_
 refine CT.cond rfl (fun h15 => ?_) (fun h15 => ?_)
 ·
  have h15 := of_decide_eq_true h15
  have hkl : k < ws.length := by omega
  have hbb := hws.2 _ (getDm (d := 0) hkl)
  have hbo := ho _ (getDm (d := 0) hkl)
  have hxL : ((ws.getD k 0).toNat - 97) < S.L := by omega
  have hqn : q < S.sq.n := by rw [S.n_eq]; exact hq
  have hrl := hv.rlen (q := q) (by omega)
  have hol := hv.olen (q := q) (by omega)
  have hot := (hv.to' q ((ws.getD k 0).toNat - 97) hqn hxL).1
  have hwlB := hws.1
  have hkM : (k + 1) * M ≤ B * M := Nat.mul_le_mul_right _ (by omega)
  have hkM2 : (k + 1) * M = k * M + M := by rw [Nat.add_mul, Nat.one_mul]
  refine CT.skip ?_
  refine PX.then_n ?_
  refine CT.seq ?_
  refine CT.block ?_
  refine CT.seq ?_
  refine CT.region ?_
  refine Wl.q rfl rfl (OpQ.move rfl) ?_
  refine Wl.q rfl rfl (OpQ.assign rfl) ?_
  refine Wl.nil ?_
  refine PX.then_n ?_
  refine CT.seq ?_
  refine CT.region ?_
  refine Wl.q rfl rfl (OpQ.move rfl) ?_
  refine Wl.q rfl rfl (OpQ.move rfl) ?_
  refine Wl.q rfl rfl (OpQ.indexSvN RT_un9 rfl rfl (by omega)) ?_
  refine Wl.q rfl rfl (OpQ.sub8 rfl rfl (by omega)) ?_
  refine Wl.know 20 (v' := .int .u8 ((((ws.getD k 0).toNat - 97) : Nat) : Int)) rfl (congrArg (Value.int .u8) (by omega)) ?_
  refine Wl.q rfl rfl (OpQ.assign rfl) ?_
  refine Wl.nil ?_
  refine PX.then_n ?_
  refine CT.seq ?_
  refine CT.seq ?_
  refine CT.region ?_
  refine Wl.q rfl rfl (OpQ.fieldAddr RT_fa30_3 rfl) ?_
  refine Wl.q rfl rfl (OpQ.loadF (b := b3) RT_sc25 rfl (by repeat (first | exact Has.here | apply Has.there)) (by rfl)) ?_
  refine Wl.q rfl rfl (OpQ.move rfl) ?_
  refine Wl.q rfl rfl (OpQ.index1 RT_un25 RT_sz22 rfl rfl (by omega) (hns (by omega))) ?_
  refine Wl.q rfl rfl (OpQ.loadG RT_sc22 rfl (fun w hH => (hH.use hS).n) (getMap rxv S.rs rx0 (j := q) (by omega))) ?_
  refine Wl.q rfl rfl (OpQ.move rfl) ?_
  refine Wl.q rfl rfl (OpQ.indexK1 RT_un22 RT_sz3 rfl rfl (by omega) (hrs q (by omega) (by omega))) ?_
  refine Wl.q rfl rfl (OpQ.loadG RT_sc3 rfl (fun w hH => (hH.use hS).r _ (getDm (show q < S.rs.length by omega))) (getMap zo (S.rs.getD q rx0).xs none (j := ((ws.getD k 0).toNat - 97)) (by omega))) ?_
  refine Wl.know 28 (v' := zo (S.sq.to q ((ws.getD k 0).toNat - 97))) rfl (congrArg zo (S.to_eq q ((ws.getD k 0).toNat - 97)).symm) ?_
  refine Wl.q rfl rfl (OpQ.eql rfl rfl) ?_
  refine Wl.nil ?_
  refine PX.then_n ?_
  refine CT.cond rfl (fun h29 => ?_) (fun h29 => ?_)
  ·
   have h29 := of_decide_eq_true h29
   have hdead := run_deadQ hkl hrun (oi_neg.1 h29)
   refine CT.seq ?_
   refine CT.region ?_
   refine Wl.q rfl rfl (OpQ.assign rfl) ?_
   refine Wl.q rfl rfl (OpQ.assign rfl) ?_
   refine Wl.q rfl rfl (OpQ.assign rfl) ?_
   refine Wl.nil ?_
   refine PX.then_n ?_
   refine CT.ret ?_
   refine PX.then_r ?_
   refine PX.block_r ?_
   refine PX.then_r ?_
   refine PX.then_r ?_
   refine PX.block_r ?_
   refine PX.then_r ?_
   refine PX.ret3 rfl rfl rfl rfl (fun w' hH => ?_)
   exact ⟨by rw [hdead]; rfl, hH.ext⟩
  ·
   have h29 := of_decide_eq_false h29
   obtain ⟨r, hto⟩ := oi_some h29
   have hr := hv.lt q ((ws.getD k 0).toNat - 97) r hqn hxL hto
   have hrn : r < S.rs.length := by rw [← S.n_eq]; exact hr
   refine CT.skip ?_
   refine PX.then_n ?_
   refine CT.seq ?_
   refine CT.seq ?_
   refine CT.region ?_
   refine Wl.q rfl rfl (OpQ.move rfl) ?_
   refine Wl.q rfl rfl (OpQ.len RT_un69 rfl) ?_
   refine Wl.q rfl rfl (OpQ.leq rfl rfl) ?_
   refine Wl.know 32 (v' := .bool true) rfl (congrArg Value.bool (decide_eq_true (by omega))) ?_
   refine Wl.nil ?_
   refine PX.then_n ?_
   refine CT.condT rfl ?_
   refine CT.region ?_
   refine Wl.q rfl rfl (OpQ.move rfl) ?_
   refine Wl.q rfl rfl (OpQ.fieldAddr RT_fa30_4 rfl) ?_
   refine Wl.q rfl rfl (OpQ.loadF (b := b3) RT_sc26 rfl (by repeat (first | exact Has.here | apply Has.there)) (by rfl)) ?_
   refine Wl.q rfl rfl (OpQ.move rfl) ?_
   refine Wl.q rfl rfl (OpQ.index1 RT_un26 RT_sz28 rfl rfl (by omega) (hos (by omega))) ?_
   refine Wl.q rfl rfl (OpQ.loadG RT_sc28 rfl (fun w hH => (hH.use hS).o) (getMap rxv S.os rx0 (j := q) (by omega))) ?_
   refine Wl.q rfl rfl (OpQ.move rfl) ?_
   refine Wl.q rfl rfl (OpQ.indexK1 RT_un28 RT_sz9 rfl rfl (by omega) (hus q (by omega) (by omega))) ?_
   refine Wl.q rfl rfl (OpQ.loadG RT_sc9 rfl (fun w hH => (hH.use hS).u _ (getDm (show q < S.os.length by omega))) (getMap sv (S.os.getD q rx0).xs [] (j := ((ws.getD k 0).toNat - 97)) (by omega))) ?_
   refine Wl.know 41 (v' := sv (S.sq.o q ((ws.getD k 0).toNat - 97))) rfl (congrArg sv (S.o_eq q ((ws.getD k 0).toNat - 97)).symm) ?_
   refine Wl.g rfl rfl (OpG.appendS RT_un69 RT_un9 RT_in5 rfl rfl (p := 0) rfl hc (by omega) (nm := (l ++ S.sq.o q ((ws.getD k 0).toNat - 97)).length) (by rw [List.length_append]) (all := (l ++ S.sq.o q ((ws.getD k 0).toNat - 97)).map bv) (by rw [List.map_append])) ?_
   rintro ⟨a42, c42⟩ hc42
   dsimp only at hc42
   refine Wl.q rfl rfl (OpQ.assign rfl) ?_
   refine Wl.nil ?_
   refine PX.then_n ?_
   refine CT.region ?_
   refine Wl.q rfl rfl (OpQ.fieldAddr RT_fa30_3 rfl) ?_
   refine Wl.q rfl rfl (OpQ.loadF (b := b3) RT_sc25 rfl (by repeat (first | exact Has.here | apply Has.there)) (by rfl)) ?_
   refine Wl.q rfl rfl (OpQ.move rfl) ?_
   refine Wl.q rfl rfl (OpQ.index1 RT_un25 RT_sz22 rfl rfl (by omega) (hns (by omega))) ?_
   refine Wl.q rfl rfl (OpQ.loadG RT_sc22 rfl (fun w hH => (hH.use hS).n) (getMap rxv S.rs rx0 (j := q) (by omega))) ?_
   refine Wl.q rfl rfl (OpQ.move rfl) ?_
   refine Wl.q rfl rfl (OpQ.indexK1 RT_un22 RT_sz3 rfl rfl (by omega) (hrs q (by omega) (by omega))) ?_
   refine Wl.q rfl rfl (OpQ.loadG RT_sc3 rfl (fun w hH => (hH.use hS).r _ (getDm (show q < S.rs.length by omega))) (getMap zo (S.rs.getD q rx0).xs none (j := ((ws.getD k 0).toNat - 97)) (by omega))) ?_
   refine Wl.know 50 (v' := .int .i64 ((r : Nat) : Int)) rfl ((congrArg zo (S.to_eq q ((ws.getD k 0).toNat - 97)).symm).trans (by rw [hto]; rfl)) ?_
   refine Wl.q rfl rfl (OpQ.assign rfl) ?_
   refine Wl.nil ?_
   refine PX.block_n ?_
   refine PX.then_n ?_
   refine CT.region ?_
   refine Wl.q rfl rfl (OpQ.add rfl rfl (by omega)) ?_
   refine Wl.q rfl rfl (OpQ.move rfl) ?_
   refine Wl.nil ?_
   exact PX.loop hK0 (k + 1, r, l ++ S.sq.o q ((ws.getD k 0).toNat - 97), a42, c42) ⟨by omega, hrn, run_stepQ hkl hrun hto, hc42, by rw [List.length_append]; omega⟩ (show ws.length - (k + 1) < ws.length - k by omega) ⟨rfl, rfl, rfl, rfl, rfl, rfl, trivial⟩ (HSub.refl _)
 ·
  have h15 := of_decide_eq_false h15
  obtain rfl : k = ws.length := by omega
  have hend := run_endQ hrun
  refine CT.exit ?_
  refine PX.then_x ?_
  refine PX.then_x ?_
  refine PX.block_x ?_
  refine PX.then_n ?_
  refine CT.seq ?_
  refine CT.draw 6 RT_mixed ?_
  refine RA.q 0 (by kernel_rfl) rfl rfl rfl (.refl _) (OpQ.move rfl) ?_
  refine RA.q 1 (by kernel_rfl) rfl rfl rfl (.refl _) (OpQ.move rfl) ?_
  refine RA.q 2 (by kernel_rfl) rfl rfl rfl (.refl _) (OpQ.convBS (l := l) RT_un69 RT_un5 RT_un9 rfl (fun w hH => hH.rd .here)) ?_
  refine RA.q 3 (by kernel_rfl) rfl rfl rfl (.refl _) (OpQ.assign rfl) ?_
  refine RA.q 4 (by kernel_rfl) rfl rfl rfl (.refl _) (OpQ.assign rfl) ?_
  refine RA.q 5 (by kernel_rfl) rfl rfl rfl (.refl _) (OpQ.assign rfl) ?_
  refine RA.tail ?_
  refine RT.done (by kernel_rfl) ?_
  refine PX.then_n ?_
  refine CT.ret ?_
  refine PX.ret3 rfl rfl rfl rfl (fun w' hH => ?_)
  exact ⟨by rw [hend]; rfl, hH.ext⟩

theorem RT_fa30_0 : fieldB Try.prog 30 0 = some 0 := by kernel_rfl
set_option maxRecDepth 100000 in
/-- semigroup/semigroupref42.run -/
theorem run_spec (w : World) {M : Nat} (S : Sv) (hS : Stays [] w (svm S)) (hv : S.sq.Ok M) (q0 : Nat) (hq0 : q0 < S.rs.length) {B : Nat} (ws : Wd) (hws : okT B ws) (ho : okO S.L ws) (hBM : B * M ≤ 4096) (hwlen : ws.length ≤ 1000000) : Calls Try.prog 47 #[svv S, .int .i64 ((q0 : Nat) : Int), sv ws] w (fun e w' => ∃ p : Option Nat × Wd, RnI (S.sq.tr.run q0 (wl ws)) p ∧ e = .returned (.tuple #[zo p.1, sv p.2]) ∧ Ext [] w w') := by
 obtain ⟨hb1, hb2, hb3, hb4⟩ := hv.bnd
 obtain ⟨hlo, hle, hlf⟩ := hv.lens
 have hns : 0 < S.rs.length → S.na.isSome = true := fun h => hS.now.n.isSome (j := 0) (by rw [List.length_map]; exact h)
 have hos : 0 < S.os.length → S.oa.isSome = true := fun h => hS.now.o.isSome (j := 0) (by rw [List.length_map]; exact h)
 have hes : 0 < S.en.length → S.ea.isSome = true := fun h => hS.now.e.isSome (j := 0) (by rw [List.length_map]; exact h)
 have hfs : 0 < S.fi.length → S.fa.isSome = true := fun h => hS.now.f.isSome (j := 0) (by rw [List.length_map]; exact h)
 have hrs : ∀ q, q < S.rs.length → 0 < (S.rs.getD q rx0).xs.length → (S.rs.getD q rx0).a.isSome = true := fun q hq h => (hS.now.r _ (getDm hq)).isSome (j := 0) (by rw [List.length_map]; exact h)
 have hus : ∀ q, q < S.os.length → 0 < (S.os.getD q rx0).xs.length → (S.os.getD q rx0).a.isSome = true := fun q hq h => (hS.now.u _ (getDm hq)).isSome (j := 0) (by rw [List.length_map]; exact h)
 have hwl1 := hws.1
 have hB6 : ws.length ≤ 1000000 := hwlen
 refine enter (args := [svv S, .int .i64 ((q0 : Nat) : Int), sv ws]) [] 50 Try.func47 rfl rfl rfl ?_
 refine CT.seq ?_
 refine CT.region ?_
 refine Wl.g rfl rfl (OpG.box (size := 7) rfl rfl rfl) ?_
 rintro b3 _
 refine Wl.q rfl rfl (OpQ.assign rfl) ?_
 refine Wl.q rfl rfl (OpQ.assign rfl) ?_
 refine Wl.nil ?_
 refine PX.then_n ?_
 refine CT.seq ?_
 refine CT.region ?_
 refine Wl.q rfl rfl (OpQ.assign rfl) ?_
 refine Wl.nil ?_
 refine PX.then_n ?_
 refine CT.seq ?_
 refine CT.seq ?_
 refine CT.region ?_
 refine Wl.q rfl rfl (OpQ.assign rfl) ?_
 refine Wl.nil ?_
 refine PX.then_n ?_
 refine CT.block ?_
 refine CT.loop (ι := Nat × Option Nat × Wd) (fun (k, o, l) => k ≤ ws.length ∧ (match o with | none => S.sq.tr.run q0 (wl ws) = none | some q => q < S.rs.length ∧ S.sq.tr.run q0 ((wl ws).take k) = some (q, l)) ∧ l.length ≤ k * M) (fun (k, o, l) => [(1, zo o), (2, sv ws), (3, .pointer (some ⟨b3, 0, none⟩)), (8, sv l), (9, .int .i64 ((k : Nat) : Int))]) (fun (k, o, l) => [.row 30 7 (vb b3) 1 (svc S)]) (fun (k, o, l) => ws.length - k) (0, some q0, []) ⟨Nat.zero_le _, ⟨hq0, rfl⟩, Nat.zero_le _⟩ ⟨rfl, rfl, rfl, rfl, rfl, trivial⟩ (HSub.refl _) (fun ⟨k, o, l⟩ ⟨hk, hinv, hll⟩ K0 hK0 => ?_)
 dsimp only
 refine CT.seq ?_
 refine CT.seq ?_
 refine CT.region ?_
 refine Wl.q rfl rfl (OpQ.move rfl) ?_
 refine Wl.q rfl rfl (OpQ.move rfl) ?_
 refine Wl.q rfl rfl (OpQ.lenSv RT_un9 rfl) ?_
 refine Wl.q rfl rfl (OpQ.lss rfl rfl) ?_
 refine Wl.q rfl rfl (OpQ.move rfl) ?_
 refine Wl.split 15 rfl (fun hg15 => ?_) (fun hg15 => ?_)
 ·
  have hg15 := of_decide_eq_true hg15
  refine Wl.q rfl rfl (OpQ.move rfl) ?_
  refine Wl.q rfl rfl (OpQ.geq rfl rfl) ?_
  refine Wl.q rfl rfl (OpQ.pickT rfl rfl) ?_
  refine Wl.nil ?_
  refine PX.then_n ?_
  refine CT.cond rfl (fun h18 => ?_) (fun h18 => ?_)
  ·
   have h18 := of_decide_eq_true h18
   obtain ⟨q, rfl⟩ : ∃ q, o = some q := by cases o with | none => exact absurd h18 (by decide) | some q => exact ⟨q, rfl⟩
   obtain ⟨hq, hrun⟩ := hinv
   refine CT.know 1 (v' := zn q) rfl rfl ?_
   have hkl : k < ws.length := by omega
   have hbb := hws.2 _ (getDm (d := 0) hkl)
   have hbo := ho _ (getDm (d := 0) hkl)
   have hxL : ((ws.getD k 0).toNat - 97) < S.L := by omega
   have hqn : q < S.sq.n := by rw [S.n_eq]; exact hq
   have hrl := hv.rlen (q := q) (by omega)
   have hol := hv.olen (q := q) (by omega)
   have hot := (hv.to' q ((ws.getD k 0).toNat - 97) hqn hxL).1
   have hwlB := hws.1
   have hkM : (k + 1) * M ≤ B * M := Nat.mul_le_mul_right _ (by omega)
   have hkM2 : (k + 1) * M = k * M + M := by rw [Nat.add_mul, Nat.one_mul]
   refine CT.skip ?_
   refine PX.then_n ?_
   refine CT.seq ?_
   refine CT.block ?_
   refine CT.seq ?_
   refine CT.region ?_
   refine Wl.q rfl rfl (OpQ.move rfl) ?_
   refine Wl.q rfl rfl (OpQ.move rfl) ?_
   refine Wl.q rfl rfl (OpQ.indexSvN RT_un9 rfl rfl (by omega)) ?_
   refine Wl.q rfl rfl (OpQ.sub8 rfl rfl (by omega)) ?_
   refine Wl.know 24 (v' := .int .u8 ((((ws.getD k 0).toNat - 97) : Nat) : Int)) rfl (congrArg (Value.int .u8) (by omega)) ?_
   refine Wl.q rfl rfl (OpQ.conv rfl (conv_u8_i64 RT_un5 RT_un3 _ (by omega))) ?_
   refine Wl.know 25 (v' := .int .i64 ((((ws.getD k 0).toNat - 97) : Nat) : Int)) rfl rfl ?_
   refine Wl.q rfl rfl (OpQ.assign rfl) ?_
   refine Wl.nil ?_
   refine PX.then_n ?_
   refine CT.seq ?_
   refine CT.seq ?_
   refine CT.region ?_
   refine Wl.q rfl rfl (OpQ.move rfl) ?_
   refine Wl.q rfl rfl (OpQ.fieldAddr RT_fa30_0 rfl) ?_
   refine Wl.q rfl rfl (OpQ.loadF (b := b3) RT_sc3 rfl (by repeat (first | exact Has.here | apply Has.there)) (by rfl)) ?_
   refine Wl.q rfl rfl (OpQ.geq rfl rfl) ?_
   refine Wl.know 29 (v' := .bool false) rfl (congrArg Value.bool (decide_eq_false (by omega))) ?_
   refine Wl.nil ?_
   refine PX.then_n ?_
   refine CT.condF rfl ?_
   refine CT.skip ?_
   refine PX.then_n ?_
   refine CT.draw 20 RT_mixed ?_
   refine RA.q 0 (by kernel_rfl) rfl rfl rfl (.refl _) (OpQ.move rfl) ?_
   refine RA.q 1 (by kernel_rfl) rfl rfl rfl (.refl _) (OpQ.fieldAddr RT_fa30_4 rfl) ?_
   refine RA.q 2 (by kernel_rfl) rfl rfl rfl (.refl _) (OpQ.loadF (b := b3) RT_sc26 rfl (by repeat (first | exact Has.here | apply Has.there)) (by rfl)) ?_
   refine RA.q 3 (by kernel_rfl) rfl rfl rfl (.refl _) (OpQ.move rfl) ?_
   refine RA.q 4 (by kernel_rfl) rfl rfl rfl (.refl _) (OpQ.index1 RT_un26 RT_sz28 rfl rfl (by omega) (hos (by omega))) ?_
   refine RA.q 5 (by kernel_rfl) rfl rfl rfl (.refl _) (OpQ.loadG RT_sc28 rfl (fun w hH => (hH.use hS).o) (getMap rxv S.os rx0 (j := q) (by omega))) ?_
   refine RA.q 6 (by kernel_rfl) rfl rfl rfl (.refl _) (OpQ.move rfl) ?_
   refine RA.q 7 (by kernel_rfl) rfl rfl rfl (.refl _) (OpQ.index1 RT_un28 RT_sz9 rfl rfl (by omega) (hus q (by omega) (by omega))) ?_
   refine RA.q 8 (by kernel_rfl) rfl rfl rfl (.refl _) (OpQ.loadG RT_sc9 rfl (fun w hH => (hH.use hS).u _ (getDm (show q < S.os.length by omega))) (getMap sv (S.os.getD q rx0).xs [] (j := ((ws.getD k 0).toNat - 97)) (by omega))) ?_
   refine RA.know 38 (v' := sv (S.sq.o q ((ws.getD k 0).toNat - 97))) rfl (congrArg sv (S.o_eq q ((ws.getD k 0).toNat - 97)).symm) ?_
   refine RA.q 9 (by kernel_rfl) rfl rfl rfl (.refl _) (OpQ.concat rfl rfl (by omega)) ?_
   refine RA.q 10 (by kernel_rfl) rfl rfl rfl (.refl _) (OpQ.fieldAddr RT_fa30_3 rfl) ?_
   refine RA.q 11 (by kernel_rfl) rfl rfl rfl (.refl _) (OpQ.loadF (b := b3) RT_sc25 rfl (by repeat (first | exact Has.here | apply Has.there)) (by rfl)) ?_
   refine RA.q 12 (by kernel_rfl) rfl rfl rfl (.refl _) (OpQ.move rfl) ?_
   refine RA.q 13 (by kernel_rfl) rfl rfl rfl (.refl _) (OpQ.index1 RT_un25 RT_sz22 rfl rfl (by omega) (hns (by omega))) ?_
   refine RA.q 14 (by kernel_rfl) rfl rfl rfl (.refl _) (OpQ.loadG RT_sc22 rfl (fun w hH => (hH.use hS).n) (getMap rxv S.rs rx0 (j := q) (by omega))) ?_
   refine RA.q 15 (by kernel_rfl) rfl rfl rfl (.refl _) (OpQ.move rfl) ?_
   refine RA.q 16 (by kernel_rfl) rfl rfl rfl (.refl _) (OpQ.index1 RT_un22 RT_sz3 rfl rfl (by omega) (hrs q (by omega) (by omega))) ?_
   refine RA.q 17 (by kernel_rfl) rfl rfl rfl (.refl _) (OpQ.loadG RT_sc3 rfl (fun w hH => (hH.use hS).r _ (getDm (show q < S.rs.length by omega))) (getMap zo (S.rs.getD q rx0).xs none (j := ((ws.getD k 0).toNat - 97)) (by omega))) ?_
   refine RA.know 47 (v' := zo (S.sq.to q ((ws.getD k 0).toNat - 97))) rfl (congrArg zo (S.to_eq q ((ws.getD k 0).toNat - 97)).symm) ?_
   refine RA.q 18 (by kernel_rfl) rfl rfl rfl (.refl _) (OpQ.assign rfl) ?_
   refine RA.q 19 (by kernel_rfl) rfl rfl rfl (.refl _) (OpQ.assign rfl) ?_
   refine RA.tail ?_
   refine RT.done (by kernel_rfl) ?_
   refine PX.block_n ?_
   refine PX.then_n ?_
   refine CT.region ?_
   refine Wl.q rfl rfl (OpQ.move rfl) ?_
   refine Wl.q rfl rfl (OpQ.add rfl rfl (by omega)) ?_
   refine Wl.q rfl rfl (OpQ.assign rfl) ?_
   refine Wl.nil ?_
   exact PX.loop hK0 (k + 1, S.sq.to q ((ws.getD k 0).toNat - 97), l ++ S.sq.o q ((ws.getD k 0).toNat - 97)) ⟨by omega, (by cases hto : S.sq.to q ((ws.getD k 0).toNat - 97) with | none => exact run_deadQ hkl hrun hto | some r => exact ⟨by rw [← S.n_eq]; exact hv.lt q _ r hqn hxL hto, run_stepQ hkl hrun hto⟩), by rw [List.length_append]; omega⟩ (show ws.length - (k + 1) < ws.length - k by omega) ⟨rfl, rfl, rfl, rfl, rfl, trivial⟩ (HSub.refl _)
  ·
   have h18 := of_decide_eq_false h18
   refine CT.exit ?_
   refine PX.then_x ?_
   refine PX.then_x ?_
   refine PX.block_x ?_
   refine PX.then_n ?_
   refine CT.seq ?_
   refine CT.region ?_
   refine Wl.q rfl rfl (OpQ.move rfl) ?_
   refine Wl.q rfl rfl (OpQ.move rfl) ?_
   refine Wl.q rfl rfl (OpQ.assign rfl) ?_
   refine Wl.q rfl rfl (OpQ.assign rfl) ?_
   refine Wl.nil ?_
   refine PX.then_n ?_
   refine CT.ret ?_
   refine PX.ret2 rfl rfl rfl (fun w' hH => ?_)
   cases o with | none => exact ⟨(none, l), (by rw [show S.sq.tr.run q0 (wl ws) = none from hinv]; rfl), rfl, hH.ext⟩ | some q => exact absurd (show (q : Int) ≥ 0 by omega) h18
 ·
  have hg15 := of_decide_eq_false hg15
  refine Wl.skip rfl rfl ?_
  refine Wl.skip rfl rfl ?_
  refine Wl.q rfl rfl (OpQ.pickF rfl rfl) ?_
  refine Wl.nil ?_
  refine PX.then_n ?_
  refine CT.condF rfl ?_
  refine CT.exit ?_
  refine PX.then_x ?_
  refine PX.then_x ?_
  refine PX.block_x ?_
  refine PX.then_n ?_
  refine CT.seq ?_
  refine CT.region ?_
  refine Wl.q rfl rfl (OpQ.move rfl) ?_
  refine Wl.q rfl rfl (OpQ.move rfl) ?_
  refine Wl.q rfl rfl (OpQ.assign rfl) ?_
  refine Wl.q rfl rfl (OpQ.assign rfl) ?_
  refine Wl.nil ?_
  refine PX.then_n ?_
  refine CT.ret ?_
  refine PX.ret2 rfl rfl rfl (fun w' hH => ?_)
  obtain rfl : k = ws.length := by omega
  cases o with | none => exact ⟨(none, l), (by rw [show S.sq.tr.run q0 (wl ws) = none from hinv]; rfl), rfl, hH.ext⟩ | some q => exact ⟨(some q, l), (by rw [run_endQ hinv.2]; rfl), rfl, hH.ext⟩

theorem RT_in9 : (Try.prog.info? 9).map (fun i => (i.zero, i.size, i.bytes)) = some (some (.string ⟨#[]⟩), 1, 16) := by kernel_rfl
set_option maxRecDepth 100000 in
/-- semigroup/semigroupref42.writes -/
theorem writesR_spec (w : World) (S : Sv) (hS : Stays [] w (svm S)) (hv : S.sq.Ok 4096) (u : Nat) (ho : S.sq.Over u) : Calls Try.prog 46 #[svv S, .int .i64 ((u : Nat) : Int)] w (fun e w' => e = .returned (.bool true) ∧ Ext [] w w') := by
 obtain ⟨hb1, hb2, hb3, hb4⟩ := hv.bnd
 obtain ⟨hlo, hle, hlf⟩ := hv.lens
 have hns : 0 < S.rs.length → S.na.isSome = true := fun h => hS.now.n.isSome (j := 0) (by rw [List.length_map]; exact h)
 have hos : 0 < S.os.length → S.oa.isSome = true := fun h => hS.now.o.isSome (j := 0) (by rw [List.length_map]; exact h)
 have hes : 0 < S.en.length → S.ea.isSome = true := fun h => hS.now.e.isSome (j := 0) (by rw [List.length_map]; exact h)
 have hfs : 0 < S.fi.length → S.fa.isSome = true := fun h => hS.now.f.isSome (j := 0) (by rw [List.length_map]; exact h)
 have hrs : ∀ q, q < S.rs.length → 0 < (S.rs.getD q rx0).xs.length → (S.rs.getD q rx0).a.isSome = true := fun q hq h => (hS.now.r _ (getDm hq)).isSome (j := 0) (by rw [List.length_map]; exact h)
 have hus : ∀ q, q < S.os.length → 0 < (S.os.getD q rx0).xs.length → (S.os.getD q rx0).a.isSome = true := fun q hq h => (hS.now.u _ (getDm hq)).isSome (j := 0) (by rw [List.length_map]; exact h)
 have hal := fun q hq => allW_len hv (q := q) hq
 have hOk := allW_ok hv ho
 refine enter (args := [svv S, .int .i64 ((u : Nat) : Int)]) [] 48 Try.func46 rfl rfl rfl ?_
 refine CT.seq ?_
 refine CT.region ?_
 refine Wl.g rfl rfl (OpG.box (size := 7) rfl rfl rfl) ?_
 rintro b2 _
 refine Wl.q rfl rfl (OpQ.assign rfl) ?_
 refine Wl.nil ?_
 refine PX.then_n ?_
 refine CT.seq ?_
 refine CT.region ?_
 refine Wl.q rfl rfl (OpQ.fieldAddr RT_fa30_2 rfl) ?_
 refine Wl.q rfl rfl (OpQ.loadF (b := b2) RT_sc9 rfl (by repeat (first | exact Has.here | apply Has.there)) (by rfl)) ?_
 refine Wl.g rfl rfl (OpG.lit1 RT_un28 RT_in9 rfl rfl rfl) ?_
 rintro b13 _
 refine Wl.q rfl rfl (OpQ.fieldAddr RT_fa30_6 rfl) ?_
 refine Wl.q rfl rfl (OpQ.loadF (b := b2) RT_sc28 rfl (by repeat (first | exact Has.here | apply Has.there)) (by rfl)) ?_
 refine Wl.g rfl rfl (OpG.append RT_un28 RT_in9 (by rfl) (by decide) rfl rfl (p := 0) rfl (fun w hH => (hH.use hS).f) ⟨(by rw [List.length_map, Nat.mul_one]), (by simp [Value.oneCell']), (by omega), (by omega)⟩ (nm := (allW S 0).length) (by simp [allW]; omega) (all := (allW S 0).map sv) (by simp [allW])) ?_
 rintro ⟨a16, c16⟩ h16
 refine Wl.q rfl rfl (OpQ.assign rfl) ?_
 refine Wl.nil ?_
 refine PX.then_n ?_
 refine CT.seq ?_
 refine CT.seq ?_
 refine CT.region ?_
 refine Wl.q rfl rfl (OpQ.fieldAddr RT_fa30_4 rfl) ?_
 refine Wl.q rfl rfl (OpQ.loadF (b := b2) RT_sc26 rfl (by repeat (first | exact Has.here | apply Has.there)) (by rfl)) ?_
 refine Wl.q rfl rfl (OpQ.len RT_un26 rfl) ?_
 refine Wl.q rfl rfl (OpQ.move rfl) ?_
 refine Wl.nil ?_
 refine PX.then_n ?_
 refine CT.block ?_
 refine CT.loop (ι := Nat × Option Addr × Nat) (fun (q, a', c') => q ≤ S.os.length) (fun (q, a', c') => [(1, .int .i64 ((u : Nat) : Int)), (5, .slice a' (allW S q).length c'), (18, .slice S.oa S.os.length S.oc), (19, .int .i64 ((S.os.length : Nat) : Int)), (20, .int .i64 ((q : Nat) : Int))]) (fun (q, a', c') => [.row 9 1 (.slice a' (allW S q).length c') (allW S q).length ((allW S q).map sv), .row 30 7 (vb b2) 1 (svc S)]) (fun (q, a', c') => S.os.length - q) (0, a16, c16) (Nat.zero_le _) ⟨rfl, rfl, rfl, rfl, rfl, trivial⟩ (HSub.refl _) (fun ⟨q, a', c'⟩ hq K0 hK0 => ?_)
 dsimp only
 have hal1 := hal q hq
 refine CT.seq ?_
 refine CT.region ?_
 refine Wl.q rfl rfl (OpQ.lss rfl rfl) ?_
 refine Wl.nil ?_
 refine PX.then_n ?_
 refine CT.seq ?_
 refine CT.cond rfl (fun h21 => ?_) (fun h21 => ?_)
 ·
  have h21 := of_decide_eq_true h21
  have hql : q < S.os.length := by omega
  have hol := hv.olen (q := q) (by omega)
  refine CT.skip ?_
  refine PX.then_n ?_
  refine CT.seq ?_
  refine CT.block ?_
  refine CT.seq ?_
  refine CT.region ?_
  refine Wl.q rfl rfl (OpQ.index1 RT_un26 RT_sz28 rfl rfl (by omega) (hos (by omega))) ?_
  refine Wl.q rfl rfl (OpQ.loadG RT_sc28 rfl (fun w hH => (hH.use hS).o) (getMap rxv S.os rx0 (j := q) (by omega))) ?_
  refine Wl.q rfl rfl (OpQ.assign rfl) ?_
  refine Wl.nil ?_
  refine PX.then_n ?_
  refine CT.region ?_
  refine Wl.q rfl rfl (OpQ.move rfl) ?_
  refine Wl.q rfl rfl (OpQ.move rfl) ?_
  refine Wl.g rfl rfl (OpG.append RT_un28 RT_in9 (by rfl) (by decide) rfl rfl (p := 0) rfl (fun w hH => (hH.use hS).u _ (getDm (d := rx0) hql)) ⟨(by rw [List.length_map, Nat.mul_one]), (by simp [Value.oneCell']), (by omega), (by omega)⟩ (nm := (allW S (q + 1)).length) (by rw [allW_s hql, List.length_append]) (all := (allW S (q + 1)).map sv) (by rw [allW_s hql, List.map_append])) ?_
  rintro ⟨a26, c26⟩ h26
  refine Wl.q rfl rfl (OpQ.assign rfl) ?_
  refine Wl.nil ?_
  refine PX.block_n ?_
  refine PX.then_n ?_
  refine CT.region ?_
  refine Wl.q rfl rfl (OpQ.add rfl rfl (by omega)) ?_
  refine Wl.q rfl rfl (OpQ.move rfl) ?_
  refine Wl.nil ?_
  exact PX.loop hK0 (q + 1, a26, c26) (by omega) (show S.os.length - (q + 1) < S.os.length - q by omega) ⟨rfl, rfl, rfl, rfl, rfl, trivial⟩ (HSub.refl _)
 ·
  have h21 := of_decide_eq_false h21
  obtain rfl : q = S.os.length := by omega
  refine CT.fact (p := 0 < (allW S S.os.length).length → a'.isSome = true) (fun w hH h => (hH.rd .here).isSome (j := 0) (by rw [List.length_map]; exact h)) (fun hia => ?_)
  refine CT.exit ?_
  refine PX.then_x ?_
  refine PX.then_x ?_
  refine PX.block_x ?_
  refine PX.then_n ?_
  refine CT.seq ?_
  refine CT.seq ?_
  refine CT.region ?_
  refine Wl.q rfl rfl (OpQ.move rfl) ?_
  refine Wl.q rfl rfl (OpQ.len RT_un28 rfl) ?_
  refine Wl.q rfl rfl (OpQ.move rfl) ?_
  refine Wl.nil ?_
  refine PX.then_n ?_
  refine CT.block ?_
  refine CT.loop (ι := Nat) (fun i => i ≤ (allW S S.os.length).length) (fun i => [(1, .int .i64 ((u : Nat) : Int)), (28, .slice a' (allW S S.os.length).length c'), (29, .int .i64 (((allW S S.os.length).length : Nat) : Int)), (30, .int .i64 ((i : Nat) : Int))]) (fun _ => [.row 9 1 (.slice a' (allW S S.os.length).length c') (allW S S.os.length).length ((allW S S.os.length).map sv), .row 30 7 (vb b2) 1 (svc S)]) (fun i => (allW S S.os.length).length - i) 0 (Nat.zero_le _) ⟨rfl, rfl, rfl, rfl, trivial⟩ (HSub.refl _) (fun i hi K1 hK1 => ?_)
  refine CT.seq ?_
  refine CT.region ?_
  refine Wl.q rfl rfl (OpQ.lss rfl rfl) ?_
  refine Wl.nil ?_
  refine PX.then_n ?_
  refine CT.seq ?_
  refine CT.cond rfl (fun h31 => ?_) (fun h31 => ?_)
  ·
   have h31 := of_decide_eq_true h31
   obtain ⟨hst, hso⟩ := hOk S.os.length _ (getDm (d := []) (show i < (allW S S.os.length).length by omega))
   obtain ⟨s, hs⟩ : ∃ s, s = (allW S S.os.length).getD i [] := ⟨_, rfl⟩
   rw [← hs] at hst hso
   have hsl := hst.1
   refine CT.skip ?_
   refine PX.then_n ?_
   refine CT.seq ?_
   refine CT.block ?_
   refine CT.seq ?_
   refine CT.region ?_
   refine Wl.q rfl rfl (OpQ.index1 RT_un28 RT_sz9 rfl rfl (by omega) (hia (by omega))) ?_
   refine Wl.q rfl rfl (OpQ.loadRow RT_sc9 rfl .here (getMap sv (allW S S.os.length) [] (j := i) (by omega))) ?_
   refine Wl.know 33 (v' := sv s) rfl (congrArg sv hs.symm) ?_
   refine Wl.q rfl rfl (OpQ.assign rfl) ?_
   refine Wl.nil ?_
   refine PX.then_n ?_
   refine CT.seq ?_
   refine CT.region ?_
   refine Wl.q rfl rfl (OpQ.assign rfl) ?_
   refine Wl.nil ?_
   refine PX.then_n ?_
   refine CT.block ?_
   refine CT.loop (ι := Nat) (fun k => k ≤ s.length) (fun k => [(1, .int .i64 ((u : Nat) : Int)), (28, .slice a' (allW S S.os.length).length c'), (29, .int .i64 (((allW S S.os.length).length : Nat) : Int)), (30, .int .i64 ((i : Nat) : Int)), (9, sv s), (10, .int .i64 ((k : Nat) : Int))]) (fun _ => [.row 9 1 (.slice a' (allW S S.os.length).length c') (allW S S.os.length).length ((allW S S.os.length).map sv), .row 30 7 (vb b2) 1 (svc S)]) (fun k => s.length - k) 0 (Nat.zero_le _) ⟨rfl, rfl, rfl, rfl, rfl, rfl, trivial⟩ (HSub.refl _) (fun k hk K2 hK2 => ?_)
   refine CT.seq ?_
   refine CT.seq ?_
   refine CT.region ?_
   refine Wl.q rfl rfl (OpQ.move rfl) ?_
   refine Wl.q rfl rfl (OpQ.move rfl) ?_
   refine Wl.q rfl rfl (OpQ.lenSv RT_un9 rfl) ?_
   refine Wl.q rfl rfl (OpQ.lss rfl rfl) ?_
   refine Wl.nil ?_
   refine PX.then_n ?_
   refine CT.cond rfl (fun h37 => ?_) (fun h37 => ?_)
   ·
    have h37 := of_decide_eq_true h37
    have hb1 := hst.2 _ (getDm (d := 0) (show k < s.length by omega))
    have hb2x := hso _ (getDm (d := 0) (show k < s.length by omega))
    refine CT.skip ?_
    refine PX.then_n ?_
    refine CT.seq ?_
    refine CT.block ?_
    refine CT.seq ?_
    refine CT.region ?_
    refine Wl.q rfl rfl (OpQ.move rfl) ?_
    refine Wl.q rfl rfl (OpQ.move rfl) ?_
    refine Wl.q rfl rfl (OpQ.indexSvN RT_un9 rfl rfl (by omega)) ?_
    refine Wl.q rfl rfl (OpQ.sub8 rfl rfl (by omega)) ?_
    refine Wl.know 43 (v' := .int .u8 ((((s.getD k 0).toNat - 97 : Nat) : Int))) rfl (congrArg (Value.int .u8) (by omega)) ?_
    refine Wl.q rfl rfl (OpQ.conv rfl (conv_u8_i64 RT_un5 RT_un3 _ (by omega))) ?_
    refine Wl.q rfl rfl (OpQ.move rfl) ?_
    refine Wl.q rfl rfl (OpQ.geq rfl rfl) ?_
    refine Wl.know 46 (v' := .bool false) rfl (congrArg Value.bool (decide_eq_false (by omega))) ?_
    refine Wl.nil ?_
    refine PX.then_n ?_
    refine CT.condF rfl ?_
    refine CT.skip ?_
    refine PX.block_n ?_
    refine PX.then_n ?_
    refine CT.region ?_
    refine Wl.q rfl rfl (OpQ.move rfl) ?_
    refine Wl.q rfl rfl (OpQ.add rfl rfl (by omega)) ?_
    refine Wl.q rfl rfl (OpQ.assign rfl) ?_
    refine Wl.nil ?_
    exact PX.loop hK2 (k + 1) (by omega) (by first | omega | (dsimp only; omega)) ⟨rfl, rfl, rfl, rfl, rfl, rfl, trivial⟩ (HSub.refl _)
   ·
    have h37 := of_decide_eq_false h37
    refine CT.exit ?_
    refine PX.then_x ?_
    refine PX.then_x ?_
    refine PX.block_x ?_
    refine PX.block_n ?_
    refine PX.then_n ?_
    refine CT.region ?_
    refine Wl.q rfl rfl (OpQ.add rfl rfl (by omega)) ?_
    refine Wl.q rfl rfl (OpQ.move rfl) ?_
    refine Wl.nil ?_
    exact PX.loop hK1 (i + 1) (by omega) (by first | omega | (dsimp only; omega)) ⟨rfl, rfl, rfl, rfl, trivial⟩ (HSub.refl _)
  ·
   have h31 := of_decide_eq_false h31
   refine CT.exit ?_
   refine PX.then_x ?_
   refine PX.then_x ?_
   refine PX.block_x ?_
   refine PX.then_n ?_
   refine CT.seq ?_
   refine CT.region ?_
   refine Wl.q rfl rfl (OpQ.assign rfl) ?_
   refine Wl.nil ?_
   refine PX.then_n ?_
   refine CT.ret ?_
   refine PX.ret1 rfl rfl (fun w' hH => ?_)
   exact ⟨rfl, hH.ext⟩

end Go.Proofs.Ytamolakhpcofhaa

