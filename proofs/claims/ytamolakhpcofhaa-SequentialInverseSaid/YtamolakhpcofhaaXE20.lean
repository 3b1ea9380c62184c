/-
  What functions of the program compute, each by its walk. Conditions: those that each theorem names.
-/
import Derived.Test.YtamolakhpcofhaaMod1
import Derived.Test.YtamolakhpcofhaaXE2
import Derived.Test.YtamolakhpcofhaaXE6
import Derived.Test.YtamolakhpcofhaaXF
set_option linter.unusedSimpArgs false
namespace Go.Proofs.Ytamolakhpcofhaa
open Go Go.Eng Go.Am Go.Sq
open Go.Tp (zi)
open Go.Tl (mayL Wd okW okB bo)

set_option maxRecDepth 100000 in
/-- semigroup/sequential.over -/
theorem over_spec (w : World) (s : Wd) (hl : s.length ≤ 4096) (u : Nat) (hu : u ≤ 6) (h : okO u s) : Calls Try.prog 76 #[sv s, .int .i64 ((u : Nat) : Int)] w (fun e w' => e = .returned (.bool true) ∧ Ext [] w w') := by
 refine enter (args := [sv s, .int .i64 ((u : Nat) : Int)]) [] 19 Try.func76 rfl rfl rfl ?_
 refine CT.seq (CT.region ?_)
 refine Wl.q rfl rfl (OpQ.assign rfl) ?_
 refine Wl.nil (PX.then_n (CT.seq (CT.seq (CT.region ?_))))
 refine Wl.q rfl rfl (OpQ.move rfl) ?_
 refine Wl.q rfl rfl (OpQ.lenSv zf4 rfl) ?_
 refine Wl.q rfl rfl (OpQ.move rfl) ?_
 refine Wl.nil (PX.then_n (CT.block ?_))
 refine CT.loop (ι := Nat) (fun k => k ≤ s.length) (fun k => [(0, sv s), (1, .int .i64 ((u : Nat) : Int)), (7, .int .i64 ((s.length : Nat) : Int)), (8, .int .i64 ((k : Nat) : Int))]) (fun _ => []) (fun k => s.length - k) 0 (Nat.zero_le _) ⟨rfl, rfl, rfl, rfl, trivial⟩ (HSub.none _) (fun k hk K0 hK0 => ?_)
 refine CT.seq (CT.region ?_)
 refine Wl.q rfl rfl (OpQ.lss rfl rfl) ?_
 refine Wl.nil (PX.then_n (CT.seq ?_))
 refine CT.cond rfl (fun h9 => ?_) (fun h9 => ?_)
 ·
  have h9 := of_decide_eq_true h9
  have hbb := h _ (getDm (show k < s.length by omega) (d := 0))
  refine CT.skip (PX.then_n (CT.seq (CT.block (CT.seq (CT.region ?_)))))
  refine Wl.q rfl rfl (OpQ.move rfl) ?_
  refine Wl.q rfl rfl (OpQ.assign rfl) ?_
  refine Wl.nil (PX.then_n (CT.seq (CT.region ?_)))
  refine Wl.q rfl rfl (OpQ.move rfl) ?_
  refine Wl.q rfl rfl (OpQ.move rfl) ?_
  refine Wl.q rfl rfl (OpQ.indexSvN zf4 rfl rfl (by omega)) ?_
  refine Wl.q rfl rfl (OpQ.conv rfl (conv_u8_i64 zf3 zf13 _ (by omega))) ?_
  refine Wl.q rfl rfl (OpQ.move rfl) ?_
  refine Wl.q rfl rfl (OpQ.add rfl rfl (by omega)) ?_
  refine Wl.q rfl rfl (OpQ.geq rfl rfl) ?_
  refine Wl.know 17 (v' := .bool false) rfl (congrArg Value.bool (decide_eq_false (by omega))) ?_
  refine Wl.nil (PX.then_n ?_)
  refine CT.condF rfl ?_
  refine CT.skip (PX.block_n (PX.then_n (CT.region ?_)))
  refine Wl.q rfl rfl (OpQ.add rfl rfl (by omega)) ?_
  refine Wl.q rfl rfl (OpQ.move rfl) ?_
  refine Wl.nil ?_
  exact PX.loop hK0 (k + 1) (by omega) (by first | omega | (dsimp only; omega)) ⟨rfl, rfl, rfl, rfl, trivial⟩ (HSub.none _)
 ·
  have h9 := of_decide_eq_false h9
  refine CT.exit (PX.then_x (PX.then_x (PX.block_x (PX.then_n (CT.seq (CT.region ?_))))))
  refine Wl.q rfl rfl (OpQ.assign rfl) ?_
  refine Wl.nil (PX.then_n (CT.ret ?_))
  refine PX.ret1 rfl rfl (fun w' hH => ?_)
  exact ⟨rfl, hH.ext⟩

set_option maxRecDepth 100000 in
/-- semigroup/sequential.writesOver -/
theorem wover_spec (w : World) (S : Sv) (hS : Stays [] w (svm S)) (hv : S.sq.Ok 4096) (u : Nat) (hu : u ≤ 6) (ho : S.sq.Over u) : Calls Try.prog 39 #[svv S, .int .i64 ((u : Nat) : Int)] w (fun e w' => e = .returned (.bool true) ∧ Ext [] w w') := by
 obtain ⟨hb1, hb2, hb3, hb4⟩ := hv.bnd
 obtain ⟨hlo, hle, hlf⟩ := hv.lens
 have hns : 0 < S.rs.length → S.na.isSome = true := fun h => hS.now.n.isSome (j := 0) (by rw [List.length_map]; exact h)
 have hos : 0 < S.os.length → S.oa.isSome = true := fun h => hS.now.o.isSome (j := 0) (by rw [List.length_map]; exact h)
 have hes : 0 < S.en.length → S.ea.isSome = true := fun h => hS.now.e.isSome (j := 0) (by rw [List.length_map]; exact h)
 have hfs : 0 < S.fi.length → S.fa.isSome = true := fun h => hS.now.f.isSome (j := 0) (by rw [List.length_map]; exact h)
 have hrs : ∀ q, q < S.rs.length → 0 < (S.rs.getD q rx0).xs.length → (S.rs.getD q rx0).a.isSome = true := fun q hq h => (hS.now.r _ (getDm hq)).isSome (j := 0) (by rw [List.length_map]; exact h)
 have hus : ∀ q, q < S.os.length → 0 < (S.os.getD q rx0).xs.length → (S.os.getD q rx0).a.isSome = true := fun q hq h => (hS.now.u _ (getDm hq)).isSome (j := 0) (by rw [List.length_map]; exact h)
 refine enter (args := [svv S, .int .i64 ((u : Nat) : Int)]) [] 43 Try.func39 rfl rfl rfl ?_
 refine CT.seq (CT.region ?_)
 refine Wl.g rfl rfl (OpG.box (size := 7) rfl rfl rfl) ?_
 rintro b2 _
 refine Wl.q rfl rfl (OpQ.assign rfl) ?_
 refine Wl.nil (PX.then_n (CT.seq (CT.seq (CT.region ?_))))
 refine Wl.q rfl rfl (OpQ.fieldAddr zf77 rfl) ?_
 refine Wl.q rfl rfl (OpQ.loadF (b := b2) zf72 rfl (by repeat (first | exact Has.here | apply Has.there)) (by rfl)) ?_
 refine Wl.q rfl rfl (OpQ.move rfl) ?_
 refine Wl.g rfl rfl (OpG.callV zf118 rfl (fun w hH => over_spec w S.init hv.ti.1 u hu ho.i)) ?_
 rintro _ _
 refine Wl.know 11 (v' := .bool true) rfl (congrArg Value.bool rfl) ?_
 refine Wl.q rfl rfl (OpQ.not rfl) ?_
 refine Wl.nil (PX.then_n ?_)
 refine CT.condF rfl ?_
 refine CT.skip (PX.then_n (CT.seq (CT.seq (CT.region ?_))))
 refine Wl.q rfl rfl (OpQ.fieldAddr zf63 rfl) ?_
 refine Wl.q rfl rfl (OpQ.loadF (b := b2) zf20 rfl (by repeat (first | exact Has.here | apply Has.there)) (by rfl)) ?_
 refine Wl.q rfl rfl (OpQ.len zf21 rfl) ?_
 refine Wl.q rfl rfl (OpQ.move rfl) ?_
 refine Wl.nil (PX.then_n (CT.block ?_))
 refine CT.loop (ι := Nat) (fun q => q ≤ S.rs.length) (fun q => [(1, .int .i64 ((u : Nat) : Int)), (2, .pointer (some ⟨b2, 0, none⟩)), (15, .int .i64 ((S.rs.length : Nat) : Int)), (16, .int .i64 ((q : Nat) : Int))]) (fun _ => [.row 30 7 (vb b2) 1 (svc S)]) (fun q => S.rs.length - q) 0 (Nat.zero_le _) ⟨rfl, rfl, rfl, rfl, trivial⟩ (HSub.refl _) (fun q hq K0 hK0 => ?_)
 refine CT.seq (CT.region ?_)
 refine Wl.q rfl rfl (OpQ.lss rfl rfl) ?_
 refine Wl.nil (PX.then_n (CT.seq ?_))
 refine CT.cond rfl (fun h17 => ?_) (fun h17 => ?_)
 ·
  have h17 := of_decide_eq_true h17
  have hrl := hv.rlen (q := q) (by omega)
  have hol := hv.olen (q := q) (by omega)
  refine CT.skip (PX.then_n (CT.seq (CT.block (CT.seq (CT.region ?_)))))
  refine Wl.q rfl rfl (OpQ.move rfl) ?_
  refine Wl.q rfl rfl (OpQ.assign rfl) ?_
  refine Wl.nil (PX.then_n (CT.seq (CT.seq (CT.region ?_))))
  refine Wl.q rfl rfl (OpQ.fieldAddr zf74 rfl) ?_
  refine Wl.q rfl rfl (OpQ.loadF (b := b2) zf69 rfl (by repeat (first | exact Has.here | apply Has.there)) (by rfl)) ?_
  refine Wl.q rfl rfl (OpQ.move rfl) ?_
  refine Wl.q rfl rfl (OpQ.index1 zf70 zf71 rfl rfl (by omega) (hfs (by omega))) ?_
  refine Wl.q rfl rfl (OpQ.loadG zf72 rfl (fun w hH => (hH.use hS).f) (getMap sv S.fi [] (j := q) (by omega))) ?_
  refine Wl.know 23 (v' := sv (S.sq.f q)) rfl rfl ?_
  refine Wl.q rfl rfl (OpQ.move rfl) ?_
  refine Wl.g rfl rfl (OpG.callV zf118 rfl (fun w hH => over_spec w (S.sq.f q) (hv.tf q (by rw [S.n_eq]; omega)).1 u hu (ho.f q (by rw [S.n_eq]; omega)))) ?_
  rintro _ _
  refine Wl.know 25 (v' := .bool true) rfl (congrArg Value.bool rfl) ?_
  refine Wl.q rfl rfl (OpQ.not rfl) ?_
  refine Wl.nil (PX.then_n ?_)
  refine CT.condF rfl ?_
  refine CT.skip (PX.then_n (CT.seq (CT.region ?_)))
  refine Wl.q rfl rfl (OpQ.fieldAddr zf65 rfl) ?_
  refine Wl.q rfl rfl (OpQ.loadF (b := b2) zf66 rfl (by repeat (first | exact Has.here | apply Has.there)) (by rfl)) ?_
  refine Wl.q rfl rfl (OpQ.move rfl) ?_
  refine Wl.q rfl rfl (OpQ.index1 zf67 zf68 rfl rfl (by omega) (hos (by omega))) ?_
  refine Wl.q rfl rfl (OpQ.loadG zf69 rfl (fun w hH => (hH.use hS).o) (getMap rxv S.os rx0 (j := q) (by omega))) ?_
  refine Wl.q rfl rfl (OpQ.len zf70 rfl) ?_
  refine Wl.know 32 (v' := .int .i64 ((S.L : Nat) : Int)) rfl (congrArg (Value.int .i64) (by rw [hol])) ?_
  refine Wl.q rfl rfl (OpQ.move rfl) ?_
  refine Wl.nil (PX.then_n (CT.block ?_))
  refine CT.loop (ι := Nat) (fun x => x ≤ S.L) (fun x => [(1, .int .i64 ((u : Nat) : Int)), (2, .pointer (some ⟨b2, 0, none⟩)), (15, .int .i64 ((S.rs.length : Nat) : Int)), (16, .int .i64 ((q : Nat) : Int)), (31, rxv (S.os.getD q rx0)), (32, .int .i64 ((S.L : Nat) : Int)), (33, .int .i64 ((x : Nat) : Int))]) (fun _ => [.row 30 7 (vb b2) 1 (svc S)]) (fun x => S.L - x) 0 (Nat.zero_le _) ⟨rfl, rfl, rfl, rfl, rfl, rfl, rfl, trivial⟩ (HSub.refl _) (fun x hx K1 hK1 => ?_)
  refine CT.seq (CT.region ?_)
  refine Wl.q rfl rfl (OpQ.lss rfl rfl) ?_
  refine Wl.nil (PX.then_n (CT.seq ?_))
  refine CT.cond rfl (fun h34 => ?_) (fun h34 => ?_)
  ·
   have h34 := of_decide_eq_true h34
   refine CT.skip (PX.then_n (CT.seq (CT.block (CT.seq (CT.region ?_)))))
   refine Wl.q rfl rfl (OpQ.index1 zf70 zf71 rfl rfl (by omega) (hus q (by omega) (by omega))) ?_
   refine Wl.q rfl rfl (OpQ.loadG zf72 rfl (fun w hH => (hH.use hS).u _ (getDm (show q < S.os.length by omega))) (getMap sv (S.os.getD q rx0).xs [] (j := x) (by omega))) ?_
   refine Wl.know 36 (v' := sv (S.sq.o q x)) rfl (congrArg sv (S.o_eq q x).symm) ?_
   refine Wl.q rfl rfl (OpQ.assign rfl) ?_
   refine Wl.nil (PX.then_n (CT.seq (CT.region ?_)))
   refine Wl.q rfl rfl (OpQ.move rfl) ?_
   refine Wl.q rfl rfl (OpQ.move rfl) ?_
   refine Wl.g rfl rfl (OpG.callV zf118 rfl (fun w hH => over_spec w (S.sq.o q x) (hv.to' q x (by rw [S.n_eq]; omega) (show x < S.L by omega)).1 u hu (ho.o q x (by rw [S.n_eq]; omega) (show x < S.L by omega)))) ?_
   rintro _ _
   refine Wl.know 39 (v' := .bool true) rfl (congrArg Value.bool rfl) ?_
   refine Wl.q rfl rfl (OpQ.not rfl) ?_
   refine Wl.nil (PX.then_n ?_)
   refine CT.condF rfl ?_
   refine CT.skip (PX.block_n (PX.then_n (CT.region ?_)))
   refine Wl.q rfl rfl (OpQ.add rfl rfl (by omega)) ?_
   refine Wl.q rfl rfl (OpQ.move rfl) ?_
   refine Wl.nil ?_
   exact PX.loop hK1 (x + 1) (by omega) (by first | omega | (dsimp only; omega)) ⟨rfl, rfl, rfl, rfl, rfl, rfl, rfl, trivial⟩ (HSub.refl _)
  ·
   have h34 := of_decide_eq_false h34
   refine CT.exit (PX.then_x (PX.then_x (PX.block_x (PX.block_n (PX.then_n (CT.region ?_))))))
   refine Wl.q rfl rfl (OpQ.add rfl rfl (by omega)) ?_
   refine Wl.q rfl rfl (OpQ.move rfl) ?_
   refine Wl.nil ?_
   exact PX.loop hK0 (q + 1) (by omega) (by first | omega | (dsimp only; omega)) ⟨rfl, rfl, rfl, rfl, trivial⟩ (HSub.refl _)
 ·
  have h17 := of_decide_eq_false h17
  refine CT.exit (PX.then_x (PX.then_x (PX.block_x (PX.then_n (CT.seq (CT.region ?_))))))
  refine Wl.q rfl rfl (OpQ.assign rfl) ?_
  refine Wl.nil (PX.then_n (CT.ret ?_))
  refine PX.ret1 rfl rfl (fun w' hH => ?_)
  exact ⟨rfl, hH.ext⟩

set_option maxRecDepth 100000 in
/-- semigroup/semigroupref42.writes -/
theorem writesR_spec (w : World) (S : Sv) (hS : Stays [] w (svm S)) (hv : S.sq.Ok 4096) (u : Nat) (ho : S.sq.Over u) : Calls Try.prog 46 #[svv S, .int .i64 ((u : Nat) : Int)] w (fun e w' => e = .returned (.bool true) ∧ Ext [] w w') := by
 obtain ⟨hb1, hb2, hb3, hb4⟩ := hv.bnd
 obtain ⟨hlo, hle, hlf⟩ := hv.lens
 have hns : 0 < S.rs.length → S.na.isSome = true := fun h => hS.now.n.isSome (j := 0) (by rw [List.length_map]; exact h)
 have hos : 0 < S.os.length → S.oa.isSome = true := fun h => hS.now.o.isSome (j := 0) (by rw [List.length_map]; exact h)
 have hes : 0 < S.en.length → S.ea.isSome = true := fun h => hS.now.e.isSome (j := 0) (by rw [List.length_map]; exact h)
 have hfs : 0 < S.fi.length → S.fa.isSome = true := fun h => hS.now.f.isSome (j := 0) (by rw [List.length_map]; exact h)
 have hrs : ∀ q, q < S.rs.length → 0 < (S.rs.getD q rx0).xs.length → (S.rs.getD q rx0).a.isSome = true := fun q hq h => (hS.now.r _ (getDm hq)).isSome (j := 0) (by rw [List.length_map]; exact h)
 have hus : ∀ q, q < S.os.length → 0 < (S.os.getD q rx0).xs.length → (S.os.getD q rx0).a.isSome = true := fun q hq h => (hS.now.u _ (getDm hq)).isSome (j := 0) (by rw [List.length_map]; exact h)
 have hal := fun q hq => allW_len hv (q := q) hq
 have hOk := allW_ok hv ho
 refine enter (args := [svv S, .int .i64 ((u : Nat) : Int)]) [] 48 Try.func46 rfl rfl rfl ?_
 refine CT.seq (CT.region ?_)
 refine Wl.g rfl rfl (OpG.box (size := 7) rfl rfl rfl) ?_
 rintro b2 _
 refine Wl.q rfl rfl (OpQ.assign rfl) ?_
 refine Wl.nil (PX.then_n (CT.seq (CT.region ?_)))
 refine Wl.q rfl rfl (OpQ.fieldAddr zf77 rfl) ?_
 refine Wl.q rfl rfl (OpQ.loadF (b := b2) zf72 rfl (by repeat (first | exact Has.here | apply Has.there)) (by rfl)) ?_
 refine Wl.g rfl rfl (OpG.lit1 zf70 zf83 rfl rfl rfl) ?_
 rintro b13 _
 refine Wl.q rfl rfl (OpQ.fieldAddr zf74 rfl) ?_
 refine Wl.q rfl rfl (OpQ.loadF (b := b2) zf69 rfl (by repeat (first | exact Has.here | apply Has.there)) (by rfl)) ?_
 refine Wl.g rfl rfl (OpG.append zf70 zf83 (by rfl) (by decide) rfl rfl (p := 0) rfl (fun w hH => (hH.use hS).f) ⟨(by rw [List.length_map, Nat.mul_one]), (by simp [Value.oneCell']), (by omega), (by omega)⟩ (nm := (allW S 0).length) (by simp [allW]; omega) (all := (allW S 0).map sv) (by simp [allW])) ?_
 rintro ⟨a16, c16⟩ h16
 refine Wl.q rfl rfl (OpQ.assign rfl) ?_
 refine Wl.nil (PX.then_n (CT.seq (CT.seq (CT.region ?_))))
 refine Wl.q rfl rfl (OpQ.fieldAddr zf65 rfl) ?_
 refine Wl.q rfl rfl (OpQ.loadF (b := b2) zf66 rfl (by repeat (first | exact Has.here | apply Has.there)) (by rfl)) ?_
 refine Wl.q rfl rfl (OpQ.len zf67 rfl) ?_
 refine Wl.q rfl rfl (OpQ.move rfl) ?_
 refine Wl.nil (PX.then_n (CT.block ?_))
 refine CT.loop (ι := Nat × Option Addr × Nat) (fun (q, a', c') => q ≤ S.os.length) (fun (q, a', c') => [(1, .int .i64 ((u : Nat) : Int)), (5, .slice a' (allW S q).length c'), (18, .slice S.oa S.os.length S.oc), (19, .int .i64 ((S.os.length : Nat) : Int)), (20, .int .i64 ((q : Nat) : Int))]) (fun (q, a', c') => [.row 9 1 (.slice a' (allW S q).length c') (allW S q).length ((allW S q).map sv), .row 30 7 (vb b2) 1 (svc S)]) (fun (q, a', c') => S.os.length - q) (0, a16, c16) (Nat.zero_le _) ⟨rfl, rfl, rfl, rfl, rfl, trivial⟩ (HSub.refl _) (fun ⟨q, a', c'⟩ hq K0 hK0 => ?_)
 dsimp only
 have hal1 := hal q hq
 refine CT.seq (CT.region ?_)
 refine Wl.q rfl rfl (OpQ.lss rfl rfl) ?_
 refine Wl.nil (PX.then_n (CT.seq ?_))
 refine CT.cond rfl (fun h21 => ?_) (fun h21 => ?_)
 ·
  have h21 := of_decide_eq_true h21
  have hql : q < S.os.length := by omega
  have hol := hv.olen (q := q) (by omega)
  refine CT.skip (PX.then_n (CT.seq (CT.block (CT.seq (CT.region ?_)))))
  refine Wl.q rfl rfl (OpQ.index1 zf67 zf68 rfl rfl (by omega) (hos (by omega))) ?_
  refine Wl.q rfl rfl (OpQ.loadG zf69 rfl (fun w hH => (hH.use hS).o) (getMap rxv S.os rx0 (j := q) (by omega))) ?_
  refine Wl.q rfl rfl (OpQ.assign rfl) ?_
  refine Wl.nil (PX.then_n (CT.region ?_))
  refine Wl.q rfl rfl (OpQ.move rfl) ?_
  refine Wl.q rfl rfl (OpQ.move rfl) ?_
  refine Wl.g rfl rfl (OpG.append zf70 zf83 (by rfl) (by decide) rfl rfl (p := 0) rfl (fun w hH => (hH.use hS).u _ (getDm (d := rx0) hql)) ⟨(by rw [List.length_map, Nat.mul_one]), (by simp [Value.oneCell']), (by omega), (by omega)⟩ (nm := (allW S (q + 1)).length) (by rw [allW_s hql, List.length_append]) (all := (allW S (q + 1)).map sv) (by rw [allW_s hql, List.map_append])) ?_
  rintro ⟨a26, c26⟩ h26
  refine Wl.q rfl rfl (OpQ.assign rfl) ?_
  refine Wl.nil (PX.block_n (PX.then_n (CT.region ?_)))
  refine Wl.q rfl rfl (OpQ.add rfl rfl (by omega)) ?_
  refine Wl.q rfl rfl (OpQ.move rfl) ?_
  refine Wl.nil ?_
  exact PX.loop hK0 (q + 1, a26, c26) (by omega) (show S.os.length - (q + 1) < S.os.length - q by omega) ⟨rfl, rfl, rfl, rfl, rfl, trivial⟩ (HSub.refl _)
 ·
  have h21 := of_decide_eq_false h21
  obtain rfl : q = S.os.length := by omega
  refine CT.fact (p := 0 < (allW S S.os.length).length → a'.isSome = true) (fun w hH h => (hH.rd .here).isSome (j := 0) (by rw [List.length_map]; exact h)) (fun hia => ?_)
  refine CT.exit (PX.then_x (PX.then_x (PX.block_x (PX.then_n (CT.seq (CT.seq (CT.region ?_)))))))
  refine Wl.q rfl rfl (OpQ.move rfl) ?_
  refine Wl.q rfl rfl (OpQ.len zf70 rfl) ?_
  refine Wl.q rfl rfl (OpQ.move rfl) ?_
  refine Wl.nil (PX.then_n (CT.block ?_))
  refine CT.loop (ι := Nat) (fun i => i ≤ (allW S S.os.length).length) (fun i => [(1, .int .i64 ((u : Nat) : Int)), (28, .slice a' (allW S S.os.length).length c'), (29, .int .i64 (((allW S S.os.length).length : Nat) : Int)), (30, .int .i64 ((i : Nat) : Int))]) (fun _ => [.row 9 1 (.slice a' (allW S S.os.length).length c') (allW S S.os.length).length ((allW S S.os.length).map sv), .row 30 7 (vb b2) 1 (svc S)]) (fun i => (allW S S.os.length).length - i) 0 (Nat.zero_le _) ⟨rfl, rfl, rfl, rfl, trivial⟩ (HSub.refl _) (fun i hi K1 hK1 => ?_)
  refine CT.seq (CT.region ?_)
  refine Wl.q rfl rfl (OpQ.lss rfl rfl) ?_
  refine Wl.nil (PX.then_n (CT.seq ?_))
  refine CT.cond rfl (fun h31 => ?_) (fun h31 => ?_)
  ·
   have h31 := of_decide_eq_true h31
   obtain ⟨hst, hso⟩ := hOk S.os.length _ (getDm (d := []) (show i < (allW S S.os.length).length by omega))
   obtain ⟨s, hs⟩ : ∃ s, s = (allW S S.os.length).getD i [] := ⟨_, rfl⟩
   rw [← hs] at hst hso
   have hsl := hst.1
   refine CT.skip (PX.then_n (CT.seq (CT.block (CT.seq (CT.region ?_)))))
   refine Wl.q rfl rfl (OpQ.index1 zf70 zf71 rfl rfl (by omega) (hia (by omega))) ?_
   refine Wl.q rfl rfl (OpQ.loadRow zf72 rfl .here (getMap sv (allW S S.os.length) [] (j := i) (by omega))) ?_
   refine Wl.know 33 (v' := sv s) rfl (congrArg sv hs.symm) ?_
   refine Wl.q rfl rfl (OpQ.assign rfl) ?_
   refine Wl.nil (PX.then_n (CT.seq (CT.region ?_)))
   refine Wl.q rfl rfl (OpQ.assign rfl) ?_
   refine Wl.nil (PX.then_n (CT.block ?_))
   refine CT.loop (ι := Nat) (fun k => k ≤ s.length) (fun k => [(1, .int .i64 ((u : Nat) : Int)), (28, .slice a' (allW S S.os.length).length c'), (29, .int .i64 (((allW S S.os.length).length : Nat) : Int)), (30, .int .i64 ((i : Nat) : Int)), (9, sv s), (10, .int .i64 ((k : Nat) : Int))]) (fun _ => [.row 9 1 (.slice a' (allW S S.os.length).length c') (allW S S.os.length).length ((allW S S.os.length).map sv), .row 30 7 (vb b2) 1 (svc S)]) (fun k => s.length - k) 0 (Nat.zero_le _) ⟨rfl, rfl, rfl, rfl, rfl, rfl, trivial⟩ (HSub.refl _) (fun k hk K2 hK2 => ?_)
   refine CT.seq (CT.seq (CT.region ?_))
   refine Wl.q rfl rfl (OpQ.move rfl) ?_
   refine Wl.q rfl rfl (OpQ.move rfl) ?_
   refine Wl.q rfl rfl (OpQ.lenSv zf4 rfl) ?_
   refine Wl.q rfl rfl (OpQ.lss rfl rfl) ?_
   refine Wl.nil (PX.then_n ?_)
   refine CT.cond rfl (fun h37 => ?_) (fun h37 => ?_)
   ·
    have h37 := of_decide_eq_true h37
    have hb1 := hst.2 _ (getDm (d := 0) (show k < s.length by omega))
    have hb2x := hso _ (getDm (d := 0) (show k < s.length by omega))
    refine CT.skip (PX.then_n (CT.seq (CT.block (CT.seq (CT.region ?_)))))
    refine Wl.q rfl rfl (OpQ.move rfl) ?_
    refine Wl.q rfl rfl (OpQ.move rfl) ?_
    refine Wl.q rfl rfl (OpQ.indexSvN zf4 rfl rfl (by omega)) ?_
    refine Wl.q rfl rfl (OpQ.sub8 rfl rfl (by omega)) ?_
    refine Wl.know 43 (v' := .int .u8 ((((s.getD k 0).toNat - 97 : Nat) : Int))) rfl (congrArg (Value.int .u8) (by omega)) ?_
    refine Wl.q rfl rfl (OpQ.conv rfl (conv_u8_i64 zf3 zf13 _ (by omega))) ?_
    refine Wl.q rfl rfl (OpQ.move rfl) ?_
    refine Wl.q rfl rfl (OpQ.geq rfl rfl) ?_
    refine Wl.know 46 (v' := .bool false) rfl (congrArg Value.bool (decide_eq_false (by omega))) ?_
    refine Wl.nil (PX.then_n ?_)
    refine CT.condF rfl ?_
    refine CT.skip (PX.block_n (PX.then_n (CT.region ?_)))
    refine Wl.q rfl rfl (OpQ.move rfl) ?_
    refine Wl.q rfl rfl (OpQ.add rfl rfl (by omega)) ?_
    refine Wl.q rfl rfl (OpQ.assign rfl) ?_
    refine Wl.nil ?_
    exact PX.loop hK2 (k + 1) (by omega) (by first | omega | (dsimp only; omega)) ⟨rfl, rfl, rfl, rfl, rfl, rfl, trivial⟩ (HSub.refl _)
   ·
    have h37 := of_decide_eq_false h37
    refine CT.exit (PX.then_x (PX.then_x (PX.block_x (PX.block_n (PX.then_n (CT.region ?_))))))
    refine Wl.q rfl rfl (OpQ.add rfl rfl (by omega)) ?_
    refine Wl.q rfl rfl (OpQ.move rfl) ?_
    refine Wl.nil ?_
    exact PX.loop hK1 (i + 1) (by omega) (by first | omega | (dsimp only; omega)) ⟨rfl, rfl, rfl, rfl, trivial⟩ (HSub.refl _)
  ·
   have h31 := of_decide_eq_false h31
   refine CT.exit (PX.then_x (PX.then_x (PX.block_x (PX.then_n (CT.seq (CT.region ?_))))))
   refine Wl.q rfl rfl (OpQ.assign rfl) ?_
   refine Wl.nil (PX.then_n (CT.ret ?_))
   refine PX.ret1 rfl rfl (fun w' hH => ?_)
   exact ⟨rfl, hH.ext⟩

end Go.Proofs.Ytamolakhpcofhaa

