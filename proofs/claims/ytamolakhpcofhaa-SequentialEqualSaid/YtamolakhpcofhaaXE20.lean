/-
  What functions of the program compute, each by its walk. Conditions: those that each theorem names.
-/
import Derived.Test.YtamolakhpcofhaaMod1
import Derived.Test.YtamolakhpcofhaaXE2
import Derived.Test.YtamolakhpcofhaaXE6
import Derived.Test.YtamolakhpcofhaaXF
set_option linter.unusedSimpArgs false
namespace Go.Proofs.Ytamolakhpcofhaa
open Go Go.Eng Go.Am Go.Sq
open Go.Tp (zi)
open Go.Tl (mayL Wd okW okB bo)

set_option maxRecDepth 100000 in
/-- semigroup/semigroupref42.run -/
theorem run_spec (w : World) {M : Nat} (S : Sv) (hS : Stays [] w (svm S)) (hv : S.sq.Ok M) (q0 : Nat) (hq0 : q0 < S.rs.length) {B : Nat} (ws : Wd) (hws : okT B ws) (ho : okO S.L ws) (hBM : B * M ≤ 4096) (hwlen : ws.length ≤ 1000000) : Calls Try.prog 47 #[svv S, .int .i64 ((q0 : Nat) : Int), sv ws] w (fun e w' => ∃ p : Option Nat × Wd, RnI (S.sq.tr.run q0 (wl ws)) p ∧ e = .returned (.tuple #[zo p.1, sv p.2]) ∧ Ext [] w w') := by
 obtain ⟨hb1, hb2, hb3, hb4⟩ := hv.bnd
 obtain ⟨hlo, hle, hlf⟩ := hv.lens
 have hns : 0 < S.rs.length → S.na.isSome = true := fun h => hS.now.n.isSome (j := 0) (by rw [List.length_map]; exact h)
 have hos : 0 < S.os.length → S.oa.isSome = true := fun h => hS.now.o.isSome (j := 0) (by rw [List.length_map]; exact h)
 have hes : 0 < S.en.length → S.ea.isSome = true := fun h => hS.now.e.isSome (j := 0) (by rw [List.length_map]; exact h)
 have hfs : 0 < S.fi.length → S.fa.isSome = true := fun h => hS.now.f.isSome (j := 0) (by rw [List.length_map]; exact h)
 have hrs : ∀ q, q < S.rs.length → 0 < (S.rs.getD q rx0).xs.length → (S.rs.getD q rx0).a.isSome = true := fun q hq h => (hS.now.r _ (getDm hq)).isSome (j := 0) (by rw [List.length_map]; exact h)
 have hus : ∀ q, q < S.os.length → 0 < (S.os.getD q rx0).xs.length → (S.os.getD q rx0).a.isSome = true := fun q hq h => (hS.now.u _ (getDm hq)).isSome (j := 0) (by rw [List.length_map]; exact h)
 have hwl1 := hws.1
 have hB6 : ws.length ≤ 1000000 := hwlen
 refine enter (args := [svv S, .int .i64 ((q0 : Nat) : Int), sv ws]) [] 50 Try.func47 rfl rfl rfl ?_
 refine CT.seq (CT.region ?_)
 refine Wl.g rfl rfl (OpG.box (size := 7) rfl rfl rfl) ?_
 rintro b3 _
 refine Wl.q rfl rfl (OpQ.assign rfl) ?_
 refine Wl.q rfl rfl (OpQ.assign rfl) ?_
 refine Wl.nil (PX.then_n (CT.seq (CT.region ?_)))
 refine Wl.q rfl rfl (OpQ.assign rfl) ?_
 refine Wl.nil (PX.then_n (CT.seq (CT.seq (CT.region ?_))))
 refine Wl.q rfl rfl (OpQ.assign rfl) ?_
 refine Wl.nil (PX.then_n (CT.block ?_))
 refine CT.loop (ι := Nat × Option Nat × Wd) (fun (k, o, l) => k ≤ ws.length ∧ (match o with | none => S.sq.tr.run q0 (wl ws) = none | some q => q < S.rs.length ∧ S.sq.tr.run q0 ((wl ws).take k) = some (q, l)) ∧ l.length ≤ k * M) (fun (k, o, l) => [(1, zo o), (2, sv ws), (3, .pointer (some ⟨b3, 0, none⟩)), (8, sv l), (9, .int .i64 ((k : Nat) : Int))]) (fun (k, o, l) => [.row 30 7 (vb b3) 1 (svc S)]) (fun (k, o, l) => ws.length - k) (0, some q0, []) ⟨Nat.zero_le _, ⟨hq0, rfl⟩, Nat.zero_le _⟩ ⟨rfl, rfl, rfl, rfl, rfl, trivial⟩ (HSub.refl _) (fun ⟨k, o, l⟩ ⟨hk, hinv, hll⟩ K0 hK0 => ?_)
 dsimp only
 refine CT.seq (CT.seq (CT.region ?_))
 refine Wl.q rfl rfl (OpQ.move rfl) ?_
 refine Wl.q rfl rfl (OpQ.move rfl) ?_
 refine Wl.q rfl rfl (OpQ.lenSv zf4 rfl) ?_
 refine Wl.q rfl rfl (OpQ.lss rfl rfl) ?_
 refine Wl.q rfl rfl (OpQ.move rfl) ?_
 refine Wl.split 15 rfl (fun hg15 => ?_) (fun hg15 => ?_)
 ·
  have hg15 := of_decide_eq_true hg15
  refine Wl.q rfl rfl (OpQ.move rfl) ?_
  refine Wl.q rfl rfl (OpQ.geq rfl rfl) ?_
  refine Wl.q rfl rfl (OpQ.pickT rfl rfl) ?_
  refine Wl.nil (PX.then_n ?_)
  refine CT.cond rfl (fun h18 => ?_) (fun h18 => ?_)
  ·
   have h18 := of_decide_eq_true h18
   obtain ⟨q, rfl⟩ : ∃ q, o = some q := by cases o with | none => exact absurd h18 (by decide) | some q => exact ⟨q, rfl⟩
   obtain ⟨hq, hrun⟩ := hinv
   refine CT.know 1 (v' := zn q) rfl rfl ?_
   have hkl : k < ws.length := by omega
   have hbb := hws.2 _ (getDm (d := 0) hkl)
   have hbo := ho _ (getDm (d := 0) hkl)
   have hxL : ((ws.getD k 0).toNat - 97) < S.L := by omega
   have hqn : q < S.sq.n := by rw [S.n_eq]; exact hq
   have hrl := hv.rlen (q := q) (by omega)
   have hol := hv.olen (q := q) (by omega)
   have hot := (hv.to' q ((ws.getD k 0).toNat - 97) hqn hxL).1
   have hwlB := hws.1
   have hkM : (k + 1) * M ≤ B * M := Nat.mul_le_mul_right _ (by omega)
   have hkM2 : (k + 1) * M = k * M + M := by rw [Nat.add_mul, Nat.one_mul]
   refine CT.skip (PX.then_n (CT.seq (CT.block (CT.seq (CT.region ?_)))))
   refine Wl.q rfl rfl (OpQ.move rfl) ?_
   refine Wl.q rfl rfl (OpQ.move rfl) ?_
   refine Wl.q rfl rfl (OpQ.indexSvN zf4 rfl rfl (by omega)) ?_
   refine Wl.q rfl rfl (OpQ.sub8 rfl rfl (by omega)) ?_
   refine Wl.know 24 (v' := .int .u8 ((((ws.getD k 0).toNat - 97) : Nat) : Int)) rfl (congrArg (Value.int .u8) (by omega)) ?_
   refine Wl.q rfl rfl (OpQ.conv rfl (conv_u8_i64 zf3 zf13 _ (by omega))) ?_
   refine Wl.know 25 (v' := .int .i64 ((((ws.getD k 0).toNat - 97) : Nat) : Int)) rfl rfl ?_
   refine Wl.q rfl rfl (OpQ.assign rfl) ?_
   refine Wl.nil (PX.then_n (CT.seq (CT.seq (CT.region ?_))))
   refine Wl.q rfl rfl (OpQ.move rfl) ?_
   refine Wl.q rfl rfl (OpQ.fieldAddr zf33 rfl) ?_
   refine Wl.q rfl rfl (OpQ.loadF (b := b3) zf8 rfl (by repeat (first | exact Has.here | apply Has.there)) (by rfl)) ?_
   refine Wl.q rfl rfl (OpQ.geq rfl rfl) ?_
   refine Wl.know 29 (v' := .bool false) rfl (congrArg Value.bool (decide_eq_false (by omega))) ?_
   refine Wl.nil (PX.then_n ?_)
   refine CT.condF rfl ?_
   refine CT.skip (PX.then_n ?_)
   refine CT.draw 20 zf6 ?_
   refine RA.q 0 (by kernel_rfl) rfl rfl rfl (.refl _) (OpQ.move rfl) ?_
   refine RA.q 1 (by kernel_rfl) rfl rfl rfl (.refl _) (OpQ.fieldAddr zf34 rfl) ?_
   refine RA.q 2 (by kernel_rfl) rfl rfl rfl (.refl _) (OpQ.loadF (b := b3) zf35 rfl (by repeat (first | exact Has.here | apply Has.there)) (by rfl)) ?_
   refine RA.q 3 (by kernel_rfl) rfl rfl rfl (.refl _) (OpQ.move rfl) ?_
   refine RA.q 4 (by kernel_rfl) rfl rfl rfl (.refl _) (OpQ.index1 zf23 zf36 rfl rfl (by omega) (hos (by omega))) ?_
   refine RA.q 5 (by kernel_rfl) rfl rfl rfl (.refl _) (OpQ.loadG zf37 rfl (fun w hH => (hH.use hS).o) (getMap rxv S.os rx0 (j := q) (by omega))) ?_
   refine RA.q 6 (by kernel_rfl) rfl rfl rfl (.refl _) (OpQ.move rfl) ?_
   refine RA.q 7 (by kernel_rfl) rfl rfl rfl (.refl _) (OpQ.index1 zf17 zf38 rfl rfl (by omega) (hus q (by omega) (by omega))) ?_
   refine RA.q 8 (by kernel_rfl) rfl rfl rfl (.refl _) (OpQ.loadG zf39 rfl (fun w hH => (hH.use hS).u _ (getDm (show q < S.os.length by omega))) (getMap sv (S.os.getD q rx0).xs [] (j := ((ws.getD k 0).toNat - 97)) (by omega))) ?_
   refine RA.know 38 (v' := sv (S.sq.o q ((ws.getD k 0).toNat - 97))) rfl (congrArg sv (S.o_eq q ((ws.getD k 0).toNat - 97)).symm) ?_
   refine RA.q 9 (by kernel_rfl) rfl rfl rfl (.refl _) (OpQ.concat rfl rfl (by omega)) ?_
   refine RA.q 10 (by kernel_rfl) rfl rfl rfl (.refl _) (OpQ.fieldAddr zf30 rfl) ?_
   refine RA.q 11 (by kernel_rfl) rfl rfl rfl (.refl _) (OpQ.loadF (b := b3) zf31 rfl (by repeat (first | exact Has.here | apply Has.there)) (by rfl)) ?_
   refine RA.q 12 (by kernel_rfl) rfl rfl rfl (.refl _) (OpQ.move rfl) ?_
   refine RA.q 13 (by kernel_rfl) rfl rfl rfl (.refl _) (OpQ.index1 zf21 zf32 rfl rfl (by omega) (hns (by omega))) ?_
   refine RA.q 14 (by kernel_rfl) rfl rfl rfl (.refl _) (OpQ.loadG zf10 rfl (fun w hH => (hH.use hS).n) (getMap rxv S.rs rx0 (j := q) (by omega))) ?_
   refine RA.q 15 (by kernel_rfl) rfl rfl rfl (.refl _) (OpQ.move rfl) ?_
   refine RA.q 16 (by kernel_rfl) rfl rfl rfl (.refl _) (OpQ.index1 zf0 zf1 rfl rfl (by omega) (hrs q (by omega) (by omega))) ?_
   refine RA.q 17 (by kernel_rfl) rfl rfl rfl (.refl _) (OpQ.loadG zf8 rfl (fun w hH => (hH.use hS).r _ (getDm (show q < S.rs.length by omega))) (getMap zo (S.rs.getD q rx0).xs none (j := ((ws.getD k 0).toNat - 97)) (by omega))) ?_
   refine RA.know 47 (v' := zo (S.sq.to q ((ws.getD k 0).toNat - 97))) rfl (congrArg zo (S.to_eq q ((ws.getD k 0).toNat - 97)).symm) ?_
   refine RA.q 18 (by kernel_rfl) rfl rfl rfl (.refl _) (OpQ.assign rfl) ?_
   refine RA.q 19 (by kernel_rfl) rfl rfl rfl (.refl _) (OpQ.assign rfl) ?_
   refine RA.tail ?_
   refine RT.done (by kernel_rfl) ?_
   refine PX.block_n (PX.then_n (CT.region ?_))
   refine Wl.q rfl rfl (OpQ.move rfl) ?_
   refine Wl.q rfl rfl (OpQ.add rfl rfl (by omega)) ?_
   refine Wl.q rfl rfl (OpQ.assign rfl) ?_
   refine Wl.nil ?_
   exact PX.loop hK0 (k + 1, S.sq.to q ((ws.getD k 0).toNat - 97), l ++ S.sq.o q ((ws.getD k 0).toNat - 97)) ⟨by omega, (by cases hto : S.sq.to q ((ws.getD k 0).toNat - 97) with | none => exact run_deadQ hkl hrun hto | some r => exact ⟨by rw [← S.n_eq]; exact hv.lt q _ r hqn hxL hto, run_stepQ hkl hrun hto⟩), by rw [List.length_append]; omega⟩ (show ws.length - (k + 1) < ws.length - k by omega) ⟨rfl, rfl, rfl, rfl, rfl, trivial⟩ (HSub.refl _)
  ·
   have h18 := of_decide_eq_false h18
   refine CT.exit (PX.then_x (PX.then_x (PX.block_x (PX.then_n (CT.seq (CT.region ?_))))))
   refine Wl.q rfl rfl (OpQ.move rfl) ?_
   refine Wl.q rfl rfl (OpQ.move rfl) ?_
   refine Wl.q rfl rfl (OpQ.assign rfl) ?_
   refine Wl.q rfl rfl (OpQ.assign rfl) ?_
   refine Wl.nil (PX.then_n (CT.ret ?_))
   refine PX.ret2 rfl rfl rfl (fun w' hH => ?_)
   cases o with | none => exact ⟨(none, l), (by rw [show S.sq.tr.run q0 (wl ws) = none from hinv]; rfl), rfl, hH.ext⟩ | some q => exact absurd (show (q : Int) ≥ 0 by omega) h18
 ·
  have hg15 := of_decide_eq_false hg15
  refine Wl.skip rfl rfl ?_
  refine Wl.skip rfl rfl ?_
  refine Wl.q rfl rfl (OpQ.pickF rfl rfl) ?_
  refine Wl.nil (PX.then_n ?_)
  refine CT.condF rfl ?_
  refine CT.exit (PX.then_x (PX.then_x (PX.block_x (PX.then_n (CT.seq (CT.region ?_))))))
  refine Wl.q rfl rfl (OpQ.move rfl) ?_
  refine Wl.q rfl rfl (OpQ.move rfl) ?_
  refine Wl.q rfl rfl (OpQ.assign rfl) ?_
  refine Wl.q rfl rfl (OpQ.assign rfl) ?_
  refine Wl.nil (PX.then_n (CT.ret ?_))
  refine PX.ret2 rfl rfl rfl (fun w' hH => ?_)
  obtain rfl : k = ws.length := by omega
  cases o with | none => exact ⟨(none, l), (by rw [show S.sq.tr.run q0 (wl ws) = none from hinv]; rfl), rfl, hH.ext⟩ | some q => exact ⟨(some q, l), (by rw [run_endQ hinv.2]; rfl), rfl, hH.ext⟩

end Go.Proofs.Ytamolakhpcofhaa

