/-
  What functions of the program compute, each by its walk. Conditions: those that each theorem names.
-/
import Derived.Test.YtamolakhpcofhaaMod
import Derived.Test.YtamolakhpcofhaaXE5
import Derived.Test.YtamolakhpcofhaaXF
set_option linter.unusedSimpArgs false
namespace Go.Proofs.Ytamolakhpcofhaa
open Go Go.Eng Go.Am Go.Sq
open Go.Tl (mayL Wd okW okB bo)

set_option maxRecDepth 100000 in
/-- semigroup/sequential.Apply -/
theorem apply_spec (w : World) (S : Sv) (hS : Stays [] w (svm S)) (hv : S.sq.Ok 4096) (ws : Wd) (hws : okW ws S.L = true) : Calls Try.prog 19 #[svv S, sv ws] w (fun e w' => e = .returned (.tuple #[sv (apv (S.sq.value (wl ws))).1, .bool (apv (S.sq.value (wl ws))).2]) ∧ Ext [] w w') := by
 obtain ⟨hb1, hb2, hb3, hb4⟩ := hv.bnd
 obtain ⟨hlo, hle, hlf⟩ := hv.lens
 have hns : 0 < S.rs.length → S.na.isSome = true := fun h => hS.now.n.isSome (j := 0) (by rw [List.length_map]; exact h)
 have hos : 0 < S.os.length → S.oa.isSome = true := fun h => hS.now.o.isSome (j := 0) (by rw [List.length_map]; exact h)
 have hes : 0 < S.en.length → S.ea.isSome = true := fun h => hS.now.e.isSome (j := 0) (by rw [List.length_map]; exact h)
 have hfs : 0 < S.fi.length → S.fa.isSome = true := fun h => hS.now.f.isSome (j := 0) (by rw [List.length_map]; exact h)
 have hrs : ∀ q, q < S.rs.length → 0 < (S.rs.getD q rx0).xs.length → (S.rs.getD q rx0).a.isSome = true := fun q hq h => (hS.now.r _ (getDm hq)).isSome (j := 0) (by rw [List.length_map]; exact h)
 have hus : ∀ q, q < S.os.length → 0 < (S.os.getD q rx0).xs.length → (S.os.getD q rx0).a.isSome = true := fun q hq h => (hS.now.u _ (getDm hq)).isSome (j := 0) (by rw [List.length_map]; exact h)
 have hwl : ws.length ≤ 2048 := Tl.okW_len hws
 have hil := hv.ti.1
 have hil2 : S.init.length ≤ 4096 := hil
 refine enter (args := [svv S, sv ws]) [] 74 Try.func19 rfl rfl rfl ?_
 refine CT.seq (CT.region ?_)
 refine Wl.g rfl rfl (OpG.box (size := 7) rfl rfl rfl) ?_
 rintro b2 _
 refine Wl.q rfl rfl (OpQ.assign rfl) ?_
 refine Wl.q rfl rfl (OpQ.assign rfl) ?_
 refine Wl.nil (PX.then_n (CT.seq (CT.seq (CT.region ?_))))
 refine Wl.q rfl rfl (OpQ.loadV (b := b2) zf29 zf28 rfl (by repeat (first | exact Has.here | apply Has.there)) (by rfl)) ?_
 refine Wl.know 10 (v' := svv S) rfl rfl ?_
 refine Wl.g rfl rfl (OpG.callV zf77 rfl (fun w hH => svalid_spec w S (hH.stays0 hS) hv)) ?_
 rintro _ _
 refine Wl.q rfl rfl (OpQ.neq rfl rfl) ?_
 refine Wl.know 12 (v' := .bool false) rfl (congrArg Value.bool (by decide)) ?_
 refine Wl.q rfl rfl (OpQ.move rfl) ?_
 refine Wl.q rfl rfl (OpQ.move rfl) ?_
 refine Wl.q rfl rfl (OpQ.fieldAddr zf33 rfl) ?_
 refine Wl.q rfl rfl (OpQ.loadF (b := b2) zf8 rfl (by repeat (first | exact Has.here | apply Has.there)) (by rfl)) ?_
 refine Wl.g rfl rfl (OpG.callV zf78 rfl (fun w hH => wvalid_spec w ws (by omega) S.L)) ?_
 rintro _ _
 refine Wl.know 17 (v' := .bool true) rfl (congrArg Value.bool hws) ?_
 refine Wl.q rfl rfl (OpQ.not rfl) ?_
 refine Wl.q rfl rfl (OpQ.pickF rfl rfl) ?_
 refine Wl.nil (PX.then_n ?_)
 refine CT.condF rfl ?_
 refine CT.skip (PX.then_n (CT.seq (CT.region ?_)))
 refine Wl.g rfl rfl (OpG.alloc (zs := [.pointer none, .slice none 0 0]) zf79 rfl rfl) ?_
 rintro b6 _
 refine Wl.as (fun _ h => h.nilrow 5 1) ?_
 refine Wl.nil (PX.then_n (CT.seq (CT.region ?_)))
 refine Wl.q rfl rfl (OpQ.fieldAddr zf47 rfl) ?_
 refine Wl.q rfl rfl (OpQ.loadF (b := b2) zf39 rfl (by repeat (first | exact Has.here | apply Has.there)) (by rfl)) ?_
 refine Wl.g rfl rfl (OpG.callX zf80 rfl (.cons (.there .here) (.cons .here .nil)) (fun _ => (.cons (.cons .nil))) (fun w hH hp => wstr_spec w b6 false none 0 [] (by simp) hp S.init (by simp; omega))) ?_
 rintro ⟨a', c'⟩ hc
 dsimp only at hc
 refine Wl.nil (PX.then_n (CT.seq (CT.region ?_)))
 refine Wl.q rfl rfl (OpQ.fieldAddr zf46 rfl) ?_
 refine Wl.q rfl rfl (OpQ.loadF (b := b2) zf8 rfl (by repeat (first | exact Has.here | apply Has.there)) (by rfl)) ?_
 refine Wl.q rfl rfl (OpQ.assign rfl) ?_
 refine Wl.nil (PX.then_n (CT.seq (CT.seq (CT.region ?_))))
 refine Wl.q rfl rfl (OpQ.move rfl) ?_
 refine Wl.q rfl rfl (OpQ.lenSv zf4 rfl) ?_
 refine Wl.q rfl rfl (OpQ.move rfl) ?_
 refine Wl.nil (PX.then_n (CT.block ?_))
 refine CT.loop (ι := Nat × Nat × Wd × Option Addr × Nat) (fun (k, q, l, a', c') => k ≤ ws.length ∧ q < S.rs.length ∧ S.sq.tr.run S.s ((wl ws).take k) = some (q, l) ∧ (a'.isSome = true → c' ≠ 0) ∧ l.length ≤ 4096 * k) (fun (k, q, l, a', c') => [(1, sv ws), (2, .pointer (some ⟨b2, 0, none⟩)), (6, .pointer (some ⟨b6, 0, none⟩)), (7, .int .i64 ((q : Nat) : Int)), (26, .int .i64 ((ws.length : Nat) : Int)), (27, .int .i64 ((k : Nat) : Int))]) (fun (k, q, l, a', c') => [.row 94 2 (vb b6) 1 [.pointer (if true then some ⟨b6, 0, none⟩ else none), .slice a' (S.init ++ l).length c'], .row 5 1 (.slice a' (S.init ++ l).length c') (S.init ++ l).length ((S.init ++ l).map bv), .row 30 7 (vb b2) 1 (svc S)]) (fun (k, q, l, a', c') => ws.length - k) (0, S.s, [], a', c') ⟨Nat.zero_le _, hb4, rfl, hc, Nat.zero_le _⟩ ⟨rfl, rfl, rfl, rfl, rfl, rfl, trivial⟩ (by dsimp only; rw [List.append_nil]; exact HSub.refl _) (fun ⟨k, q, l, a', c'⟩ ⟨hk, hq, hrun, hc, hll⟩ K0 hK0 => ?_)
 dsimp only
 refine CT.seq (CT.region ?_)
 refine Wl.q rfl rfl (OpQ.lss rfl rfl) ?_
 refine Wl.nil (PX.then_n (CT.seq ?_))
 refine CT.cond rfl (fun h28 => ?_) (fun h28 => ?_)
 ·
  have h28 := of_decide_eq_true h28
  have hkl : k < ws.length := by omega
  have hb := okW_byte hws hkl
  have hxL : ((ws.getD k 0).toNat - 97) < S.L := by omega
  have hqn : q < S.sq.n := by rw [S.n_eq]; exact hq
  have hrl := hv.rlen (q := q) (by omega)
  have hol := hv.olen (q := q) (by omega)
  have hot := (hv.to' q ((ws.getD k 0).toNat - 97) hqn hxL).1
  refine CT.skip (PX.then_n (CT.seq (CT.block (CT.seq (CT.region ?_)))))
  refine Wl.q rfl rfl (OpQ.move rfl) ?_
  refine Wl.q rfl rfl (OpQ.assign rfl) ?_
  refine Wl.nil (PX.then_n (CT.seq (CT.region ?_)))
  refine Wl.q rfl rfl (OpQ.move rfl) ?_
  refine Wl.q rfl rfl (OpQ.move rfl) ?_
  refine Wl.q rfl rfl (OpQ.indexSvN zf4 rfl rfl (by omega)) ?_
  refine Wl.q rfl rfl (OpQ.sub8 rfl rfl (by omega)) ?_
  refine Wl.know 33 (v' := .int .u8 ((((ws.getD k 0).toNat - 97) : Nat) : Int)) rfl (congrArg (Value.int .u8) (by omega)) ?_
  refine Wl.q rfl rfl (OpQ.assign rfl) ?_
  refine Wl.nil (PX.then_n (CT.seq (CT.seq (CT.region ?_))))
  refine Wl.q rfl rfl (OpQ.fieldAddr zf30 rfl) ?_
  refine Wl.q rfl rfl (OpQ.loadF (b := b2) zf31 rfl (by repeat (first | exact Has.here | apply Has.there)) (by rfl)) ?_
  refine Wl.q rfl rfl (OpQ.move rfl) ?_
  refine Wl.q rfl rfl (OpQ.index1 zf21 zf32 rfl rfl (by omega) (hns (by omega))) ?_
  refine Wl.q rfl rfl (OpQ.loadG zf10 rfl (fun w hH => (hH.use hS).n) (getMap rxv S.rs rx0 (j := q) (by omega))) ?_
  refine Wl.q rfl rfl (OpQ.move rfl) ?_
  refine Wl.q rfl rfl (OpQ.indexK1 zf0 zf1 rfl rfl (by omega) (hrs q (by omega) (by omega))) ?_
  refine Wl.q rfl rfl (OpQ.loadG zf8 rfl (fun w hH => (hH.use hS).r _ (getDm (show q < S.rs.length by omega))) (getMap zo (S.rs.getD q rx0).xs none (j := ((ws.getD k 0).toNat - 97)) (by omega))) ?_
  refine Wl.know 41 (v' := zo (S.sq.to q ((ws.getD k 0).toNat - 97))) rfl (congrArg zo (S.to_eq q ((ws.getD k 0).toNat - 97)).symm) ?_
  refine Wl.q rfl rfl (OpQ.eql rfl rfl) ?_
  refine Wl.nil (PX.then_n ?_)
  refine CT.cond rfl (fun h42 => ?_) (fun h42 => ?_)
  ·
   have h42 := of_decide_eq_true h42
   have hdead := value_dead hkl hrun (oi_neg.1 h42)
   refine CT.seq (CT.region ?_)
   refine Wl.q rfl rfl (OpQ.assign rfl) ?_
   refine Wl.q rfl rfl (OpQ.assign rfl) ?_
   refine Wl.nil (PX.then_n (CT.ret (PX.then_r (PX.block_r (PX.then_r (PX.then_r (PX.block_r (PX.then_r ?_))))))))
   refine PX.ret2 rfl rfl rfl (fun w' hH => ?_)
   exact ⟨by rw [hdead]; rfl, hH.ext⟩
  ·
   have h42 := of_decide_eq_false h42
   obtain ⟨r, hto⟩ := oi_some h42
   have hr := hv.lt q ((ws.getD k 0).toNat - 97) r hqn hxL hto
   have hrn : r < S.rs.length := by rw [← S.n_eq]; exact hr
   refine CT.skip (PX.then_n (CT.seq (CT.region ?_)))
   refine Wl.q rfl rfl (OpQ.fieldAddr zf34 rfl) ?_
   refine Wl.q rfl rfl (OpQ.loadF (b := b2) zf35 rfl (by repeat (first | exact Has.here | apply Has.there)) (by rfl)) ?_
   refine Wl.q rfl rfl (OpQ.move rfl) ?_
   refine Wl.q rfl rfl (OpQ.index1 zf23 zf36 rfl rfl (by omega) (hos (by omega))) ?_
   refine Wl.q rfl rfl (OpQ.loadG zf37 rfl (fun w hH => (hH.use hS).o) (getMap rxv S.os rx0 (j := q) (by omega))) ?_
   refine Wl.q rfl rfl (OpQ.move rfl) ?_
   refine Wl.q rfl rfl (OpQ.indexK1 zf17 zf38 rfl rfl (by omega) (hus q (by omega) (by omega))) ?_
   refine Wl.q rfl rfl (OpQ.loadG zf39 rfl (fun w hH => (hH.use hS).u _ (getDm (show q < S.os.length by omega))) (getMap sv (S.os.getD q rx0).xs [] (j := ((ws.getD k 0).toNat - 97)) (by omega))) ?_
   refine Wl.know 50 (v' := sv (S.sq.o q ((ws.getD k 0).toNat - 97))) rfl (congrArg sv (S.o_eq q ((ws.getD k 0).toNat - 97)).symm) ?_
   refine Wl.g rfl rfl (OpG.callX zf80 rfl (.cons .here (.cons .here .nil)) (fun _ => (.cons (.cons .nil))) (fun w hH hp => wstr_spec w b6 true a' c' (S.init ++ l) hc hp (S.sq.o q ((ws.getD k 0).toNat - 97)) (by first | omega | (rw [List.length_append]; omega)))) ?_
   rintro ⟨a51, c51⟩ hc51
   dsimp only at hc51
   refine Wl.nil (PX.then_n (CT.region ?_))
   refine Wl.q rfl rfl (OpQ.fieldAddr zf30 rfl) ?_
   refine Wl.q rfl rfl (OpQ.loadF (b := b2) zf31 rfl (by repeat (first | exact Has.here | apply Has.there)) (by rfl)) ?_
   refine Wl.q rfl rfl (OpQ.move rfl) ?_
   refine Wl.q rfl rfl (OpQ.index1 zf21 zf32 rfl rfl (by omega) (hns (by omega))) ?_
   refine Wl.q rfl rfl (OpQ.loadG zf10 rfl (fun w hH => (hH.use hS).n) (getMap rxv S.rs rx0 (j := q) (by omega))) ?_
   refine Wl.q rfl rfl (OpQ.move rfl) ?_
   refine Wl.q rfl rfl (OpQ.indexK1 zf0 zf1 rfl rfl (by omega) (hrs q (by omega) (by omega))) ?_
   refine Wl.q rfl rfl (OpQ.loadG zf8 rfl (fun w hH => (hH.use hS).r _ (getDm (show q < S.rs.length by omega))) (getMap zo (S.rs.getD q rx0).xs none (j := ((ws.getD k 0).toNat - 97)) (by omega))) ?_
   refine Wl.know 59 (v' := .int .i64 ((r : Nat) : Int)) rfl ((congrArg zo (S.to_eq q ((ws.getD k 0).toNat - 97)).symm).trans (by rw [hto]; rfl)) ?_
   refine Wl.q rfl rfl (OpQ.assign rfl) ?_
   refine Wl.nil (PX.block_n (PX.then_n (CT.region ?_)))
   refine Wl.q rfl rfl (OpQ.add rfl rfl (by omega)) ?_
   refine Wl.q rfl rfl (OpQ.move rfl) ?_
   refine Wl.nil ?_
   exact PX.loop hK0 (k + 1, r, l ++ S.sq.o q ((ws.getD k 0).toNat - 97), a51, c51) ⟨by omega, hrn, run_step hkl hrun hto, hc51, by rw [List.length_append]; omega⟩ (show ws.length - (k + 1) < ws.length - k by omega) ⟨rfl, rfl, rfl, rfl, rfl, rfl, trivial⟩ (by dsimp only; rw [← List.append_assoc]; exact HSub.refl _)
 ·
  have h28 := of_decide_eq_false h28
  obtain rfl : k = ws.length := by omega
  have hval := value_end hrun
  have hft := (hv.tf q (by rw [S.n_eq]; exact hq)).1
  refine CT.exit (PX.then_x (PX.then_x (PX.block_x (PX.then_n (CT.seq (CT.seq (CT.region ?_)))))))
  refine Wl.q rfl rfl (OpQ.fieldAddr zf42 rfl) ?_
  refine Wl.q rfl rfl (OpQ.loadF (b := b2) zf43 rfl (by repeat (first | exact Has.here | apply Has.there)) (by rfl)) ?_
  refine Wl.q rfl rfl (OpQ.move rfl) ?_
  refine Wl.q rfl rfl (OpQ.index1 zf25 zf44 rfl rfl (by omega) (hes (by omega))) ?_
  refine Wl.q rfl rfl (OpQ.loadG zf45 rfl (fun w hH => (hH.use hS).e) (getMap bo S.en false (j := q) (by omega))) ?_
  refine Wl.know 65 (v' := .bool (S.sq.e q)) rfl rfl ?_
  refine Wl.q rfl rfl (OpQ.not rfl) ?_
  refine Wl.nil (PX.then_n ?_)
  refine CT.cond rfl (fun h66 => ?_) (fun h66 => ?_)
  ·
   rw [if_neg (by simpa using h66)] at hval
   refine CT.seq (CT.region ?_)
   refine Wl.q rfl rfl (OpQ.assign rfl) ?_
   refine Wl.q rfl rfl (OpQ.assign rfl) ?_
   refine Wl.nil (PX.then_n (CT.ret (PX.then_r ?_)))
   refine PX.ret2 rfl rfl rfl (fun w' hH => ?_)
   exact ⟨by rw [hval]; rfl, hH.ext⟩
  ·
   rw [if_pos (by simpa using h66)] at hval
   refine CT.skip (PX.then_n (CT.seq (CT.region ?_)))
   refine Wl.q rfl rfl (OpQ.fieldAddr zf41 rfl) ?_
   refine Wl.q rfl rfl (OpQ.loadF (b := b2) zf37 rfl (by repeat (first | exact Has.here | apply Has.there)) (by rfl)) ?_
   refine Wl.q rfl rfl (OpQ.move rfl) ?_
   refine Wl.q rfl rfl (OpQ.index1 zf17 zf38 rfl rfl (by omega) (hfs (by omega))) ?_
   refine Wl.q rfl rfl (OpQ.loadG zf39 rfl (fun w hH => (hH.use hS).f) (getMap sv S.fi [] (j := q) (by omega))) ?_
   refine Wl.know 71 (v' := sv (S.sq.f q)) rfl rfl ?_
   refine Wl.g rfl rfl (OpG.callX zf80 rfl (.cons .here (.cons .here .nil)) (fun _ => (.cons (.cons .nil))) (fun w hH hp => wstr_spec w b6 true a' c' (S.init ++ l) hc hp (S.sq.f q) (by first | omega | (rw [List.length_append]; omega)))) ?_
   rintro ⟨a72, c72⟩ hc72
   dsimp only at hc72
   refine Wl.nil (PX.then_n (CT.seq (CT.region ?_)))
   refine Wl.g rfl rfl (OpG.callX zf81 rfl (.cons .here (.cons .here .nil)) (fun _ => .nil) (fun w hH hp => bstr_spec w b6 true a72 c72 (S.init ++ l ++ S.sq.f q) hc72 hp (by rw [List.length_append, List.length_append]; omega))) ?_
   rintro _ _
   refine Wl.q rfl rfl (OpQ.assign rfl) ?_
   refine Wl.q rfl rfl (OpQ.assign rfl) ?_
   refine Wl.nil (PX.then_n (CT.ret ?_))
   refine PX.ret2 rfl rfl rfl (fun w' hH => ?_)
   exact ⟨by rw [hval]; rfl, hH.ext⟩

end Go.Proofs.Ytamolakhpcofhaa

