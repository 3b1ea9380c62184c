/-
  What functions of the program compute, each by its walk. Conditions: those that each theorem names.
-/
import Derived.Test.YtamolakhpcofhaaMod
import Derived.Test.YtamolakhpcofhaaXE7
import Derived.Test.YtamolakhpcofhaaXF
set_option linter.unusedSimpArgs false
namespace Go.Proofs.Ytamolakhpcofhaa
open Go Go.Eng Go.Am Go.Sq
open Go.Tl (mayL Wd okW okB bo)

set_option maxRecDepth 100000 in
/-- semigroup/sequential.improve -/
theorem improve_spec (w : World) (S : Sv) (bp bk : Nat) (P : List Wd) (K : List Bool) (hS : Stays (blks [.row 9 1 (.slice (some ⟨bp, 0, none⟩) S.rs.length S.rs.length) S.rs.length ((P).map sv), .row 4 1 (.slice (some ⟨bk, 0, none⟩) S.rs.length S.rs.length) S.rs.length ((K).map bo)]) w (svm S)) (hv : S.sq.Ok 4096) (hPl : P.length = S.rs.length) (hKl : K.length = S.rs.length) (hB : ∀ r, (P.getD r []).length ≤ 4000000) (q : Nat) (hq : q < S.rs.length) (hpre : Pre [.row 9 1 (.slice (some ⟨bp, 0, none⟩) S.rs.length S.rs.length) S.rs.length ((P).map sv), .row 4 1 (.slice (some ⟨bk, 0, none⟩) S.rs.length S.rs.length) S.rs.length ((K).map bo)] w) : Calls Try.prog 72 #[svv S, .slice (some ⟨bp, 0, none⟩) S.rs.length S.rs.length, .slice (some ⟨bk, 0, none⟩) S.rs.length S.rs.length, .int .i64 ((q : Nat) : Int)] w (fun e w' => ∃ _i : Unit, True ∧ e = .returned (.bool (impL S.sq q (P, K, false) (S.L)).2.2) ∧ Post (blks [.row 9 1 (.slice (some ⟨bp, 0, none⟩) S.rs.length S.rs.length) S.rs.length ((P).map sv), .row 4 1 (.slice (some ⟨bk, 0, none⟩) S.rs.length S.rs.length) S.rs.length ((K).map bo)]) [.row 9 1 (.slice (some ⟨bp, 0, none⟩) S.rs.length S.rs.length) S.rs.length (((impL S.sq q (P, K, false) (S.L)).1).map sv), .row 4 1 (.slice (some ⟨bk, 0, none⟩) S.rs.length S.rs.length) S.rs.length (((impL S.sq q (P, K, false) (S.L)).2.1).map bo)] w w') := by
 obtain ⟨hb1, hb2, hb3, hb4⟩ := hv.bnd
 obtain ⟨hlo, hle, hlf⟩ := hv.lens
 have hns : 0 < S.rs.length → S.na.isSome = true := fun h => hS.now.n.isSome (j := 0) (by rw [List.length_map]; exact h)
 have hos : 0 < S.os.length → S.oa.isSome = true := fun h => hS.now.o.isSome (j := 0) (by rw [List.length_map]; exact h)
 have hes : 0 < S.en.length → S.ea.isSome = true := fun h => hS.now.e.isSome (j := 0) (by rw [List.length_map]; exact h)
 have hfs : 0 < S.fi.length → S.fa.isSome = true := fun h => hS.now.f.isSome (j := 0) (by rw [List.length_map]; exact h)
 have hrs : ∀ q, q < S.rs.length → 0 < (S.rs.getD q rx0).xs.length → (S.rs.getD q rx0).a.isSome = true := fun q hq h => (hS.now.r _ (getDm hq)).isSome (j := 0) (by rw [List.length_map]; exact h)
 have hus : ∀ q, q < S.os.length → 0 < (S.os.getD q rx0).xs.length → (S.os.getD q rx0).a.isSome = true := fun q hq h => (hS.now.u _ (getDm hq)).isSome (j := 0) (by rw [List.length_map]; exact h)
 have hrl := hv.rlen (q := q) (by omega)
 have hol := hv.olen (q := q) (by omega)
 have hqn : q < S.sq.n := by rw [S.n_eq]; exact hq
 have hlen := fun x hx => impL_len (d := S.sq) (q := q) (st := (P, K, false)) (B := 4000000) (fun x r _ hx => (hv.to' q x hqn hx).1) hB x hx
 have hlens := fun x => impL_lens (d := S.sq) (q := q) (st := (P, K, false)) x
 have hl1 : ∀ x, (impL S.sq q (P, K, false) (x)).1.length = S.rs.length := fun x => (hlens x).1.trans hPl
 have hl2 : ∀ x, (impL S.sq q (P, K, false) (x)).2.1.length = S.rs.length := fun x => (hlens x).2.trans hKl
 refine enterX (args := [svv S, .slice (some ⟨bp, 0, none⟩) S.rs.length S.rs.length, .slice (some ⟨bk, 0, none⟩) S.rs.length S.rs.length, .int .i64 ((q : Nat) : Int)]) hpre 86 Try.func72 rfl rfl rfl ?_
 refine CT.seq (CT.region ?_)
 refine Wl.g rfl rfl (OpG.box (size := 7) rfl rfl rfl) ?_
 rintro b4 _
 refine Wl.q rfl rfl (OpQ.assign rfl) ?_
 refine Wl.nil (PX.then_n (CT.seq (CT.region ?_)))
 refine Wl.q rfl rfl (OpQ.assign rfl) ?_
 refine Wl.nil (PX.then_n (CT.seq (CT.seq (CT.region ?_))))
 refine Wl.q rfl rfl (OpQ.fieldAddr zf30 rfl) ?_
 refine Wl.q rfl rfl (OpQ.loadF (b := b4) zf31 rfl (by repeat (first | exact Has.here | apply Has.there)) (by rfl)) ?_
 refine Wl.q rfl rfl (OpQ.move rfl) ?_
 refine Wl.q rfl rfl (OpQ.index1 zf21 zf32 rfl rfl (by omega) (hns (by omega))) ?_
 refine Wl.q rfl rfl (OpQ.loadG zf10 rfl (fun w hH => (hH.use hS).n) (getMap rxv S.rs rx0 (j := q) (by omega))) ?_
 refine Wl.q rfl rfl (OpQ.len zf0 rfl) ?_
 refine Wl.know 20 (v' := .int .i64 ((S.L : Nat) : Int)) rfl (congrArg (Value.int .i64) (by rw [hrl])) ?_
 refine Wl.q rfl rfl (OpQ.move rfl) ?_
 refine Wl.nil (PX.then_n (CT.block ?_))
 refine CT.as (fun _ h => h.take (.cons (.there .here) (.cons (.there .here) (.cons .here .nil)))) ?_
 refine CT.loop (ι := Nat) (fun x => x ≤ S.L) (fun x => [(1, .slice (some ⟨bp, 0, none⟩) S.rs.length S.rs.length), (2, .slice (some ⟨bk, 0, none⟩) S.rs.length S.rs.length), (3, .int .i64 ((q : Nat) : Int)), (4, .pointer (some ⟨b4, 0, none⟩)), (9, .bool (impL S.sq q (P, K, false) (x)).2.2), (19, rxv (S.rs.getD q rx0)), (20, .int .i64 ((S.L : Nat) : Int)), (21, .int .i64 ((x : Nat) : Int))]) (fun x => [.row 9 1 (.slice (some ⟨bp, 0, none⟩) S.rs.length S.rs.length) S.rs.length (((impL S.sq q (P, K, false) (x)).1).map sv), .row 4 1 (.slice (some ⟨bk, 0, none⟩) S.rs.length S.rs.length) S.rs.length (((impL S.sq q (P, K, false) (x)).2.1).map bo), .row 30 7 (vb b4) 1 (svc S)]) (fun x => S.L - x) 0 (Nat.zero_le _) ⟨rfl, rfl, rfl, rfl, rfl, rfl, rfl, rfl, trivial⟩ (HSub.refl _) (fun x hx K0 hK0 => ?_)
 refine CT.seq (CT.region ?_)
 refine Wl.q rfl rfl (OpQ.lss rfl rfl) ?_
 refine Wl.nil (PX.then_n (CT.seq ?_))
 refine CT.cond rfl (fun h22 => ?_) (fun h22 => ?_)
 ·
  have h22 := of_decide_eq_true h22
  have hxl : x < S.L := by omega
  have hxlen := hlen x (by show x ≤ S.L; omega)
  have hox := (hv.to' q x hqn hxl).1
  have hx24 : 4096 * x ≤ 4096 * 6 := Nat.mul_le_mul_left _ (by omega)
  refine CT.skip (PX.then_n (CT.seq (CT.block (CT.seq (CT.region ?_)))))
  refine Wl.q rfl rfl (OpQ.move rfl) ?_
  refine Wl.q rfl rfl (OpQ.index1 zf0 zf1 rfl rfl (by omega) (hrs q (by omega) (by omega))) ?_
  refine Wl.q rfl rfl (OpQ.loadG zf8 rfl (fun w hH => (hH.use hS).r _ (getDm (show q < S.rs.length by omega))) (getMap zo (S.rs.getD q rx0).xs none (j := x) (by omega))) ?_
  refine Wl.know 25 (v' := zo (S.sq.to q x)) rfl (congrArg zo (S.to_eq q x).symm) ?_
  refine Wl.q rfl rfl (OpQ.assign rfl) ?_
  refine Wl.q rfl rfl (OpQ.assign rfl) ?_
  refine Wl.nil (PX.then_n (CT.seq (CT.seq (CT.region ?_))))
  refine Wl.q rfl rfl (OpQ.move rfl) ?_
  refine Wl.q rfl rfl (OpQ.eql rfl rfl) ?_
  refine Wl.q rfl rfl (OpQ.move rfl) ?_
  refine Wl.split 28 rfl (fun hg28 => ?_) (fun hg28 => ?_)
  ·
   have hs : (impL S.sq q (P, K, false) (x + 1)) = (impL S.sq q (P, K, false) (x)) := imp1_none (st := (impL S.sq q (P, K, false) (x))) (oi_neg.1 (of_decide_eq_true hg28))
   refine Wl.skip rfl rfl ?_
   refine Wl.skip rfl rfl ?_
   refine Wl.skip rfl rfl ?_
   refine Wl.skip rfl rfl ?_
   refine Wl.skip rfl rfl ?_
   refine Wl.q rfl rfl (OpQ.pickT rfl rfl) ?_
   refine Wl.nil (PX.then_n ?_)
   refine CT.condT rfl ?_
   refine CT.exit (PX.then_x (PX.block_x (PX.then_n (CT.region ?_))))
   refine Wl.q rfl rfl (OpQ.add rfl rfl (by omega)) ?_
   refine Wl.q rfl rfl (OpQ.move rfl) ?_
   refine Wl.nil ?_
   exact PX.loop hK0 (x + 1) (by omega) (by first | omega | (dsimp only; omega)) ⟨rfl, rfl, rfl, rfl, (lkV rfl (by rw [hs])), rfl, rfl, rfl, trivial⟩ (.keep (row_eq (by rw [hs])) (.keep (row_eq (by rw [hs])) (HSub.refl _)))
  ·
   obtain ⟨r, hto⟩ := oi_some (of_decide_eq_false hg28)
   have hr := hv.lt q x r hqn hxl hto
   have hrn : r < S.rs.length := by rw [← S.n_eq]; exact hr
   refine Wl.know 11 (v' := zn r) rfl (by rw [hto]; rfl) ?_
   refine Wl.q rfl rfl (OpQ.move rfl) ?_
   refine Wl.q rfl rfl (OpQ.move rfl) ?_
   refine Wl.q rfl rfl (OpQ.index1 zf25 zf44 rfl rfl (by omega) rfl) ?_
   refine Wl.q rfl rfl (OpQ.loadRow zf45 rfl (.there .here) (getMap bo (impL S.sq q (P, K, false) (x)).2.1 false (j := r) (by rw [hl2]; exact hrn))) ?_
   refine Wl.q rfl rfl (OpQ.not rfl) ?_
   refine Wl.q rfl rfl (OpQ.pickF rfl rfl) ?_
   refine Wl.nil (PX.then_n ?_)
   refine CT.cond rfl (fun h34 => ?_) (fun h34 => ?_)
   ·
    have hkr : (impL S.sq q (P, K, false) (x)).2.1.getD r false = false := (Bool.not_eq_true' _).mp h34
    have hs : (impL S.sq q (P, K, false) (x + 1)) = (impL S.sq q (P, K, false) (x)) := imp1_skip (st := (impL S.sq q (P, K, false) (x))) hto hkr
    refine CT.exit (PX.then_x (PX.block_x (PX.then_n (CT.region ?_))))
    refine Wl.q rfl rfl (OpQ.add rfl rfl (by omega)) ?_
    refine Wl.q rfl rfl (OpQ.move rfl) ?_
    refine Wl.nil ?_
    exact PX.loop hK0 (x + 1) (by omega) (by first | omega | (dsimp only; omega)) ⟨rfl, rfl, rfl, rfl, (lkV rfl (by rw [hs])), rfl, rfl, rfl, trivial⟩ (.keep (row_eq (by rw [hs])) (.keep (row_eq (by rw [hs])) (HSub.refl _)))
   ·
    have hkr : (impL S.sq q (P, K, false) (x)).2.1.getD r false = true := (Bool.not_eq_false' _).mp h34
    refine CT.skip (PX.then_n (CT.seq ?_))
    refine CT.draw 14 zf6 ?_
    refine RA.q 0 (by kernel_rfl) rfl rfl rfl (.refl _) (OpQ.fieldAddr zf34 rfl) ?_
    refine RA.q 1 (by kernel_rfl) rfl rfl rfl (.refl _) (OpQ.loadF (b := b4) zf35 rfl (by repeat (first | exact Has.here | apply Has.there)) (by rfl)) ?_
    refine RA.q 2 (by kernel_rfl) rfl rfl rfl (.refl _) (OpQ.move rfl) ?_
    refine RA.q 3 (by kernel_rfl) rfl rfl rfl (.refl _) (OpQ.index1 zf23 zf36 rfl rfl (by omega) (hos (by omega))) ?_
    refine RA.q 4 (by kernel_rfl) rfl rfl rfl (.refl _) (OpQ.loadG zf37 rfl (fun w hH => (hH.use hS).o) (getMap rxv S.os rx0 (j := q) (by omega))) ?_
    refine RA.q 5 (by kernel_rfl) rfl rfl rfl (.refl _) (OpQ.move rfl) ?_
    refine RA.q 6 (by kernel_rfl) rfl rfl rfl (.refl _) (OpQ.index1 zf17 zf38 rfl rfl (by omega) (hus q (by omega) (by omega))) ?_
    refine RA.q 7 (by kernel_rfl) rfl rfl rfl (.refl _) (OpQ.loadG zf39 rfl (fun w hH => (hH.use hS).u _ (getDm (show q < S.os.length by omega))) (getMap sv (S.os.getD q rx0).xs [] (j := x) (by omega))) ?_
    refine RA.know 42 (v' := sv (S.sq.o q x)) rfl (congrArg sv (S.o_eq q x).symm) ?_
    refine RA.q 8 (by kernel_rfl) rfl rfl rfl (.refl _) (OpQ.move rfl) ?_
    refine RA.q 9 (by kernel_rfl) rfl rfl rfl (.refl _) (OpQ.move rfl) ?_
    refine RA.q 10 (by kernel_rfl) rfl rfl rfl (.refl _) (OpQ.index1 zf17 zf38 rfl rfl (by omega) rfl) ?_
    refine RA.q 11 (by kernel_rfl) rfl rfl rfl (.refl _) (OpQ.loadRow zf39 rfl .here (getMap sv (impL S.sq q (P, K, false) (x)).1 [] (j := r) (by rw [hl1]; exact hrn))) ?_
    refine RA.q 12 (by kernel_rfl) rfl rfl rfl (.refl _) (OpQ.assign rfl) ?_
    refine RA.q 13 (by kernel_rfl) rfl rfl rfl (.refl _) (OpQ.assign rfl) ?_
    refine RA.tail ?_
    refine RT.done (by kernel_rfl) ?_
    refine PX.then_n (CT.seq (CT.seq (CT.region ?_)))
    refine Wl.q rfl rfl (OpQ.move rfl) ?_
    refine Wl.q rfl rfl (OpQ.move rfl) ?_
    refine Wl.q rfl rfl (OpQ.index1 zf25 zf44 rfl rfl (by omega) rfl) ?_
    refine Wl.q rfl rfl (OpQ.loadRow zf45 rfl (.there .here) (getMap bo (impL S.sq q (P, K, false) (x)).2.1 false (j := q) (by rw [hl2]; exact hq))) ?_
    refine Wl.q rfl rfl (OpQ.not rfl) ?_
    refine Wl.nil (PX.then_n ?_)
    refine CT.cond rfl (fun h51 => ?_) (fun h51 => ?_)
    ·
     have hkq : (impL S.sq q (P, K, false) (x)).2.1.getD q false = false := (Bool.not_eq_true' _).mp h51
     have hs : (impL S.sq q (P, K, false) (x + 1)) = ((impL S.sq q (P, K, false) (x)).1.set q (S.sq.o q x ++ (impL S.sq q (P, K, false) (x)).1.getD r []), (impL S.sq q (P, K, false) (x)).2.1.set q true, true) := imp1_first (st := (impL S.sq q (P, K, false) (x))) hto hkr hkq
     refine CT.seq (CT.region ?_)
     refine Wl.q rfl rfl (OpQ.move rfl) ?_
     refine Wl.q rfl rfl (OpQ.move rfl) ?_
     refine Wl.q rfl rfl (OpQ.move rfl) ?_
     refine Wl.q rfl rfl (OpQ.move rfl) ?_
     refine Wl.q rfl rfl (OpQ.move rfl) ?_
     refine Wl.q rfl rfl (OpQ.move rfl) ?_
     refine Wl.q rfl rfl (OpQ.concat rfl rfl (by have := hxlen r; omega)) ?_
     refine Wl.q rfl rfl (OpQ.index1 zf17 zf38 rfl rfl (by omega) rfl) ?_
     refine Wl.g rfl rfl (OpG.storeRow (a := some ⟨bp, 0, none⟩) zf38 rfl rfl rfl (by repeat (first | exact Upd.here | apply Upd.there)) (by rw [List.length_map, hl1]; exact hq)) ?_
     rintro _ _
     refine Wl.q rfl rfl (OpQ.index1 zf25 zf44 rfl rfl (by omega) rfl) ?_
     refine Wl.g rfl rfl (OpG.storeRow (a := some ⟨bk, 0, none⟩) zf44 rfl rfl rfl (by repeat (first | exact Upd.here | apply Upd.there)) (by rw [List.length_map, hl2]; exact hq)) ?_
     rintro _ _
     refine Wl.nil (PX.then_n (CT.seq (CT.region ?_)))
     refine Wl.q rfl rfl (OpQ.assign rfl) ?_
     refine Wl.nil (PX.then_n (CT.exit (PX.then_x (PX.block_x (PX.then_n (CT.region ?_))))))
     refine Wl.q rfl rfl (OpQ.add rfl rfl (by omega)) ?_
     refine Wl.q rfl rfl (OpQ.move rfl) ?_
     refine Wl.nil ?_
     exact PX.loop hK0 (x + 1) (by omega) (by first | omega | (dsimp only; omega)) ⟨rfl, rfl, rfl, rfl, (lkV rfl (by rw [hs])), rfl, rfl, rfl, trivial⟩ (.keep (row_eq (by rw [hs, List.map_set]; rfl)) (.keep (row_eq (by rw [hs, List.map_set]; rfl)) (HSub.refl _)))
    ·
     have hkq : (impL S.sq q (P, K, false) (x)).2.1.getD q false = true := (Bool.not_eq_false' _).mp h51
     refine CT.skip (PX.then_n (CT.seq (CT.region ?_)))
     refine Wl.q rfl rfl (OpQ.move rfl) ?_
     refine Wl.q rfl rfl (OpQ.move rfl) ?_
     refine Wl.q rfl rfl (OpQ.index1 zf17 zf38 rfl rfl (by omega) rfl) ?_
     refine Wl.q rfl rfl (OpQ.loadRow zf39 rfl .here (getMap sv (impL S.sq q (P, K, false) (x)).1 [] (j := q) (by rw [hl1]; exact hq))) ?_
     refine Wl.q rfl rfl (OpQ.move rfl) ?_
     refine Wl.q rfl rfl (OpQ.move rfl) ?_
     refine Wl.g rfl rfl (OpG.callV zf89 rfl (fun w hH => clen_spec w ((impL S.sq q (P, K, false) (x)).1.getD q []) (S.sq.o q x) ((impL S.sq q (P, K, false) (x)).1.getD r []) (by have := hxlen q; omega) (by omega) (by have := hxlen r; omega))) ?_
     rintro _ _
     refine Wl.q rfl rfl (OpQ.assign rfl) ?_
     refine Wl.nil (PX.then_n (CT.seq (CT.region ?_)))
     refine Wl.q rfl rfl (OpQ.move rfl) ?_
     refine Wl.q rfl rfl (OpQ.move rfl) ?_
     refine Wl.q rfl rfl (OpQ.move rfl) ?_
     refine Wl.q rfl rfl (OpQ.index1 zf17 zf38 rfl rfl (by omega) rfl) ?_
     refine Wl.q rfl rfl (OpQ.loadRow zf39 rfl .here (getMap sv (impL S.sq q (P, K, false) (x)).1 [] (j := q) (by rw [hl1]; exact hq))) ?_
     refine Wl.q rfl rfl (OpQ.lenSv zf4 rfl) ?_
     refine Wl.q rfl rfl (OpQ.lss rfl rfl) ?_
     refine Wl.nil (PX.then_n ?_)
     refine CT.cond rfl (fun h74 => ?_) (fun h74 => ?_)
     ·
      have h74 := of_decide_eq_true h74
      have hlt : (cm ((impL S.sq q (P, K, false) (x)).1.getD q []) (S.sq.o q x ++ (impL S.sq q (P, K, false) (x)).1.getD r [])).length < ((impL S.sq q (P, K, false) (x)).1.getD q []).length := by omega
      have hs : (impL S.sq q (P, K, false) (x + 1)) = ((impL S.sq q (P, K, false) (x)).1.set q (((impL S.sq q (P, K, false) (x)).1.getD q []).take (cm ((impL S.sq q (P, K, false) (x)).1.getD q []) (S.sq.o q x ++ (impL S.sq q (P, K, false) (x)).1.getD r [])).length), (impL S.sq q (P, K, false) (x)).2.1, true) := imp1_cut (st := (impL S.sq q (P, K, false) (x))) hto hkr hkq hlt
      refine CT.seq (CT.region ?_)
      refine Wl.q rfl rfl (OpQ.move rfl) ?_
      refine Wl.q rfl rfl (OpQ.move rfl) ?_
      refine Wl.q rfl rfl (OpQ.move rfl) ?_
      refine Wl.q rfl rfl (OpQ.move rfl) ?_
      refine Wl.q rfl rfl (OpQ.index1 zf17 zf38 rfl rfl (by omega) rfl) ?_
      refine Wl.q rfl rfl (OpQ.loadRow zf39 rfl .here (getMap sv (impL S.sq q (P, K, false) (x)).1 [] (j := q) (by rw [hl1]; exact hq))) ?_
      refine Wl.q rfl rfl (OpQ.move rfl) ?_
      refine Wl.q rfl rfl (OpQ.sliceSH zf4 rfl rfl (Nat.le_of_lt hlt)) ?_
      refine Wl.q rfl rfl (OpQ.index1 zf17 zf38 rfl rfl (by omega) rfl) ?_
      refine Wl.g rfl rfl (OpG.storeRow (a := some ⟨bp, 0, none⟩) zf38 rfl rfl rfl (by repeat (first | exact Upd.here | apply Upd.there)) (by rw [List.length_map, hl1]; exact hq)) ?_
      rintro _ _
      refine Wl.nil (PX.then_n (CT.region ?_))
      refine Wl.q rfl rfl (OpQ.assign rfl) ?_
      refine Wl.nil (PX.block_n (PX.then_n (CT.region ?_)))
      refine Wl.q rfl rfl (OpQ.add rfl rfl (by omega)) ?_
      refine Wl.q rfl rfl (OpQ.move rfl) ?_
      refine Wl.nil ?_
      exact PX.loop hK0 (x + 1) (by omega) (by first | omega | (dsimp only; omega)) ⟨rfl, rfl, rfl, rfl, (lkV rfl (by rw [hs])), rfl, rfl, rfl, trivial⟩ (.keep (row_eq (by rw [hs, List.map_set]; rfl)) (.keep (row_eq (by rw [hs])) (HSub.refl _)))
     ·
      have h74 := of_decide_eq_false h74
      have hs : (impL S.sq q (P, K, false) (x + 1)) = (impL S.sq q (P, K, false) (x)) := imp1_fits (st := (impL S.sq q (P, K, false) (x))) hto hkr hkq (by omega)
      refine CT.skip (PX.block_n (PX.then_n (CT.region ?_)))
      refine Wl.q rfl rfl (OpQ.add rfl rfl (by omega)) ?_
      refine Wl.q rfl rfl (OpQ.move rfl) ?_
      refine Wl.nil ?_
      exact PX.loop hK0 (x + 1) (by omega) (by first | omega | (dsimp only; omega)) ⟨rfl, rfl, rfl, rfl, (lkV rfl (by rw [hs])), rfl, rfl, rfl, trivial⟩ (.keep (row_eq (by rw [hs])) (.keep (row_eq (by rw [hs])) (HSub.refl _)))
 ·
  have h22 := of_decide_eq_false h22
  obtain rfl : x = S.L := by omega
  refine CT.exit (PX.then_x (PX.then_x (PX.block_x (PX.then_n (CT.seq (CT.region ?_))))))
  refine Wl.q rfl rfl (OpQ.move rfl) ?_
  refine Wl.q rfl rfl (OpQ.assign rfl) ?_
  refine Wl.nil (PX.then_n (CT.ret ?_))
  refine PX.ret1 rfl rfl (fun w' hH => ?_)
  exact ⟨(), trivial, rfl, (hH.take (.cons .here (.cons .here .nil))).post⟩

end Go.Proofs.Ytamolakhpcofhaa

