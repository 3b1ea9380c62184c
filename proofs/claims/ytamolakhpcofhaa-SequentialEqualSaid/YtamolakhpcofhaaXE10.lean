/-
  What functions of the program compute, each by its walk. Conditions: those that each theorem names.
-/
import Derived.Test.YtamolakhpcofhaaXE9
import Derived.Test.YtamolakhpcofhaaEng1
import Derived.Test.YtamolakhpcofhaaMod
import Derived.Test.YtamolakhpcofhaaXF
set_option linter.unusedSimpArgs false
namespace Go.Proofs.Ytamolakhpcofhaa
open Go Go.Eng Go.Am Go.Sq
open Go.Tl (mayL Wd okW okB bo)

set_option maxRecDepth 100000 in
set_option maxHeartbeats 1000000 in
/-- semigroup/sequential.Normal -/
theorem normal_spec (w : World) {M : Nat} (S : Sv) (hS : Stays [] w (svm S)) (hv : S.sq.Ok M) (hM4 : M ≤ 4096) (hMn : (S.sq.n + 1) * M ≤ 4096) : Calls Try.prog 12 #[svv S] w (fun e w' => ∃ i : Sv, (IsNorm S.sq i.sq ∧ i.sq.Ok ((S.sq.n + 1) * M)) ∧ e = .returned (.tuple #[svv i, .int .i64 ((0 : Nat) : Int)]) ∧ Post [] (svH i 3 22 4 9 28) w w') := by
 obtain ⟨hb1, hb2, hb3, hb4⟩ := hv.bnd
 obtain ⟨hlo, hle, hlf⟩ := hv.lens
 have hns : 0 < S.rs.length → S.na.isSome = true := fun h => hS.now.n.isSome (j := 0) (by rw [List.length_map]; exact h)
 have hos : 0 < S.os.length → S.oa.isSome = true := fun h => hS.now.o.isSome (j := 0) (by rw [List.length_map]; exact h)
 have hes : 0 < S.en.length → S.ea.isSome = true := fun h => hS.now.e.isSome (j := 0) (by rw [List.length_map]; exact h)
 have hfs : 0 < S.fi.length → S.fa.isSome = true := fun h => hS.now.f.isSome (j := 0) (by rw [List.length_map]; exact h)
 have hrs : ∀ q, q < S.rs.length → 0 < (S.rs.getD q rx0).xs.length → (S.rs.getD q rx0).a.isSome = true := fun q hq h => (hS.now.r _ (getDm hq)).isSome (j := 0) (by rw [List.length_map]; exact h)
 have hus : ∀ q, q < S.os.length → 0 < (S.os.getD q rx0).xs.length → (S.os.getD q rx0).a.isSome = true := fun q hq h => (hS.now.u _ (getDm hq)).isSome (j := 0) (by rw [List.length_map]; exact h)
 refine enter (args := [svv S]) [] 169 Try.func12 rfl rfl rfl ?_
 refine CT.seq (CT.region ?_)
 refine Wl.g rfl rfl (OpG.box (size := 7) rfl rfl rfl) ?_
 rintro b1 _
 refine Wl.g rfl rfl (OpG.alloc (zs := [.int .i64 0, .int .i64 0, .string ⟨#[]⟩, .slice none 0 0, .slice none 0 0, .slice none 0 0, .slice none 0 0]) zf19 rfl rfl) ?_
 rintro b2 _
 refine Wl.q rfl rfl (OpQ.assign rfl) ?_
 refine Wl.nil (PX.then_n (CT.seq (CT.seq (CT.region ?_))))
 refine Wl.q rfl rfl (OpQ.loadV (b := b1) zf29 zf28 rfl (by repeat (first | exact Has.here | apply Has.there)) (by rfl)) ?_
 refine Wl.know 17 (v' := svv S) rfl rfl ?_
 refine Wl.g rfl rfl (OpG.callV zf77 rfl (fun w hH => svalid_spec w S (hH.stays0 hS) (hv.mono hM4))) ?_
 rintro _ _
 refine Wl.q rfl rfl (OpQ.assign rfl) ?_
 refine Wl.nil (PX.then_n (CT.seq (CT.region ?_)))
 refine Wl.q rfl rfl (OpQ.move rfl) ?_
 refine Wl.q rfl rfl (OpQ.neq rfl rfl) ?_
 refine Wl.know 20 (v' := .bool false) rfl (congrArg Value.bool (by decide)) ?_
 refine Wl.nil (PX.then_n ?_)
 refine CT.condF rfl ?_
 refine CT.skip (PX.then_n (CT.seq (CT.region ?_)))
 refine Wl.q rfl rfl (OpQ.loadV (b := b1) zf29 zf28 rfl (by repeat (first | exact Has.here | apply Has.there)) (by rfl)) ?_
 refine Wl.know 23 (v' := svv S) rfl rfl ?_
 refine Wl.g rfl rfl (OpG.callX zf91 rfl .nil (fun _ => (App.of _ _)) (fun w hH hp => strim_spec w S (hH.stays0 hS) hv)) ?_
 rintro G hG
 refine Wl.as (fun _ h => HOk.swap (A := svH G 3 22 4 9 28) h) ?_
 refine Wl.g rfl rfl (OpG.alloc (zs := [.int .i64 0, .int .i64 0, .string ⟨#[]⟩, .slice none 0 0, .slice none 0 0, .slice none 0 0, .slice none 0 0]) zf19 rfl rfl) ?_
 rintro b5 _
 refine Wl.g rfl rfl (OpG.storeV (b := b5) zf28 rfl rfl rfl rfl (by repeat (first | exact Upd.here | apply Upd.there))) ?_
 rintro _ _
 refine Wl.nil (PX.then_n (CT.seq (CT.seq (CT.region ?_))))
 obtain ⟨hGo, hGn⟩ := IsTrim.ok hv hG
 obtain ⟨gb1, gb2, gb3, gb4⟩ := hGo.bnd
 obtain ⟨glo, gle, glf⟩ := hGo.lens
 refine Wl.fact (p := Nn G) (fun w hH => svm.nn (HOk.svm (A := [_, _, _]) hH)) (fun gnn => ?_)
 have hgn : G.sq.n = G.rs.length := G.n_eq
 refine Wl.q rfl rfl (OpQ.loadV (b := b5) zf29 zf28 rfl (by repeat (first | exact Has.here | apply Has.there)) (by rfl)) ?_
 refine Wl.know 26 (v' := svv G) rfl rfl ?_
 refine Wl.g rfl rfl (OpG.callX zf61 rfl .nil (fun _ => (.cons (.cons .nil))) (fun w hH hp => finishes_spec w G (HOk.svmS (A := [_, _, _]) hH) hGo)) ?_
 rintro ⟨F, bf, be, δ⟩ hF
 dsimp only at hF
 refine Wl.q rfl rfl (OpQ.move rfl) ?_
 refine Wl.q rfl rfl (OpQ.extract rfl rfl) ?_
 refine Wl.know 28 (v' := .slice (some ⟨bf, 0, none⟩) G.rs.length G.rs.length) rfl rfl ?_
 refine Wl.q rfl rfl (OpQ.extract rfl rfl) ?_
 refine Wl.know 29 (v' := .slice (some ⟨be, 0, none⟩) G.rs.length G.rs.length) rfl rfl ?_
 refine Wl.q rfl rfl (OpQ.assign rfl) ?_
 refine Wl.q rfl rfl (OpQ.assign rfl) ?_
 refine Wl.nil (PX.then_n (CT.seq (CT.region ?_)))
 refine Wl.q rfl rfl (OpQ.move rfl) ?_
 refine Wl.q rfl rfl (OpQ.fieldAddr zf46 rfl) ?_
 refine Wl.q rfl rfl (OpQ.loadF (b := b5) zf8 rfl (by repeat (first | exact Has.here | apply Has.there)) (by rfl)) ?_
 refine Wl.q rfl rfl (OpQ.index1 zf25 zf44 rfl rfl (by omega) rfl) ?_
 refine Wl.q rfl rfl (OpQ.loadRow zf45 rfl (.there .here) (getMap bo (coL G.sq) false (j := G.s) (by rw [coL_len, hgn]; exact gb4))) ?_
 refine Wl.know 34 (v' := .bool (G.sq.tr.co G.L G.s)) rfl (congrArg Value.bool (coL_get (by rw [hgn]; exact gb4))) ?_
 refine Wl.q rfl rfl (OpQ.not rfl) ?_
 refine Wl.nil (PX.then_n ?_)
 refine CT.cond rfl (fun h35 => ?_) (fun h35 => ?_)
 ·
  have hco : G.sq.tr.co G.L G.s = false := by simpa using h35
  refine CT.seq (CT.region ?_)
  refine Wl.q rfl rfl (OpQ.loadV (b := b5) zf29 zf28 rfl (by repeat (first | exact Has.here | apply Has.there)) (by rfl)) ?_
  refine Wl.know 36 (v' := svv G) rfl rfl ?_
  refine Wl.g rfl rfl (OpG.storeV (b := b2) zf28 rfl rfl rfl rfl (by repeat (first | exact Upd.here | apply Upd.there))) ?_
  rintro _ _
  refine Wl.q rfl rfl (OpQ.assign rfl) ?_
  refine Wl.nil (PX.then_n (CT.ret (PX.then_r ?_)))
  refine PX.retC2 rfl rfl rfl (by repeat (first | exact Has.here | apply Has.there)) zf29 zf28 (by rfl) (fun w' hH => ?_)
  exact ⟨G, ⟨⟨G.sq, hG, .inl ⟨(IsTrim.co_eq hG).symm.trans hco, rfl⟩⟩, hGo.mono (by rw [Nat.add_mul]; omega)⟩, rfl, (HOk.behind (A := [_, _, _, _, _]) hH).post⟩
 ·
  have hco : G.sq.tr.co G.L G.s = true := by simpa using h35
  have hcs : S.sq.tr.co S.L S.s = true := (IsTrim.co_eq hG).symm.trans hco
  obtain ⟨hgf, hgt, hgp, hgL⟩ := IsTrim.good hG hcs
  refine CT.mem (H' := [.row 30 7 (vb b5) 1 (svc G), .row 30 7 (vb b2) 1 [.int .i64 0, .int .i64 0, .string ⟨#[]⟩, .slice none 0 0, .slice none 0 0, .slice none 0 0, .slice none 0 0], .row 30 7 (vb b1) 1 (svc S)] ++ svH G 3 22 4 9 28) (.drop (.drop (HSub.refl _))) ?_
  refine CT.skip (PX.then_n (CT.seq (CT.region ?_)))
  refine Wl.q rfl rfl (OpQ.loadV (b := b5) zf29 zf28 rfl (by repeat (first | exact Has.here | apply Has.there)) (by rfl)) ?_
  refine Wl.know 37 (v' := svv G) rfl rfl ?_
  refine Wl.g rfl rfl (OpG.callX zf92 rfl .nil (fun _ => (.cons .nil)) (fun w hH hp => prefixes_spec w G (HOk.svmS (A := [_, _, _]) hH) (hGo.mono hM4) hgt.co)) ?_
  rintro ⟨P, bp⟩ hP
  dsimp only at hP
  refine Wl.know 38 (v' := .slice (some ⟨bp, 0, none⟩) G.rs.length G.rs.length) rfl rfl ?_
  have hPt := fun q hq => Pf_text hGo hgt.co hP (q := q) hq
  have hPl : P.length = G.rs.length := by rw [hP.len, hgn]
  have hMn3 := Nat.mul_le_mul_right M hGn
  have hMn4 : (S.sq.n + 1) * M = S.sq.n * M + M := by rw [Nat.add_mul, Nat.one_mul]
  have hMn2 : G.sq.n * M + M ≤ 4096 := by omega
  have hti : G.init.length ≤ M := hGo.ti.1
  have hpt0 : ∀ q, q < G.rs.length → (P.getD q []).length ≤ G.sq.n * M := fun q hq => (hPt q (by rw [hgn]; exact hq)).1
  have hpe := hpt0 G.s gb4
  refine Wl.q rfl rfl (OpQ.assign rfl) ?_
  refine Wl.nil (PX.then_n (CT.seq (CT.seq ?_)))
  refine CT.draw 11 zf6 ?_
  refine RA.q 0 (by kernel_rfl) rfl rfl rfl (.refl _) (OpQ.fieldAddr zf47 rfl) ?_
  refine RA.q 1 (by kernel_rfl) rfl rfl rfl (.refl _) (OpQ.loadF (b := b5) zf39 rfl (by repeat (first | exact Has.here | apply Has.there)) (by rfl)) ?_
  refine RA.q 2 (by kernel_rfl) rfl rfl rfl (.refl _) (OpQ.lenSv zf4 rfl) ?_
  refine RA.q 3 (by kernel_rfl) rfl rfl rfl (.refl _) (OpQ.move rfl) ?_
  refine RA.q 4 (by kernel_rfl) rfl rfl rfl (.refl _) (OpQ.fieldAddr zf46 rfl) ?_
  refine RA.q 5 (by kernel_rfl) rfl rfl rfl (.refl _) (OpQ.loadF (b := b5) zf8 rfl (by repeat (first | exact Has.here | apply Has.there)) (by rfl)) ?_
  refine RA.q 6 (by kernel_rfl) rfl rfl rfl (.refl _) (OpQ.index1 zf17 zf38 rfl rfl (by omega) rfl) ?_
  refine RA.q 7 (by kernel_rfl) rfl rfl rfl (.refl _) (OpQ.loadRow zf39 rfl .here (getMap sv P [] (j := G.s) (by omega))) ?_
  refine RA.q 8 (by kernel_rfl) rfl rfl rfl (.refl _) (OpQ.lenSv zf4 rfl) ?_
  refine RA.q 9 (by kernel_rfl) rfl rfl rfl (.refl _) (OpQ.add rfl rfl (by omega)) ?_
  refine RA.q 10 (by kernel_rfl) rfl rfl rfl (.refl _) (OpQ.gtr rfl rfl) ?_
  refine RA.know 49 (v' := .bool false) rfl (congrArg Value.bool (decide_eq_false (by omega))) ?_
  refine RA.tail ?_
  refine RT.done (by kernel_rfl) ?_
  refine PX.then_n ?_
  refine CT.condF rfl ?_
  refine CT.skip (PX.then_n (CT.seq (CT.seq (CT.region ?_))))
  refine Wl.q rfl rfl (OpQ.fieldAddr zf30 rfl) ?_
  refine Wl.q rfl rfl (OpQ.loadF (b := b5) zf31 rfl (by repeat (first | exact Has.here | apply Has.there)) (by rfl)) ?_
  refine Wl.q rfl rfl (OpQ.len zf21 rfl) ?_
  refine Wl.q rfl rfl (OpQ.move rfl) ?_
  refine Wl.nil (PX.then_n (CT.block ?_))
  refine CT.loop (ι := Nat) (fun q => q ≤ G.rs.length) (fun q => [(1, .pointer (some ⟨b1, 0, none⟩)), (2, .pointer (some ⟨b2, 0, none⟩)), (5, .pointer (some ⟨b5, 0, none⟩)), (8, .slice (some ⟨bp, 0, none⟩) G.rs.length G.rs.length), (52, .slice G.na G.rs.length G.nc), (53, .int .i64 ((G.rs.length : Nat) : Int)), (54, .int .i64 ((q : Nat) : Int))]) (fun _ => [.row 9 1 (.slice (some ⟨bp, 0, none⟩) G.rs.length G.rs.length) G.rs.length (P.map sv), .row 30 7 (vb b5) 1 (svc G), .row 30 7 (vb b2) 1 [.int .i64 0, .int .i64 0, .string ⟨#[]⟩, .slice none 0 0, .slice none 0 0, .slice none 0 0, .slice none 0 0], .row 30 7 (vb b1) 1 (svc S)] ++ svH G 3 22 4 9 28) (fun q => G.rs.length - q) 0 (Nat.zero_le _) ⟨rfl, rfl, rfl, rfl, rfl, rfl, rfl, trivial⟩ (HSub.refl _) (fun q hq K0 hK0 => ?_)
  refine CT.seq (CT.region ?_)
  refine Wl.q rfl rfl (OpQ.lss rfl rfl) ?_
  refine Wl.nil (PX.then_n (CT.seq ?_))
  refine CT.cond rfl (fun h55 => ?_) (fun h55 => ?_)
  ·
   have h55 := of_decide_eq_true h55
   have hqn : q < G.rs.length := by omega
   have hrl := hGo.rlen (q := q) hqn
   have hol := hGo.olen (q := q) hqn
   have hqd : q < G.sq.n := by rw [hgn]; exact hqn
   refine CT.skip (PX.then_n (CT.seq (CT.block (CT.seq (CT.region ?_)))))
   refine Wl.q rfl rfl (OpQ.move rfl) ?_
   refine Wl.q rfl rfl (OpQ.index1 zf21 zf32 rfl rfl (by omega) (gnn.n (by omega))) ?_
   refine Wl.q rfl rfl (OpQ.loadG zf10 rfl (fun w hH => (HOk.svm (A := [_, _, _, _]) hH).n) (getMap rxv G.rs rx0 (j := q) (by omega))) ?_
   refine Wl.q rfl rfl (OpQ.assign rfl) ?_
   refine Wl.q rfl rfl (OpQ.assign rfl) ?_
   refine Wl.nil (PX.then_n (CT.seq (CT.region ?_)))
   refine Wl.q rfl rfl (OpQ.move rfl) ?_
   refine Wl.q rfl rfl (OpQ.len zf0 rfl) ?_
   refine Wl.know 60 (v' := .int .i64 ((G.L : Nat) : Int)) rfl (congrArg (Value.int .i64) (by rw [hrl])) ?_
   refine Wl.q rfl rfl (OpQ.move rfl) ?_
   refine Wl.nil (PX.then_n (CT.block ?_))
   refine CT.loop (ι := Nat) (fun x => x ≤ G.L) (fun x => [(1, .pointer (some ⟨b1, 0, none⟩)), (2, .pointer (some ⟨b2, 0, none⟩)), (5, .pointer (some ⟨b5, 0, none⟩)), (8, .slice (some ⟨bp, 0, none⟩) G.rs.length G.rs.length), (9, .int .i64 ((q : Nat) : Int)), (52, .slice G.na G.rs.length G.nc), (53, .int .i64 ((G.rs.length : Nat) : Int)), (54, .int .i64 ((q : Nat) : Int)), (59, rxv (G.rs.getD q rx0)), (60, .int .i64 ((G.L : Nat) : Int)), (61, .int .i64 ((x : Nat) : Int))]) (fun _ => [.row 9 1 (.slice (some ⟨bp, 0, none⟩) G.rs.length G.rs.length) G.rs.length (P.map sv), .row 30 7 (vb b5) 1 (svc G), .row 30 7 (vb b2) 1 [.int .i64 0, .int .i64 0, .string ⟨#[]⟩, .slice none 0 0, .slice none 0 0, .slice none 0 0, .slice none 0 0], .row 30 7 (vb b1) 1 (svc S)] ++ svH G 3 22 4 9 28) (fun x => G.L - x) 0 (Nat.zero_le _) ⟨rfl, rfl, rfl, rfl, rfl, rfl, rfl, rfl, rfl, rfl, rfl, trivial⟩ (HSub.refl _) (fun x hx K1 hK1 => ?_)
   refine CT.seq (CT.region ?_)
   refine Wl.q rfl rfl (OpQ.lss rfl rfl) ?_
   refine Wl.nil (PX.then_n (CT.seq ?_))
   refine CT.cond rfl (fun h62 => ?_) (fun h62 => ?_)
   ·
    have h62 := of_decide_eq_true h62
    refine CT.skip (PX.then_n (CT.seq (CT.block (CT.seq (CT.region ?_)))))
    refine Wl.q rfl rfl (OpQ.move rfl) ?_
    refine Wl.q rfl rfl (OpQ.index1 zf0 zf1 rfl rfl (by omega) (gnn.r q hqn (by omega))) ?_
    refine Wl.q rfl rfl (OpQ.loadG zf8 rfl (fun w hH => (HOk.svm (A := [_, _, _, _]) hH).r _ (getDm hqn)) (getMap zo (G.rs.getD q rx0).xs none (j := x) (by omega))) ?_
    refine Wl.know 65 (v' := zo (G.sq.to q x)) rfl (congrArg zo (G.to_eq q x).symm) ?_
    refine Wl.q rfl rfl (OpQ.assign rfl) ?_
    refine Wl.q rfl rfl (OpQ.assign rfl) ?_
    refine Wl.nil (PX.then_n (CT.seq ?_))
    refine CT.draw 26 zf6 ?_
    refine RA.q 0 (by kernel_rfl) rfl rfl rfl (.refl _) (OpQ.move rfl) ?_
    refine RA.q 1 (by kernel_rfl) rfl rfl rfl (.refl _) (OpQ.neq rfl rfl) ?_
    refine RA.q 2 (by kernel_rfl) rfl rfl rfl (.refl _) (OpQ.move rfl) ?_
    refine RA.split 68 rfl (fun hg68 => ?_) (fun hg68 => ?_)
    ·
     obtain ⟨r, hto⟩ := oi_some (of_nd_t hg68)
     have hr := hGo.lt q x r hqd (show x < G.sq.L by show x < G.L; omega) hto
     have hrn : r < G.rs.length := by rw [← hgn]; exact hr
     refine RA.know 12 (v' := zn r) rfl (by rw [hto]; rfl) ?_
     have hpr := hpt0 r hrn
     have hpq := hpt0 q hqn
     have hot := (hGo.to' q x hqd (show x < G.sq.L by show x < G.L; omega)).1
     refine RA.q 3 (by kernel_rfl) rfl rfl rfl (.refl _) (OpQ.fieldAddr zf34 rfl) ?_
     refine RA.q 4 (by kernel_rfl) rfl rfl rfl (.refl _) (OpQ.loadF (b := b5) zf35 rfl (by repeat (first | exact Has.here | apply Has.there)) (by rfl)) ?_
     refine RA.q 5 (by kernel_rfl) rfl rfl rfl (.refl _) (OpQ.move rfl) ?_
     refine RA.q 6 (by kernel_rfl) rfl rfl rfl (.refl _) (OpQ.index1 zf23 zf36 rfl rfl (by omega) (gnn.o (by omega))) ?_
     refine RA.q 7 (by kernel_rfl) rfl rfl rfl (.refl _) (OpQ.loadG zf37 rfl (fun w hH => (HOk.svm (A := [_, _, _, _]) hH).o) (getMap rxv G.os rx0 (j := q) (by omega))) ?_
     refine RA.q 8 (by kernel_rfl) rfl rfl rfl (.refl _) (OpQ.move rfl) ?_
     refine RA.q 9 (by kernel_rfl) rfl rfl rfl (.refl _) (OpQ.index1 zf17 zf38 rfl rfl (by omega) (gnn.u q (by omega) (by omega))) ?_
     refine RA.q 10 (by kernel_rfl) rfl rfl rfl (.refl _) (OpQ.loadG zf39 rfl (fun w hH => (HOk.svm (A := [_, _, _, _]) hH).u _ (getDm (show q < G.os.length by omega))) (getMap sv (G.os.getD q rx0).xs [] (j := x) (by omega))) ?_
     refine RA.know 76 (v' := sv (G.sq.o q x)) rfl (congrArg sv (G.o_eq q x).symm) ?_
     refine RA.q 11 (by kernel_rfl) rfl rfl rfl (.refl _) (OpQ.lenSv zf4 rfl) ?_
     refine RA.q 12 (by kernel_rfl) rfl rfl rfl (.refl _) (OpQ.move rfl) ?_
     refine RA.q 13 (by kernel_rfl) rfl rfl rfl (.refl _) (OpQ.move rfl) ?_
     refine RA.q 14 (by kernel_rfl) rfl rfl rfl (.refl _) (OpQ.index1 zf17 zf38 rfl rfl (by omega) rfl) ?_
     refine RA.q 15 (by kernel_rfl) rfl rfl rfl (.refl _) (OpQ.loadRow zf39 rfl .here (getMap sv P [] (j := r) (by omega))) ?_
     refine RA.q 16 (by kernel_rfl) rfl rfl rfl (.refl _) (OpQ.lenSv zf4 rfl) ?_
     refine RA.q 17 (by kernel_rfl) rfl rfl rfl (.refl _) (OpQ.add rfl rfl (by omega)) ?_
     refine RA.q 18 (by kernel_rfl) rfl rfl rfl (.refl _) (OpQ.move rfl) ?_
     refine RA.q 19 (by kernel_rfl) rfl rfl rfl (.refl _) (OpQ.move rfl) ?_
     refine RA.q 20 (by kernel_rfl) rfl rfl rfl (.refl _) (OpQ.index1 zf17 zf38 rfl rfl (by omega) rfl) ?_
     refine RA.q 21 (by kernel_rfl) rfl rfl rfl (.refl _) (OpQ.loadRow zf39 rfl .here (getMap sv P [] (j := q) (by omega))) ?_
     refine RA.q 22 (by kernel_rfl) rfl rfl rfl (.refl _) (OpQ.lenSv zf4 rfl) ?_
     refine RA.q 23 (by kernel_rfl) rfl rfl rfl (.refl _) (OpQ.sub rfl rfl (by omega)) ?_
     refine RA.q 24 (by kernel_rfl) rfl rfl rfl (.refl _) (OpQ.gtr rfl rfl) ?_
     refine RA.know 90 (v' := .bool false) rfl (congrArg Value.bool (decide_eq_false (by omega))) ?_
     refine RA.q 25 (by kernel_rfl) rfl rfl rfl (.refl _) (OpQ.pickT rfl rfl) ?_
     refine RA.know 91 (v' := .bool false) rfl (congrArg Value.bool rfl) ?_
     refine RA.tail ?_
     refine RT.done (by kernel_rfl) ?_
     refine PX.then_n ?_
     refine CT.condF rfl ?_
     refine CT.skip (PX.block_n (PX.then_n (CT.region ?_)))
     refine Wl.q rfl rfl (OpQ.add rfl rfl (by omega)) ?_
     refine Wl.q rfl rfl (OpQ.move rfl) ?_
     refine Wl.nil ?_
     exact PX.loop hK1 (x + 1) (by omega) (by first | omega | (dsimp only; omega)) ⟨rfl, rfl, rfl, rfl, rfl, rfl, rfl, rfl, rfl, rfl, rfl, trivial⟩ (HSub.refl _)
    ·
     refine RA.skip 3 (by kernel_rfl) rfl rfl rfl (.refl _) ?_
     refine RA.skip 4 (by kernel_rfl) rfl rfl rfl (.refl _) ?_
     refine RA.skip 5 (by kernel_rfl) rfl rfl rfl (.refl _) ?_
     refine RA.skip 6 (by kernel_rfl) rfl rfl rfl (.refl _) ?_
     refine RA.skip 7 (by kernel_rfl) rfl rfl rfl (.refl _) ?_
     refine RA.skip 8 (by kernel_rfl) rfl rfl rfl (.refl _) ?_
     refine RA.skip 9 (by kernel_rfl) rfl rfl rfl (.refl _) ?_
     refine RA.skip 10 (by kernel_rfl) rfl rfl rfl (.refl _) ?_
     refine RA.skip 11 (by kernel_rfl) rfl rfl rfl (.refl _) ?_
     refine RA.skip 12 (by kernel_rfl) rfl rfl rfl (.refl _) ?_
     refine RA.skip 13 (by kernel_rfl) rfl rfl rfl (.refl _) ?_
     refine RA.skip 14 (by kernel_rfl) rfl rfl rfl (.refl _) ?_
     refine RA.skip 15 (by kernel_rfl) rfl rfl rfl (.refl _) ?_
     refine RA.skip 16 (by kernel_rfl) rfl rfl rfl (.refl _) ?_
     refine RA.skip 17 (by kernel_rfl) rfl rfl rfl (.refl _) ?_
     refine RA.skip 18 (by kernel_rfl) rfl rfl rfl (.refl _) ?_
     refine RA.skip 19 (by kernel_rfl) rfl rfl rfl (.refl _) ?_
     refine RA.skip 20 (by kernel_rfl) rfl rfl rfl (.refl _) ?_
     refine RA.skip 21 (by kernel_rfl) rfl rfl rfl (.refl _) ?_
     refine RA.skip 22 (by kernel_rfl) rfl rfl rfl (.refl _) ?_
     refine RA.skip 23 (by kernel_rfl) rfl rfl rfl (.refl _) ?_
     refine RA.skip 24 (by kernel_rfl) rfl rfl rfl (.refl _) ?_
     refine RA.q 25 (by kernel_rfl) rfl rfl rfl (.refl _) (OpQ.pickF rfl rfl) ?_
     refine RA.know 91 (v' := .bool false) rfl (congrArg Value.bool rfl) ?_
     refine RA.tail ?_
     refine RT.done (by kernel_rfl) ?_
     refine PX.then_n ?_
     refine CT.condF rfl ?_
     refine CT.skip (PX.block_n (PX.then_n (CT.region ?_)))
     refine Wl.q rfl rfl (OpQ.add rfl rfl (by omega)) ?_
     refine Wl.q rfl rfl (OpQ.move rfl) ?_
     refine Wl.nil ?_
     exact PX.loop hK1 (x + 1) (by omega) (by first | omega | (dsimp only; omega)) ⟨rfl, rfl, rfl, rfl, rfl, rfl, rfl, rfl, rfl, rfl, rfl, trivial⟩ (HSub.refl _)
   ·
    have h62 := of_decide_eq_false h62
    refine CT.exit (PX.then_x (PX.then_x (PX.block_x (PX.block_n (PX.then_n (CT.region ?_))))))
    refine Wl.q rfl rfl (OpQ.add rfl rfl (by omega)) ?_
    refine Wl.q rfl rfl (OpQ.move rfl) ?_
    refine Wl.nil ?_
    exact PX.loop hK0 (q + 1) (by omega) (by first | omega | (dsimp only; omega)) ⟨rfl, rfl, rfl, rfl, rfl, rfl, rfl, trivial⟩ (HSub.refl _)
  ·
   have h55 := of_decide_eq_false h55
   refine CT.exit (PX.then_x (PX.then_x (PX.block_x (PX.then_n (CT.seq ?_)))))
   refine CT.draw 9 zf6 ?_
   refine RA.q 0 (by kernel_rfl) rfl rfl rfl (.refl _) (OpQ.fieldAddr zf47 rfl) ?_
   refine RA.q 1 (by kernel_rfl) rfl rfl rfl (.refl _) (OpQ.loadF (b := b5) zf39 rfl (by repeat (first | exact Has.here | apply Has.there)) (by rfl)) ?_
   refine RA.q 2 (by kernel_rfl) rfl rfl rfl (.refl _) (OpQ.move rfl) ?_
   refine RA.q 3 (by kernel_rfl) rfl rfl rfl (.refl _) (OpQ.fieldAddr zf46 rfl) ?_
   refine RA.q 4 (by kernel_rfl) rfl rfl rfl (.refl _) (OpQ.loadF (b := b5) zf8 rfl (by repeat (first | exact Has.here | apply Has.there)) (by rfl)) ?_
   refine RA.q 5 (by kernel_rfl) rfl rfl rfl (.refl _) (OpQ.index1 zf17 zf38 rfl rfl (by omega) rfl) ?_
   refine RA.q 6 (by kernel_rfl) rfl rfl rfl (.refl _) (OpQ.loadRow zf39 rfl .here (getMap sv P [] (j := G.s) (by omega))) ?_
   refine RA.q 7 (by kernel_rfl) rfl rfl rfl (.refl _) (OpQ.concat rfl rfl (by omega)) ?_
   refine RA.q 8 (by kernel_rfl) rfl rfl rfl (.refl _) (OpQ.fieldAddr zf47 rfl) ?_
   refine RA.tail ?_
   refine RT.f 9 (by kernel_rfl) rfl rfl rfl (OpG.storeRow (a := some ⟨b5, 0, none⟩) zf38 rfl rfl rfl (by repeat (first | exact Upd.here | apply Upd.there)) (by simp)) ?_
   rintro _ _
   refine RT.done (by kernel_rfl) ?_
   refine PX.then_n (CT.seq (CT.seq (CT.region ?_)))
   refine Wl.q rfl rfl (OpQ.fieldAddr zf30 rfl) ?_
   refine Wl.q rfl rfl (OpQ.loadF (b := b5) zf31 rfl (by repeat (first | exact Has.here | apply Has.there)) (by rfl)) ?_
   refine Wl.q rfl rfl (OpQ.len zf21 rfl) ?_
   refine Wl.q rfl rfl (OpQ.move rfl) ?_
   refine Wl.nil (PX.then_n (CT.block ?_))
   refine CT.loop (ι := Nat × List (Rx Wd)) (fun (q, os) => q ≤ G.rs.length ∧ NoI G.sq P q 0 os) (fun (q, os) => [(1, .pointer (some ⟨b1, 0, none⟩)), (2, .pointer (some ⟨b2, 0, none⟩)), (5, .pointer (some ⟨b5, 0, none⟩)), (8, .slice (some ⟨bp, 0, none⟩) G.rs.length G.rs.length), (105, .slice G.na G.rs.length G.nc), (106, .int .i64 ((G.rs.length : Nat) : Int)), (107, .int .i64 ((q : Nat) : Int))]) (fun (q, os) => [.row 9 1 (.slice (some ⟨bp, 0, none⟩) G.rs.length G.rs.length) G.rs.length (P.map sv), .row 30 7 (vb b5) 1 [zn G.L, zn G.s, sv (G.init ++ P.getD G.s []), .slice G.na G.rs.length G.nc, .slice G.oa G.os.length G.oc, .slice G.ea G.en.length G.ec, .slice G.fa G.fi.length G.fc], .row 30 7 (vb b2) 1 [.int .i64 0, .int .i64 0, .string ⟨#[]⟩, .slice none 0 0, .slice none 0 0, .slice none 0 0, .slice none 0 0], .row 30 7 (vb b1) 1 (svc S), .row 22 1 (.slice G.na G.rs.length G.nc) G.rs.length (G.rs.map rxv), .row 28 1 (.slice G.oa G.os.length G.oc) G.os.length (os.map rxv), .row 4 1 (.slice G.ea G.en.length G.ec) G.en.length (G.en.map bo), .row 9 1 (.slice G.fa G.fi.length G.fc) G.fi.length ((noF G.sq P (q)).map sv)] ++ (fam 3 zo G.rs ++ fam 9 sv os)) (fun (q, os) => G.rs.length - q) (0, G.os) ⟨Nat.zero_le _, NoI.start hGo P⟩ ⟨rfl, rfl, rfl, rfl, rfl, rfl, rfl, trivial⟩ (.keep rfl (.keep rfl (.keep rfl (.keep rfl (.keep rfl (.keep rfl (.keep rfl (.keep (by rw [noF_zero hgf.len.2.2]; rfl) (HSub.refl _))))))))) (fun ⟨q, os⟩ ⟨hq, hno⟩ K2 hK2 => ?_)
   dsimp only
   refine CT.seq (CT.region ?_)
   refine Wl.q rfl rfl (OpQ.lss rfl rfl) ?_
   refine Wl.nil (PX.then_n (CT.seq ?_))
   refine CT.cond rfl (fun h108 => ?_) (fun h108 => ?_)
   ·
    have h108 := of_decide_eq_true h108
    have hqn : q < G.rs.length := by omega
    have hrl := hGo.rlen (q := q) hqn
    have hqd : q < G.sq.n := by rw [hgn]; exact hqn
    have hqo : q < os.length := by rw [hno.len]; exact hqd
    refine CT.skip (PX.then_n (CT.seq (CT.block (CT.seq (CT.region ?_)))))
    refine Wl.q rfl rfl (OpQ.move rfl) ?_
    refine Wl.q rfl rfl (OpQ.index1 zf21 zf32 rfl rfl (by omega) (gnn.n (by omega))) ?_
    refine Wl.q rfl rfl (OpQ.loadRow zf10 rfl (.there (.there (.there (.there .here)))) (getMap rxv G.rs rx0 (j := q) (by omega))) ?_
    refine Wl.q rfl rfl (OpQ.assign rfl) ?_
    refine Wl.q rfl rfl (OpQ.assign rfl) ?_
    refine Wl.nil (PX.then_n (CT.seq (CT.seq (CT.region ?_))))
    refine Wl.q rfl rfl (OpQ.move rfl) ?_
    refine Wl.q rfl rfl (OpQ.len zf0 rfl) ?_
    refine Wl.know 113 (v' := .int .i64 ((G.L : Nat) : Int)) rfl (congrArg (Value.int .i64) (by rw [hrl])) ?_
    refine Wl.q rfl rfl (OpQ.move rfl) ?_
    refine Wl.nil (PX.then_n (CT.block ?_))
    refine CT.loop (ι := Nat × List (Rx Wd)) (fun (x, os) => x ≤ G.L ∧ NoI G.sq P q x os) (fun (x, os) => [(1, .pointer (some ⟨b1, 0, none⟩)), (2, .pointer (some ⟨b2, 0, none⟩)), (5, .pointer (some ⟨b5, 0, none⟩)), (8, .slice (some ⟨bp, 0, none⟩) G.rs.length G.rs.length), (13, .int .i64 ((q : Nat) : Int)), (105, .slice G.na G.rs.length G.nc), (106, .int .i64 ((G.rs.length : Nat) : Int)), (107, .int .i64 ((q : Nat) : Int)), (112, rxv (G.rs.getD q rx0)), (113, .int .i64 ((G.L : Nat) : Int)), (114, .int .i64 ((x : Nat) : Int))]) (fun (x, os) => [.row 9 1 (.slice (some ⟨bp, 0, none⟩) G.rs.length G.rs.length) G.rs.length (P.map sv), .row 30 7 (vb b5) 1 [zn G.L, zn G.s, sv (G.init ++ P.getD G.s []), .slice G.na G.rs.length G.nc, .slice G.oa G.os.length G.oc, .slice G.ea G.en.length G.ec, .slice G.fa G.fi.length G.fc], .row 30 7 (vb b2) 1 [.int .i64 0, .int .i64 0, .string ⟨#[]⟩, .slice none 0 0, .slice none 0 0, .slice none 0 0, .slice none 0 0], .row 30 7 (vb b1) 1 (svc S), .row 22 1 (.slice G.na G.rs.length G.nc) G.rs.length (G.rs.map rxv), .row 28 1 (.slice G.oa G.os.length G.oc) G.os.length (os.map rxv), .row 4 1 (.slice G.ea G.en.length G.ec) G.en.length (G.en.map bo), .row 9 1 (.slice G.fa G.fi.length G.fc) G.fi.length ((noF G.sq P (q)).map sv)] ++ (fam 3 zo G.rs ++ fam 9 sv os)) (fun (x, os) => G.L - x) (0, os) ⟨Nat.zero_le _, hno⟩ ⟨rfl, rfl, rfl, rfl, rfl, rfl, rfl, rfl, rfl, rfl, rfl, trivial⟩ (HSub.refl _) (fun ⟨x, os⟩ ⟨hx, hno⟩ K3 hK3 => ?_)
    dsimp only
    have hqo : q < os.length := by rw [hno.len]; exact hqd
    have hol : (os.getD q rx0).xs.length = G.L := hno.rl q hqd
    refine CT.fact (p := 0 < (os.getD q rx0).xs.length → (os.getD q rx0).a.isSome = true) (fun w hH h => (HOk.famB (A := [_, _, _, _, _, _, _, _]) (B := fam _ zo _) hH hqo).isSome (j := 0) (by rw [List.length_map]; exact h)) (fun hoa => ?_)
    refine CT.seq (CT.region ?_)
    refine Wl.q rfl rfl (OpQ.lss rfl rfl) ?_
    refine Wl.nil (PX.then_n (CT.seq ?_))
    refine CT.cond rfl (fun h115 => ?_) (fun h115 => ?_)
    ·
     have h115 := of_decide_eq_true h115
     refine CT.skip (PX.then_n (CT.seq (CT.block (CT.seq (CT.region ?_)))))
     refine Wl.q rfl rfl (OpQ.move rfl) ?_
     refine Wl.q rfl rfl (OpQ.index1 zf0 zf1 rfl rfl (by omega) (gnn.r q hqn (by omega))) ?_
     refine Wl.q rfl rfl (OpQ.loadG zf8 rfl (fun w hH => HOk.famA (A := [_, _, _, _, _, _, _, _]) hH hqn) (getMap zo (G.rs.getD q rx0).xs none (j := x) (by omega))) ?_
     refine Wl.know 118 (v' := zo (G.sq.to q x)) rfl (congrArg zo (G.to_eq q x).symm) ?_
     refine Wl.q rfl rfl (OpQ.assign rfl) ?_
     refine Wl.q rfl rfl (OpQ.assign rfl) ?_
     refine Wl.nil (PX.then_n (CT.seq (CT.region ?_)))
     refine Wl.q rfl rfl (OpQ.move rfl) ?_
     refine Wl.q rfl rfl (OpQ.neq rfl rfl) ?_
     refine Wl.nil (PX.then_n ?_)
     refine CT.cond rfl (fun h120 => ?_) (fun h120 => ?_)
     ·
      have h120 := of_nd_t h120
      obtain ⟨r, hto⟩ := oi_some h120
      have hxl : x < G.sq.L := by show x < G.L; omega
      have hr := hGo.lt q x r hqd hxl hto
      have hrn : r < G.rs.length := by rw [← hgn]; exact hr
      refine CT.know 16 (v' := zn r) rfl (by rw [hto]; rfl) ?_
      have hpr := hpt0 r hrn
      have hpq := hpt0 q hqn
      have hot := (hGo.to' q x hqd hxl).1
      have hst := (normD_step hgf hgt hP hqd hxl hto).length_le
      rw [List.length_append] at hst
      refine CT.draw 25 zf6 ?_
      refine RA.q 0 (by kernel_rfl) rfl rfl rfl (.refl _) (OpQ.fieldAddr zf34 rfl) ?_
      refine RA.q 1 (by kernel_rfl) rfl rfl rfl (.refl _) (OpQ.loadF (b := b5) zf35 rfl (by repeat (first | exact Has.here | apply Has.there)) (by rfl)) ?_
      refine RA.q 2 (by kernel_rfl) rfl rfl rfl (.refl _) (OpQ.move rfl) ?_
      refine RA.q 3 (by kernel_rfl) rfl rfl rfl (.refl _) (OpQ.index1 zf23 zf36 rfl rfl (by omega) (gnn.o (by omega))) ?_
      refine RA.q 4 (by kernel_rfl) rfl rfl rfl (.refl _) (OpQ.loadRow zf37 rfl (.there (.there (.there (.there (.there .here))))) (getMap rxv os rx0 (j := q) hqo)) ?_
      refine RA.q 5 (by kernel_rfl) rfl rfl rfl (.refl _) (OpQ.move rfl) ?_
      refine RA.q 6 (by kernel_rfl) rfl rfl rfl (.refl _) (OpQ.fieldAddr zf34 rfl) ?_
      refine RA.q 7 (by kernel_rfl) rfl rfl rfl (.refl _) (OpQ.loadF (b := b5) zf35 rfl (by repeat (first | exact Has.here | apply Has.there)) (by rfl)) ?_
      refine RA.q 8 (by kernel_rfl) rfl rfl rfl (.refl _) (OpQ.move rfl) ?_
      refine RA.q 9 (by kernel_rfl) rfl rfl rfl (.refl _) (OpQ.index1 zf23 zf36 rfl rfl (by omega) (gnn.o (by omega))) ?_
      refine RA.q 10 (by kernel_rfl) rfl rfl rfl (.refl _) (OpQ.loadRow zf37 rfl (.there (.there (.there (.there (.there .here))))) (getMap rxv os rx0 (j := q) hqo)) ?_
      refine RA.q 11 (by kernel_rfl) rfl rfl rfl (.refl _) (OpQ.move rfl) ?_
      refine RA.q 12 (by kernel_rfl) rfl rfl rfl (.refl _) (OpQ.index1 zf17 zf38 rfl rfl (by omega) (hoa (by omega))) ?_
      refine RA.q 13 (by kernel_rfl) rfl rfl rfl (.refl _) (OpQ.loadG zf39 rfl (fun w hH => HOk.famB (A := [_, _, _, _, _, _, _, _]) (B := fam _ zo _) hH hqo) (getMap sv (os.getD q rx0).xs [] (j := x) (by omega))) ?_
      refine RA.know 134 (v' := sv (G.sq.o q x)) rfl (congrArg sv (hno.old hqd hxl)) ?_
      refine RA.q 14 (by kernel_rfl) rfl rfl rfl (.refl _) (OpQ.move rfl) ?_
      refine RA.q 15 (by kernel_rfl) rfl rfl rfl (.refl _) (OpQ.move rfl) ?_
      refine RA.q 16 (by kernel_rfl) rfl rfl rfl (.refl _) (OpQ.index1 zf17 zf38 rfl rfl (by omega) rfl) ?_
      refine RA.q 17 (by kernel_rfl) rfl rfl rfl (.refl _) (OpQ.loadRow zf39 rfl .here (getMap sv P [] (j := r) (by omega))) ?_
      refine RA.q 18 (by kernel_rfl) rfl rfl rfl (.refl _) (OpQ.move rfl) ?_
      refine RA.q 19 (by kernel_rfl) rfl rfl rfl (.refl _) (OpQ.move rfl) ?_
      refine RA.q 20 (by kernel_rfl) rfl rfl rfl (.refl _) (OpQ.index1 zf17 zf38 rfl rfl (by omega) rfl) ?_
      refine RA.q 21 (by kernel_rfl) rfl rfl rfl (.refl _) (OpQ.loadRow zf39 rfl .here (getMap sv P [] (j := q) (by omega))) ?_
      refine RA.q 22 (by kernel_rfl) rfl rfl rfl (.refl _) (OpQ.lenSv zf4 rfl) ?_
      refine RA.f 23 (by kernel_rfl) rfl rfl rfl (OpG.callV zf93 rfl (fun w hH => tail_spec w (G.sq.o q x) (P.getD r []) (P.getD q []).length (by omega) (by omega) hst)) (fun _ _ => (.refl _)) ?_
      rintro _ _
      refine RA.q 24 (by kernel_rfl) rfl rfl rfl (.refl _) (OpQ.index1 zf17 zf38 rfl rfl (by omega) (hoa (by omega))) ?_
      refine RA.tail ?_
      refine RT.f 25 (by kernel_rfl) rfl rfl rfl (OpG.storeRow (a := (os.getD q rx0).a) zf38 rfl rfl rfl (Upd.get (fam_get (A := ([.row 9 1 (.slice (some ⟨bp, 0, none⟩) G.rs.length G.rs.length) G.rs.length (P.map sv), .row 30 7 (vb b5) 1 [zn G.L, zn G.s, sv (G.init ++ P.getD G.s []), .slice G.na G.rs.length G.nc, .slice G.oa G.os.length G.oc, .slice G.ea G.en.length G.ec, .slice G.fa G.fi.length G.fc], .row 30 7 (vb b2) 1 [.int .i64 0, .int .i64 0, .string ⟨#[]⟩, .slice none 0 0, .slice none 0 0, .slice none 0 0, .slice none 0 0], .row 30 7 (vb b1) 1 (svc S), .row 22 1 (.slice G.na G.rs.length G.nc) G.rs.length (G.rs.map rxv), .row 28 1 (.slice G.oa G.os.length G.oc) G.os.length (os.map rxv), .row 4 1 (.slice G.ea G.en.length G.ec) G.en.length (G.en.map bo), .row 9 1 (.slice G.fa G.fi.length G.fc) G.fi.length ((noF G.sq P (q)).map sv)] ++ fam 3 zo G.rs)) (ch := rch 9 sv) (j := q) hqo rfl)) (by rw [List.length_map]; omega)) ?_
      rintro _ _
      refine RT.as (fun _ h => HOk.famPut (A := ([.row 9 1 (.slice (some ⟨bp, 0, none⟩) G.rs.length G.rs.length) G.rs.length (P.map sv), .row 30 7 (vb b5) 1 [zn G.L, zn G.s, sv (G.init ++ P.getD G.s []), .slice G.na G.rs.length G.nc, .slice G.oa G.os.length G.oc, .slice G.ea G.en.length G.ec, .slice G.fa G.fi.length G.fc], .row 30 7 (vb b2) 1 [.int .i64 0, .int .i64 0, .string ⟨#[]⟩, .slice none 0 0, .slice none 0 0, .slice none 0 0, .slice none 0 0], .row 30 7 (vb b1) 1 (svc S), .row 22 1 (.slice G.na G.rs.length G.nc) G.rs.length (G.rs.map rxv), .row 28 1 (.slice G.oa G.os.length G.oc) G.os.length (os.map rxv), .row 4 1 (.slice G.ea G.en.length G.ec) G.en.length (G.en.map bo), .row 9 1 (.slice G.fa G.fi.length G.fc) G.fi.length ((noF G.sq P (q)).map sv)] ++ fam 3 zo G.rs)) (ch := rch 9 sv) (rs := os) (j := q) (⟨(os.getD q rx0).a, (os.getD q rx0).cp, (os.getD q rx0).xs.set x ((G.sq.o q x ++ (P.getD r [])).drop (P.getD q []).length)⟩ : Rx Wd) h rfl rch_put rfl) ?_
      refine RT.done (by kernel_rfl) ?_
      refine PX.block_n (PX.then_n (CT.region ?_))
      refine Wl.q rfl rfl (OpQ.add rfl rfl (by omega)) ?_
      refine Wl.q rfl rfl (OpQ.move rfl) ?_
      refine Wl.nil ?_
      exact PX.loop hK3 (x + 1, os.set q (⟨(os.getD q rx0).a, (os.getD q rx0).cp, (os.getD q rx0).xs.set x ((G.sq.o q x ++ (P.getD r [])).drop (P.getD q []).length)⟩ : Rx Wd)) ⟨by omega, hno.put hqd (by rw [normD_o hqd (show x < G.sq.L by show x < G.L; omega), hto])⟩ (show G.L - (x + 1) < G.L - x by omega) ⟨rfl, rfl, rfl, rfl, rfl, rfl, rfl, rfl, rfl, rfl, rfl, trivial⟩ (.keep rfl (.keep rfl (.keep rfl (.keep rfl (.keep rfl (.keep (row_eq (rxv_put (by rw [List.length_set]))) (.keep rfl (.keep rfl (HSub.refl _)))))))))
     ·
      have h120 := of_nd_f h120
      refine CT.skip (PX.block_n (PX.then_n (CT.region ?_)))
      refine Wl.q rfl rfl (OpQ.add rfl rfl (by omega)) ?_
      refine Wl.q rfl rfl (OpQ.move rfl) ?_
      refine Wl.nil ?_
      exact PX.loop hK3 (x + 1, os) ⟨by omega, hno.keep (oi_neg.1 h120)⟩ (show G.L - (x + 1) < G.L - x by omega) ⟨rfl, rfl, rfl, rfl, rfl, rfl, rfl, rfl, rfl, rfl, rfl, trivial⟩ (HSub.refl _)
    ·
     have h115 := of_decide_eq_false h115
     have hxe : x = G.sq.L := by show x = G.L; omega
     rw [hxe] at hno
     refine CT.exit (PX.then_x (PX.then_x (PX.block_x (PX.then_n (CT.seq (CT.region ?_))))))
     refine Wl.q rfl rfl (OpQ.fieldAddr zf42 rfl) ?_
     refine Wl.q rfl rfl (OpQ.loadF (b := b5) zf43 rfl (by repeat (first | exact Has.here | apply Has.there)) (by rfl)) ?_
     refine Wl.q rfl rfl (OpQ.move rfl) ?_
     refine Wl.q rfl rfl (OpQ.index1 zf25 zf44 rfl rfl (by omega) (gnn.e (by omega))) ?_
     refine Wl.q rfl rfl (OpQ.loadRow zf45 rfl (.there (.there (.there (.there (.there (.there .here)))))) (getMap bo G.en false (j := q) (by omega))) ?_
     refine Wl.know 151 (v' := .bool (G.sq.e q)) rfl rfl ?_
     refine Wl.nil (PX.then_n ?_)
     refine CT.cond rfl (fun h151 => ?_) (fun h151 => ?_)
     ·
      have he : G.sq.e q = true := h151
      have hpf := Pf_le hP hqd he
      have hfl : (noF G.sq P q).length = G.rs.length := by rw [noF_len, hgn]
      have hft := (hGo.tf q hqd).1
      refine CT.draw 15 zf6 ?_
      refine RA.q 0 (by kernel_rfl) rfl rfl rfl (.refl _) (OpQ.fieldAddr zf41 rfl) ?_
      refine RA.q 1 (by kernel_rfl) rfl rfl rfl (.refl _) (OpQ.loadF (b := b5) zf37 rfl (by repeat (first | exact Has.here | apply Has.there)) (by rfl)) ?_
      refine RA.q 2 (by kernel_rfl) rfl rfl rfl (.refl _) (OpQ.move rfl) ?_
      refine RA.q 3 (by kernel_rfl) rfl rfl rfl (.refl _) (OpQ.fieldAddr zf41 rfl) ?_
      refine RA.q 4 (by kernel_rfl) rfl rfl rfl (.refl _) (OpQ.loadF (b := b5) zf37 rfl (by repeat (first | exact Has.here | apply Has.there)) (by rfl)) ?_
      refine RA.q 5 (by kernel_rfl) rfl rfl rfl (.refl _) (OpQ.move rfl) ?_
      refine RA.q 6 (by kernel_rfl) rfl rfl rfl (.refl _) (OpQ.index1 zf17 zf38 rfl rfl (by omega) (gnn.f (by omega))) ?_
      refine RA.q 7 (by kernel_rfl) rfl rfl rfl (.refl _) (OpQ.loadRow zf39 rfl (.there (.there (.there (.there (.there (.there (.there .here))))))) (getMap sv (noF G.sq P q) [] (j := q) (by omega))) ?_
      refine RA.know 159 (v' := sv (G.sq.f q)) rfl (congrArg sv (by rw [noF_get hqd, if_neg (by omega)])) ?_
      refine RA.q 8 (by kernel_rfl) rfl rfl rfl (.refl _) (OpQ.move rfl) ?_
      refine RA.q 9 (by kernel_rfl) rfl rfl rfl (.refl _) (OpQ.move rfl) ?_
      refine RA.q 10 (by kernel_rfl) rfl rfl rfl (.refl _) (OpQ.index1 zf17 zf38 rfl rfl (by omega) rfl) ?_
      refine RA.q 11 (by kernel_rfl) rfl rfl rfl (.refl _) (OpQ.loadRow zf39 rfl .here (getMap sv P [] (j := q) (by omega))) ?_
      refine RA.q 12 (by kernel_rfl) rfl rfl rfl (.refl _) (OpQ.lenSv zf4 rfl) ?_
      refine RA.q 13 (by kernel_rfl) rfl rfl rfl (.refl _) (OpQ.sliceSL zf4 rfl rfl hpf) ?_
      refine RA.q 14 (by kernel_rfl) rfl rfl rfl (.refl _) (OpQ.index1 zf17 zf38 rfl rfl (by omega) (gnn.f (by omega))) ?_
      refine RA.tail ?_
      refine RT.f 15 (by kernel_rfl) rfl rfl rfl (OpG.storeRow (a := G.fa) zf38 rfl rfl rfl (by repeat (first | exact Upd.here | apply Upd.there)) (by rw [List.length_map, hfl]; exact hqn)) ?_
      rintro _ _
      refine RT.done (by kernel_rfl) ?_
      refine PX.block_n (PX.then_n (CT.region ?_))
      refine Wl.q rfl rfl (OpQ.add rfl rfl (by omega)) ?_
      refine Wl.q rfl rfl (OpQ.move rfl) ?_
      refine Wl.nil ?_
      exact PX.loop hK2 (q + 1, os) ⟨by omega, hno.row⟩ (show G.rs.length - (q + 1) < G.rs.length - q by omega) ⟨rfl, rfl, rfl, rfl, rfl, rfl, rfl, trivial⟩ (.keep rfl (.keep rfl (.keep rfl (.keep rfl (.keep rfl (.keep rfl (.keep rfl (.keep (row_eq (by rw [← noF_put, normD_f hqd, he, if_pos rfl]; rfl)) (HSub.refl _)))))))))
     ·
      have he : G.sq.e q = false := h151
      refine CT.skip (PX.block_n (PX.then_n (CT.region ?_)))
      refine Wl.q rfl rfl (OpQ.add rfl rfl (by omega)) ?_
      refine Wl.q rfl rfl (OpQ.move rfl) ?_
      refine Wl.nil ?_
      exact PX.loop hK2 (q + 1, os) ⟨by omega, hno.row⟩ (show G.rs.length - (q + 1) < G.rs.length - q by omega) ⟨rfl, rfl, rfl, rfl, rfl, rfl, rfl, trivial⟩ (.keep rfl (.keep rfl (.keep rfl (.keep rfl (.keep rfl (.keep rfl (.keep rfl (.keep (row_eq (by rw [noF_keep he])) (HSub.refl _)))))))))
   ·
    have h108 := of_decide_eq_false h108
    obtain rfl : q = G.rs.length := by omega
    refine CT.exit (PX.then_x (PX.then_x (PX.block_x (PX.then_n (CT.seq (CT.region ?_))))))
    refine Wl.q rfl rfl (OpQ.loadV (b := b5) zf29 zf28 rfl (by repeat (first | exact Has.here | apply Has.there)) (by rfl)) ?_
    refine Wl.g rfl rfl (OpG.storeV (b := b2) zf28 rfl rfl rfl rfl (by repeat (first | exact Upd.here | apply Upd.there))) ?_
    rintro _ _
    refine Wl.q rfl rfl (OpQ.assign rfl) ?_
    refine Wl.nil (PX.then_n (CT.ret ?_))
    refine PX.retC2 rfl rfl rfl (by repeat (first | exact Has.here | apply Has.there)) zf29 zf28 (by rfl) (fun w' hH => ?_)
    have e1 : (⟨G.L, G.s, G.init ++ P.getD G.s [], G.na, G.nc, G.rs, G.oa, G.oc, os, G.ea, G.ec, G.en, G.fa, G.fc, noF G.sq P G.rs.length⟩ : Sv).sq = normD G.sq P := by
     show Sq.mk _ _ _ _ _ _ (os.map (·.xs)) = _
     rw [NoI.done (by rw [hgn]; exact hno), ← hgn, noF_end]; rfl
    have ho : os.length = G.os.length := by rw [hno.len, hgn, glo]
    have hf9 : (noF G.sq P G.rs.length).length = G.fi.length := by rw [noF_len, hgn, glf]
    exact ⟨(⟨G.L, G.s, G.init ++ P.getD G.s [], G.na, G.nc, G.rs, G.oa, G.oc, os, G.ea, G.ec, G.en, G.fa, G.fc, noF G.sq P G.rs.length⟩ : Sv), ⟨⟨G.sq, hG, .inr ⟨hcs, P, hP, e1⟩⟩, by rw [e1]; exact (normD_ok hGo hgt hP).mono (Nat.mul_le_mul_right M (Nat.add_le_add_right hGn 1))⟩, by simp only [svv, svc, ho, hf9]; rfl, (HOk.behind (A := [_, _, _, _]) hH).post.conv (.keep rfl (.keep (by simp only [ho]) (.keep rfl (.keep (by simp only [hf9]) (HSub.refl _)))))⟩

end Go.Proofs.Ytamolakhpcofhaa

