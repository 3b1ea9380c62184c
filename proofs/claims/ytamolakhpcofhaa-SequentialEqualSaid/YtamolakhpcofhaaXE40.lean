/-
  What functions of the program compute, each by its walk. Conditions: those that each theorem names.
-/
import Derived.Test.YtamolakhpcofhaaMod1
import Derived.Test.YtamolakhpcofhaaXE39
import Derived.Test.YtamolakhpcofhaaXF
set_option linter.unusedSimpArgs false
namespace Go.Proofs.Ytamolakhpcofhaa
open Go Go.Eng Go.Am Go.Sq
open Go.Tp (zi)
open Go.Tl (mayL Wd okW okB bo)

set_option maxRecDepth 100000 in
/-- (*semigroup/sequential.comparison).root -/
theorem root_spec (w : World) (bc : Nat) (v0 v1 v3 v4 v5 : Value) (pa : Option Addr) (pc N : Nat) (P : List Nat) (k δ : Nat → Nat) (hU : Uf N P k δ) (hpa : pa.isSome = true) (hN : N ≤ 1024) (s0 : Nat) (hs0 : s0 < N) (hpre : Pre [.row 135 6 (vb bc) 1 [v0, v1, .slice pa N pc, v3, v4, v5], .row 3 1 (.slice pa N pc) N ((P).map zn)] w) : Calls Try.prog 96 #[.pointer (some ⟨bc, 0, none⟩), .int .i64 ((s0 : Nat) : Int)] w (fun e w' => ∃ P' : List Nat, (Uf N P' k δ) ∧ e = .returned (.int .i64 ((k s0 : Nat) : Int)) ∧ Post (blks [.row 135 6 (vb bc) 1 [v0, v1, .slice pa N pc, v3, v4, v5], .row 3 1 (.slice pa N pc) N ((P).map zn)]) [.row 135 6 (vb bc) 1 [v0, v1, .slice pa N pc, v3, v4, v5], .row 3 1 (.slice pa N pc) N ((P').map zn)] w w') := by
 refine enterX (args := [.pointer (some ⟨bc, 0, none⟩), .int .i64 ((s0 : Nat) : Int)]) hpre 41 Try.func96 rfl rfl rfl ?_
 refine CT.seq (CT.region ?_)
 refine Wl.q rfl rfl (OpQ.assign rfl) ?_
 refine Wl.nil (PX.then_n (CT.seq (CT.block ?_)))
 refine CT.loop (ι := List Nat × Nat) (fun (P, s) => Uf N P k δ ∧ s < N ∧ k s = k s0) (fun (P, s) => [(0, .pointer (some ⟨bc, 0, none⟩)), (1, .int .i64 ((s : Nat) : Int))]) (fun (P, s) => [.row 135 6 (vb bc) 1 [v0, v1, .slice pa N pc, v3, v4, v5], .row 3 1 (.slice pa N pc) N ((P).map zn)]) (fun (P, s) => δ s) (P, s0) ⟨hU, hs0, rfl⟩ ⟨rfl, rfl, trivial⟩ (HSub.refl _) (fun ⟨P, s⟩ ⟨hU, hsN, hks⟩ K0 hK0 => ?_)
 dsimp only
 have hPl := hU.len
 refine CT.seq (CT.seq (CT.region ?_))
 refine Wl.q rfl rfl (OpQ.move rfl) ?_
 refine Wl.q rfl rfl (OpQ.nilCheckP rfl) ?_
 refine Wl.q rfl rfl (OpQ.fieldAddr zf107 rfl) ?_
 refine Wl.q rfl rfl (OpQ.loadF (b := bc) zf10 rfl (by repeat (first | exact Has.here | apply Has.there)) (by rfl)) ?_
 refine Wl.q rfl rfl (OpQ.move rfl) ?_
 refine Wl.q rfl rfl (OpQ.index1 zf0 zf1 rfl rfl (by omega) hpa) ?_
 refine Wl.q rfl rfl (OpQ.loadRow zf8 rfl (.there .here) (getMap zn P 0 (j := s) (by omega))) ?_
 refine Wl.q rfl rfl (OpQ.move rfl) ?_
 refine Wl.q rfl rfl (OpQ.neq rfl rfl) ?_
 refine Wl.nil (PX.then_n ?_)
 refine CT.cond rfl (fun h13 => ?_) (fun h13 => ?_)
 ·
  have h13 := of_nd_t h13
  have hne : P.getD s 0 ≠ s := fun e => h13 (congrArg (fun n : Nat => (n : Int)) e)
  have hlt := hU.lt s hsN
  have hlt2 := hU.lt _ hlt
  refine CT.skip (PX.then_n (CT.block (CT.seq ?_)))
  refine CT.draw 19 zf6 ?_
  refine RA.q 0 (by kernel_rfl) rfl rfl rfl (.refl _) (OpQ.move rfl) ?_
  refine RA.q 1 (by kernel_rfl) rfl rfl rfl (.refl _) (OpQ.nilCheckP rfl) ?_
  refine RA.q 2 (by kernel_rfl) rfl rfl rfl (.refl _) (OpQ.fieldAddr zf107 rfl) ?_
  refine RA.q 3 (by kernel_rfl) rfl rfl rfl (.refl _) (OpQ.loadF (b := bc) zf10 rfl (by repeat (first | exact Has.here | apply Has.there)) (by rfl)) ?_
  refine RA.q 4 (by kernel_rfl) rfl rfl rfl (.refl _) (OpQ.move rfl) ?_
  refine RA.q 5 (by kernel_rfl) rfl rfl rfl (.refl _) (OpQ.move rfl) ?_
  refine RA.q 6 (by kernel_rfl) rfl rfl rfl (.refl _) (OpQ.nilCheckP rfl) ?_
  refine RA.q 7 (by kernel_rfl) rfl rfl rfl (.refl _) (OpQ.fieldAddr zf107 rfl) ?_
  refine RA.q 8 (by kernel_rfl) rfl rfl rfl (.refl _) (OpQ.loadF (b := bc) zf10 rfl (by repeat (first | exact Has.here | apply Has.there)) (by rfl)) ?_
  refine RA.q 9 (by kernel_rfl) rfl rfl rfl (.refl _) (OpQ.move rfl) ?_
  refine RA.q 10 (by kernel_rfl) rfl rfl rfl (.refl _) (OpQ.nilCheckP rfl) ?_
  refine RA.q 11 (by kernel_rfl) rfl rfl rfl (.refl _) (OpQ.fieldAddr zf107 rfl) ?_
  refine RA.q 12 (by kernel_rfl) rfl rfl rfl (.refl _) (OpQ.loadF (b := bc) zf10 rfl (by repeat (first | exact Has.here | apply Has.there)) (by rfl)) ?_
  refine RA.q 13 (by kernel_rfl) rfl rfl rfl (.refl _) (OpQ.move rfl) ?_
  refine RA.q 14 (by kernel_rfl) rfl rfl rfl (.refl _) (OpQ.index1 zf0 zf1 rfl rfl (by omega) hpa) ?_
  refine RA.q 15 (by kernel_rfl) rfl rfl rfl (.refl _) (OpQ.loadRow zf8 rfl (.there .here) (getMap zn P 0 (j := s) (by omega))) ?_
  refine RA.q 16 (by kernel_rfl) rfl rfl rfl (.refl _) (OpQ.index1 zf0 zf1 rfl rfl (by omega) hpa) ?_
  refine RA.q 17 (by kernel_rfl) rfl rfl rfl (.refl _) (OpQ.loadRow zf8 rfl (.there .here) (getMap zn P 0 (j := P.getD s 0) (by omega))) ?_
  refine RA.q 18 (by kernel_rfl) rfl rfl rfl (.refl _) (OpQ.index1 zf0 zf1 rfl rfl (by omega) hpa) ?_
  refine RA.tail ?_
  refine RT.f 19 (by kernel_rfl) rfl rfl rfl (OpG.storeRow zf1 rfl rfl rfl (.there .here) (by rw [List.length_map]; omega)) ?_
  rintro _ _
  refine RT.done (by kernel_rfl) ?_
  refine PX.then_n (CT.region ?_)
  refine Wl.mem (H' := [.row 135 6 (vb bc) 1 [v0, v1, .slice pa N pc, v3, v4, v5], .row 3 1 (.slice pa N pc) N ((P.set s (P.getD (P.getD s 0) 0)).map zn)]) (.keep rfl (.keep (row_eq (by rw [List.map_set]; rfl)) (HSub.refl _))) ?_
  have hPs : (P.set s (P.getD (P.getD s 0) 0)).length = N := by rw [List.length_set]; exact hPl
  refine Wl.q rfl rfl (OpQ.move rfl) ?_
  refine Wl.q rfl rfl (OpQ.nilCheckP rfl) ?_
  refine Wl.q rfl rfl (OpQ.fieldAddr zf107 rfl) ?_
  refine Wl.q rfl rfl (OpQ.loadF (b := bc) zf10 rfl (by repeat (first | exact Has.here | apply Has.there)) (by rfl)) ?_
  refine Wl.q rfl rfl (OpQ.move rfl) ?_
  refine Wl.q rfl rfl (OpQ.index1 zf0 zf1 rfl rfl (by omega) hpa) ?_
  refine Wl.q rfl rfl (OpQ.loadRow zf8 rfl (.there .here) (getMap zn (P.set s (P.getD (P.getD s 0) 0)) 0 (j := s) (by omega))) ?_
  refine Wl.know 39 (v' := .int .i64 ((P.getD (P.getD s 0) 0 : Nat) : Int)) rfl (congrArg (fun n : Nat => Value.int .i64 (n : Int)) (by rw [getD_setN _ _ _ _ (by omega), if_pos rfl])) ?_
  refine Wl.q rfl rfl (OpQ.assign rfl) ?_
  refine Wl.nil (PX.block_n ?_)
  exact PX.loop hK0 (P.set s (P.getD (P.getD s 0) 0), P.getD (P.getD s 0) 0) ⟨hU.half hsN hne, hU.lt _ hlt, (hU.half_k hsN).trans hks⟩ (hU.half_lt hsN hne) ⟨rfl, rfl, trivial⟩ (HSub.refl _)
 ·
  have h13 := of_nd_f h13
  have he : P.getD s 0 = s := by omega
  refine CT.exit (PX.then_x (PX.then_x (PX.block_x (PX.then_n (CT.seq (CT.region ?_))))))
  refine Wl.q rfl rfl (OpQ.move rfl) ?_
  refine Wl.q rfl rfl (OpQ.assign rfl) ?_
  refine Wl.nil (PX.then_n (CT.ret ?_))
  refine PX.ret1 rfl rfl (fun w' hH => ?_)
  exact ⟨P, hU, by rw [← hks, hU.ki s hsN he], HOk.post hH⟩

set_option maxRecDepth 100000 in
/-- slices.Reverse[[]byte,byte] -/
theorem sreverse_spec (w : World) (a : Option Addr) (n c : Nat) (l : Wd) (hln : l.length = n) (hn : n ≤ 1000000) (hais : 0 < n → a.isSome = true) (hpre : Pre [.row 5 1 (.slice a n c) n ((l).map bv)] w) : Calls Try.prog 97 #[.slice a n c] w (fun e w' => ∃ _i : Unit, True ∧ e = .returned (.tuple #[]) ∧ Post (blks [.row 5 1 (.slice a n c) n ((l).map bv)]) [.row 5 1 (.slice a n c) n ((l.reverse).map bv)] w w') := by
 refine enterX (args := [.slice a n c]) hpre 28 Try.func97 rfl rfl rfl ?_
 refine CT.seq (CT.region ?_)
 refine Wl.q rfl rfl (OpQ.move rfl) ?_
 refine Wl.q rfl rfl (OpQ.len zf2 rfl) ?_
 refine Wl.q rfl rfl (OpQ.sub rfl rfl (by omega)) ?_
 refine Wl.q rfl rfl (OpQ.assign rfl) ?_
 refine Wl.q rfl rfl (OpQ.assign rfl) ?_
 refine Wl.nil (PX.then_n (CT.block ?_))
 refine CT.loop (ι := Nat) (fun i => 2 * i ≤ n) (fun i => [(0, .slice a n c), (2, .int .i64 ((i : Nat) : Int)), (3, .int .i64 ((n : Int) - 1 - i))]) (fun i => [.row 5 1 (.slice a n c) n ((rvP l i).map bv)]) (fun i => n - i) 0 (Nat.zero_le _) ⟨rfl, rfl, (lkV rfl (congrArg (Value.int .i64) (by omega))), trivial⟩ (.keep (row_eq (by rw [rvP_zero])) (HSub.refl _)) (fun i hi K0 hK0 => ?_)
 refine CT.seq (CT.seq (CT.region ?_))
 refine Wl.q rfl rfl (OpQ.move rfl) ?_
 refine Wl.q rfl rfl (OpQ.move rfl) ?_
 refine Wl.q rfl rfl (OpQ.lss rfl rfl) ?_
 refine Wl.nil (PX.then_n ?_)
 refine CT.cond rfl (fun h9 => ?_) (fun h9 => ?_)
 ·
  have h9 := of_decide_eq_true h9
  have hlt : i < n - 1 - i := by omega
  have hrl := rvP_len l i
  have hsa := hais (by omega)
  refine CT.skip (PX.then_n (CT.seq (CT.block ?_)))
  refine CT.draw' (Hc := []) 15 zf6 ?_
  refine RA.q 0 (by kernel_rfl) rfl rfl rfl (List.nil_sublist _) (OpQ.move rfl) ?_
  refine RA.q 1 (by kernel_rfl) rfl rfl rfl (List.nil_sublist _) (OpQ.move rfl) ?_
  refine RA.q 2 (by kernel_rfl) rfl rfl rfl (List.nil_sublist _) (OpQ.move rfl) ?_
  refine RA.q 3 (by kernel_rfl) rfl rfl rfl (List.nil_sublist _) (OpQ.move rfl) ?_
  refine RA.know 17 (v' := .int .i64 (((n - 1 - i) : Nat) : Int)) rfl (congrArg (Value.int .i64) (by omega)) ?_
  refine RA.q 4 (by kernel_rfl) rfl rfl rfl (List.nil_sublist _) (OpQ.move rfl) ?_
  refine RA.q 5 (by kernel_rfl) rfl rfl rfl (List.nil_sublist _) (OpQ.move rfl) ?_
  refine RA.know 19 (v' := .int .i64 (((n - 1 - i) : Nat) : Int)) rfl (congrArg (Value.int .i64) (by omega)) ?_
  refine RA.q 6 (by kernel_rfl) rfl rfl rfl (List.nil_sublist _) (OpQ.index1 zf2 zf83 rfl rfl (by omega) hsa) ?_
  refine RA.q 8 (by kernel_rfl) rfl rfl rfl (List.nil_sublist _) (OpQ.move rfl) ?_
  refine RA.q 9 (by kernel_rfl) rfl rfl rfl (List.nil_sublist _) (OpQ.move rfl) ?_
  refine RA.q 10 (by kernel_rfl) rfl rfl rfl (List.nil_sublist _) (OpQ.index1 zf2 zf83 rfl rfl (by omega) hsa) ?_
  refine RA.two 7 11 (by kernel_rfl) rfl rfl rfl (OpQ.toG (OpQ.loadRow zf108 rfl .here (getMap bv (rvP l i) 0 (j := (n - 1 - i)) (by omega)))) (fun _ _ => (List.nil_sublist _)) rfl rfl rfl (OpQ.toG (OpQ.loadRow zf108 rfl .here (getMap bv (rvP l i) 0 (j := i) (by omega)))) (fun _ _ => (List.nil_sublist _)) ?_ ?_
  ·
   rintro _ _
   refine RA.fq 11 (by kernel_rfl) rfl rfl rfl (OpQ.loadRow zf108 rfl .here (getMap bv (rvP l i) 0 (j := i) (by omega))) (List.nil_sublist _) ?_
   refine RA.q 12 (by kernel_rfl) rfl rfl rfl (List.nil_sublist _) (OpQ.index1 zf2 zf83 rfl rfl (by omega) hsa) ?_
   refine RA.f 13 (by kernel_rfl) rfl rfl rfl (OpG.storeRow zf83 rfl rfl rfl .here (by rw [List.length_map]; omega)) (fun _ _ => (List.nil_sublist _)) ?_
   rintro _ _
   refine RA.q 14 (by kernel_rfl) rfl rfl rfl (List.nil_sublist _) (OpQ.index1 zf2 zf83 rfl rfl (by omega) hsa) ?_
   refine RA.tail ?_
   refine RT.f 15 (by kernel_rfl) rfl rfl rfl (OpG.storeRow zf83 rfl rfl rfl .here (by rw [List.length_set, List.length_map]; omega)) ?_
   rintro _ _
   refine RT.done (by kernel_rfl) ?_
   refine PX.block_n (PX.then_n (CT.region ?_))
   refine Wl.q rfl rfl (OpQ.move rfl) ?_
   refine Wl.q rfl rfl (OpQ.add rfl rfl (by omega)) ?_
   refine Wl.q rfl rfl (OpQ.move rfl) ?_
   refine Wl.q rfl rfl (OpQ.sub rfl rfl (by omega)) ?_
   refine Wl.q rfl rfl (OpQ.assign rfl) ?_
   refine Wl.q rfl rfl (OpQ.assign rfl) ?_
   refine Wl.nil ?_
   exact PX.loop hK0 (i + 1) (by omega) (by first | omega | (dsimp only; omega)) ⟨rfl, rfl, (lkV rfl (congrArg (Value.int .i64) (by push_cast; omega))), trivial⟩ (.keep (row_eq (by rw [← rvP_step l (by omega), List.map_set, List.map_set, hln]; rfl)) (HSub.refl _))
  ·
   rintro _ _
   refine RA.fq 7 (by kernel_rfl) rfl rfl rfl (OpQ.loadRow zf108 rfl .here (getMap bv (rvP l i) 0 (j := (n - 1 - i)) (by omega))) (List.nil_sublist _) ?_
   refine RA.q 12 (by kernel_rfl) rfl rfl rfl (List.nil_sublist _) (OpQ.index1 zf2 zf83 rfl rfl (by omega) hsa) ?_
   refine RA.f 13 (by kernel_rfl) rfl rfl rfl (OpG.storeRow zf83 rfl rfl rfl .here (by rw [List.length_map]; omega)) (fun _ _ => (List.nil_sublist _)) ?_
   rintro _ _
   refine RA.q 14 (by kernel_rfl) rfl rfl rfl (List.nil_sublist _) (OpQ.index1 zf2 zf83 rfl rfl (by omega) hsa) ?_
   refine RA.tail ?_
   refine RT.f 15 (by kernel_rfl) rfl rfl rfl (OpG.storeRow zf83 rfl rfl rfl .here (by rw [List.length_set, List.length_map]; omega)) ?_
   rintro _ _
   refine RT.done (by kernel_rfl) ?_
   refine PX.block_n (PX.then_n (CT.region ?_))
   refine Wl.q rfl rfl (OpQ.move rfl) ?_
   refine Wl.q rfl rfl (OpQ.add rfl rfl (by omega)) ?_
   refine Wl.q rfl rfl (OpQ.move rfl) ?_
   refine Wl.q rfl rfl (OpQ.sub rfl rfl (by omega)) ?_
   refine Wl.q rfl rfl (OpQ.assign rfl) ?_
   refine Wl.q rfl rfl (OpQ.assign rfl) ?_
   refine Wl.nil ?_
   exact PX.loop hK0 (i + 1) (by omega) (by first | omega | (dsimp only; omega)) ⟨rfl, rfl, (lkV rfl (congrArg (Value.int .i64) (by push_cast; omega))), trivial⟩ (.keep (row_eq (by rw [← rvP_step l (by omega), List.map_set, List.map_set, hln]; rfl)) (HSub.refl _))
 ·
  have h9 := of_decide_eq_false h9
  refine CT.exit (PX.then_x (PX.then_x (PX.block_x ?_)))
  refine PX.end0 rfl (fun w' hH => ?_)
  exact ⟨(), trivial, rfl, (HOk.post hH).conv (.keep (row_eq (by rw [rvP_done l (by omega)])) .nil)⟩

set_option maxRecDepth 100000 in
/-- semigroup/sequential.apart -/
theorem apart_spec (w : World) (S : Sv) (hS : Stays [] w (svm S)) (hv : S.sq.Ok 4096) (bs : Nat) (F : List Nat) (a1 : Option Addr) (c1 : Nat) (a2 : Option Addr) (n2 c2 : Nat) (hB : Stays [] w (fun w => Rd w (some ⟨bs, 0, none⟩) (svc S ++ [.slice a1 F.length c1, .slice a2 n2 c2]))) (hF : Stays [] w (fun w => Rd w a1 (F.map zn))) (δ : Nat → Nat) (hf : FirstsI S.sq F δ) (hco : ∀ q, q < S.sq.n → S.sq.tr.co S.L q = true) (S2 : Sv) (hS2 : Stays [] w (svm S2)) (hv2 : S2.sq.Ok 4096) (bt : Nat) (F2 : List Nat) (a3 : Option Addr) (c3 : Nat) (a4 : Option Addr) (n4 c4 : Nat) (hB2 : Stays [] w (fun w => Rd w (some ⟨bt, 0, none⟩) (svc S2 ++ [.slice a3 F2.length c3, .slice a4 n4 c4]))) (hF2 : Stays [] w (fun w => Rd w a3 (F2.map zn))) (δ2 : Nat → Nat) (hf2 : FirstsI S2.sq F2 δ2) (hco2 : ∀ q, q < S2.sq.n → S2.sq.tr.co S2.L q = true) (hN1 : S.sq.Nf) (hN2 : S2.sq.Nf) (hLL : S.L = S2.L) (p q : Nat) (hp : p < S.sq.n) (hq : q < S2.sq.n) (u v : Wd) (hne : u ≠ v) (M : Nat) (hM1 : 2 * S.sq.n ≤ M) (hM2 : 2 * S2.sq.n ≤ M) : Calls Try.prog 83 #[.pointer (some ⟨bs, 0, none⟩), .pointer (some ⟨bt, 0, none⟩), kp (p, q), sv u, sv v] w (fun e w' => ∃ ws : Wd, (Lw S.L ws ∧ ws.length ≤ M ∧ (S.sq.tr.val p (wl ws)).map (u ++ ·) ≠ (S2.sq.tr.val q (wl ws)).map (v ++ ·)) ∧ e = .returned (sv ws) ∧ Ext [] w w') := by
 refine enter (args := [.pointer (some ⟨bs, 0, none⟩), .pointer (some ⟨bt, 0, none⟩), kp (p, q), sv u, sv v]) [] 37 Try.func83 rfl rfl rfl ?_
 refine CT.seq (CT.region ?_)
 refine Wl.g rfl rfl (OpG.box (size := 2) rfl rfl rfl) ?_
 rintro b7 _
 refine Wl.q rfl rfl (OpQ.assign rfl) ?_
 refine Wl.nil (PX.then_n (CT.seq (CT.seq (CT.region ?_))))
 refine Wl.q rfl rfl (OpQ.move rfl) ?_
 refine Wl.q rfl rfl (OpQ.move rfl) ?_
 refine Wl.g rfl rfl (OpG.callV zf109 rfl (fun w hH => hasPrefix_spec w v u)) ?_
 rintro _ _
 refine Wl.nil (PX.then_n ?_)
 refine CT.cond rfl (fun h13 => ?_) (fun h13 => ?_)
 ·
  have h13 := of_decide_eq_true h13
  obtain ⟨ch, t, hv1, hc1, hl1⟩ := pre_ex h13 hne
  refine CT.seq ?_
  refine CT.draw 9 zf6 ?_
  refine RA.q 0 (by kernel_rfl) rfl rfl rfl (.refl _) (OpQ.move rfl) ?_
  refine RA.q 1 (by kernel_rfl) rfl rfl rfl (.refl _) (OpQ.fieldAddr zf110 rfl) ?_
  refine RA.q 2 (by kernel_rfl) rfl rfl rfl (.refl _) (OpQ.loadF (b := b7) zf8 rfl (by repeat (first | exact Has.here | apply Has.there)) (by rfl)) ?_
  refine RA.q 3 (by kernel_rfl) rfl rfl rfl (.refl _) (OpQ.move rfl) ?_
  refine RA.q 4 (by kernel_rfl) rfl rfl rfl (.refl _) (OpQ.move rfl) ?_
  refine RA.q 5 (by kernel_rfl) rfl rfl rfl (.refl _) (OpQ.lenSv zf4 rfl) ?_
  refine RA.q 6 (by kernel_rfl) rfl rfl rfl (.refl _) (OpQ.indexSvN zf4 rfl rfl (by omega)) ?_
  refine RA.f 7 (by kernel_rfl) rfl rfl rfl (OpG.call zf111 rfl (fun w hH => (avoid_spec w S (hH.stays0 hS) hv bs F a1 c1 a2 n2 c2 (hH.stays0 hB) (hH.stays0 hF) δ hf hco p hp (v.getD u.length 0) (hN1.avoid hp _)).mono fun e w' ⟨ws, h1, h2, h3⟩ => ⟨ws, h1, h2, hH.ext_nil h3⟩)) (fun _ _ => (.refl _)) ?_
  rintro ws ⟨hw1, hw2, z, hz1, hz2⟩
  refine RA.q 8 (by kernel_rfl) rfl rfl rfl (.refl _) (OpQ.assign rfl) ?_
  refine RA.tail ?_
  refine RT.done (by kernel_rfl) ?_
  refine PX.then_n (CT.ret (PX.then_r ?_))
  refine PX.ret1 rfl rfl (fun w' hH => ?_)
  rw [hc1] at hz2
  exact ⟨ws, ⟨hw1, by omega, by rw [hz1]; exact ap_l hv1 hz2 _⟩, rfl, hH.ext⟩
 ·
  have h13 := of_decide_eq_false h13
  refine CT.skip (PX.then_n (CT.seq (CT.seq (CT.region ?_))))
  refine Wl.q rfl rfl (OpQ.move rfl) ?_
  refine Wl.q rfl rfl (OpQ.move rfl) ?_
  refine Wl.g rfl rfl (OpG.callV zf109 rfl (fun w hH => hasPrefix_spec w u v)) ?_
  rintro _ _
  refine Wl.nil (PX.then_n ?_)
  refine CT.cond rfl (fun h24 => ?_) (fun h24 => ?_)
  ·
   have h24 := of_decide_eq_true h24
   obtain ⟨ch, t, hv1, hc1, hl1⟩ := pre_ex h24 (fun e => hne e.symm)
   refine CT.seq ?_
   refine CT.draw 9 zf6 ?_
   refine RA.q 0 (by kernel_rfl) rfl rfl rfl (.refl _) (OpQ.move rfl) ?_
   refine RA.q 1 (by kernel_rfl) rfl rfl rfl (.refl _) (OpQ.fieldAddr zf112 rfl) ?_
   refine RA.q 2 (by kernel_rfl) rfl rfl rfl (.refl _) (OpQ.loadF (b := b7) zf8 rfl (by repeat (first | exact Has.here | apply Has.there)) (by rfl)) ?_
   refine RA.q 3 (by kernel_rfl) rfl rfl rfl (.refl _) (OpQ.move rfl) ?_
   refine RA.q 4 (by kernel_rfl) rfl rfl rfl (.refl _) (OpQ.move rfl) ?_
   refine RA.q 5 (by kernel_rfl) rfl rfl rfl (.refl _) (OpQ.lenSv zf4 rfl) ?_
   refine RA.q 6 (by kernel_rfl) rfl rfl rfl (.refl _) (OpQ.indexSvN zf4 rfl rfl (by omega)) ?_
   refine RA.f 7 (by kernel_rfl) rfl rfl rfl (OpG.call zf111 rfl (fun w hH => (avoid_spec w S2 (hH.stays0 hS2) hv2 bt F2 a3 c3 a4 n4 c4 (hH.stays0 hB2) (hH.stays0 hF2) δ2 hf2 hco2 q hq (u.getD v.length 0) (hN2.avoid hq _)).mono fun e w' ⟨ws, h1, h2, h3⟩ => ⟨ws, h1, h2, hH.ext_nil h3⟩)) (fun _ _ => (.refl _)) ?_
   rintro ws ⟨hw1, hw2, z, hz1, hz2⟩
   refine RA.q 8 (by kernel_rfl) rfl rfl rfl (.refl _) (OpQ.assign rfl) ?_
   refine RA.tail ?_
   refine RT.done (by kernel_rfl) ?_
   refine PX.then_n (CT.ret (PX.then_r ?_))
   refine PX.ret1 rfl rfl (fun w' hH => ?_)
   rw [hc1] at hz2
   exact ⟨ws, ⟨by rw [hLL]; exact hw1, by omega, by rw [hz1]; exact fun e => ap_l hv1 hz2 _ e.symm⟩, rfl, hH.ext⟩
  ·
   have h24 := of_decide_eq_false h24
   refine CT.skip (PX.then_n (CT.seq (CT.region ?_)))
   refine Wl.q rfl rfl (OpQ.move rfl) ?_
   refine Wl.q rfl rfl (OpQ.fieldAddr zf110 rfl) ?_
   refine Wl.q rfl rfl (OpQ.loadF (b := b7) zf8 rfl (by repeat (first | exact Has.here | apply Has.there)) (by rfl)) ?_
   refine Wl.g rfl rfl (OpG.call zf106 rfl (fun w hH => (finish_spec w S (hH.stays0 hS) hv bs F a1 c1 a2 n2 c2 (hH.stays0 hB) (hH.stays0 hF) δ hf hco p hp).mono fun e w' ⟨ws, h1, h2, h3⟩ => ⟨ws, h1, h2, hH.ext_nil h3⟩)) ?_
   rintro ws ⟨hw1, hw2, hz1⟩
   refine Wl.q rfl rfl (OpQ.assign rfl) ?_
   refine Wl.nil (PX.then_n (CT.ret ?_))
   refine PX.ret1 rfl rfl (fun w' hH => ?_)
   obtain ⟨z, hz⟩ := Option.isSome_iff_exists.1 hz1
   exact ⟨ws, ⟨hw1, by omega, by rw [hz]; exact ap_n h13 h24 _⟩, rfl, hH.ext⟩

set_option maxRecDepth 100000 in
/-- semigroup/sequential.newSide -/
theorem newSide_spec (w : World) (S : Sv) (hS : Stays [] w (svm S)) (hv : S.sq.Ok 4096) : Calls Try.prog 55 #[svv S] w (fun e w' => ∃ i : Nat × Nat × Nat × List Nat × (Nat → Nat), FirstsI S.sq i.2.2.2.1 i.2.2.2.2 ∧ e = .returned (.pointer (some ⟨i.1, 0, none⟩)) ∧ Post [] [.row 130 9 (vb i.1) 1 (svc S ++ [.slice (some ⟨i.2.1, 0, none⟩) i.2.2.2.1.length S.rs.length, .slice (some ⟨i.2.2.1, 0, none⟩) S.rs.length S.rs.length]), .row 3 1 (.slice (some ⟨i.2.1, 0, none⟩) i.2.2.2.1.length S.rs.length) i.2.2.2.1.length (i.2.2.2.1.map zn), .row 4 1 (.slice (some ⟨i.2.2.1, 0, none⟩) S.rs.length S.rs.length) S.rs.length ((coL S.sq).map bo)] w w') := by
 refine enter (args := [svv S]) [] 15 Try.func55 rfl rfl rfl ?_
 refine CT.seq (CT.region ?_)
 refine Wl.g rfl rfl (OpG.box (size := 7) rfl rfl rfl) ?_
 rintro b1 _
 refine Wl.q rfl rfl (OpQ.assign rfl) ?_
 refine Wl.nil (PX.then_n (CT.seq (CT.region ?_)))
 refine Wl.q rfl rfl (OpQ.loadV (b := b1) zf29 zf28 rfl (by repeat (first | exact Has.here | apply Has.there)) (by rfl)) ?_
 refine Wl.know 6 (v' := svv S) rfl rfl ?_
 refine Wl.g rfl rfl (OpG.callX zf61 rfl .nil (fun _ => (.cons (.cons .nil))) (fun w hH hp => finishes_spec w S (hH.stays0 hS) hv)) ?_
 rintro ⟨F, x1, x2, δ⟩ hf
 dsimp only at hf
 refine Wl.q rfl rfl (OpQ.move rfl) ?_
 refine Wl.q rfl rfl (OpQ.extract rfl rfl) ?_
 refine Wl.q rfl rfl (OpQ.extract rfl rfl) ?_
 refine Wl.q rfl rfl (OpQ.assign rfl) ?_
 refine Wl.q rfl rfl (OpQ.assign rfl) ?_
 refine Wl.nil (PX.then_n (CT.seq (CT.region ?_)))
 refine Wl.q rfl rfl (OpQ.loadV (b := b1) zf29 zf28 rfl (by repeat (first | exact Has.here | apply Has.there)) (by rfl)) ?_
 refine Wl.know 10 (v' := svv S) rfl rfl ?_
 refine Wl.q rfl rfl (OpQ.move rfl) ?_
 refine Wl.q rfl rfl (OpQ.move rfl) ?_
 refine Wl.q rfl rfl (OpQ.build (cells := #[zn S.L, zn S.s, sv S.init, .slice S.na S.rs.length S.nc, .slice S.oa S.os.length S.oc, .slice S.ea S.en.length S.ec, .slice S.fa S.fi.length S.fc, .slice (some ⟨x1, 0, none⟩) S.rs.length S.rs.length, .slice (some ⟨x2, 0, none⟩) S.rs.length S.rs.length]) zf113 rfl (by kernel_rfl)) ?_
 refine Wl.g rfl rfl (OpG.box (size := 9) rfl rfl rfl) ?_
 rintro b14 _
 refine Wl.q rfl rfl (OpQ.assign rfl) ?_
 refine Wl.nil (PX.then_n (CT.ret ?_))
 refine PX.ret1 rfl rfl (fun w' hH => ?_)
 have hFl : F.length = S.rs.length := by rw [hf.len, S.n_eq]
 exact ⟨(b14, x1, x2, F, δ), hf, rfl, (HOk.post (hH.take (.cons .here (.cons .here (.cons .here .nil))))).conv (.keep (by dsimp only; rw [hFl]; rfl) (.keep (by dsimp only; rw [hFl]) (.keep rfl .nil)))⟩

end Go.Proofs.Ytamolakhpcofhaa

