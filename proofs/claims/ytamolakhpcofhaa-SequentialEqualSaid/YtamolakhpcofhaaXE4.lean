/-
  What functions of the program compute, each by its walk. Conditions: those that each theorem names.
-/
import Derived.Test.YtamolakhpcofhaaXE1
import Derived.Test.YtamolakhpcofhaaXE2
import Derived.Test.YtamolakhpcofhaaXE3
import Derived.Test.YtamolakhpcofhaaXF
set_option linter.unusedSimpArgs false
namespace Go.Proofs.Ytamolakhpcofhaa
open Go Go.Eng Go.Am Go.Sq
open Go.Tl (mayL Wd okW okB bo)

set_option maxRecDepth 100000 in
/-- semigroup/sequential.trim -/
theorem strim_spec (w : World) {M : Nat} (S : Sv) (hS : Stays [] w (svm S)) (hv : S.sq.Ok M) : Calls Try.prog 32 #[svv S] w (fun e w' => ∃ i : Sv, (IsTrim S.sq.tr S.L S.s S.init i.sq) ∧ e = .returned (svv i) ∧ Post [] (svH i 3 22 4 9 28) w w') := by
 obtain ⟨hb1, hb2, hb3, hb4⟩ := hv.bnd
 obtain ⟨hlo, hle, hlf⟩ := hv.lens
 have hns : 0 < S.rs.length → S.na.isSome = true := fun h => hS.now.n.isSome (j := 0) (by rw [List.length_map]; exact h)
 have hos : 0 < S.os.length → S.oa.isSome = true := fun h => hS.now.o.isSome (j := 0) (by rw [List.length_map]; exact h)
 have hes : 0 < S.en.length → S.ea.isSome = true := fun h => hS.now.e.isSome (j := 0) (by rw [List.length_map]; exact h)
 have hfs : 0 < S.fi.length → S.fa.isSome = true := fun h => hS.now.f.isSome (j := 0) (by rw [List.length_map]; exact h)
 have hrs : ∀ q, q < S.rs.length → 0 < (S.rs.getD q rx0).xs.length → (S.rs.getD q rx0).a.isSome = true := fun q hq h => (hS.now.r _ (getDm hq)).isSome (j := 0) (by rw [List.length_map]; exact h)
 have hus : ∀ q, q < S.os.length → 0 < (S.os.getD q rx0).xs.length → (S.os.getD q rx0).a.isSome = true := fun q hq h => (hS.now.u _ (getDm hq)).isSome (j := 0) (by rw [List.length_map]; exact h)
 have hlen : ∀ k, (bfsP (S.sq.tr.stC S.L) S.L S.s k).length ≤ S.rs.length := fun k => by rw [← S.n_eq]; exact bfsC_len hv.fit hv.st (show 0 < S.L by omega) k
 have hblt : ∀ k, ∀ q ∈ bfsP (S.sq.tr.stC S.L) S.L S.s k, q < S.sq.n := fun k => bfsC_lt hv.fit hv.st (show 0 < S.L by omega) k
 refine enter (args := [svv S]) [] 185 Try.func32 rfl rfl rfl ?_
 refine CT.seq (CT.region ?_)
 refine Wl.g rfl rfl (OpG.box (size := 7) rfl rfl rfl) ?_
 rintro b1 _
 refine Wl.g rfl rfl (OpG.alloc (zs := [.int .i64 0, .int .i64 0, .string ⟨#[]⟩, .slice none 0 0, .slice none 0 0, .slice none 0 0, .slice none 0 0]) zf19 rfl rfl) ?_
 rintro b2 _
 refine Wl.nil (PX.then_n (CT.seq (CT.region ?_)))
 refine Wl.q rfl rfl (OpQ.loadV (b := b1) zf29 zf28 rfl (by repeat (first | exact Has.here | apply Has.there)) (by rfl)) ?_
 refine Wl.know 19 (v' := svv S) rfl rfl ?_
 refine Wl.g rfl rfl (OpG.callX zf61 rfl .nil (fun _ => (.cons (.cons .nil))) (fun w hH hp => finishes_spec w S (hH.stays0 hS) hv)) ?_
 rintro ⟨F, bf, be, δ⟩ hF
 dsimp only at hF
 refine Wl.q rfl rfl (OpQ.move rfl) ?_
 refine Wl.q rfl rfl (OpQ.extract rfl rfl) ?_
 refine Wl.know 21 (v' := .slice (some ⟨bf, 0, none⟩) S.rs.length S.rs.length) rfl rfl ?_
 refine Wl.q rfl rfl (OpQ.extract rfl rfl) ?_
 refine Wl.know 22 (v' := .slice (some ⟨be, 0, none⟩) S.rs.length S.rs.length) rfl rfl ?_
 refine Wl.q rfl rfl (OpQ.assign rfl) ?_
 refine Wl.q rfl rfl (OpQ.assign rfl) ?_
 refine Wl.nil (PX.then_n (CT.seq (CT.seq (CT.region ?_))))
 refine Wl.q rfl rfl (OpQ.move rfl) ?_
 refine Wl.q rfl rfl (OpQ.fieldAddr zf46 rfl) ?_
 refine Wl.q rfl rfl (OpQ.loadF (b := b1) zf8 rfl (by repeat (first | exact Has.here | apply Has.there)) (by rfl)) ?_
 refine Wl.q rfl rfl (OpQ.index1 zf25 zf44 rfl rfl (by omega) rfl) ?_
 refine Wl.q rfl rfl (OpQ.loadRow zf45 rfl (.there .here) (getMap bo (coL S.sq) false (j := S.s) (by rw [coL_len, S.n_eq]; exact hb4))) ?_
 refine Wl.know 27 (v' := .bool (S.sq.tr.co S.L S.s)) rfl (congrArg Value.bool (coL_get (by rw [S.n_eq]; exact hb4))) ?_
 refine Wl.q rfl rfl (OpQ.not rfl) ?_
 refine Wl.nil (PX.then_n ?_)
 refine CT.cond rfl (fun h28 => ?_) (fun h28 => ?_)
 ·
  have hco : S.sq.tr.co S.L S.s = false := by simpa using h28
  refine CT.seq (CT.region ?_)
  refine Wl.q rfl rfl (OpQ.fieldAddr zf33 rfl) ?_
  refine Wl.q rfl rfl (OpQ.loadF (b := b1) zf8 rfl (by repeat (first | exact Has.here | apply Has.there)) (by rfl)) ?_
  refine Wl.g rfl rfl (OpG.callX zf62 rfl .nil (fun _ => (App.of _ _)) (fun w hH hp => empty_spec w S.L hb2)) ?_
  rintro i31 h31
  refine Wl.as (fun _ h => HOk.swap (A := svH i31 3 22 4 9 28) h) ?_
  refine Wl.g rfl rfl (OpG.storeV (b := b2) zf28 rfl rfl rfl rfl (by repeat (first | exact Upd.here | apply Upd.there))) ?_
  rintro _ _
  refine Wl.nil (PX.then_n (CT.ret (PX.then_r ?_)))
  refine PX.retC rfl rfl (by repeat (first | exact Has.here | apply Has.there)) zf29 zf28 (by rfl) (fun w' hH => ?_)
  exact ⟨i31, .inl ⟨hco, h31⟩, rfl, (HOk.behind (A := [_, _, _, _]) hH).post⟩
 ·
  have hco : S.sq.tr.co S.L S.s = true := by simpa using h28
  refine CT.skip (PX.then_n (CT.seq (CT.region ?_)))
  refine Wl.q rfl rfl (OpQ.fieldAddr zf30 rfl) ?_
  refine Wl.q rfl rfl (OpQ.loadF (b := b1) zf31 rfl (by repeat (first | exact Has.here | apply Has.there)) (by rfl)) ?_
  refine Wl.q rfl rfl (OpQ.len zf21 rfl) ?_
  refine Wl.g rfl rfl (OpG.make1 zf0 zf16 rfl rfl rfl rfl (by omega) (by omega)) ?_
  rintro b35 _
  refine Wl.q rfl rfl (OpQ.assign rfl) ?_
  refine Wl.nil (PX.then_n (CT.seq (CT.seq (CT.region ?_))))
  refine Wl.q rfl rfl (OpQ.move rfl) ?_
  refine Wl.q rfl rfl (OpQ.len zf0 rfl) ?_
  refine Wl.q rfl rfl (OpQ.move rfl) ?_
  refine Wl.nil (PX.then_n (CT.block ?_))
  refine CT.loop (ι := Nat) (fun x => x ≤ S.rs.length) (fun x => [(1, .pointer (some ⟨b1, 0, none⟩)), (2, .pointer (some ⟨b2, 0, none⟩)), (4, .slice (some ⟨be, 0, none⟩) S.rs.length S.rs.length), (5, .slice (some ⟨b35, 0, none⟩) S.rs.length S.rs.length), (37, .int .i64 ((S.rs.length : Nat) : Int)), (38, .int .i64 ((x : Nat) : Int))]) (fun x => [.row 3 1 (.slice (some ⟨b35, 0, none⟩) S.rs.length S.rs.length) S.rs.length ((List.replicate x (none : Option Nat) ++ List.replicate (S.rs.length - x) (some 0)).map zo), .row 3 1 (.slice (some ⟨bf, 0, none⟩) S.rs.length S.rs.length) S.rs.length (F.map zn), .row 4 1 (.slice (some ⟨be, 0, none⟩) S.rs.length S.rs.length) S.rs.length ((coL S.sq).map bo), .row 30 7 (vb b2) 1 [.int .i64 0, .int .i64 0, .string ⟨#[]⟩, .slice none 0 0, .slice none 0 0, .slice none 0 0, .slice none 0 0], .row 30 7 (vb b1) 1 (svc S)]) (fun x => S.rs.length - x) 0 (Nat.zero_le _) ⟨rfl, rfl, rfl, rfl, rfl, rfl, trivial⟩ (.keep (row_eq (by simp [zo, oi])) (HSub.refl _)) (fun x hx K0 hK0 => ?_)
  refine CT.seq (CT.region ?_)
  refine Wl.q rfl rfl (OpQ.lss rfl rfl) ?_
  refine Wl.nil (PX.then_n (CT.seq ?_))
  refine CT.cond rfl (fun h39 => ?_) (fun h39 => ?_)
  ·
   have h39 := of_decide_eq_true h39
   refine CT.skip (PX.then_n (CT.seq (CT.block (CT.seq (CT.region ?_)))))
   refine Wl.q rfl rfl (OpQ.move rfl) ?_
   refine Wl.q rfl rfl (OpQ.assign rfl) ?_
   refine Wl.nil (PX.then_n (CT.region ?_))
   refine Wl.q rfl rfl (OpQ.move rfl) ?_
   refine Wl.q rfl rfl (OpQ.move rfl) ?_
   refine Wl.q rfl rfl (OpQ.index1 zf0 zf1 rfl rfl (by omega) rfl) ?_
   refine Wl.g rfl rfl (OpG.storeRow (a := some ⟨b35, 0, none⟩) zf1 rfl rfl rfl (by repeat (first | exact Upd.here | apply Upd.there)) (by simp; omega)) ?_
   rintro _ _
   refine Wl.nil (PX.block_n (PX.then_n (CT.region ?_)))
   refine Wl.q rfl rfl (OpQ.add rfl rfl (by omega)) ?_
   refine Wl.q rfl rfl (OpQ.move rfl) ?_
   refine Wl.nil ?_
   exact PX.loop hK0 (x + 1) (by omega) (by first | omega | (dsimp only; omega)) ⟨rfl, rfl, rfl, rfl, rfl, rfl, trivial⟩ (.keep (row_eq (by rw [← rep_put (show x < S.rs.length by omega), List.map_set]; rfl)) (HSub.refl _))
  ·
   have h39 := of_decide_eq_false h39
   obtain rfl : x = S.rs.length := by omega
   refine CT.mem (.keep (row_eq (xs := (List.replicate S.rs.length (none : Option Nat)).map zo) (by simp)) (HSub.refl _)) ?_
   refine CT.exit (PX.then_x (PX.then_x (PX.block_x (PX.then_n (CT.seq (CT.region ?_))))))
   refine Wl.q rfl rfl (OpQ.move rfl) ?_
   refine Wl.q rfl rfl (OpQ.fieldAddr zf46 rfl) ?_
   refine Wl.q rfl rfl (OpQ.loadF (b := b1) zf8 rfl (by repeat (first | exact Has.here | apply Has.there)) (by rfl)) ?_
   refine Wl.q rfl rfl (OpQ.index1 zf0 zf1 rfl rfl (by omega) rfl) ?_
   refine Wl.g rfl rfl (OpG.storeRow (a := some ⟨b35, 0, none⟩) zf1 rfl rfl rfl (by repeat (first | exact Upd.here | apply Upd.there)) (by simp; omega)) ?_
   rintro _ _
   refine Wl.nil (PX.then_n (CT.seq (CT.region ?_)))
   refine Wl.q rfl rfl (OpQ.fieldAddr zf46 rfl) ?_
   refine Wl.q rfl rfl (OpQ.loadF (b := b1) zf8 rfl (by repeat (first | exact Has.here | apply Has.there)) (by rfl)) ?_
   refine Wl.g rfl rfl (OpG.lit1 zf0 zf16 rfl rfl rfl) ?_
   rintro b51 _
   refine Wl.q rfl rfl (OpQ.assign rfl) ?_
   refine Wl.nil (PX.then_n (CT.seq (CT.seq (CT.region ?_))))
   refine Wl.q rfl rfl (OpQ.assign rfl) ?_
   refine Wl.nil (PX.then_n (CT.block ?_))
   refine CT.loop (ι := Nat × Option Addr × Nat) (fun (i, a', c') => GoingP (st := S.sq.tr.stC S.L) (L := S.L) (s := S.s) i) (fun (i, a', c') => [(1, .pointer (some ⟨b1, 0, none⟩)), (2, .pointer (some ⟨b2, 0, none⟩)), (4, .slice (some ⟨be, 0, none⟩) S.rs.length S.rs.length), (5, .slice (some ⟨b35, 0, none⟩) S.rs.length S.rs.length), (7, .slice a' (bfsP (S.sq.tr.stC S.L) S.L S.s (i * S.L)).length c'), (8, .int .i64 ((i : Nat) : Int))]) (fun (i, a', c') => [.row 3 1 (.slice a' (bfsP (S.sq.tr.stC S.L) S.L S.s (i * S.L)).length c') (bfsP (S.sq.tr.stC S.L) S.L S.s (i * S.L)).length ((bfsP (S.sq.tr.stC S.L) S.L S.s (i * S.L)).map zn), .row 3 1 (.slice (some ⟨b35, 0, none⟩) S.rs.length S.rs.length) S.rs.length ((nmL S.rs.length (bfsP (S.sq.tr.stC S.L) S.L S.s (i * S.L))).map zo), .row 3 1 (.slice (some ⟨bf, 0, none⟩) S.rs.length S.rs.length) S.rs.length (F.map zn), .row 4 1 (.slice (some ⟨be, 0, none⟩) S.rs.length S.rs.length) S.rs.length ((coL S.sq).map bo), .row 30 7 (vb b2) 1 [.int .i64 0, .int .i64 0, .string ⟨#[]⟩, .slice none 0 0, .slice none 0 0, .slice none 0 0, .slice none 0 0], .row 30 7 (vb b1) 1 (svc S)]) (fun (i, a', c') => S.rs.length - i) (0, some ⟨b51, 0, none⟩, 1) GoingP.zero ⟨rfl, rfl, rfl, rfl, (lkV rfl (by rw [Nat.zero_mul]; rfl)), rfl, trivial⟩ (by dsimp only; rw [Nat.zero_mul]; exact .keep rfl (.keep (row_eq (nmL_one hb4).symm) (HSub.refl _))) (fun ⟨i, a', c'⟩ hg K1 hK1 => ?_)
   dsimp only
   refine CT.fact (p := a'.isSome = true) (fun w hH => (hH.rd .here).isSome (j := 0) (by rw [List.length_map]; exact bfsP_pos _)) (fun hia => ?_)
   have hln := hlen (i * S.L)
   refine CT.seq (CT.seq (CT.region ?_))
   refine Wl.q rfl rfl (OpQ.move rfl) ?_
   refine Wl.q rfl rfl (OpQ.move rfl) ?_
   refine Wl.q rfl rfl (OpQ.len zf0 rfl) ?_
   refine Wl.q rfl rfl (OpQ.lss rfl rfl) ?_
   refine Wl.nil (PX.then_n ?_)
   refine CT.cond rfl (fun h55 => ?_) (fun h55 => ?_)
   ·
    have h55 := of_decide_eq_true h55
    have hlt : i < (bfsP (S.sq.tr.stC S.L) S.L S.s (i * S.L)).length := by omega
    have hqn : ((bfsP (S.sq.tr.stC S.L) S.L S.s (i * S.L)).getD i 0) < S.sq.n := hblt _ _ (getDm hlt)
    have hqn2 : ((bfsP (S.sq.tr.stC S.L) S.L S.s (i * S.L)).getD i 0) < S.rs.length := by rw [← S.n_eq]; exact hqn
    have hrl := hv.rlen (q := ((bfsP (S.sq.tr.stC S.L) S.L S.s (i * S.L)).getD i 0)) (by omega)
    have hol := hv.olen (q := ((bfsP (S.sq.tr.stC S.L) S.L S.s (i * S.L)).getD i 0)) (by omega)
    have hls : (bfsP (S.sq.tr.stC S.L) S.L S.s (i * S.L)).getD i S.s = ((bfsP (S.sq.tr.stC S.L) S.L S.s (i * S.L)).getD i 0) := by rw [List.getD_eq_getElem?_getD, List.getElem?_eq_getElem hlt, List.getD_eq_getElem?_getD, List.getElem?_eq_getElem hlt]; rfl
    refine CT.skip (PX.then_n (CT.seq (CT.block (CT.seq ?_))))
    refine CT.draw 10 zf6 ?_
    refine RA.q 0 (by kernel_rfl) rfl rfl rfl (.refl _) (OpQ.fieldAddr zf30 rfl) ?_
    refine RA.q 1 (by kernel_rfl) rfl rfl rfl (.refl _) (OpQ.loadF (b := b1) zf31 rfl (by repeat (first | exact Has.here | apply Has.there)) (by rfl)) ?_
    refine RA.q 2 (by kernel_rfl) rfl rfl rfl (.refl _) (OpQ.move rfl) ?_
    refine RA.q 3 (by kernel_rfl) rfl rfl rfl (.refl _) (OpQ.move rfl) ?_
    refine RA.q 4 (by kernel_rfl) rfl rfl rfl (.refl _) (OpQ.index1 zf0 zf1 rfl rfl (by omega) hia) ?_
    refine RA.q 5 (by kernel_rfl) rfl rfl rfl (.refl _) (OpQ.loadRow zf8 rfl .here (getMap zn (bfsP (S.sq.tr.stC S.L) S.L S.s (i * S.L)) 0 (j := i) hlt)) ?_
    refine RA.q 6 (by kernel_rfl) rfl rfl rfl (.refl _) (OpQ.index1 zf21 zf32 rfl rfl (by omega) (hns (by omega))) ?_
    refine RA.q 7 (by kernel_rfl) rfl rfl rfl (.refl _) (OpQ.loadG zf10 rfl (fun w hH => (hH.use hS).n) (getMap rxv S.rs rx0 (j := ((bfsP (S.sq.tr.stC S.L) S.L S.s (i * S.L)).getD i 0)) (by omega))) ?_
    refine RA.q 8 (by kernel_rfl) rfl rfl rfl (.refl _) (OpQ.len zf0 rfl) ?_
    refine RA.know 66 (v' := .int .i64 ((S.L : Nat) : Int)) rfl (congrArg (Value.int .i64) (by rw [hrl])) ?_
    refine RA.q 9 (by kernel_rfl) rfl rfl rfl (.refl _) (OpQ.move rfl) ?_
    refine RA.tail ?_
    refine RT.done (by kernel_rfl) ?_
    refine PX.then_n (CT.block ?_)
    refine CT.loop (ι := Nat × Option Addr × Nat) (fun (x, a', c') => x ≤ S.L) (fun (x, a', c') => [(1, .pointer (some ⟨b1, 0, none⟩)), (2, .pointer (some ⟨b2, 0, none⟩)), (4, .slice (some ⟨be, 0, none⟩) S.rs.length S.rs.length), (5, .slice (some ⟨b35, 0, none⟩) S.rs.length S.rs.length), (7, .slice a' (bfsP (S.sq.tr.stC S.L) S.L S.s (i * S.L + x)).length c'), (8, .int .i64 ((i : Nat) : Int)), (65, rxv (S.rs.getD ((bfsP (S.sq.tr.stC S.L) S.L S.s (i * S.L)).getD i 0) rx0)), (66, .int .i64 ((S.L : Nat) : Int)), (67, .int .i64 ((x : Nat) : Int))]) (fun (x, a', c') => [.row 3 1 (.slice a' (bfsP (S.sq.tr.stC S.L) S.L S.s (i * S.L + x)).length c') (bfsP (S.sq.tr.stC S.L) S.L S.s (i * S.L + x)).length ((bfsP (S.sq.tr.stC S.L) S.L S.s (i * S.L + x)).map zn), .row 3 1 (.slice (some ⟨b35, 0, none⟩) S.rs.length S.rs.length) S.rs.length ((nmL S.rs.length (bfsP (S.sq.tr.stC S.L) S.L S.s (i * S.L + x))).map zo), .row 3 1 (.slice (some ⟨bf, 0, none⟩) S.rs.length S.rs.length) S.rs.length (F.map zn), .row 4 1 (.slice (some ⟨be, 0, none⟩) S.rs.length S.rs.length) S.rs.length ((coL S.sq).map bo), .row 30 7 (vb b2) 1 [.int .i64 0, .int .i64 0, .string ⟨#[]⟩, .slice none 0 0, .slice none 0 0, .slice none 0 0, .slice none 0 0], .row 30 7 (vb b1) 1 (svc S)]) (fun (x, a', c') => S.L - x) (0, a', c') (Nat.zero_le _) ⟨rfl, rfl, rfl, rfl, rfl, rfl, rfl, rfl, rfl, trivial⟩ (HSub.refl _) (fun ⟨x, a', c'⟩ hx K2 hK2 => ?_)
    dsimp only
    refine CT.fact (p := a'.isSome = true) (fun w hH => (hH.rd .here).isSome (j := 0) (by rw [List.length_map]; exact bfsP_pos _)) (fun hia => ?_)
    refine CT.seq (CT.region ?_)
    refine Wl.q rfl rfl (OpQ.lss rfl rfl) ?_
    refine Wl.nil (PX.then_n (CT.seq ?_))
    refine CT.cond rfl (fun h68 => ?_) (fun h68 => ?_)
    ·
     have h68 := of_decide_eq_true h68
     have hxl : x < S.L := by omega
     have hs3 : (bfsP (S.sq.tr.stC S.L) S.L S.s (i * S.L + (x + 1))) = addO (bfsP (S.sq.tr.stC S.L) S.L S.s (i * S.L + x)) (S.sq.tr.stC S.L ((bfsP (S.sq.tr.stC S.L) S.L S.s (i * S.L)).getD i 0) x) := by rw [← hls]; exact bfsP_addx hxl hlt
     have hlx := hlen (i * S.L + x)
     refine CT.skip (PX.then_n (CT.seq (CT.block (CT.seq (CT.region ?_)))))
     refine Wl.q rfl rfl (OpQ.index1 zf0 zf1 rfl rfl (by omega) (hrs ((bfsP (S.sq.tr.stC S.L) S.L S.s (i * S.L)).getD i 0) (by omega) (by omega))) ?_
     refine Wl.q rfl rfl (OpQ.loadG zf8 rfl (fun w hH => (hH.use hS).r _ (getDm (show ((bfsP (S.sq.tr.stC S.L) S.L S.s (i * S.L)).getD i 0) < S.rs.length by omega))) (getMap zo (S.rs.getD ((bfsP (S.sq.tr.stC S.L) S.L S.s (i * S.L)).getD i 0) rx0).xs none (j := x) (by omega))) ?_
     refine Wl.know 70 (v' := zo (S.sq.to ((bfsP (S.sq.tr.stC S.L) S.L S.s (i * S.L)).getD i 0) x)) rfl (congrArg zo (S.to_eq ((bfsP (S.sq.tr.stC S.L) S.L S.s (i * S.L)).getD i 0) x).symm) ?_
     refine Wl.q rfl rfl (OpQ.assign rfl) ?_
     refine Wl.nil (PX.then_n (CT.seq (CT.region ?_)))
     refine Wl.q rfl rfl (OpQ.move rfl) ?_
     refine Wl.q rfl rfl (OpQ.neq rfl rfl) ?_
     refine Wl.q rfl rfl (OpQ.move rfl) ?_
     refine Wl.split 73 rfl (fun hg73 => ?_) (fun hg73 => ?_)
     ·
      obtain ⟨r, hto⟩ := oi_some (of_nd_t hg73)
      have hr := hv.lt ((bfsP (S.sq.tr.stC S.L) S.L S.s (i * S.L)).getD i 0) x r hqn (show x < S.sq.L by show x < S.L; omega) hto
      have hrn : r < S.rs.length := by rw [← S.n_eq]; exact hr
      refine Wl.know 10 (v' := zn r) rfl (by rw [hto]; rfl) ?_
      refine Wl.q rfl rfl (OpQ.move rfl) ?_
      refine Wl.q rfl rfl (OpQ.move rfl) ?_
      refine Wl.q rfl rfl (OpQ.index1 zf25 zf44 rfl rfl (by omega) rfl) ?_
      refine Wl.q rfl rfl (OpQ.loadRow zf45 rfl (.there (.there (.there .here))) (getMap bo (coL S.sq) false (j := r) (by rw [coL_len]; exact hr))) ?_
      refine Wl.know 77 (v' := .bool (S.sq.tr.co S.L r)) rfl (congrArg Value.bool (coL_get hr)) ?_
      refine Wl.q rfl rfl (OpQ.pickT rfl rfl) ?_
      refine Wl.q rfl rfl (OpQ.move rfl) ?_
      refine Wl.split 79 rfl (fun hg79 => ?_) (fun hg79 => ?_)
      ·
       have hst : S.sq.tr.stC S.L ((bfsP (S.sq.tr.stC S.L) S.L S.s (i * S.L)).getD i 0) x = some r := Tr.stC_of hto hg79
       refine Wl.q rfl rfl (OpQ.move rfl) ?_
       refine Wl.q rfl rfl (OpQ.move rfl) ?_
       refine Wl.q rfl rfl (OpQ.index1 zf0 zf1 rfl rfl (by omega) rfl) ?_
       refine Wl.q rfl rfl (OpQ.loadRow zf8 rfl (.there .here) (getMap zo (nmL S.rs.length (bfsP (S.sq.tr.stC S.L) S.L S.s (i * S.L + x))) none (j := r) (by rw [nmL_len]; exact hrn))) ?_
       refine Wl.q rfl rfl (OpQ.eql rfl rfl) ?_
       refine Wl.q rfl rfl (OpQ.pickT rfl rfl) ?_
       refine Wl.nil (PX.then_n ?_)
       refine CT.cond rfl (fun h85 => ?_) (fun h85 => ?_)
       ·
        have h85 := of_decide_eq_true h85
        have hnl := nmL_none hrn h85
        have hs2 : (bfsP (S.sq.tr.stC S.L) S.L S.s (i * S.L + (x + 1))) = (bfsP (S.sq.tr.stC S.L) S.L S.s (i * S.L + x)) ++ [r] := by rw [hs3, hst, addO_out hnl]
        refine CT.seq (CT.region ?_)
        refine Wl.q rfl rfl (OpQ.move rfl) ?_
        refine Wl.q rfl rfl (OpQ.move rfl) ?_
        refine Wl.q rfl rfl (OpQ.move rfl) ?_
        refine Wl.q rfl rfl (OpQ.len zf0 rfl) ?_
        refine Wl.q rfl rfl (OpQ.index1 zf0 zf1 rfl rfl (by omega) rfl) ?_
        refine Wl.g rfl rfl (OpG.storeRow (a := some ⟨b35, 0, none⟩) zf1 rfl rfl rfl (by repeat (first | exact Upd.here | apply Upd.there)) (by rw [List.length_map, nmL_len]; exact hrn)) ?_
        rintro _ _
        refine Wl.nil (PX.then_n (CT.region ?_))
        refine Wl.q rfl rfl (OpQ.move rfl) ?_
        refine Wl.q rfl rfl (OpQ.move rfl) ?_
        refine Wl.g rfl rfl (OpG.lit1 zf0 zf16 rfl rfl rfl) ?_
        rintro b93 _
        refine Wl.g rfl rfl (OpG.append zf0 zf16 (by rfl) (by decide) rfl rfl (p := 1) rfl (fun w hH => hH.rd .here) ⟨rfl, (by simp [Value.oneCell']), (by omega), (by omega)⟩ (nm := ((bfsP (S.sq.tr.stC S.L) S.L S.s (i * S.L + x)) ++ [r]).length) (by simp) (all := ((bfsP (S.sq.tr.stC S.L) S.L S.s (i * S.L + x)) ++ [r]).map zn) (by simp)) ?_
        rintro ⟨a94, c94⟩ h94
        refine Wl.q rfl rfl (OpQ.assign rfl) ?_
        refine Wl.nil (PX.block_n (PX.then_n (CT.region ?_)))
        refine Wl.q rfl rfl (OpQ.add rfl rfl (by omega)) ?_
        refine Wl.q rfl rfl (OpQ.move rfl) ?_
        refine Wl.nil ?_
        refine PX.as (fun _ h => h.take (.cons (.there .here) (.cons (.there .here) (.cons (.there .here) (.cons (.there .here) (.cons (.there .here) (.cons (.there .here) .nil))))))) ?_
        exact PX.loop hK2 (x + 1, a94, c94) (show x + 1 ≤ S.L by omega) (show S.L - (x + 1) < S.L - x by omega) ⟨rfl, rfl, rfl, rfl, (lkV rfl (by rw [hs2, List.length_append])), rfl, rfl, rfl, rfl, trivial⟩ (by dsimp only; rw [hs2, ← nmL_put hnl, List.length_append]; exact HSub.refl _)
       ·
        have h85 := of_decide_eq_false h85
        have hkeep : addO (bfsP (S.sq.tr.stC S.L) S.L S.s (i * S.L + x)) (S.sq.tr.stC S.L ((bfsP (S.sq.tr.stC S.L) S.L S.s (i * S.L)).getD i 0) x) = (bfsP (S.sq.tr.stC S.L) S.L S.s (i * S.L + x)) := by rw [hst, addO_in (nmL_some hrn h85)]
        refine CT.skip (PX.block_n (PX.then_n (CT.region ?_)))
        refine Wl.q rfl rfl (OpQ.add rfl rfl (by omega)) ?_
        refine Wl.q rfl rfl (OpQ.move rfl) ?_
        refine Wl.nil ?_
        exact PX.loop hK2 (x + 1, a', c') (show x + 1 ≤ S.L by omega) (show S.L - (x + 1) < S.L - x by omega) ⟨rfl, rfl, rfl, rfl, (lkV rfl (by rw [hs3, hkeep])), rfl, rfl, rfl, rfl, trivial⟩ (by dsimp only; rw [hs3, hkeep]; exact HSub.refl _)
      ·
       have hkeep : addO (bfsP (S.sq.tr.stC S.L) S.L S.s (i * S.L + x)) (S.sq.tr.stC S.L ((bfsP (S.sq.tr.stC S.L) S.L S.s (i * S.L)).getD i 0) x) = (bfsP (S.sq.tr.stC S.L) S.L S.s (i * S.L + x)) := by rw [Tr.stC, show S.sq.tr.to ((bfsP (S.sq.tr.stC S.L) S.L S.s (i * S.L)).getD i 0) x = some r from hto, Option.bind_some, if_neg (by rw [hg79]; decide)]; rfl
       refine Wl.skip rfl rfl ?_
       refine Wl.skip rfl rfl ?_
       refine Wl.skip rfl rfl ?_
       refine Wl.skip rfl rfl ?_
       refine Wl.skip rfl rfl ?_
       refine Wl.q rfl rfl (OpQ.pickF rfl rfl) ?_
       refine Wl.nil (PX.then_n ?_)
       refine CT.condF rfl ?_
       refine CT.skip (PX.block_n (PX.then_n (CT.region ?_)))
       refine Wl.q rfl rfl (OpQ.add rfl rfl (by omega)) ?_
       refine Wl.q rfl rfl (OpQ.move rfl) ?_
       refine Wl.nil ?_
       exact PX.loop hK2 (x + 1, a', c') (show x + 1 ≤ S.L by omega) (show S.L - (x + 1) < S.L - x by omega) ⟨rfl, rfl, rfl, rfl, (lkV rfl (by rw [hs3, hkeep])), rfl, rfl, rfl, rfl, trivial⟩ (by dsimp only; rw [hs3, hkeep]; exact HSub.refl _)
     ·
      have hkeep : addO (bfsP (S.sq.tr.stC S.L) S.L S.s (i * S.L + x)) (S.sq.tr.stC S.L ((bfsP (S.sq.tr.stC S.L) S.L S.s (i * S.L)).getD i 0) x) = (bfsP (S.sq.tr.stC S.L) S.L S.s (i * S.L + x)) := by rw [Tr.stC, show S.sq.tr.to ((bfsP (S.sq.tr.stC S.L) S.L S.s (i * S.L)).getD i 0) x = none from oi_neg.1 (of_nd_f hg73)]; rfl
      refine Wl.skip rfl rfl ?_
      refine Wl.skip rfl rfl ?_
      refine Wl.skip rfl rfl ?_
      refine Wl.skip rfl rfl ?_
      refine Wl.q rfl rfl (OpQ.pickF rfl rfl) ?_
      refine Wl.q rfl rfl (OpQ.move rfl) ?_
      refine Wl.skip rfl rfl ?_
      refine Wl.skip rfl rfl ?_
      refine Wl.skip rfl rfl ?_
      refine Wl.skip rfl rfl ?_
      refine Wl.skip rfl rfl ?_
      refine Wl.q rfl rfl (OpQ.pickF rfl rfl) ?_
      refine Wl.nil (PX.then_n ?_)
      refine CT.condF rfl ?_
      refine CT.skip (PX.block_n (PX.then_n (CT.region ?_)))
      refine Wl.q rfl rfl (OpQ.add rfl rfl (by omega)) ?_
      refine Wl.q rfl rfl (OpQ.move rfl) ?_
      refine Wl.nil ?_
      exact PX.loop hK2 (x + 1, a', c') (show x + 1 ≤ S.L by omega) (show S.L - (x + 1) < S.L - x by omega) ⟨rfl, rfl, rfl, rfl, (lkV rfl (by rw [hs3, hkeep])), rfl, rfl, rfl, rfl, trivial⟩ (by dsimp only; rw [hs3, hkeep]; exact HSub.refl _)
    ·
     have h68 := of_decide_eq_false h68
     obtain rfl : x = S.L := by omega
     refine CT.exit (PX.then_x (PX.then_x (PX.block_x (PX.block_n (PX.then_n (CT.region ?_))))))
     refine Wl.q rfl rfl (OpQ.move rfl) ?_
     refine Wl.q rfl rfl (OpQ.add rfl rfl (by omega)) ?_
     refine Wl.q rfl rfl (OpQ.assign rfl) ?_
     refine Wl.nil ?_
     exact PX.loop hK1 (i + 1, a', c') (hg.next hlt) (show S.rs.length - (i + 1) < S.rs.length - i by omega) ⟨rfl, rfl, rfl, rfl, (lkV rfl (by rw [Nat.add_mul, Nat.one_mul])), rfl, trivial⟩ (by dsimp only; rw [Nat.add_mul, Nat.one_mul]; exact HSub.refl _)
   ·
    have h55 := of_decide_eq_false h55
    have hK : DoneP (st := S.sq.tr.stC S.L) (L := S.L) (s := S.s) (i * S.L) := DoneP.of (by omega) hg (by omega)
    have hlco : ∀ q ∈ (bfsP (S.sq.tr.stC S.L) S.L S.s (i * S.L)), q < S.sq.n := hblt _
    have hlcl : ∀ a x b, a ∈ (bfsP (S.sq.tr.stC S.L) S.L S.s (i * S.L)) → x < S.L → S.sq.tr.stC S.L a x = some b → b ∈ (bfsP (S.sq.tr.stC S.L) S.L S.s (i * S.L)) := fun a x b ha hx hb => hK.closed ha hx hb
    have hLL : ∃ l, l = (bfsP (S.sq.tr.stC S.L) S.L S.s (i * S.L)) := ⟨_, rfl⟩
    obtain ⟨l, hl⟩ := hLL
    rw [← hl] at hlco hlcl hln
    refine CT.know 7 (v' := .slice a' l.length c') rfl (by rw [hl]) ?_
    refine CT.mem (H' := .row 3 1 (.slice a' l.length c') l.length (l.map zn) :: .row 3 1 (.slice (some ⟨b35, 0, none⟩) S.rs.length S.rs.length) S.rs.length ((nmL S.rs.length l).map zo) :: [.row 3 1 (.slice (some ⟨bf, 0, none⟩) S.rs.length S.rs.length) S.rs.length (F.map zn), .row 4 1 (.slice (some ⟨be, 0, none⟩) S.rs.length S.rs.length) S.rs.length ((coL S.sq).map bo), .row 30 7 (vb b2) 1 [.int .i64 0, .int .i64 0, .string ⟨#[]⟩, .slice none 0 0, .slice none 0 0, .slice none 0 0, .slice none 0 0], .row 30 7 (vb b1) 1 (svc S)]) (by rw [hl]; exact HSub.refl _) ?_
    refine CT.fact (p := 0 < l.length → a'.isSome = true) (fun w hH h => (hH.rd .here).isSome (j := 0) (by rw [List.length_map]; exact h)) (fun hla => ?_)
    generalize a' = la at *
    generalize c' = lc at *
    have hN : ∀ q x, (trN S.sq l q x).length = S.L := fun q x => trN_len _ _ _ _
    have hO : ∀ q x, (trO S.sq q x).length = S.L := fun q x => trO_len _ _ _
    refine CT.exit (PX.then_x (PX.then_x (PX.block_x (PX.then_n (CT.seq (CT.region ?_))))))
    refine Wl.q rfl rfl (OpQ.fieldAddr zf33 rfl) ?_
    refine Wl.q rfl rfl (OpQ.loadF (b := b1) zf8 rfl (by repeat (first | exact Has.here | apply Has.there)) (by rfl)) ?_
    refine Wl.q rfl rfl (OpQ.fieldAddr zf47 rfl) ?_
    refine Wl.q rfl rfl (OpQ.loadF (b := b1) zf39 rfl (by repeat (first | exact Has.here | apply Has.there)) (by rfl)) ?_
    refine Wl.q rfl rfl (OpQ.build (cells := #[zn S.L, .int .i64 0, sv S.init, .slice none 0 0, .slice none 0 0, .slice none 0 0, .slice none 0 0]) zf27 rfl rfl) ?_
    refine Wl.g rfl rfl (OpG.alloc (zs := [.int .i64 0, .int .i64 0, .string ⟨#[]⟩, .slice none 0 0, .slice none 0 0, .slice none 0 0, .slice none 0 0]) zf19 rfl rfl) ?_
    rintro b11 _
    refine Wl.g rfl rfl (OpG.storeV (b := b11) zf28 rfl rfl rfl rfl (by repeat (first | exact Upd.here | apply Upd.there))) ?_
    rintro _ _
    refine Wl.nil (PX.then_n (CT.seq (CT.seq (CT.region ?_))))
    refine Wl.q rfl rfl (OpQ.move rfl) ?_
    refine Wl.q rfl rfl (OpQ.len zf0 rfl) ?_
    refine Wl.q rfl rfl (OpQ.move rfl) ?_
    refine Wl.nil (PX.then_n (CT.block ?_))
    refine CT.nilrow 9 1 ?_
    refine CT.nilrow 4 1 ?_
    refine CT.nilrow 28 1 ?_
    refine CT.nilrow 22 1 ?_
    refine CT.as (fun _ h => h.take (.cons (.there (.there (.there (.there .here)))) (.cons (.there (.there (.there (.there .here)))) (.cons (.there (.there (.there (.there .here)))) (.cons (.there (.there (.there (.there (.there .here))))) (.cons (.there (.there (.there (.there (.there .here))))) (.cons (.there (.there (.there (.there (.there .here))))) (.cons .here (.cons .here (.cons .here (.cons .here .nil))))))))))) ?_
    refine CT.loop (ι := Nat × Option Addr × Nat × List (Rx (Option Nat)) × Option Addr × Nat × List (Rx Wd) × Option Addr × Nat × List Bool × Option Addr × Nat × List Wd) (fun (j, na', nc', rs, oa', oc', os, ea', ec', es, fa', fc', fs) => TrI S.sq l j rs os es fs) (fun (j, na', nc', rs, oa', oc', os, ea', ec', es, fa', fc', fs) => [(1, .pointer (some ⟨b1, 0, none⟩)), (2, .pointer (some ⟨b2, 0, none⟩)), (4, .slice (some ⟨be, 0, none⟩) S.rs.length S.rs.length), (5, .slice (some ⟨b35, 0, none⟩) S.rs.length S.rs.length), (11, .pointer (some ⟨b11, 0, none⟩)), (101, .slice la l.length lc), (102, .int .i64 ((l.length : Nat) : Int)), (103, .int .i64 ((j : Nat) : Int))]) (fun (j, na', nc', rs, oa', oc', os, ea', ec', es, fa', fc', fs) => .row 30 7 (vb b11) 1 [zn S.L, .int .i64 0, sv S.init, .slice na' j nc', .slice oa' j oc', .slice ea' j ec', .slice fa' j fc'] :: .row 3 1 (.slice la l.length lc) l.length (l.map zn) :: .row 3 1 (.slice (some ⟨b35, 0, none⟩) S.rs.length S.rs.length) S.rs.length ((nmL S.rs.length l).map zo) :: .row 4 1 (.slice (some ⟨be, 0, none⟩) S.rs.length S.rs.length) S.rs.length ((coL S.sq).map bo) :: .row 30 7 (vb b2) 1 [.int .i64 0, .int .i64 0, .string ⟨#[]⟩, .slice none 0 0, .slice none 0 0, .slice none 0 0, .slice none 0 0] :: .row 30 7 (vb b1) 1 (svc S) :: .row 22 1 (.slice na' j nc') j (rs.map rxv) :: .row 28 1 (.slice oa' j oc') j (os.map rxv) :: .row 4 1 (.slice ea' j ec') j (es.map bo) :: .row 9 1 (.slice fa' j fc') j (fs.map sv) :: (fam 3 zo rs ++ fam 9 sv os)) (fun (j, na', nc', rs, oa', oc', os, ea', ec', es, fa', fc', fs) => l.length - j) (0, none, 0, [], none, 0, [], none, 0, [], none, 0, []) (TrI.start _ _) ⟨rfl, rfl, rfl, rfl, rfl, rfl, rfl, rfl, trivial⟩ (HSub.refl _) (fun ⟨j, na', nc', rs, oa', oc', os, ea', ec', es, fa', fc', fs⟩ ht K3 hK3 => ?_)
    dsimp only
    have hjl := ht.jl
    have hrsl := ht.rl
    have hosl := ht.ol
    have hesl := ht.el
    have hfsl := ht.fl
    refine CT.seq (CT.region ?_)
    refine Wl.q rfl rfl (OpQ.lss rfl rfl) ?_
    refine Wl.nil (PX.then_n (CT.seq ?_))
    refine CT.cond rfl (fun h104 => ?_) (fun h104 => ?_)
    ·
     have h104 := of_decide_eq_true h104
     have hj : j < l.length := by omega
     have hqn : (l.getD j 0) < S.sq.n := hlco _ (getDm hj)
     have hqn2 : (l.getD j 0) < S.rs.length := by rw [← S.n_eq]; exact hqn
     have hrl := hv.rlen (q := (l.getD j 0)) (by omega)
     have hol := hv.olen (q := (l.getD j 0)) (by omega)
     refine CT.skip (PX.then_n (CT.seq (CT.block (CT.seq (CT.region ?_)))))
     refine Wl.q rfl rfl (OpQ.index1 zf0 zf1 rfl rfl (by omega) (hla (by omega))) ?_
     refine Wl.q rfl rfl (OpQ.loadRow zf8 rfl (.there .here) (getMap zn l 0 (j := j) hj)) ?_
     refine Wl.q rfl rfl (OpQ.assign rfl) ?_
     refine Wl.nil (PX.then_n (CT.seq (CT.region ?_)))
     refine Wl.q rfl rfl (OpQ.fieldAddr zf33 rfl) ?_
     refine Wl.q rfl rfl (OpQ.loadF (b := b1) zf8 rfl (by repeat (first | exact Has.here | apply Has.there)) (by rfl)) ?_
     refine Wl.g rfl rfl (OpG.callX zf20 rfl .nil (fun _ => (.cons (.cons .nil))) (fun w hH hp => row_spec w S.L hb2)) ?_
     rintro ⟨b14, b15⟩ _
     refine Wl.q rfl rfl (OpQ.move rfl) ?_
     refine Wl.q rfl rfl (OpQ.extract rfl rfl) ?_
     refine Wl.know 111 (v' := .slice (some ⟨b14, 0, none⟩) S.L S.L) rfl rfl ?_
     refine Wl.q rfl rfl (OpQ.extract rfl rfl) ?_
     refine Wl.know 112 (v' := .slice (some ⟨b15, 0, none⟩) S.L S.L) rfl rfl ?_
     refine Wl.q rfl rfl (OpQ.assign rfl) ?_
     refine Wl.q rfl rfl (OpQ.assign rfl) ?_
     refine Wl.nil (PX.then_n (CT.seq (CT.seq (CT.region ?_))))
     refine Wl.q rfl rfl (OpQ.fieldAddr zf30 rfl) ?_
     refine Wl.q rfl rfl (OpQ.loadF (b := b1) zf31 rfl (by repeat (first | exact Has.here | apply Has.there)) (by rfl)) ?_
     refine Wl.q rfl rfl (OpQ.move rfl) ?_
     refine Wl.q rfl rfl (OpQ.index1 zf21 zf32 rfl rfl (by omega) (hns (by omega))) ?_
     refine Wl.q rfl rfl (OpQ.loadG zf10 rfl (fun w hH => (hH.use hS).n) (getMap rxv S.rs rx0 (j := (l.getD j 0)) (by omega))) ?_
     refine Wl.q rfl rfl (OpQ.len zf0 rfl) ?_
     refine Wl.know 118 (v' := .int .i64 ((S.L : Nat) : Int)) rfl (congrArg (Value.int .i64) (by rw [hrl])) ?_
     refine Wl.q rfl rfl (OpQ.move rfl) ?_
     refine Wl.nil (PX.then_n (CT.block ?_))
     refine CT.loop (ι := Nat) (fun x => x ≤ S.L) (fun x => [(1, .pointer (some ⟨b1, 0, none⟩)), (2, .pointer (some ⟨b2, 0, none⟩)), (4, .slice (some ⟨be, 0, none⟩) S.rs.length S.rs.length), (5, .slice (some ⟨b35, 0, none⟩) S.rs.length S.rs.length), (11, .pointer (some ⟨b11, 0, none⟩)), (101, .slice la l.length lc), (102, .int .i64 ((l.length : Nat) : Int)), (103, .int .i64 ((j : Nat) : Int)), (13, .int .i64 (((l.getD j 0) : Nat) : Int)), (14, .slice (some ⟨b14, 0, none⟩) S.L S.L), (15, .slice (some ⟨b15, 0, none⟩) S.L S.L), (117, rxv (S.rs.getD (l.getD j 0) rx0)), (118, .int .i64 ((S.L : Nat) : Int)), (119, .int .i64 ((x : Nat) : Int))]) (fun x => .row 3 1 (.slice (some ⟨b14, 0, none⟩) S.L S.L) S.L ((trN S.sq l (l.getD j 0) x).map zo) :: .row 9 1 (.slice (some ⟨b15, 0, none⟩) S.L S.L) S.L ((trO S.sq (l.getD j 0) x).map sv) :: .row 30 7 (vb b11) 1 [zn S.L, .int .i64 0, sv S.init, .slice na' j nc', .slice oa' j oc', .slice ea' j ec', .slice fa' j fc'] :: .row 3 1 (.slice la l.length lc) l.length (l.map zn) :: .row 3 1 (.slice (some ⟨b35, 0, none⟩) S.rs.length S.rs.length) S.rs.length ((nmL S.rs.length l).map zo) :: .row 4 1 (.slice (some ⟨be, 0, none⟩) S.rs.length S.rs.length) S.rs.length ((coL S.sq).map bo) :: .row 30 7 (vb b2) 1 [.int .i64 0, .int .i64 0, .string ⟨#[]⟩, .slice none 0 0, .slice none 0 0, .slice none 0 0, .slice none 0 0] :: .row 30 7 (vb b1) 1 (svc S) :: .row 22 1 (.slice na' j nc') j (rs.map rxv) :: .row 28 1 (.slice oa' j oc') j (os.map rxv) :: .row 4 1 (.slice ea' j ec') j (es.map bo) :: .row 9 1 (.slice fa' j fc') j (fs.map sv) :: (fam 3 zo rs ++ fam 9 sv os)) (fun x => S.L - x) 0 (Nat.zero_le _) ⟨rfl, rfl, rfl, rfl, rfl, rfl, rfl, rfl, rfl, rfl, rfl, rfl, rfl, rfl, trivial⟩ (.keep (row_eq (by rw [trN_zero]; rfl)) (.keep (row_eq (by rw [trO_zero]; rfl)) (HSub.refl _))) (fun x hx K4 hK4 => ?_)
     refine CT.seq (CT.region ?_)
     refine Wl.q rfl rfl (OpQ.lss rfl rfl) ?_
     refine Wl.nil (PX.then_n (CT.seq ?_))
     refine CT.cond rfl (fun h120 => ?_) (fun h120 => ?_)
     ·
      have h120 := of_decide_eq_true h120
      have hxl : x < S.L := by omega
      refine CT.skip (PX.then_n (CT.seq (CT.block (CT.seq (CT.region ?_)))))
      refine Wl.q rfl rfl (OpQ.move rfl) ?_
      refine Wl.q rfl rfl (OpQ.index1 zf0 zf1 rfl rfl (by omega) (hrs (l.getD j 0) (by omega) (by omega))) ?_
      refine Wl.q rfl rfl (OpQ.loadG zf8 rfl (fun w hH => (hH.use hS).r _ (getDm (show (l.getD j 0) < S.rs.length by omega))) (getMap zo (S.rs.getD (l.getD j 0) rx0).xs none (j := x) (by omega))) ?_
      refine Wl.know 123 (v' := zo (S.sq.to (l.getD j 0) x)) rfl (congrArg zo (S.to_eq (l.getD j 0) x).symm) ?_
      refine Wl.q rfl rfl (OpQ.assign rfl) ?_
      refine Wl.q rfl rfl (OpQ.assign rfl) ?_
      refine Wl.nil (PX.then_n (CT.seq (CT.region ?_)))
      refine Wl.q rfl rfl (OpQ.move rfl) ?_
      refine Wl.q rfl rfl (OpQ.neq rfl rfl) ?_
      refine Wl.q rfl rfl (OpQ.move rfl) ?_
      refine Wl.split 126 rfl (fun hg126 => ?_) (fun hg126 => ?_)
      ·
       obtain ⟨r, hto⟩ := oi_some (of_nd_t hg126)
       have hr := hv.lt (l.getD j 0) x r hqn (show x < S.sq.L by show x < S.L; omega) hto
       have hrn : r < S.rs.length := by rw [← S.n_eq]; exact hr
       refine Wl.know 17 (v' := zn r) rfl (by rw [hto]; rfl) ?_
       refine Wl.q rfl rfl (OpQ.move rfl) ?_
       refine Wl.q rfl rfl (OpQ.move rfl) ?_
       refine Wl.q rfl rfl (OpQ.index1 zf25 zf44 rfl rfl (by omega) rfl) ?_
       refine Wl.q rfl rfl (OpQ.loadRow zf45 rfl (.there (.there (.there (.there (.there .here))))) (getMap bo (coL S.sq) false (j := r) (by rw [coL_len]; exact hr))) ?_
       refine Wl.know 130 (v' := .bool (S.sq.tr.co S.L r)) rfl (congrArg Value.bool (coL_get hr)) ?_
       refine Wl.q rfl rfl (OpQ.pickT rfl rfl) ?_
       refine Wl.nil (PX.then_n ?_)
       refine CT.cond rfl (fun h131 => ?_) (fun h131 => ?_)
       ·
        have hst : S.sq.tr.stC S.L (l.getD j 0) x = some r := Tr.stC_of hto h131
        have hrl3 : r ∈ l := hlcl _ x r (getDm hj) hxl hst
        refine CT.seq (CT.region ?_)
        refine Wl.q rfl rfl (OpQ.move rfl) ?_
        refine Wl.q rfl rfl (OpQ.move rfl) ?_
        refine Wl.q rfl rfl (OpQ.move rfl) ?_
        refine Wl.q rfl rfl (OpQ.move rfl) ?_
        refine Wl.q rfl rfl (OpQ.index1 zf0 zf1 rfl rfl (by omega) rfl) ?_
        refine Wl.q rfl rfl (OpQ.loadRow zf8 rfl (.there (.there (.there (.there .here)))) (getMap zo (nmL S.rs.length l) none (j := r) (by rw [nmL_len]; exact hrn))) ?_
        refine Wl.know 137 (v' := zo (some (l.idxOf r))) rfl (congrArg zo (by rw [nmL_get hrn, if_pos hrl3])) ?_
        refine Wl.q rfl rfl (OpQ.index1 zf0 zf1 rfl rfl (by omega) rfl) ?_
        refine Wl.g rfl rfl (OpG.storeRow (a := some ⟨b14, 0, none⟩) zf1 rfl rfl rfl (by repeat (first | exact Upd.here | apply Upd.there)) (by rw [List.length_map, hN]; exact hxl)) ?_
        rintro _ _
        refine Wl.nil (PX.then_n (CT.region ?_))
        refine Wl.q rfl rfl (OpQ.move rfl) ?_
        refine Wl.q rfl rfl (OpQ.move rfl) ?_
        refine Wl.q rfl rfl (OpQ.fieldAddr zf34 rfl) ?_
        refine Wl.q rfl rfl (OpQ.loadF (b := b1) zf35 rfl (by repeat (first | exact Has.here | apply Has.there)) (by rfl)) ?_
        refine Wl.q rfl rfl (OpQ.move rfl) ?_
        refine Wl.q rfl rfl (OpQ.index1 zf23 zf36 rfl rfl (by omega) (hos (by omega))) ?_
        refine Wl.q rfl rfl (OpQ.loadG zf37 rfl (fun w hH => (hH.use hS).o) (getMap rxv S.os rx0 (j := (l.getD j 0)) (by omega))) ?_
        refine Wl.q rfl rfl (OpQ.move rfl) ?_
        refine Wl.q rfl rfl (OpQ.index1 zf17 zf38 rfl rfl (by omega) (hus (l.getD j 0) (by omega) (by omega))) ?_
        refine Wl.q rfl rfl (OpQ.loadG zf39 rfl (fun w hH => (hH.use hS).u _ (getDm (show (l.getD j 0) < S.os.length by omega))) (getMap sv (S.os.getD (l.getD j 0) rx0).xs [] (j := x) (by omega))) ?_
        refine Wl.know 148 (v' := sv (S.sq.o (l.getD j 0) x)) rfl (congrArg sv (S.o_eq (l.getD j 0) x).symm) ?_
        refine Wl.q rfl rfl (OpQ.index1 zf17 zf38 rfl rfl (by omega) rfl) ?_
        refine Wl.g rfl rfl (OpG.storeRow (a := some ⟨b15, 0, none⟩) zf38 rfl rfl rfl (by repeat (first | exact Upd.here | apply Upd.there)) (by rw [List.length_map, hO]; exact hxl)) ?_
        rintro _ _
        refine Wl.nil (PX.block_n (PX.then_n (CT.region ?_)))
        refine Wl.q rfl rfl (OpQ.add rfl rfl (by omega)) ?_
        refine Wl.q rfl rfl (OpQ.move rfl) ?_
        refine Wl.nil ?_
        exact PX.loop hK4 (x + 1) (by omega) (by first | omega | (dsimp only; omega)) ⟨rfl, rfl, rfl, rfl, rfl, rfl, rfl, rfl, rfl, rfl, rfl, rfl, rfl, rfl, trivial⟩ (.keep (row_eq (trN_put hst).symm) (.keep (row_eq (trO_put hst).symm) (HSub.refl _)))
       ·
        have hst : S.sq.tr.stC S.L (l.getD j 0) x = none := by rw [Tr.stC, show S.sq.tr.to (l.getD j 0) x = some r from hto, Option.bind_some, if_neg (by rw [h131]; decide)]
        refine CT.skip (PX.block_n (PX.then_n (CT.region ?_)))
        refine Wl.q rfl rfl (OpQ.add rfl rfl (by omega)) ?_
        refine Wl.q rfl rfl (OpQ.move rfl) ?_
        refine Wl.nil ?_
        exact PX.loop hK4 (x + 1) (by omega) (by first | omega | (dsimp only; omega)) ⟨rfl, rfl, rfl, rfl, rfl, rfl, rfl, rfl, rfl, rfl, rfl, rfl, rfl, rfl, trivial⟩ (.keep (row_eq (by rw [trN_keep hst])) (.keep (row_eq (by rw [trO_keep hst])) (HSub.refl _)))
      ·
       have hst : S.sq.tr.stC S.L (l.getD j 0) x = none := by rw [Tr.stC, show S.sq.tr.to (l.getD j 0) x = none from oi_neg.1 (of_nd_f hg126)]; rfl
       refine Wl.skip rfl rfl ?_
       refine Wl.skip rfl rfl ?_
       refine Wl.skip rfl rfl ?_
       refine Wl.skip rfl rfl ?_
       refine Wl.q rfl rfl (OpQ.pickF rfl rfl) ?_
       refine Wl.nil (PX.then_n ?_)
       refine CT.condF rfl ?_
       refine CT.skip (PX.block_n (PX.then_n (CT.region ?_)))
       refine Wl.q rfl rfl (OpQ.add rfl rfl (by omega)) ?_
       refine Wl.q rfl rfl (OpQ.move rfl) ?_
       refine Wl.nil ?_
       exact PX.loop hK4 (x + 1) (by omega) (by first | omega | (dsimp only; omega)) ⟨rfl, rfl, rfl, rfl, rfl, rfl, rfl, rfl, rfl, rfl, rfl, rfl, rfl, rfl, trivial⟩ (.keep (row_eq (by rw [trN_keep hst])) (.keep (row_eq (by rw [trO_keep hst])) (HSub.refl _)))
     ·
      have h120 := of_decide_eq_false h120
      obtain rfl : x = S.L := by omega
      refine CT.mem (.keep (k := rch 3 zo (⟨some ⟨b14, 0, none⟩, S.L, trN S.sq l (l.getD j 0) S.L⟩ : Rx (Option Nat))) (by show Chunk.row _ _ (.slice _ (trN S.sq l (l.getD j 0) S.L).length _) (trN S.sq l (l.getD j 0) S.L).length _ = _; rw [hN]) (.keep (k := rch 9 sv (⟨some ⟨b15, 0, none⟩, S.L, trO S.sq (l.getD j 0) S.L⟩ : Rx Wd)) (by show Chunk.row _ _ (.slice _ (trO S.sq (l.getD j 0) S.L).length _) (trO S.sq (l.getD j 0) S.L).length _ = _; rw [hO]) (HSub.refl _))) ?_
      refine CT.exit (PX.then_x (PX.then_x (PX.block_x (PX.then_n (CT.seq (CT.region ?_))))))
      refine Wl.q rfl rfl (OpQ.fieldAddr zf30 rfl) ?_
      refine Wl.q rfl rfl (OpQ.loadF (b := b11) zf31 rfl (by repeat (first | exact Has.here | apply Has.there)) (by rfl)) ?_
      refine Wl.q rfl rfl (OpQ.move rfl) ?_
      refine Wl.g rfl rfl (OpG.lit1 zf21 zf22 rfl rfl rfl) ?_
      rintro b154 _
      refine Wl.g rfl rfl (OpG.append zf21 zf22 (by rfl) (by decide) rfl rfl (p := 9) rfl (fun w hH => hH.rd .here) ⟨rfl, (by simp [Value.oneCell']), (by omega), (by omega)⟩ (nm := (j + 1)) rfl (all := (rs ++ [(⟨some ⟨b14, 0, none⟩, S.L, trN S.sq l (l.getD j 0) S.L⟩ : Rx (Option Nat))]).map rxv) (by rw [List.map_append, List.map_singleton, show rxv (⟨some ⟨b14, 0, none⟩, S.L, trN S.sq l (l.getD j 0) S.L⟩ : Rx (Option Nat)) = .slice (some ⟨b14, 0, none⟩) S.L S.L by show Value.slice _ (trN S.sq l (l.getD j 0) S.L).length _ = _; rw [hN]])) ?_
      rintro ⟨a155, c155⟩ h155
      refine Wl.q rfl rfl (OpQ.fieldAddr zf30 rfl) ?_
      refine Wl.g rfl rfl (OpG.storeRow (a := some ⟨b11, 0, none⟩) zf63 rfl rfl rfl (by repeat (first | exact Upd.here | apply Upd.there)) (by simp)) ?_
      rintro _ _
      refine Wl.nil (PX.then_n (CT.seq (CT.region ?_)))
      refine Wl.q rfl rfl (OpQ.fieldAddr zf34 rfl) ?_
      refine Wl.q rfl rfl (OpQ.loadF (b := b11) zf35 rfl (by repeat (first | exact Has.here | apply Has.there)) (by rfl)) ?_
      refine Wl.q rfl rfl (OpQ.move rfl) ?_
      refine Wl.g rfl rfl (OpG.lit1 zf23 zf24 rfl rfl rfl) ?_
      rintro b160 _
      refine Wl.g rfl rfl (OpG.append zf23 zf24 (by rfl) (by decide) rfl rfl (p := 11) rfl (fun w hH => hH.rd .here) ⟨rfl, (by simp [Value.oneCell']), (by omega), (by omega)⟩ (nm := (j + 1)) rfl (all := (os ++ [(⟨some ⟨b15, 0, none⟩, S.L, trO S.sq (l.getD j 0) S.L⟩ : Rx Wd)]).map rxv) (by rw [List.map_append, List.map_singleton, show rxv (⟨some ⟨b15, 0, none⟩, S.L, trO S.sq (l.getD j 0) S.L⟩ : Rx Wd) = .slice (some ⟨b15, 0, none⟩) S.L S.L by show Value.slice _ (trO S.sq (l.getD j 0) S.L).length _ = _; rw [hO]])) ?_
      rintro ⟨a161, c161⟩ h161
      refine Wl.q rfl rfl (OpQ.fieldAddr zf34 rfl) ?_
      refine Wl.g rfl rfl (OpG.storeRow (a := some ⟨b11, 0, none⟩) zf64 rfl rfl rfl (by repeat (first | exact Upd.here | apply Upd.there)) (by simp)) ?_
      rintro _ _
      refine Wl.nil (PX.then_n (CT.seq ?_))
      refine CT.draw' (Hc := .row 30 7 (vb b11) 1 [zn S.L, .int .i64 0, sv S.init, .slice a155 (j + 1) c155, .slice a161 (j + 1) c161, .slice ea' j ec', .slice fa' j fc'] :: .row 30 7 (vb b1) 1 (svc S) :: (fam 3 zo rs ++ fam 9 sv os)) 10 zf6 ?_
      refine RA.q 0 (by kernel_rfl) rfl rfl rfl (.cons _ (.cons _ (.cons _ (.cons _ (.cons_cons _ (.cons _ (.cons _ (.cons _ (.cons _ (.cons_cons _ (.cons _ (.cons _ (.cons _ (.cons _ (.refl _))))))))))))))) (OpQ.fieldAddr zf42 rfl) ?_
      refine RA.q 1 (by kernel_rfl) rfl rfl rfl (.cons _ (.cons _ (.cons _ (.cons _ (.cons_cons _ (.cons _ (.cons _ (.cons _ (.cons _ (.cons_cons _ (.cons _ (.cons _ (.cons _ (.cons _ (.refl _))))))))))))))) (OpQ.loadF (b := b11) zf43 rfl (by repeat (first | exact Has.here | apply Has.there)) (by rfl)) ?_
      refine RA.q 2 (by kernel_rfl) rfl rfl rfl (.cons _ (.cons _ (.cons _ (.cons _ (.cons_cons _ (.cons _ (.cons _ (.cons _ (.cons _ (.cons_cons _ (.cons _ (.cons _ (.cons _ (.cons _ (.refl _))))))))))))))) (OpQ.fieldAddr zf42 rfl) ?_
      refine RA.q 3 (by kernel_rfl) rfl rfl rfl (.cons _ (.cons _ (.cons _ (.cons _ (.cons_cons _ (.cons _ (.cons _ (.cons _ (.cons _ (.cons_cons _ (.cons _ (.cons _ (.cons _ (.cons _ (.refl _))))))))))))))) (OpQ.loadF (b := b1) zf43 rfl (by repeat (first | exact Has.here | apply Has.there)) (by rfl)) ?_
      refine RA.q 4 (by kernel_rfl) rfl rfl rfl (.cons _ (.cons _ (.cons _ (.cons _ (.cons_cons _ (.cons _ (.cons _ (.cons _ (.cons _ (.cons_cons _ (.cons _ (.cons _ (.cons _ (.cons _ (.refl _))))))))))))))) (OpQ.move rfl) ?_
      refine RA.q 5 (by kernel_rfl) rfl rfl rfl (.cons _ (.cons _ (.cons _ (.cons _ (.cons_cons _ (.cons _ (.cons _ (.cons _ (.cons _ (.cons_cons _ (.cons _ (.cons _ (.cons _ (.cons _ (.refl _))))))))))))))) (OpQ.index1 zf25 zf44 rfl rfl (by omega) (hes (by omega))) ?_
      refine RA.q 6 (by kernel_rfl) rfl rfl rfl (.cons _ (.cons _ (.cons _ (.cons _ (.cons_cons _ (.cons _ (.cons _ (.cons _ (.cons _ (.cons_cons _ (.cons _ (.cons _ (.cons _ (.cons _ (.refl _))))))))))))))) (OpQ.loadG zf45 rfl (fun w hH => (hH.use hS).e) (getMap bo S.en false (j := (l.getD j 0)) (by omega))) ?_
      refine RA.know 169 (v' := .bool (S.sq.e (l.getD j 0))) rfl rfl ?_
      refine RA.f 7 (by kernel_rfl) rfl rfl rfl (OpG.lit1 zf25 zf26 rfl rfl rfl) (fun _ _ => (.cons _ (.cons _ (.cons _ (.cons _ (.cons _ (.cons_cons _ (.cons _ (.cons _ (.cons _ (.cons _ (.cons_cons _ (.cons _ (.cons _ (.cons _ (.cons _ (.refl _))))))))))))))))) ?_
      rintro b170 _
      refine RA.f 8 (by kernel_rfl) rfl rfl rfl (OpG.append zf25 zf26 (by rfl) (by decide) rfl rfl (p := 13) rfl (fun w hH => hH.rd .here) ⟨rfl, (by simp [Value.oneCell']), (by omega), (by omega)⟩ (nm := (j + 1)) rfl (all := (es ++ [S.sq.e (l.getD j 0)]).map bo) (by simp)) (fun _ _ => (.cons _ (.cons _ (.cons _ (.cons _ (.cons _ (.cons_cons _ (.cons _ (.cons _ (.cons _ (.cons _ (.cons_cons _ (.cons _ (.cons _ (.cons _ (.cons _ (.refl _))))))))))))))))) ?_
      rintro ⟨a171, c171⟩ h171
      refine RA.q 9 (by kernel_rfl) rfl rfl rfl (.cons _ (.cons _ (.cons _ (.cons _ (.cons _ (.cons_cons _ (.cons _ (.cons _ (.cons _ (.cons _ (.cons_cons _ (.cons _ (.cons _ (.cons _ (.cons _ (.refl _)))))))))))))))) (OpQ.fieldAddr zf42 rfl) ?_
      refine RA.tail ?_
      refine RT.f 10 (by kernel_rfl) rfl rfl rfl (OpG.storeRow (a := some ⟨b11, 0, none⟩) zf65 rfl rfl rfl (by repeat (first | exact Upd.here | apply Upd.there)) (by simp)) ?_
      rintro _ _
      refine RT.done (by kernel_rfl) ?_
      refine PX.then_n ?_
      refine CT.draw' (Hc := .row 30 7 (vb b11) 1 [zn S.L, .int .i64 0, sv S.init, .slice a155 (j + 1) c155, .slice a161 (j + 1) c161, .slice a171 (j + 1) c171, .slice fa' j fc'] :: .row 30 7 (vb b1) 1 (svc S) :: (fam 3 zo rs ++ fam 9 sv os)) 10 zf6 ?_
      refine RA.q 0 (by kernel_rfl) rfl rfl rfl (.cons _ (.cons _ (.cons _ (.cons _ (.cons _ (.cons_cons _ (.cons _ (.cons _ (.cons _ (.cons _ (.cons_cons _ (.cons _ (.cons _ (.cons _ (.cons _ (.refl _)))))))))))))))) (OpQ.fieldAddr zf41 rfl) ?_
      refine RA.q 1 (by kernel_rfl) rfl rfl rfl (.cons _ (.cons _ (.cons _ (.cons _ (.cons _ (.cons_cons _ (.cons _ (.cons _ (.cons _ (.cons _ (.cons_cons _ (.cons _ (.cons _ (.cons _ (.cons _ (.refl _)))))))))))))))) (OpQ.loadF (b := b11) zf37 rfl (by repeat (first | exact Has.here | apply Has.there)) (by rfl)) ?_
      refine RA.q 2 (by kernel_rfl) rfl rfl rfl (.cons _ (.cons _ (.cons _ (.cons _ (.cons _ (.cons_cons _ (.cons _ (.cons _ (.cons _ (.cons _ (.cons_cons _ (.cons _ (.cons _ (.cons _ (.cons _ (.refl _)))))))))))))))) (OpQ.fieldAddr zf41 rfl) ?_
      refine RA.q 3 (by kernel_rfl) rfl rfl rfl (.cons _ (.cons _ (.cons _ (.cons _ (.cons _ (.cons_cons _ (.cons _ (.cons _ (.cons _ (.cons _ (.cons_cons _ (.cons _ (.cons _ (.cons _ (.cons _ (.refl _)))))))))))))))) (OpQ.loadF (b := b1) zf37 rfl (by repeat (first | exact Has.here | apply Has.there)) (by rfl)) ?_
      refine RA.q 4 (by kernel_rfl) rfl rfl rfl (.cons _ (.cons _ (.cons _ (.cons _ (.cons _ (.cons_cons _ (.cons _ (.cons _ (.cons _ (.cons _ (.cons_cons _ (.cons _ (.cons _ (.cons _ (.cons _ (.refl _)))))))))))))))) (OpQ.move rfl) ?_
      refine RA.q 5 (by kernel_rfl) rfl rfl rfl (.cons _ (.cons _ (.cons _ (.cons _ (.cons _ (.cons_cons _ (.cons _ (.cons _ (.cons _ (.cons _ (.cons_cons _ (.cons _ (.cons _ (.cons _ (.cons _ (.refl _)))))))))))))))) (OpQ.index1 zf17 zf38 rfl rfl (by omega) (hfs (by omega))) ?_
      refine RA.q 6 (by kernel_rfl) rfl rfl rfl (.cons _ (.cons _ (.cons _ (.cons _ (.cons _ (.cons_cons _ (.cons _ (.cons _ (.cons _ (.cons _ (.cons_cons _ (.cons _ (.cons _ (.cons _ (.cons _ (.refl _)))))))))))))))) (OpQ.loadG zf39 rfl (fun w hH => (hH.use hS).f) (getMap sv S.fi [] (j := (l.getD j 0)) (by omega))) ?_
      refine RA.know 179 (v' := sv (S.sq.f (l.getD j 0))) rfl rfl ?_
      refine RA.f 7 (by kernel_rfl) rfl rfl rfl (OpG.lit1 zf17 zf18 rfl rfl rfl) (fun _ _ => (.cons _ (.cons _ (.cons _ (.cons _ (.cons _ (.cons _ (.cons_cons _ (.cons _ (.cons _ (.cons _ (.cons _ (.cons_cons _ (.cons _ (.cons _ (.cons _ (.cons _ (.refl _)))))))))))))))))) ?_
      rintro b180 _
      refine RA.f 8 (by kernel_rfl) rfl rfl rfl (OpG.append zf17 zf18 (by rfl) (by decide) rfl rfl (p := 15) rfl (fun w hH => hH.rd .here) ⟨rfl, (by simp [Value.oneCell']), (by omega), (by omega)⟩ (nm := (j + 1)) rfl (all := (fs ++ [S.sq.f (l.getD j 0)]).map sv) (by simp)) (fun _ _ => (.cons _ (.cons _ (.cons _ (.cons _ (.cons _ (.cons _ (.cons_cons _ (.cons _ (.cons _ (.cons _ (.cons _ (.cons_cons _ (.cons _ (.cons _ (.cons _ (.cons _ (.refl _)))))))))))))))))) ?_
      rintro ⟨a181, c181⟩ h181
      refine RA.q 9 (by kernel_rfl) rfl rfl rfl (.cons _ (.cons _ (.cons _ (.cons _ (.cons _ (.cons _ (.cons_cons _ (.cons _ (.cons _ (.cons _ (.cons _ (.cons_cons _ (.cons _ (.cons _ (.cons _ (.cons _ (.refl _))))))))))))))))) (OpQ.fieldAddr zf41 rfl) ?_
      refine RA.tail ?_
      refine RT.f 10 (by kernel_rfl) rfl rfl rfl (OpG.storeRow (a := some ⟨b11, 0, none⟩) zf36 rfl rfl rfl (by repeat (first | exact Upd.here | apply Upd.there)) (by simp)) ?_
      rintro _ _
      refine RT.done (by kernel_rfl) ?_
      refine PX.block_n (PX.then_n (CT.region ?_))
      refine Wl.q rfl rfl (OpQ.add rfl rfl (by omega)) ?_
      refine Wl.q rfl rfl (OpQ.move rfl) ?_
      refine Wl.nil ?_
      refine PX.as (fun _ h => HOk.fam2 (r := (⟨some ⟨b14, 0, none⟩, S.L, trN S.sq l (l.getD j 0) S.L⟩ : Rx (Option Nat))) (o := (⟨some ⟨b15, 0, none⟩, S.L, trO S.sq (l.getD j 0) S.L⟩ : Rx Wd)) (A := [.row 30 7 (vb b11) 1 [zn S.L, .int .i64 0, sv S.init, .slice a155 (j + 1) c155, .slice a161 (j + 1) c161, .slice a171 (j + 1) c171, .slice a181 (j + 1) c181], .row 3 1 (.slice la l.length lc) l.length (l.map zn), .row 3 1 (.slice (some ⟨b35, 0, none⟩) S.rs.length S.rs.length) S.rs.length ((nmL S.rs.length l).map zo), .row 4 1 (.slice (some ⟨be, 0, none⟩) S.rs.length S.rs.length) S.rs.length ((coL S.sq).map bo), .row 30 7 (vb b2) 1 [.int .i64 0, .int .i64 0, .string ⟨#[]⟩, .slice none 0 0, .slice none 0 0, .slice none 0 0, .slice none 0 0], .row 30 7 (vb b1) 1 (svc S), .row 22 1 (.slice a155 (j + 1) c155) (j + 1) ((rs ++ [(⟨some ⟨b14, 0, none⟩, S.L, trN S.sq l (l.getD j 0) S.L⟩ : Rx (Option Nat))]).map rxv), .row 28 1 (.slice a161 (j + 1) c161) (j + 1) ((os ++ [(⟨some ⟨b15, 0, none⟩, S.L, trO S.sq (l.getD j 0) S.L⟩ : Rx Wd)]).map rxv), .row 4 1 (.slice a171 (j + 1) c171) (j + 1) ((es ++ [S.sq.e (l.getD j 0)]).map bo), .row 9 1 (.slice a181 (j + 1) c181) (j + 1) ((fs ++ [S.sq.f (l.getD j 0)]).map sv)]) (HOk.behind (A := [_, _, _, _]) h)) ?_
      exact PX.loop hK3 (j + 1, a155, c155, rs ++ [(⟨some ⟨b14, 0, none⟩, S.L, trN S.sq l (l.getD j 0) S.L⟩ : Rx (Option Nat))], a161, c161, os ++ [(⟨some ⟨b15, 0, none⟩, S.L, trO S.sq (l.getD j 0) S.L⟩ : Rx Wd)], a171, c171, es ++ [S.sq.e (l.getD j 0)], a181, c181, fs ++ [S.sq.f (l.getD j 0)]) (ht.next hj rfl rfl) (show l.length - (j + 1) < l.length - j by omega) ⟨rfl, rfl, rfl, rfl, rfl, rfl, rfl, rfl, trivial⟩ (HSub.refl _)
    ·
     have h104 := of_decide_eq_false h104
     have hval : svv ⟨S.L, 0, S.init, na', nc', rs, oa', oc', os, ea', ec', es, fa', fc', fs⟩ = .agg #[zn S.L, .int .i64 0, sv S.init, .slice na' j nc', .slice oa' j oc', .slice ea' j ec', .slice fa' j fc'] := by show Value.agg #[zn S.L, .int .i64 0, sv S.init, .slice na' rs.length nc', .slice oa' os.length oc', .slice ea' es.length ec', .slice fa' fs.length fc'] = _; rw [hrsl, hosl, hesl, hfsl]
     refine CT.exit (PX.then_x (PX.then_x (PX.block_x (PX.then_n (CT.seq (CT.region ?_))))))
     refine Wl.q rfl rfl (OpQ.loadV (b := b11) zf29 zf28 rfl (by repeat (first | exact Has.here | apply Has.there)) (by rfl)) ?_
     refine Wl.know 184 (v' := svv ⟨S.L, 0, S.init, na', nc', rs, oa', oc', os, ea', ec', es, fa', fc', fs⟩) rfl hval.symm ?_
     refine Wl.g rfl rfl (OpG.storeV (b := b2) zf28 rfl rfl rfl rfl (by repeat (first | exact Upd.here | apply Upd.there))) ?_
     rintro _ _
     refine Wl.nil (PX.then_n (CT.ret ?_))
     refine PX.retC rfl rfl (by repeat (first | exact Has.here | apply Has.there)) zf29 zf28 (by rfl) (fun w' hH => ?_)
     exact ⟨⟨S.L, 0, S.init, na', nc', rs, oa', oc', os, ea', ec', es, fa', fc', fs⟩, .inr ⟨hco, i * S.L, hK, by rw [← hl]; exact Sv.trI_done ht (by omega) _ _ _ _ _ _ _ _⟩, rfl, (HOk.behind (A := [_, _, _, _, _, _]) hH).post.conv (.keep (by show Chunk.row _ _ (.slice _ rs.length _) rs.length _ = _; rw [hrsl]) (.keep (by show Chunk.row _ _ (.slice _ os.length _) os.length _ = _; rw [hosl]) (.keep (by show Chunk.row _ _ (.slice _ es.length _) es.length _ = _; rw [hesl]) (.keep (by show Chunk.row _ _ (.slice _ fs.length _) fs.length _ = _; rw [hfsl]) (HSub.refl _)))))⟩

end Go.Proofs.Ytamolakhpcofhaa

