/-
  What functions of the program compute, each by its walk. Conditions: those that each theorem names.
-/
import Derived.Test.YtamolakhpcofhaaXE21
import Derived.Test.YtamolakhpcofhaaEng1
import Derived.Test.YtamolakhpcofhaaXF
set_option linter.unusedSimpArgs false
namespace Go.Proofs.Ytamolakhpcofhaa
open Go Go.Eng Go.Am Go.Sq
open Go.Tp (zi)
open Go.Tl (mayL Wd okW okB bo)

set_option maxRecDepth 100000 in
set_option maxHeartbeats 1000000 in
/-- semigroup/semigroupref42.trim -/
theorem trimR42_spec (w : World) {M : Nat} (S : Sv) (hS : Stays [] w (svm S)) (hv : S.sq.Ok M) : Calls Try.prog 49 #[svv S] w (fun e w' => ∃ i : Sv, (IsTrim S.sq.tr S.L S.s S.init i.sq) ∧ e = .returned (svv i) ∧ Post [] (svH i 3 22 4 9 28) w w') := by
 obtain ⟨hb1, hb2, hb3, hb4⟩ := hv.bnd
 obtain ⟨hlo, hle, hlf⟩ := hv.lens
 have hns : 0 < S.rs.length → S.na.isSome = true := fun h => hS.now.n.isSome (j := 0) (by rw [List.length_map]; exact h)
 have hos : 0 < S.os.length → S.oa.isSome = true := fun h => hS.now.o.isSome (j := 0) (by rw [List.length_map]; exact h)
 have hes : 0 < S.en.length → S.ea.isSome = true := fun h => hS.now.e.isSome (j := 0) (by rw [List.length_map]; exact h)
 have hfs : 0 < S.fi.length → S.fa.isSome = true := fun h => hS.now.f.isSome (j := 0) (by rw [List.length_map]; exact h)
 have hrs : ∀ q, q < S.rs.length → 0 < (S.rs.getD q rx0).xs.length → (S.rs.getD q rx0).a.isSome = true := fun q hq h => (hS.now.r _ (getDm hq)).isSome (j := 0) (by rw [List.length_map]; exact h)
 have hus : ∀ q, q < S.os.length → 0 < (S.os.getD q rx0).xs.length → (S.os.getD q rx0).a.isSome = true := fun q hq h => (hS.now.u _ (getDm hq)).isSome (j := 0) (by rw [List.length_map]; exact h)
 have hlen : ∀ k, (bfsP (S.sq.tr.stC S.L) S.L S.s k).length ≤ S.rs.length := fun k => by rw [← S.n_eq]; exact bfsC_len hv.fit hv.st (show 0 < S.L by omega) k
 have hblt : ∀ k, ∀ q ∈ bfsP (S.sq.tr.stC S.L) S.L S.s k, q < S.sq.n := fun k => bfsC_lt hv.fit hv.st (show 0 < S.L by omega) k
 refine enter (args := [svv S]) [] 152 Try.func49 rfl rfl rfl ?_
 refine CT.seq (CT.region ?_)
 refine Wl.g rfl rfl (OpG.box (size := 7) rfl rfl rfl) ?_
 rintro b1 _
 refine Wl.g rfl rfl (OpG.alloc (zs := [.int .i64 0, .int .i64 0, .string ⟨#[]⟩, .slice none 0 0, .slice none 0 0, .slice none 0 0, .slice none 0 0]) zf19 rfl rfl) ?_
 rintro b2 _
 refine Wl.nil (PX.then_n (CT.seq (CT.region ?_)))
 refine Wl.q rfl rfl (OpQ.loadV (b := b1) zf29 zf28 rfl (by repeat (first | exact Has.here | apply Has.there)) (by rfl)) ?_
 refine Wl.know 14 (v' := svv S) rfl rfl ?_
 refine Wl.g rfl rfl (OpG.callX zf94 rfl .nil (fun _ => (.cons .nil)) (fun w hH hp => useful_spec w S (hH.stays0 hS) hv)) ?_
 rintro ⟨U, bu⟩ hU
 dsimp only at hU
 obtain ⟨hUl, hUc⟩ := hU
 refine Wl.q rfl rfl (OpQ.assign rfl) ?_
 refine Wl.nil (PX.then_n (CT.seq (CT.seq (CT.region ?_))))
 refine Wl.q rfl rfl (OpQ.move rfl) ?_
 refine Wl.q rfl rfl (OpQ.fieldAddr zf46 rfl) ?_
 refine Wl.q rfl rfl (OpQ.loadF (b := b1) zf8 rfl (by repeat (first | exact Has.here | apply Has.there)) (by rfl)) ?_
 refine Wl.q rfl rfl (OpQ.index1 zf25 zf44 rfl rfl (by omega) rfl) ?_
 refine Wl.q rfl rfl (OpQ.loadRow zf45 rfl .here (getMap bo U false (j := S.s) (by omega))) ?_
 refine Wl.know 20 (v' := .bool (S.sq.tr.co S.L S.s)) rfl (congrArg Value.bool (hUc _ (Rch.start S.sq))) ?_
 refine Wl.q rfl rfl (OpQ.not rfl) ?_
 refine Wl.nil (PX.then_n ?_)
 refine CT.cond rfl (fun h21 => ?_) (fun h21 => ?_)
 ·
  have hco : S.sq.tr.co S.L S.s = false := by simpa using h21
  refine CT.seq (CT.region ?_)
  refine Wl.q rfl rfl (OpQ.fieldAddr zf33 rfl) ?_
  refine Wl.q rfl rfl (OpQ.loadF (b := b1) zf8 rfl (by repeat (first | exact Has.here | apply Has.there)) (by rfl)) ?_
  refine Wl.g rfl rfl (OpG.callX zf95 rfl .nil (fun _ => (App.of _ _)) (fun w hH hp => emptyR_spec w S.L hb2)) ?_
  rintro i24 h24
  refine Wl.as (fun _ h => HOk.swap (A := svH i24 3 22 4 9 28) h) ?_
  refine Wl.g rfl rfl (OpG.storeV (b := b2) zf28 rfl rfl rfl rfl (by repeat (first | exact Upd.here | apply Upd.there))) ?_
  rintro _ _
  refine Wl.nil (PX.then_n (CT.ret (PX.then_r ?_)))
  refine PX.retC rfl rfl (by repeat (first | exact Has.here | apply Has.there)) zf29 zf28 (by rfl) (fun w' hH => ?_)
  exact ⟨i24, .inl ⟨hco, h24⟩, rfl, (HOk.behind (A := [_, _, _]) hH).post⟩
 ·
  have hco : S.sq.tr.co S.L S.s = true := by simpa using h21
  refine CT.skip (PX.then_n (CT.seq (CT.region ?_)))
  refine Wl.q rfl rfl (OpQ.fieldAddr zf30 rfl) ?_
  refine Wl.q rfl rfl (OpQ.loadF (b := b1) zf31 rfl (by repeat (first | exact Has.here | apply Has.there)) (by rfl)) ?_
  refine Wl.q rfl rfl (OpQ.len zf21 rfl) ?_
  refine Wl.g rfl rfl (OpG.make1 zf0 zf16 rfl rfl rfl rfl (by omega) (by omega)) ?_
  rintro b28 _
  refine Wl.q rfl rfl (OpQ.assign rfl) ?_
  refine Wl.nil (PX.then_n (CT.seq (CT.seq (CT.region ?_))))
  refine Wl.q rfl rfl (OpQ.move rfl) ?_
  refine Wl.q rfl rfl (OpQ.len zf0 rfl) ?_
  refine Wl.q rfl rfl (OpQ.move rfl) ?_
  refine Wl.nil (PX.then_n (CT.block ?_))
  refine CT.loop (ι := Nat) (fun x => x ≤ S.rs.length) (fun x => [(1, .pointer (some ⟨b1, 0, none⟩)), (2, .pointer (some ⟨b2, 0, none⟩)), (3, .slice (some ⟨bu, 0, none⟩) S.rs.length S.rs.length), (4, .slice (some ⟨b28, 0, none⟩) S.rs.length S.rs.length), (30, .int .i64 ((S.rs.length : Nat) : Int)), (31, .int .i64 ((x : Nat) : Int))]) (fun x => [.row 3 1 (.slice (some ⟨b28, 0, none⟩) S.rs.length S.rs.length) S.rs.length ((List.replicate x (none : Option Nat) ++ List.replicate (S.rs.length - x) (some 0)).map zo), .row 4 1 (.slice (some ⟨bu, 0, none⟩) S.rs.length S.rs.length) S.rs.length (U.map bo), .row 30 7 (vb b2) 1 [.int .i64 0, .int .i64 0, .string ⟨#[]⟩, .slice none 0 0, .slice none 0 0, .slice none 0 0, .slice none 0 0], .row 30 7 (vb b1) 1 (svc S)]) (fun x => S.rs.length - x) 0 (Nat.zero_le _) ⟨rfl, rfl, rfl, rfl, rfl, rfl, trivial⟩ (.keep (row_eq (by simp [zo, oi])) (HSub.refl _)) (fun x hx K0 hK0 => ?_)
  refine CT.seq (CT.region ?_)
  refine Wl.q rfl rfl (OpQ.lss rfl rfl) ?_
  refine Wl.nil (PX.then_n (CT.seq ?_))
  refine CT.cond rfl (fun h32 => ?_) (fun h32 => ?_)
  ·
   have h32 := of_decide_eq_true h32
   refine CT.skip (PX.then_n (CT.seq (CT.block (CT.seq (CT.region ?_)))))
   refine Wl.q rfl rfl (OpQ.move rfl) ?_
   refine Wl.q rfl rfl (OpQ.assign rfl) ?_
   refine Wl.nil (PX.then_n (CT.region ?_))
   refine Wl.q rfl rfl (OpQ.move rfl) ?_
   refine Wl.q rfl rfl (OpQ.move rfl) ?_
   refine Wl.q rfl rfl (OpQ.index1 zf0 zf1 rfl rfl (by omega) rfl) ?_
   refine Wl.g rfl rfl (OpG.storeRow (a := some ⟨b28, 0, none⟩) zf1 rfl rfl rfl (by repeat (first | exact Upd.here | apply Upd.there)) (by simp; omega)) ?_
   rintro _ _
   refine Wl.nil (PX.block_n (PX.then_n (CT.region ?_)))
   refine Wl.q rfl rfl (OpQ.add rfl rfl (by omega)) ?_
   refine Wl.q rfl rfl (OpQ.move rfl) ?_
   refine Wl.nil ?_
   exact PX.loop hK0 (x + 1) (by omega) (by first | omega | (dsimp only; omega)) ⟨rfl, rfl, rfl, rfl, rfl, rfl, trivial⟩ (.keep (row_eq (by rw [← rep_put (show x < S.rs.length by omega), List.map_set]; rfl)) (HSub.refl _))
  ·
   have h32 := of_decide_eq_false h32
   obtain rfl : x = S.rs.length := by omega
   refine CT.mem (.keep (row_eq (xs := (List.replicate S.rs.length (none : Option Nat)).map zo) (by simp)) (HSub.refl _)) ?_
   refine CT.exit (PX.then_x (PX.then_x (PX.block_x (PX.then_n (CT.seq (CT.region ?_))))))
   refine Wl.q rfl rfl (OpQ.fieldAddr zf46 rfl) ?_
   refine Wl.q rfl rfl (OpQ.loadF (b := b1) zf8 rfl (by repeat (first | exact Has.here | apply Has.there)) (by rfl)) ?_
   refine Wl.g rfl rfl (OpG.lit1 zf0 zf16 rfl rfl rfl) ?_
   rintro b40 _
   refine Wl.q rfl rfl (OpQ.assign rfl) ?_
   refine Wl.nil (PX.then_n (CT.seq (CT.region ?_)))
   refine Wl.q rfl rfl (OpQ.move rfl) ?_
   refine Wl.q rfl rfl (OpQ.fieldAddr zf46 rfl) ?_
   refine Wl.q rfl rfl (OpQ.loadF (b := b1) zf8 rfl (by repeat (first | exact Has.here | apply Has.there)) (by rfl)) ?_
   refine Wl.q rfl rfl (OpQ.index1 zf0 zf1 rfl rfl (by omega) rfl) ?_
   refine Wl.g rfl rfl (OpG.storeRow (a := some ⟨b28, 0, none⟩) zf1 rfl rfl rfl (by repeat (first | exact Upd.here | apply Upd.there)) (by simp; omega)) ?_
   rintro _ _
   refine Wl.nil (PX.then_n (CT.seq (CT.region ?_)))
   refine Wl.q rfl rfl (OpQ.fieldAddr zf33 rfl) ?_
   refine Wl.q rfl rfl (OpQ.loadF (b := b1) zf8 rfl (by repeat (first | exact Has.here | apply Has.there)) (by rfl)) ?_
   refine Wl.q rfl rfl (OpQ.fieldAddr zf47 rfl) ?_
   refine Wl.q rfl rfl (OpQ.loadF (b := b1) zf39 rfl (by repeat (first | exact Has.here | apply Has.there)) (by rfl)) ?_
   refine Wl.q rfl rfl (OpQ.build (cells := #[zn S.L, .int .i64 0, sv S.init, .slice none 0 0, .slice none 0 0, .slice none 0 0, .slice none 0 0]) zf27 rfl rfl) ?_
   refine Wl.g rfl rfl (OpG.alloc (zs := [.int .i64 0, .int .i64 0, .string ⟨#[]⟩, .slice none 0 0, .slice none 0 0, .slice none 0 0, .slice none 0 0]) zf19 rfl rfl) ?_
   rintro b7 _
   refine Wl.g rfl rfl (OpG.storeV (b := b7) zf28 rfl rfl rfl rfl (by repeat (first | exact Upd.here | apply Upd.there))) ?_
   rintro _ _
   refine Wl.nil (PX.then_n (CT.seq (CT.seq (CT.region ?_))))
   refine Wl.q rfl rfl (OpQ.assign rfl) ?_
   refine Wl.nil (PX.then_n (CT.block ?_))
   refine CT.nilrow 9 1 ?_
   refine CT.nilrow 4 1 ?_
   refine CT.nilrow 28 1 ?_
   refine CT.nilrow 22 1 ?_
   refine CT.as (fun _ h => h.take (.cons .here (.cons .here (.cons .here (.cons .here (.cons .here (.cons .here (.cons .here (.cons .here (.cons .here (.cons .here .nil))))))))))) ?_
   refine CT.loop (ι := Nat × Option Addr × Nat × Option Addr × Nat × List (Rx (Option Nat)) × Option Addr × Nat × List (Rx Wd) × Option Addr × Nat × List Bool × Option Addr × Nat × List Wd) (fun (i, la, lc, na', nc', rs, oa', oc', os, ea', ec', es, fa', fc', fs) => GoingP (st := (S.sq.tr.stC S.L)) (L := S.L) (s := S.s) i ∧ CpI (S.sq.tr.stC S.L) S.sq.tr S.L S.s (bfsP (S.sq.tr.stC S.L) S.L S.s (i * S.L)) i rs os es fs) (fun (i, la, lc, na', nc', rs, oa', oc', os, ea', ec', es, fa', fc', fs) => [(1, .pointer (some ⟨b1, 0, none⟩)), (2, .pointer (some ⟨b2, 0, none⟩)), (3, .slice (some ⟨bu, 0, none⟩) S.rs.length S.rs.length), (4, .slice (some ⟨b28, 0, none⟩) S.rs.length S.rs.length), (7, .pointer (some ⟨b7, 0, none⟩)), (8, .int .i64 ((i : Nat) : Int)), (6, .slice la (bfsP (S.sq.tr.stC S.L) S.L S.s (i * S.L)).length lc)]) (fun (i, la, lc, na', nc', rs, oa', oc', os, ea', ec', es, fa', fc', fs) => [.row 22 1 (.slice na' i nc') i (rs.map rxv), .row 28 1 (.slice oa' i oc') i (os.map rxv), .row 4 1 (.slice ea' i ec') i (es.map bo), .row 9 1 (.slice fa' i fc') i (fs.map sv), .row 30 7 (vb b7) 1 [zn S.L, .int .i64 0, sv S.init, .slice na' i nc', .slice oa' i oc', .slice ea' i ec', .slice fa' i fc'], .row 3 1 (.slice la (bfsP (S.sq.tr.stC S.L) S.L S.s (i * S.L)).length lc) (bfsP (S.sq.tr.stC S.L) S.L S.s (i * S.L)).length ((bfsP (S.sq.tr.stC S.L) S.L S.s (i * S.L)).map zn), .row 3 1 (.slice (some ⟨b28, 0, none⟩) S.rs.length S.rs.length) S.rs.length ((nmL S.rs.length (bfsP (S.sq.tr.stC S.L) S.L S.s (i * S.L))).map zo), .row 4 1 (.slice (some ⟨bu, 0, none⟩) S.rs.length S.rs.length) S.rs.length (U.map bo), .row 30 7 (vb b2) 1 [.int .i64 0, .int .i64 0, .string ⟨#[]⟩, .slice none 0 0, .slice none 0 0, .slice none 0 0, .slice none 0 0], .row 30 7 (vb b1) 1 (svc S)] ++ (fam 3 zo rs ++ fam 9 sv os)) (fun (i, la, lc, na', nc', rs, oa', oc', os, ea', ec', es, fa', fc', fs) => S.rs.length - i) (0, some ⟨b40, 0, none⟩, 1, none, 0, [], none, 0, [], none, 0, [], none, 0, []) ⟨GoingP.zero, CpI.start _ _⟩ ⟨rfl, rfl, rfl, rfl, rfl, rfl, (lkV rfl (by rw [Nat.zero_mul]; rfl)), trivial⟩ (by dsimp only; rw [Nat.zero_mul]; exact .keep rfl (.keep rfl (.keep rfl (.keep rfl (.keep rfl (.keep rfl (.keep (row_eq (nmL_one hb4).symm) (HSub.refl _)))))))) (fun ⟨i, la, lc, na', nc', rs, oa', oc', os, ea', ec', es, fa', fc', fs⟩ ⟨hg, hcp⟩ K1 hK1 => ?_)
   dsimp only
   refine CT.fact (p := la.isSome = true) (fun w hH => (hH.rd (.there (.there (.there (.there (.there .here)))))).isSome (j := 0) (by rw [List.length_map]; exact bfsP_pos _)) (fun hla => ?_)
   have hln := hlen (i * S.L)
   have hil := hcp.il
   have hrl0 := hcp.rl
   have hol0 := hcp.ol
   have hel0 := hcp.el
   have hfl0 := hcp.fl
   refine CT.seq (CT.seq (CT.region ?_))
   refine Wl.q rfl rfl (OpQ.move rfl) ?_
   refine Wl.q rfl rfl (OpQ.move rfl) ?_
   refine Wl.q rfl rfl (OpQ.len zf0 rfl) ?_
   refine Wl.q rfl rfl (OpQ.lss rfl rfl) ?_
   refine Wl.nil (PX.then_n ?_)
   refine CT.cond rfl (fun h53 => ?_) (fun h53 => ?_)
   ·
    have h53 := of_decide_eq_true h53
    have hlt : i < (bfsP (S.sq.tr.stC S.L) S.L S.s (i * S.L)).length := by omega
    obtain ⟨q, hq⟩ : ∃ q, q = (bfsP (S.sq.tr.stC S.L) S.L S.s (i * S.L)).getD i S.s := ⟨_, rfl⟩
    have hqn : q < S.sq.n := by rw [hq]; exact hblt _ _ (getDm hlt)
    have hqN : q < S.rs.length := by rw [← S.n_eq]; exact hqn
    have hrch : Rch S.sq q := by rw [hq]; exact Rch.bfs (d := S.sq) (show 0 < S.L by omega) _ _ (getDm hlt)
    have hrl := hv.rlen (q := q) (by omega)
    have hol := hv.olen (q := q) (by omega)
    refine CT.skip (PX.then_n (CT.seq (CT.block (CT.seq (CT.region ?_)))))
    refine Wl.q rfl rfl (OpQ.move rfl) ?_
    refine Wl.q rfl rfl (OpQ.move rfl) ?_
    refine Wl.q rfl rfl (OpQ.index1 zf0 zf1 rfl rfl (by omega) hla) ?_
    refine Wl.q rfl rfl (OpQ.loadRow zf8 rfl (.there (.there (.there (.there (.there .here))))) (getMap zn (bfsP (S.sq.tr.stC S.L) S.L S.s (i * S.L)) S.s (j := i) hlt)) ?_
    refine Wl.know 59 (v' := .int .i64 ((q : Nat) : Int)) rfl (congrArg (fun n : Nat => Value.int .i64 (n : Int)) hq.symm) ?_
    refine Wl.q rfl rfl (OpQ.assign rfl) ?_
    refine Wl.nil (PX.then_n (CT.seq (CT.region ?_)))
    refine Wl.q rfl rfl (OpQ.assign rfl) ?_
    refine Wl.nil (PX.then_n (CT.seq (CT.region ?_)))
    refine Wl.q rfl rfl (OpQ.assign rfl) ?_
    refine Wl.nil (PX.then_n (CT.seq (CT.seq (CT.region ?_))))
    refine Wl.q rfl rfl (OpQ.fieldAddr zf30 rfl) ?_
    refine Wl.q rfl rfl (OpQ.loadF (b := b1) zf31 rfl (by repeat (first | exact Has.here | apply Has.there)) (by rfl)) ?_
    refine Wl.q rfl rfl (OpQ.move rfl) ?_
    refine Wl.q rfl rfl (OpQ.index1 zf21 zf32 rfl rfl (by omega) (hns (by omega))) ?_
    refine Wl.q rfl rfl (OpQ.loadG zf10 rfl (fun w hH => (hH.use hS).n) (getMap rxv S.rs rx0 (j := q) (by omega))) ?_
    refine Wl.q rfl rfl (OpQ.len zf0 rfl) ?_
    refine Wl.know 65 (v' := .int .i64 ((S.L : Nat) : Int)) rfl (congrArg (Value.int .i64) (by rw [hrl])) ?_
    refine Wl.q rfl rfl (OpQ.move rfl) ?_
    refine Wl.nil (PX.then_n (CT.block ?_))
    refine CT.nilrow 9 1 ?_
    refine CT.nilrow 3 1 ?_
    refine CT.loop (ι := Nat × Option Addr × Nat × Option Addr × Nat × List (Option Nat) × Option Addr × Nat × List Wd) (fun (x, la, lc, xa, xc, xs, wa, wc, ws) => x ≤ S.L ∧ RowA (S.sq.tr.stC S.L) (bfsP (S.sq.tr.stC S.L) S.L S.s (i * S.L + x)) q x xs ∧ ws = owR (S.sq.tr.stC S.L) S.sq.tr q x) (fun (x, la, lc, xa, xc, xs, wa, wc, ws) => [(1, .pointer (some ⟨b1, 0, none⟩)), (2, .pointer (some ⟨b2, 0, none⟩)), (3, .slice (some ⟨bu, 0, none⟩) S.rs.length S.rs.length), (4, .slice (some ⟨b28, 0, none⟩) S.rs.length S.rs.length), (7, .pointer (some ⟨b7, 0, none⟩)), (8, .int .i64 ((i : Nat) : Int)), (6, .slice la (bfsP (S.sq.tr.stC S.L) S.L S.s (i * S.L + x)).length lc), (9, .int .i64 ((q : Nat) : Int)), (10, .slice xa x xc), (11, .slice wa x wc), (64, rxv (S.rs.getD q rx0)), (65, .int .i64 ((S.L : Nat) : Int)), (66, .int .i64 ((x : Nat) : Int))]) (fun (x, la, lc, xa, xc, xs, wa, wc, ws) => [.row 3 1 (.slice xa x xc) x (xs.map zo), .row 9 1 (.slice wa x wc) x (ws.map sv), .row 22 1 (.slice na' i nc') i (rs.map rxv), .row 28 1 (.slice oa' i oc') i (os.map rxv), .row 4 1 (.slice ea' i ec') i (es.map bo), .row 9 1 (.slice fa' i fc') i (fs.map sv), .row 30 7 (vb b7) 1 [zn S.L, .int .i64 0, sv S.init, .slice na' i nc', .slice oa' i oc', .slice ea' i ec', .slice fa' i fc'], .row 3 1 (.slice la (bfsP (S.sq.tr.stC S.L) S.L S.s (i * S.L + x)).length lc) (bfsP (S.sq.tr.stC S.L) S.L S.s (i * S.L + x)).length ((bfsP (S.sq.tr.stC S.L) S.L S.s (i * S.L + x)).map zn), .row 3 1 (.slice (some ⟨b28, 0, none⟩) S.rs.length S.rs.length) S.rs.length ((nmL S.rs.length (bfsP (S.sq.tr.stC S.L) S.L S.s (i * S.L + x))).map zo), .row 4 1 (.slice (some ⟨bu, 0, none⟩) S.rs.length S.rs.length) S.rs.length (U.map bo), .row 30 7 (vb b2) 1 [.int .i64 0, .int .i64 0, .string ⟨#[]⟩, .slice none 0 0, .slice none 0 0, .slice none 0 0, .slice none 0 0], .row 30 7 (vb b1) 1 (svc S)] ++ (fam 3 zo rs ++ fam 9 sv os)) (fun (x, la, lc, xa, xc, xs, wa, wc, ws) => S.L - x) (0, la, lc, none, 0, [], none, 0, []) ⟨Nat.zero_le _, RowA.start _ _, rfl⟩ ⟨rfl, rfl, rfl, rfl, rfl, rfl, rfl, rfl, rfl, rfl, rfl, rfl, rfl, trivial⟩ (HSub.refl _) (fun ⟨x, la, lc, xa, xc, xs, wa, wc, ws⟩ ⟨hx, hrow, hws⟩ K2 hK2 => ?_)
    dsimp only
    have hwsl : ws.length = x := by rw [hws, owR_len]
    have hlnx := hlen (i * S.L + x)
    refine CT.seq (CT.region ?_)
    refine Wl.q rfl rfl (OpQ.lss rfl rfl) ?_
    refine Wl.nil (PX.then_n (CT.seq ?_))
    refine CT.cond rfl (fun h67 => ?_) (fun h67 => ?_)
    ·
     have h67 := of_decide_eq_true h67
     have hxl : x < S.L := by omega
     refine CT.skip (PX.then_n (CT.seq (CT.block (CT.seq (CT.region ?_)))))
     refine Wl.q rfl rfl (OpQ.move rfl) ?_
     refine Wl.q rfl rfl (OpQ.index1 zf0 zf1 rfl rfl (by omega) (hrs q (by omega) (by omega))) ?_
     refine Wl.q rfl rfl (OpQ.loadG zf8 rfl (fun w hH => (hH.use hS).r _ (getDm (show q < S.rs.length by omega))) (getMap zo (S.rs.getD q rx0).xs none (j := x) (by omega))) ?_
     refine Wl.know 70 (v' := zo (S.sq.to q x)) rfl (congrArg zo (S.to_eq q x).symm) ?_
     refine Wl.q rfl rfl (OpQ.assign rfl) ?_
     refine Wl.q rfl rfl (OpQ.assign rfl) ?_
     refine Wl.nil (PX.then_n (CT.seq (CT.seq (CT.region ?_))))
     refine Wl.q rfl rfl (OpQ.move rfl) ?_
     refine Wl.q rfl rfl (OpQ.lss rfl rfl) ?_
     refine Wl.q rfl rfl (OpQ.move rfl) ?_
     refine Wl.split 73 rfl (fun hg73 => ?_) (fun hg73 => ?_)
     ·
      have hno : S.sq.to q x = none := oi_neg.1 (by have := of_decide_eq_true hg73; have := oi_ge (S.sq.to q x); omega)
      have hst : (S.sq.tr.stC S.L) q x = none := by rw [Tr.stC, show S.sq.tr.to q x = none from hno]; rfl
      have hls : (bfsP (S.sq.tr.stC S.L) S.L S.s (i * S.L + (x + 1))) = (bfsP (S.sq.tr.stC S.L) S.L S.s (i * S.L + x)) := by rw [show i * S.L + (x + 1) = i * S.L + x + 1 from rfl, bfsP_addx hxl hlt, ← hq, hst]; rfl
      refine Wl.skip rfl rfl ?_
      refine Wl.skip rfl rfl ?_
      refine Wl.skip rfl rfl ?_
      refine Wl.skip rfl rfl ?_
      refine Wl.skip rfl rfl ?_
      refine Wl.q rfl rfl (OpQ.pickT rfl rfl) ?_
      refine Wl.nil (PX.then_n ?_)
      refine CT.condT rfl ?_
      refine CT.seq (CT.region ?_)
      refine Wl.q rfl rfl (OpQ.move rfl) ?_
      refine Wl.g rfl rfl (OpG.lit1 zf0 zf16 rfl rfl rfl) ?_
      rintro b81 _
      refine Wl.g rfl rfl (OpG.append zf0 zf16 (by rfl) (by decide) rfl rfl (p := 1) rfl (fun w hH => hH.rd .here) ⟨rfl, (by simp [Value.oneCell']), (by omega), (by omega)⟩ (nm := (x + 1)) rfl (all := (xs ++ [none]).map zo) (by rw [List.map_append]; rfl)) ?_
      rintro ⟨a82, c82⟩ h82
      refine Wl.q rfl rfl (OpQ.move rfl) ?_
      refine Wl.g rfl rfl (OpG.lit1 zf17 zf18 rfl rfl rfl) ?_
      rintro b84 _
      refine Wl.g rfl rfl (OpG.append zf17 zf18 (by rfl) (by decide) rfl rfl (p := 3) rfl (fun w hH => hH.rd .here) ⟨rfl, (by simp [Value.oneCell']), (by omega), (by omega)⟩ (nm := (x + 1)) rfl (all := (ws ++ [[]]).map sv) (by rw [List.map_append]; rfl)) ?_
      rintro ⟨a85, c85⟩ h85
      refine Wl.q rfl rfl (OpQ.assign rfl) ?_
      refine Wl.q rfl rfl (OpQ.assign rfl) ?_
      refine Wl.nil (PX.then_n (CT.exit (PX.then_x (PX.block_x (PX.then_n (CT.region ?_))))))
      refine Wl.q rfl rfl (OpQ.add rfl rfl (by omega)) ?_
      refine Wl.q rfl rfl (OpQ.move rfl) ?_
      refine Wl.nil ?_
      exact PX.loop hK2 (x + 1, la, lc, a82, c82, xs ++ [none], a85, c85, ws ++ [[]]) ⟨by omega, by rw [hls]; exact hrow.snoc (by rw [hst]; rfl), by rw [owR_s, ← hws, ow, hst]; rfl⟩ (show S.L - (x + 1) < S.L - x by omega) ⟨rfl, rfl, rfl, rfl, rfl, rfl, (lkV rfl (by rw [hls])), rfl, rfl, rfl, rfl, rfl, rfl, trivial⟩ (.drop (.drop (by dsimp only; rw [hls]; exact HSub.refl _)))
     ·
      obtain ⟨r, hto⟩ : ∃ r, S.sq.to q x = some r := oi_some (by have := of_decide_eq_false hg73; omega)
      have hr := hv.lt q x r hqn (show x < S.sq.L by show x < S.L; omega) hto
      have hrn : r < S.rs.length := by rw [← S.n_eq]; exact hr
      refine Wl.know 13 (v' := zn r) rfl (by rw [hto]; rfl) ?_
      refine Wl.q rfl rfl (OpQ.move rfl) ?_
      refine Wl.q rfl rfl (OpQ.move rfl) ?_
      refine Wl.q rfl rfl (OpQ.index1 zf25 zf44 rfl rfl (by omega) rfl) ?_
      refine Wl.q rfl rfl (OpQ.loadRow zf45 rfl (.there (.there (.there (.there (.there (.there (.there (.there (.there .here))))))))) (getMap bo U false (j := r) (by omega))) ?_
      refine Wl.know 77 (v' := .bool (S.sq.tr.co S.L r)) rfl (congrArg Value.bool (hUc r (hrch.next (show x < S.sq.L from hxl) hto))) ?_
      refine Wl.q rfl rfl (OpQ.not rfl) ?_
      refine Wl.q rfl rfl (OpQ.pickF rfl rfl) ?_
      refine Wl.nil (PX.then_n ?_)
      refine CT.cond rfl (fun h79 => ?_) (fun h79 => ?_)
      ·
       have hst : (S.sq.tr.stC S.L) q x = none := by rw [show (S.sq.tr.stC S.L) = S.sq.tr.stC S.sq.L from rfl, stC_of_co hto, if_neg (by show ¬ S.sq.tr.co S.L r = true; simpa using h79)]
       have hls : (bfsP (S.sq.tr.stC S.L) S.L S.s (i * S.L + (x + 1))) = (bfsP (S.sq.tr.stC S.L) S.L S.s (i * S.L + x)) := by rw [show i * S.L + (x + 1) = i * S.L + x + 1 from rfl, bfsP_addx hxl hlt, ← hq, hst]; rfl
       refine CT.seq (CT.region ?_)
       refine Wl.q rfl rfl (OpQ.move rfl) ?_
       refine Wl.g rfl rfl (OpG.lit1 zf0 zf16 rfl rfl rfl) ?_
       rintro b81 _
       refine Wl.g rfl rfl (OpG.append zf0 zf16 (by rfl) (by decide) rfl rfl (p := 1) rfl (fun w hH => hH.rd .here) ⟨rfl, (by simp [Value.oneCell']), (by omega), (by omega)⟩ (nm := (x + 1)) rfl (all := (xs ++ [none]).map zo) (by rw [List.map_append]; rfl)) ?_
       rintro ⟨a82, c82⟩ h82
       refine Wl.q rfl rfl (OpQ.move rfl) ?_
       refine Wl.g rfl rfl (OpG.lit1 zf17 zf18 rfl rfl rfl) ?_
       rintro b84 _
       refine Wl.g rfl rfl (OpG.append zf17 zf18 (by rfl) (by decide) rfl rfl (p := 3) rfl (fun w hH => hH.rd .here) ⟨rfl, (by simp [Value.oneCell']), (by omega), (by omega)⟩ (nm := (x + 1)) rfl (all := (ws ++ [[]]).map sv) (by rw [List.map_append]; rfl)) ?_
       rintro ⟨a85, c85⟩ h85
       refine Wl.q rfl rfl (OpQ.assign rfl) ?_
       refine Wl.q rfl rfl (OpQ.assign rfl) ?_
       refine Wl.nil (PX.then_n (CT.exit (PX.then_x (PX.block_x (PX.then_n (CT.region ?_))))))
       refine Wl.q rfl rfl (OpQ.add rfl rfl (by omega)) ?_
       refine Wl.q rfl rfl (OpQ.move rfl) ?_
       refine Wl.nil ?_
       exact PX.loop hK2 (x + 1, la, lc, a82, c82, xs ++ [none], a85, c85, ws ++ [[]]) ⟨by omega, by rw [hls]; exact hrow.snoc (by rw [hst]; rfl), by rw [owR_s, ← hws, ow, hst]; rfl⟩ (show S.L - (x + 1) < S.L - x by omega) ⟨rfl, rfl, rfl, rfl, rfl, rfl, (lkV rfl (by rw [hls])), rfl, rfl, rfl, rfl, rfl, rfl, trivial⟩ (.drop (.drop (by dsimp only; rw [hls]; exact HSub.refl _)))
      ·
       have hst : (S.sq.tr.stC S.L) q x = some r := by rw [show (S.sq.tr.stC S.L) = S.sq.tr.stC S.sq.L from rfl, stC_of_co hto, if_pos (by show S.sq.tr.co S.L r = true; simpa using h79)]
       refine CT.skip (PX.then_n ?_)
       refine CT.cut (ι := Option Addr × Nat) (Φ := fun (la, lc) => True) (E' := fun (la, lc) => [(1, .pointer (some ⟨b1, 0, none⟩)), (2, .pointer (some ⟨b2, 0, none⟩)), (3, .slice (some ⟨bu, 0, none⟩) S.rs.length S.rs.length), (4, .slice (some ⟨b28, 0, none⟩) S.rs.length S.rs.length), (7, .pointer (some ⟨b7, 0, none⟩)), (8, .int .i64 ((i : Nat) : Int)), (6, .slice la (bfsP (S.sq.tr.stC S.L) S.L S.s (i * S.L + (x + 1))).length lc), (9, .int .i64 ((q : Nat) : Int)), (10, .slice xa x xc), (11, .slice wa x wc), (64, rxv (S.rs.getD q rx0)), (65, .int .i64 ((S.L : Nat) : Int)), (66, .int .i64 ((x : Nat) : Int)), (12, .int .i64 ((x : Nat) : Int)), (13, .int .i64 ((r : Nat) : Int))]) (H' := fun (la, lc) => [.row 3 1 (.slice xa x xc) x (xs.map zo), .row 9 1 (.slice wa x wc) x (ws.map sv), .row 22 1 (.slice na' i nc') i (rs.map rxv), .row 28 1 (.slice oa' i oc') i (os.map rxv), .row 4 1 (.slice ea' i ec') i (es.map bo), .row 9 1 (.slice fa' i fc') i (fs.map sv), .row 30 7 (vb b7) 1 [zn S.L, .int .i64 0, sv S.init, .slice na' i nc', .slice oa' i oc', .slice ea' i ec', .slice fa' i fc'], .row 3 1 (.slice la (bfsP (S.sq.tr.stC S.L) S.L S.s (i * S.L + (x + 1))).length lc) (bfsP (S.sq.tr.stC S.L) S.L S.s (i * S.L + (x + 1))).length ((bfsP (S.sq.tr.stC S.L) S.L S.s (i * S.L + (x + 1))).map zn), .row 3 1 (.slice (some ⟨b28, 0, none⟩) S.rs.length S.rs.length) S.rs.length ((nmL S.rs.length (bfsP (S.sq.tr.stC S.L) S.L S.s (i * S.L + (x + 1)))).map zo), .row 4 1 (.slice (some ⟨bu, 0, none⟩) S.rs.length S.rs.length) S.rs.length (U.map bo), .row 30 7 (vb b2) 1 [.int .i64 0, .int .i64 0, .string ⟨#[]⟩, .slice none 0 0, .slice none 0 0, .slice none 0 0, .slice none 0 0], .row 30 7 (vb b1) 1 (svc S)] ++ (fam 3 zo rs ++ fam 9 sv os)) (fun K3 hK3 => ?_) (fun ⟨la, lc⟩ _ => ?_)
       ·
        refine CT.seq (CT.region ?_)
        refine Wl.q rfl rfl (OpQ.move rfl) ?_
        refine Wl.q rfl rfl (OpQ.move rfl) ?_
        refine Wl.q rfl rfl (OpQ.index1 zf0 zf1 rfl rfl (by omega) rfl) ?_
        refine Wl.q rfl rfl (OpQ.loadRow zf8 rfl (.there (.there (.there (.there (.there (.there (.there (.there .here)))))))) (getMap zo (nmL S.rs.length (bfsP (S.sq.tr.stC S.L) S.L S.s (i * S.L + x))) none (j := r) (by rw [nmL_len]; exact hrn))) ?_
        refine Wl.q rfl rfl (OpQ.eql rfl rfl) ?_
        refine Wl.nil (PX.then_n ?_)
        refine CT.cond rfl (fun h90 => ?_) (fun h90 => ?_)
        ·
         have h90 := of_decide_eq_true h90
         have hnl : r ∉ (bfsP (S.sq.tr.stC S.L) S.L S.s (i * S.L + x)) := fun hm => by rw [nmL_get hrn, if_pos hm] at h90; exact absurd (oi_neg.1 h90) (by simp)
         have hls : (bfsP (S.sq.tr.stC S.L) S.L S.s (i * S.L + (x + 1))) = (bfsP (S.sq.tr.stC S.L) S.L S.s (i * S.L + x)) ++ [r] := by rw [show i * S.L + (x + 1) = i * S.L + x + 1 from rfl, bfsP_addx hxl hlt, ← hq, hst, addO, if_neg hnl]
         refine CT.seq (CT.region ?_)
         refine Wl.q rfl rfl (OpQ.move rfl) ?_
         refine Wl.q rfl rfl (OpQ.move rfl) ?_
         refine Wl.q rfl rfl (OpQ.move rfl) ?_
         refine Wl.q rfl rfl (OpQ.len zf0 rfl) ?_
         refine Wl.q rfl rfl (OpQ.index1 zf0 zf1 rfl rfl (by omega) rfl) ?_
         refine Wl.g rfl rfl (OpG.storeRow zf1 rfl rfl rfl (.there (.there (.there (.there (.there (.there (.there (.there .here)))))))) (by rw [List.length_map, nmL_len]; exact hrn)) ?_
         rintro _ _
         refine Wl.nil (PX.then_n (CT.region ?_))
         refine Wl.q rfl rfl (OpQ.move rfl) ?_
         refine Wl.q rfl rfl (OpQ.move rfl) ?_
         refine Wl.g rfl rfl (OpG.lit1 zf0 zf16 rfl rfl rfl) ?_
         rintro b98 _
         refine Wl.g rfl rfl (OpG.append zf0 zf16 (by rfl) (by decide) rfl rfl (p := 8) rfl (fun w hH => hH.rd .here) ⟨rfl, (by simp [Value.oneCell']), (by omega), (by omega)⟩ (nm := ((bfsP (S.sq.tr.stC S.L) S.L S.s (i * S.L + x)).length + 1)) rfl (all := ((bfsP (S.sq.tr.stC S.L) S.L S.s (i * S.L + x)) ++ [r]).map zn) (by rw [List.map_append]; rfl)) ?_
         rintro ⟨a99, c99⟩ h99
         refine Wl.q rfl rfl (OpQ.assign rfl) ?_
         refine Wl.nil ?_
         exact PX.cut hK3 (a99, c99) trivial ⟨rfl, rfl, rfl, rfl, rfl, rfl, (lkV rfl (by rw [hls, List.length_append]; rfl)), rfl, rfl, rfl, rfl, rfl, rfl, rfl, rfl, trivial⟩ (.drop (by dsimp only; rw [hls, ← nmL_put hnl, List.length_append]; exact HSub.refl _))
        ·
         have h90 := of_decide_eq_false h90
         have hml : r ∈ (bfsP (S.sq.tr.stC S.L) S.L S.s (i * S.L + x)) := Classical.byContradiction fun hm => h90 (by rw [nmL_get hrn, if_neg hm]; rfl)
         have hls : (bfsP (S.sq.tr.stC S.L) S.L S.s (i * S.L + (x + 1))) = (bfsP (S.sq.tr.stC S.L) S.L S.s (i * S.L + x)) := by rw [show i * S.L + (x + 1) = i * S.L + x + 1 from rfl, bfsP_addx hxl hlt, ← hq, hst, addO, if_pos hml]
         refine CT.skip ?_
         exact PX.cut hK3 (la, lc) trivial ⟨rfl, rfl, rfl, rfl, rfl, rfl, (lkV rfl (by rw [hls])), rfl, rfl, rfl, rfl, rfl, rfl, rfl, rfl, trivial⟩ (by dsimp only; rw [hls]; exact HSub.refl _)
       ·
        dsimp only
        have hmr : r ∈ (bfsP (S.sq.tr.stC S.L) S.L S.s (i * S.L + (x + 1))) := by rw [show i * S.L + (x + 1) = i * S.L + x + 1 from rfl, bfsP_addx hxl hlt, ← hq, hst]; exact addO_mem.2 (.inr rfl)
        have hrow2 : RowA (S.sq.tr.stC S.L) (bfsP (S.sq.tr.stC S.L) S.L S.s (i * S.L + (x + 1))) q x xs := by
         obtain ⟨t, ht, _⟩ := bfsP_succ (st := (S.sq.tr.stC S.L)) (L := S.L) (s := S.s) (i * S.L + x)
         rw [show (bfsP (S.sq.tr.stC S.L) S.L S.s (i * S.L + (x + 1))) = (bfsP (S.sq.tr.stC S.L) S.L S.s (i * S.L + x)) ++ t from ht]; exact hrow.grow
        refine CT.draw' (Hc := [.row 22 1 (.slice na' i nc') i (rs.map rxv), .row 28 1 (.slice oa' i oc') i (os.map rxv), .row 4 1 (.slice ea' i ec') i (es.map bo), .row 9 1 (.slice fa' i fc') i (fs.map sv), .row 30 7 (vb b7) 1 [zn S.L, .int .i64 0, sv S.init, .slice na' i nc', .slice oa' i oc', .slice ea' i ec', .slice fa' i fc'], .row 3 1 (.slice la (bfsP (S.sq.tr.stC S.L) S.L S.s (i * S.L + (x + 1))).length lc) (bfsP (S.sq.tr.stC S.L) S.L S.s (i * S.L + (x + 1))).length ((bfsP (S.sq.tr.stC S.L) S.L S.s (i * S.L + (x + 1))).map zn), .row 3 1 (.slice (some ⟨b28, 0, none⟩) S.rs.length S.rs.length) S.rs.length ((nmL S.rs.length (bfsP (S.sq.tr.stC S.L) S.L S.s (i * S.L + (x + 1)))).map zo), .row 4 1 (.slice (some ⟨bu, 0, none⟩) S.rs.length S.rs.length) S.rs.length (U.map bo), .row 30 7 (vb b2) 1 [.int .i64 0, .int .i64 0, .string ⟨#[]⟩, .slice none 0 0, .slice none 0 0, .slice none 0 0, .slice none 0 0], .row 30 7 (vb b1) 1 (svc S)] ++ (fam 3 zo rs ++ fam 9 sv os)) 20 zf6 ?_
        refine RA.q 0 (by kernel_rfl) rfl rfl rfl (.cons _ (.cons _ (.refl _))) (OpQ.move rfl) ?_
        refine RA.q 1 (by kernel_rfl) rfl rfl rfl (.cons _ (.cons _ (.refl _))) (OpQ.move rfl) ?_
        refine RA.q 2 (by kernel_rfl) rfl rfl rfl (.cons _ (.cons _ (.refl _))) (OpQ.move rfl) ?_
        refine RA.q 3 (by kernel_rfl) rfl rfl rfl (.cons _ (.cons _ (.refl _))) (OpQ.index1 zf0 zf1 rfl rfl (by omega) rfl) ?_
        refine RA.q 4 (by kernel_rfl) rfl rfl rfl (.cons _ (.cons _ (.refl _))) (OpQ.loadRow zf8 rfl (.there (.there (.there (.there (.there (.there .here)))))) (getMap zo (nmL S.rs.length (bfsP (S.sq.tr.stC S.L) S.L S.s (i * S.L + (x + 1)))) none (j := r) (by rw [nmL_len]; exact hrn))) ?_
        refine RA.know 104 (v' := zo (some ((bfsP (S.sq.tr.stC S.L) S.L S.s (i * S.L + (x + 1))).idxOf r))) rfl (congrArg zo (by rw [nmL_get hrn, if_pos hmr])) ?_
        refine RA.q 7 (by kernel_rfl) rfl rfl rfl (.cons _ (.cons _ (.refl _))) (OpQ.move rfl) ?_
        refine RA.q 8 (by kernel_rfl) rfl rfl rfl (.cons _ (.cons _ (.refl _))) (OpQ.fieldAddr zf34 rfl) ?_
        refine RA.q 9 (by kernel_rfl) rfl rfl rfl (.cons _ (.cons _ (.refl _))) (OpQ.loadF (b := b1) zf35 rfl (by repeat (first | exact Has.here | apply Has.there)) (by rfl)) ?_
        refine RA.q 10 (by kernel_rfl) rfl rfl rfl (.cons _ (.cons _ (.refl _))) (OpQ.move rfl) ?_
        refine RA.q 11 (by kernel_rfl) rfl rfl rfl (.cons _ (.cons _ (.refl _))) (OpQ.index1 zf23 zf36 rfl rfl (by omega) (hos (by omega))) ?_
        refine RA.q 12 (by kernel_rfl) rfl rfl rfl (.cons _ (.cons _ (.refl _))) (OpQ.loadG zf37 rfl (fun w hH => (hH.use hS).o) (getMap rxv S.os rx0 (j := q) (by omega))) ?_
        refine RA.q 13 (by kernel_rfl) rfl rfl rfl (.cons _ (.cons _ (.refl _))) (OpQ.move rfl) ?_
        refine RA.q 14 (by kernel_rfl) rfl rfl rfl (.cons _ (.cons _ (.refl _))) (OpQ.index1 zf17 zf38 rfl rfl (by omega) (hus q (by omega) (by omega))) ?_
        refine RA.q 15 (by kernel_rfl) rfl rfl rfl (.cons _ (.cons _ (.refl _))) (OpQ.loadG zf39 rfl (fun w hH => (hH.use hS).u _ (getDm (show q < S.os.length by omega))) (getMap sv (S.os.getD q rx0).xs [] (j := x) (by omega))) ?_
        refine RA.know 115 (v' := sv (S.sq.o q x)) rfl (congrArg sv (S.o_eq q x).symm) ?_
        refine RA.as (L := [dmy, dmy, .row 3 1 (.slice xa x xc) x (xs.map zo), .row 9 1 (.slice wa x wc) x (ws.map sv)] ++ ([.row 22 1 (.slice na' i nc') i (rs.map rxv), .row 28 1 (.slice oa' i oc') i (os.map rxv), .row 4 1 (.slice ea' i ec') i (es.map bo), .row 9 1 (.slice fa' i fc') i (fs.map sv), .row 30 7 (vb b7) 1 [zn S.L, .int .i64 0, sv S.init, .slice na' i nc', .slice oa' i oc', .slice ea' i ec', .slice fa' i fc'], .row 3 1 (.slice la (bfsP (S.sq.tr.stC S.L) S.L S.s (i * S.L + (x + 1))).length lc) (bfsP (S.sq.tr.stC S.L) S.L S.s (i * S.L + (x + 1))).length ((bfsP (S.sq.tr.stC S.L) S.L S.s (i * S.L + (x + 1))).map zn), .row 3 1 (.slice (some ⟨b28, 0, none⟩) S.rs.length S.rs.length) S.rs.length ((nmL S.rs.length (bfsP (S.sq.tr.stC S.L) S.L S.s (i * S.L + (x + 1)))).map zo), .row 4 1 (.slice (some ⟨bu, 0, none⟩) S.rs.length S.rs.length) S.rs.length (U.map bo), .row 30 7 (vb b2) 1 [.int .i64 0, .int .i64 0, .string ⟨#[]⟩, .slice none 0 0, .slice none 0 0, .slice none 0 0, .slice none 0 0], .row 30 7 (vb b1) 1 (svc S)] ++ (fam 3 zo rs ++ fam 9 sv os))) (fun _ h => h.dmy 2) ?_
        refine RA.many (it := fun | 5 => Itm.new 105 0 5 (fun b => .slice (some ⟨b, 0, none⟩) 1 1) (fun b => .row 3 1 (.slice (some ⟨b, 0, none⟩) 1 1) 1 [zo (some ((bfsP (S.sq.tr.stC S.L) S.L S.s (i * S.L + (x + 1))).idxOf r))]) | 6 => Itm.own 106 2 6 [5] (fun pl => .slice pl.1 (x + 1) pl.2) (fun pl => .row 3 1 (.slice pl.1 (x + 1) pl.2) (x + 1) ((xs ++ [some ((bfsP (S.sq.tr.stC S.L) S.L S.s (i * S.L + (x + 1))).idxOf r)]).map zo)) (fun pl => x + 1 ≠ 0 → pl.1.isSome = true) | 16 => Itm.new 116 1 16 (fun b => .slice (some ⟨b, 0, none⟩) 1 1) (fun b => .row 9 1 (.slice (some ⟨b, 0, none⟩) 1 1) 1 [sv (S.sq.o q x)]) | 17 => Itm.own 117 3 17 [6, 16] (fun pl => .slice pl.1 (x + 1) pl.2) (fun pl => .row 9 1 (.slice pl.1 (x + 1) pl.2) (x + 1) ((ws ++ [S.sq.o q x]).map sv)) (fun pl => x + 1 ≠ 0 → pl.1.isSome = true) | _ => Itm.none) (A := [dmy, dmy, .row 3 1 (.slice xa x xc) x (xs.map zo), .row 9 1 (.slice wa x wc) x (ws.map sv)]) [5, 6, 16, 17] 4 rfl (by kernel_rfl) rfl (all_cons Itm.loc_new (all_cons Itm.loc_own (all_cons Itm.loc_new (all_cons Itm.loc_own all_nil)))) (all_cons (Good.new' rfl rfl (Nat.lt_of_lt_of_le (by decide) (Nat.le_add_left 2 _)) (fun D g hD => OpG.lit1 zf0 zf16 rfl (ev_base rfl rfl hD) rfl)) (all_cons (Good.own rfl rfl (fun D g hD hd => OpG.append zf0 zf16 (by rfl) (by decide) (ev_base rfl rfl hD) (ev_dep rfl hD (hd 5 (.head _)) rfl rfl) (p := 2) (mk_base rfl (.tail _ (.head _)) hD rfl rfl) (fun w hH => hH.rdAt (mk_at (p := 0) rfl hD (hd 5 (.head _)) rfl rfl (by exact (Nat.succ_pos _)))) ⟨rfl, (by simp [Value.oneCell']), (by omega), (by omega)⟩ (nm := x + 1) rfl (all := (xs ++ [some ((bfsP (S.sq.tr.stC S.L) S.L S.s (i * S.L + (x + 1))).idxOf r)]).map zo) (by rw [List.map_append]; rfl))) (all_cons (Good.new' rfl rfl (Nat.lt_of_lt_of_le (by decide) (Nat.le_add_left 2 _)) (fun D g hD => OpG.lit1 zf17 zf18 rfl (ev_base rfl rfl hD) rfl)) (all_cons (Good.own rfl rfl (fun D g hD hd => OpG.append zf17 zf18 (by rfl) (by decide) (ev_base rfl rfl hD) (ev_dep rfl hD (hd 16 (.tail _ (.head _))) rfl rfl) (p := 3) (mk_base rfl (.tail _ (.tail _ (.tail _ (.head _)))) hD rfl rfl) (fun w hH => hH.rdAt (mk_at (p := 1) rfl hD (hd 16 (.tail _ (.head _))) rfl rfl (by exact (Nat.succ_lt_succ (Nat.succ_pos _))))) ⟨rfl, (by simp [Value.oneCell']), (by omega), (by omega)⟩ (nm := x + 1) rfl (all := (ws ++ [S.sq.o q x]).map sv) (by rw [List.map_append]; rfl))) all_nil)))) (fun g _ => ?_)
        show RA _ _ _ _ _ _ _ ((105, .slice (some ⟨(g 5).2, 0, none⟩) 1 1) :: (106, .slice (g 6).1 (x + 1) (g 6).2) :: (116, .slice (some ⟨(g 16).2, 0, none⟩) 1 1) :: (117, .slice (g 17).1 (x + 1) (g 17).2) :: _) ([.row 3 1 (.slice (some ⟨(g 5).2, 0, none⟩) 1 1) 1 [zo (some ((bfsP (S.sq.tr.stC S.L) S.L S.s (i * S.L + (x + 1))).idxOf r))], .row 9 1 (.slice (some ⟨(g 16).2, 0, none⟩) 1 1) 1 [sv (S.sq.o q x)], .row 3 1 (.slice (g 6).1 (x + 1) (g 6).2) (x + 1) ((xs ++ [some ((bfsP (S.sq.tr.stC S.L) S.L S.s (i * S.L + (x + 1))).idxOf r)]).map zo), .row 9 1 (.slice (g 17).1 (x + 1) (g 17).2) (x + 1) ((ws ++ [S.sq.o q x]).map sv)] ++ ([.row 22 1 (.slice na' i nc') i (rs.map rxv), .row 28 1 (.slice oa' i oc') i (os.map rxv), .row 4 1 (.slice ea' i ec') i (es.map bo), .row 9 1 (.slice fa' i fc') i (fs.map sv), .row 30 7 (vb b7) 1 [zn S.L, .int .i64 0, sv S.init, .slice na' i nc', .slice oa' i oc', .slice ea' i ec', .slice fa' i fc'], .row 3 1 (.slice la (bfsP (S.sq.tr.stC S.L) S.L S.s (i * S.L + (x + 1))).length lc) (bfsP (S.sq.tr.stC S.L) S.L S.s (i * S.L + (x + 1))).length ((bfsP (S.sq.tr.stC S.L) S.L S.s (i * S.L + (x + 1))).map zn), .row 3 1 (.slice (some ⟨b28, 0, none⟩) S.rs.length S.rs.length) S.rs.length ((nmL S.rs.length (bfsP (S.sq.tr.stC S.L) S.L S.s (i * S.L + (x + 1)))).map zo), .row 4 1 (.slice (some ⟨bu, 0, none⟩) S.rs.length S.rs.length) S.rs.length (U.map bo), .row 30 7 (vb b2) 1 [.int .i64 0, .int .i64 0, .string ⟨#[]⟩, .slice none 0 0, .slice none 0 0, .slice none 0 0, .slice none 0 0], .row 30 7 (vb b1) 1 (svc S)] ++ (fam 3 zo rs ++ fam 9 sv os)))
        generalize (g 6).1 = a106
        generalize (g 17).1 = a117
        generalize (g 6).2 = c106
        generalize (g 17).2 = c117
        generalize (g 5).2 = b105
        generalize (g 16).2 = b116
        refine RA.q 18 (by kernel_rfl) rfl rfl rfl (.cons _ (.cons _ (.cons _ (.cons _ (.refl _))))) (OpQ.assign rfl) ?_
        refine RA.q 19 (by kernel_rfl) rfl rfl rfl (.cons _ (.cons _ (.cons _ (.cons _ (.refl _))))) (OpQ.assign rfl) ?_
        refine RA.tail ?_
        refine RT.done (by kernel_rfl) ?_
        refine PX.block_n (PX.then_n (CT.region ?_))
        refine Wl.q rfl rfl (OpQ.add rfl rfl (by omega)) ?_
        refine Wl.q rfl rfl (OpQ.move rfl) ?_
        refine Wl.nil ?_
        exact PX.loop hK2 (x + 1, la, lc, a106, c106, xs ++ [some ((bfsP (S.sq.tr.stC S.L) S.L S.s (i * S.L + (x + 1))).idxOf r)], a117, c117, ws ++ [S.sq.o q x]) ⟨by omega, hrow2.snoc (by rw [hst]; exact EntA.of hmr), by rw [owR_s, ← hws, ow, hst]; rfl⟩ (show S.L - (x + 1) < S.L - x by omega) ⟨rfl, rfl, rfl, rfl, rfl, rfl, rfl, rfl, rfl, rfl, rfl, rfl, rfl, trivial⟩ (.drop (.drop (HSub.refl _)))
    ·
     have h67 := of_decide_eq_false h67
     obtain rfl : x = S.L := by omega
     refine CT.as (fun _ h => HOk.rot (A := [_, _]) (B := [_, _, _, _]) h) ?_
     obtain ⟨t2, ht2⟩ := bfsP_pre (st := (S.sq.tr.stC S.L)) (L := S.L) (s := S.s) (i * S.L) S.L
     have hcp2 : CpI (S.sq.tr.stC S.L) S.sq.tr S.L S.s (bfsP (S.sq.tr.stC S.L) S.L S.s (i * S.L + S.L)) i rs os es fs := by rw [ht2]; exact hcp.grow
     have hq2 : (bfsP (S.sq.tr.stC S.L) S.L S.s (i * S.L + S.L)).getD i S.s = q := by rw [ht2, getD_grow hlt, ← hq]
     have hiE : i < (bfsP (S.sq.tr.stC S.L) S.L S.s (i * S.L + S.L)).length := by rw [ht2, List.length_append]; omega
     refine CT.exit (PX.then_x (PX.then_x (PX.block_x (PX.then_n ?_))))
     refine CT.draw' (Hc := [.row 3 1 (.slice xa S.L xc) S.L (xs.map zo), .row 9 1 (.slice wa S.L wc) S.L (ws.map sv), .row 30 7 (vb b7) 1 [zn S.L, .int .i64 0, sv S.init, .slice na' i nc', .slice oa' i oc', .slice ea' i ec', .slice fa' i fc'], .row 3 1 (.slice la (bfsP (S.sq.tr.stC S.L) S.L S.s (i * S.L + S.L)).length lc) (bfsP (S.sq.tr.stC S.L) S.L S.s (i * S.L + S.L)).length ((bfsP (S.sq.tr.stC S.L) S.L S.s (i * S.L + S.L)).map zn), .row 3 1 (.slice (some ⟨b28, 0, none⟩) S.rs.length S.rs.length) S.rs.length ((nmL S.rs.length (bfsP (S.sq.tr.stC S.L) S.L S.s (i * S.L + S.L))).map zo), .row 4 1 (.slice (some ⟨bu, 0, none⟩) S.rs.length S.rs.length) S.rs.length (U.map bo), .row 30 7 (vb b2) 1 [.int .i64 0, .int .i64 0, .string ⟨#[]⟩, .slice none 0 0, .slice none 0 0, .slice none 0 0, .slice none 0 0], .row 30 7 (vb b1) 1 (svc S)] ++ (fam 3 zo rs ++ fam 9 sv os)) 29 zf6 ?_
     refine RA.q 0 (by kernel_rfl) rfl rfl rfl (.cons _ (.cons _ (.cons _ (.cons _ (.refl _))))) (OpQ.fieldAddr zf30 rfl) ?_
     refine RA.q 1 (by kernel_rfl) rfl rfl rfl (.cons _ (.cons _ (.cons _ (.cons _ (.refl _))))) (OpQ.loadF (b := b7) zf31 rfl (by repeat (first | exact Has.here | apply Has.there)) (by rfl)) ?_
     refine RA.q 2 (by kernel_rfl) rfl rfl rfl (.cons _ (.cons _ (.cons _ (.cons _ (.refl _))))) (OpQ.move rfl) ?_
     refine RA.q 5 (by kernel_rfl) rfl rfl rfl (.cons _ (.cons _ (.cons _ (.cons _ (.refl _))))) (OpQ.fieldAddr zf34 rfl) ?_
     refine RA.q 6 (by kernel_rfl) rfl rfl rfl (.cons _ (.cons _ (.cons _ (.cons _ (.refl _))))) (OpQ.loadF (b := b7) zf35 rfl (by repeat (first | exact Has.here | apply Has.there)) (by rfl)) ?_
     refine RA.q 7 (by kernel_rfl) rfl rfl rfl (.cons _ (.cons _ (.cons _ (.cons _ (.refl _))))) (OpQ.move rfl) ?_
     refine RA.q 10 (by kernel_rfl) rfl rfl rfl (.cons _ (.cons _ (.cons _ (.cons _ (.refl _))))) (OpQ.fieldAddr zf42 rfl) ?_
     refine RA.q 11 (by kernel_rfl) rfl rfl rfl (.cons _ (.cons _ (.cons _ (.cons _ (.refl _))))) (OpQ.loadF (b := b7) zf43 rfl (by repeat (first | exact Has.here | apply Has.there)) (by rfl)) ?_
     refine RA.q 12 (by kernel_rfl) rfl rfl rfl (.cons _ (.cons _ (.cons _ (.cons _ (.refl _))))) (OpQ.fieldAddr zf42 rfl) ?_
     refine RA.q 13 (by kernel_rfl) rfl rfl rfl (.cons _ (.cons _ (.cons _ (.cons _ (.refl _))))) (OpQ.loadF (b := b1) zf43 rfl (by repeat (first | exact Has.here | apply Has.there)) (by rfl)) ?_
     refine RA.q 14 (by kernel_rfl) rfl rfl rfl (.cons _ (.cons _ (.cons _ (.cons _ (.refl _))))) (OpQ.move rfl) ?_
     refine RA.q 15 (by kernel_rfl) rfl rfl rfl (.cons _ (.cons _ (.cons _ (.cons _ (.refl _))))) (OpQ.index1 zf25 zf44 rfl rfl (by omega) (hes (by omega))) ?_
     refine RA.q 16 (by kernel_rfl) rfl rfl rfl (.cons _ (.cons _ (.cons _ (.cons _ (.refl _))))) (OpQ.loadG zf45 rfl (fun w hH => (hH.use hS).e) (getMap bo S.en false (j := q) (by omega))) ?_
     refine RA.know 135 (v' := .bool (S.sq.e q)) rfl rfl ?_
     refine RA.q 19 (by kernel_rfl) rfl rfl rfl (.cons _ (.cons _ (.cons _ (.cons _ (.refl _))))) (OpQ.fieldAddr zf41 rfl) ?_
     refine RA.q 20 (by kernel_rfl) rfl rfl rfl (.cons _ (.cons _ (.cons _ (.cons _ (.refl _))))) (OpQ.loadF (b := b7) zf37 rfl (by repeat (first | exact Has.here | apply Has.there)) (by rfl)) ?_
     refine RA.q 21 (by kernel_rfl) rfl rfl rfl (.cons _ (.cons _ (.cons _ (.cons _ (.refl _))))) (OpQ.fieldAddr zf41 rfl) ?_
     refine RA.q 22 (by kernel_rfl) rfl rfl rfl (.cons _ (.cons _ (.cons _ (.cons _ (.refl _))))) (OpQ.loadF (b := b1) zf37 rfl (by repeat (first | exact Has.here | apply Has.there)) (by rfl)) ?_
     refine RA.q 23 (by kernel_rfl) rfl rfl rfl (.cons _ (.cons _ (.cons _ (.cons _ (.refl _))))) (OpQ.move rfl) ?_
     refine RA.q 24 (by kernel_rfl) rfl rfl rfl (.cons _ (.cons _ (.cons _ (.cons _ (.refl _))))) (OpQ.index1 zf17 zf38 rfl rfl (by omega) (hfs (by omega))) ?_
     refine RA.q 25 (by kernel_rfl) rfl rfl rfl (.cons _ (.cons _ (.cons _ (.cons _ (.refl _))))) (OpQ.loadG zf39 rfl (fun w hH => (hH.use hS).f) (getMap sv S.fi [] (j := q) (by omega))) ?_
     refine RA.know 144 (v' := sv (S.sq.f q)) rfl rfl ?_
     refine RA.as (L := [dmy, dmy, dmy, dmy, dmy, .row 22 1 (.slice na' i nc') i (rs.map rxv), .row 28 1 (.slice oa' i oc') i (os.map rxv), .row 4 1 (.slice ea' i ec') i (es.map bo), .row 9 1 (.slice fa' i fc') i (fs.map sv)] ++ ([.row 3 1 (.slice xa S.L xc) S.L (xs.map zo), .row 9 1 (.slice wa S.L wc) S.L (ws.map sv), .row 30 7 (vb b7) 1 [zn S.L, .int .i64 0, sv S.init, .slice na' i nc', .slice oa' i oc', .slice ea' i ec', .slice fa' i fc'], .row 3 1 (.slice la (bfsP (S.sq.tr.stC S.L) S.L S.s (i * S.L + S.L)).length lc) (bfsP (S.sq.tr.stC S.L) S.L S.s (i * S.L + S.L)).length ((bfsP (S.sq.tr.stC S.L) S.L S.s (i * S.L + S.L)).map zn), .row 3 1 (.slice (some ⟨b28, 0, none⟩) S.rs.length S.rs.length) S.rs.length ((nmL S.rs.length (bfsP (S.sq.tr.stC S.L) S.L S.s (i * S.L + S.L))).map zo), .row 4 1 (.slice (some ⟨bu, 0, none⟩) S.rs.length S.rs.length) S.rs.length (U.map bo), .row 30 7 (vb b2) 1 [.int .i64 0, .int .i64 0, .string ⟨#[]⟩, .slice none 0 0, .slice none 0 0, .slice none 0 0, .slice none 0 0], .row 30 7 (vb b1) 1 (svc S)] ++ (fam 3 zo rs ++ fam 9 sv os))) (fun _ h => h.dmy 5) ?_
     refine RA.many (it := fun | 3 => Itm.new 122 0 3 (fun b => .slice (some ⟨b, 0, none⟩) 1 1) (fun b => .row 22 1 (.slice (some ⟨b, 0, none⟩) 1 1) 1 [.slice xa S.L xc]) | 4 => Itm.own 123 5 4 [3] (fun pl => .slice pl.1 (i + 1) pl.2) (fun pl => .row 22 1 (.slice pl.1 (i + 1) pl.2) (i + 1) ((rs ++ [(⟨xa, xc, xs⟩ : Rx (Option Nat))]).map rxv)) (fun pl => i + 1 ≠ 0 → pl.1.isSome = true) | 8 => Itm.new 127 1 8 (fun b => .slice (some ⟨b, 0, none⟩) 1 1) (fun b => .row 28 1 (.slice (some ⟨b, 0, none⟩) 1 1) 1 [.slice wa S.L wc]) | 9 => Itm.own 128 6 9 [4, 8] (fun pl => .slice pl.1 (i + 1) pl.2) (fun pl => .row 28 1 (.slice pl.1 (i + 1) pl.2) (i + 1) ((os ++ [(⟨wa, wc, ws⟩ : Rx Wd)]).map rxv)) (fun pl => i + 1 ≠ 0 → pl.1.isSome = true) | 17 => Itm.new 136 2 17 (fun b => .slice (some ⟨b, 0, none⟩) 1 1) (fun b => .row 4 1 (.slice (some ⟨b, 0, none⟩) 1 1) 1 [.bool (S.sq.e q)]) | 18 => Itm.own 137 7 18 [9, 17] (fun pl => .slice pl.1 (i + 1) pl.2) (fun pl => .row 4 1 (.slice pl.1 (i + 1) pl.2) (i + 1) ((es ++ [S.sq.e q]).map bo)) (fun pl => i + 1 ≠ 0 → pl.1.isSome = true) | 26 => Itm.new 145 3 26 (fun b => .slice (some ⟨b, 0, none⟩) 1 1) (fun b => .row 9 1 (.slice (some ⟨b, 0, none⟩) 1 1) 1 [sv (S.sq.f q)]) | 27 => Itm.own 146 8 27 [18, 26] (fun pl => .slice pl.1 (i + 1) pl.2) (fun pl => .row 9 1 (.slice pl.1 (i + 1) pl.2) (i + 1) ((fs ++ [S.sq.f q]).map sv)) (fun pl => i + 1 ≠ 0 → pl.1.isSome = true) | 28 => ⟨147, 4, [3, 4], fun g => .pointer (some ((⟨b7, 0, none⟩ : Addr).add 3)), fun _ => dmy, fun _ => True⟩ | _ => Itm.none) (A := [dmy, dmy, dmy, dmy, dmy, .row 22 1 (.slice na' i nc') i (rs.map rxv), .row 28 1 (.slice oa' i oc') i (os.map rxv), .row 4 1 (.slice ea' i ec') i (es.map bo), .row 9 1 (.slice fa' i fc') i (fs.map sv)]) [3, 4, 8, 9, 17, 18, 26, 27, 28] 9 rfl (by kernel_rfl) rfl (all_cons Itm.loc_new (all_cons Itm.loc_own (all_cons Itm.loc_new (all_cons Itm.loc_own (all_cons Itm.loc_new (all_cons Itm.loc_own (all_cons Itm.loc_new (all_cons Itm.loc_own (all_cons (fun g g' h => ⟨rfl, rfl, fun h => h⟩) all_nil))))))))) (all_cons (Good.new' rfl rfl (Nat.lt_of_lt_of_le (by decide) (Nat.le_add_left 5 _)) (fun D g hD => OpG.lit1 zf21 zf22 rfl (ev_base rfl rfl hD) rfl)) (all_cons (Good.own rfl rfl (fun D g hD hd => OpG.append zf21 zf22 (by rfl) (by decide) (ev_base rfl rfl hD) (ev_dep rfl hD (hd 3 (.head _)) rfl rfl) (p := 5) (mk_base rfl (.tail _ (.head _)) hD rfl rfl) (fun w hH => hH.rdAt (mk_at (p := 0) rfl hD (hd 3 (.head _)) rfl rfl (by exact (Nat.succ_pos _)))) ⟨rfl, (by simp [Value.oneCell']), (by omega), (by omega)⟩ (nm := i + 1) rfl (all := (rs ++ [(⟨xa, xc, xs⟩ : Rx (Option Nat))]).map rxv) (by rw [List.map_append, List.map_singleton, show rxv (⟨xa, xc, xs⟩ : Rx (Option Nat)) = .slice xa S.L xc from by show Value.slice _ xs.length _ = _; rw [hrow.len]]))) (all_cons (Good.new' rfl rfl (Nat.lt_of_lt_of_le (by decide) (Nat.le_add_left 5 _)) (fun D g hD => OpG.lit1 zf23 zf24 rfl (ev_base rfl rfl hD) rfl)) (all_cons (Good.own rfl rfl (fun D g hD hd => OpG.append zf23 zf24 (by rfl) (by decide) (ev_base rfl rfl hD) (ev_dep rfl hD (hd 8 (.tail _ (.head _))) rfl rfl) (p := 6) (mk_base rfl (.tail _ (.tail _ (.tail _ (.head _)))) hD rfl rfl) (fun w hH => hH.rdAt (mk_at (p := 1) rfl hD (hd 8 (.tail _ (.head _))) rfl rfl (by exact (Nat.succ_lt_succ (Nat.succ_pos _))))) ⟨rfl, (by simp [Value.oneCell']), (by omega), (by omega)⟩ (nm := i + 1) rfl (all := (os ++ [(⟨wa, wc, ws⟩ : Rx Wd)]).map rxv) (by rw [List.map_append, List.map_singleton, show rxv (⟨wa, wc, ws⟩ : Rx Wd) = .slice wa S.L wc from by show Value.slice _ ws.length _ = _; rw [hwsl]]))) (all_cons (Good.new' rfl rfl (Nat.lt_of_lt_of_le (by decide) (Nat.le_add_left 5 _)) (fun D g hD => OpG.lit1 zf25 zf26 rfl (ev_base rfl rfl hD) rfl)) (all_cons (Good.own rfl rfl (fun D g hD hd => OpG.append zf25 zf26 (by rfl) (by decide) (ev_base rfl rfl hD) (ev_dep rfl hD (hd 17 (.tail _ (.head _))) rfl rfl) (p := 7) (mk_base rfl (.tail _ (.tail _ (.tail _ (.tail _ (.tail _ (.head _)))))) hD rfl rfl) (fun w hH => hH.rdAt (mk_at (p := 2) rfl hD (hd 17 (.tail _ (.head _))) rfl rfl (by exact (Nat.succ_lt_succ (Nat.succ_lt_succ (Nat.succ_pos _)))))) ⟨rfl, (by simp [Value.oneCell']), (by omega), (by omega)⟩ (nm := i + 1) rfl (all := (es ++ [S.sq.e q]).map bo) (by rw [List.map_append]; rfl))) (all_cons (Good.new' rfl rfl (Nat.lt_of_lt_of_le (by decide) (Nat.le_add_left 5 _)) (fun D g hD => OpG.lit1 zf17 zf18 rfl (ev_base rfl rfl hD) rfl)) (all_cons (Good.own rfl rfl (fun D g hD hd => OpG.append zf17 zf18 (by rfl) (by decide) (ev_base rfl rfl hD) (ev_dep rfl hD (hd 26 (.tail _ (.head _))) rfl rfl) (p := 8) (mk_base rfl (.tail _ (.tail _ (.tail _ (.tail _ (.tail _ (.tail _ (.tail _ (.head _)))))))) hD rfl rfl) (fun w hH => hH.rdAt (mk_at (p := 3) rfl hD (hd 26 (.tail _ (.head _))) rfl rfl (by exact (Nat.succ_lt_succ (Nat.succ_lt_succ (Nat.succ_lt_succ (Nat.succ_pos _))))))) ⟨rfl, (by simp [Value.oneCell']), (by omega), (by omega)⟩ (nm := i + 1) rfl (all := (fs ++ [S.sq.f q]).map sv) (by rw [List.map_append]; rfl))) (all_cons (Good.quiet rfl (fun _ => rfl) rfl (.tail _ (.tail _ (.tail _ (.tail _ (.tail _ (.tail _ (.tail _ (.tail _ (.head _))))))))) (fun _ => trivial) (fun g g' h => rfl) (fun D g hD hd => OpQ.fieldAddr zf30 (ev_base rfl rfl hD)) rfl) all_nil))))))))) (fun g _ => ?_)
     show RA _ _ _ _ _ _ _ ((122, .slice (some ⟨(g 3).2, 0, none⟩) 1 1) :: (123, .slice (g 4).1 (i + 1) (g 4).2) :: (127, .slice (some ⟨(g 8).2, 0, none⟩) 1 1) :: (128, .slice (g 9).1 (i + 1) (g 9).2) :: (136, .slice (some ⟨(g 17).2, 0, none⟩) 1 1) :: (137, .slice (g 18).1 (i + 1) (g 18).2) :: (145, .slice (some ⟨(g 26).2, 0, none⟩) 1 1) :: (146, .slice (g 27).1 (i + 1) (g 27).2) :: (147, .pointer (some ((⟨b7, 0, none⟩ : Addr).add 3))) :: _) ([.row 22 1 (.slice (some ⟨(g 3).2, 0, none⟩) 1 1) 1 [.slice xa S.L xc], .row 28 1 (.slice (some ⟨(g 8).2, 0, none⟩) 1 1) 1 [.slice wa S.L wc], .row 4 1 (.slice (some ⟨(g 17).2, 0, none⟩) 1 1) 1 [.bool (S.sq.e q)], .row 9 1 (.slice (some ⟨(g 26).2, 0, none⟩) 1 1) 1 [sv (S.sq.f q)], dmy, .row 22 1 (.slice (g 4).1 (i + 1) (g 4).2) (i + 1) ((rs ++ [(⟨xa, xc, xs⟩ : Rx (Option Nat))]).map rxv), .row 28 1 (.slice (g 9).1 (i + 1) (g 9).2) (i + 1) ((os ++ [(⟨wa, wc, ws⟩ : Rx Wd)]).map rxv), .row 4 1 (.slice (g 18).1 (i + 1) (g 18).2) (i + 1) ((es ++ [S.sq.e q]).map bo), .row 9 1 (.slice (g 27).1 (i + 1) (g 27).2) (i + 1) ((fs ++ [S.sq.f q]).map sv)] ++ ([.row 3 1 (.slice xa S.L xc) S.L (xs.map zo), .row 9 1 (.slice wa S.L wc) S.L (ws.map sv), .row 30 7 (vb b7) 1 [zn S.L, .int .i64 0, sv S.init, .slice na' i nc', .slice oa' i oc', .slice ea' i ec', .slice fa' i fc'], .row 3 1 (.slice la (bfsP (S.sq.tr.stC S.L) S.L S.s (i * S.L + S.L)).length lc) (bfsP (S.sq.tr.stC S.L) S.L S.s (i * S.L + S.L)).length ((bfsP (S.sq.tr.stC S.L) S.L S.s (i * S.L + S.L)).map zn), .row 3 1 (.slice (some ⟨b28, 0, none⟩) S.rs.length S.rs.length) S.rs.length ((nmL S.rs.length (bfsP (S.sq.tr.stC S.L) S.L S.s (i * S.L + S.L))).map zo), .row 4 1 (.slice (some ⟨bu, 0, none⟩) S.rs.length S.rs.length) S.rs.length (U.map bo), .row 30 7 (vb b2) 1 [.int .i64 0, .int .i64 0, .string ⟨#[]⟩, .slice none 0 0, .slice none 0 0, .slice none 0 0, .slice none 0 0], .row 30 7 (vb b1) 1 (svc S)] ++ (fam 3 zo rs ++ fam 9 sv os)))
     generalize (g 4).1 = a123
     generalize (g 9).1 = a128
     generalize (g 18).1 = a137
     generalize (g 27).1 = a146
     generalize (g 4).2 = c123
     generalize (g 9).2 = c128
     generalize (g 18).2 = c137
     generalize (g 27).2 = c146
     generalize (g 3).2 = b122
     generalize (g 8).2 = b127
     generalize (g 17).2 = b136
     generalize (g 26).2 = b145
     refine RA.tail ?_
     refine RT.f 29 (by kernel_rfl) rfl rfl rfl (OpG.storeRow (a := some ⟨b7, 0, none⟩) zf63 rfl rfl rfl (by repeat (first | exact Upd.here | apply Upd.there)) (by simp)) ?_
     rintro _ _
     refine RT.q 30 (by kernel_rfl) rfl rfl rfl (OpQ.fieldAddr zf34 rfl) ?_
     refine RT.f 31 (by kernel_rfl) rfl rfl rfl (OpG.storeRow (a := some ⟨b7, 0, none⟩) zf64 rfl rfl rfl (by repeat (first | exact Upd.here | apply Upd.there)) (by simp)) ?_
     rintro _ _
     refine RT.q 32 (by kernel_rfl) rfl rfl rfl (OpQ.fieldAddr zf42 rfl) ?_
     refine RT.f 33 (by kernel_rfl) rfl rfl rfl (OpG.storeRow (a := some ⟨b7, 0, none⟩) zf65 rfl rfl rfl (by repeat (first | exact Upd.here | apply Upd.there)) (by simp)) ?_
     rintro _ _
     refine RT.q 34 (by kernel_rfl) rfl rfl rfl (OpQ.fieldAddr zf41 rfl) ?_
     refine RT.f 35 (by kernel_rfl) rfl rfl rfl (OpG.storeRow (a := some ⟨b7, 0, none⟩) zf36 rfl rfl rfl (by repeat (first | exact Upd.here | apply Upd.there)) (by simp)) ?_
     rintro _ _
     refine RT.done (by kernel_rfl) ?_
     refine PX.block_n (PX.then_n (CT.region ?_))
     refine Wl.q rfl rfl (OpQ.move rfl) ?_
     refine Wl.q rfl rfl (OpQ.add rfl rfl (by omega)) ?_
     refine Wl.q rfl rfl (OpQ.assign rfl) ?_
     refine Wl.nil ?_
     refine PX.as (fun _ h => HOk.rot (A := [_, _, _, _]) (B := [_, _]) (HOk.behind (A := [_, _, _, _, _]) h)) ?_
     refine PX.mem (.keep (k := rch 3 zo (⟨xa, xc, xs⟩ : Rx (Option Nat))) (by show Chunk.row _ _ (.slice _ xs.length _) xs.length _ = _; rw [hrow.len]) (.keep (k := rch 9 sv (⟨wa, wc, ws⟩ : Rx Wd)) (by show Chunk.row _ _ (.slice _ ws.length _) ws.length _ = _; rw [hwsl]) (HSub.refl _))) ?_
     refine PX.as (fun _ h => HOk.fam2 (r := (⟨xa, xc, xs⟩ : Rx (Option Nat))) (o := (⟨wa, wc, ws⟩ : Rx Wd)) (A := [.row 22 1 (.slice a123 (i + 1) c123) (i + 1) ((rs ++ [(⟨xa, xc, xs⟩ : Rx (Option Nat))]).map rxv), .row 28 1 (.slice a128 (i + 1) c128) (i + 1) ((os ++ [(⟨wa, wc, ws⟩ : Rx Wd)]).map rxv), .row 4 1 (.slice a137 (i + 1) c137) (i + 1) ((es ++ [S.sq.e q]).map bo), .row 9 1 (.slice a146 (i + 1) c146) (i + 1) ((fs ++ [S.sq.f q]).map sv), .row 30 7 (vb b7) 1 [zn S.L, .int .i64 0, sv S.init, .slice a123 (i + 1) c123, .slice a128 (i + 1) c128, .slice a137 (i + 1) c137, .slice a146 (i + 1) c146], .row 3 1 (.slice la (bfsP (S.sq.tr.stC S.L) S.L S.s (i * S.L + S.L)).length lc) (bfsP (S.sq.tr.stC S.L) S.L S.s (i * S.L + S.L)).length ((bfsP (S.sq.tr.stC S.L) S.L S.s (i * S.L + S.L)).map zn), .row 3 1 (.slice (some ⟨b28, 0, none⟩) S.rs.length S.rs.length) S.rs.length ((nmL S.rs.length (bfsP (S.sq.tr.stC S.L) S.L S.s (i * S.L + S.L))).map zo), .row 4 1 (.slice (some ⟨bu, 0, none⟩) S.rs.length S.rs.length) S.rs.length (U.map bo), .row 30 7 (vb b2) 1 [.int .i64 0, .int .i64 0, .string ⟨#[]⟩, .slice none 0 0, .slice none 0 0, .slice none 0 0, .slice none 0 0], .row 30 7 (vb b1) 1 (svc S)]) h) ?_
     exact PX.loop hK1 (i + 1, la, lc, a123, c123, rs ++ [(⟨xa, xc, xs⟩ : Rx (Option Nat))], a128, c128, os ++ [(⟨wa, wc, ws⟩ : Rx Wd)], a137, c137, es ++ [S.sq.e q], a146, c146, fs ++ [S.sq.f q]) ⟨hg.next hlt, by rw [Nat.add_mul, Nat.one_mul]; exact hcp2.snoc hiE (by rw [hq2]; exact hrow) (by rw [hq2]; exact hws) (by rw [hq2]; rfl) (by rw [hq2]; rfl)⟩ (show S.rs.length - (i + 1) < S.rs.length - i by omega) ⟨rfl, rfl, rfl, rfl, rfl, rfl, (lkV rfl (by rw [Nat.add_mul, Nat.one_mul])), trivial⟩ (by dsimp only; rw [Nat.add_mul, Nat.one_mul]; exact HSub.refl _)
   ·
    have h53 := of_decide_eq_false h53
    have hii : i = (bfsP (S.sq.tr.stC S.L) S.L S.s (i * S.L)).length := by omega
    have hK : DoneP (st := (S.sq.tr.stC S.L)) (L := S.L) (s := S.s) (i * S.L) := DoneP.of (by omega) hg (by omega)
    have hval : svv (⟨S.L, 0, S.init, na', nc', rs, oa', oc', os, ea', ec', es, fa', fc', fs⟩ : Sv) = .agg #[zn S.L, .int .i64 0, sv S.init, .slice na' i nc', .slice oa' i oc', .slice ea' i ec', .slice fa' i fc'] := by simp only [svv, svc, hrl0, hol0, hel0, hfl0]; rfl
    refine CT.exit (PX.then_x (PX.then_x (PX.block_x (PX.then_n (CT.seq (CT.region ?_))))))
    refine Wl.q rfl rfl (OpQ.loadV (b := b7) zf29 zf28 rfl (by repeat (first | exact Has.here | apply Has.there)) (by rfl)) ?_
    refine Wl.know 151 (v' := svv (⟨S.L, 0, S.init, na', nc', rs, oa', oc', os, ea', ec', es, fa', fc', fs⟩ : Sv)) rfl hval.symm ?_
    refine Wl.g rfl rfl (OpG.storeV (b := b2) zf28 rfl rfl rfl rfl (by repeat (first | exact Upd.here | apply Upd.there))) ?_
    rintro _ _
    refine Wl.nil (PX.then_n (CT.ret ?_))
    refine PX.retC rfl rfl (by repeat (first | exact Has.here | apply Has.there)) zf29 zf28 (by rfl) (fun w' hH => ?_)
    have hfin : (⟨S.L, 0, S.init, na', nc', rs, oa', oc', os, ea', ec', es, fa', fc', fs⟩ : Sv).sq = trimT S.sq.tr S.L S.init (bfsP (S.sq.tr.stC S.L) S.L S.s (i * S.L)) := CpI.done (z := S.s) (by rw [← hii]; exact hcp) (bfsP_nodup _) _ _ _ _ _ _ _ _ _
    exact ⟨(⟨S.L, 0, S.init, na', nc', rs, oa', oc', os, ea', ec', es, fa', fc', fs⟩ : Sv), .inr ⟨hco, i * S.L, hK, hfin⟩, rfl, hH.post.conv (.keep (by simp only [hrl0]) (.keep (by simp only [hol0]) (.keep (by simp only [hel0]) (.keep (by simp only [hfl0]) (.drop (.drop (.drop (.drop (.drop (.drop (HSub.refl _))))))))))) ⟩

end Go.Proofs.Ytamolakhpcofhaa

