/-
  What functions of the program compute, each by its walk. Conditions: those that each theorem names.
-/
import Derived.Test.YtamolakhpcofhaaEng1
import Derived.Test.YtamolakhpcofhaaXE41
import Derived.Test.YtamolakhpcofhaaXF
set_option linter.unusedSimpArgs false
namespace Go.Proofs.Ytamolakhpcofhaa
open Go Go.Eng Go.Am Go.Sq
open Go.Tp (zi)
open Go.Tl (mayL Wd okW okB bo)

set_option maxRecDepth 100000 in
set_option maxHeartbeats 2000000 in
/-- (*semigroup/sequential.comparison).compare -/
theorem ccompare_spec (w : World) (S S2 : Sv) (bs bt bc : Nat) (pa : Option Addr) (pc : Nat) (C : Cs) (hS : Stays (blks [.row 135 6 (vb bc) 1 [.pointer (some ⟨bs, 0, none⟩), .pointer (some ⟨bt, 0, none⟩), .slice pa (S.sq.n + S2.sq.n) pc, .slice C.qa C.Q.length C.qc, .slice C.fa C.F.length C.fc, .slice C.ba C.B.length C.bc], .row 3 1 (.slice pa (S.sq.n + S2.sq.n) pc) (S.sq.n + S2.sq.n) ((C.P).map zn), .row 82 2 (.slice C.qa C.Q.length C.qc) C.Q.length (C.Q.flatMap stv), .row 3 1 (.slice C.fa C.F.length C.fc) C.F.length (C.F.map zn), .row 3 1 (.slice C.ba C.B.length C.bc) C.B.length (C.B.map zn)]) w (svm S)) (hv : S.sq.Ok 4096) (hS2 : Stays (blks [.row 135 6 (vb bc) 1 [.pointer (some ⟨bs, 0, none⟩), .pointer (some ⟨bt, 0, none⟩), .slice pa (S.sq.n + S2.sq.n) pc, .slice C.qa C.Q.length C.qc, .slice C.fa C.F.length C.fc, .slice C.ba C.B.length C.bc], .row 3 1 (.slice pa (S.sq.n + S2.sq.n) pc) (S.sq.n + S2.sq.n) ((C.P).map zn), .row 82 2 (.slice C.qa C.Q.length C.qc) C.Q.length (C.Q.flatMap stv), .row 3 1 (.slice C.fa C.F.length C.fc) C.F.length (C.F.map zn), .row 3 1 (.slice C.ba C.B.length C.bc) C.B.length (C.B.map zn)]) w (svm S2)) (hv2 : S2.sq.Ok 4096) (F : List Nat) (a1 : Option Addr) (c1 : Nat) (a2 : Option Addr) (n2 c2 : Nat) (hB : Stays (blks [.row 135 6 (vb bc) 1 [.pointer (some ⟨bs, 0, none⟩), .pointer (some ⟨bt, 0, none⟩), .slice pa (S.sq.n + S2.sq.n) pc, .slice C.qa C.Q.length C.qc, .slice C.fa C.F.length C.fc, .slice C.ba C.B.length C.bc], .row 3 1 (.slice pa (S.sq.n + S2.sq.n) pc) (S.sq.n + S2.sq.n) ((C.P).map zn), .row 82 2 (.slice C.qa C.Q.length C.qc) C.Q.length (C.Q.flatMap stv), .row 3 1 (.slice C.fa C.F.length C.fc) C.F.length (C.F.map zn), .row 3 1 (.slice C.ba C.B.length C.bc) C.B.length (C.B.map zn)]) w (fun w => Rd w (some ⟨bs, 0, none⟩) (svc S ++ [.slice a1 F.length c1, .slice a2 n2 c2]))) (hF : Stays (blks [.row 135 6 (vb bc) 1 [.pointer (some ⟨bs, 0, none⟩), .pointer (some ⟨bt, 0, none⟩), .slice pa (S.sq.n + S2.sq.n) pc, .slice C.qa C.Q.length C.qc, .slice C.fa C.F.length C.fc, .slice C.ba C.B.length C.bc], .row 3 1 (.slice pa (S.sq.n + S2.sq.n) pc) (S.sq.n + S2.sq.n) ((C.P).map zn), .row 82 2 (.slice C.qa C.Q.length C.qc) C.Q.length (C.Q.flatMap stv), .row 3 1 (.slice C.fa C.F.length C.fc) C.F.length (C.F.map zn), .row 3 1 (.slice C.ba C.B.length C.bc) C.B.length (C.B.map zn)]) w (fun w => Rd w a1 (F.map zn))) (δ : Nat → Nat) (hf : FirstsI S.sq F δ) (hco : ∀ q, q < S.sq.n → S.sq.tr.co S.L q = true) (F2 : List Nat) (a3 : Option Addr) (c3 : Nat) (a4 : Option Addr) (n4 c4 : Nat) (hB2 : Stays (blks [.row 135 6 (vb bc) 1 [.pointer (some ⟨bs, 0, none⟩), .pointer (some ⟨bt, 0, none⟩), .slice pa (S.sq.n + S2.sq.n) pc, .slice C.qa C.Q.length C.qc, .slice C.fa C.F.length C.fc, .slice C.ba C.B.length C.bc], .row 3 1 (.slice pa (S.sq.n + S2.sq.n) pc) (S.sq.n + S2.sq.n) ((C.P).map zn), .row 82 2 (.slice C.qa C.Q.length C.qc) C.Q.length (C.Q.flatMap stv), .row 3 1 (.slice C.fa C.F.length C.fc) C.F.length (C.F.map zn), .row 3 1 (.slice C.ba C.B.length C.bc) C.B.length (C.B.map zn)]) w (fun w => Rd w (some ⟨bt, 0, none⟩) (svc S2 ++ [.slice a3 F2.length c3, .slice a4 n4 c4]))) (hF2 : Stays (blks [.row 135 6 (vb bc) 1 [.pointer (some ⟨bs, 0, none⟩), .pointer (some ⟨bt, 0, none⟩), .slice pa (S.sq.n + S2.sq.n) pc, .slice C.qa C.Q.length C.qc, .slice C.fa C.F.length C.fc, .slice C.ba C.B.length C.bc], .row 3 1 (.slice pa (S.sq.n + S2.sq.n) pc) (S.sq.n + S2.sq.n) ((C.P).map zn), .row 82 2 (.slice C.qa C.Q.length C.qc) C.Q.length (C.Q.flatMap stv), .row 3 1 (.slice C.fa C.F.length C.fc) C.F.length (C.F.map zn), .row 3 1 (.slice C.ba C.B.length C.bc) C.B.length (C.B.map zn)]) w (fun w => Rd w a3 (F2.map zn))) (δ2 : Nat → Nat) (hf2 : FirstsI S2.sq F2 δ2) (hco2 : ∀ q, q < S2.sq.n → S2.sq.tr.co S2.L q = true) (hN1 : S.sq.Nf) (hN2 : S2.sq.Nf) (hLL : S.L = S2.L) (M : Nat) (hM1 : 2 * S.sq.n ≤ M) (hM2 : 2 * S2.sq.n ≤ M) (hM : M ≤ 1024) (hO : CsOk S.sq S2.sq C) (hpa : pa.isSome = true) (i : Nat) (hi : i < C.Q.length) (x : Nat × Nat) (hx : C.Q.getD i z2 = x) (hpre : Pre [.row 135 6 (vb bc) 1 [.pointer (some ⟨bs, 0, none⟩), .pointer (some ⟨bt, 0, none⟩), .slice pa (S.sq.n + S2.sq.n) pc, .slice C.qa C.Q.length C.qc, .slice C.fa C.F.length C.fc, .slice C.ba C.B.length C.bc], .row 3 1 (.slice pa (S.sq.n + S2.sq.n) pc) (S.sq.n + S2.sq.n) ((C.P).map zn), .row 82 2 (.slice C.qa C.Q.length C.qc) C.Q.length (C.Q.flatMap stv), .row 3 1 (.slice C.fa C.F.length C.fc) C.F.length (C.F.map zn), .row 3 1 (.slice C.ba C.B.length C.bc) C.B.length (C.B.map zn)] w) : Calls Try.prog 85 #[.pointer (some ⟨bc, 0, none⟩), .int .i64 ((i : Nat) : Int)] w (fun e w' => ∃ o : Wd × Bool × Cs, (CsOk S.sq S2.sq o.2.2 ∧ Crs (S.sq.n + S2.sq.n) C.k o.2.2.k ∧ C.Q <+: o.2.2.Q ∧ (o.2.1 = true → Lw S.L o.1 ∧ o.1.length ≤ M + 1 ∧ S.sq.tr.val x.1 (wl o.1) ≠ S2.sq.tr.val x.2 (wl o.1)) ∧ (o.2.1 = false → Cl S.sq S2.sq o.2.2.k x S.L)) ∧ e = .returned (.tuple #[sv o.1, .bool o.2.1]) ∧ Post (blks [.row 135 6 (vb bc) 1 [.pointer (some ⟨bs, 0, none⟩), .pointer (some ⟨bt, 0, none⟩), .slice pa (S.sq.n + S2.sq.n) pc, .slice C.qa C.Q.length C.qc, .slice C.fa C.F.length C.fc, .slice C.ba C.B.length C.bc], .row 3 1 (.slice pa (S.sq.n + S2.sq.n) pc) (S.sq.n + S2.sq.n) ((C.P).map zn), .row 82 2 (.slice C.qa C.Q.length C.qc) C.Q.length (C.Q.flatMap stv), .row 3 1 (.slice C.fa C.F.length C.fc) C.F.length (C.F.map zn), .row 3 1 (.slice C.ba C.B.length C.bc) C.B.length (C.B.map zn)]) [.row 135 6 (vb bc) 1 [.pointer (some ⟨bs, 0, none⟩), .pointer (some ⟨bt, 0, none⟩), .slice pa (S.sq.n + S2.sq.n) pc, .slice o.2.2.qa o.2.2.Q.length o.2.2.qc, .slice o.2.2.fa o.2.2.F.length o.2.2.fc, .slice o.2.2.ba o.2.2.B.length o.2.2.bc], .row 3 1 (.slice pa (S.sq.n + S2.sq.n) pc) (S.sq.n + S2.sq.n) ((o.2.2.P).map zn), .row 82 2 (.slice o.2.2.qa o.2.2.Q.length o.2.2.qc) o.2.2.Q.length (o.2.2.Q.flatMap stv), .row 3 1 (.slice o.2.2.fa o.2.2.F.length o.2.2.fc) o.2.2.F.length (o.2.2.F.map zn), .row 3 1 (.slice o.2.2.ba o.2.2.B.length o.2.2.bc) o.2.2.B.length (o.2.2.B.map zn)] w w') := by
 obtain ⟨hb1, hb2, hb3, hb4⟩ := hv.bnd
 obtain ⟨hlo, hle, hlf⟩ := hv.lens
 have hns : 0 < S.rs.length → S.na.isSome = true := fun h => hS.now.n.isSome (j := 0) (by rw [List.length_map]; exact h)
 have hos : 0 < S.os.length → S.oa.isSome = true := fun h => hS.now.o.isSome (j := 0) (by rw [List.length_map]; exact h)
 have hes : 0 < S.en.length → S.ea.isSome = true := fun h => hS.now.e.isSome (j := 0) (by rw [List.length_map]; exact h)
 have hfs : 0 < S.fi.length → S.fa.isSome = true := fun h => hS.now.f.isSome (j := 0) (by rw [List.length_map]; exact h)
 have hrs : ∀ q, q < S.rs.length → 0 < (S.rs.getD q rx0).xs.length → (S.rs.getD q rx0).a.isSome = true := fun q hq h => (hS.now.r _ (getDm hq)).isSome (j := 0) (by rw [List.length_map]; exact h)
 have hus : ∀ q, q < S.os.length → 0 < (S.os.getD q rx0).xs.length → (S.os.getD q rx0).a.isSome = true := fun q hq h => (hS.now.u _ (getDm hq)).isSome (j := 0) (by rw [List.length_map]; exact h)
 obtain ⟨hb12, hb22, hb32, hb42⟩ := hv2.bnd
 obtain ⟨hlo2, hle2, hlf2⟩ := hv2.lens
 have hns2 : 0 < S2.rs.length → S2.na.isSome = true := fun h => hS2.now.n.isSome (j := 0) (by rw [List.length_map]; exact h)
 have hos2 : 0 < S2.os.length → S2.oa.isSome = true := fun h => hS2.now.o.isSome (j := 0) (by rw [List.length_map]; exact h)
 have hes2 : 0 < S2.en.length → S2.ea.isSome = true := fun h => hS2.now.e.isSome (j := 0) (by rw [List.length_map]; exact h)
 have hfs2 : 0 < S2.fi.length → S2.fa.isSome = true := fun h => hS2.now.f.isSome (j := 0) (by rw [List.length_map]; exact h)
 have hrs2 : ∀ q, q < S2.rs.length → 0 < (S2.rs.getD q rx0).xs.length → (S2.rs.getD q rx0).a.isSome = true := fun q hq h => (hS2.now.r _ (getDm hq)).isSome (j := 0) (by rw [List.length_map]; exact h)
 have hus2 : ∀ q, q < S2.os.length → 0 < (S2.os.getD q rx0).xs.length → (S2.os.getD q rx0).a.isSome = true := fun q hq h => (hS2.now.u _ (getDm hq)).isSome (j := 0) (by rw [List.length_map]; exact h)
 have hn1 := S.n_eq
 have hn2 := S2.n_eq
 have hql := hO.cp.len
 have hqa : C.qa.isSome = true := owns_isSome (show World.ownsRow w 0 82 2 (.slice C.qa C.Q.length C.qc) C.Q.length (C.Q.flatMap stv) from hpre.holds _ (.tail _ (.tail _ (.head _)))) (by omega)
 obtain ⟨hx1, hx2'⟩ := hO.cp.lt x (by rw [← hx, List.getD_eq_getElem?_getD, List.getElem?_eq_getElem hi]; exact List.getElem_mem hi)
 have hlt1 : ∀ q a p, q < S.sq.n → a < S.L → S.sq.to q a = some p → p < S.sq.n := fun q a p h1 h2 h3 => hv.lt q a p h1 h2 h3
 have hlt2 : ∀ q a p, q < S2.sq.n → a < S.L → S2.sq.to q a = some p → p < S2.sq.n := fun q a p h1 h2 h3 => hv2.lt q a p h1 (by show a < S2.L; omega) h3
 have hrl := hv.rlen (q := x.1) (by omega)
 have hol := hv.olen (q := x.1) (by omega)
 have hrl2 := hv2.rlen (q := x.2) (by omega)
 have hol2 := hv2.olen (q := x.2) (by omega)
 refine enterX (args := [.pointer (some ⟨bc, 0, none⟩), .int .i64 ((i : Nat) : Int)]) hpre 174 Try.func85 rfl rfl rfl ?_
 refine CT.seq (CT.region ?_)
 refine Wl.q rfl rfl (OpQ.assign rfl) ?_
 refine Wl.q rfl rfl (OpQ.assign rfl) ?_
 refine Wl.nil (PX.then_n (CT.seq ?_))
 refine CT.draw 18 zf6 ?_
 refine RA.q 0 (by kernel_rfl) rfl rfl rfl (.refl _) (OpQ.move rfl) ?_
 refine RA.q 1 (by kernel_rfl) rfl rfl rfl (.refl _) (OpQ.nilCheckP rfl) ?_
 refine RA.q 2 (by kernel_rfl) rfl rfl rfl (.refl _) (OpQ.fieldAddr zf114 rfl) ?_
 refine RA.q 3 (by kernel_rfl) rfl rfl rfl (.refl _) (OpQ.loadF (b := bc) zf115 rfl (by repeat (first | exact Has.here | apply Has.there)) (by rfl)) ?_
 refine RA.q 4 (by kernel_rfl) rfl rfl rfl (.refl _) (OpQ.move rfl) ?_
 refine RA.q 5 (by kernel_rfl) rfl rfl rfl (.refl _) (OpQ.nilCheckP rfl) ?_
 refine RA.q 6 (by kernel_rfl) rfl rfl rfl (.refl _) (OpQ.fieldAddr zf127 rfl) ?_
 refine RA.q 7 (by kernel_rfl) rfl rfl rfl (.refl _) (OpQ.loadF (b := bc) zf115 rfl (by repeat (first | exact Has.here | apply Has.there)) (by rfl)) ?_
 refine RA.q 8 (by kernel_rfl) rfl rfl rfl (.refl _) (OpQ.move rfl) ?_
 refine RA.q 9 (by kernel_rfl) rfl rfl rfl (.refl _) (OpQ.nilCheckP rfl) ?_
 refine RA.q 10 (by kernel_rfl) rfl rfl rfl (.refl _) (OpQ.fieldAddr zf117 rfl) ?_
 refine RA.q 11 (by kernel_rfl) rfl rfl rfl (.refl _) (OpQ.loadF (b := bc) zf118 rfl (by repeat (first | exact Has.here | apply Has.there)) (by rfl)) ?_
 refine RA.q 12 (by kernel_rfl) rfl rfl rfl (.refl _) (OpQ.move rfl) ?_
 refine RA.q 13 (by kernel_rfl) rfl rfl rfl (.refl _) (OpQ.index zf121 zf120 rfl rfl (by omega) hqa) ?_
 refine RA.q 14 (by kernel_rfl) rfl rfl rfl (.refl _) (OpQ.loadAggG (cs := stv x) zf119 zf120 rfl (fun w hH => hH.rd (.there (.there .here))) (by rw [← hx]; exact flat_cells stv_len C.Q z2 hi)) ?_
 refine RA.know 28 (v' := kp x) rfl rfl ?_
 refine RA.f 15 (by kernel_rfl) rfl rfl rfl (OpG.alloc (zs := [.int .i64 0, .int .i64 0]) zf122 rfl rfl) (fun _ _ => (.cons _ (.refl _))) ?_
 rintro b8 _
 refine RA.q 16 (by kernel_rfl) rfl rfl rfl (.cons _ (.refl _)) (OpQ.assign rfl) ?_
 refine RA.q 17 (by kernel_rfl) rfl rfl rfl (.cons _ (.refl _)) (OpQ.assign rfl) ?_
 refine RA.tail ?_
 refine RT.f 18 (by kernel_rfl) rfl rfl rfl (OpG.storeV (b := b8) zf120 rfl rfl rfl rfl (by repeat (first | exact Upd.here | apply Upd.there))) ?_
 rintro _ _
 refine RT.done (by kernel_rfl) ?_
 refine PX.then_n (CT.seq (CT.seq ?_))
 refine CT.draw 40 zf6 ?_
 refine RA.q 0 (by kernel_rfl) rfl rfl rfl (.refl _) (OpQ.move rfl) ?_
 refine RA.q 1 (by kernel_rfl) rfl rfl rfl (.refl _) (OpQ.nilCheckP rfl) ?_
 refine RA.q 2 (by kernel_rfl) rfl rfl rfl (.refl _) (OpQ.fieldAddr zf101 rfl) ?_
 refine RA.q 3 (by kernel_rfl) rfl rfl rfl (.refl _) (OpQ.fieldAddr zf42 rfl) ?_
 refine RA.q 4 (by kernel_rfl) rfl rfl rfl (.refl _) (OpQ.loadG (a := some ⟨bs, 0, none⟩) (j := 5) zf43 rfl (fun w hH => hH.use hB) rfl) ?_
 refine RA.q 5 (by kernel_rfl) rfl rfl rfl (.refl _) (OpQ.fieldAddr zf110 rfl) ?_
 refine RA.q 6 (by kernel_rfl) rfl rfl rfl (.refl _) (OpQ.loadF (b := b8) zf8 rfl (by repeat (first | exact Has.here | apply Has.there)) (by rfl)) ?_
 refine RA.q 7 (by kernel_rfl) rfl rfl rfl (.refl _) (OpQ.index1 zf25 zf44 rfl rfl (by omega) (hes (by omega))) ?_
 refine RA.q 8 (by kernel_rfl) rfl rfl rfl (.refl _) (OpQ.loadG zf45 rfl (fun w hH => (hH.use hS).e) (getMap bo S.en false (j := x.1) (by omega))) ?_
 refine RA.know 37 (v' := .bool (S.sq.e x.1)) rfl rfl ?_
 refine RA.q 9 (by kernel_rfl) rfl rfl rfl (.refl _) (OpQ.move rfl) ?_
 refine RA.q 10 (by kernel_rfl) rfl rfl rfl (.refl _) (OpQ.nilCheckP rfl) ?_
 refine RA.q 11 (by kernel_rfl) rfl rfl rfl (.refl _) (OpQ.fieldAddr zf101 rfl) ?_
 refine RA.q 12 (by kernel_rfl) rfl rfl rfl (.refl _) (OpQ.fieldAddr zf42 rfl) ?_
 refine RA.q 13 (by kernel_rfl) rfl rfl rfl (.refl _) (OpQ.loadG (a := some ⟨bt, 0, none⟩) (j := 5) zf43 rfl (fun w hH => hH.use hB2) rfl) ?_
 refine RA.q 14 (by kernel_rfl) rfl rfl rfl (.refl _) (OpQ.fieldAddr zf112 rfl) ?_
 refine RA.q 15 (by kernel_rfl) rfl rfl rfl (.refl _) (OpQ.loadF (b := b8) zf8 rfl (by repeat (first | exact Has.here | apply Has.there)) (by rfl)) ?_
 refine RA.q 16 (by kernel_rfl) rfl rfl rfl (.refl _) (OpQ.index1 zf25 zf44 rfl rfl (by omega) (hes2 (by omega))) ?_
 refine RA.q 17 (by kernel_rfl) rfl rfl rfl (.refl _) (OpQ.loadG zf45 rfl (fun w hH => (hH.use hS2).e) (getMap bo S2.en false (j := x.2) (by omega))) ?_
 refine RA.know 46 (v' := .bool (S2.sq.e x.2)) rfl rfl ?_
 refine RA.q 18 (by kernel_rfl) rfl rfl rfl (.refl _) (OpQ.neqB zf128 rfl rfl) ?_
 refine RA.q 19 (by kernel_rfl) rfl rfl rfl (.refl _) (OpQ.move rfl) ?_
 refine RA.split 48 rfl (fun hg48 => ?_) (fun hg48 => ?_)
 ·
  refine RA.skip 20 (by kernel_rfl) rfl rfl rfl (.refl _) ?_
  refine RA.skip 21 (by kernel_rfl) rfl rfl rfl (.refl _) ?_
  refine RA.skip 22 (by kernel_rfl) rfl rfl rfl (.refl _) ?_
  refine RA.skip 23 (by kernel_rfl) rfl rfl rfl (.refl _) ?_
  refine RA.skip 24 (by kernel_rfl) rfl rfl rfl (.refl _) ?_
  refine RA.skip 25 (by kernel_rfl) rfl rfl rfl (.refl _) ?_
  refine RA.skip 26 (by kernel_rfl) rfl rfl rfl (.refl _) ?_
  refine RA.skip 27 (by kernel_rfl) rfl rfl rfl (.refl _) ?_
  refine RA.skip 28 (by kernel_rfl) rfl rfl rfl (.refl _) ?_
  refine RA.skip 29 (by kernel_rfl) rfl rfl rfl (.refl _) ?_
  refine RA.skip 30 (by kernel_rfl) rfl rfl rfl (.refl _) ?_
  refine RA.skip 31 (by kernel_rfl) rfl rfl rfl (.refl _) ?_
  refine RA.skip 32 (by kernel_rfl) rfl rfl rfl (.refl _) ?_
  refine RA.skip 33 (by kernel_rfl) rfl rfl rfl (.refl _) ?_
  refine RA.skip 34 (by kernel_rfl) rfl rfl rfl (.refl _) ?_
  refine RA.skip 35 (by kernel_rfl) rfl rfl rfl (.refl _) ?_
  refine RA.skip 36 (by kernel_rfl) rfl rfl rfl (.refl _) ?_
  refine RA.skip 37 (by kernel_rfl) rfl rfl rfl (.refl _) ?_
  refine RA.skip 38 (by kernel_rfl) rfl rfl rfl (.refl _) ?_
  refine RA.q 39 (by kernel_rfl) rfl rfl rfl (.refl _) (OpQ.pickT rfl rfl) ?_
  refine RA.tail ?_
  refine RT.done (by kernel_rfl) ?_
  refine PX.then_n ?_
  refine CT.condT rfl ?_
  refine CT.seq (CT.region ?_)
  refine Wl.q rfl rfl (OpQ.assign rfl) ?_
  refine Wl.q rfl rfl (OpQ.assign rfl) ?_
  refine Wl.nil (PX.then_n (CT.ret (PX.then_r ?_)))
  refine PX.ret2 rfl rfl rfl (fun w' hH => ?_)
  have hne : S.sq.e x.1 ≠ S2.sq.e x.2 := by simpa using hg48
  exact ⟨([], true, C), ⟨hO, Crs.refl _ _, List.prefix_rfl, fun _ => ⟨Lw.nil _, by simp, df_e hne⟩, fun h => by cases h⟩, rfl, HOk.post (hH.take (.cons (.there .here) (.cons (.there .here) (.cons (.there .here) (.cons (.there .here) (.cons (.there .here) .nil))))))⟩
 ·
  refine RA.q 20 (by kernel_rfl) rfl rfl rfl (.refl _) (OpQ.move rfl) ?_
  refine RA.q 21 (by kernel_rfl) rfl rfl rfl (.refl _) (OpQ.nilCheckP rfl) ?_
  refine RA.q 22 (by kernel_rfl) rfl rfl rfl (.refl _) (OpQ.fieldAddr zf101 rfl) ?_
  refine RA.q 23 (by kernel_rfl) rfl rfl rfl (.refl _) (OpQ.fieldAddr zf41 rfl) ?_
  refine RA.q 24 (by kernel_rfl) rfl rfl rfl (.refl _) (OpQ.loadG (a := some ⟨bs, 0, none⟩) (j := 6) zf37 rfl (fun w hH => hH.use hB) rfl) ?_
  refine RA.q 25 (by kernel_rfl) rfl rfl rfl (.refl _) (OpQ.fieldAddr zf110 rfl) ?_
  refine RA.q 26 (by kernel_rfl) rfl rfl rfl (.refl _) (OpQ.loadF (b := b8) zf8 rfl (by repeat (first | exact Has.here | apply Has.there)) (by rfl)) ?_
  refine RA.q 27 (by kernel_rfl) rfl rfl rfl (.refl _) (OpQ.index1 zf17 zf38 rfl rfl (by omega) (hfs (by omega))) ?_
  refine RA.q 28 (by kernel_rfl) rfl rfl rfl (.refl _) (OpQ.loadG zf39 rfl (fun w hH => (hH.use hS).f) (getMap sv S.fi [] (j := x.1) (by omega))) ?_
  refine RA.know 57 (v' := sv (S.sq.f x.1)) rfl rfl ?_
  refine RA.q 29 (by kernel_rfl) rfl rfl rfl (.refl _) (OpQ.move rfl) ?_
  refine RA.q 30 (by kernel_rfl) rfl rfl rfl (.refl _) (OpQ.nilCheckP rfl) ?_
  refine RA.q 31 (by kernel_rfl) rfl rfl rfl (.refl _) (OpQ.fieldAddr zf101 rfl) ?_
  refine RA.q 32 (by kernel_rfl) rfl rfl rfl (.refl _) (OpQ.fieldAddr zf41 rfl) ?_
  refine RA.q 33 (by kernel_rfl) rfl rfl rfl (.refl _) (OpQ.loadG (a := some ⟨bt, 0, none⟩) (j := 6) zf37 rfl (fun w hH => hH.use hB2) rfl) ?_
  refine RA.q 34 (by kernel_rfl) rfl rfl rfl (.refl _) (OpQ.fieldAddr zf112 rfl) ?_
  refine RA.q 35 (by kernel_rfl) rfl rfl rfl (.refl _) (OpQ.loadF (b := b8) zf8 rfl (by repeat (first | exact Has.here | apply Has.there)) (by rfl)) ?_
  refine RA.q 36 (by kernel_rfl) rfl rfl rfl (.refl _) (OpQ.index1 zf17 zf38 rfl rfl (by omega) (hfs2 (by omega))) ?_
  refine RA.q 37 (by kernel_rfl) rfl rfl rfl (.refl _) (OpQ.loadG zf39 rfl (fun w hH => (hH.use hS2).f) (getMap sv S2.fi [] (j := x.2) (by omega))) ?_
  refine RA.know 66 (v' := sv (S2.sq.f x.2)) rfl rfl ?_
  refine RA.q 38 (by kernel_rfl) rfl rfl rfl (.refl _) (OpQ.neqS rfl rfl) ?_
  refine RA.q 39 (by kernel_rfl) rfl rfl rfl (.refl _) (OpQ.pickF rfl rfl) ?_
  refine RA.tail ?_
  refine RT.done (by kernel_rfl) ?_
  refine PX.then_n ?_
  refine CT.cond rfl (fun h68 => ?_) (fun h68 => ?_)
  ·
   refine CT.seq (CT.region ?_)
   refine Wl.q rfl rfl (OpQ.assign rfl) ?_
   refine Wl.q rfl rfl (OpQ.assign rfl) ?_
   refine Wl.nil (PX.then_n (CT.ret (PX.then_r ?_)))
   refine PX.ret2 rfl rfl rfl (fun w' hH => ?_)
   have he : S.sq.e x.1 = S2.sq.e x.2 := by simpa using hg48
   have hne : S.sq.f x.1 ≠ S2.sq.f x.2 := by simpa using h68
   exact ⟨([], true, C), ⟨hO, Crs.refl _ _, List.prefix_rfl, fun _ => ⟨Lw.nil _, by simp, df_f he hne (hv.nf _ hx1) (hv2.nf _ hx2')⟩, fun h => by cases h⟩, rfl, HOk.post (hH.take (.cons (.there .here) (.cons (.there .here) (.cons (.there .here) (.cons (.there .here) (.cons (.there .here) .nil))))))⟩
  ·
   have he : S.sq.e x.1 = S2.sq.e x.2 := by simpa using hg48
   have hff : S.sq.f x.1 = S2.sq.f x.2 := by simpa using h68
   refine CT.skip (PX.then_n (CT.seq (CT.seq (CT.region ?_))))
   refine Wl.q rfl rfl (OpQ.move rfl) ?_
   refine Wl.q rfl rfl (OpQ.nilCheckP rfl) ?_
   refine Wl.q rfl rfl (OpQ.fieldAddr zf101 rfl) ?_
   refine Wl.q rfl rfl (OpQ.fieldAddr zf33 rfl) ?_
   refine Wl.q rfl rfl (OpQ.loadG (a := some ⟨bs, 0, none⟩) (j := 0) zf8 rfl (fun w hH => hH.use hB) rfl) ?_
   refine Wl.q rfl rfl (OpQ.move rfl) ?_
   refine Wl.nil (PX.then_n (CT.block ?_))
   refine CT.loop (ι := Nat × Cs) (fun (a, D) => a ≤ S.L ∧ CsOk S.sq S2.sq D ∧ Crs (S.sq.n + S2.sq.n) C.k D.k ∧ C.Q <+: D.Q ∧ Cl S.sq S2.sq D.k x a) (fun (a, D) => [(0, .pointer (some ⟨bc, 0, none⟩)), (1, .int .i64 ((i : Nat) : Int)), (6, .pointer (some ⟨bs, 0, none⟩)), (7, .pointer (some ⟨bt, 0, none⟩)), (8, .pointer (some ⟨b8, 0, none⟩)), (73, .int .i64 ((S.L : Nat) : Int)), (74, .int .i64 ((a : Nat) : Int))]) (fun (a, D) => [.row 82 2 (vb b8) 1 (stv x), .row 135 6 (vb bc) 1 [.pointer (some ⟨bs, 0, none⟩), .pointer (some ⟨bt, 0, none⟩), .slice pa (S.sq.n + S2.sq.n) pc, .slice D.qa D.Q.length D.qc, .slice D.fa D.F.length D.fc, .slice D.ba D.B.length D.bc], .row 3 1 (.slice pa (S.sq.n + S2.sq.n) pc) (S.sq.n + S2.sq.n) ((D.P).map zn), .row 82 2 (.slice D.qa D.Q.length D.qc) D.Q.length (D.Q.flatMap stv), .row 3 1 (.slice D.fa D.F.length D.fc) D.F.length (D.F.map zn), .row 3 1 (.slice D.ba D.B.length D.bc) D.B.length (D.B.map zn)]) (fun (a, D) => S.L - a) (0, C) ⟨Nat.zero_le _, hO, Crs.refl _ _, List.prefix_rfl, he, hff, fun a ha => absurd ha (Nat.not_lt_zero a)⟩ ⟨rfl, rfl, rfl, rfl, rfl, rfl, rfl, trivial⟩ (HSub.refl _) (fun ⟨a, D⟩ ⟨haL, hO, hcr, hpx, hcl⟩ K0 hK0 => ?_)
   dsimp only
   have hDl := hO.cp.len
   have hDi := hpx.length_le
   have hDx : D.Q.getD i z2 = x := (pre_getD hpx hi z2).trans hx
   refine CT.seq (CT.region ?_)
   refine Wl.q rfl rfl (OpQ.lss rfl rfl) ?_
   refine Wl.nil (PX.then_n (CT.seq ?_))
   refine CT.cond rfl (fun h75 => ?_) (fun h75 => ?_)
   ·
    have h75 := of_decide_eq_true h75
    have hal : a < S.L := by omega
    have hag : a < S.sq.L := hal
    have hag2 : a < S2.sq.L := by show a < S2.L; omega
    refine CT.skip (PX.then_n (CT.seq (CT.block (CT.seq (CT.region ?_)))))
    refine Wl.q rfl rfl (OpQ.move rfl) ?_
    refine Wl.q rfl rfl (OpQ.assign rfl) ?_
    refine Wl.nil (PX.then_n (CT.seq (CT.region ?_)))
    refine Wl.q rfl rfl (OpQ.move rfl) ?_
    refine Wl.q rfl rfl (OpQ.conv rfl (conv_i64_u8 zf13 zf3 _ (by omega))) ?_
    refine Wl.q rfl rfl (OpQ.add8 rfl rfl (by omega)) ?_
    refine Wl.know 79 (v' := bv (UInt8.ofNat (97 + a))) rfl (bv_add (by omega)) ?_
    refine Wl.g rfl rfl (OpG.lit1 zf2 zf14 rfl rfl rfl) ?_
    rintro b80 _
    refine Wl.q rfl rfl (OpQ.convBS (l := [(UInt8.ofNat (97 + a))]) zf2 zf3 zf4 rfl (fun w hH => hH.rd .here)) ?_
    refine Wl.q rfl rfl (OpQ.assign rfl) ?_
    refine Wl.nil (PX.then_n (CT.seq ?_))
    refine CT.draw 26 zf6 ?_
    refine RA.q 0 (by kernel_rfl) rfl rfl rfl (.refl _) (OpQ.move rfl) ?_
    refine RA.q 1 (by kernel_rfl) rfl rfl rfl (.refl _) (OpQ.nilCheckP rfl) ?_
    refine RA.q 2 (by kernel_rfl) rfl rfl rfl (.refl _) (OpQ.fieldAddr zf101 rfl) ?_
    refine RA.q 3 (by kernel_rfl) rfl rfl rfl (.refl _) (OpQ.fieldAddr zf30 rfl) ?_
    refine RA.q 4 (by kernel_rfl) rfl rfl rfl (.refl _) (OpQ.loadG (a := some ⟨bs, 0, none⟩) (j := 3) zf31 rfl (fun w hH => hH.use hB) rfl) ?_
    refine RA.q 5 (by kernel_rfl) rfl rfl rfl (.refl _) (OpQ.fieldAddr zf110 rfl) ?_
    refine RA.q 6 (by kernel_rfl) rfl rfl rfl (.refl _) (OpQ.loadF (b := b8) zf8 rfl (by repeat (first | exact Has.here | apply Has.there)) (by rfl)) ?_
    refine RA.q 7 (by kernel_rfl) rfl rfl rfl (.refl _) (OpQ.index1 zf21 zf32 rfl rfl (by omega) (hns (by omega))) ?_
    refine RA.q 8 (by kernel_rfl) rfl rfl rfl (.refl _) (OpQ.loadG zf10 rfl (fun w hH => (hH.use hS).n) (getMap rxv S.rs rx0 (j := x.1) (by omega))) ?_
    refine RA.q 9 (by kernel_rfl) rfl rfl rfl (.refl _) (OpQ.move rfl) ?_
    refine RA.q 10 (by kernel_rfl) rfl rfl rfl (.refl _) (OpQ.index1 zf0 zf1 rfl rfl (by omega) (hrs x.1 (by omega) (by omega))) ?_
    refine RA.q 11 (by kernel_rfl) rfl rfl rfl (.refl _) (OpQ.loadG zf8 rfl (fun w hH => (hH.use hS).r _ (getDm (show x.1 < S.rs.length by omega))) (getMap zo (S.rs.getD x.1 rx0).xs none (j := a) (by omega))) ?_
    refine RA.know 93 (v' := zo (S.sq.to x.1 a)) rfl (congrArg zo (S.to_eq x.1 a).symm) ?_
    refine RA.q 12 (by kernel_rfl) rfl rfl rfl (.refl _) (OpQ.move rfl) ?_
    refine RA.q 13 (by kernel_rfl) rfl rfl rfl (.refl _) (OpQ.nilCheckP rfl) ?_
    refine RA.q 14 (by kernel_rfl) rfl rfl rfl (.refl _) (OpQ.fieldAddr zf101 rfl) ?_
    refine RA.q 15 (by kernel_rfl) rfl rfl rfl (.refl _) (OpQ.fieldAddr zf30 rfl) ?_
    refine RA.q 16 (by kernel_rfl) rfl rfl rfl (.refl _) (OpQ.loadG (a := some ⟨bt, 0, none⟩) (j := 3) zf31 rfl (fun w hH => hH.use hB2) rfl) ?_
    refine RA.q 17 (by kernel_rfl) rfl rfl rfl (.refl _) (OpQ.fieldAddr zf112 rfl) ?_
    refine RA.q 18 (by kernel_rfl) rfl rfl rfl (.refl _) (OpQ.loadF (b := b8) zf8 rfl (by repeat (first | exact Has.here | apply Has.there)) (by rfl)) ?_
    refine RA.q 19 (by kernel_rfl) rfl rfl rfl (.refl _) (OpQ.index1 zf21 zf32 rfl rfl (by omega) (hns2 (by omega))) ?_
    refine RA.q 20 (by kernel_rfl) rfl rfl rfl (.refl _) (OpQ.loadG zf10 rfl (fun w hH => (hH.use hS2).n) (getMap rxv S2.rs rx0 (j := x.2) (by omega))) ?_
    refine RA.q 21 (by kernel_rfl) rfl rfl rfl (.refl _) (OpQ.move rfl) ?_
    refine RA.q 22 (by kernel_rfl) rfl rfl rfl (.refl _) (OpQ.index1 zf0 zf1 rfl rfl (by omega) (hrs2 x.2 (by omega) (by omega))) ?_
    refine RA.q 23 (by kernel_rfl) rfl rfl rfl (.refl _) (OpQ.loadG zf8 rfl (fun w hH => (hH.use hS2).r _ (getDm (show x.2 < S2.rs.length by omega))) (getMap zo (S2.rs.getD x.2 rx0).xs none (j := a) (by omega))) ?_
    refine RA.know 105 (v' := zo (S2.sq.to x.2 a)) rfl (congrArg zo (S2.to_eq x.2 a).symm) ?_
    refine RA.q 24 (by kernel_rfl) rfl rfl rfl (.refl _) (OpQ.build (cells := #[zo (S.sq.to x.1 a), zo (S2.sq.to x.2 a)]) zf129 rfl rfl) ?_
    refine RA.f 25 (by kernel_rfl) rfl rfl rfl (OpG.alloc (zs := [.int .i64 0, .int .i64 0]) zf122 rfl rfl) (fun _ _ => (.cons _ (.refl _))) ?_
    rintro b11 _
    refine RA.tail ?_
    refine RT.f 26 (by kernel_rfl) rfl rfl rfl (OpG.storeV (b := b11) zf120 rfl rfl rfl rfl (by repeat (first | exact Upd.here | apply Upd.there))) ?_
    rintro _ _
    refine RT.done (by kernel_rfl) ?_
    refine PX.then_n ?_
    refine CT.cut (ι := Unit) (Φ := fun _ => (S.sq.to x.1 a = none → S2.sq.to x.2 a = none → False)) (E' := fun _ => [(0, .pointer (some ⟨bc, 0, none⟩)), (1, .int .i64 ((i : Nat) : Int)), (6, .pointer (some ⟨bs, 0, none⟩)), (7, .pointer (some ⟨bt, 0, none⟩)), (8, .pointer (some ⟨b8, 0, none⟩)), (73, .int .i64 ((S.L : Nat) : Int)), (74, .int .i64 ((a : Nat) : Int)), (9, .int .i64 ((a : Nat) : Int)), (10, sv [(UInt8.ofNat (97 + a))]), (11, .pointer (some ⟨b11, 0, none⟩))]) (H' := fun _ => [.row 82 2 (vb b11) 1 [zo (S.sq.to x.1 a), zo (S2.sq.to x.2 a)], .row 5 1 (.slice (some ⟨b80, 0, none⟩) 1 1) 1 [bv (UInt8.ofNat (97 + a))], .row 82 2 (vb b8) 1 (stv x), .row 135 6 (vb bc) 1 [.pointer (some ⟨bs, 0, none⟩), .pointer (some ⟨bt, 0, none⟩), .slice pa (S.sq.n + S2.sq.n) pc, .slice D.qa D.Q.length D.qc, .slice D.fa D.F.length D.fc, .slice D.ba D.B.length D.bc], .row 3 1 (.slice pa (S.sq.n + S2.sq.n) pc) (S.sq.n + S2.sq.n) ((D.P).map zn), .row 82 2 (.slice D.qa D.Q.length D.qc) D.Q.length (D.Q.flatMap stv), .row 3 1 (.slice D.fa D.F.length D.fc) D.F.length (D.F.map zn), .row 3 1 (.slice D.ba D.B.length D.bc) D.B.length (D.B.map zn)]) (fun K1 hK1 => ?_) (fun _ hnb => ?_)
    ·
     refine CT.seq (CT.region ?_)
     refine Wl.q rfl rfl (OpQ.fieldAddr zf110 rfl) ?_
     refine Wl.q rfl rfl (OpQ.loadF (b := b11) zf8 rfl (by repeat (first | exact Has.here | apply Has.there)) (by rfl)) ?_
     refine Wl.q rfl rfl (OpQ.eql rfl rfl) ?_
     refine Wl.q rfl rfl (OpQ.move rfl) ?_
     refine Wl.split 110 rfl (fun hg110 => ?_) (fun hg110 => ?_)
     ·
      refine Wl.q rfl rfl (OpQ.fieldAddr zf112 rfl) ?_
      refine Wl.q rfl rfl (OpQ.loadF (b := b11) zf8 rfl (by repeat (first | exact Has.here | apply Has.there)) (by rfl)) ?_
      refine Wl.q rfl rfl (OpQ.eql rfl rfl) ?_
      refine Wl.q rfl rfl (OpQ.pickT rfl rfl) ?_
      refine Wl.nil (PX.then_n ?_)
      refine CT.cond rfl (fun h114 => ?_) (fun h114 => ?_)
      ·
       have h114 := of_decide_eq_true h114
       refine CT.exit (PX.then_x (PX.block_x (PX.then_n (CT.region ?_))))
       refine Wl.q rfl rfl (OpQ.add rfl rfl (by omega)) ?_
       refine Wl.q rfl rfl (OpQ.move rfl) ?_
       refine Wl.nil ?_
       exact PX.loop hK0 (a + 1, D) ⟨by omega, hO, hcr, hpx, hcl.snoc (.inl ⟨oi_neg.1 (of_decide_eq_true hg110), oi_neg.1 h114⟩)⟩ (show S.L - (a + 1) < S.L - a by omega) ⟨rfl, rfl, rfl, rfl, rfl, rfl, rfl, trivial⟩ (.drop (.drop (HSub.refl _)))
      ·
       have h114 := of_decide_eq_false h114
       refine CT.skip ?_
       exact PX.cut hK1 () (fun _ h => h114 (oi_neg.2 h)) ⟨rfl, rfl, rfl, rfl, rfl, rfl, rfl, rfl, rfl, rfl, trivial⟩ (HSub.refl _)
     ·
      refine Wl.skip rfl rfl ?_
      refine Wl.skip rfl rfl ?_
      refine Wl.skip rfl rfl ?_
      refine Wl.q rfl rfl (OpQ.pickF rfl rfl) ?_
      refine Wl.nil (PX.then_n ?_)
      refine CT.condF rfl ?_
      refine CT.skip ?_
      exact PX.cut hK1 () (fun h _ => of_decide_eq_false hg110 (oi_neg.2 h)) ⟨rfl, rfl, rfl, rfl, rfl, rfl, rfl, rfl, rfl, rfl, trivial⟩ (HSub.refl _)
    ·
     refine CT.seq (CT.seq (CT.region ?_))
     refine Wl.q rfl rfl (OpQ.fieldAddr zf110 rfl) ?_
     refine Wl.q rfl rfl (OpQ.loadF (b := b11) zf8 rfl (by repeat (first | exact Has.here | apply Has.there)) (by rfl)) ?_
     refine Wl.q rfl rfl (OpQ.eql rfl rfl) ?_
     refine Wl.nil (PX.then_n ?_)
     refine CT.cond rfl (fun h117 => ?_) (fun h117 => ?_)
     ·
      have h117 := of_decide_eq_true h117
      have hto := oi_neg.1 h117
      obtain ⟨q, hto2⟩ : ∃ q, S2.sq.to x.2 a = some q := Option.ne_none_iff_exists'.1 (fun e => hnb hto e)
      have hqn := hlt2 _ _ _ hx2' hag hto2
      refine CT.seq (CT.region ?_)
      refine Wl.q rfl rfl (OpQ.move rfl) ?_
      refine Wl.q rfl rfl (OpQ.move rfl) ?_
      refine Wl.q rfl rfl (OpQ.fieldAddr zf112 rfl) ?_
      refine Wl.q rfl rfl (OpQ.loadF (b := b11) zf8 rfl (by repeat (first | exact Has.here | apply Has.there)) (by rfl)) ?_
      refine Wl.know 121 (v' := .int .i64 ((q : Nat) : Int)) rfl (congrArg zo hto2) ?_
      refine Wl.g rfl rfl (OpG.call zf106 rfl (fun w hH => (finish_spec w S2 (hH.stays0 hS2) hv2 bt F2 a3 c3 a4 n4 c4 (hH.stays0 hB2) (hH.stays0 hF2) δ2 hf2 hco2 q hqn).mono fun e w' ⟨ws, h1, h2, h3⟩ => ⟨ws, h1, h2, hH.ext_nil h3⟩)) ?_
      rintro ws ⟨hw1, hw2, hw3⟩
      refine Wl.q rfl rfl (OpQ.concat rfl rfl (by simp only [List.length_singleton]; omega)) ?_
      refine Wl.q rfl rfl (OpQ.assign rfl) ?_
      refine Wl.q rfl rfl (OpQ.assign rfl) ?_
      refine Wl.nil (PX.then_n (CT.ret (PX.then_r (PX.block_r (PX.then_r (PX.then_r (PX.block_r (PX.then_r ?_))))))))
      refine PX.ret2 rfl rfl rfl (fun w' hH => ?_)
      exact ⟨([(UInt8.ofNat (97 + a))] ++ ws, true, D), ⟨hO, hcr, hpx, fun _ => ⟨(show Lw S.L ws from by rw [hLL]; exact hw1).cons8 hag (show S.L ≤ 6 by omega), by rw [List.length_append, List.length_singleton]; omega, by rw [wl_cons8 (show a < 100 by omega)]; exact df_r hto hto2 hw3⟩, fun h => by cases h⟩, rfl, HOk.post (hH.take (.cons (.there (.there (.there .here))) (.cons (.there (.there (.there .here))) (.cons (.there (.there (.there .here))) (.cons (.there (.there (.there .here))) (.cons (.there (.there (.there .here))) .nil))))))⟩
     ·
      have h117 := of_decide_eq_false h117
      obtain ⟨p, hto⟩ := oi_some h117
      have hpn := hlt1 _ _ _ hx1 hag hto
      refine CT.skip (PX.then_n (CT.seq (CT.seq (CT.region ?_))))
      refine Wl.q rfl rfl (OpQ.fieldAddr zf112 rfl) ?_
      refine Wl.q rfl rfl (OpQ.loadF (b := b11) zf8 rfl (by repeat (first | exact Has.here | apply Has.there)) (by rfl)) ?_
      refine Wl.q rfl rfl (OpQ.eql rfl rfl) ?_
      refine Wl.nil (PX.then_n ?_)
      refine CT.cond rfl (fun h126 => ?_) (fun h126 => ?_)
      ·
       have h126 := of_decide_eq_true h126
       have hto2 := oi_neg.1 h126
       refine CT.seq (CT.region ?_)
       refine Wl.q rfl rfl (OpQ.move rfl) ?_
       refine Wl.q rfl rfl (OpQ.move rfl) ?_
       refine Wl.q rfl rfl (OpQ.fieldAddr zf110 rfl) ?_
       refine Wl.q rfl rfl (OpQ.loadF (b := b11) zf8 rfl (by repeat (first | exact Has.here | apply Has.there)) (by rfl)) ?_
       refine Wl.know 130 (v' := .int .i64 ((p : Nat) : Int)) rfl (congrArg zo hto) ?_
       refine Wl.g rfl rfl (OpG.call zf106 rfl (fun w hH => (finish_spec w S (hH.stays0 hS) hv bs F a1 c1 a2 n2 c2 (hH.stays0 hB) (hH.stays0 hF) δ hf hco p hpn).mono fun e w' ⟨ws, h1, h2, h3⟩ => ⟨ws, h1, h2, hH.ext_nil h3⟩)) ?_
       rintro ws ⟨hw1, hw2, hw3⟩
       refine Wl.q rfl rfl (OpQ.concat rfl rfl (by simp only [List.length_singleton]; omega)) ?_
       refine Wl.q rfl rfl (OpQ.assign rfl) ?_
       refine Wl.q rfl rfl (OpQ.assign rfl) ?_
       refine Wl.nil (PX.then_n (CT.ret (PX.then_r (PX.block_r (PX.then_r (PX.then_r (PX.block_r (PX.then_r ?_))))))))
       refine PX.ret2 rfl rfl rfl (fun w' hH => ?_)
       exact ⟨([(UInt8.ofNat (97 + a))] ++ ws, true, D), ⟨hO, hcr, hpx, fun _ => ⟨(show Lw S.L ws from hw1).cons8 hag (show S.L ≤ 6 by omega), by rw [List.length_append, List.length_singleton]; omega, by rw [wl_cons8 (show a < 100 by omega)]; exact df_l hto hto2 hw3⟩, fun h => by cases h⟩, rfl, HOk.post (hH.take (.cons (.there (.there (.there .here))) (.cons (.there (.there (.there .here))) (.cons (.there (.there (.there .here))) (.cons (.there (.there (.there .here))) (.cons (.there (.there (.there .here))) .nil))))))⟩
      ·
       have h126 := of_decide_eq_false h126
       obtain ⟨q, hto2⟩ := oi_some h126
       have hqn := hlt2 _ _ _ hx2' hag hto2
       refine CT.skip (PX.then_n (CT.seq (CT.seq ?_)))
       refine CT.draw 26 zf6 ?_
       refine RA.q 0 (by kernel_rfl) rfl rfl rfl (.refl _) (OpQ.move rfl) ?_
       refine RA.q 1 (by kernel_rfl) rfl rfl rfl (.refl _) (OpQ.nilCheckP rfl) ?_
       refine RA.q 2 (by kernel_rfl) rfl rfl rfl (.refl _) (OpQ.fieldAddr zf101 rfl) ?_
       refine RA.q 3 (by kernel_rfl) rfl rfl rfl (.refl _) (OpQ.fieldAddr zf34 rfl) ?_
       refine RA.q 4 (by kernel_rfl) rfl rfl rfl (.refl _) (OpQ.loadG (a := some ⟨bs, 0, none⟩) (j := 4) zf35 rfl (fun w hH => hH.use hB) rfl) ?_
       refine RA.q 5 (by kernel_rfl) rfl rfl rfl (.refl _) (OpQ.fieldAddr zf110 rfl) ?_
       refine RA.q 6 (by kernel_rfl) rfl rfl rfl (.refl _) (OpQ.loadF (b := b8) zf8 rfl (by repeat (first | exact Has.here | apply Has.there)) (by rfl)) ?_
       refine RA.q 7 (by kernel_rfl) rfl rfl rfl (.refl _) (OpQ.index1 zf23 zf36 rfl rfl (by omega) (hos (by omega))) ?_
       refine RA.q 8 (by kernel_rfl) rfl rfl rfl (.refl _) (OpQ.loadG zf37 rfl (fun w hH => (hH.use hS).o) (getMap rxv S.os rx0 (j := x.1) (by omega))) ?_
       refine RA.q 9 (by kernel_rfl) rfl rfl rfl (.refl _) (OpQ.move rfl) ?_
       refine RA.q 10 (by kernel_rfl) rfl rfl rfl (.refl _) (OpQ.index1 zf17 zf38 rfl rfl (by omega) (hus x.1 (by omega) (by omega))) ?_
       refine RA.q 11 (by kernel_rfl) rfl rfl rfl (.refl _) (OpQ.loadG zf39 rfl (fun w hH => (hH.use hS).u _ (getDm (show x.1 < S.os.length by omega))) (getMap sv (S.os.getD x.1 rx0).xs [] (j := a) (by omega))) ?_
       refine RA.know 144 (v' := sv (S.sq.o x.1 a)) rfl (congrArg sv (S.o_eq x.1 a).symm) ?_
       refine RA.q 12 (by kernel_rfl) rfl rfl rfl (.refl _) (OpQ.move rfl) ?_
       refine RA.q 13 (by kernel_rfl) rfl rfl rfl (.refl _) (OpQ.nilCheckP rfl) ?_
       refine RA.q 14 (by kernel_rfl) rfl rfl rfl (.refl _) (OpQ.fieldAddr zf101 rfl) ?_
       refine RA.q 15 (by kernel_rfl) rfl rfl rfl (.refl _) (OpQ.fieldAddr zf34 rfl) ?_
       refine RA.q 16 (by kernel_rfl) rfl rfl rfl (.refl _) (OpQ.loadG (a := some ⟨bt, 0, none⟩) (j := 4) zf35 rfl (fun w hH => hH.use hB2) rfl) ?_
       refine RA.q 17 (by kernel_rfl) rfl rfl rfl (.refl _) (OpQ.fieldAddr zf112 rfl) ?_
       refine RA.q 18 (by kernel_rfl) rfl rfl rfl (.refl _) (OpQ.loadF (b := b8) zf8 rfl (by repeat (first | exact Has.here | apply Has.there)) (by rfl)) ?_
       refine RA.q 19 (by kernel_rfl) rfl rfl rfl (.refl _) (OpQ.index1 zf23 zf36 rfl rfl (by omega) (hos2 (by omega))) ?_
       refine RA.q 20 (by kernel_rfl) rfl rfl rfl (.refl _) (OpQ.loadG zf37 rfl (fun w hH => (hH.use hS2).o) (getMap rxv S2.os rx0 (j := x.2) (by omega))) ?_
       refine RA.q 21 (by kernel_rfl) rfl rfl rfl (.refl _) (OpQ.move rfl) ?_
       refine RA.q 22 (by kernel_rfl) rfl rfl rfl (.refl _) (OpQ.index1 zf17 zf38 rfl rfl (by omega) (hus2 x.2 (by omega) (by omega))) ?_
       refine RA.q 23 (by kernel_rfl) rfl rfl rfl (.refl _) (OpQ.loadG zf39 rfl (fun w hH => (hH.use hS2).u _ (getDm (show x.2 < S2.os.length by omega))) (getMap sv (S2.os.getD x.2 rx0).xs [] (j := a) (by omega))) ?_
       refine RA.know 156 (v' := sv (S2.sq.o x.2 a)) rfl (congrArg sv (S2.o_eq x.2 a).symm) ?_
       refine RA.q 24 (by kernel_rfl) rfl rfl rfl (.refl _) (OpQ.assign rfl) ?_
       refine RA.q 25 (by kernel_rfl) rfl rfl rfl (.refl _) (OpQ.assign rfl) ?_
       refine RA.tail ?_
       refine RT.done (by kernel_rfl) ?_
       refine PX.then_n (CT.seq (CT.region ?_))
       refine Wl.q rfl rfl (OpQ.move rfl) ?_
       refine Wl.q rfl rfl (OpQ.move rfl) ?_
       refine Wl.q rfl rfl (OpQ.neqS rfl rfl) ?_
       refine Wl.nil (PX.then_n ?_)
       refine CT.cond rfl (fun h159 => ?_) (fun h159 => ?_)
       ·
        have huv : S.sq.o x.1 a ≠ S2.sq.o x.2 a := by simpa using h159
        refine CT.seq (CT.region ?_)
        refine Wl.q rfl rfl (OpQ.move rfl) ?_
        refine Wl.q rfl rfl (OpQ.move rfl) ?_
        refine Wl.q rfl rfl (OpQ.move rfl) ?_
        refine Wl.q rfl rfl (OpQ.loadV (b := b11) zf119 zf120 rfl (by repeat (first | exact Has.here | apply Has.there)) (by rfl)) ?_
        refine Wl.know 163 (v' := kp (p, q)) rfl (by rw [hto, hto2]; rfl) ?_
        refine Wl.q rfl rfl (OpQ.move rfl) ?_
        refine Wl.q rfl rfl (OpQ.move rfl) ?_
        refine Wl.g rfl rfl (OpG.call zf130 rfl (fun w hH => ((apart_spec w S (hH.stays0 hS) hv bs F a1 c1 a2 n2 c2 (hH.stays0 hB) (hH.stays0 hF) δ hf hco S2 (hH.stays0 hS2) hv2 bt F2 a3 c3 a4 n4 c4 (hH.stays0 hB2) (hH.stays0 hF2) δ2 hf2 hco2 hN1 hN2 hLL p q hpn hqn _ _ huv M hM1 hM2)).mono fun e w' ⟨ws, h1, h2, h3⟩ => ⟨ws, h1, h2, hH.ext_nil h3⟩)) ?_
        rintro ws ⟨hw1, hw2, hw3⟩
        refine Wl.q rfl rfl (OpQ.concat rfl rfl (by simp only [List.length_singleton]; omega)) ?_
        refine Wl.q rfl rfl (OpQ.assign rfl) ?_
        refine Wl.q rfl rfl (OpQ.assign rfl) ?_
        refine Wl.nil (PX.then_n (CT.ret (PX.then_r (PX.block_r (PX.then_r (PX.then_r (PX.block_r (PX.then_r ?_))))))))
        refine PX.ret2 rfl rfl rfl (fun w' hH => ?_)
        exact ⟨([(UInt8.ofNat (97 + a))] ++ ws, true, D), ⟨hO, hcr, hpx, fun _ => ⟨hw1.cons8 hag (show S.L ≤ 6 by omega), by rw [List.length_append, List.length_singleton]; omega, by rw [wl_cons8 (show a < 100 by omega)]; exact df_o hto hto2 hw3⟩, fun h => by cases h⟩, rfl, HOk.post (hH.take (.cons (.there (.there (.there .here))) (.cons (.there (.there (.there .here))) (.cons (.there (.there (.there .here))) (.cons (.there (.there (.there .here))) (.cons (.there (.there (.there .here))) .nil))))))⟩
       ·
        have huv : S.sq.o x.1 a = S2.sq.o x.2 a := by simpa using h159
        refine CT.skip (PX.then_n (CT.region ?_))
        refine Wl.q rfl rfl (OpQ.move rfl) ?_
        refine Wl.q rfl rfl (OpQ.loadV (b := b11) zf119 zf120 rfl (by repeat (first | exact Has.here | apply Has.there)) (by rfl)) ?_
        refine Wl.know 169 (v' := kp (p, q)) rfl (by rw [hto, hto2]; rfl) ?_
        refine Wl.q rfl rfl (OpQ.move rfl) ?_
        refine Wl.q rfl rfl (OpQ.move rfl) ?_
        refine Wl.g rfl rfl (OpG.callX zf131 rfl (.cons (.there (.there (.there .here))) (.cons (.there (.there (.there .here))) (.cons (.there (.there (.there .here))) (.cons (.there (.there (.there .here))) (.cons (.there (.there (.there .here))) .nil))))) (fun _ => (.cons (.cons (.cons (.cons (.cons .nil)))))) (fun w hH hp => cadd_spec w S S2 bs bt bc pa pc D hv hv2 hO hpa _ _ _ _ _ _ (hH.stays hB (.cons (.there (.there (.there .here))) (.cons (.there (.there (.there .here))) (.cons (.there (.there (.there .here))) (.cons (.there (.there (.there .here))) (.cons (.there (.there (.there .here))) .nil)))))) (p, q) hpn hqn i a (.inr ⟨by omega, hag, by rw [hDx]; exact ⟨hto, hto2, huv⟩⟩) hp)) ?_
        rintro D' ⟨hO', hjn', hcr', hpx'⟩
        refine Wl.nil (PX.block_n (PX.then_n (CT.region ?_)))
        refine Wl.q rfl rfl (OpQ.add rfl rfl (by omega)) ?_
        refine Wl.q rfl rfl (OpQ.move rfl) ?_
        refine Wl.nil ?_
        refine PX.as (fun _ h => h.take (.cons (.there (.there (.there (.there (.there (.there (.there .here))))))) (.cons .here (.cons .here (.cons .here (.cons .here (.cons .here .nil))))))) ?_
        exact PX.loop hK0 (a + 1, D') ⟨by omega, hO', hcr.trans hcr', hpx.trans hpx', (hcl.mono (fun q b p h1 h2 => hlt1 q b p h1 (by omega)) (fun q b p h1 h2 => hlt2 q b p h1 (by omega)) hx1 hx2' hcr').snoc (.inr ⟨(p, q), ⟨hto, hto2, huv⟩, hjn'⟩)⟩ (show S.L - (a + 1) < S.L - a by omega) ⟨rfl, rfl, rfl, rfl, rfl, rfl, rfl, trivial⟩ (HSub.refl _)
   ·
    have h75 := of_decide_eq_false h75
    obtain rfl : a = S.L := by omega
    refine CT.exit (PX.then_x (PX.then_x (PX.block_x (PX.then_n (CT.seq (CT.region ?_))))))
    refine Wl.q rfl rfl (OpQ.assign rfl) ?_
    refine Wl.q rfl rfl (OpQ.assign rfl) ?_
    refine Wl.nil (PX.then_n (CT.ret ?_))
    refine PX.ret2 rfl rfl rfl (fun w' hH => ?_)
    exact ⟨([], false, D), ⟨hO, hcr, hpx, fun h => (by cases h), fun _ => hcl⟩, rfl, HOk.post (hH.take (.cons (.there .here) (.cons (.there .here) (.cons (.there .here) (.cons (.there .here) (.cons (.there .here) .nil))))))⟩

end Go.Proofs.Ytamolakhpcofhaa

