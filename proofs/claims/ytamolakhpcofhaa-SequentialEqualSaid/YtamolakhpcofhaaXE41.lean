/-
  What functions of the program compute, each by its walk. Conditions: those that each theorem names.
-/
import Derived.Test.YtamolakhpcofhaaMod1
import Derived.Test.YtamolakhpcofhaaEng1
import Derived.Test.YtamolakhpcofhaaXE40
import Derived.Test.YtamolakhpcofhaaXF
set_option linter.unusedSimpArgs false
namespace Go.Proofs.Ytamolakhpcofhaa
open Go Go.Eng Go.Am Go.Sq
open Go.Tp (zi)
open Go.Tl (mayL Wd okW okB bo)

set_option maxRecDepth 100000 in
set_option maxHeartbeats 1000000 in
/-- (*semigroup/sequential.comparison).add -/
theorem cadd_spec (w : World) (S S2 : Sv) (bs bt bc : Nat) (pa : Option Addr) (pc : Nat) (C : Cs) (hv : S.sq.Ok 4096) (hv2 : S2.sq.Ok 4096) (hO : CsOk S.sq S2.sq C) (hpa : pa.isSome = true) (a1 : Option Addr) (n1 c1 : Nat) (a2 : Option Addr) (n2 c2 : Nat) (hB : Stays (blks [.row 135 6 (vb bc) 1 [.pointer (some ⟨bs, 0, none⟩), .pointer (some ⟨bt, 0, none⟩), .slice pa (S.sq.n + S2.sq.n) pc, .slice C.qa C.Q.length C.qc, .slice C.fa C.F.length C.fc, .slice C.ba C.B.length C.bc], .row 3 1 (.slice pa (S.sq.n + S2.sq.n) pc) (S.sq.n + S2.sq.n) ((C.P).map zn), .row 82 2 (.slice C.qa C.Q.length C.qc) C.Q.length (C.Q.flatMap stv), .row 3 1 (.slice C.fa C.F.length C.fc) C.F.length (C.F.map zn), .row 3 1 (.slice C.ba C.B.length C.bc) C.B.length (C.B.map zn)]) w (fun w => Rd w (some ⟨bs, 0, none⟩) (svc S ++ [.slice a1 n1 c1, .slice a2 n2 c2]))) (x : Nat × Nat) (hx1 : x.1 < S.sq.n) (hx2 : x.2 < S2.sq.n) (f bl : Nat) (hst : (C.Q = [] ∧ x = (S.sq.s, S2.sq.s)) ∨ (f < C.Q.length ∧ bl < S.sq.L ∧ St2 S.sq S2.sq (C.Q.getD f z2) bl x)) (hpre : Pre [.row 135 6 (vb bc) 1 [.pointer (some ⟨bs, 0, none⟩), .pointer (some ⟨bt, 0, none⟩), .slice pa (S.sq.n + S2.sq.n) pc, .slice C.qa C.Q.length C.qc, .slice C.fa C.F.length C.fc, .slice C.ba C.B.length C.bc], .row 3 1 (.slice pa (S.sq.n + S2.sq.n) pc) (S.sq.n + S2.sq.n) ((C.P).map zn), .row 82 2 (.slice C.qa C.Q.length C.qc) C.Q.length (C.Q.flatMap stv), .row 3 1 (.slice C.fa C.F.length C.fc) C.F.length (C.F.map zn), .row 3 1 (.slice C.ba C.B.length C.bc) C.B.length (C.B.map zn)] w) : Calls Try.prog 84 #[.pointer (some ⟨bc, 0, none⟩), kp x, .int .i64 ((f : Nat) : Int), .int .i64 ((bl : Nat) : Int)] w (fun e w' => ∃ C' : Cs, (CsOk S.sq S2.sq C' ∧ C'.k x.1 = C'.k (S.sq.n + x.2) ∧ Crs (S.sq.n + S2.sq.n) C.k C'.k ∧ C.Q <+: C'.Q) ∧ e = .returned (.tuple #[]) ∧ Post (blks [.row 135 6 (vb bc) 1 [.pointer (some ⟨bs, 0, none⟩), .pointer (some ⟨bt, 0, none⟩), .slice pa (S.sq.n + S2.sq.n) pc, .slice C.qa C.Q.length C.qc, .slice C.fa C.F.length C.fc, .slice C.ba C.B.length C.bc], .row 3 1 (.slice pa (S.sq.n + S2.sq.n) pc) (S.sq.n + S2.sq.n) ((C.P).map zn), .row 82 2 (.slice C.qa C.Q.length C.qc) C.Q.length (C.Q.flatMap stv), .row 3 1 (.slice C.fa C.F.length C.fc) C.F.length (C.F.map zn), .row 3 1 (.slice C.ba C.B.length C.bc) C.B.length (C.B.map zn)]) [.row 135 6 (vb bc) 1 [.pointer (some ⟨bs, 0, none⟩), .pointer (some ⟨bt, 0, none⟩), .slice pa (S.sq.n + S2.sq.n) pc, .slice C'.qa C'.Q.length C'.qc, .slice C'.fa C'.F.length C'.fc, .slice C'.ba C'.B.length C'.bc], .row 3 1 (.slice pa (S.sq.n + S2.sq.n) pc) (S.sq.n + S2.sq.n) ((C'.P).map zn), .row 82 2 (.slice C'.qa C'.Q.length C'.qc) C'.Q.length (C'.Q.flatMap stv), .row 3 1 (.slice C'.fa C'.F.length C'.fc) C'.F.length (C'.F.map zn), .row 3 1 (.slice C'.ba C'.B.length C'.bc) C'.B.length (C'.B.map zn)] w w') := by
 obtain ⟨hU, hC⟩ := hO
 have hn1 := hv.n5
 have hn2 := hv2.n5
 have hql := hC.len
 have hfl := hC.fl
 have hbl := hC.bl
 have hUk := hU
 have hrn := S.n_eq
 have hN : (S.sq.n + S2.sq.n) ≤ 1024 := by omega
 refine enterX (args := [.pointer (some ⟨bc, 0, none⟩), kp x, .int .i64 ((f : Nat) : Int), .int .i64 ((bl : Nat) : Int)]) hpre 68 Try.func84 rfl rfl rfl ?_
 refine CT.seq (CT.region ?_)
 refine Wl.g rfl rfl (OpG.box (size := 2) rfl rfl rfl) ?_
 rintro b5 _
 refine Wl.as (fun _ h => h.take (.cons (.there .here) (.cons (.there .here) (.cons .here (.cons .here (.cons .here (.cons .here .nil))))))) ?_
 refine Wl.nil (PX.then_n ?_)
 refine CT.cut (ι := List Nat) (Φ := fun P => Uf (S.sq.n + S2.sq.n) P C.k C.δ) (E' := fun _ => [(0, .pointer (some ⟨bc, 0, none⟩)), (2, .int .i64 ((f : Nat) : Int)), (3, .int .i64 ((bl : Nat) : Int)), (5, .pointer (some ⟨b5, 0, none⟩)), (8, .int .i64 ((C.k x.1 : Nat) : Int)), (9, .int .i64 ((C.k (S.sq.n + x.2) : Nat) : Int))]) (H' := fun P => [.row 135 6 (vb bc) 1 [.pointer (some ⟨bs, 0, none⟩), .pointer (some ⟨bt, 0, none⟩), .slice pa (S.sq.n + S2.sq.n) pc, .slice C.qa C.Q.length C.qc, .slice C.fa C.F.length C.fc, .slice C.ba C.B.length C.bc], .row 3 1 (.slice pa (S.sq.n + S2.sq.n) pc) (S.sq.n + S2.sq.n) ((P).map zn), .row 82 2 (vb b5) 1 (stv x), .row 82 2 (.slice C.qa C.Q.length C.qc) C.Q.length (C.Q.flatMap stv), .row 3 1 (.slice C.fa C.F.length C.fc) C.F.length (C.F.map zn), .row 3 1 (.slice C.ba C.B.length C.bc) C.B.length (C.B.map zn)]) (fun K0 hK0 => ?_) (fun P hU => ?_)
 ·
  refine CT.draw' (Hc := [.row 135 6 (vb bc) 1 [.pointer (some ⟨bs, 0, none⟩), .pointer (some ⟨bt, 0, none⟩), .slice pa (S.sq.n + S2.sq.n) pc, .slice C.qa C.Q.length C.qc, .slice C.fa C.F.length C.fc, .slice C.ba C.B.length C.bc], .row 82 2 (vb b5) 1 (stv x)]) 20 zf6 ?_
  refine RA.q 0 (by kernel_rfl) rfl rfl rfl (.cons_cons _ (.cons _ (.cons_cons _ (.cons _ (.cons _ (.cons _ (.refl _))))))) (OpQ.move rfl) ?_
  refine RA.q 1 (by kernel_rfl) rfl rfl rfl (.cons_cons _ (.cons _ (.cons_cons _ (.cons _ (.cons _ (.cons _ (.refl _))))))) (OpQ.fieldAddr zf110 rfl) ?_
  refine RA.q 2 (by kernel_rfl) rfl rfl rfl (.cons_cons _ (.cons _ (.cons_cons _ (.cons _ (.cons _ (.cons _ (.refl _))))))) (OpQ.loadF (b := b5) zf8 rfl (by repeat (first | exact Has.here | apply Has.there)) (by rfl)) ?_
  refine RA.q 4 (by kernel_rfl) rfl rfl rfl (.cons_cons _ (.cons _ (.cons_cons _ (.cons _ (.cons _ (.cons _ (.refl _))))))) (OpQ.move rfl) ?_
  refine RA.q 5 (by kernel_rfl) rfl rfl rfl (.cons_cons _ (.cons _ (.cons_cons _ (.cons _ (.cons _ (.cons _ (.refl _))))))) (OpQ.move rfl) ?_
  refine RA.q 6 (by kernel_rfl) rfl rfl rfl (.cons_cons _ (.cons _ (.cons_cons _ (.cons _ (.cons _ (.cons _ (.refl _))))))) (OpQ.nilCheckP rfl) ?_
  refine RA.q 7 (by kernel_rfl) rfl rfl rfl (.cons_cons _ (.cons _ (.cons_cons _ (.cons _ (.cons _ (.cons _ (.refl _))))))) (OpQ.fieldAddr zf114 rfl) ?_
  refine RA.q 8 (by kernel_rfl) rfl rfl rfl (.cons_cons _ (.cons _ (.cons_cons _ (.cons _ (.cons _ (.cons _ (.refl _))))))) (OpQ.loadF (b := bc) zf115 rfl (by repeat (first | exact Has.here | apply Has.there)) (by rfl)) ?_
  refine RA.q 9 (by kernel_rfl) rfl rfl rfl (.cons_cons _ (.cons _ (.cons_cons _ (.cons _ (.cons _ (.cons _ (.refl _))))))) (OpQ.nilCheckP rfl) ?_
  refine RA.q 10 (by kernel_rfl) rfl rfl rfl (.cons_cons _ (.cons _ (.cons_cons _ (.cons _ (.cons _ (.cons _ (.refl _))))))) (OpQ.fieldAddr zf101 rfl) ?_
  refine RA.q 11 (by kernel_rfl) rfl rfl rfl (.cons_cons _ (.cons _ (.cons_cons _ (.cons _ (.cons _ (.cons _ (.refl _))))))) (OpQ.fieldAddr zf30 rfl) ?_
  refine RA.q 12 (by kernel_rfl) rfl rfl rfl (.cons_cons _ (.cons _ (.cons_cons _ (.cons _ (.cons _ (.cons _ (.refl _))))))) (OpQ.loadG (a := some ⟨bs, 0, none⟩) (j := 3) zf31 rfl (fun w hH => hH.use hB) rfl) ?_
  refine RA.q 13 (by kernel_rfl) rfl rfl rfl (.cons_cons _ (.cons _ (.cons_cons _ (.cons _ (.cons _ (.cons _ (.refl _))))))) (OpQ.len zf21 rfl) ?_
  refine RA.q 14 (by kernel_rfl) rfl rfl rfl (.cons_cons _ (.cons _ (.cons_cons _ (.cons _ (.cons _ (.cons _ (.refl _))))))) (OpQ.fieldAddr zf112 rfl) ?_
  refine RA.q 15 (by kernel_rfl) rfl rfl rfl (.cons_cons _ (.cons _ (.cons_cons _ (.cons _ (.cons _ (.cons _ (.refl _))))))) (OpQ.loadF (b := b5) zf8 rfl (by repeat (first | exact Has.here | apply Has.there)) (by rfl)) ?_
  refine RA.q 16 (by kernel_rfl) rfl rfl rfl (.cons_cons _ (.cons _ (.cons_cons _ (.cons _ (.cons _ (.cons _ (.refl _))))))) (OpQ.add rfl rfl (by omega)) ?_
  refine RA.know 26 (v' := .int .i64 ((S.sq.n + x.2 : Nat) : Int)) rfl (congrArg (Value.int .i64) (by rw [S.n_eq]; push_cast; rfl)) ?_
  refine RA.f 3 (by kernel_rfl) rfl rfl rfl (OpG.callX zf116 rfl (.cons .here (.cons .here .nil)) (fun _ => (.cons (.cons .nil))) (fun w hH hp => root_spec w bc _ _ _ _ _ pa pc _ _ C.k C.δ hU hpa hN (x.1) (by omega) hp)) (fun _ _ => (.cons_cons _ (.cons _ (.cons_cons _ (.cons _ (.cons _ (.cons _ (.refl _)))))))) ?_
  rintro P13 hU13
  have hU := hU13
  refine RA.f 17 (by kernel_rfl) rfl rfl rfl (OpG.callX zf116 rfl (.cons .here (.cons .here .nil)) (fun _ => (.cons (.cons .nil))) (fun w hH hp => root_spec w bc _ _ _ _ _ pa pc _ _ C.k C.δ hU hpa hN (S.sq.n + x.2) (by omega) hp)) (fun _ _ => (.cons_cons _ (.cons _ (.cons_cons _ (.cons _ (.cons _ (.cons _ (.refl _)))))))) ?_
  rintro P27 hU27
  have hU := hU27
  refine RA.q 18 (by kernel_rfl) rfl rfl rfl (.cons_cons _ (.cons _ (.cons_cons _ (.cons _ (.cons _ (.cons _ (.refl _))))))) (OpQ.assign rfl) ?_
  refine RA.q 19 (by kernel_rfl) rfl rfl rfl (.cons_cons _ (.cons _ (.cons_cons _ (.cons _ (.cons _ (.cons _ (.refl _))))))) (OpQ.assign rfl) ?_
  refine RA.tail ?_
  refine RT.done (by kernel_rfl) ?_
  exact PX.cut hK0 P27 hU ⟨rfl, rfl, rfl, rfl, rfl, rfl, trivial⟩ (HSub.refl _)
 ·
  have hPl := hU.len
  have hk1 := hU.kl x.1 (by omega)
  have hk2 := hU.kl (S.sq.n + x.2) (by omega)
  refine CT.seq (CT.seq (CT.region ?_))
  refine Wl.q rfl rfl (OpQ.move rfl) ?_
  refine Wl.q rfl rfl (OpQ.move rfl) ?_
  refine Wl.q rfl rfl (OpQ.eql rfl rfl) ?_
  refine Wl.nil (PX.then_n ?_)
  refine CT.cond rfl (fun h30 => ?_) (fun h30 => ?_)
  ·
   have h30 := of_decide_eq_true h30
   have hj : C.k x.1 = C.k (S.sq.n + x.2) := by omega
   refine CT.ret (PX.then_r ?_)
   refine PX.ret0 rfl (fun w' hH => ?_)
   exact ⟨⟨P, C.Q, C.F, C.B, C.qa, C.qc, C.fa, C.fc, C.ba, C.bc, C.k, C.δ⟩, ⟨⟨hU, hC⟩, hj, Crs.refl _ _, List.prefix_rfl⟩, rfl, HOk.post (hH.take (.cons .here (.cons .here (.cons (.there .here) (.cons (.there .here) (.cons (.there .here) .nil))))))⟩
  ·
   have h30 := of_decide_eq_false h30
   have hne : C.k x.1 ≠ C.k (S.sq.n + x.2) := by omega
   refine CT.skip (PX.then_n (CT.seq (CT.region ?_)))
   refine Wl.q rfl rfl (OpQ.move rfl) ?_
   refine Wl.q rfl rfl (OpQ.nilCheckP rfl) ?_
   refine Wl.q rfl rfl (OpQ.fieldAddr zf107 rfl) ?_
   refine Wl.q rfl rfl (OpQ.loadF (b := bc) zf10 rfl (by repeat (first | exact Has.here | apply Has.there)) (by rfl)) ?_
   refine Wl.q rfl rfl (OpQ.move rfl) ?_
   refine Wl.q rfl rfl (OpQ.move rfl) ?_
   refine Wl.q rfl rfl (OpQ.index1 zf0 zf1 rfl rfl (by omega) hpa) ?_
   refine Wl.g rfl rfl (OpG.storeRow zf1 rfl rfl rfl (.there .here) (by rw [List.length_map]; omega)) ?_
   rintro _ _
   refine Wl.mem (H' := [.row 135 6 (vb bc) 1 [.pointer (some ⟨bs, 0, none⟩), .pointer (some ⟨bt, 0, none⟩), .slice pa (S.sq.n + S2.sq.n) pc, .slice C.qa C.Q.length C.qc, .slice C.fa C.F.length C.fc, .slice C.ba C.B.length C.bc], .row 3 1 (.slice pa (S.sq.n + S2.sq.n) pc) (S.sq.n + S2.sq.n) (((P.set (C.k x.1) (C.k (S.sq.n + x.2)))).map zn), .row 82 2 (vb b5) 1 (stv x), .row 82 2 (.slice C.qa C.Q.length C.qc) C.Q.length (C.Q.flatMap stv), .row 3 1 (.slice C.fa C.F.length C.fc) C.F.length (C.F.map zn), .row 3 1 (.slice C.ba C.B.length C.bc) C.B.length (C.B.map zn)]) (.keep rfl (.keep (row_eq (by rw [List.map_set]; rfl)) (HSub.refl _))) ?_
   refine Wl.nil (PX.then_n (CT.seq ?_))
   refine CT.draw' (Hc := [.row 135 6 (vb bc) 1 [.pointer (some ⟨bs, 0, none⟩), .pointer (some ⟨bt, 0, none⟩), .slice pa (S.sq.n + S2.sq.n) pc, .slice C.qa C.Q.length C.qc, .slice C.fa C.F.length C.fc, .slice C.ba C.B.length C.bc], .row 82 2 (vb b5) 1 (stv x)]) 10 zf6 ?_
   refine RA.q 0 (by kernel_rfl) rfl rfl rfl (.cons_cons _ (.cons _ (.cons_cons _ (.cons _ (.cons _ (.cons _ (.refl _))))))) (OpQ.move rfl) ?_
   refine RA.q 1 (by kernel_rfl) rfl rfl rfl (.cons_cons _ (.cons _ (.cons_cons _ (.cons _ (.cons _ (.cons _ (.refl _))))))) (OpQ.move rfl) ?_
   refine RA.q 2 (by kernel_rfl) rfl rfl rfl (.cons_cons _ (.cons _ (.cons_cons _ (.cons _ (.cons _ (.cons _ (.refl _))))))) (OpQ.nilCheckP rfl) ?_
   refine RA.q 3 (by kernel_rfl) rfl rfl rfl (.cons_cons _ (.cons _ (.cons_cons _ (.cons _ (.cons _ (.cons _ (.refl _))))))) (OpQ.fieldAddr zf117 rfl) ?_
   refine RA.q 4 (by kernel_rfl) rfl rfl rfl (.cons_cons _ (.cons _ (.cons_cons _ (.cons _ (.cons _ (.cons _ (.refl _))))))) (OpQ.loadF (b := bc) zf118 rfl (by repeat (first | exact Has.here | apply Has.there)) (by rfl)) ?_
   refine RA.q 5 (by kernel_rfl) rfl rfl rfl (.cons_cons _ (.cons _ (.cons_cons _ (.cons _ (.cons _ (.cons _ (.refl _))))))) (OpQ.loadV (b := b5) zf119 zf120 rfl (by repeat (first | exact Has.here | apply Has.there)) (by rfl)) ?_
   refine RA.know 43 (v' := kp x) rfl rfl ?_
   refine RA.f 6 (by kernel_rfl) rfl rfl rfl (OpG.litS1 zf121 zf122 rfl (by decide) rfl) (fun _ _ => (.cons _ (.cons_cons _ (.cons _ (.cons_cons _ (.cons _ (.cons _ (.cons _ (.refl _))))))))) ?_
   rintro b44 _
   refine RA.f 7 (by kernel_rfl) rfl rfl rfl (OpG.append zf121 zf122 (by rfl) (by decide) rfl rfl (p := 4) rfl (fun w hH => hH.rd .here) ⟨rfl, (by simp [Value.oneCell']), (by omega), (by omega)⟩ (nm := (C.Q.length + 1)) rfl (all := (C.Q ++ [x]).flatMap stv) (by rw [List.flatMap_append]; rfl)) (fun _ _ => (.cons _ (.cons_cons _ (.cons _ (.cons_cons _ (.cons _ (.cons _ (.cons _ (.refl _))))))))) ?_
   rintro ⟨a45, c45⟩ h45
   refine RA.q 8 (by kernel_rfl) rfl rfl rfl (.cons _ (.cons_cons _ (.cons _ (.cons_cons _ (.cons _ (.cons _ (.cons _ (.refl _)))))))) (OpQ.nilCheckP rfl) ?_
   refine RA.q 9 (by kernel_rfl) rfl rfl rfl (.cons _ (.cons_cons _ (.cons _ (.cons_cons _ (.cons _ (.cons _ (.cons _ (.refl _)))))))) (OpQ.fieldAddr zf117 rfl) ?_
   refine RA.tail ?_
   refine RT.f 10 (by kernel_rfl) rfl rfl rfl (OpG.storeRow (a := some ⟨bc, 0, none⟩) zf123 rfl rfl rfl (by repeat (first | exact Upd.here | apply Upd.there)) (by simp)) ?_
   rintro _ _
   refine RT.done (by kernel_rfl) ?_
   refine PX.then_n (CT.seq (CT.region ?_))
   refine Wl.q rfl rfl (OpQ.move rfl) ?_
   refine Wl.q rfl rfl (OpQ.move rfl) ?_
   refine Wl.q rfl rfl (OpQ.nilCheckP rfl) ?_
   refine Wl.q rfl rfl (OpQ.fieldAddr zf124 rfl) ?_
   refine Wl.q rfl rfl (OpQ.loadF (b := bc) zf10 rfl (by repeat (first | exact Has.here | apply Has.there)) (by rfl)) ?_
   refine Wl.q rfl rfl (OpQ.move rfl) ?_
   refine Wl.g rfl rfl (OpG.lit1 zf0 zf16 rfl rfl rfl) ?_
   rintro b54 _
   refine Wl.g rfl rfl (OpG.append zf0 zf16 (by rfl) (by decide) rfl rfl (p := 6) rfl (fun w hH => hH.rd .here) ⟨rfl, (by simp [Value.oneCell']), (by omega), (by omega)⟩ (nm := (C.F.length + 1)) rfl (all := (C.F ++ [f]).map zn) (by rw [List.map_append]; rfl)) ?_
   rintro ⟨a55, c55⟩ h55
   refine Wl.q rfl rfl (OpQ.nilCheckP rfl) ?_
   refine Wl.q rfl rfl (OpQ.fieldAddr zf124 rfl) ?_
   refine Wl.g rfl rfl (OpG.storeRow (a := some ⟨bc, 0, none⟩) zf32 rfl rfl rfl (by repeat (first | exact Upd.here | apply Upd.there)) (by simp)) ?_
   rintro _ _
   refine Wl.nil (PX.then_n (CT.region ?_))
   refine Wl.q rfl rfl (OpQ.move rfl) ?_
   refine Wl.q rfl rfl (OpQ.move rfl) ?_
   refine Wl.q rfl rfl (OpQ.nilCheckP rfl) ?_
   refine Wl.q rfl rfl (OpQ.fieldAddr zf125 rfl) ?_
   refine Wl.q rfl rfl (OpQ.loadF (b := bc) zf10 rfl (by repeat (first | exact Has.here | apply Has.there)) (by rfl)) ?_
   refine Wl.q rfl rfl (OpQ.move rfl) ?_
   refine Wl.g rfl rfl (OpG.lit1 zf0 zf16 rfl rfl rfl) ?_
   rintro b64 _
   refine Wl.g rfl rfl (OpG.append zf0 zf16 (by rfl) (by decide) rfl rfl (p := 8) rfl (fun w hH => hH.rd .here) ⟨rfl, (by simp [Value.oneCell']), (by omega), (by omega)⟩ (nm := (C.B.length + 1)) rfl (all := (C.B ++ [bl]).map zn) (by rw [List.map_append]; rfl)) ?_
   rintro ⟨a65, c65⟩ h65
   refine Wl.q rfl rfl (OpQ.nilCheckP rfl) ?_
   refine Wl.q rfl rfl (OpQ.fieldAddr zf125 rfl) ?_
   refine Wl.g rfl rfl (OpG.storeRow (a := some ⟨bc, 0, none⟩) zf32 rfl rfl rfl (by repeat (first | exact Upd.here | apply Upd.there)) (by simp)) ?_
   rintro _ _
   refine Wl.nil ?_
   refine PX.end0 rfl (fun w' hH => ?_)
   have hC' := hC.add hUk hx1 hx2 hne hst
   exact ⟨⟨(P.set (C.k x.1) (C.k (S.sq.n + x.2))), C.Q ++ [x], C.F ++ [f], C.B ++ [bl], a45, c45, a55, c55, a65, c65, _, _⟩, ⟨⟨hU.add (by omega) (by omega) hne, hC'⟩, hC'.jn x (List.mem_append_right _ (by simp)), Crs.add _ _ _ _, List.prefix_append _ _⟩, rfl, (HOk.post (hH.take (.cons (.there (.there (.there .here))) (.cons (.there (.there (.there .here))) (.cons (.there (.there (.there (.there .here)))) (.cons (.there (.there (.there (.there .here)))) (.cons (.there (.there (.there (.there .here)))) .nil))))))).conv (.keep (by simp only [List.length_append, List.length_singleton]; rfl) (.keep rfl (.keep (by simp only [List.length_append, List.length_singleton]) (.keep (by simp only [List.length_append, List.length_singleton]) (.keep (by simp only [List.length_append, List.length_singleton]) .nil)))))⟩

set_option maxRecDepth 100000 in
/-- (*semigroup/sequential.comparison).word -/
theorem cword_spec (w : World) (bc : Nat) (C : Cs) (v0 v1 v2 v3 : Value) (hcl : Stays [] w (fun w => Rd w (some ⟨bc, 0, none⟩) [v0, v1, v2, v3, .slice C.fa C.F.length C.fc, .slice C.ba C.B.length C.bc])) (hFr : Stays [] w (fun w => Rd w C.fa (C.F.map zn))) (hBr : Stays [] w (fun w => Rd w C.ba (C.B.map zn))) (ql qr : Sq) (hC : Cp ql qr C.Q C.F C.B C.k) (hL : ql.L ≤ 6) (hQ : C.Q.length ≤ 1024) (i0 : Nat) (hi : i0 < C.Q.length) : Calls Try.prog 86 #[.pointer (some ⟨bc, 0, none⟩), .int .i64 ((i0 : Nat) : Int)] w (fun e w' => ∃ ws : Wd, (Go2 ql qr (wl ws) (C.Q.getD i0 z2) ∧ Lw ql.L ws ∧ ws.length ≤ i0) ∧ e = .returned (sv ws) ∧ Ext [] w w') := by
 have hfl := hC.fl
 have hbl := hC.bl
 have hfa : 0 < C.F.length → C.fa.isSome = true := fun h => hFr.now.isSome (j := 0) (by rw [List.length_map]; exact h)
 have hba : 0 < C.B.length → C.ba.isSome = true := fun h => hBr.now.isSome (j := 0) (by rw [List.length_map]; exact h)
 refine enter (args := [.pointer (some ⟨bc, 0, none⟩), .int .i64 ((i0 : Nat) : Int)]) [] 31 Try.func86 rfl rfl rfl ?_
 refine CT.seq (CT.region ?_)
 refine Wl.q rfl rfl (OpQ.assign rfl) ?_
 refine Wl.nil (PX.then_n (CT.seq (CT.region ?_)))
 refine Wl.q rfl rfl (OpQ.assign rfl) ?_
 refine Wl.nil (PX.then_n (CT.seq (CT.block ?_)))
 refine CT.nilrow 5 1 ?_
 refine CT.loop (ι := Nat × Wd × Option Addr × Nat) (fun (j, l, a', c') => WdI ql qr C.Q i0 j l ∧ j < C.Q.length ∧ Lw ql.L l ∧ l.length + j ≤ i0) (fun (j, l, a', c') => [(0, .pointer (some ⟨bc, 0, none⟩)), (1, .int .i64 ((j : Nat) : Int)), (5, .slice a' l.length c')]) (fun (j, l, a', c') => [.row 5 1 (.slice a' l.length c') l.length (l.map bv)]) (fun (j, l, a', c') => j) (i0, [], none, 0) ⟨WdI.start _ _ _ _, hi, Lw.nil _, by simp⟩ ⟨rfl, rfl, rfl, trivial⟩ (HSub.refl _) (fun ⟨j, l, a', c'⟩ ⟨hW, hj, hlw, hll⟩ K0 hK0 => ?_)
 dsimp only
 refine CT.seq (CT.seq (CT.region ?_))
 refine Wl.q rfl rfl (OpQ.move rfl) ?_
 refine Wl.q rfl rfl (OpQ.neq rfl rfl) ?_
 refine Wl.nil (PX.then_n ?_)
 refine CT.cond rfl (fun h7 => ?_) (fun h7 => ?_)
 ·
  have h7 := of_nd_t h7
  have hj0 : 0 < j := by omega
  obtain ⟨hs1, hs2, hs3⟩ := hC.st j hj0 hj
  refine CT.skip (PX.then_n (CT.seq (CT.block (CT.region ?_))))
  refine Wl.q rfl rfl (OpQ.move rfl) ?_
  refine Wl.q rfl rfl (OpQ.move rfl) ?_
  refine Wl.q rfl rfl (OpQ.nilCheckP rfl) ?_
  refine Wl.q rfl rfl (OpQ.fieldAddr zf125 rfl) ?_
  refine Wl.q rfl rfl (OpQ.loadG (a := some ⟨bc, 0, none⟩) (j := 5) zf10 rfl (fun w hH => hH.use hcl) rfl) ?_
  refine Wl.q rfl rfl (OpQ.move rfl) ?_
  refine Wl.q rfl rfl (OpQ.index1 zf0 zf1 rfl rfl (by omega) (hba (by omega))) ?_
  refine Wl.q rfl rfl (OpQ.loadG zf8 rfl (fun w hH => hH.use hBr) (getMap zn C.B 0 (j := j) (by omega))) ?_
  refine Wl.q rfl rfl (OpQ.conv rfl (conv_i64_u8 zf13 zf3 _ (by omega))) ?_
  refine Wl.q rfl rfl (OpQ.add8 rfl rfl (by omega)) ?_
  refine Wl.know 24 (v' := bv (UInt8.ofNat (97 + C.B.getD j 0))) rfl (bv_add (by omega)) ?_
  refine Wl.g rfl rfl (OpG.lit1 zf2 zf14 rfl rfl rfl) ?_
  rintro b25 _
  refine Wl.g rfl rfl (OpG.append zf2 zf14 (by rfl) (by decide) rfl rfl (p := 1) rfl (fun w hH => hH.rd .here) ⟨rfl, (by simp [Value.oneCell']), (by omega), (by omega)⟩ (nm := (l ++ [(UInt8.ofNat (97 + C.B.getD j 0))]).length) (by rw [List.length_append]; rfl) (all := (l ++ [(UInt8.ofNat (97 + C.B.getD j 0))]).map bv) (by rw [List.map_append]; rfl)) ?_
  rintro ⟨a26, c26⟩ h26
  refine Wl.q rfl rfl (OpQ.assign rfl) ?_
  refine Wl.nil (PX.block_n (PX.then_n (CT.region ?_)))
  refine Wl.q rfl rfl (OpQ.move rfl) ?_
  refine Wl.q rfl rfl (OpQ.nilCheckP rfl) ?_
  refine Wl.q rfl rfl (OpQ.fieldAddr zf124 rfl) ?_
  refine Wl.q rfl rfl (OpQ.loadG (a := some ⟨bc, 0, none⟩) (j := 4) zf10 rfl (fun w hH => hH.use hcl) rfl) ?_
  refine Wl.q rfl rfl (OpQ.move rfl) ?_
  refine Wl.q rfl rfl (OpQ.index1 zf0 zf1 rfl rfl (by omega) (hfa (by omega))) ?_
  refine Wl.q rfl rfl (OpQ.loadG zf8 rfl (fun w hH => hH.use hFr) (getMap zn C.F 0 (j := j) (by omega))) ?_
  refine Wl.q rfl rfl (OpQ.assign rfl) ?_
  refine Wl.nil ?_
  exact PX.loop hK0 (C.F.getD j 0, l ++ [(UInt8.ofNat (97 + C.B.getD j 0))], a26, c26) ⟨hW.step hC hL hj0 hj, by omega, hlw.snoc hs2 hL, by rw [List.length_append, List.length_singleton]; omega⟩ hs1 ⟨rfl, rfl, rfl, trivial⟩ (.drop (HSub.refl _))
 ·
  have h7 := of_nd_f h7
  obtain rfl : j = 0 := by omega
  refine CT.exit (PX.then_x (PX.then_x (PX.block_x (PX.then_n (CT.seq (CT.region ?_))))))
  refine Wl.q rfl rfl (OpQ.move rfl) ?_
  refine Wl.g rfl rfl (OpG.callX zf126 rfl (.cons .here .nil) (fun _ => (.cons .nil)) (fun w hH hp => sreverse_spec w _ _ _ l rfl (by omega) (fun h => (hH.rd .here).isSome (j := 0) (by rw [List.length_map]; exact h)) hp)) ?_
  rintro _ _
  refine Wl.nil (PX.then_n (CT.seq (CT.region ?_)))
  refine Wl.q rfl rfl (OpQ.move rfl) ?_
  refine Wl.q rfl rfl (OpQ.convBSn (l := l.reverse) zf2 zf3 zf4 rfl (by rw [List.length_reverse]) (fun w hH => hH.rd .here)) ?_
  refine Wl.q rfl rfl (OpQ.assign rfl) ?_
  refine Wl.nil (PX.then_n (CT.ret ?_))
  refine PX.ret1 rfl rfl (fun w' hH => ?_)
  exact ⟨l.reverse, ⟨hW.done hC (by omega), hlw.rev, by rw [List.length_reverse]; omega⟩, rfl, hH.ext⟩

end Go.Proofs.Ytamolakhpcofhaa

