/-
  What functions of the program compute, each by its walk. Conditions: those that each theorem names.
-/
import Derived.Test.YtamolakhpcofhaaMod1
import Derived.Test.YtamolakhpcofhaaEng1
import Derived.Test.YtamolakhpcofhaaXE38
import Derived.Test.YtamolakhpcofhaaXF
set_option linter.unusedSimpArgs false
namespace Go.Proofs.Ytamolakhpcofhaa
open Go Go.Eng Go.Am Go.Sq
open Go.Tp (zi)
open Go.Tl (mayL Wd okW okB bo)

theorem XM_mkI : MapKey Try.prog 3 (fun n : Int => .int .i64 n) := MapKey.int (by kernel_rfl)
set_option maxRecDepth 100000 in
set_option maxHeartbeats 2000000 in
/-- (*semigroup/sequential.side).avoid -/
theorem avoid_spec (w : World) (S : Sv) (hS : Stays [] w (svm S)) (hv : S.sq.Ok 4096) (bs : Nat) (F : List Nat) (a1 : Option Addr) (c1 : Nat) (a2 : Option Addr) (n2 c2 : Nat) (hB : Stays [] w (fun w => Rd w (some ⟨bs, 0, none⟩) (svc S ++ [.slice a1 F.length c1, .slice a2 n2 c2]))) (hF : Stays [] w (fun w => Rd w a1 (F.map zn))) (δ : Nat → Nat) (hf : FirstsI S.sq F δ) (hco : ∀ q, q < S.sq.n → S.sq.tr.co S.L q = true) (q0 : Nat) (hq0 : q0 < S.sq.n) (ch : UInt8) (hne : ∃ ws v, InW S.sq.L ws ∧ S.sq.tr.val q0 ws = some v ∧ ¬ Bgw ch v) : Calls Try.prog 95 #[.pointer (some ⟨bs, 0, none⟩), .int .i64 ((q0 : Nat) : Int), bv ch] w (fun e w' => ∃ ws : Wd, (Lw S.L ws ∧ ws.length ≤ 2 * S.sq.n ∧ ∃ v, S.sq.tr.val q0 (wl ws) = some v ∧ ¬ Bgw ch v) ∧ e = .returned (sv ws) ∧ Ext [] w w') := by
 obtain ⟨hb1, hb2, hb3, hb4⟩ := hv.bnd
 obtain ⟨hlo, hle, hlf⟩ := hv.lens
 have hns : 0 < S.rs.length → S.na.isSome = true := fun h => hS.now.n.isSome (j := 0) (by rw [List.length_map]; exact h)
 have hos : 0 < S.os.length → S.oa.isSome = true := fun h => hS.now.o.isSome (j := 0) (by rw [List.length_map]; exact h)
 have hes : 0 < S.en.length → S.ea.isSome = true := fun h => hS.now.e.isSome (j := 0) (by rw [List.length_map]; exact h)
 have hfs : 0 < S.fi.length → S.fa.isSome = true := fun h => hS.now.f.isSome (j := 0) (by rw [List.length_map]; exact h)
 have hrs : ∀ q, q < S.rs.length → 0 < (S.rs.getD q rx0).xs.length → (S.rs.getD q rx0).a.isSome = true := fun q hq h => (hS.now.r _ (getDm hq)).isSome (j := 0) (by rw [List.length_map]; exact h)
 have hus : ∀ q, q < S.os.length → 0 < (S.os.getD q rx0).xs.length → (S.os.getD q rx0).a.isSome = true := fun q hq h => (hS.now.u _ (getDm hq)).isSome (j := 0) (by rw [List.length_map]; exact h)
 refine enter (args := [.pointer (some ⟨bs, 0, none⟩), .int .i64 ((q0 : Nat) : Int), bv ch]) [] 128 Try.func95 rfl rfl rfl ?_
 refine CT.seq (CT.region ?_)
 refine Wl.q rfl rfl (OpQ.assign rfl) ?_
 refine Wl.nil (PX.then_n (CT.seq (CT.region ?_)))
 refine Wl.g rfl rfl (OpG.makeMap (f := (fun n : Int => .int .i64 n))) ?_
 rintro mb _
 refine Wl.q rfl rfl (OpQ.move rfl) ?_
 refine Wl.g rfl rfl (OpG.insNew (f := (fun n : Int => .int .i64 n)) (x := (q0 : Int)) (l := []) XM_mkI zf104 rfl rfl rfl rfl (by repeat (first | exact Upd.here | apply Upd.there))) ?_
 rintro _ _
 refine Wl.q rfl rfl (OpQ.move rfl) ?_
 refine Wl.q rfl rfl (OpQ.assign rfl) ?_
 refine Wl.nil (PX.then_n (CT.seq (CT.region ?_)))
 refine Wl.q rfl rfl (OpQ.move rfl) ?_
 refine Wl.g rfl rfl (OpG.lit1 zf0 zf16 rfl rfl rfl) ?_
 rintro b20 _
 refine Wl.q rfl rfl (OpQ.assign rfl) ?_
 refine Wl.nil (PX.then_n (CT.seq (CT.seq (CT.region ?_))))
 refine Wl.q rfl rfl (OpQ.assign rfl) ?_
 refine Wl.nil (PX.then_n (CT.block ?_))
 refine CT.loop (ι := List (Nat × Wd) × Nat × Option Addr × Nat) (fun (l, i, qa, qc) => AvI S.sq ch q0 l i 0 ∧ qa.isSome = true) (fun (l, i, qa, qc) => [(0, .pointer (some ⟨bs, 0, none⟩)), (2, bv ch), (7, .map (some mb)), (8, .slice qa l.length qc), (9, .int .i64 ((i : Nat) : Int))]) (fun (l, i, qa, qc) => [.row 3 1 (.slice qa l.length qc) l.length (l.map fun p => zn p.1), .blk mb (mapO (fun n : Int => .int .i64 n) (avM l))]) (fun (l, i, qa, qc) => S.sq.n + 1 - i) ([(q0, [])], 0, some ⟨b20, 0, none⟩, 1) ⟨AvI.start _ hq0, rfl⟩ ⟨rfl, rfl, rfl, rfl, rfl, trivial⟩ (HSub.refl _) (fun ⟨l, i, qa, qc⟩ ⟨hA, hqa⟩ K0 hK0 => ?_)
 dsimp only
 have hll := hA.le
 have hnn := S.n_eq
 refine CT.seq (CT.seq (CT.region ?_))
 refine Wl.q rfl rfl (OpQ.move rfl) ?_
 refine Wl.q rfl rfl (OpQ.move rfl) ?_
 refine Wl.q rfl rfl (OpQ.len zf0 rfl) ?_
 refine Wl.q rfl rfl (OpQ.lss rfl rfl) ?_
 refine Wl.nil (PX.then_n ?_)
 refine CT.cond rfl (fun h24 => ?_) (fun h24 => ?_)
 ·
  have h24 := of_decide_eq_true h24
  have hil : i < l.length := by omega
  obtain ⟨p, hp⟩ : ∃ p, (l.getD i (0, [])) = p := ⟨_, rfl⟩
  have hpm : p ∈ l := by rw [← hp, List.getD_eq_getElem?_getD, List.getElem?_eq_getElem hil]; exact List.getElem_mem hil
  have hpn : p.1 < S.sq.n := hA.lt p hpm
  have hpr : p.1 < S.rs.length := by omega
  have hpl : p.2.length ≤ i := by have := hA.ln i hil; rwa [hp] at this
  have hrl := hv.rlen hpr
  have hol := hv.olen hpr
  refine CT.skip (PX.then_n (CT.seq (CT.block (CT.seq (CT.region ?_)))))
  refine Wl.q rfl rfl (OpQ.move rfl) ?_
  refine Wl.q rfl rfl (OpQ.move rfl) ?_
  refine Wl.q rfl rfl (OpQ.index1 zf0 zf1 rfl rfl (by omega) hqa) ?_
  refine Wl.q rfl rfl (OpQ.loadRow zf8 rfl .here (getMap (fun p : Nat × Wd => zn p.1) l (0, []) (j := i) (by omega))) ?_
  refine Wl.know 30 (v' := .int .i64 ((p.1 : Nat) : Int)) rfl (by rw [hp]) ?_
  refine Wl.q rfl rfl (OpQ.assign rfl) ?_
  refine Wl.nil (PX.then_n ?_)
  refine CT.cut (ι := Unit) (Φ := fun _ => (S.sq.e p.1 = true → Bgw ch (S.sq.f p.1))) (E' := fun _ => [(0, .pointer (some ⟨bs, 0, none⟩)), (2, bv ch), (7, .map (some mb)), (8, .slice qa l.length qc), (9, .int .i64 ((i : Nat) : Int)), (10, .int .i64 ((p.1 : Nat) : Int))]) (H' := fun _ => [.row 3 1 (.slice qa l.length qc) l.length (l.map fun p => zn p.1), .blk mb (mapO (fun n : Int => .int .i64 n) (avM l))]) (fun K1 hK1 => ?_) (fun _ hfin => ?_)
  ·
   refine CT.seq (CT.region ?_)
   refine Wl.q rfl rfl (OpQ.move rfl) ?_
   refine Wl.q rfl rfl (OpQ.nilCheckP rfl) ?_
   refine Wl.q rfl rfl (OpQ.fieldAddr zf101 rfl) ?_
   refine Wl.q rfl rfl (OpQ.fieldAddr zf42 rfl) ?_
   refine Wl.q rfl rfl (OpQ.loadG (a := some ⟨bs, 0, none⟩) (j := 5) zf43 rfl (fun w hH => hH.use hB) rfl) ?_
   refine Wl.q rfl rfl (OpQ.move rfl) ?_
   refine Wl.q rfl rfl (OpQ.index1 zf25 zf44 rfl rfl (by omega) (hes (by omega))) ?_
   refine Wl.q rfl rfl (OpQ.loadG zf45 rfl (fun w hH => (hH.use hS).e) (getMap bo S.en false (j := p.1) (by omega))) ?_
   refine Wl.know 38 (v' := .bool (S.sq.e p.1)) rfl rfl ?_
   refine Wl.q rfl rfl (OpQ.move rfl) ?_
   refine Wl.split 39 rfl (fun hg39 => ?_) (fun hg39 => ?_)
   ·
    refine Wl.q rfl rfl (OpQ.move rfl) ?_
    refine Wl.q rfl rfl (OpQ.nilCheckP rfl) ?_
    refine Wl.q rfl rfl (OpQ.fieldAddr zf101 rfl) ?_
    refine Wl.q rfl rfl (OpQ.fieldAddr zf41 rfl) ?_
    refine Wl.q rfl rfl (OpQ.loadG (a := some ⟨bs, 0, none⟩) (j := 6) zf37 rfl (fun w hH => hH.use hB) rfl) ?_
    refine Wl.q rfl rfl (OpQ.move rfl) ?_
    refine Wl.q rfl rfl (OpQ.index1 zf17 zf38 rfl rfl (by omega) (hfs (by omega))) ?_
    refine Wl.q rfl rfl (OpQ.loadG zf39 rfl (fun w hH => (hH.use hS).f) (getMap sv S.fi [] (j := p.1) (by omega))) ?_
    refine Wl.know 47 (v' := sv (S.sq.f p.1)) rfl rfl ?_
    refine Wl.q rfl rfl (OpQ.move rfl) ?_
    refine Wl.g rfl rfl (OpG.callV zf105 rfl (fun w hH => begins_spec w _ ch)) ?_
    rintro _ _
    refine Wl.q rfl rfl (OpQ.not rfl) ?_
    refine Wl.q rfl rfl (OpQ.pickT rfl rfl) ?_
    refine Wl.nil (PX.then_n ?_)
    refine CT.cond rfl (fun h51 => ?_) (fun h51 => ?_)
    ·
     refine CT.seq (CT.region ?_)
     refine Wl.q rfl rfl (OpQ.move rfl) ?_
     refine Wl.q rfl rfl (OpQ.move rfl) ?_
     refine Wl.q rfl rfl (OpQ.lookup (f := (fun n : Int => .int .i64 n)) (x := ((p.1 : Nat) : Int)) (l := (avM l)) XM_mkI zf104 zf18 rfl rfl (by repeat (first | exact Has.here | apply Has.there)) (by rw [if_neg (by decide), avM_at hA.nd hpm])) ?_
     refine Wl.know 54 (v' := sv p.2) rfl rfl ?_
     refine Wl.q rfl rfl (OpQ.assign rfl) ?_
     refine Wl.nil (PX.then_n (CT.ret (PX.then_r (PX.block_r (PX.then_r (PX.then_r (PX.block_r (PX.then_r ?_))))))))
     refine PX.ret1 rfl rfl (fun w' hH => ?_)
     exact ⟨p.2, ⟨hA.lw p hpm, by omega, _, (hA.fe p hpm).fin hg39, fun hh => by rw [bgb_iff.2 hh] at h51; cases h51⟩, rfl, hH.ext⟩
    ·
     refine CT.skip ?_
     exact PX.cut hK1 () (fun _ => bgb_iff.1 (by simpa using h51)) ⟨rfl, rfl, rfl, rfl, rfl, rfl, trivial⟩ (HSub.refl _)
   ·
    refine Wl.skip rfl rfl ?_
    refine Wl.skip rfl rfl ?_
    refine Wl.skip rfl rfl ?_
    refine Wl.skip rfl rfl ?_
    refine Wl.skip rfl rfl ?_
    refine Wl.skip rfl rfl ?_
    refine Wl.skip rfl rfl ?_
    refine Wl.skip rfl rfl ?_
    refine Wl.skip rfl rfl ?_
    refine Wl.skip rfl rfl ?_
    refine Wl.skip rfl rfl ?_
    refine Wl.q rfl rfl (OpQ.pickF rfl rfl) ?_
    refine Wl.nil (PX.then_n ?_)
    refine CT.condF rfl ?_
    refine CT.skip ?_
    exact PX.cut hK1 () (fun h => absurd h (by rw [hg39]; decide)) ⟨rfl, rfl, rfl, rfl, rfl, rfl, trivial⟩ (HSub.refl _)
  ·
   refine CT.seq (CT.region ?_)
   refine Wl.q rfl rfl (OpQ.move rfl) ?_
   refine Wl.q rfl rfl (OpQ.nilCheckP rfl) ?_
   refine Wl.q rfl rfl (OpQ.fieldAddr zf101 rfl) ?_
   refine Wl.q rfl rfl (OpQ.fieldAddr zf30 rfl) ?_
   refine Wl.q rfl rfl (OpQ.loadG (a := some ⟨bs, 0, none⟩) (j := 3) zf31 rfl (fun w hH => hH.use hB) rfl) ?_
   refine Wl.q rfl rfl (OpQ.move rfl) ?_
   refine Wl.q rfl rfl (OpQ.index1 zf21 zf32 rfl rfl (by omega) (hns (by omega))) ?_
   refine Wl.q rfl rfl (OpQ.loadG zf10 rfl (fun w hH => (hH.use hS).n) (getMap rxv S.rs rx0 (j := p.1) (by omega))) ?_
   refine Wl.q rfl rfl (OpQ.len zf0 rfl) ?_
   refine Wl.know 63 (v' := .int .i64 ((S.L : Nat) : Int)) rfl (congrArg (Value.int .i64) (by rw [hrl])) ?_
   refine Wl.q rfl rfl (OpQ.move rfl) ?_
   refine Wl.nil (PX.then_n (CT.block ?_))
   refine CT.loop (ι := List (Nat × Wd) × Nat × Option Addr × Nat) (fun (l, x, qa, qc) => AvI S.sq ch q0 l i x ∧ qa.isSome = true ∧ i < l.length ∧ (l.getD i (0, [])) = p ∧ x ≤ S.L) (fun (l, x, qa, qc) => [(0, .pointer (some ⟨bs, 0, none⟩)), (2, bv ch), (7, .map (some mb)), (8, .slice qa l.length qc), (9, .int .i64 ((i : Nat) : Int)), (10, .int .i64 ((p.1 : Nat) : Int)), (62, rxv (S.rs.getD p.1 rx0)), (63, .int .i64 ((S.L : Nat) : Int)), (64, .int .i64 ((x : Nat) : Int))]) (fun (l, x, qa, qc) => [.row 3 1 (.slice qa l.length qc) l.length (l.map fun p => zn p.1), .blk mb (mapO (fun n : Int => .int .i64 n) (avM l))]) (fun (l, x, qa, qc) => S.L - x) (l, 0, qa, qc) ⟨hA, hqa, hil, hp, Nat.zero_le _⟩ ⟨rfl, rfl, rfl, rfl, rfl, rfl, rfl, rfl, rfl, trivial⟩ (HSub.refl _) (fun ⟨l, x, qa, qc⟩ ⟨hA, hqa, hil, hp, hxL⟩ K2 hK2 => ?_)
   dsimp only
   have hll := hA.le
   have hpm : p ∈ l := by rw [← hp, List.getD_eq_getElem?_getD, List.getElem?_eq_getElem hil]; exact List.getElem_mem hil
   refine CT.seq (CT.region ?_)
   refine Wl.q rfl rfl (OpQ.lss rfl rfl) ?_
   refine Wl.nil (PX.then_n (CT.seq ?_))
   refine CT.cond rfl (fun h65 => ?_) (fun h65 => ?_)
   ·
    have h65 := of_decide_eq_true h65
    have hxl : x < S.L := by omega
    have hxg : x < S.sq.L := hxl
    refine CT.skip (PX.then_n (CT.seq (CT.block (CT.seq (CT.region ?_)))))
    refine Wl.q rfl rfl (OpQ.move rfl) ?_
    refine Wl.q rfl rfl (OpQ.index1 zf0 zf1 rfl rfl (by omega) (hrs p.1 (by omega) (by omega))) ?_
    refine Wl.q rfl rfl (OpQ.loadG zf8 rfl (fun w hH => (hH.use hS).r _ (getDm (show p.1 < S.rs.length by omega))) (getMap zo (S.rs.getD p.1 rx0).xs none (j := x) (by omega))) ?_
    refine Wl.know 68 (v' := zo (S.sq.to p.1 x)) rfl (congrArg zo (S.to_eq p.1 x).symm) ?_
    refine Wl.q rfl rfl (OpQ.assign rfl) ?_
    refine Wl.q rfl rfl (OpQ.assign rfl) ?_
    refine Wl.nil (PX.then_n (CT.seq (CT.seq (CT.region ?_))))
    refine Wl.q rfl rfl (OpQ.move rfl) ?_
    refine Wl.q rfl rfl (OpQ.eql rfl rfl) ?_
    refine Wl.q rfl rfl (OpQ.move rfl) ?_
    refine Wl.split 71 rfl (fun hg71 => ?_) (fun hg71 => ?_)
    ·
     have hno := oi_neg.1 (of_decide_eq_true hg71)
     refine Wl.skip rfl rfl ?_
     refine Wl.skip rfl rfl ?_
     refine Wl.skip rfl rfl ?_
     refine Wl.skip rfl rfl ?_
     refine Wl.skip rfl rfl ?_
     refine Wl.skip rfl rfl ?_
     refine Wl.skip rfl rfl ?_
     refine Wl.skip rfl rfl ?_
     refine Wl.skip rfl rfl ?_
     refine Wl.skip rfl rfl ?_
     refine Wl.skip rfl rfl ?_
     refine Wl.skip rfl rfl ?_
     refine Wl.skip rfl rfl ?_
     refine Wl.q rfl rfl (OpQ.pickT rfl rfl) ?_
     refine Wl.nil (PX.then_n ?_)
     refine CT.condT rfl ?_
     refine CT.exit (PX.then_x (PX.block_x (PX.then_n (CT.region ?_))))
     refine Wl.q rfl rfl (OpQ.add rfl rfl (by omega)) ?_
     refine Wl.q rfl rfl (OpQ.move rfl) ?_
     refine Wl.nil ?_
     exact PX.loop hK2 (l, x + 1, qa, qc) ⟨hA.keep (fun r' hr' => by rw [hp] at hr'; exact absurd (hno.symm.trans hr') (by simp)), hqa, hil, hp, by omega⟩ (show S.L - (x + 1) < S.L - x by omega) ⟨rfl, rfl, rfl, rfl, rfl, rfl, rfl, rfl, rfl, trivial⟩ (HSub.refl _)
    ·
     obtain ⟨r, hto⟩ := oi_some (of_decide_eq_false hg71)
     have hrn := hv.lt p.1 x r hpn hxg hto
     refine Wl.know 12 (v' := zn r) rfl (by rw [hto]; rfl) ?_
     refine Wl.q rfl rfl (OpQ.move rfl) ?_
     refine Wl.q rfl rfl (OpQ.nilCheckP rfl) ?_
     refine Wl.q rfl rfl (OpQ.fieldAddr zf101 rfl) ?_
     refine Wl.q rfl rfl (OpQ.fieldAddr zf34 rfl) ?_
     refine Wl.q rfl rfl (OpQ.loadG (a := some ⟨bs, 0, none⟩) (j := 4) zf35 rfl (fun w hH => hH.use hB) rfl) ?_
     refine Wl.q rfl rfl (OpQ.move rfl) ?_
     refine Wl.q rfl rfl (OpQ.index1 zf23 zf36 rfl rfl (by omega) (hos (by omega))) ?_
     refine Wl.q rfl rfl (OpQ.loadG zf37 rfl (fun w hH => (hH.use hS).o) (getMap rxv S.os rx0 (j := p.1) (by omega))) ?_
     refine Wl.q rfl rfl (OpQ.move rfl) ?_
     refine Wl.q rfl rfl (OpQ.index1 zf17 zf38 rfl rfl (by omega) (hus p.1 (by omega) (by omega))) ?_
     refine Wl.q rfl rfl (OpQ.loadG zf39 rfl (fun w hH => (hH.use hS).u _ (getDm (show p.1 < S.os.length by omega))) (getMap sv (S.os.getD p.1 rx0).xs [] (j := x) (by omega))) ?_
     refine Wl.know 82 (v' := sv (S.sq.o p.1 x)) rfl (congrArg sv (S.o_eq p.1 x).symm) ?_
     refine Wl.q rfl rfl (OpQ.move rfl) ?_
     refine Wl.g rfl rfl (OpG.callV zf105 rfl (fun w hH => begins_spec w _ ch)) ?_
     rintro _ _
     refine Wl.q rfl rfl (OpQ.pickF rfl rfl) ?_
     refine Wl.nil (PX.then_n ?_)
     refine CT.cond rfl (fun h85 => ?_) (fun h85 => ?_)
     ·
      refine CT.exit (PX.then_x (PX.block_x (PX.then_n (CT.region ?_))))
      refine Wl.q rfl rfl (OpQ.add rfl rfl (by omega)) ?_
      refine Wl.q rfl rfl (OpQ.move rfl) ?_
      refine Wl.nil ?_
      exact PX.loop hK2 (l, x + 1, qa, qc) ⟨hA.keep (fun r' hr' => by rw [hp] at hr' ⊢; exact .inl (bgb_iff.1 h85)), hqa, hil, hp, by omega⟩ (show S.L - (x + 1) < S.L - x by omega) ⟨rfl, rfl, rfl, rfl, rfl, rfl, rfl, rfl, rfl, trivial⟩ (HSub.refl _)
     ·
      refine CT.skip (PX.then_n (CT.seq (CT.region ?_)))
      refine Wl.q rfl rfl (OpQ.move rfl) ?_
      refine Wl.q rfl rfl (OpQ.move rfl) ?_
      refine Wl.q rfl rfl (OpQ.lookup (f := (fun n : Int => .int .i64 n)) (x := ((p.1 : Nat) : Int)) (l := (avM l)) XM_mkI zf104 zf18 rfl rfl (by repeat (first | exact Has.here | apply Has.there)) (by rw [if_neg (by decide), avM_at hA.nd hpm])) ?_
      refine Wl.know 88 (v' := sv p.2) rfl rfl ?_
      refine Wl.q rfl rfl (OpQ.move rfl) ?_
      refine Wl.q rfl rfl (OpQ.conv rfl (conv_i64_u8 zf13 zf3 _ (by omega))) ?_
      refine Wl.q rfl rfl (OpQ.add8 rfl rfl (by omega)) ?_
      refine Wl.know 91 (v' := bv (UInt8.ofNat (97 + x))) rfl (bv_add (by omega)) ?_
      refine Wl.g rfl rfl (OpG.lit1 zf2 zf14 rfl rfl rfl) ?_
      rintro b92 _
      refine Wl.q rfl rfl (OpQ.convBS (l := [(UInt8.ofNat (97 + x))]) zf2 zf3 zf4 rfl (fun w hH => hH.rd .here)) ?_
      refine Wl.q rfl rfl (OpQ.concat rfl rfl (by simp only [List.length_singleton]; omega)) ?_
      refine Wl.q rfl rfl (OpQ.assign rfl) ?_
      refine Wl.nil (PX.then_n (CT.seq (CT.seq (CT.region ?_))))
      refine Wl.q rfl rfl (OpQ.move rfl) ?_
      refine Wl.q rfl rfl (OpQ.nilCheckP rfl) ?_
      refine Wl.q rfl rfl (OpQ.fieldAddr zf101 rfl) ?_
      refine Wl.q rfl rfl (OpQ.fieldAddr zf34 rfl) ?_
      refine Wl.q rfl rfl (OpQ.loadG (a := some ⟨bs, 0, none⟩) (j := 4) zf35 rfl (fun w hH => hH.use hB) rfl) ?_
      refine Wl.q rfl rfl (OpQ.move rfl) ?_
      refine Wl.q rfl rfl (OpQ.index1 zf23 zf36 rfl rfl (by omega) (hos (by omega))) ?_
      refine Wl.q rfl rfl (OpQ.loadG zf37 rfl (fun w hH => (hH.use hS).o) (getMap rxv S.os rx0 (j := p.1) (by omega))) ?_
      refine Wl.q rfl rfl (OpQ.move rfl) ?_
      refine Wl.q rfl rfl (OpQ.index1 zf17 zf38 rfl rfl (by omega) (hus p.1 (by omega) (by omega))) ?_
      refine Wl.q rfl rfl (OpQ.loadG zf39 rfl (fun w hH => (hH.use hS).u _ (getDm (show p.1 < S.os.length by omega))) (getMap sv (S.os.getD p.1 rx0).xs [] (j := x) (by omega))) ?_
      refine Wl.know 105 (v' := sv (S.sq.o p.1 x)) rfl (congrArg sv (S.o_eq p.1 x).symm) ?_
      refine Wl.q rfl rfl (OpQ.neqS rfl rfl) ?_
      refine Wl.nil (PX.then_n ?_)
      refine CT.cond rfl (fun h106 => ?_) (fun h106 => ?_)
      ·
       have hone : S.sq.o p.1 x ≠ [] := by simpa using h106
       have hnb : ¬ Bgw ch (S.sq.o p.1 x) := fun hh => by rw [bgb_iff.2 hh] at h85; cases h85
       have hfe := hA.fe p hpm
       have hlw := (hA.lw p hpm).snoc hxg (show S.L ≤ 6 by omega)
       have hwl := wl_add (show x < 100 by omega) p.2
       refine CT.seq (CT.region ?_)
       refine Wl.q rfl rfl (OpQ.move rfl) ?_
       refine Wl.q rfl rfl (OpQ.move rfl) ?_
       refine Wl.q rfl rfl (OpQ.move rfl) ?_
       refine Wl.g rfl rfl (OpG.call zf106 rfl (fun w hH => (finish_spec w S (hH.stays0 hS) hv bs F a1 c1 a2 n2 c2 (hH.stays0 hB) (hH.stays0 hF) δ hf hco r hrn).mono fun e w' ⟨ws, h1, h2, h3⟩ => ⟨ws, h1, h2, hH.ext_nil h3⟩)) ?_
       rintro u ⟨hu1, hu2, hu3⟩
       refine Wl.q rfl rfl (OpQ.concat rfl rfl (by rw [List.length_append, List.length_singleton]; omega)) ?_
       refine Wl.q rfl rfl (OpQ.assign rfl) ?_
       refine Wl.nil (PX.then_n (CT.ret (PX.then_r (PX.block_r (PX.then_r (PX.then_r (PX.block_r (PX.block_r (PX.then_r (PX.then_r (PX.block_r (PX.then_r ?_))))))))))))
       refine PX.ret1 rfl rfl (fun w' hH => ?_)
       obtain ⟨v', hv'⟩ := Option.isSome_iff_exists.1 hu3
       exact ⟨_, ⟨hlw.app hu1, by rw [List.length_append, List.length_append, List.length_singleton]; omega, S.sq.o p.1 x ++ v', (by rw [wl_app, hwl, hfe.out hto, hv']; rfl), fun ⟨t, ht⟩ => by
        cases ho : S.sq.o p.1 x with
        | nil => exact hone ho
        | cons b o => rw [ho] at ht hnb; rw [List.cons_append] at ht; injection ht with h1 h2; exact hnb ⟨o, by rw [h1]⟩⟩, rfl, hH.ext⟩
      ·
       have ho : S.sq.o p.1 x = [] := by simpa using h106
       refine CT.skip (PX.then_n (CT.seq (CT.region ?_)))
       refine Wl.q rfl rfl (OpQ.move rfl) ?_
       refine Wl.q rfl rfl (OpQ.move rfl) ?_
       refine Wl.q rfl rfl (OpQ.lookup (f := (fun n : Int => .int .i64 n)) (x := ((r : Nat) : Int)) (l := (avM l)) XM_mkI zf104 zf18 rfl rfl (by repeat (first | exact Has.here | apply Has.there)) (by rw [if_pos rfl])) ?_
       refine Wl.q rfl rfl (OpQ.move rfl) ?_
       refine Wl.q rfl rfl (OpQ.extract rfl rfl) ?_
       refine Wl.q rfl rfl (OpQ.extract rfl rfl) ?_
       refine Wl.know 117 (v' := .bool (getA ((r : Nat) : Int) (avM l)).isSome) rfl rfl ?_
       refine Wl.q rfl rfl (OpQ.assign rfl) ?_
       refine Wl.q rfl rfl (OpQ.assign rfl) ?_
       refine Wl.nil (PX.then_n (CT.seq (CT.region ?_)))
       refine Wl.q rfl rfl (OpQ.move rfl) ?_
       refine Wl.q rfl rfl (OpQ.not rfl) ?_
       refine Wl.nil (PX.then_n ?_)
       refine CT.cond rfl (fun h119 => ?_) (fun h119 => ?_)
       ·
        have hnone : getA ((r : Nat) : Int) (avM l) = none := by simpa using h119
        have hnm := avM_none.1 hnone
        have hnew : AvI S.sq ch q0 (l ++ [(r, (p.2 ++ [(UInt8.ofNat (97 + x))]))]) i (x + 1) := by
         have := hA.put hil hxg (show S.sq.L ≤ 6 by show S.L ≤ 6; omega) hrn (by rw [hp]; exact hto) (by rw [hp]; exact ho) hnm
         rwa [hp] at this
        refine CT.seq (CT.region ?_)
        refine Wl.q rfl rfl (OpQ.move rfl) ?_
        refine Wl.q rfl rfl (OpQ.move rfl) ?_
        refine Wl.q rfl rfl (OpQ.move rfl) ?_
        refine Wl.g rfl rfl (OpG.mapNew (f := (fun n : Int => .int .i64 n)) (x := (r : Int)) (l := (avM l)) XM_mkI zf104 rfl rfl rfl hnone (by repeat (first | exact Upd.here | apply Upd.there))) ?_
        rintro _ _
        refine Wl.nil (PX.then_n (CT.region ?_))
        refine Wl.q rfl rfl (OpQ.move rfl) ?_
        refine Wl.q rfl rfl (OpQ.move rfl) ?_
        refine Wl.g rfl rfl (OpG.lit1 zf0 zf16 rfl rfl rfl) ?_
        rintro b125 _
        refine Wl.g rfl rfl (OpG.append zf0 zf16 (by rfl) (by decide) rfl rfl (p := 2) rfl (fun w hH => hH.rd .here) ⟨rfl, (by simp [Value.oneCell']), (by omega), (by omega)⟩ (nm := (l.length + 1)) rfl (all := (l ++ [(r, (p.2 ++ [(UInt8.ofNat (97 + x))]))]).map fun p => zn p.1) (by rw [List.map_append]; rfl)) ?_
        rintro ⟨a126, c126⟩ h126
        refine Wl.q rfl rfl (OpQ.assign rfl) ?_
        refine Wl.nil (PX.block_n (PX.then_n (CT.region ?_)))
        refine Wl.q rfl rfl (OpQ.add rfl rfl (by omega)) ?_
        refine Wl.q rfl rfl (OpQ.move rfl) ?_
        refine Wl.nil ?_
        exact PX.loop hK2 ((l ++ [(r, (p.2 ++ [(UInt8.ofNat (97 + x))]))]), x + 1, a126, c126) ⟨hnew, h126 (by omega), by rw [List.length_append]; omega, by rw [List.getD_eq_getElem?_getD, List.getElem?_append_left hil, ← List.getD_eq_getElem?_getD]; exact hp, by omega⟩ (show S.L - (x + 1) < S.L - x by omega) ⟨rfl, rfl, rfl, (lkV rfl (by rw [List.length_append]; rfl)), rfl, rfl, rfl, rfl, rfl, trivial⟩ (.drop (.drop (.keep (by rw [List.length_append]; rfl) (.keep (by rw [avM, List.map_append]; rfl) (HSub.refl _)))))
       ·
        have hmem : r ∈ l.map (·.1) := Classical.byContradiction fun hh => by rw [avM_none.2 hh] at h119; exact absurd h119 (by decide)
        refine CT.skip (PX.block_n (PX.then_n (CT.region ?_)))
        refine Wl.q rfl rfl (OpQ.add rfl rfl (by omega)) ?_
        refine Wl.q rfl rfl (OpQ.move rfl) ?_
        refine Wl.nil ?_
        exact PX.loop hK2 (l, x + 1, qa, qc) ⟨hA.keep (fun r' hr' => by rw [hp] at hr' ⊢; rw [hto] at hr'; cases hr'; exact .inr ⟨ho, hmem⟩), hqa, hil, hp, by omega⟩ (show S.L - (x + 1) < S.L - x by omega) ⟨rfl, rfl, rfl, rfl, rfl, rfl, rfl, rfl, rfl, trivial⟩ (.drop (HSub.refl _))
   ·
    have h65 := of_decide_eq_false h65
    have hxL : x = S.sq.L := by show x = S.L; omega
    refine CT.exit (PX.then_x (PX.then_x (PX.block_x (PX.block_n (PX.then_n (CT.region ?_))))))
    refine Wl.q rfl rfl (OpQ.move rfl) ?_
    refine Wl.q rfl rfl (OpQ.add rfl rfl (by omega)) ?_
    refine Wl.q rfl rfl (OpQ.assign rfl) ?_
    refine Wl.nil ?_
    exact PX.loop hK0 (l, i + 1, qa, qc) ⟨hA.next hxL (fun he => by rw [hp] at he ⊢; exact hfin he), hqa⟩ (show S.sq.n + 1 - (i + 1) < S.sq.n + 1 - i by omega) ⟨rfl, rfl, rfl, rfl, rfl, trivial⟩ (HSub.refl _)
 ·
  have h24 := of_decide_eq_false h24
  refine CT.exit (PX.then_x (PX.then_x (PX.block_x (PX.then_n (CT.seq (CT.region ?_))))))
  refine Wl.q rfl rfl (OpQ.assign rfl) ?_
  refine Wl.nil (PX.then_n (CT.ret ?_))
  refine PX.ret1 rfl rfl (fun w' hH => ?_)
  obtain ⟨ws, v, h1, h2, h3⟩ := hne
  exact absurd (hA.done (by omega) ws v h1 h2) h3

end Go.Proofs.Ytamolakhpcofhaa

