/-
  What functions of the program compute, each by its walk. Conditions: those that each theorem names.
-/
import Derived.Test.YtamolakhpcofhaaMod1
import Derived.Test.YtamolakhpcofhaaEng
import Derived.Test.YtamolakhpcofhaaEng1
import Derived.Test.YtamolakhpcofhaaXE34
import Derived.Test.YtamolakhpcofhaaXE22
import Derived.Test.YtamolakhpcofhaaXE10
import Derived.Test.YtamolakhpcofhaaMod
import Derived.Test.YtamolakhpcofhaaXC1
import Derived.Test.YtamolakhpcofhaaXE4
import Derived.Test.YtamolakhpcofhaaXF
set_option linter.unusedSimpArgs false
namespace Go.Proofs.Ytamolakhpcofhaa
open Go Go.Eng Go.Am Go.Sq
open Go.Tp (zi)
open Go.Tl (mayL Wd okW okB bo)

set_option maxRecDepth 100000 in
set_option maxHeartbeats 4000000 in
/-- semigroup/semigroupref42.Normal -/
theorem normalR_spec (w : World) {M : Nat} (S : Sv) (hS : Stays [] w (svm S)) (hv : S.sq.Ok M) (hM4 : M ≤ 4096) (hMn : (S.sq.n + 1) * M ≤ 4096) : Calls Try.prog 53 #[svv S] w (fun e w' => ∃ i : Sv × List Nat, (IsNorm S.sq i.1.sq ∧ i.1.sq.Ok ((S.sq.n + 1) * M)) ∧ e = .returned (.tuple #[svv i.1, .int .i64 0]) ∧ Post [] [.frag i.2 (svm i.1)] w w') := by
 obtain ⟨hb1, hb2, hb3, hb4⟩ := hv.bnd
 obtain ⟨hlo, hle, hlf⟩ := hv.lens
 have hns : 0 < S.rs.length → S.na.isSome = true := fun h => hS.now.n.isSome (j := 0) (by rw [List.length_map]; exact h)
 have hos : 0 < S.os.length → S.oa.isSome = true := fun h => hS.now.o.isSome (j := 0) (by rw [List.length_map]; exact h)
 have hes : 0 < S.en.length → S.ea.isSome = true := fun h => hS.now.e.isSome (j := 0) (by rw [List.length_map]; exact h)
 have hfs : 0 < S.fi.length → S.fa.isSome = true := fun h => hS.now.f.isSome (j := 0) (by rw [List.length_map]; exact h)
 have hrs : ∀ q, q < S.rs.length → 0 < (S.rs.getD q rx0).xs.length → (S.rs.getD q rx0).a.isSome = true := fun q hq h => (hS.now.r _ (getDm hq)).isSome (j := 0) (by rw [List.length_map]; exact h)
 have hus : ∀ q, q < S.os.length → 0 < (S.os.getD q rx0).xs.length → (S.os.getD q rx0).a.isSome = true := fun q hq h => (hS.now.u _ (getDm hq)).isSome (j := 0) (by rw [List.length_map]; exact h)
 have hMn2 : M * S.sq.n + M ≤ 4096 := by rw [Nat.add_mul, Nat.one_mul, Nat.mul_comm] at hMn; exact hMn
 refine enter (args := [svv S]) [] 234 Try.func53 rfl rfl rfl ?_
 refine CT.seq (CT.region ?_)
 refine Wl.g rfl rfl (OpG.box (size := 7) rfl rfl rfl) ?_
 rintro b1 _
 refine Wl.g rfl rfl (OpG.alloc (zs := [.int .i64 0, .int .i64 0, .string ⟨#[]⟩, .slice none 0 0, .slice none 0 0, .slice none 0 0, .slice none 0 0]) zf19 rfl rfl) ?_
 rintro b2 _
 refine Wl.q rfl rfl (OpQ.assign rfl) ?_
 refine Wl.nil (PX.then_n (CT.seq (CT.seq (CT.region ?_))))
 refine Wl.q rfl rfl (OpQ.loadV (b := b1) zf29 zf28 rfl (by repeat (first | exact Has.here | apply Has.there)) (by rfl)) ?_
 refine Wl.know 24 (v' := svv S) rfl rfl ?_
 refine Wl.g rfl rfl (OpG.callV zf86 rfl (fun w hH => svalidR_spec w S (hH.stays0 hS) (hv.mono hM4))) ?_
 rintro _ _
 refine Wl.q rfl rfl (OpQ.assign rfl) ?_
 refine Wl.nil (PX.then_n (CT.seq (CT.region ?_)))
 refine Wl.q rfl rfl (OpQ.move rfl) ?_
 refine Wl.q rfl rfl (OpQ.neq rfl rfl) ?_
 refine Wl.know 27 (v' := .bool false) rfl (congrArg Value.bool (by decide)) ?_
 refine Wl.nil (PX.then_n ?_)
 refine CT.condF rfl ?_
 refine CT.skip (PX.then_n (CT.seq (CT.region ?_)))
 refine Wl.q rfl rfl (OpQ.loadV (b := b1) zf29 zf28 rfl (by repeat (first | exact Has.here | apply Has.there)) (by rfl)) ?_
 refine Wl.know 30 (v' := svv S) rfl rfl ?_
 refine Wl.g rfl rfl (OpG.callX zf96 rfl .nil (fun _ => (App.of _ _)) (fun w hH hp => trimR42_spec w S (hH.stays0 hS) hv)) ?_
 rintro G hG
 obtain ⟨hGo, hGn⟩ := IsTrim.ok hv hG
 obtain ⟨gb1, gb2, gb3, gb4⟩ := hGo.bnd
 obtain ⟨glo, gle, glf⟩ := hGo.lens
 have hSn := S.n_eq
 have hgn := G.n_eq
 have hGM : M * G.sq.n ≤ M * S.sq.n := Nat.mul_le_mul_left _ hGn
 have hGL : G.L = S.L := hG.L_eq
 have hGM2 : (G.sq.n + 1) * M ≤ (S.sq.n + 1) * M := Nat.mul_le_mul_right _ (by omega)
 have hGM1 : (G.sq.n + 1) * M ≤ 4096 := Nat.le_trans hGM2 hMn
 refine Wl.as (fun _ h => HOk.bindR (A := [.row 30 7 (vb b2) 1 [.int .i64 0, .int .i64 0, .string ⟨#[]⟩, .slice none 0 0, .slice none 0 0, .slice none 0 0, .slice none 0 0], .row 30 7 (vb b1) 1 (svc S)]) (L := svH G 3 22 4 9 28) (p := svm G) (HOk.swap (A := svH G 3 22 4 9 28) h) (fun w hk => svm_of hk)) ?_
 generalize blks _ = fG
 refine Wl.fact (p := Nn G) (fun w hH => svm.nn (hH.fragp .here)) (fun gnn => ?_)
 refine Wl.g rfl rfl (OpG.alloc (zs := [.int .i64 0, .int .i64 0, .string ⟨#[]⟩, .slice none 0 0, .slice none 0 0, .slice none 0 0, .slice none 0 0]) zf19 rfl rfl) ?_
 rintro b5 _
 refine Wl.g rfl rfl (OpG.storeV (b := b5) zf28 rfl rfl rfl rfl (by repeat (first | exact Upd.here | apply Upd.there))) ?_
 rintro _ _
 refine Wl.nil (PX.then_n (CT.seq (CT.region ?_)))
 refine Wl.q rfl rfl (OpQ.fieldAddr zf30 rfl) ?_
 refine Wl.q rfl rfl (OpQ.loadF (b := b5) zf31 rfl (by repeat (first | exact Has.here | apply Has.there)) (by rfl)) ?_
 refine Wl.q rfl rfl (OpQ.len zf21 rfl) ?_
 refine Wl.q rfl rfl (OpQ.assign rfl) ?_
 refine Wl.nil (PX.then_n (CT.seq (CT.region ?_)))
 refine Wl.q rfl rfl (OpQ.move rfl) ?_
 refine Wl.g rfl rfl (OpG.make1 zf17 zf18 rfl rfl rfl rfl (by omega) (by omega)) ?_
 rintro b36 _
 refine Wl.q rfl rfl (OpQ.assign rfl) ?_
 refine Wl.nil (PX.then_n (CT.seq (CT.region ?_)))
 refine Wl.q rfl rfl (OpQ.move rfl) ?_
 refine Wl.g rfl rfl (OpG.make1 zf25 zf26 rfl rfl rfl rfl (by omega) (by omega)) ?_
 rintro b38 _
 refine Wl.q rfl rfl (OpQ.assign rfl) ?_
 refine Wl.nil (PX.then_n (CT.seq (CT.seq (CT.region ?_))))
 refine Wl.q rfl rfl (OpQ.assign rfl) ?_
 refine Wl.nil (PX.then_n (CT.block ?_))
 refine CT.as (fun _ h => h.take (.cons (.there .here) (.cons .here (.cons .here (.cons (.there .here) (.cons (.there .here) (.cons .here .nil))))))) ?_
 refine CT.loop (ι := List Wd × List Bool × Bool) (fun (P, K, ch) => ∃ m0, RfI G.sq M m0 P K ch G.sq.n) (fun (P, K, ch) => [(2, .pointer (some ⟨b2, 0, none⟩)), (5, .pointer (some ⟨b5, 0, none⟩)), (6, .int .i64 ((G.rs.length : Nat) : Int)), (7, .slice (some ⟨b36, 0, none⟩) G.rs.length G.rs.length), (8, .slice (some ⟨b38, 0, none⟩) G.rs.length G.rs.length), (9, .bool ch)]) (fun (P, K, ch) => [.row 9 1 (.slice (some ⟨b36, 0, none⟩) G.rs.length G.rs.length) G.rs.length (P.map sv), .row 4 1 (.slice (some ⟨b38, 0, none⟩) G.rs.length G.rs.length) G.rs.length (K.map bo), .row 30 7 (vb b5) 1 (svc G), .row 30 7 (vb b2) 1 [.int .i64 0, .int .i64 0, .string ⟨#[]⟩, .slice none 0 0, .slice none 0 0, .slice none 0 0, .slice none 0 0], .row 30 7 (vb b1) 1 (svc S), .frag fG (svm G)]) (fun (P, K, ch) => msP G.sq M P K + (if ch then 1 else 0)) (List.replicate G.sq.n [], List.replicate G.sq.n false, true) ⟨_, RfI.start⟩ ⟨rfl, rfl, rfl, rfl, rfl, rfl, trivial⟩ (.keep (row_eq (by rw [List.map_replicate, hgn])) (.keep (row_eq (by rw [List.map_replicate, hgn])) (HSub.refl _))) (fun ⟨P, K, ch⟩ ⟨m0, hR⟩ K0 hK0 => ?_)
 dsimp only
 refine CT.seq (CT.seq (CT.region ?_))
 refine Wl.q rfl rfl (OpQ.move rfl) ?_
 refine Wl.nil (PX.then_n ?_)
 refine CT.cond rfl (fun h39 => ?_) (fun h39 => ?_)
 ·
  refine CT.skip (PX.then_n (CT.block (CT.seq (CT.region ?_))))
  refine Wl.q rfl rfl (OpQ.assign rfl) ?_
  refine Wl.nil (PX.then_n (CT.seq (CT.region ?_)))
  refine Wl.q rfl rfl (OpQ.fieldAddr zf30 rfl) ?_
  refine Wl.q rfl rfl (OpQ.loadF (b := b5) zf31 rfl (by repeat (first | exact Has.here | apply Has.there)) (by rfl)) ?_
  refine Wl.q rfl rfl (OpQ.len zf21 rfl) ?_
  refine Wl.q rfl rfl (OpQ.move rfl) ?_
  refine Wl.nil (PX.then_n (CT.block ?_))
  refine CT.loop (ι := Nat × List Wd × List Bool × Bool) (fun (q, P', K', ch') => q ≤ G.rs.length ∧ RfI G.sq M (msP G.sq M P K) P' K' ch' q) (fun (q, P', K', ch') => [(2, .pointer (some ⟨b2, 0, none⟩)), (5, .pointer (some ⟨b5, 0, none⟩)), (6, .int .i64 ((G.rs.length : Nat) : Int)), (7, .slice (some ⟨b36, 0, none⟩) G.rs.length G.rs.length), (8, .slice (some ⟨b38, 0, none⟩) G.rs.length G.rs.length), (9, .bool ch'), (41, .slice G.na G.rs.length G.nc), (42, .int .i64 ((G.rs.length : Nat) : Int)), (43, .int .i64 ((q : Nat) : Int))]) (fun (q, P', K', ch') => [.row 9 1 (.slice (some ⟨b36, 0, none⟩) G.rs.length G.rs.length) G.rs.length (P'.map sv), .row 4 1 (.slice (some ⟨b38, 0, none⟩) G.rs.length G.rs.length) G.rs.length (K'.map bo), .row 30 7 (vb b5) 1 (svc G), .row 30 7 (vb b2) 1 [.int .i64 0, .int .i64 0, .string ⟨#[]⟩, .slice none 0 0, .slice none 0 0, .slice none 0 0, .slice none 0 0], .row 30 7 (vb b1) 1 (svc S), .frag fG (svm G)]) (fun (q, P', K', ch') => G.rs.length - q) (0, P, K, false) ⟨Nat.zero_le _, by have := hR; rw [h39] at this; exact this.pass⟩ ⟨rfl, rfl, rfl, rfl, rfl, rfl, rfl, rfl, rfl, trivial⟩ (HSub.refl _) (fun ⟨q, P', K', ch'⟩ ⟨hq, hR'⟩ K1 hK1 => ?_)
  dsimp only
  have hPl : P'.length = G.rs.length := by rw [hR'.pl, hgn]
  have hKl : K'.length = G.rs.length := by rw [hR'.kl, hgn]
  have hPle := fun r => hR'.len r
  refine CT.seq (CT.region ?_)
  refine Wl.q rfl rfl (OpQ.lss rfl rfl) ?_
  refine Wl.nil (PX.then_n (CT.seq ?_))
  refine CT.cond rfl (fun h44 => ?_) (fun h44 => ?_)
  ·
   have h44 := of_decide_eq_true h44
   have hqN : q < G.rs.length := by omega
   have hqn : q < G.sq.n := by rw [hgn]; exact hqN
   have hrl := hGo.rlen hqN
   have hol := hGo.olen hqN
   have hfl := (hGo.tf q hqn).1
   refine CT.skip (PX.then_n (CT.seq (CT.block (CT.seq (CT.region ?_)))))
   refine Wl.q rfl rfl (OpQ.move rfl) ?_
   refine Wl.q rfl rfl (OpQ.assign rfl) ?_
   refine Wl.nil (PX.then_n (CT.seq (CT.region ?_)))
   refine Wl.q rfl rfl (OpQ.assign rfl) ?_
   refine Wl.q rfl rfl (OpQ.assign rfl) ?_
   refine Wl.nil (PX.then_n ?_)
   refine CT.cut (ι := Unit) (Φ := fun _ => True) (E' := fun _ => [(2, .pointer (some ⟨b2, 0, none⟩)), (5, .pointer (some ⟨b5, 0, none⟩)), (6, .int .i64 ((G.rs.length : Nat) : Int)), (7, .slice (some ⟨b36, 0, none⟩) G.rs.length G.rs.length), (8, .slice (some ⟨b38, 0, none⟩) G.rs.length G.rs.length), (9, .bool ch'), (41, .slice G.na G.rs.length G.nc), (42, .int .i64 ((G.rs.length : Nat) : Int)), (43, .int .i64 ((q : Nat) : Int)), (10, .int .i64 ((q : Nat) : Int)), (11, sv (bst G.sq P' K' q (0)).1), (12, .bool (bst G.sq P' K' q (0)).2)]) (H' := fun _ => [.row 9 1 (.slice (some ⟨b36, 0, none⟩) G.rs.length G.rs.length) G.rs.length (P'.map sv), .row 4 1 (.slice (some ⟨b38, 0, none⟩) G.rs.length G.rs.length) G.rs.length (K'.map bo), .row 30 7 (vb b5) 1 (svc G), .row 30 7 (vb b2) 1 [.int .i64 0, .int .i64 0, .string ⟨#[]⟩, .slice none 0 0, .slice none 0 0, .slice none 0 0, .slice none 0 0], .row 30 7 (vb b1) 1 (svc S), .frag fG (svm G)]) (fun K2 hK2 => ?_) (fun _ _ => ?_)
   ·
    refine CT.seq (CT.region ?_)
    refine Wl.q rfl rfl (OpQ.fieldAddr zf42 rfl) ?_
    refine Wl.q rfl rfl (OpQ.loadF (b := b5) zf43 rfl (by repeat (first | exact Has.here | apply Has.there)) (by rfl)) ?_
    refine Wl.q rfl rfl (OpQ.move rfl) ?_
    refine Wl.q rfl rfl (OpQ.index1 zf25 zf44 rfl rfl (by omega) (gnn.e (by omega))) ?_
    refine Wl.q rfl rfl (OpQ.loadG zf45 rfl (fun w hH => (hH.fragp (.there (.there (.there (.there (.there .here)))))).e) (getMap bo G.en false (j := q) (by omega))) ?_
    refine Wl.know 50 (v' := .bool (G.sq.e q)) rfl rfl ?_
    refine Wl.nil (PX.then_n ?_)
    refine CT.cond rfl (fun h50 => ?_) (fun h50 => ?_)
    ·
     have hb := bst0_t (P := P') (K := K') (show G.sq.e q = true from h50)
     refine CT.region ?_
     refine Wl.q rfl rfl (OpQ.fieldAddr zf41 rfl) ?_
     refine Wl.q rfl rfl (OpQ.loadF (b := b5) zf37 rfl (by repeat (first | exact Has.here | apply Has.there)) (by rfl)) ?_
     refine Wl.q rfl rfl (OpQ.move rfl) ?_
     refine Wl.q rfl rfl (OpQ.index1 zf17 zf38 rfl rfl (by omega) (gnn.f (by omega))) ?_
     refine Wl.q rfl rfl (OpQ.loadG zf39 rfl (fun w hH => (hH.fragp (.there (.there (.there (.there (.there .here)))))).f) (getMap sv G.fi [] (j := q) (by omega))) ?_
     refine Wl.know 55 (v' := sv (G.sq.f q)) rfl rfl ?_
     refine Wl.q rfl rfl (OpQ.assign rfl) ?_
     refine Wl.q rfl rfl (OpQ.assign rfl) ?_
     refine Wl.nil ?_
     exact PX.cut hK2 () trivial ⟨rfl, rfl, rfl, rfl, rfl, rfl, rfl, rfl, rfl, rfl, (lkV rfl (congrArg (fun z : Wd × Bool => sv z.1) hb.symm)), (lkV rfl (congrArg (fun z : Wd × Bool => Value.bool z.2) hb.symm)), trivial⟩ (HSub.refl _)
    ·
     have hb := bst0_f (P := P') (K := K') (show G.sq.e q = false from h50)
     refine CT.skip ?_
     exact PX.cut hK2 () trivial ⟨rfl, rfl, rfl, rfl, rfl, rfl, rfl, rfl, rfl, rfl, (lkV rfl (congrArg (fun z : Wd × Bool => sv z.1) hb.symm)), (lkV rfl (congrArg (fun z : Wd × Bool => Value.bool z.2) hb.symm)), trivial⟩ (HSub.refl _)
   ·
    refine CT.seq (CT.seq (CT.region ?_))
    refine Wl.q rfl rfl (OpQ.fieldAddr zf30 rfl) ?_
    refine Wl.q rfl rfl (OpQ.loadF (b := b5) zf31 rfl (by repeat (first | exact Has.here | apply Has.there)) (by rfl)) ?_
    refine Wl.q rfl rfl (OpQ.move rfl) ?_
    refine Wl.q rfl rfl (OpQ.index1 zf21 zf32 rfl rfl (by omega) (gnn.n (by omega))) ?_
    refine Wl.q rfl rfl (OpQ.loadG zf10 rfl (fun w hH => (hH.fragp (.there (.there (.there (.there (.there .here)))))).n) (getMap rxv G.rs rx0 (j := q) (by omega))) ?_
    refine Wl.q rfl rfl (OpQ.len zf0 rfl) ?_
    refine Wl.know 61 (v' := .int .i64 ((G.L : Nat) : Int)) rfl (congrArg (Value.int .i64) (by rw [hrl])) ?_
    refine Wl.q rfl rfl (OpQ.move rfl) ?_
    refine Wl.nil (PX.then_n (CT.block ?_))
    refine CT.loop (ι := Nat) (fun x => x ≤ G.L) (fun x => [(2, .pointer (some ⟨b2, 0, none⟩)), (5, .pointer (some ⟨b5, 0, none⟩)), (6, .int .i64 ((G.rs.length : Nat) : Int)), (7, .slice (some ⟨b36, 0, none⟩) G.rs.length G.rs.length), (8, .slice (some ⟨b38, 0, none⟩) G.rs.length G.rs.length), (9, .bool ch'), (41, .slice G.na G.rs.length G.nc), (42, .int .i64 ((G.rs.length : Nat) : Int)), (43, .int .i64 ((q : Nat) : Int)), (10, .int .i64 ((q : Nat) : Int)), (11, sv (bst G.sq P' K' q (x)).1), (12, .bool (bst G.sq P' K' q (x)).2), (60, rxv (G.rs.getD q rx0)), (61, .int .i64 ((G.L : Nat) : Int)), (62, .int .i64 ((x : Nat) : Int))]) (fun _ => [.row 9 1 (.slice (some ⟨b36, 0, none⟩) G.rs.length G.rs.length) G.rs.length (P'.map sv), .row 4 1 (.slice (some ⟨b38, 0, none⟩) G.rs.length G.rs.length) G.rs.length (K'.map bo), .row 30 7 (vb b5) 1 (svc G), .row 30 7 (vb b2) 1 [.int .i64 0, .int .i64 0, .string ⟨#[]⟩, .slice none 0 0, .slice none 0 0, .slice none 0 0, .slice none 0 0], .row 30 7 (vb b1) 1 (svc S), .frag fG (svm G)]) (fun x => G.L - x) 0 (Nat.zero_le _) ⟨rfl, rfl, rfl, rfl, rfl, rfl, rfl, rfl, rfl, rfl, rfl, rfl, rfl, rfl, rfl, trivial⟩ (HSub.refl _) (fun x hx K3 hK3 => ?_)
    refine CT.seq (CT.region ?_)
    refine Wl.q rfl rfl (OpQ.lss rfl rfl) ?_
    refine Wl.nil (PX.then_n (CT.seq ?_))
    refine CT.cond rfl (fun h63 => ?_) (fun h63 => ?_)
    ·
     have h63 := of_decide_eq_true h63
     have hxL : x < G.L := by omega
     have hot := (hGo.to' q x hqn (show x < G.sq.L from hxL)).1
     refine CT.skip (PX.then_n (CT.seq (CT.block (CT.seq (CT.region ?_)))))
     refine Wl.q rfl rfl (OpQ.move rfl) ?_
     refine Wl.q rfl rfl (OpQ.index1 zf0 zf1 rfl rfl (by omega) (gnn.r q hqN (by omega))) ?_
     refine Wl.q rfl rfl (OpQ.loadG zf8 rfl (fun w hH => (hH.fragp (.there (.there (.there (.there (.there .here)))))).r _ (getDm (d := rx0) (show q < G.rs.length by omega))) (getMap zo (G.rs.getD q rx0).xs none (j := x) (by omega))) ?_
     refine Wl.know 66 (v' := zo (G.sq.to q x)) rfl (congrArg zo (G.to_eq q x).symm) ?_
     refine Wl.q rfl rfl (OpQ.assign rfl) ?_
     refine Wl.q rfl rfl (OpQ.assign rfl) ?_
     refine Wl.nil (PX.then_n (CT.seq (CT.seq (CT.region ?_))))
     refine Wl.q rfl rfl (OpQ.move rfl) ?_
     refine Wl.q rfl rfl (OpQ.lss rfl rfl) ?_
     refine Wl.q rfl rfl (OpQ.move rfl) ?_
     refine Wl.split 69 rfl (fun hg69 => ?_) (fun hg69 => ?_)
     ·
      have hno : G.sq.to q x = none := oi_neg.1 (by have := of_decide_eq_true hg69; have := oi_ge (G.sq.to q x); omega)
      have hb := bst_none (P := P') (K := K') hno
      refine Wl.skip rfl rfl ?_
      refine Wl.skip rfl rfl ?_
      refine Wl.skip rfl rfl ?_
      refine Wl.skip rfl rfl ?_
      refine Wl.skip rfl rfl ?_
      refine Wl.q rfl rfl (OpQ.pickT rfl rfl) ?_
      refine Wl.nil (PX.then_n ?_)
      refine CT.condT rfl ?_
      refine CT.exit (PX.then_x (PX.block_x (PX.then_n (CT.region ?_))))
      refine Wl.q rfl rfl (OpQ.add rfl rfl (by omega)) ?_
      refine Wl.q rfl rfl (OpQ.move rfl) ?_
      refine Wl.nil ?_
      exact PX.loop hK3 (x + 1) (by omega) (by first | omega | (dsimp only; omega)) ⟨rfl, rfl, rfl, rfl, rfl, rfl, rfl, rfl, rfl, rfl, (lkV rfl (congrArg (fun z : Wd × Bool => sv z.1) hb.symm)), (lkV rfl (congrArg (fun z : Wd × Bool => Value.bool z.2) hb.symm)), rfl, rfl, rfl, trivial⟩ (HSub.refl _)
     ·
      obtain ⟨r, hto⟩ := oi_some (show oi (G.sq.to q x) ≠ -1 by have := of_decide_eq_false hg69; omega)
      have hr := hGo.lt q x r hqn (show x < G.sq.L from hxL) hto
      have hrn : r < G.rs.length := by rw [← hgn]; exact hr
      refine Wl.know 14 (v' := zn r) rfl (by rw [hto]; rfl) ?_
      refine Wl.q rfl rfl (OpQ.move rfl) ?_
      refine Wl.q rfl rfl (OpQ.move rfl) ?_
      refine Wl.q rfl rfl (OpQ.index1 zf25 zf44 rfl rfl (by omega) rfl) ?_
      refine Wl.q rfl rfl (OpQ.loadRow zf45 rfl (.there .here) (getMap bo K' false (j := r) (by omega))) ?_
      refine Wl.know 73 (v' := (.bool (K'.getD r false))) rfl rfl ?_
      refine Wl.q rfl rfl (OpQ.not rfl) ?_
      refine Wl.q rfl rfl (OpQ.pickF rfl rfl) ?_
      refine Wl.nil (PX.then_n ?_)
      refine CT.cond rfl (fun h75 => ?_) (fun h75 => ?_)
      ·
       have hkr : K'.getD r false = false := by simpa using h75
       have hb := bst_skip (P := P') hto hkr
       refine CT.exit (PX.then_x (PX.block_x (PX.then_n (CT.region ?_))))
       refine Wl.q rfl rfl (OpQ.add rfl rfl (by omega)) ?_
       refine Wl.q rfl rfl (OpQ.move rfl) ?_
       refine Wl.nil ?_
       exact PX.loop hK3 (x + 1) (by omega) (by first | omega | (dsimp only; omega)) ⟨rfl, rfl, rfl, rfl, rfl, rfl, rfl, rfl, rfl, rfl, (lkV rfl (congrArg (fun z : Wd × Bool => sv z.1) hb.symm)), (lkV rfl (congrArg (fun z : Wd × Bool => Value.bool z.2) hb.symm)), rfl, rfl, rfl, trivial⟩ (HSub.refl _)
      ·
       have hkr : K'.getD r false = true := by simpa using h75
       refine CT.skip (PX.then_n (CT.seq ?_))
       refine CT.draw 14 zf6 ?_
       refine RA.q 0 (by kernel_rfl) rfl rfl rfl (.refl _) (OpQ.fieldAddr zf34 rfl) ?_
       refine RA.q 1 (by kernel_rfl) rfl rfl rfl (.refl _) (OpQ.loadF (b := b5) zf35 rfl (by repeat (first | exact Has.here | apply Has.there)) (by rfl)) ?_
       refine RA.q 2 (by kernel_rfl) rfl rfl rfl (.refl _) (OpQ.move rfl) ?_
       refine RA.q 3 (by kernel_rfl) rfl rfl rfl (.refl _) (OpQ.index1 zf23 zf36 rfl rfl (by omega) (gnn.o (by omega))) ?_
       refine RA.q 4 (by kernel_rfl) rfl rfl rfl (.refl _) (OpQ.loadG zf37 rfl (fun w hH => (hH.fragp (.there (.there (.there (.there (.there .here)))))).o) (getMap rxv G.os rx0 (j := q) (by omega))) ?_
       refine RA.q 5 (by kernel_rfl) rfl rfl rfl (.refl _) (OpQ.move rfl) ?_
       refine RA.q 6 (by kernel_rfl) rfl rfl rfl (.refl _) (OpQ.index1 zf17 zf38 rfl rfl (by omega) (gnn.u q (by omega) (by omega))) ?_
       refine RA.q 7 (by kernel_rfl) rfl rfl rfl (.refl _) (OpQ.loadG zf39 rfl (fun w hH => (hH.fragp (.there (.there (.there (.there (.there .here)))))).u _ (getDm (d := rx0) (show q < G.os.length by omega))) (getMap sv (G.os.getD q rx0).xs [] (j := x) (by omega))) ?_
       refine RA.know 83 (v' := sv (G.sq.o q x)) rfl (congrArg sv (G.o_eq q x).symm) ?_
       refine RA.q 8 (by kernel_rfl) rfl rfl rfl (.refl _) (OpQ.move rfl) ?_
       refine RA.q 9 (by kernel_rfl) rfl rfl rfl (.refl _) (OpQ.move rfl) ?_
       refine RA.q 10 (by kernel_rfl) rfl rfl rfl (.refl _) (OpQ.index1 zf17 zf38 rfl rfl (by omega) rfl) ?_
       refine RA.q 11 (by kernel_rfl) rfl rfl rfl (.refl _) (OpQ.loadRow zf39 rfl .here (getMap sv P' [] (j := r) (by omega))) ?_
       refine RA.q 12 (by kernel_rfl) rfl rfl rfl (.refl _) (OpQ.concat rfl rfl (by have := hPle r; omega)) ?_
       refine RA.know 88 (v' := sv (G.sq.o q x ++ P'.getD r [])) rfl rfl ?_
       refine RA.q 13 (by kernel_rfl) rfl rfl rfl (.refl _) (OpQ.assign rfl) ?_
       refine RA.tail ?_
       refine RT.done (by kernel_rfl) ?_
       refine PX.then_n (CT.seq (CT.seq (CT.region ?_)))
       refine Wl.q rfl rfl (OpQ.move rfl) ?_
       refine Wl.nil (PX.then_n ?_)
       refine CT.cond rfl (fun h89 => ?_) (fun h89 => ?_)
       ·
        have hb := bst_more (P := P') hto hkr (show (bst G.sq P' K' q (x)).2 = true from h89)
        refine CT.region ?_
        have hblen : (bst G.sq P' K' q (x)).1.length ≤ 1000000000 := Nat.le_trans (bst_len hfl (fun y hy => (hGo.to' q y hqn hy).1) hPle x (by show x ≤ G.L; omega)) (by omega)
        refine Wl.q rfl rfl (OpQ.move rfl) ?_
        refine Wl.q rfl rfl (OpQ.move rfl) ?_
        refine Wl.g rfl rfl (OpG.callV zf97 rfl (fun w hH => commonR_spec w (bst G.sq P' K' q (x)).1 (G.sq.o q x ++ P'.getD r []) hblen)) ?_
        rintro _ _
        refine Wl.q rfl rfl (OpQ.assign rfl) ?_
        refine Wl.nil (PX.then_n (CT.region ?_))
        refine Wl.q rfl rfl (OpQ.move rfl) ?_
        refine Wl.q rfl rfl (OpQ.assign rfl) ?_
        refine Wl.q rfl rfl (OpQ.assign rfl) ?_
        refine Wl.nil (PX.block_n (PX.then_n (CT.region ?_)))
        refine Wl.q rfl rfl (OpQ.add rfl rfl (by omega)) ?_
        refine Wl.q rfl rfl (OpQ.move rfl) ?_
        refine Wl.nil ?_
        exact PX.loop hK3 (x + 1) (by omega) (by first | omega | (dsimp only; omega)) ⟨rfl, rfl, rfl, rfl, rfl, rfl, rfl, rfl, rfl, rfl, (lkV rfl (congrArg (fun z : Wd × Bool => sv z.1) hb.symm)), (lkV rfl (congrArg (fun z : Wd × Bool => Value.bool z.2) hb.symm)), rfl, rfl, rfl, trivial⟩ (HSub.refl _)
       ·
        have hb := bst_first (P := P') hto hkr (show (bst G.sq P' K' q (x)).2 = false from h89)
        refine CT.skip (PX.then_n (CT.region ?_))
        refine Wl.q rfl rfl (OpQ.move rfl) ?_
        refine Wl.q rfl rfl (OpQ.assign rfl) ?_
        refine Wl.q rfl rfl (OpQ.assign rfl) ?_
        refine Wl.nil (PX.block_n (PX.then_n (CT.region ?_)))
        refine Wl.q rfl rfl (OpQ.add rfl rfl (by omega)) ?_
        refine Wl.q rfl rfl (OpQ.move rfl) ?_
        refine Wl.nil ?_
        exact PX.loop hK3 (x + 1) (by omega) (by first | omega | (dsimp only; omega)) ⟨rfl, rfl, rfl, rfl, rfl, rfl, rfl, rfl, rfl, rfl, (lkV rfl (congrArg (fun z : Wd × Bool => sv z.1) hb.symm)), (lkV rfl (congrArg (fun z : Wd × Bool => Value.bool z.2) hb.symm)), rfl, rfl, rfl, trivial⟩ (HSub.refl _)
    ·
     have h63 := of_decide_eq_false h63
     obtain rfl : x = G.L := by omega
     refine CT.exit (PX.then_x (PX.then_x (PX.block_x (PX.then_n (CT.seq (CT.region ?_))))))
     refine Wl.q rfl rfl (OpQ.move rfl) ?_
     refine Wl.q rfl rfl (OpQ.move rfl) ?_
     refine Wl.split 96 rfl (fun hg96 => ?_) (fun hg96 => ?_)
     ·
      have hs : (bst G.sq P' K' q G.L).2 = true := hg96
      refine Wl.q rfl rfl (OpQ.move rfl) ?_
      refine Wl.q rfl rfl (OpQ.move rfl) ?_
      refine Wl.q rfl rfl (OpQ.index1 zf25 zf44 rfl rfl (by omega) rfl) ?_
      refine Wl.q rfl rfl (OpQ.loadRow zf45 rfl (.there .here) (getMap bo K' false (j := q) (by omega))) ?_
      refine Wl.know 100 (v' := (.bool (K'.getD q false))) rfl rfl ?_
      refine Wl.q rfl rfl (OpQ.not rfl) ?_
      refine Wl.q rfl rfl (OpQ.move rfl) ?_
      refine Wl.split 102 rfl (fun hg102 => ?_) (fun hg102 => ?_)
      ·
       have hne : K'.getD q false = false ∨ (bst G.sq P' K' q G.L).1 ≠ P'.getD q [] := .inl (by simpa using hg102)
       obtain ⟨P2, hP2e⟩ : ∃ z, z = P'.set q (bst G.sq P' K' q G.L).1 := ⟨_, rfl⟩
       obtain ⟨K2, hK2e⟩ : ∃ z, z = K'.set q true := ⟨_, rfl⟩
       obtain ⟨ch2, hch2⟩ : ∃ z, z = true := ⟨_, rfl⟩
       have hP2 : P2.map sv = (P'.map sv).set q (sv (bst G.sq P' K' q G.L).1) := by rw [hP2e, List.map_set]
       have hK2 : K2.map bo = (K'.map bo).set q (.bool true) := by rw [hK2e, List.map_set]
       have hR2 : RfI G.sq M (msP G.sq M P K) P2 K2 ch2 (q + 1) := by rw [hP2e, hK2e, hch2]; exact hR'.put hGo (rf_all hG hs) (by rw [G.n_eq]; exact hqN) hs hne
       refine Wl.skip rfl rfl ?_
       refine Wl.skip rfl rfl ?_
       refine Wl.skip rfl rfl ?_
       refine Wl.skip rfl rfl ?_
       refine Wl.skip rfl rfl ?_
       refine Wl.skip rfl rfl ?_
       refine Wl.q rfl rfl (OpQ.pickT rfl rfl) ?_
       refine Wl.q rfl rfl (OpQ.pickT rfl rfl) ?_
       refine Wl.nil (PX.then_n ?_)
       refine CT.condT rfl ?_
       refine CT.region ?_
       refine Wl.q rfl rfl (OpQ.move rfl) ?_
       refine Wl.q rfl rfl (OpQ.move rfl) ?_
       refine Wl.q rfl rfl (OpQ.move rfl) ?_
       refine Wl.q rfl rfl (OpQ.move rfl) ?_
       refine Wl.q rfl rfl (OpQ.move rfl) ?_
       refine Wl.q rfl rfl (OpQ.index1 zf17 zf38 rfl rfl (by omega) rfl) ?_
       refine Wl.g rfl rfl (OpG.storeRow (a := some ⟨b36, 0, none⟩) zf38 rfl rfl rfl (by repeat (first | exact Upd.here | apply Upd.there)) (by rw [List.length_map]; omega)) ?_
       rintro _ _
       refine Wl.q rfl rfl (OpQ.index1 zf25 zf44 rfl rfl (by omega) rfl) ?_
       refine Wl.g rfl rfl (OpG.storeRow (a := some ⟨b38, 0, none⟩) zf44 rfl rfl rfl (by repeat (first | exact Upd.here | apply Upd.there)) (by rw [List.length_map]; omega)) ?_
       rintro _ _
       refine Wl.q rfl rfl (OpQ.assign rfl) ?_
       refine Wl.nil (PX.block_n (PX.then_n (CT.region ?_)))
       refine Wl.q rfl rfl (OpQ.add rfl rfl (by omega)) ?_
       refine Wl.q rfl rfl (OpQ.move rfl) ?_
       refine Wl.nil ?_
       exact PX.loop hK1 (q + 1, P2, K2, ch2) ⟨by omega, hR2⟩ (show G.rs.length - (q + 1) < G.rs.length - q by omega) ⟨rfl, rfl, rfl, rfl, rfl, (lkV rfl (by rw [hch2])), rfl, rfl, rfl, trivial⟩ (.keep (row_eq hP2) (.keep (row_eq hK2) (HSub.refl _)))
      ·
       have hkq : K'.getD q false = true := by simpa using hg102
       refine Wl.q rfl rfl (OpQ.move rfl) ?_
       refine Wl.q rfl rfl (OpQ.move rfl) ?_
       refine Wl.q rfl rfl (OpQ.move rfl) ?_
       refine Wl.q rfl rfl (OpQ.index1 zf17 zf38 rfl rfl (by omega) rfl) ?_
       refine Wl.q rfl rfl (OpQ.loadRow zf39 rfl .here (getMap sv P' [] (j := q) (by omega))) ?_
       refine Wl.q rfl rfl (OpQ.neqS rfl rfl) ?_
       refine Wl.q rfl rfl (OpQ.pickF rfl rfl) ?_
       refine Wl.q rfl rfl (OpQ.pickT rfl rfl) ?_
       refine Wl.nil (PX.then_n ?_)
       refine CT.cond rfl (fun h110 => ?_) (fun h110 => ?_)
       ·
        have hne : K'.getD q false = false ∨ (bst G.sq P' K' q G.L).1 ≠ P'.getD q [] := .inr (by simpa using h110)
        obtain ⟨P2, hP2e⟩ : ∃ z, z = P'.set q (bst G.sq P' K' q G.L).1 := ⟨_, rfl⟩
        obtain ⟨K2, hK2e⟩ : ∃ z, z = K'.set q true := ⟨_, rfl⟩
        obtain ⟨ch2, hch2⟩ : ∃ z, z = true := ⟨_, rfl⟩
        have hP2 : P2.map sv = (P'.map sv).set q (sv (bst G.sq P' K' q G.L).1) := by rw [hP2e, List.map_set]
        have hK2 : K2.map bo = (K'.map bo).set q (.bool true) := by rw [hK2e, List.map_set]
        have hR2 : RfI G.sq M (msP G.sq M P K) P2 K2 ch2 (q + 1) := by rw [hP2e, hK2e, hch2]; exact hR'.put hGo (rf_all hG hs) (by rw [G.n_eq]; exact hqN) hs hne
        refine CT.region ?_
        refine Wl.q rfl rfl (OpQ.move rfl) ?_
        refine Wl.q rfl rfl (OpQ.move rfl) ?_
        refine Wl.q rfl rfl (OpQ.move rfl) ?_
        refine Wl.q rfl rfl (OpQ.move rfl) ?_
        refine Wl.q rfl rfl (OpQ.move rfl) ?_
        refine Wl.q rfl rfl (OpQ.index1 zf17 zf38 rfl rfl (by omega) rfl) ?_
        refine Wl.g rfl rfl (OpG.storeRow (a := some ⟨b36, 0, none⟩) zf38 rfl rfl rfl (by repeat (first | exact Upd.here | apply Upd.there)) (by rw [List.length_map]; omega)) ?_
        rintro _ _
        refine Wl.q rfl rfl (OpQ.index1 zf25 zf44 rfl rfl (by omega) rfl) ?_
        refine Wl.g rfl rfl (OpG.storeRow (a := some ⟨b38, 0, none⟩) zf44 rfl rfl rfl (by repeat (first | exact Upd.here | apply Upd.there)) (by rw [List.length_map]; omega)) ?_
        rintro _ _
        refine Wl.q rfl rfl (OpQ.assign rfl) ?_
        refine Wl.nil (PX.block_n (PX.then_n (CT.region ?_)))
        refine Wl.q rfl rfl (OpQ.add rfl rfl (by omega)) ?_
        refine Wl.q rfl rfl (OpQ.move rfl) ?_
        refine Wl.nil ?_
        exact PX.loop hK1 (q + 1, P2, K2, ch2) ⟨by omega, hR2⟩ (show G.rs.length - (q + 1) < G.rs.length - q by omega) ⟨rfl, rfl, rfl, rfl, rfl, (lkV rfl (by rw [hch2])), rfl, rfl, rfl, trivial⟩ (.keep (row_eq hP2) (.keep (row_eq hK2) (HSub.refl _)))
       ·
        have hkp : (bq G.sq P' K' q).2 = true → K'.getD q false = true ∧ (bq G.sq P' K' q).1 = P'.getD q [] := fun _ => ⟨hkq, show (bst G.sq P' K' q G.L).1 = P'.getD q [] from by simpa using h110⟩
        obtain ⟨P2, hP2e⟩ : ∃ z, z = P' := ⟨_, rfl⟩
        obtain ⟨K2, hK2e⟩ : ∃ z, z = K' := ⟨_, rfl⟩
        obtain ⟨ch2, hch2⟩ : ∃ z, z = ch' := ⟨_, rfl⟩
        have hP2 : P2.map sv = P'.map sv := by rw [hP2e]
        have hK2 : K2.map bo = K'.map bo := by rw [hK2e]
        have hR2 : RfI G.sq M (msP G.sq M P K) P2 K2 ch2 (q + 1) := by rw [hP2e, hK2e, hch2]; exact hR'.keep hkp
        refine CT.skip (PX.block_n (PX.then_n (CT.region ?_)))
        refine Wl.q rfl rfl (OpQ.add rfl rfl (by omega)) ?_
        refine Wl.q rfl rfl (OpQ.move rfl) ?_
        refine Wl.nil ?_
        exact PX.loop hK1 (q + 1, P2, K2, ch2) ⟨by omega, hR2⟩ (show G.rs.length - (q + 1) < G.rs.length - q by omega) ⟨rfl, rfl, rfl, rfl, rfl, (lkV rfl (by rw [hch2])), rfl, rfl, rfl, trivial⟩ (.keep (row_eq hP2) (.keep (row_eq hK2) (HSub.refl _)))
     ·
      have hkp : (bq G.sq P' K' q).2 = true → K'.getD q false = true ∧ (bq G.sq P' K' q).1 = P'.getD q [] := fun h => by rw [show (bq G.sq P' K' q).2 = false from hg96] at h; cases h
      obtain ⟨P2, hP2e⟩ : ∃ z, z = P' := ⟨_, rfl⟩
      obtain ⟨K2, hK2e⟩ : ∃ z, z = K' := ⟨_, rfl⟩
      obtain ⟨ch2, hch2⟩ : ∃ z, z = ch' := ⟨_, rfl⟩
      have hP2 : P2.map sv = P'.map sv := by rw [hP2e]
      have hK2 : K2.map bo = K'.map bo := by rw [hK2e]
      have hR2 : RfI G.sq M (msP G.sq M P K) P2 K2 ch2 (q + 1) := by rw [hP2e, hK2e, hch2]; exact hR'.keep hkp
      refine Wl.skip rfl rfl ?_
      refine Wl.skip rfl rfl ?_
      refine Wl.skip rfl rfl ?_
      refine Wl.skip rfl rfl ?_
      refine Wl.skip rfl rfl ?_
      refine Wl.skip rfl rfl ?_
      refine Wl.skip rfl rfl ?_
      refine Wl.skip rfl rfl ?_
      refine Wl.skip rfl rfl ?_
      refine Wl.skip rfl rfl ?_
      refine Wl.skip rfl rfl ?_
      refine Wl.skip rfl rfl ?_
      refine Wl.skip rfl rfl ?_
      refine Wl.q rfl rfl (OpQ.pickF rfl rfl) ?_
      refine Wl.nil (PX.then_n ?_)
      refine CT.condF rfl ?_
      refine CT.skip (PX.block_n (PX.then_n (CT.region ?_)))
      refine Wl.q rfl rfl (OpQ.add rfl rfl (by omega)) ?_
      refine Wl.q rfl rfl (OpQ.move rfl) ?_
      refine Wl.nil ?_
      exact PX.loop hK1 (q + 1, P2, K2, ch2) ⟨by omega, hR2⟩ (show G.rs.length - (q + 1) < G.rs.length - q by omega) ⟨rfl, rfl, rfl, rfl, rfl, (lkV rfl (by rw [hch2])), rfl, rfl, rfl, trivial⟩ (.keep (row_eq hP2) (.keep (row_eq hK2) (HSub.refl _)))
  ·
   have h44 := of_decide_eq_false h44
   refine CT.exit (PX.then_x (PX.then_x (PX.block_x (PX.block_n ?_))))
   exact PX.loop hK0 (P', K', ch') ⟨_, by have := hR'; rw [show q = G.sq.n by omega] at this; exact this⟩ (by have h1 := hR'.ms; subst h39; dsimp only; rw [if_pos rfl]; omega) ⟨rfl, rfl, rfl, rfl, rfl, rfl, trivial⟩ (HSub.refl _)
 ·
  subst h39
  obtain ⟨hIN, hNo, hdr, hdf⟩ := rf_norm hv hG hR
  have hPl : P.length = G.rs.length := by rw [hR.pl, hgn]
  have hPle := fun r => hR.len r
  have hgi : G.init.length ≤ M := hGo.ti.1
  refine CT.exit (PX.then_x (PX.then_x (PX.block_x (PX.then_n (CT.seq ?_)))))
  refine CT.draw 16 zf6 ?_
  refine RA.q 0 (by kernel_rfl) rfl rfl rfl (.refl _) (OpQ.fieldAddr zf33 rfl) ?_
  refine RA.q 1 (by kernel_rfl) rfl rfl rfl (.refl _) (OpQ.loadF (b := b5) zf8 rfl (by repeat (first | exact Has.here | apply Has.there)) (by rfl)) ?_
  refine RA.q 2 (by kernel_rfl) rfl rfl rfl (.refl _) (OpQ.fieldAddr zf46 rfl) ?_
  refine RA.q 3 (by kernel_rfl) rfl rfl rfl (.refl _) (OpQ.loadF (b := b5) zf8 rfl (by repeat (first | exact Has.here | apply Has.there)) (by rfl)) ?_
  refine RA.q 4 (by kernel_rfl) rfl rfl rfl (.refl _) (OpQ.fieldAddr zf47 rfl) ?_
  refine RA.q 5 (by kernel_rfl) rfl rfl rfl (.refl _) (OpQ.loadF (b := b5) zf39 rfl (by repeat (first | exact Has.here | apply Has.there)) (by rfl)) ?_
  refine RA.q 6 (by kernel_rfl) rfl rfl rfl (.refl _) (OpQ.move rfl) ?_
  refine RA.q 7 (by kernel_rfl) rfl rfl rfl (.refl _) (OpQ.fieldAddr zf46 rfl) ?_
  refine RA.q 8 (by kernel_rfl) rfl rfl rfl (.refl _) (OpQ.loadF (b := b5) zf8 rfl (by repeat (first | exact Has.here | apply Has.there)) (by rfl)) ?_
  refine RA.q 9 (by kernel_rfl) rfl rfl rfl (.refl _) (OpQ.index1 zf17 zf38 rfl rfl (by omega) rfl) ?_
  refine RA.q 10 (by kernel_rfl) rfl rfl rfl (.refl _) (OpQ.loadRow zf39 rfl .here (getMap sv P [] (j := G.s) (by omega))) ?_
  refine RA.q 11 (by kernel_rfl) rfl rfl rfl (.refl _) (OpQ.concat rfl rfl (by have := hPle G.s; omega)) ?_
  refine RA.q 12 (by kernel_rfl) rfl rfl rfl (.refl _) (OpQ.fieldAddr zf42 rfl) ?_
  refine RA.q 13 (by kernel_rfl) rfl rfl rfl (.refl _) (OpQ.loadF (b := b5) zf43 rfl (by repeat (first | exact Has.here | apply Has.there)) (by rfl)) ?_
  refine RA.q 14 (by kernel_rfl) rfl rfl rfl (.refl _) (OpQ.build (cells := #[zn G.L, zn G.s, sv (G.init ++ P.getD G.s []), .slice none 0 0, .slice none 0 0, .slice G.ea G.en.length G.ec, .slice none 0 0]) zf27 rfl rfl) ?_
  refine RA.f 15 (by kernel_rfl) rfl rfl rfl (OpG.alloc (zs := [.int .i64 0, .int .i64 0, .string ⟨#[]⟩, .slice none 0 0, .slice none 0 0, .slice none 0 0, .slice none 0 0]) zf19 rfl rfl) (fun _ _ => (.cons _ (.refl _))) ?_
  rintro b16 _
  refine RA.tail ?_
  refine RT.f 16 (by kernel_rfl) rfl rfl rfl (OpG.storeV (b := b16) zf28 rfl rfl rfl rfl (by repeat (first | exact Upd.here | apply Upd.there))) ?_
  rintro _ _
  refine RT.done (by kernel_rfl) ?_
  refine PX.then_n (CT.seq (CT.region ?_))
  refine Wl.q rfl rfl (OpQ.fieldAddr zf47 rfl) ?_
  refine Wl.q rfl rfl (OpQ.loadF (b := b16) zf39 rfl (by repeat (first | exact Has.here | apply Has.there)) (by rfl)) ?_
  refine Wl.q rfl rfl (OpQ.lenSv zf4 rfl) ?_
  refine Wl.q rfl rfl (OpQ.gtr rfl rfl) ?_
  refine Wl.know 137 (v' := .bool false) rfl (congrArg Value.bool (decide_eq_false (by rw [List.length_append]; have := hPle G.s; omega))) ?_
  refine Wl.q rfl rfl (OpQ.assign rfl) ?_
  refine Wl.nil (PX.then_n (CT.seq (CT.seq (CT.region ?_))))
  refine Wl.q rfl rfl (OpQ.fieldAddr zf30 rfl) ?_
  refine Wl.q rfl rfl (OpQ.loadF (b := b5) zf31 rfl (by repeat (first | exact Has.here | apply Has.there)) (by rfl)) ?_
  refine Wl.q rfl rfl (OpQ.len zf21 rfl) ?_
  refine Wl.q rfl rfl (OpQ.move rfl) ?_
  refine Wl.nil (PX.then_n (CT.block ?_))
  refine CT.nilrow 9 1 ?_
  refine CT.nilrow 28 1 ?_
  refine CT.nilrow 22 1 ?_
  refine CT.loop (ι := Nat × Option Addr × Nat × List (Rx (Option Nat)) × Option Addr × Nat × List (Rx Wd) × Option Addr × Nat × List Wd) (fun (q, na', nc', rs, oa', oc', os, fa', fc', fs) => q ≤ G.rs.length ∧ NoR (normD G.sq P) q rs os fs) (fun (q, na', nc', rs, oa', oc', os, fa', fc', fs) => [(2, .pointer (some ⟨b2, 0, none⟩)), (5, .pointer (some ⟨b5, 0, none⟩)), (7, .slice (some ⟨b36, 0, none⟩) G.rs.length G.rs.length), (16, .pointer (some ⟨b16, 0, none⟩)), (17, .bool false), (139, .slice G.na G.rs.length G.nc), (140, .int .i64 ((G.rs.length : Nat) : Int)), (141, .int .i64 ((q : Nat) : Int))]) (fun (q, na', nc', rs, oa', oc', os, fa', fc', fs) => [.row 22 1 (.slice na' q nc') q (rs.map rxv), .row 28 1 (.slice oa' q oc') q (os.map rxv), .row 9 1 (.slice fa' q fc') q (fs.map sv), .row 30 7 (vb b16) 1 [zn G.L, zn G.s, sv (G.init ++ P.getD G.s []), .slice na' q nc', .slice oa' q oc', .slice G.ea G.en.length G.ec, .slice fa' q fc'], .row 9 1 (.slice (some ⟨b36, 0, none⟩) G.rs.length G.rs.length) G.rs.length (P.map sv), .row 4 1 (.slice (some ⟨b38, 0, none⟩) G.rs.length G.rs.length) G.rs.length (K.map bo), .row 30 7 (vb b5) 1 (svc G), .row 30 7 (vb b2) 1 [.int .i64 0, .int .i64 0, .string ⟨#[]⟩, .slice none 0 0, .slice none 0 0, .slice none 0 0, .slice none 0 0], .row 30 7 (vb b1) 1 (svc S), .frag fG (svm G)] ++ (fam 3 zo rs ++ fam 9 sv os)) (fun (q, na', nc', rs, oa', oc', os, fa', fc', fs) => G.rs.length - q) (0, none, 0, [], none, 0, [], none, 0, []) ⟨Nat.zero_le _, NoR.start _⟩ ⟨rfl, rfl, rfl, rfl, rfl, rfl, rfl, rfl, trivial⟩ (HSub.refl _) (fun ⟨q, na', nc', rs, oa', oc', os, fa', fc', fs⟩ ⟨hq, hno⟩ K4 hK4 => ?_)
  dsimp only
  have hrl0 := hno.rl
  have hol0 := hno.ol
  have hfl0 := hno.fl
  refine CT.seq (CT.region ?_)
  refine Wl.q rfl rfl (OpQ.lss rfl rfl) ?_
  refine Wl.nil (PX.then_n (CT.seq ?_))
  refine CT.cond rfl (fun h142 => ?_) (fun h142 => ?_)
  ·
   have h142 := of_decide_eq_true h142
   have hqN : q < G.rs.length := by omega
   have hqn : q < G.sq.n := by rw [hgn]; exact hqN
   have hrl := hGo.rlen hqN
   have hol := hGo.olen hqN
   have hfl := (hGo.tf q hqn).1
   refine CT.skip (PX.then_n (CT.seq (CT.block (CT.seq (CT.region ?_)))))
   refine Wl.q rfl rfl (OpQ.move rfl) ?_
   refine Wl.q rfl rfl (OpQ.assign rfl) ?_
   refine Wl.nil (PX.then_n (CT.seq (CT.region ?_)))
   refine Wl.q rfl rfl (OpQ.assign rfl) ?_
   refine Wl.nil (PX.then_n (CT.seq (CT.seq (CT.region ?_))))
   refine Wl.q rfl rfl (OpQ.fieldAddr zf30 rfl) ?_
   refine Wl.q rfl rfl (OpQ.loadF (b := b5) zf31 rfl (by repeat (first | exact Has.here | apply Has.there)) (by rfl)) ?_
   refine Wl.q rfl rfl (OpQ.move rfl) ?_
   refine Wl.q rfl rfl (OpQ.index1 zf21 zf32 rfl rfl (by omega) (gnn.n (by omega))) ?_
   refine Wl.q rfl rfl (OpQ.loadG zf10 rfl (fun w hH => (hH.fragp (.there (.there (.there (.there (.there (.there (.there (.there (.there .here)))))))))).n) (getMap rxv G.rs rx0 (j := q) (by omega))) ?_
   refine Wl.q rfl rfl (OpQ.len zf0 rfl) ?_
   refine Wl.know 149 (v' := .int .i64 ((G.L : Nat) : Int)) rfl (congrArg (Value.int .i64) (by rw [hrl])) ?_
   refine Wl.q rfl rfl (OpQ.move rfl) ?_
   refine Wl.nil (PX.then_n (CT.block ?_))
   refine CT.nilrow 9 1 ?_
   refine CT.loop (ι := Nat × Option Addr × Nat × List Wd) (fun (x, wa, wc, ws) => x ≤ G.L ∧ ws = (List.range x).map ((normD G.sq P).o q)) (fun (x, wa, wc, ws) => [(2, .pointer (some ⟨b2, 0, none⟩)), (5, .pointer (some ⟨b5, 0, none⟩)), (7, .slice (some ⟨b36, 0, none⟩) G.rs.length G.rs.length), (16, .pointer (some ⟨b16, 0, none⟩)), (17, .bool false), (139, .slice G.na G.rs.length G.nc), (140, .int .i64 ((G.rs.length : Nat) : Int)), (141, .int .i64 ((q : Nat) : Int)), (18, .int .i64 ((q : Nat) : Int)), (19, .slice wa x wc), (148, rxv (G.rs.getD q rx0)), (149, .int .i64 ((G.L : Nat) : Int)), (150, .int .i64 ((x : Nat) : Int))]) (fun (x, wa, wc, ws) => [.row 9 1 (.slice wa x wc) x (ws.map sv), .row 22 1 (.slice na' q nc') q (rs.map rxv), .row 28 1 (.slice oa' q oc') q (os.map rxv), .row 9 1 (.slice fa' q fc') q (fs.map sv), .row 30 7 (vb b16) 1 [zn G.L, zn G.s, sv (G.init ++ P.getD G.s []), .slice na' q nc', .slice oa' q oc', .slice G.ea G.en.length G.ec, .slice fa' q fc'], .row 9 1 (.slice (some ⟨b36, 0, none⟩) G.rs.length G.rs.length) G.rs.length (P.map sv), .row 4 1 (.slice (some ⟨b38, 0, none⟩) G.rs.length G.rs.length) G.rs.length (K.map bo), .row 30 7 (vb b5) 1 (svc G), .row 30 7 (vb b2) 1 [.int .i64 0, .int .i64 0, .string ⟨#[]⟩, .slice none 0 0, .slice none 0 0, .slice none 0 0, .slice none 0 0], .row 30 7 (vb b1) 1 (svc S), .frag fG (svm G)] ++ (fam 3 zo rs ++ fam 9 sv os)) (fun (x, wa, wc, ws) => G.L - x) (0, none, 0, []) ⟨Nat.zero_le _, rfl⟩ ⟨rfl, rfl, rfl, rfl, rfl, rfl, rfl, rfl, rfl, rfl, rfl, rfl, rfl, trivial⟩ (HSub.refl _) (fun ⟨x, wa, wc, ws⟩ ⟨hx, hws⟩ K5 hK5 => ?_)
   dsimp only
   have hwl : ws.length = x := by rw [hws]; simp
   refine CT.seq (CT.region ?_)
   refine Wl.q rfl rfl (OpQ.lss rfl rfl) ?_
   refine Wl.nil (PX.then_n (CT.seq ?_))
   refine CT.cond rfl (fun h151 => ?_) (fun h151 => ?_)
   ·
    have h151 := of_decide_eq_true h151
    have hxL : x < G.L := by omega
    have hot := (hGo.to' q x hqn (show x < G.sq.L from hxL)).1
    refine CT.skip (PX.then_n (CT.seq (CT.block (CT.seq (CT.region ?_)))))
    refine Wl.q rfl rfl (OpQ.move rfl) ?_
    refine Wl.q rfl rfl (OpQ.index1 zf0 zf1 rfl rfl (by omega) (gnn.r q hqN (by omega))) ?_
    refine Wl.q rfl rfl (OpQ.loadG zf8 rfl (fun w hH => (hH.fragp (.there (.there (.there (.there (.there (.there (.there (.there (.there (.there .here))))))))))).r _ (getDm (d := rx0) (show q < G.rs.length by omega))) (getMap zo (G.rs.getD q rx0).xs none (j := x) (by omega))) ?_
    refine Wl.know 154 (v' := zo (G.sq.to q x)) rfl (congrArg zo (G.to_eq q x).symm) ?_
    refine Wl.q rfl rfl (OpQ.assign rfl) ?_
    refine Wl.q rfl rfl (OpQ.assign rfl) ?_
    refine Wl.nil (PX.then_n (CT.seq (CT.seq (CT.region ?_))))
    refine Wl.q rfl rfl (OpQ.move rfl) ?_
    refine Wl.q rfl rfl (OpQ.lss rfl rfl) ?_
    refine Wl.nil (PX.then_n ?_)
    refine CT.cond rfl (fun h156 => ?_) (fun h156 => ?_)
    ·
     have h156 := of_decide_eq_true h156
     have hno1 : G.sq.to q x = none := oi_neg.1 (by have := oi_ge (G.sq.to q x); omega)
     have hov : (normD G.sq P).o q x = [] := by rw [normD_o hqn (show x < G.sq.L from hxL), hno1]; exact hGo.no q x hqn hxL hno1
     refine CT.seq (CT.region ?_)
     refine Wl.q rfl rfl (OpQ.move rfl) ?_
     refine Wl.g rfl rfl (OpG.lit1 zf17 zf18 rfl rfl rfl) ?_
     rintro b158 _
     refine Wl.g rfl rfl (OpG.append zf17 zf18 (by rfl) (by decide) rfl rfl (p := 1) rfl (fun w hH => hH.rd .here) ⟨rfl, (by simp [Value.oneCell']), (by omega), (by omega)⟩ (nm := (x + 1)) rfl (all := (ws ++ [[]]).map sv) (by rw [List.map_append]; rfl)) ?_
     rintro ⟨a159, c159⟩ h159
     refine Wl.q rfl rfl (OpQ.assign rfl) ?_
     refine Wl.nil (PX.then_n (CT.exit (PX.then_x (PX.block_x (PX.then_n (CT.region ?_))))))
     refine Wl.q rfl rfl (OpQ.add rfl rfl (by omega)) ?_
     refine Wl.q rfl rfl (OpQ.move rfl) ?_
     refine Wl.nil ?_
     exact PX.loop hK5 (x + 1, a159, c159, ws ++ [[]]) ⟨by omega, by rw [rng_snoc, ← hws, hov]⟩ (show G.L - (x + 1) < G.L - x by omega) ⟨rfl, rfl, rfl, rfl, rfl, rfl, rfl, rfl, rfl, rfl, rfl, rfl, rfl, trivial⟩ (.drop (HSub.refl _))
    ·
     have h156 := of_decide_eq_false h156
     obtain ⟨r, hto⟩ := oi_some (show oi (G.sq.to q x) ≠ -1 by omega)
     have hr := hGo.lt q x r hqn (show x < G.sq.L from hxL) hto
     have hrn : r < G.rs.length := by rw [← hgn]; exact hr
     refine CT.know 21 (v' := zn r) rfl (by rw [hto]; rfl) ?_
     have hov : (normD G.sq P).o q x = (G.sq.o q x ++ P.getD r []).drop (P.getD q []).length := by rw [normD_o hqn (show x < G.sq.L from hxL), hto]
     have hdr1 := hdr q x r hqn hxL hto
     have hnl := (hNo.to' q x hqn (show x < G.sq.L from hxL)).1
     have hnl2 := Nat.le_trans hnl hGM1
     refine CT.skip (PX.then_n (CT.seq ?_))
     refine CT.draw 20 zf6 ?_
     refine RA.q 0 (by kernel_rfl) rfl rfl rfl (.refl _) (OpQ.fieldAddr zf34 rfl) ?_
     refine RA.q 1 (by kernel_rfl) rfl rfl rfl (.refl _) (OpQ.loadF (b := b5) zf35 rfl (by repeat (first | exact Has.here | apply Has.there)) (by rfl)) ?_
     refine RA.q 2 (by kernel_rfl) rfl rfl rfl (.refl _) (OpQ.move rfl) ?_
     refine RA.q 3 (by kernel_rfl) rfl rfl rfl (.refl _) (OpQ.index1 zf23 zf36 rfl rfl (by omega) (gnn.o (by omega))) ?_
     refine RA.q 4 (by kernel_rfl) rfl rfl rfl (.refl _) (OpQ.loadG zf37 rfl (fun w hH => (hH.fragp (.there (.there (.there (.there (.there (.there (.there (.there (.there (.there .here))))))))))).o) (getMap rxv G.os rx0 (j := q) (by omega))) ?_
     refine RA.q 5 (by kernel_rfl) rfl rfl rfl (.refl _) (OpQ.move rfl) ?_
     refine RA.q 6 (by kernel_rfl) rfl rfl rfl (.refl _) (OpQ.index1 zf17 zf38 rfl rfl (by omega) (gnn.u q (by omega) (by omega))) ?_
     refine RA.q 7 (by kernel_rfl) rfl rfl rfl (.refl _) (OpQ.loadG zf39 rfl (fun w hH => (hH.fragp (.there (.there (.there (.there (.there (.there (.there (.there (.there (.there .here))))))))))).u _ (getDm (d := rx0) (show q < G.os.length by omega))) (getMap sv (G.os.getD q rx0).xs [] (j := x) (by omega))) ?_
     refine RA.know 167 (v' := sv (G.sq.o q x)) rfl (congrArg sv (G.o_eq q x).symm) ?_
     refine RA.q 8 (by kernel_rfl) rfl rfl rfl (.refl _) (OpQ.move rfl) ?_
     refine RA.q 9 (by kernel_rfl) rfl rfl rfl (.refl _) (OpQ.move rfl) ?_
     refine RA.q 10 (by kernel_rfl) rfl rfl rfl (.refl _) (OpQ.index1 zf17 zf38 rfl rfl (by omega) rfl) ?_
     refine RA.q 11 (by kernel_rfl) rfl rfl rfl (.refl _) (OpQ.loadRow zf39 rfl (.there (.there (.there (.there (.there .here))))) (getMap sv P [] (j := r) (by omega))) ?_
     refine RA.q 12 (by kernel_rfl) rfl rfl rfl (.refl _) (OpQ.concat rfl rfl (by have := hPle r; omega)) ?_
     refine RA.q 13 (by kernel_rfl) rfl rfl rfl (.refl _) (OpQ.move rfl) ?_
     refine RA.q 14 (by kernel_rfl) rfl rfl rfl (.refl _) (OpQ.move rfl) ?_
     refine RA.q 15 (by kernel_rfl) rfl rfl rfl (.refl _) (OpQ.index1 zf17 zf38 rfl rfl (by omega) rfl) ?_
     refine RA.q 16 (by kernel_rfl) rfl rfl rfl (.refl _) (OpQ.loadRow zf39 rfl (.there (.there (.there (.there (.there .here))))) (getMap sv P [] (j := q) (by omega))) ?_
     refine RA.q 17 (by kernel_rfl) rfl rfl rfl (.refl _) (OpQ.lenSv zf4 rfl) ?_
     refine RA.q 18 (by kernel_rfl) rfl rfl rfl (.refl _) (OpQ.sliceSL zf4 rfl rfl hdr1) ?_
     refine RA.know 178 (v' := sv ((normD G.sq P).o q x)) rfl (congrArg sv hov.symm) ?_
     refine RA.q 19 (by kernel_rfl) rfl rfl rfl (.refl _) (OpQ.assign rfl) ?_
     refine RA.tail ?_
     refine RT.done (by kernel_rfl) ?_
     refine PX.then_n (CT.seq (CT.region ?_))
     refine Wl.q rfl rfl (OpQ.move rfl) ?_
     refine Wl.know 179 (v' := .bool false) rfl (congrArg Value.bool rfl) ?_
     refine Wl.q rfl rfl (OpQ.move rfl) ?_
     refine Wl.q rfl rfl (OpQ.move rfl) ?_
     refine Wl.q rfl rfl (OpQ.lenSv zf4 rfl) ?_
     refine Wl.q rfl rfl (OpQ.gtr rfl rfl) ?_
     refine Wl.know 183 (v' := .bool false) rfl (congrArg Value.bool (decide_eq_false (by omega))) ?_
     refine Wl.q rfl rfl (OpQ.pickF rfl rfl) ?_
     refine Wl.q rfl rfl (OpQ.assign rfl) ?_
     refine Wl.nil (PX.then_n (CT.region ?_))
     refine Wl.q rfl rfl (OpQ.move rfl) ?_
     refine Wl.q rfl rfl (OpQ.move rfl) ?_
     refine Wl.g rfl rfl (OpG.lit1 zf17 zf18 rfl rfl rfl) ?_
     rintro b187 _
     refine Wl.g rfl rfl (OpG.append zf17 zf18 (by rfl) (by decide) rfl rfl (p := 1) rfl (fun w hH => hH.rd .here) ⟨rfl, (by simp [Value.oneCell']), (by omega), (by omega)⟩ (nm := (x + 1)) rfl (all := (ws ++ [(normD G.sq P).o q x]).map sv) (by rw [List.map_append]; rfl)) ?_
     rintro ⟨a188, c188⟩ h188
     refine Wl.q rfl rfl (OpQ.assign rfl) ?_
     refine Wl.nil (PX.block_n (PX.then_n (CT.region ?_)))
     refine Wl.q rfl rfl (OpQ.add rfl rfl (by omega)) ?_
     refine Wl.q rfl rfl (OpQ.move rfl) ?_
     refine Wl.nil ?_
     exact PX.loop hK5 (x + 1, a188, c188, ws ++ [(normD G.sq P).o q x]) ⟨by omega, by rw [rng_snoc, ← hws]⟩ (show G.L - (x + 1) < G.L - x by omega) ⟨rfl, rfl, rfl, rfl, rfl, rfl, rfl, rfl, rfl, rfl, rfl, rfl, rfl, trivial⟩ (.drop (HSub.refl _))
   ·
    have h151 := of_decide_eq_false h151
    obtain rfl : x = G.L := by omega
    have hw19 : rxv (⟨wa, wc, ws⟩ : Rx Wd) = .slice wa G.L wc := by show Value.slice _ ws.length _ = _; rw [hwl]
    refine CT.as (fun _ h => HOk.rot (A := [_]) (B := [_, _, _]) h) ?_
    refine CT.exit (PX.then_x (PX.then_x (PX.block_x (PX.then_n (CT.seq (CT.region ?_))))))
    refine Wl.q rfl rfl (OpQ.assign rfl) ?_
    refine Wl.nil (PX.then_n ?_)
    refine CT.cut (ι := Wd) (Φ := fun fv => fv = (normD G.sq P).f q) (E' := fun fv => [(2, .pointer (some ⟨b2, 0, none⟩)), (5, .pointer (some ⟨b5, 0, none⟩)), (7, .slice (some ⟨b36, 0, none⟩) G.rs.length G.rs.length), (16, .pointer (some ⟨b16, 0, none⟩)), (17, .bool false), (139, .slice G.na G.rs.length G.nc), (140, .int .i64 ((G.rs.length : Nat) : Int)), (141, .int .i64 ((q : Nat) : Int)), (18, .int .i64 ((q : Nat) : Int)), (19, .slice wa G.L wc), (23, sv fv)]) (H' := fun fv => [.row 22 1 (.slice na' q nc') q (rs.map rxv), .row 28 1 (.slice oa' q oc') q (os.map rxv), .row 9 1 (.slice fa' q fc') q (fs.map sv), .row 9 1 (.slice wa G.L wc) G.L (ws.map sv), .row 30 7 (vb b16) 1 [zn G.L, zn G.s, sv (G.init ++ P.getD G.s []), .slice na' q nc', .slice oa' q oc', .slice G.ea G.en.length G.ec, .slice fa' q fc'], .row 9 1 (.slice (some ⟨b36, 0, none⟩) G.rs.length G.rs.length) G.rs.length (P.map sv), .row 4 1 (.slice (some ⟨b38, 0, none⟩) G.rs.length G.rs.length) G.rs.length (K.map bo), .row 30 7 (vb b5) 1 (svc G), .row 30 7 (vb b2) 1 [.int .i64 0, .int .i64 0, .string ⟨#[]⟩, .slice none 0 0, .slice none 0 0, .slice none 0 0, .slice none 0 0], .row 30 7 (vb b1) 1 (svc S), .frag fG (svm G)] ++ (fam 3 zo rs ++ fam 9 sv os)) (fun K6 hK6 => ?_) (fun fv hfv => ?_)
    ·
     refine CT.seq (CT.region ?_)
     refine Wl.q rfl rfl (OpQ.fieldAddr zf42 rfl) ?_
     refine Wl.q rfl rfl (OpQ.loadF (b := b5) zf43 rfl (by repeat (first | exact Has.here | apply Has.there)) (by rfl)) ?_
     refine Wl.q rfl rfl (OpQ.move rfl) ?_
     refine Wl.q rfl rfl (OpQ.index1 zf25 zf44 rfl rfl (by omega) (gnn.e (by omega))) ?_
     refine Wl.q rfl rfl (OpQ.loadG zf45 rfl (fun w hH => (hH.fragp (.there (.there (.there (.there (.there (.there (.there (.there (.there (.there .here))))))))))).e) (getMap bo G.en false (j := q) (by omega))) ?_
     refine Wl.know 194 (v' := .bool (G.sq.e q)) rfl rfl ?_
     refine Wl.nil (PX.then_n ?_)
     refine CT.cond rfl (fun h194 => ?_) (fun h194 => ?_)
     ·
      have hdf1 := hdf q hqn h194
      have hfv0 : (normD G.sq P).f q = (G.sq.f q).drop (P.getD q []).length := by rw [normD_f hqn, if_pos h194]
      refine CT.draw 12 zf6 ?_
      refine RA.q 0 (by kernel_rfl) rfl rfl rfl (.refl _) (OpQ.fieldAddr zf41 rfl) ?_
      refine RA.q 1 (by kernel_rfl) rfl rfl rfl (.refl _) (OpQ.loadF (b := b5) zf37 rfl (by repeat (first | exact Has.here | apply Has.there)) (by rfl)) ?_
      refine RA.q 2 (by kernel_rfl) rfl rfl rfl (.refl _) (OpQ.move rfl) ?_
      refine RA.q 3 (by kernel_rfl) rfl rfl rfl (.refl _) (OpQ.index1 zf17 zf38 rfl rfl (by omega) (gnn.f (by omega))) ?_
      refine RA.q 4 (by kernel_rfl) rfl rfl rfl (.refl _) (OpQ.loadG zf39 rfl (fun w hH => (hH.fragp (.there (.there (.there (.there (.there (.there (.there (.there (.there (.there .here))))))))))).f) (getMap sv G.fi [] (j := q) (by omega))) ?_
      refine RA.know 199 (v' := sv (G.sq.f q)) rfl rfl ?_
      refine RA.q 5 (by kernel_rfl) rfl rfl rfl (.refl _) (OpQ.move rfl) ?_
      refine RA.q 6 (by kernel_rfl) rfl rfl rfl (.refl _) (OpQ.move rfl) ?_
      refine RA.q 7 (by kernel_rfl) rfl rfl rfl (.refl _) (OpQ.index1 zf17 zf38 rfl rfl (by omega) rfl) ?_
      refine RA.q 8 (by kernel_rfl) rfl rfl rfl (.refl _) (OpQ.loadRow zf39 rfl (.there (.there (.there (.there (.there .here))))) (getMap sv P [] (j := q) (by omega))) ?_
      refine RA.q 9 (by kernel_rfl) rfl rfl rfl (.refl _) (OpQ.lenSv zf4 rfl) ?_
      refine RA.q 10 (by kernel_rfl) rfl rfl rfl (.refl _) (OpQ.sliceSL zf4 rfl rfl hdf1) ?_
      refine RA.q 11 (by kernel_rfl) rfl rfl rfl (.refl _) (OpQ.assign rfl) ?_
      refine RA.tail ?_
      refine RT.done (by kernel_rfl) ?_
      exact PX.cut hK6 ((G.sq.f q).drop (P.getD q []).length) hfv0.symm ⟨rfl, rfl, rfl, rfl, rfl, rfl, rfl, rfl, rfl, rfl, rfl, trivial⟩ (HSub.refl _)
     ·
      have hfv0 : (normD G.sq P).f q = [] := by rw [normD_f hqn, if_neg (by rw [show G.sq.e q = false from h194]; decide)]; exact hGo.nf q hqn h194
      refine CT.skip ?_
      exact PX.cut hK6 [] hfv0.symm ⟨rfl, rfl, rfl, rfl, rfl, rfl, rfl, rfl, rfl, rfl, rfl, trivial⟩ (HSub.refl _)
    ·
     refine CT.draw' (Hc := [.row 9 1 (.slice wa G.L wc) G.L (ws.map sv), .row 30 7 (vb b16) 1 [zn G.L, zn G.s, sv (G.init ++ P.getD G.s []), .slice na' q nc', .slice oa' q oc', .slice G.ea G.en.length G.ec, .slice fa' q fc'], .row 9 1 (.slice (some ⟨b36, 0, none⟩) G.rs.length G.rs.length) G.rs.length (P.map sv), .row 4 1 (.slice (some ⟨b38, 0, none⟩) G.rs.length G.rs.length) G.rs.length (K.map bo), .row 30 7 (vb b5) 1 (svc G), .row 30 7 (vb b2) 1 [.int .i64 0, .int .i64 0, .string ⟨#[]⟩, .slice none 0 0, .slice none 0 0, .slice none 0 0, .slice none 0 0], .row 30 7 (vb b1) 1 (svc S), .frag fG (svm G)] ++ (fam 3 zo rs ++ fam 9 sv os)) 22 zf6 ?_
     refine RA.q 0 (by kernel_rfl) rfl rfl rfl (.cons _ (.cons _ (.cons _ (.refl _)))) (OpQ.fieldAddr zf30 rfl) ?_
     refine RA.q 1 (by kernel_rfl) rfl rfl rfl (.cons _ (.cons _ (.cons _ (.refl _)))) (OpQ.loadF (b := b16) zf31 rfl (by repeat (first | exact Has.here | apply Has.there)) (by rfl)) ?_
     refine RA.q 3 (by kernel_rfl) rfl rfl rfl (.cons _ (.cons _ (.cons _ (.refl _)))) (OpQ.fieldAddr zf30 rfl) ?_
     refine RA.q 4 (by kernel_rfl) rfl rfl rfl (.cons _ (.cons _ (.cons _ (.refl _)))) (OpQ.loadF (b := b5) zf31 rfl (by repeat (first | exact Has.here | apply Has.there)) (by rfl)) ?_
     refine RA.q 5 (by kernel_rfl) rfl rfl rfl (.cons _ (.cons _ (.cons _ (.refl _)))) (OpQ.move rfl) ?_
     refine RA.q 6 (by kernel_rfl) rfl rfl rfl (.cons _ (.cons _ (.cons _ (.refl _)))) (OpQ.index1 zf21 zf32 rfl rfl (by omega) (gnn.n (by omega))) ?_
     refine RA.q 7 (by kernel_rfl) rfl rfl rfl (.cons _ (.cons _ (.cons _ (.refl _)))) (OpQ.loadG zf10 rfl (fun w hH => (hH.fragp (.there (.there (.there (.there (.there (.there (.there .here)))))))).n) (getMap rxv G.rs rx0 (j := q) (by omega))) ?_
     refine RA.q 11 (by kernel_rfl) rfl rfl rfl (.cons _ (.cons _ (.cons _ (.refl _)))) (OpQ.fieldAddr zf34 rfl) ?_
     refine RA.q 12 (by kernel_rfl) rfl rfl rfl (.cons _ (.cons _ (.cons _ (.refl _)))) (OpQ.loadF (b := b16) zf35 rfl (by repeat (first | exact Has.here | apply Has.there)) (by rfl)) ?_
     refine RA.q 13 (by kernel_rfl) rfl rfl rfl (.cons _ (.cons _ (.cons _ (.refl _)))) (OpQ.move rfl) ?_
     refine RA.q 16 (by kernel_rfl) rfl rfl rfl (.cons _ (.cons _ (.cons _ (.refl _)))) (OpQ.fieldAddr zf41 rfl) ?_
     refine RA.q 17 (by kernel_rfl) rfl rfl rfl (.cons _ (.cons _ (.cons _ (.refl _)))) (OpQ.loadF (b := b16) zf37 rfl (by repeat (first | exact Has.here | apply Has.there)) (by rfl)) ?_
     refine RA.q 18 (by kernel_rfl) rfl rfl rfl (.cons _ (.cons _ (.cons _ (.refl _)))) (OpQ.move rfl) ?_
     refine RA.three 2 14 19 (by kernel_rfl) rfl rfl rfl (OpG.lit0 zf0 zf16 rfl) (fun _ _ => (.cons _ (.cons _ (.cons _ (.cons _ (.refl _)))))) rfl rfl rfl (OpG.lit1 zf23 zf24 rfl rfl rfl) (fun _ _ => (.cons _ (.cons _ (.cons _ (.cons _ (.refl _)))))) rfl rfl rfl (OpG.lit1 zf17 zf18 rfl rfl rfl) (fun _ _ => (.cons _ (.cons _ (.cons _ (.cons _ (.refl _)))))) ?_ ?_ ?_
     ·
      rintro b208 _
      refine RA.as (fun _ h => HOk.takeA (A := [_, _, _, _]) h (.cons .here (.cons .here (.cons .here (.cons .here .nil))))) ?_
      refine RA.as (L := [dmy, dmy, dmy, dmy, .row 3 1 (.slice (some ⟨b208, 0, none⟩) 0 0) 0 [], .row 22 1 (.slice na' q nc') q (rs.map rxv), .row 28 1 (.slice oa' q oc') q (os.map rxv), .row 9 1 (.slice fa' q fc') q (fs.map sv)] ++ ([.row 9 1 (.slice wa G.L wc) G.L (ws.map sv), .row 30 7 (vb b16) 1 [zn G.L, zn G.s, sv (G.init ++ P.getD G.s []), .slice na' q nc', .slice oa' q oc', .slice G.ea G.en.length G.ec, .slice fa' q fc'], .row 9 1 (.slice (some ⟨b36, 0, none⟩) G.rs.length G.rs.length) G.rs.length (P.map sv), .row 4 1 (.slice (some ⟨b38, 0, none⟩) G.rs.length G.rs.length) G.rs.length (K.map bo), .row 30 7 (vb b5) 1 (svc G), .row 30 7 (vb b2) 1 [.int .i64 0, .int .i64 0, .string ⟨#[]⟩, .slice none 0 0, .slice none 0 0, .slice none 0 0, .slice none 0 0], .row 30 7 (vb b1) 1 (svc S), .frag fG (svm G)] ++ (fam 3 zo rs ++ fam 9 sv os))) (fun _ h => h.dmy 4) ?_
      refine RA.many (it := fun | 8 => Itm.own 214 4 8 [] (fun pl => .slice pl.1 G.L pl.2) (fun pl => .row 3 1 (.slice pl.1 G.L pl.2) G.L ((G.rs.getD q rx0).xs.map zo)) (fun pl => G.L ≠ 0 → pl.1.isSome = true) | 9 => ⟨215, 0, [8], fun g => .slice (some ⟨(g 9).2, 0, none⟩) 1 1, fun g => .row 22 1 (.slice (some ⟨(g 9).2, 0, none⟩) 1 1) 1 [Value.slice (g 8).1 G.L (g 8).2], fun _ => True⟩ | 10 => ⟨216, 5, [8, 9], fun g => .slice (g 10).1 (q + 1) (g 10).2, fun g => .row 22 1 (.slice (g 10).1 (q + 1) (g 10).2) (q + 1) (rs.map rxv ++ [Value.slice (g 8).1 G.L (g 8).2]), fun g => q + 1 ≠ 0 → (g 10).1.isSome = true⟩ | 14 => Itm.new 220 1 14 (fun b => .slice (some ⟨b, 0, none⟩) 1 1) (fun b => .row 28 1 (.slice (some ⟨b, 0, none⟩) 1 1) 1 [.slice wa G.L wc]) | 15 => Itm.own 221 6 15 [10, 14] (fun pl => .slice pl.1 (q + 1) pl.2) (fun pl => .row 28 1 (.slice pl.1 (q + 1) pl.2) (q + 1) ((os ++ [(⟨wa, wc, ws⟩ : Rx Wd)]).map rxv)) (fun pl => q + 1 ≠ 0 → pl.1.isSome = true) | 19 => Itm.new 225 2 19 (fun b => .slice (some ⟨b, 0, none⟩) 1 1) (fun b => .row 9 1 (.slice (some ⟨b, 0, none⟩) 1 1) 1 [sv fv]) | 20 => Itm.own 226 7 20 [15, 19] (fun pl => .slice pl.1 (q + 1) pl.2) (fun pl => .row 9 1 (.slice pl.1 (q + 1) pl.2) (q + 1) ((fs ++ [fv]).map sv)) (fun pl => q + 1 ≠ 0 → pl.1.isSome = true) | 21 => ⟨227, 3, [8, 9, 10], fun g => .pointer (some ((⟨b16, 0, none⟩ : Addr).add 3)), fun _ => dmy, fun _ => True⟩ | _ => Itm.none) (A := [dmy, dmy, dmy, dmy, .row 3 1 (.slice (some ⟨b208, 0, none⟩) 0 0) 0 [], .row 22 1 (.slice na' q nc') q (rs.map rxv), .row 28 1 (.slice oa' q oc') q (os.map rxv), .row 9 1 (.slice fa' q fc') q (fs.map sv)]) [8, 9, 10, 14, 15, 19, 20, 21] 8 rfl (by kernel_rfl) rfl (all_cons Itm.loc_own (all_cons (Itm.loc_newD (V0 := fun b => .slice (some ⟨b, 0, none⟩) 1 1) (X0 := fun g b => .row 22 1 (.slice (some ⟨b, 0, none⟩) 1 1) 1 [Value.slice (g 8).1 G.L (g 8).2]) (fun g g' h => by funext b; simp only [h 8 (.head _)])) (all_cons (Itm.loc_ownD (V0 := fun pl => .slice pl.1 (q + 1) pl.2) (X0 := fun g pl => .row 22 1 (.slice pl.1 (q + 1) pl.2) (q + 1) (rs.map rxv ++ [Value.slice (g 8).1 G.L (g 8).2])) (Φ0 := fun pl => q + 1 ≠ 0 → pl.1.isSome = true) (fun g g' h => by funext b; simp only [h 8 (.head _)])) (all_cons Itm.loc_new (all_cons Itm.loc_own (all_cons Itm.loc_new (all_cons Itm.loc_own (all_cons (fun g g' h => ⟨rfl, rfl, fun h => h⟩) all_nil)))))))) (all_cons (Good.own rfl rfl (fun D g hD hd => OpG.append zf0 zf16 (by rfl) (by decide) (ev_base rfl rfl hD) (ev_base rfl rfl hD) (p := 4) (mk_base rfl (.head _) hD rfl rfl) (fun w hH => (hH.fragAt (mk_free (p := 15) rfl hD rfl)).r _ (getDm (d := rx0) hqN)) ⟨(by rw [List.length_map, Nat.mul_one]), (ones_map (fun _ => rfl) _), (by omega), (by omega)⟩ (nm := G.L) (by rw [hrl, Nat.zero_add]) (all := (G.rs.getD q rx0).xs.map zo) rfl)) (all_cons (Good.newD rfl rfl (Nat.lt_of_lt_of_le (by decide) (Nat.le_add_left 4 _)) (fun g g' h => by funext b; simp only [h 8 (.head _)]) rfl (fun D g hD hd => OpG.lit1 zf21 zf22 rfl (ev_dep rfl hD (hd 8 (.head _)) rfl rfl) rfl)) (all_cons (Good.ownD rfl rfl (fun g g' h => by funext b; simp only [h 8 (.head _)]) rfl (fun D g hD hd => OpG.append zf21 zf22 (by rfl) (by decide) (ev_base rfl rfl hD) (ev_dep rfl hD (hd 9 (.tail _ (.head _))) rfl rfl) (p := 5) (mk_base rfl (.tail _ (.tail _ (.head _))) hD rfl rfl) (fun w hH => hH.rdAt (mk_at (p := 0) rfl hD (hd 9 (.tail _ (.head _))) rfl rfl (by exact (Nat.succ_pos _)))) ⟨rfl, (by simp [Value.oneCell']), (by omega), (by omega)⟩ (nm := q + 1) rfl (all := (rs.map rxv ++ [Value.slice (g 8).1 G.L (g 8).2])) rfl)) (all_cons (Good.new' rfl rfl (Nat.lt_of_lt_of_le (by decide) (Nat.le_add_left 4 _)) (fun D g hD => OpG.lit1 zf23 zf24 rfl (ev_base rfl rfl hD) rfl)) (all_cons (Good.own rfl rfl (fun D g hD hd => OpG.append zf23 zf24 (by rfl) (by decide) (ev_base rfl rfl hD) (ev_dep rfl hD (hd 14 (.tail _ (.head _))) rfl rfl) (p := 6) (mk_base rfl (.tail _ (.tail _ (.tail _ (.tail _ (.head _))))) hD rfl rfl) (fun w hH => hH.rdAt (mk_at (p := 1) rfl hD (hd 14 (.tail _ (.head _))) rfl rfl (by exact (Nat.succ_lt_succ (Nat.succ_pos _))))) ⟨rfl, (by simp [Value.oneCell']), (by omega), (by omega)⟩ (nm := q + 1) rfl (all := (os ++ [(⟨wa, wc, ws⟩ : Rx Wd)]).map rxv) (by rw [List.map_append, List.map_singleton, hw19]))) (all_cons (Good.new' rfl rfl (Nat.lt_of_lt_of_le (by decide) (Nat.le_add_left 4 _)) (fun D g hD => OpG.lit1 zf17 zf18 rfl (ev_base rfl rfl hD) rfl)) (all_cons (Good.own rfl rfl (fun D g hD hd => OpG.append zf17 zf18 (by rfl) (by decide) (ev_base rfl rfl hD) (ev_dep rfl hD (hd 19 (.tail _ (.head _))) rfl rfl) (p := 7) (mk_base rfl (.tail _ (.tail _ (.tail _ (.tail _ (.tail _ (.tail _ (.head _))))))) hD rfl rfl) (fun w hH => hH.rdAt (mk_at (p := 2) rfl hD (hd 19 (.tail _ (.head _))) rfl rfl (by exact (Nat.succ_lt_succ (Nat.succ_lt_succ (Nat.succ_pos _)))))) ⟨rfl, (by simp [Value.oneCell']), (by omega), (by omega)⟩ (nm := q + 1) rfl (all := (fs ++ [fv]).map sv) (by rw [List.map_append]; rfl))) (all_cons (Good.quiet rfl (fun _ => rfl) rfl (.tail _ (.tail _ (.tail _ (.tail _ (.tail _ (.tail _ (.tail _ (.head _)))))))) (fun _ => trivial) (fun g g' h => rfl) (fun D g hD hd => OpQ.fieldAddr zf30 (ev_base rfl rfl hD)) rfl) all_nil)))))))) (fun g _ => ?_)
      show RA _ _ _ _ _ _ _ ((214, Value.slice (g 8).1 G.L (g 8).2) :: (215, .slice (some ⟨(g 9).2, 0, none⟩) 1 1) :: (216, .slice (g 10).1 (q + 1) (g 10).2) :: (220, .slice (some ⟨(g 14).2, 0, none⟩) 1 1) :: (221, .slice (g 15).1 (q + 1) (g 15).2) :: (225, .slice (some ⟨(g 19).2, 0, none⟩) 1 1) :: (226, .slice (g 20).1 (q + 1) (g 20).2) :: (227, .pointer (some ((⟨b16, 0, none⟩ : Addr).add 3))) :: _) ([.row 22 1 (.slice (some ⟨(g 9).2, 0, none⟩) 1 1) 1 [Value.slice (g 8).1 G.L (g 8).2], .row 28 1 (.slice (some ⟨(g 14).2, 0, none⟩) 1 1) 1 [.slice wa G.L wc], .row 9 1 (.slice (some ⟨(g 19).2, 0, none⟩) 1 1) 1 [sv fv], dmy, .row 3 1 (.slice (g 8).1 G.L (g 8).2) G.L ((G.rs.getD q rx0).xs.map zo), .row 22 1 (.slice (g 10).1 (q + 1) (g 10).2) (q + 1) (rs.map rxv ++ [Value.slice (g 8).1 G.L (g 8).2]), .row 28 1 (.slice (g 15).1 (q + 1) (g 15).2) (q + 1) ((os ++ [(⟨wa, wc, ws⟩ : Rx Wd)]).map rxv), .row 9 1 (.slice (g 20).1 (q + 1) (g 20).2) (q + 1) ((fs ++ [fv]).map sv)] ++ ([.row 9 1 (.slice wa G.L wc) G.L (ws.map sv), .row 30 7 (vb b16) 1 [zn G.L, zn G.s, sv (G.init ++ P.getD G.s []), .slice na' q nc', .slice oa' q oc', .slice G.ea G.en.length G.ec, .slice fa' q fc'], .row 9 1 (.slice (some ⟨b36, 0, none⟩) G.rs.length G.rs.length) G.rs.length (P.map sv), .row 4 1 (.slice (some ⟨b38, 0, none⟩) G.rs.length G.rs.length) G.rs.length (K.map bo), .row 30 7 (vb b5) 1 (svc G), .row 30 7 (vb b2) 1 [.int .i64 0, .int .i64 0, .string ⟨#[]⟩, .slice none 0 0, .slice none 0 0, .slice none 0 0, .slice none 0 0], .row 30 7 (vb b1) 1 (svc S), .frag fG (svm G)] ++ (fam 3 zo rs ++ fam 9 sv os)))
      generalize (g 8).1 = a214
      generalize (g 8).2 = c214
      generalize (g 10).1 = a216
      generalize (g 10).2 = c216
      generalize (g 15).1 = a221
      generalize (g 15).2 = c221
      generalize (g 20).1 = a226
      generalize (g 20).2 = c226
      refine RA.as (fun _ h => HOk.takeA (A := [_, _, _, _, _, _, _, _]) h (.cons (.there (.there (.there (.there .here)))) (.cons (.there (.there (.there (.there .here)))) (.cons (.there (.there (.there (.there .here)))) (.cons (.there (.there (.there (.there .here)))) .nil))))) ?_
      refine RA.tail ?_
      refine RT.f 22 (by kernel_rfl) rfl rfl rfl (OpG.storeRow (a := some ⟨b16, 0, none⟩) zf63 rfl rfl rfl (by repeat (first | exact Upd.here | apply Upd.there)) (by simp)) ?_
      rintro _ _
      refine RT.q 23 (by kernel_rfl) rfl rfl rfl (OpQ.fieldAddr zf34 rfl) ?_
      refine RT.f 24 (by kernel_rfl) rfl rfl rfl (OpG.storeRow (a := some ⟨b16, 0, none⟩) zf64 rfl rfl rfl (by repeat (first | exact Upd.here | apply Upd.there)) (by simp)) ?_
      rintro _ _
      refine RT.q 25 (by kernel_rfl) rfl rfl rfl (OpQ.fieldAddr zf41 rfl) ?_
      refine RT.f 26 (by kernel_rfl) rfl rfl rfl (OpG.storeRow (a := some ⟨b16, 0, none⟩) zf36 rfl rfl rfl (by repeat (first | exact Upd.here | apply Upd.there)) (by simp)) ?_
      rintro _ _
      refine RT.done (by kernel_rfl) ?_
      refine PX.block_n (PX.then_n (CT.region ?_))
      refine Wl.q rfl rfl (OpQ.add rfl rfl (by omega)) ?_
      refine Wl.q rfl rfl (OpQ.move rfl) ?_
      refine Wl.nil ?_
      refine PX.as (fun _ h => HOk.takeA (A := [_, _, _, _, _, _, _, _, _, _, _, _]) h (.cons .here (.cons (.there (.there (.there .here))) (.cons .here (.cons .here (.cons .here (.cons .here (.cons .here (.cons .here (.cons .here (.cons .here (.cons .here (.cons .here .nil))))))))))))) ?_
      refine PX.mem (H' := [rch 3 zo (⟨a214, c214, (G.rs.getD q rx0).xs⟩ : Rx (Option Nat)), rch 9 sv (⟨wa, wc, ws⟩ : Rx Wd), .row 22 1 (.slice a216 (q + 1) c216) (q + 1) ((rs ++ [(⟨a214, c214, (G.rs.getD q rx0).xs⟩ : Rx (Option Nat))]).map rxv), .row 28 1 (.slice a221 (q + 1) c221) (q + 1) ((os ++ [(⟨wa, wc, ws⟩ : Rx Wd)]).map rxv), .row 9 1 (.slice a226 (q + 1) c226) (q + 1) ((fs ++ [fv]).map sv), .row 30 7 (vb b16) 1 [zn G.L, zn G.s, sv (G.init ++ P.getD G.s []), .slice a216 (q + 1) c216, .slice a221 (q + 1) c221, .slice G.ea G.en.length G.ec, .slice a226 (q + 1) c226], .row 9 1 (.slice (some ⟨b36, 0, none⟩) G.rs.length G.rs.length) G.rs.length (P.map sv), .row 4 1 (.slice (some ⟨b38, 0, none⟩) G.rs.length G.rs.length) G.rs.length (K.map bo), .row 30 7 (vb b5) 1 (svc G), .row 30 7 (vb b2) 1 [.int .i64 0, .int .i64 0, .string ⟨#[]⟩, .slice none 0 0, .slice none 0 0, .slice none 0 0, .slice none 0 0], .row 30 7 (vb b1) 1 (svc S), .frag fG (svm G)] ++ (fam 3 zo rs ++ fam 9 sv os)) (.keep (by show Chunk.row _ _ (.slice _ (G.rs.getD q rx0).xs.length _) (G.rs.getD q rx0).xs.length _ = _; rw [hrl]) (.keep (by show Chunk.row _ _ (.slice _ ws.length _) ws.length _ = _; rw [hwl]) (.keep (row_eq (by rw [List.map_append, List.map_singleton, show rxv (⟨a214, c214, (G.rs.getD q rx0).xs⟩ : Rx (Option Nat)) = .slice a214 G.L c214 from by show Value.slice _ (G.rs.getD q rx0).xs.length _ = _; rw [hrl]])) (HSub.refl _)))) ?_
      refine PX.as (fun _ h => HOk.fam2 (r := (⟨a214, c214, (G.rs.getD q rx0).xs⟩ : Rx (Option Nat))) (o := (⟨wa, wc, ws⟩ : Rx Wd)) (A := [.row 22 1 (.slice a216 (q + 1) c216) (q + 1) ((rs ++ [(⟨a214, c214, (G.rs.getD q rx0).xs⟩ : Rx (Option Nat))]).map rxv), .row 28 1 (.slice a221 (q + 1) c221) (q + 1) ((os ++ [(⟨wa, wc, ws⟩ : Rx Wd)]).map rxv), .row 9 1 (.slice a226 (q + 1) c226) (q + 1) ((fs ++ [fv]).map sv), .row 30 7 (vb b16) 1 [zn G.L, zn G.s, sv (G.init ++ P.getD G.s []), .slice a216 (q + 1) c216, .slice a221 (q + 1) c221, .slice G.ea G.en.length G.ec, .slice a226 (q + 1) c226], .row 9 1 (.slice (some ⟨b36, 0, none⟩) G.rs.length G.rs.length) G.rs.length (P.map sv), .row 4 1 (.slice (some ⟨b38, 0, none⟩) G.rs.length G.rs.length) G.rs.length (K.map bo), .row 30 7 (vb b5) 1 (svc G), .row 30 7 (vb b2) 1 [.int .i64 0, .int .i64 0, .string ⟨#[]⟩, .slice none 0 0, .slice none 0 0, .slice none 0 0, .slice none 0 0], .row 30 7 (vb b1) 1 (svc S), .frag fG (svm G)]) h) ?_
      exact PX.loop hK4 (q + 1, a216, c216, rs ++ [(⟨a214, c214, (G.rs.getD q rx0).xs⟩ : Rx (Option Nat))], a221, c221, os ++ [(⟨wa, wc, ws⟩ : Rx Wd)], a226, c226, fs ++ [fv]) ⟨by omega, hno.snoc (rx_getD G.rs q).symm hws hfv⟩ (show G.rs.length - (q + 1) < G.rs.length - q by omega) ⟨rfl, rfl, rfl, rfl, rfl, rfl, rfl, rfl, trivial⟩ (HSub.refl _)
     ·
      rintro b220 _
      refine RA.two 2 19 (by kernel_rfl) rfl rfl rfl (OpG.lit0 zf0 zf16 rfl) (fun _ _ => (.cons _ (.cons _ (.cons _ (.cons _ (.cons _ (.refl _))))))) rfl rfl rfl (OpG.lit1 zf17 zf18 rfl rfl rfl) (fun _ _ => (.cons _ (.cons _ (.cons _ (.cons _ (.cons _ (.refl _))))))) ?_ ?_
      ·
       rintro b208 _
       refine RA.as (fun _ h => HOk.takeA (A := [_, _, _, _, _]) h (.cons .here (.cons (.there .here) (.cons (.there .here) (.cons (.there .here) (.cons .here .nil)))))) ?_
       refine RA.as (L := [dmy, dmy, dmy, .row 3 1 (.slice (some ⟨b208, 0, none⟩) 0 0) 0 [], .row 22 1 (.slice na' q nc') q (rs.map rxv), .row 28 1 (.slice oa' q oc') q (os.map rxv), .row 9 1 (.slice fa' q fc') q (fs.map sv), .row 28 1 (.slice (some ⟨b220, 0, none⟩) 1 1) 1 [.slice wa G.L wc]] ++ ([.row 9 1 (.slice wa G.L wc) G.L (ws.map sv), .row 30 7 (vb b16) 1 [zn G.L, zn G.s, sv (G.init ++ P.getD G.s []), .slice na' q nc', .slice oa' q oc', .slice G.ea G.en.length G.ec, .slice fa' q fc'], .row 9 1 (.slice (some ⟨b36, 0, none⟩) G.rs.length G.rs.length) G.rs.length (P.map sv), .row 4 1 (.slice (some ⟨b38, 0, none⟩) G.rs.length G.rs.length) G.rs.length (K.map bo), .row 30 7 (vb b5) 1 (svc G), .row 30 7 (vb b2) 1 [.int .i64 0, .int .i64 0, .string ⟨#[]⟩, .slice none 0 0, .slice none 0 0, .slice none 0 0, .slice none 0 0], .row 30 7 (vb b1) 1 (svc S), .frag fG (svm G)] ++ (fam 3 zo rs ++ fam 9 sv os))) (fun _ h => h.dmy 3) ?_
       refine RA.many (it := fun | 8 => Itm.own 214 3 8 [] (fun pl => .slice pl.1 G.L pl.2) (fun pl => .row 3 1 (.slice pl.1 G.L pl.2) G.L ((G.rs.getD q rx0).xs.map zo)) (fun pl => G.L ≠ 0 → pl.1.isSome = true) | 9 => ⟨215, 0, [8], fun g => .slice (some ⟨(g 9).2, 0, none⟩) 1 1, fun g => .row 22 1 (.slice (some ⟨(g 9).2, 0, none⟩) 1 1) 1 [Value.slice (g 8).1 G.L (g 8).2], fun _ => True⟩ | 10 => ⟨216, 4, [8, 9], fun g => .slice (g 10).1 (q + 1) (g 10).2, fun g => .row 22 1 (.slice (g 10).1 (q + 1) (g 10).2) (q + 1) (rs.map rxv ++ [Value.slice (g 8).1 G.L (g 8).2]), fun g => q + 1 ≠ 0 → (g 10).1.isSome = true⟩ | 15 => Itm.own 221 5 15 [10] (fun pl => .slice pl.1 (q + 1) pl.2) (fun pl => .row 28 1 (.slice pl.1 (q + 1) pl.2) (q + 1) ((os ++ [(⟨wa, wc, ws⟩ : Rx Wd)]).map rxv)) (fun pl => q + 1 ≠ 0 → pl.1.isSome = true) | 19 => Itm.new 225 1 19 (fun b => .slice (some ⟨b, 0, none⟩) 1 1) (fun b => .row 9 1 (.slice (some ⟨b, 0, none⟩) 1 1) 1 [sv fv]) | 20 => Itm.own 226 6 20 [15, 19] (fun pl => .slice pl.1 (q + 1) pl.2) (fun pl => .row 9 1 (.slice pl.1 (q + 1) pl.2) (q + 1) ((fs ++ [fv]).map sv)) (fun pl => q + 1 ≠ 0 → pl.1.isSome = true) | 21 => ⟨227, 2, [8, 9, 10], fun g => .pointer (some ((⟨b16, 0, none⟩ : Addr).add 3)), fun _ => dmy, fun _ => True⟩ | _ => Itm.none) (A := [dmy, dmy, dmy, .row 3 1 (.slice (some ⟨b208, 0, none⟩) 0 0) 0 [], .row 22 1 (.slice na' q nc') q (rs.map rxv), .row 28 1 (.slice oa' q oc') q (os.map rxv), .row 9 1 (.slice fa' q fc') q (fs.map sv), .row 28 1 (.slice (some ⟨b220, 0, none⟩) 1 1) 1 [.slice wa G.L wc]]) [8, 9, 10, 15, 19, 20, 21] 7 rfl (by kernel_rfl) rfl (all_cons Itm.loc_own (all_cons (Itm.loc_newD (V0 := fun b => .slice (some ⟨b, 0, none⟩) 1 1) (X0 := fun g b => .row 22 1 (.slice (some ⟨b, 0, none⟩) 1 1) 1 [Value.slice (g 8).1 G.L (g 8).2]) (fun g g' h => by funext b; simp only [h 8 (.head _)])) (all_cons (Itm.loc_ownD (V0 := fun pl => .slice pl.1 (q + 1) pl.2) (X0 := fun g pl => .row 22 1 (.slice pl.1 (q + 1) pl.2) (q + 1) (rs.map rxv ++ [Value.slice (g 8).1 G.L (g 8).2])) (Φ0 := fun pl => q + 1 ≠ 0 → pl.1.isSome = true) (fun g g' h => by funext b; simp only [h 8 (.head _)])) (all_cons Itm.loc_own (all_cons Itm.loc_new (all_cons Itm.loc_own (all_cons (fun g g' h => ⟨rfl, rfl, fun h => h⟩) all_nil))))))) (all_cons (Good.own rfl rfl (fun D g hD hd => OpG.append zf0 zf16 (by rfl) (by decide) (ev_base rfl rfl hD) (ev_base rfl rfl hD) (p := 3) (mk_base rfl (.head _) hD rfl rfl) (fun w hH => (hH.fragAt (mk_free (p := 15) rfl hD rfl)).r _ (getDm (d := rx0) hqN)) ⟨(by rw [List.length_map, Nat.mul_one]), (ones_map (fun _ => rfl) _), (by omega), (by omega)⟩ (nm := G.L) (by rw [hrl, Nat.zero_add]) (all := (G.rs.getD q rx0).xs.map zo) rfl)) (all_cons (Good.newD rfl rfl (Nat.lt_of_lt_of_le (by decide) (Nat.le_add_left 3 _)) (fun g g' h => by funext b; simp only [h 8 (.head _)]) rfl (fun D g hD hd => OpG.lit1 zf21 zf22 rfl (ev_dep rfl hD (hd 8 (.head _)) rfl rfl) rfl)) (all_cons (Good.ownD rfl rfl (fun g g' h => by funext b; simp only [h 8 (.head _)]) rfl (fun D g hD hd => OpG.append zf21 zf22 (by rfl) (by decide) (ev_base rfl rfl hD) (ev_dep rfl hD (hd 9 (.tail _ (.head _))) rfl rfl) (p := 4) (mk_base rfl (.tail _ (.tail _ (.head _))) hD rfl rfl) (fun w hH => hH.rdAt (mk_at (p := 0) rfl hD (hd 9 (.tail _ (.head _))) rfl rfl (by exact (Nat.succ_pos _)))) ⟨rfl, (by simp [Value.oneCell']), (by omega), (by omega)⟩ (nm := q + 1) rfl (all := (rs.map rxv ++ [Value.slice (g 8).1 G.L (g 8).2])) rfl)) (all_cons (Good.own rfl rfl (fun D g hD hd => OpG.append zf23 zf24 (by rfl) (by decide) (ev_base rfl rfl hD) (ev_base rfl rfl hD) (p := 5) (mk_base rfl (.tail _ (.tail _ (.tail _ (.head _)))) hD rfl rfl) (fun w hH => hH.rdAt (mk_free (p := 7) rfl hD rfl)) ⟨rfl, (by simp [Value.oneCell']), (by omega), (by omega)⟩ (nm := q + 1) rfl (all := (os ++ [(⟨wa, wc, ws⟩ : Rx Wd)]).map rxv) (by rw [List.map_append, List.map_singleton, hw19]))) (all_cons (Good.new' rfl rfl (Nat.lt_of_lt_of_le (by decide) (Nat.le_add_left 3 _)) (fun D g hD => OpG.lit1 zf17 zf18 rfl (ev_base rfl rfl hD) rfl)) (all_cons (Good.own rfl rfl (fun D g hD hd => OpG.append zf17 zf18 (by rfl) (by decide) (ev_base rfl rfl hD) (ev_dep rfl hD (hd 19 (.tail _ (.head _))) rfl rfl) (p := 6) (mk_base rfl (.tail _ (.tail _ (.tail _ (.tail _ (.tail _ (.head _)))))) hD rfl rfl) (fun w hH => hH.rdAt (mk_at (p := 1) rfl hD (hd 19 (.tail _ (.head _))) rfl rfl (by exact (Nat.succ_lt_succ (Nat.succ_pos _))))) ⟨rfl, (by simp [Value.oneCell']), (by omega), (by omega)⟩ (nm := q + 1) rfl (all := (fs ++ [fv]).map sv) (by rw [List.map_append]; rfl))) (all_cons (Good.quiet rfl (fun _ => rfl) rfl (.tail _ (.tail _ (.tail _ (.tail _ (.tail _ (.tail _ (.head _))))))) (fun _ => trivial) (fun g g' h => rfl) (fun D g hD hd => OpQ.fieldAddr zf30 (ev_base rfl rfl hD)) rfl) all_nil))))))) (fun g _ => ?_)
       show RA _ _ _ _ _ _ _ ((214, Value.slice (g 8).1 G.L (g 8).2) :: (215, .slice (some ⟨(g 9).2, 0, none⟩) 1 1) :: (216, .slice (g 10).1 (q + 1) (g 10).2) :: (221, .slice (g 15).1 (q + 1) (g 15).2) :: (225, .slice (some ⟨(g 19).2, 0, none⟩) 1 1) :: (226, .slice (g 20).1 (q + 1) (g 20).2) :: (227, .pointer (some ((⟨b16, 0, none⟩ : Addr).add 3))) :: _) ([.row 22 1 (.slice (some ⟨(g 9).2, 0, none⟩) 1 1) 1 [Value.slice (g 8).1 G.L (g 8).2], .row 9 1 (.slice (some ⟨(g 19).2, 0, none⟩) 1 1) 1 [sv fv], dmy, .row 3 1 (.slice (g 8).1 G.L (g 8).2) G.L ((G.rs.getD q rx0).xs.map zo), .row 22 1 (.slice (g 10).1 (q + 1) (g 10).2) (q + 1) (rs.map rxv ++ [Value.slice (g 8).1 G.L (g 8).2]), .row 28 1 (.slice (g 15).1 (q + 1) (g 15).2) (q + 1) ((os ++ [(⟨wa, wc, ws⟩ : Rx Wd)]).map rxv), .row 9 1 (.slice (g 20).1 (q + 1) (g 20).2) (q + 1) ((fs ++ [fv]).map sv), .row 28 1 (.slice (some ⟨b220, 0, none⟩) 1 1) 1 [.slice wa G.L wc]] ++ ([.row 9 1 (.slice wa G.L wc) G.L (ws.map sv), .row 30 7 (vb b16) 1 [zn G.L, zn G.s, sv (G.init ++ P.getD G.s []), .slice na' q nc', .slice oa' q oc', .slice G.ea G.en.length G.ec, .slice fa' q fc'], .row 9 1 (.slice (some ⟨b36, 0, none⟩) G.rs.length G.rs.length) G.rs.length (P.map sv), .row 4 1 (.slice (some ⟨b38, 0, none⟩) G.rs.length G.rs.length) G.rs.length (K.map bo), .row 30 7 (vb b5) 1 (svc G), .row 30 7 (vb b2) 1 [.int .i64 0, .int .i64 0, .string ⟨#[]⟩, .slice none 0 0, .slice none 0 0, .slice none 0 0, .slice none 0 0], .row 30 7 (vb b1) 1 (svc S), .frag fG (svm G)] ++ (fam 3 zo rs ++ fam 9 sv os)))
       generalize (g 8).1 = a214
       generalize (g 8).2 = c214
       generalize (g 10).1 = a216
       generalize (g 10).2 = c216
       generalize (g 15).1 = a221
       generalize (g 15).2 = c221
       generalize (g 20).1 = a226
       generalize (g 20).2 = c226
       refine RA.as (fun _ h => HOk.takeA (A := [_, _, _, _, _, _, _, _]) h (.cons (.there (.there (.there .here))) (.cons (.there (.there (.there .here))) (.cons (.there (.there (.there .here))) (.cons (.there (.there (.there .here))) .nil))))) ?_
       refine RA.tail ?_
       refine RT.f 22 (by kernel_rfl) rfl rfl rfl (OpG.storeRow (a := some ⟨b16, 0, none⟩) zf63 rfl rfl rfl (by repeat (first | exact Upd.here | apply Upd.there)) (by simp)) ?_
       rintro _ _
       refine RT.q 23 (by kernel_rfl) rfl rfl rfl (OpQ.fieldAddr zf34 rfl) ?_
       refine RT.f 24 (by kernel_rfl) rfl rfl rfl (OpG.storeRow (a := some ⟨b16, 0, none⟩) zf64 rfl rfl rfl (by repeat (first | exact Upd.here | apply Upd.there)) (by simp)) ?_
       rintro _ _
       refine RT.q 25 (by kernel_rfl) rfl rfl rfl (OpQ.fieldAddr zf41 rfl) ?_
       refine RT.f 26 (by kernel_rfl) rfl rfl rfl (OpG.storeRow (a := some ⟨b16, 0, none⟩) zf36 rfl rfl rfl (by repeat (first | exact Upd.here | apply Upd.there)) (by simp)) ?_
       rintro _ _
       refine RT.done (by kernel_rfl) ?_
       refine PX.block_n (PX.then_n (CT.region ?_))
       refine Wl.q rfl rfl (OpQ.add rfl rfl (by omega)) ?_
       refine Wl.q rfl rfl (OpQ.move rfl) ?_
       refine Wl.nil ?_
       refine PX.as (fun _ h => HOk.takeA (A := [_, _, _, _, _, _, _, _, _, _, _, _]) h (.cons .here (.cons (.there (.there (.there .here))) (.cons .here (.cons .here (.cons .here (.cons .here (.cons .here (.cons .here (.cons .here (.cons .here (.cons .here (.cons .here .nil))))))))))))) ?_
       refine PX.mem (H' := [rch 3 zo (⟨a214, c214, (G.rs.getD q rx0).xs⟩ : Rx (Option Nat)), rch 9 sv (⟨wa, wc, ws⟩ : Rx Wd), .row 22 1 (.slice a216 (q + 1) c216) (q + 1) ((rs ++ [(⟨a214, c214, (G.rs.getD q rx0).xs⟩ : Rx (Option Nat))]).map rxv), .row 28 1 (.slice a221 (q + 1) c221) (q + 1) ((os ++ [(⟨wa, wc, ws⟩ : Rx Wd)]).map rxv), .row 9 1 (.slice a226 (q + 1) c226) (q + 1) ((fs ++ [fv]).map sv), .row 30 7 (vb b16) 1 [zn G.L, zn G.s, sv (G.init ++ P.getD G.s []), .slice a216 (q + 1) c216, .slice a221 (q + 1) c221, .slice G.ea G.en.length G.ec, .slice a226 (q + 1) c226], .row 9 1 (.slice (some ⟨b36, 0, none⟩) G.rs.length G.rs.length) G.rs.length (P.map sv), .row 4 1 (.slice (some ⟨b38, 0, none⟩) G.rs.length G.rs.length) G.rs.length (K.map bo), .row 30 7 (vb b5) 1 (svc G), .row 30 7 (vb b2) 1 [.int .i64 0, .int .i64 0, .string ⟨#[]⟩, .slice none 0 0, .slice none 0 0, .slice none 0 0, .slice none 0 0], .row 30 7 (vb b1) 1 (svc S), .frag fG (svm G)] ++ (fam 3 zo rs ++ fam 9 sv os)) (.keep (by show Chunk.row _ _ (.slice _ (G.rs.getD q rx0).xs.length _) (G.rs.getD q rx0).xs.length _ = _; rw [hrl]) (.keep (by show Chunk.row _ _ (.slice _ ws.length _) ws.length _ = _; rw [hwl]) (.keep (row_eq (by rw [List.map_append, List.map_singleton, show rxv (⟨a214, c214, (G.rs.getD q rx0).xs⟩ : Rx (Option Nat)) = .slice a214 G.L c214 from by show Value.slice _ (G.rs.getD q rx0).xs.length _ = _; rw [hrl]])) (HSub.refl _)))) ?_
       refine PX.as (fun _ h => HOk.fam2 (r := (⟨a214, c214, (G.rs.getD q rx0).xs⟩ : Rx (Option Nat))) (o := (⟨wa, wc, ws⟩ : Rx Wd)) (A := [.row 22 1 (.slice a216 (q + 1) c216) (q + 1) ((rs ++ [(⟨a214, c214, (G.rs.getD q rx0).xs⟩ : Rx (Option Nat))]).map rxv), .row 28 1 (.slice a221 (q + 1) c221) (q + 1) ((os ++ [(⟨wa, wc, ws⟩ : Rx Wd)]).map rxv), .row 9 1 (.slice a226 (q + 1) c226) (q + 1) ((fs ++ [fv]).map sv), .row 30 7 (vb b16) 1 [zn G.L, zn G.s, sv (G.init ++ P.getD G.s []), .slice a216 (q + 1) c216, .slice a221 (q + 1) c221, .slice G.ea G.en.length G.ec, .slice a226 (q + 1) c226], .row 9 1 (.slice (some ⟨b36, 0, none⟩) G.rs.length G.rs.length) G.rs.length (P.map sv), .row 4 1 (.slice (some ⟨b38, 0, none⟩) G.rs.length G.rs.length) G.rs.length (K.map bo), .row 30 7 (vb b5) 1 (svc G), .row 30 7 (vb b2) 1 [.int .i64 0, .int .i64 0, .string ⟨#[]⟩, .slice none 0 0, .slice none 0 0, .slice none 0 0, .slice none 0 0], .row 30 7 (vb b1) 1 (svc S), .frag fG (svm G)]) h) ?_
       exact PX.loop hK4 (q + 1, a216, c216, rs ++ [(⟨a214, c214, (G.rs.getD q rx0).xs⟩ : Rx (Option Nat))], a221, c221, os ++ [(⟨wa, wc, ws⟩ : Rx Wd)], a226, c226, fs ++ [fv]) ⟨by omega, hno.snoc (rx_getD G.rs q).symm hws hfv⟩ (show G.rs.length - (q + 1) < G.rs.length - q by omega) ⟨rfl, rfl, rfl, rfl, rfl, rfl, rfl, rfl, trivial⟩ (HSub.refl _)
      ·
       rintro b225 _
       refine RA.f 2 (by kernel_rfl) rfl rfl rfl (OpG.lit0 zf0 zf16 rfl) (fun _ _ => (.cons _ (.cons _ (.cons _ (.cons _ (.cons _ (.cons _ (.refl _)))))))) ?_
       rintro b208 _
       refine RA.as (fun _ h => HOk.takeA (A := [_, _, _, _, _, _]) h (.cons .here (.cons (.there (.there .here)) (.cons (.there (.there .here)) (.cons (.there (.there .here)) (.cons .here (.cons .here .nil))))))) ?_
       refine RA.as (L := [dmy, dmy, .row 3 1 (.slice (some ⟨b208, 0, none⟩) 0 0) 0 [], .row 22 1 (.slice na' q nc') q (rs.map rxv), .row 28 1 (.slice oa' q oc') q (os.map rxv), .row 9 1 (.slice fa' q fc') q (fs.map sv), .row 9 1 (.slice (some ⟨b225, 0, none⟩) 1 1) 1 [sv fv], .row 28 1 (.slice (some ⟨b220, 0, none⟩) 1 1) 1 [.slice wa G.L wc]] ++ ([.row 9 1 (.slice wa G.L wc) G.L (ws.map sv), .row 30 7 (vb b16) 1 [zn G.L, zn G.s, sv (G.init ++ P.getD G.s []), .slice na' q nc', .slice oa' q oc', .slice G.ea G.en.length G.ec, .slice fa' q fc'], .row 9 1 (.slice (some ⟨b36, 0, none⟩) G.rs.length G.rs.length) G.rs.length (P.map sv), .row 4 1 (.slice (some ⟨b38, 0, none⟩) G.rs.length G.rs.length) G.rs.length (K.map bo), .row 30 7 (vb b5) 1 (svc G), .row 30 7 (vb b2) 1 [.int .i64 0, .int .i64 0, .string ⟨#[]⟩, .slice none 0 0, .slice none 0 0, .slice none 0 0, .slice none 0 0], .row 30 7 (vb b1) 1 (svc S), .frag fG (svm G)] ++ (fam 3 zo rs ++ fam 9 sv os))) (fun _ h => h.dmy 2) ?_
       refine RA.many (it := fun | 8 => Itm.own 214 2 8 [] (fun pl => .slice pl.1 G.L pl.2) (fun pl => .row 3 1 (.slice pl.1 G.L pl.2) G.L ((G.rs.getD q rx0).xs.map zo)) (fun pl => G.L ≠ 0 → pl.1.isSome = true) | 9 => ⟨215, 0, [8], fun g => .slice (some ⟨(g 9).2, 0, none⟩) 1 1, fun g => .row 22 1 (.slice (some ⟨(g 9).2, 0, none⟩) 1 1) 1 [Value.slice (g 8).1 G.L (g 8).2], fun _ => True⟩ | 10 => ⟨216, 3, [8, 9], fun g => .slice (g 10).1 (q + 1) (g 10).2, fun g => .row 22 1 (.slice (g 10).1 (q + 1) (g 10).2) (q + 1) (rs.map rxv ++ [Value.slice (g 8).1 G.L (g 8).2]), fun g => q + 1 ≠ 0 → (g 10).1.isSome = true⟩ | 15 => Itm.own 221 4 15 [10] (fun pl => .slice pl.1 (q + 1) pl.2) (fun pl => .row 28 1 (.slice pl.1 (q + 1) pl.2) (q + 1) ((os ++ [(⟨wa, wc, ws⟩ : Rx Wd)]).map rxv)) (fun pl => q + 1 ≠ 0 → pl.1.isSome = true) | 20 => Itm.own 226 5 20 [15] (fun pl => .slice pl.1 (q + 1) pl.2) (fun pl => .row 9 1 (.slice pl.1 (q + 1) pl.2) (q + 1) ((fs ++ [fv]).map sv)) (fun pl => q + 1 ≠ 0 → pl.1.isSome = true) | 21 => ⟨227, 1, [8, 9, 10], fun g => .pointer (some ((⟨b16, 0, none⟩ : Addr).add 3)), fun _ => dmy, fun _ => True⟩ | _ => Itm.none) (A := [dmy, dmy, .row 3 1 (.slice (some ⟨b208, 0, none⟩) 0 0) 0 [], .row 22 1 (.slice na' q nc') q (rs.map rxv), .row 28 1 (.slice oa' q oc') q (os.map rxv), .row 9 1 (.slice fa' q fc') q (fs.map sv), .row 9 1 (.slice (some ⟨b225, 0, none⟩) 1 1) 1 [sv fv], .row 28 1 (.slice (some ⟨b220, 0, none⟩) 1 1) 1 [.slice wa G.L wc]]) [8, 9, 10, 15, 20, 21] 6 rfl (by kernel_rfl) rfl (all_cons Itm.loc_own (all_cons (Itm.loc_newD (V0 := fun b => .slice (some ⟨b, 0, none⟩) 1 1) (X0 := fun g b => .row 22 1 (.slice (some ⟨b, 0, none⟩) 1 1) 1 [Value.slice (g 8).1 G.L (g 8).2]) (fun g g' h => by funext b; simp only [h 8 (.head _)])) (all_cons (Itm.loc_ownD (V0 := fun pl => .slice pl.1 (q + 1) pl.2) (X0 := fun g pl => .row 22 1 (.slice pl.1 (q + 1) pl.2) (q + 1) (rs.map rxv ++ [Value.slice (g 8).1 G.L (g 8).2])) (Φ0 := fun pl => q + 1 ≠ 0 → pl.1.isSome = true) (fun g g' h => by funext b; simp only [h 8 (.head _)])) (all_cons Itm.loc_own (all_cons Itm.loc_own (all_cons (fun g g' h => ⟨rfl, rfl, fun h => h⟩) all_nil)))))) (all_cons (Good.own rfl rfl (fun D g hD hd => OpG.append zf0 zf16 (by rfl) (by decide) (ev_base rfl rfl hD) (ev_base rfl rfl hD) (p := 2) (mk_base rfl (.head _) hD rfl rfl) (fun w hH => (hH.fragAt (mk_free (p := 15) rfl hD rfl)).r _ (getDm (d := rx0) hqN)) ⟨(by rw [List.length_map, Nat.mul_one]), (ones_map (fun _ => rfl) _), (by omega), (by omega)⟩ (nm := G.L) (by rw [hrl, Nat.zero_add]) (all := (G.rs.getD q rx0).xs.map zo) rfl)) (all_cons (Good.newD rfl rfl (Nat.lt_of_lt_of_le (by decide) (Nat.le_add_left 2 _)) (fun g g' h => by funext b; simp only [h 8 (.head _)]) rfl (fun D g hD hd => OpG.lit1 zf21 zf22 rfl (ev_dep rfl hD (hd 8 (.head _)) rfl rfl) rfl)) (all_cons (Good.ownD rfl rfl (fun g g' h => by funext b; simp only [h 8 (.head _)]) rfl (fun D g hD hd => OpG.append zf21 zf22 (by rfl) (by decide) (ev_base rfl rfl hD) (ev_dep rfl hD (hd 9 (.tail _ (.head _))) rfl rfl) (p := 3) (mk_base rfl (.tail _ (.tail _ (.head _))) hD rfl rfl) (fun w hH => hH.rdAt (mk_at (p := 0) rfl hD (hd 9 (.tail _ (.head _))) rfl rfl (by exact (Nat.succ_pos _)))) ⟨rfl, (by simp [Value.oneCell']), (by omega), (by omega)⟩ (nm := q + 1) rfl (all := (rs.map rxv ++ [Value.slice (g 8).1 G.L (g 8).2])) rfl)) (all_cons (Good.own rfl rfl (fun D g hD hd => OpG.append zf23 zf24 (by rfl) (by decide) (ev_base rfl rfl hD) (ev_base rfl rfl hD) (p := 4) (mk_base rfl (.tail _ (.tail _ (.tail _ (.head _)))) hD rfl rfl) (fun w hH => hH.rdAt (mk_free (p := 7) rfl hD rfl)) ⟨rfl, (by simp [Value.oneCell']), (by omega), (by omega)⟩ (nm := q + 1) rfl (all := (os ++ [(⟨wa, wc, ws⟩ : Rx Wd)]).map rxv) (by rw [List.map_append, List.map_singleton, hw19]))) (all_cons (Good.own rfl rfl (fun D g hD hd => OpG.append zf17 zf18 (by rfl) (by decide) (ev_base rfl rfl hD) (ev_base rfl rfl hD) (p := 5) (mk_base rfl (.tail _ (.tail _ (.tail _ (.tail _ (.head _))))) hD rfl rfl) (fun w hH => hH.rdAt (mk_free (p := 6) rfl hD rfl)) ⟨rfl, (by simp [Value.oneCell']), (by omega), (by omega)⟩ (nm := q + 1) rfl (all := (fs ++ [fv]).map sv) (by rw [List.map_append]; rfl))) (all_cons (Good.quiet rfl (fun _ => rfl) rfl (.tail _ (.tail _ (.tail _ (.tail _ (.tail _ (.head _)))))) (fun _ => trivial) (fun g g' h => rfl) (fun D g hD hd => OpQ.fieldAddr zf30 (ev_base rfl rfl hD)) rfl) all_nil)))))) (fun g _ => ?_)
       show RA _ _ _ _ _ _ _ ((214, Value.slice (g 8).1 G.L (g 8).2) :: (215, .slice (some ⟨(g 9).2, 0, none⟩) 1 1) :: (216, .slice (g 10).1 (q + 1) (g 10).2) :: (221, .slice (g 15).1 (q + 1) (g 15).2) :: (226, .slice (g 20).1 (q + 1) (g 20).2) :: (227, .pointer (some ((⟨b16, 0, none⟩ : Addr).add 3))) :: _) ([.row 22 1 (.slice (some ⟨(g 9).2, 0, none⟩) 1 1) 1 [Value.slice (g 8).1 G.L (g 8).2], dmy, .row 3 1 (.slice (g 8).1 G.L (g 8).2) G.L ((G.rs.getD q rx0).xs.map zo), .row 22 1 (.slice (g 10).1 (q + 1) (g 10).2) (q + 1) (rs.map rxv ++ [Value.slice (g 8).1 G.L (g 8).2]), .row 28 1 (.slice (g 15).1 (q + 1) (g 15).2) (q + 1) ((os ++ [(⟨wa, wc, ws⟩ : Rx Wd)]).map rxv), .row 9 1 (.slice (g 20).1 (q + 1) (g 20).2) (q + 1) ((fs ++ [fv]).map sv), .row 9 1 (.slice (some ⟨b225, 0, none⟩) 1 1) 1 [sv fv], .row 28 1 (.slice (some ⟨b220, 0, none⟩) 1 1) 1 [.slice wa G.L wc]] ++ ([.row 9 1 (.slice wa G.L wc) G.L (ws.map sv), .row 30 7 (vb b16) 1 [zn G.L, zn G.s, sv (G.init ++ P.getD G.s []), .slice na' q nc', .slice oa' q oc', .slice G.ea G.en.length G.ec, .slice fa' q fc'], .row 9 1 (.slice (some ⟨b36, 0, none⟩) G.rs.length G.rs.length) G.rs.length (P.map sv), .row 4 1 (.slice (some ⟨b38, 0, none⟩) G.rs.length G.rs.length) G.rs.length (K.map bo), .row 30 7 (vb b5) 1 (svc G), .row 30 7 (vb b2) 1 [.int .i64 0, .int .i64 0, .string ⟨#[]⟩, .slice none 0 0, .slice none 0 0, .slice none 0 0, .slice none 0 0], .row 30 7 (vb b1) 1 (svc S), .frag fG (svm G)] ++ (fam 3 zo rs ++ fam 9 sv os)))
       generalize (g 8).1 = a214
       generalize (g 8).2 = c214
       generalize (g 10).1 = a216
       generalize (g 10).2 = c216
       generalize (g 15).1 = a221
       generalize (g 15).2 = c221
       generalize (g 20).1 = a226
       generalize (g 20).2 = c226
       refine RA.as (fun _ h => HOk.takeA (A := [_, _, _, _, _, _, _, _]) h (.cons (.there (.there .here)) (.cons (.there (.there .here)) (.cons (.there (.there .here)) (.cons (.there (.there .here)) .nil))))) ?_
       refine RA.tail ?_
       refine RT.f 22 (by kernel_rfl) rfl rfl rfl (OpG.storeRow (a := some ⟨b16, 0, none⟩) zf63 rfl rfl rfl (by repeat (first | exact Upd.here | apply Upd.there)) (by simp)) ?_
       rintro _ _
       refine RT.q 23 (by kernel_rfl) rfl rfl rfl (OpQ.fieldAddr zf34 rfl) ?_
       refine RT.f 24 (by kernel_rfl) rfl rfl rfl (OpG.storeRow (a := some ⟨b16, 0, none⟩) zf64 rfl rfl rfl (by repeat (first | exact Upd.here | apply Upd.there)) (by simp)) ?_
       rintro _ _
       refine RT.q 25 (by kernel_rfl) rfl rfl rfl (OpQ.fieldAddr zf41 rfl) ?_
       refine RT.f 26 (by kernel_rfl) rfl rfl rfl (OpG.storeRow (a := some ⟨b16, 0, none⟩) zf36 rfl rfl rfl (by repeat (first | exact Upd.here | apply Upd.there)) (by simp)) ?_
       rintro _ _
       refine RT.done (by kernel_rfl) ?_
       refine PX.block_n (PX.then_n (CT.region ?_))
       refine Wl.q rfl rfl (OpQ.add rfl rfl (by omega)) ?_
       refine Wl.q rfl rfl (OpQ.move rfl) ?_
       refine Wl.nil ?_
       refine PX.as (fun _ h => HOk.takeA (A := [_, _, _, _, _, _, _, _, _, _, _, _]) h (.cons .here (.cons (.there (.there (.there .here))) (.cons .here (.cons .here (.cons .here (.cons .here (.cons .here (.cons .here (.cons .here (.cons .here (.cons .here (.cons .here .nil))))))))))))) ?_
       refine PX.mem (H' := [rch 3 zo (⟨a214, c214, (G.rs.getD q rx0).xs⟩ : Rx (Option Nat)), rch 9 sv (⟨wa, wc, ws⟩ : Rx Wd), .row 22 1 (.slice a216 (q + 1) c216) (q + 1) ((rs ++ [(⟨a214, c214, (G.rs.getD q rx0).xs⟩ : Rx (Option Nat))]).map rxv), .row 28 1 (.slice a221 (q + 1) c221) (q + 1) ((os ++ [(⟨wa, wc, ws⟩ : Rx Wd)]).map rxv), .row 9 1 (.slice a226 (q + 1) c226) (q + 1) ((fs ++ [fv]).map sv), .row 30 7 (vb b16) 1 [zn G.L, zn G.s, sv (G.init ++ P.getD G.s []), .slice a216 (q + 1) c216, .slice a221 (q + 1) c221, .slice G.ea G.en.length G.ec, .slice a226 (q + 1) c226], .row 9 1 (.slice (some ⟨b36, 0, none⟩) G.rs.length G.rs.length) G.rs.length (P.map sv), .row 4 1 (.slice (some ⟨b38, 0, none⟩) G.rs.length G.rs.length) G.rs.length (K.map bo), .row 30 7 (vb b5) 1 (svc G), .row 30 7 (vb b2) 1 [.int .i64 0, .int .i64 0, .string ⟨#[]⟩, .slice none 0 0, .slice none 0 0, .slice none 0 0, .slice none 0 0], .row 30 7 (vb b1) 1 (svc S), .frag fG (svm G)] ++ (fam 3 zo rs ++ fam 9 sv os)) (.keep (by show Chunk.row _ _ (.slice _ (G.rs.getD q rx0).xs.length _) (G.rs.getD q rx0).xs.length _ = _; rw [hrl]) (.keep (by show Chunk.row _ _ (.slice _ ws.length _) ws.length _ = _; rw [hwl]) (.keep (row_eq (by rw [List.map_append, List.map_singleton, show rxv (⟨a214, c214, (G.rs.getD q rx0).xs⟩ : Rx (Option Nat)) = .slice a214 G.L c214 from by show Value.slice _ (G.rs.getD q rx0).xs.length _ = _; rw [hrl]])) (HSub.refl _)))) ?_
       refine PX.as (fun _ h => HOk.fam2 (r := (⟨a214, c214, (G.rs.getD q rx0).xs⟩ : Rx (Option Nat))) (o := (⟨wa, wc, ws⟩ : Rx Wd)) (A := [.row 22 1 (.slice a216 (q + 1) c216) (q + 1) ((rs ++ [(⟨a214, c214, (G.rs.getD q rx0).xs⟩ : Rx (Option Nat))]).map rxv), .row 28 1 (.slice a221 (q + 1) c221) (q + 1) ((os ++ [(⟨wa, wc, ws⟩ : Rx Wd)]).map rxv), .row 9 1 (.slice a226 (q + 1) c226) (q + 1) ((fs ++ [fv]).map sv), .row 30 7 (vb b16) 1 [zn G.L, zn G.s, sv (G.init ++ P.getD G.s []), .slice a216 (q + 1) c216, .slice a221 (q + 1) c221, .slice G.ea G.en.length G.ec, .slice a226 (q + 1) c226], .row 9 1 (.slice (some ⟨b36, 0, none⟩) G.rs.length G.rs.length) G.rs.length (P.map sv), .row 4 1 (.slice (some ⟨b38, 0, none⟩) G.rs.length G.rs.length) G.rs.length (K.map bo), .row 30 7 (vb b5) 1 (svc G), .row 30 7 (vb b2) 1 [.int .i64 0, .int .i64 0, .string ⟨#[]⟩, .slice none 0 0, .slice none 0 0, .slice none 0 0, .slice none 0 0], .row 30 7 (vb b1) 1 (svc S), .frag fG (svm G)]) h) ?_
       exact PX.loop hK4 (q + 1, a216, c216, rs ++ [(⟨a214, c214, (G.rs.getD q rx0).xs⟩ : Rx (Option Nat))], a221, c221, os ++ [(⟨wa, wc, ws⟩ : Rx Wd)], a226, c226, fs ++ [fv]) ⟨by omega, hno.snoc (rx_getD G.rs q).symm hws hfv⟩ (show G.rs.length - (q + 1) < G.rs.length - q by omega) ⟨rfl, rfl, rfl, rfl, rfl, rfl, rfl, rfl, trivial⟩ (HSub.refl _)
     ·
      rintro b225 _
      refine RA.two 2 14 (by kernel_rfl) rfl rfl rfl (OpG.lit0 zf0 zf16 rfl) (fun _ _ => (.cons _ (.cons _ (.cons _ (.cons _ (.cons _ (.refl _))))))) rfl rfl rfl (OpG.lit1 zf23 zf24 rfl rfl rfl) (fun _ _ => (.cons _ (.cons _ (.cons _ (.cons _ (.cons _ (.refl _))))))) ?_ ?_
      ·
       rintro b208 _
       refine RA.as (fun _ h => HOk.takeA (A := [_, _, _, _, _]) h (.cons .here (.cons (.there .here) (.cons (.there .here) (.cons (.there .here) (.cons .here .nil)))))) ?_
       refine RA.as (L := [dmy, dmy, dmy, .row 3 1 (.slice (some ⟨b208, 0, none⟩) 0 0) 0 [], .row 22 1 (.slice na' q nc') q (rs.map rxv), .row 28 1 (.slice oa' q oc') q (os.map rxv), .row 9 1 (.slice fa' q fc') q (fs.map sv), .row 9 1 (.slice (some ⟨b225, 0, none⟩) 1 1) 1 [sv fv]] ++ ([.row 9 1 (.slice wa G.L wc) G.L (ws.map sv), .row 30 7 (vb b16) 1 [zn G.L, zn G.s, sv (G.init ++ P.getD G.s []), .slice na' q nc', .slice oa' q oc', .slice G.ea G.en.length G.ec, .slice fa' q fc'], .row 9 1 (.slice (some ⟨b36, 0, none⟩) G.rs.length G.rs.length) G.rs.length (P.map sv), .row 4 1 (.slice (some ⟨b38, 0, none⟩) G.rs.length G.rs.length) G.rs.length (K.map bo), .row 30 7 (vb b5) 1 (svc G), .row 30 7 (vb b2) 1 [.int .i64 0, .int .i64 0, .string ⟨#[]⟩, .slice none 0 0, .slice none 0 0, .slice none 0 0, .slice none 0 0], .row 30 7 (vb b1) 1 (svc S), .frag fG (svm G)] ++ (fam 3 zo rs ++ fam 9 sv os))) (fun _ h => h.dmy 3) ?_
       refine RA.many (it := fun | 8 => Itm.own 214 3 8 [] (fun pl => .slice pl.1 G.L pl.2) (fun pl => .row 3 1 (.slice pl.1 G.L pl.2) G.L ((G.rs.getD q rx0).xs.map zo)) (fun pl => G.L ≠ 0 → pl.1.isSome = true) | 9 => ⟨215, 0, [8], fun g => .slice (some ⟨(g 9).2, 0, none⟩) 1 1, fun g => .row 22 1 (.slice (some ⟨(g 9).2, 0, none⟩) 1 1) 1 [Value.slice (g 8).1 G.L (g 8).2], fun _ => True⟩ | 10 => ⟨216, 4, [8, 9], fun g => .slice (g 10).1 (q + 1) (g 10).2, fun g => .row 22 1 (.slice (g 10).1 (q + 1) (g 10).2) (q + 1) (rs.map rxv ++ [Value.slice (g 8).1 G.L (g 8).2]), fun g => q + 1 ≠ 0 → (g 10).1.isSome = true⟩ | 14 => Itm.new 220 1 14 (fun b => .slice (some ⟨b, 0, none⟩) 1 1) (fun b => .row 28 1 (.slice (some ⟨b, 0, none⟩) 1 1) 1 [.slice wa G.L wc]) | 15 => Itm.own 221 5 15 [10, 14] (fun pl => .slice pl.1 (q + 1) pl.2) (fun pl => .row 28 1 (.slice pl.1 (q + 1) pl.2) (q + 1) ((os ++ [(⟨wa, wc, ws⟩ : Rx Wd)]).map rxv)) (fun pl => q + 1 ≠ 0 → pl.1.isSome = true) | 20 => Itm.own 226 6 20 [15] (fun pl => .slice pl.1 (q + 1) pl.2) (fun pl => .row 9 1 (.slice pl.1 (q + 1) pl.2) (q + 1) ((fs ++ [fv]).map sv)) (fun pl => q + 1 ≠ 0 → pl.1.isSome = true) | 21 => ⟨227, 2, [8, 9, 10], fun g => .pointer (some ((⟨b16, 0, none⟩ : Addr).add 3)), fun _ => dmy, fun _ => True⟩ | _ => Itm.none) (A := [dmy, dmy, dmy, .row 3 1 (.slice (some ⟨b208, 0, none⟩) 0 0) 0 [], .row 22 1 (.slice na' q nc') q (rs.map rxv), .row 28 1 (.slice oa' q oc') q (os.map rxv), .row 9 1 (.slice fa' q fc') q (fs.map sv), .row 9 1 (.slice (some ⟨b225, 0, none⟩) 1 1) 1 [sv fv]]) [8, 9, 10, 14, 15, 20, 21] 7 rfl (by kernel_rfl) rfl (all_cons Itm.loc_own (all_cons (Itm.loc_newD (V0 := fun b => .slice (some ⟨b, 0, none⟩) 1 1) (X0 := fun g b => .row 22 1 (.slice (some ⟨b, 0, none⟩) 1 1) 1 [Value.slice (g 8).1 G.L (g 8).2]) (fun g g' h => by funext b; simp only [h 8 (.head _)])) (all_cons (Itm.loc_ownD (V0 := fun pl => .slice pl.1 (q + 1) pl.2) (X0 := fun g pl => .row 22 1 (.slice pl.1 (q + 1) pl.2) (q + 1) (rs.map rxv ++ [Value.slice (g 8).1 G.L (g 8).2])) (Φ0 := fun pl => q + 1 ≠ 0 → pl.1.isSome = true) (fun g g' h => by funext b; simp only [h 8 (.head _)])) (all_cons Itm.loc_new (all_cons Itm.loc_own (all_cons Itm.loc_own (all_cons (fun g g' h => ⟨rfl, rfl, fun h => h⟩) all_nil))))))) (all_cons (Good.own rfl rfl (fun D g hD hd => OpG.append zf0 zf16 (by rfl) (by decide) (ev_base rfl rfl hD) (ev_base rfl rfl hD) (p := 3) (mk_base rfl (.head _) hD rfl rfl) (fun w hH => (hH.fragAt (mk_free (p := 15) rfl hD rfl)).r _ (getDm (d := rx0) hqN)) ⟨(by rw [List.length_map, Nat.mul_one]), (ones_map (fun _ => rfl) _), (by omega), (by omega)⟩ (nm := G.L) (by rw [hrl, Nat.zero_add]) (all := (G.rs.getD q rx0).xs.map zo) rfl)) (all_cons (Good.newD rfl rfl (Nat.lt_of_lt_of_le (by decide) (Nat.le_add_left 3 _)) (fun g g' h => by funext b; simp only [h 8 (.head _)]) rfl (fun D g hD hd => OpG.lit1 zf21 zf22 rfl (ev_dep rfl hD (hd 8 (.head _)) rfl rfl) rfl)) (all_cons (Good.ownD rfl rfl (fun g g' h => by funext b; simp only [h 8 (.head _)]) rfl (fun D g hD hd => OpG.append zf21 zf22 (by rfl) (by decide) (ev_base rfl rfl hD) (ev_dep rfl hD (hd 9 (.tail _ (.head _))) rfl rfl) (p := 4) (mk_base rfl (.tail _ (.tail _ (.head _))) hD rfl rfl) (fun w hH => hH.rdAt (mk_at (p := 0) rfl hD (hd 9 (.tail _ (.head _))) rfl rfl (by exact (Nat.succ_pos _)))) ⟨rfl, (by simp [Value.oneCell']), (by omega), (by omega)⟩ (nm := q + 1) rfl (all := (rs.map rxv ++ [Value.slice (g 8).1 G.L (g 8).2])) rfl)) (all_cons (Good.new' rfl rfl (Nat.lt_of_lt_of_le (by decide) (Nat.le_add_left 3 _)) (fun D g hD => OpG.lit1 zf23 zf24 rfl (ev_base rfl rfl hD) rfl)) (all_cons (Good.own rfl rfl (fun D g hD hd => OpG.append zf23 zf24 (by rfl) (by decide) (ev_base rfl rfl hD) (ev_dep rfl hD (hd 14 (.tail _ (.head _))) rfl rfl) (p := 5) (mk_base rfl (.tail _ (.tail _ (.tail _ (.tail _ (.head _))))) hD rfl rfl) (fun w hH => hH.rdAt (mk_at (p := 1) rfl hD (hd 14 (.tail _ (.head _))) rfl rfl (by exact (Nat.succ_lt_succ (Nat.succ_pos _))))) ⟨rfl, (by simp [Value.oneCell']), (by omega), (by omega)⟩ (nm := q + 1) rfl (all := (os ++ [(⟨wa, wc, ws⟩ : Rx Wd)]).map rxv) (by rw [List.map_append, List.map_singleton, hw19]))) (all_cons (Good.own rfl rfl (fun D g hD hd => OpG.append zf17 zf18 (by rfl) (by decide) (ev_base rfl rfl hD) (ev_base rfl rfl hD) (p := 6) (mk_base rfl (.tail _ (.tail _ (.tail _ (.tail _ (.tail _ (.head _)))))) hD rfl rfl) (fun w hH => hH.rdAt (mk_free (p := 7) rfl hD rfl)) ⟨rfl, (by simp [Value.oneCell']), (by omega), (by omega)⟩ (nm := q + 1) rfl (all := (fs ++ [fv]).map sv) (by rw [List.map_append]; rfl))) (all_cons (Good.quiet rfl (fun _ => rfl) rfl (.tail _ (.tail _ (.tail _ (.tail _ (.tail _ (.tail _ (.head _))))))) (fun _ => trivial) (fun g g' h => rfl) (fun D g hD hd => OpQ.fieldAddr zf30 (ev_base rfl rfl hD)) rfl) all_nil))))))) (fun g _ => ?_)
       show RA _ _ _ _ _ _ _ ((214, Value.slice (g 8).1 G.L (g 8).2) :: (215, .slice (some ⟨(g 9).2, 0, none⟩) 1 1) :: (216, .slice (g 10).1 (q + 1) (g 10).2) :: (220, .slice (some ⟨(g 14).2, 0, none⟩) 1 1) :: (221, .slice (g 15).1 (q + 1) (g 15).2) :: (226, .slice (g 20).1 (q + 1) (g 20).2) :: (227, .pointer (some ((⟨b16, 0, none⟩ : Addr).add 3))) :: _) ([.row 22 1 (.slice (some ⟨(g 9).2, 0, none⟩) 1 1) 1 [Value.slice (g 8).1 G.L (g 8).2], .row 28 1 (.slice (some ⟨(g 14).2, 0, none⟩) 1 1) 1 [.slice wa G.L wc], dmy, .row 3 1 (.slice (g 8).1 G.L (g 8).2) G.L ((G.rs.getD q rx0).xs.map zo), .row 22 1 (.slice (g 10).1 (q + 1) (g 10).2) (q + 1) (rs.map rxv ++ [Value.slice (g 8).1 G.L (g 8).2]), .row 28 1 (.slice (g 15).1 (q + 1) (g 15).2) (q + 1) ((os ++ [(⟨wa, wc, ws⟩ : Rx Wd)]).map rxv), .row 9 1 (.slice (g 20).1 (q + 1) (g 20).2) (q + 1) ((fs ++ [fv]).map sv), .row 9 1 (.slice (some ⟨b225, 0, none⟩) 1 1) 1 [sv fv]] ++ ([.row 9 1 (.slice wa G.L wc) G.L (ws.map sv), .row 30 7 (vb b16) 1 [zn G.L, zn G.s, sv (G.init ++ P.getD G.s []), .slice na' q nc', .slice oa' q oc', .slice G.ea G.en.length G.ec, .slice fa' q fc'], .row 9 1 (.slice (some ⟨b36, 0, none⟩) G.rs.length G.rs.length) G.rs.length (P.map sv), .row 4 1 (.slice (some ⟨b38, 0, none⟩) G.rs.length G.rs.length) G.rs.length (K.map bo), .row 30 7 (vb b5) 1 (svc G), .row 30 7 (vb b2) 1 [.int .i64 0, .int .i64 0, .string ⟨#[]⟩, .slice none 0 0, .slice none 0 0, .slice none 0 0, .slice none 0 0], .row 30 7 (vb b1) 1 (svc S), .frag fG (svm G)] ++ (fam 3 zo rs ++ fam 9 sv os)))
       generalize (g 8).1 = a214
       generalize (g 8).2 = c214
       generalize (g 10).1 = a216
       generalize (g 10).2 = c216
       generalize (g 15).1 = a221
       generalize (g 15).2 = c221
       generalize (g 20).1 = a226
       generalize (g 20).2 = c226
       refine RA.as (fun _ h => HOk.takeA (A := [_, _, _, _, _, _, _, _]) h (.cons (.there (.there (.there .here))) (.cons (.there (.there (.there .here))) (.cons (.there (.there (.there .here))) (.cons (.there (.there (.there .here))) .nil))))) ?_
       refine RA.tail ?_
       refine RT.f 22 (by kernel_rfl) rfl rfl rfl (OpG.storeRow (a := some ⟨b16, 0, none⟩) zf63 rfl rfl rfl (by repeat (first | exact Upd.here | apply Upd.there)) (by simp)) ?_
       rintro _ _
       refine RT.q 23 (by kernel_rfl) rfl rfl rfl (OpQ.fieldAddr zf34 rfl) ?_
       refine RT.f 24 (by kernel_rfl) rfl rfl rfl (OpG.storeRow (a := some ⟨b16, 0, none⟩) zf64 rfl rfl rfl (by repeat (first | exact Upd.here | apply Upd.there)) (by simp)) ?_
       rintro _ _
       refine RT.q 25 (by kernel_rfl) rfl rfl rfl (OpQ.fieldAddr zf41 rfl) ?_
       refine RT.f 26 (by kernel_rfl) rfl rfl rfl (OpG.storeRow (a := some ⟨b16, 0, none⟩) zf36 rfl rfl rfl (by repeat (first | exact Upd.here | apply Upd.there)) (by simp)) ?_
       rintro _ _
       refine RT.done (by kernel_rfl) ?_
       refine PX.block_n (PX.then_n (CT.region ?_))
       refine Wl.q rfl rfl (OpQ.add rfl rfl (by omega)) ?_
       refine Wl.q rfl rfl (OpQ.move rfl) ?_
       refine Wl.nil ?_
       refine PX.as (fun _ h => HOk.takeA (A := [_, _, _, _, _, _, _, _, _, _, _, _]) h (.cons .here (.cons (.there (.there (.there .here))) (.cons .here (.cons .here (.cons .here (.cons .here (.cons .here (.cons .here (.cons .here (.cons .here (.cons .here (.cons .here .nil))))))))))))) ?_
       refine PX.mem (H' := [rch 3 zo (⟨a214, c214, (G.rs.getD q rx0).xs⟩ : Rx (Option Nat)), rch 9 sv (⟨wa, wc, ws⟩ : Rx Wd), .row 22 1 (.slice a216 (q + 1) c216) (q + 1) ((rs ++ [(⟨a214, c214, (G.rs.getD q rx0).xs⟩ : Rx (Option Nat))]).map rxv), .row 28 1 (.slice a221 (q + 1) c221) (q + 1) ((os ++ [(⟨wa, wc, ws⟩ : Rx Wd)]).map rxv), .row 9 1 (.slice a226 (q + 1) c226) (q + 1) ((fs ++ [fv]).map sv), .row 30 7 (vb b16) 1 [zn G.L, zn G.s, sv (G.init ++ P.getD G.s []), .slice a216 (q + 1) c216, .slice a221 (q + 1) c221, .slice G.ea G.en.length G.ec, .slice a226 (q + 1) c226], .row 9 1 (.slice (some ⟨b36, 0, none⟩) G.rs.length G.rs.length) G.rs.length (P.map sv), .row 4 1 (.slice (some ⟨b38, 0, none⟩) G.rs.length G.rs.length) G.rs.length (K.map bo), .row 30 7 (vb b5) 1 (svc G), .row 30 7 (vb b2) 1 [.int .i64 0, .int .i64 0, .string ⟨#[]⟩, .slice none 0 0, .slice none 0 0, .slice none 0 0, .slice none 0 0], .row 30 7 (vb b1) 1 (svc S), .frag fG (svm G)] ++ (fam 3 zo rs ++ fam 9 sv os)) (.keep (by show Chunk.row _ _ (.slice _ (G.rs.getD q rx0).xs.length _) (G.rs.getD q rx0).xs.length _ = _; rw [hrl]) (.keep (by show Chunk.row _ _ (.slice _ ws.length _) ws.length _ = _; rw [hwl]) (.keep (row_eq (by rw [List.map_append, List.map_singleton, show rxv (⟨a214, c214, (G.rs.getD q rx0).xs⟩ : Rx (Option Nat)) = .slice a214 G.L c214 from by show Value.slice _ (G.rs.getD q rx0).xs.length _ = _; rw [hrl]])) (HSub.refl _)))) ?_
       refine PX.as (fun _ h => HOk.fam2 (r := (⟨a214, c214, (G.rs.getD q rx0).xs⟩ : Rx (Option Nat))) (o := (⟨wa, wc, ws⟩ : Rx Wd)) (A := [.row 22 1 (.slice a216 (q + 1) c216) (q + 1) ((rs ++ [(⟨a214, c214, (G.rs.getD q rx0).xs⟩ : Rx (Option Nat))]).map rxv), .row 28 1 (.slice a221 (q + 1) c221) (q + 1) ((os ++ [(⟨wa, wc, ws⟩ : Rx Wd)]).map rxv), .row 9 1 (.slice a226 (q + 1) c226) (q + 1) ((fs ++ [fv]).map sv), .row 30 7 (vb b16) 1 [zn G.L, zn G.s, sv (G.init ++ P.getD G.s []), .slice a216 (q + 1) c216, .slice a221 (q + 1) c221, .slice G.ea G.en.length G.ec, .slice a226 (q + 1) c226], .row 9 1 (.slice (some ⟨b36, 0, none⟩) G.rs.length G.rs.length) G.rs.length (P.map sv), .row 4 1 (.slice (some ⟨b38, 0, none⟩) G.rs.length G.rs.length) G.rs.length (K.map bo), .row 30 7 (vb b5) 1 (svc G), .row 30 7 (vb b2) 1 [.int .i64 0, .int .i64 0, .string ⟨#[]⟩, .slice none 0 0, .slice none 0 0, .slice none 0 0, .slice none 0 0], .row 30 7 (vb b1) 1 (svc S), .frag fG (svm G)]) h) ?_
       exact PX.loop hK4 (q + 1, a216, c216, rs ++ [(⟨a214, c214, (G.rs.getD q rx0).xs⟩ : Rx (Option Nat))], a221, c221, os ++ [(⟨wa, wc, ws⟩ : Rx Wd)], a226, c226, fs ++ [fv]) ⟨by omega, hno.snoc (rx_getD G.rs q).symm hws hfv⟩ (show G.rs.length - (q + 1) < G.rs.length - q by omega) ⟨rfl, rfl, rfl, rfl, rfl, rfl, rfl, rfl, trivial⟩ (HSub.refl _)
      ·
       rintro b220 _
       refine RA.f 2 (by kernel_rfl) rfl rfl rfl (OpG.lit0 zf0 zf16 rfl) (fun _ _ => (.cons _ (.cons _ (.cons _ (.cons _ (.cons _ (.cons _ (.refl _)))))))) ?_
       rintro b208 _
       refine RA.as (fun _ h => HOk.takeA (A := [_, _, _, _, _, _]) h (.cons .here (.cons (.there (.there .here)) (.cons (.there (.there .here)) (.cons (.there (.there .here)) (.cons .here (.cons .here .nil))))))) ?_
       refine RA.as (L := [dmy, dmy, .row 3 1 (.slice (some ⟨b208, 0, none⟩) 0 0) 0 [], .row 22 1 (.slice na' q nc') q (rs.map rxv), .row 28 1 (.slice oa' q oc') q (os.map rxv), .row 9 1 (.slice fa' q fc') q (fs.map sv), .row 28 1 (.slice (some ⟨b220, 0, none⟩) 1 1) 1 [.slice wa G.L wc], .row 9 1 (.slice (some ⟨b225, 0, none⟩) 1 1) 1 [sv fv]] ++ ([.row 9 1 (.slice wa G.L wc) G.L (ws.map sv), .row 30 7 (vb b16) 1 [zn G.L, zn G.s, sv (G.init ++ P.getD G.s []), .slice na' q nc', .slice oa' q oc', .slice G.ea G.en.length G.ec, .slice fa' q fc'], .row 9 1 (.slice (some ⟨b36, 0, none⟩) G.rs.length G.rs.length) G.rs.length (P.map sv), .row 4 1 (.slice (some ⟨b38, 0, none⟩) G.rs.length G.rs.length) G.rs.length (K.map bo), .row 30 7 (vb b5) 1 (svc G), .row 30 7 (vb b2) 1 [.int .i64 0, .int .i64 0, .string ⟨#[]⟩, .slice none 0 0, .slice none 0 0, .slice none 0 0, .slice none 0 0], .row 30 7 (vb b1) 1 (svc S), .frag fG (svm G)] ++ (fam 3 zo rs ++ fam 9 sv os))) (fun _ h => h.dmy 2) ?_
       refine RA.many (it := fun | 8 => Itm.own 214 2 8 [] (fun pl => .slice pl.1 G.L pl.2) (fun pl => .row 3 1 (.slice pl.1 G.L pl.2) G.L ((G.rs.getD q rx0).xs.map zo)) (fun pl => G.L ≠ 0 → pl.1.isSome = true) | 9 => ⟨215, 0, [8], fun g => .slice (some ⟨(g 9).2, 0, none⟩) 1 1, fun g => .row 22 1 (.slice (some ⟨(g 9).2, 0, none⟩) 1 1) 1 [Value.slice (g 8).1 G.L (g 8).2], fun _ => True⟩ | 10 => ⟨216, 3, [8, 9], fun g => .slice (g 10).1 (q + 1) (g 10).2, fun g => .row 22 1 (.slice (g 10).1 (q + 1) (g 10).2) (q + 1) (rs.map rxv ++ [Value.slice (g 8).1 G.L (g 8).2]), fun g => q + 1 ≠ 0 → (g 10).1.isSome = true⟩ | 15 => Itm.own 221 4 15 [10] (fun pl => .slice pl.1 (q + 1) pl.2) (fun pl => .row 28 1 (.slice pl.1 (q + 1) pl.2) (q + 1) ((os ++ [(⟨wa, wc, ws⟩ : Rx Wd)]).map rxv)) (fun pl => q + 1 ≠ 0 → pl.1.isSome = true) | 20 => Itm.own 226 5 20 [15] (fun pl => .slice pl.1 (q + 1) pl.2) (fun pl => .row 9 1 (.slice pl.1 (q + 1) pl.2) (q + 1) ((fs ++ [fv]).map sv)) (fun pl => q + 1 ≠ 0 → pl.1.isSome = true) | 21 => ⟨227, 1, [8, 9, 10], fun g => .pointer (some ((⟨b16, 0, none⟩ : Addr).add 3)), fun _ => dmy, fun _ => True⟩ | _ => Itm.none) (A := [dmy, dmy, .row 3 1 (.slice (some ⟨b208, 0, none⟩) 0 0) 0 [], .row 22 1 (.slice na' q nc') q (rs.map rxv), .row 28 1 (.slice oa' q oc') q (os.map rxv), .row 9 1 (.slice fa' q fc') q (fs.map sv), .row 28 1 (.slice (some ⟨b220, 0, none⟩) 1 1) 1 [.slice wa G.L wc], .row 9 1 (.slice (some ⟨b225, 0, none⟩) 1 1) 1 [sv fv]]) [8, 9, 10, 15, 20, 21] 6 rfl (by kernel_rfl) rfl (all_cons Itm.loc_own (all_cons (Itm.loc_newD (V0 := fun b => .slice (some ⟨b, 0, none⟩) 1 1) (X0 := fun g b => .row 22 1 (.slice (some ⟨b, 0, none⟩) 1 1) 1 [Value.slice (g 8).1 G.L (g 8).2]) (fun g g' h => by funext b; simp only [h 8 (.head _)])) (all_cons (Itm.loc_ownD (V0 := fun pl => .slice pl.1 (q + 1) pl.2) (X0 := fun g pl => .row 22 1 (.slice pl.1 (q + 1) pl.2) (q + 1) (rs.map rxv ++ [Value.slice (g 8).1 G.L (g 8).2])) (Φ0 := fun pl => q + 1 ≠ 0 → pl.1.isSome = true) (fun g g' h => by funext b; simp only [h 8 (.head _)])) (all_cons Itm.loc_own (all_cons Itm.loc_own (all_cons (fun g g' h => ⟨rfl, rfl, fun h => h⟩) all_nil)))))) (all_cons (Good.own rfl rfl (fun D g hD hd => OpG.append zf0 zf16 (by rfl) (by decide) (ev_base rfl rfl hD) (ev_base rfl rfl hD) (p := 2) (mk_base rfl (.head _) hD rfl rfl) (fun w hH => (hH.fragAt (mk_free (p := 15) rfl hD rfl)).r _ (getDm (d := rx0) hqN)) ⟨(by rw [List.length_map, Nat.mul_one]), (ones_map (fun _ => rfl) _), (by omega), (by omega)⟩ (nm := G.L) (by rw [hrl, Nat.zero_add]) (all := (G.rs.getD q rx0).xs.map zo) rfl)) (all_cons (Good.newD rfl rfl (Nat.lt_of_lt_of_le (by decide) (Nat.le_add_left 2 _)) (fun g g' h => by funext b; simp only [h 8 (.head _)]) rfl (fun D g hD hd => OpG.lit1 zf21 zf22 rfl (ev_dep rfl hD (hd 8 (.head _)) rfl rfl) rfl)) (all_cons (Good.ownD rfl rfl (fun g g' h => by funext b; simp only [h 8 (.head _)]) rfl (fun D g hD hd => OpG.append zf21 zf22 (by rfl) (by decide) (ev_base rfl rfl hD) (ev_dep rfl hD (hd 9 (.tail _ (.head _))) rfl rfl) (p := 3) (mk_base rfl (.tail _ (.tail _ (.head _))) hD rfl rfl) (fun w hH => hH.rdAt (mk_at (p := 0) rfl hD (hd 9 (.tail _ (.head _))) rfl rfl (by exact (Nat.succ_pos _)))) ⟨rfl, (by simp [Value.oneCell']), (by omega), (by omega)⟩ (nm := q + 1) rfl (all := (rs.map rxv ++ [Value.slice (g 8).1 G.L (g 8).2])) rfl)) (all_cons (Good.own rfl rfl (fun D g hD hd => OpG.append zf23 zf24 (by rfl) (by decide) (ev_base rfl rfl hD) (ev_base rfl rfl hD) (p := 4) (mk_base rfl (.tail _ (.tail _ (.tail _ (.head _)))) hD rfl rfl) (fun w hH => hH.rdAt (mk_free (p := 6) rfl hD rfl)) ⟨rfl, (by simp [Value.oneCell']), (by omega), (by omega)⟩ (nm := q + 1) rfl (all := (os ++ [(⟨wa, wc, ws⟩ : Rx Wd)]).map rxv) (by rw [List.map_append, List.map_singleton, hw19]))) (all_cons (Good.own rfl rfl (fun D g hD hd => OpG.append zf17 zf18 (by rfl) (by decide) (ev_base rfl rfl hD) (ev_base rfl rfl hD) (p := 5) (mk_base rfl (.tail _ (.tail _ (.tail _ (.tail _ (.head _))))) hD rfl rfl) (fun w hH => hH.rdAt (mk_free (p := 7) rfl hD rfl)) ⟨rfl, (by simp [Value.oneCell']), (by omega), (by omega)⟩ (nm := q + 1) rfl (all := (fs ++ [fv]).map sv) (by rw [List.map_append]; rfl))) (all_cons (Good.quiet rfl (fun _ => rfl) rfl (.tail _ (.tail _ (.tail _ (.tail _ (.tail _ (.head _)))))) (fun _ => trivial) (fun g g' h => rfl) (fun D g hD hd => OpQ.fieldAddr zf30 (ev_base rfl rfl hD)) rfl) all_nil)))))) (fun g _ => ?_)
       show RA _ _ _ _ _ _ _ ((214, Value.slice (g 8).1 G.L (g 8).2) :: (215, .slice (some ⟨(g 9).2, 0, none⟩) 1 1) :: (216, .slice (g 10).1 (q + 1) (g 10).2) :: (221, .slice (g 15).1 (q + 1) (g 15).2) :: (226, .slice (g 20).1 (q + 1) (g 20).2) :: (227, .pointer (some ((⟨b16, 0, none⟩ : Addr).add 3))) :: _) ([.row 22 1 (.slice (some ⟨(g 9).2, 0, none⟩) 1 1) 1 [Value.slice (g 8).1 G.L (g 8).2], dmy, .row 3 1 (.slice (g 8).1 G.L (g 8).2) G.L ((G.rs.getD q rx0).xs.map zo), .row 22 1 (.slice (g 10).1 (q + 1) (g 10).2) (q + 1) (rs.map rxv ++ [Value.slice (g 8).1 G.L (g 8).2]), .row 28 1 (.slice (g 15).1 (q + 1) (g 15).2) (q + 1) ((os ++ [(⟨wa, wc, ws⟩ : Rx Wd)]).map rxv), .row 9 1 (.slice (g 20).1 (q + 1) (g 20).2) (q + 1) ((fs ++ [fv]).map sv), .row 28 1 (.slice (some ⟨b220, 0, none⟩) 1 1) 1 [.slice wa G.L wc], .row 9 1 (.slice (some ⟨b225, 0, none⟩) 1 1) 1 [sv fv]] ++ ([.row 9 1 (.slice wa G.L wc) G.L (ws.map sv), .row 30 7 (vb b16) 1 [zn G.L, zn G.s, sv (G.init ++ P.getD G.s []), .slice na' q nc', .slice oa' q oc', .slice G.ea G.en.length G.ec, .slice fa' q fc'], .row 9 1 (.slice (some ⟨b36, 0, none⟩) G.rs.length G.rs.length) G.rs.length (P.map sv), .row 4 1 (.slice (some ⟨b38, 0, none⟩) G.rs.length G.rs.length) G.rs.length (K.map bo), .row 30 7 (vb b5) 1 (svc G), .row 30 7 (vb b2) 1 [.int .i64 0, .int .i64 0, .string ⟨#[]⟩, .slice none 0 0, .slice none 0 0, .slice none 0 0, .slice none 0 0], .row 30 7 (vb b1) 1 (svc S), .frag fG (svm G)] ++ (fam 3 zo rs ++ fam 9 sv os)))
       generalize (g 8).1 = a214
       generalize (g 8).2 = c214
       generalize (g 10).1 = a216
       generalize (g 10).2 = c216
       generalize (g 15).1 = a221
       generalize (g 15).2 = c221
       generalize (g 20).1 = a226
       generalize (g 20).2 = c226
       refine RA.as (fun _ h => HOk.takeA (A := [_, _, _, _, _, _, _, _]) h (.cons (.there (.there .here)) (.cons (.there (.there .here)) (.cons (.there (.there .here)) (.cons (.there (.there .here)) .nil))))) ?_
       refine RA.tail ?_
       refine RT.f 22 (by kernel_rfl) rfl rfl rfl (OpG.storeRow (a := some ⟨b16, 0, none⟩) zf63 rfl rfl rfl (by repeat (first | exact Upd.here | apply Upd.there)) (by simp)) ?_
       rintro _ _
       refine RT.q 23 (by kernel_rfl) rfl rfl rfl (OpQ.fieldAddr zf34 rfl) ?_
       refine RT.f 24 (by kernel_rfl) rfl rfl rfl (OpG.storeRow (a := some ⟨b16, 0, none⟩) zf64 rfl rfl rfl (by repeat (first | exact Upd.here | apply Upd.there)) (by simp)) ?_
       rintro _ _
       refine RT.q 25 (by kernel_rfl) rfl rfl rfl (OpQ.fieldAddr zf41 rfl) ?_
       refine RT.f 26 (by kernel_rfl) rfl rfl rfl (OpG.storeRow (a := some ⟨b16, 0, none⟩) zf36 rfl rfl rfl (by repeat (first | exact Upd.here | apply Upd.there)) (by simp)) ?_
       rintro _ _
       refine RT.done (by kernel_rfl) ?_
       refine PX.block_n (PX.then_n (CT.region ?_))
       refine Wl.q rfl rfl (OpQ.add rfl rfl (by omega)) ?_
       refine Wl.q rfl rfl (OpQ.move rfl) ?_
       refine Wl.nil ?_
       refine PX.as (fun _ h => HOk.takeA (A := [_, _, _, _, _, _, _, _, _, _, _, _]) h (.cons .here (.cons (.there (.there (.there .here))) (.cons .here (.cons .here (.cons .here (.cons .here (.cons .here (.cons .here (.cons .here (.cons .here (.cons .here (.cons .here .nil))))))))))))) ?_
       refine PX.mem (H' := [rch 3 zo (⟨a214, c214, (G.rs.getD q rx0).xs⟩ : Rx (Option Nat)), rch 9 sv (⟨wa, wc, ws⟩ : Rx Wd), .row 22 1 (.slice a216 (q + 1) c216) (q + 1) ((rs ++ [(⟨a214, c214, (G.rs.getD q rx0).xs⟩ : Rx (Option Nat))]).map rxv), .row 28 1 (.slice a221 (q + 1) c221) (q + 1) ((os ++ [(⟨wa, wc, ws⟩ : Rx Wd)]).map rxv), .row 9 1 (.slice a226 (q + 1) c226) (q + 1) ((fs ++ [fv]).map sv), .row 30 7 (vb b16) 1 [zn G.L, zn G.s, sv (G.init ++ P.getD G.s []), .slice a216 (q + 1) c216, .slice a221 (q + 1) c221, .slice G.ea G.en.length G.ec, .slice a226 (q + 1) c226], .row 9 1 (.slice (some ⟨b36, 0, none⟩) G.rs.length G.rs.length) G.rs.length (P.map sv), .row 4 1 (.slice (some ⟨b38, 0, none⟩) G.rs.length G.rs.length) G.rs.length (K.map bo), .row 30 7 (vb b5) 1 (svc G), .row 30 7 (vb b2) 1 [.int .i64 0, .int .i64 0, .string ⟨#[]⟩, .slice none 0 0, .slice none 0 0, .slice none 0 0, .slice none 0 0], .row 30 7 (vb b1) 1 (svc S), .frag fG (svm G)] ++ (fam 3 zo rs ++ fam 9 sv os)) (.keep (by show Chunk.row _ _ (.slice _ (G.rs.getD q rx0).xs.length _) (G.rs.getD q rx0).xs.length _ = _; rw [hrl]) (.keep (by show Chunk.row _ _ (.slice _ ws.length _) ws.length _ = _; rw [hwl]) (.keep (row_eq (by rw [List.map_append, List.map_singleton, show rxv (⟨a214, c214, (G.rs.getD q rx0).xs⟩ : Rx (Option Nat)) = .slice a214 G.L c214 from by show Value.slice _ (G.rs.getD q rx0).xs.length _ = _; rw [hrl]])) (HSub.refl _)))) ?_
       refine PX.as (fun _ h => HOk.fam2 (r := (⟨a214, c214, (G.rs.getD q rx0).xs⟩ : Rx (Option Nat))) (o := (⟨wa, wc, ws⟩ : Rx Wd)) (A := [.row 22 1 (.slice a216 (q + 1) c216) (q + 1) ((rs ++ [(⟨a214, c214, (G.rs.getD q rx0).xs⟩ : Rx (Option Nat))]).map rxv), .row 28 1 (.slice a221 (q + 1) c221) (q + 1) ((os ++ [(⟨wa, wc, ws⟩ : Rx Wd)]).map rxv), .row 9 1 (.slice a226 (q + 1) c226) (q + 1) ((fs ++ [fv]).map sv), .row 30 7 (vb b16) 1 [zn G.L, zn G.s, sv (G.init ++ P.getD G.s []), .slice a216 (q + 1) c216, .slice a221 (q + 1) c221, .slice G.ea G.en.length G.ec, .slice a226 (q + 1) c226], .row 9 1 (.slice (some ⟨b36, 0, none⟩) G.rs.length G.rs.length) G.rs.length (P.map sv), .row 4 1 (.slice (some ⟨b38, 0, none⟩) G.rs.length G.rs.length) G.rs.length (K.map bo), .row 30 7 (vb b5) 1 (svc G), .row 30 7 (vb b2) 1 [.int .i64 0, .int .i64 0, .string ⟨#[]⟩, .slice none 0 0, .slice none 0 0, .slice none 0 0, .slice none 0 0], .row 30 7 (vb b1) 1 (svc S), .frag fG (svm G)]) h) ?_
       exact PX.loop hK4 (q + 1, a216, c216, rs ++ [(⟨a214, c214, (G.rs.getD q rx0).xs⟩ : Rx (Option Nat))], a221, c221, os ++ [(⟨wa, wc, ws⟩ : Rx Wd)], a226, c226, fs ++ [fv]) ⟨by omega, hno.snoc (rx_getD G.rs q).symm hws hfv⟩ (show G.rs.length - (q + 1) < G.rs.length - q by omega) ⟨rfl, rfl, rfl, rfl, rfl, rfl, rfl, rfl, trivial⟩ (HSub.refl _)
  ·
   have h142 := of_decide_eq_false h142
   obtain rfl : q = G.rs.length := by omega
   have hSV : (⟨G.L, G.s, G.init ++ P.getD G.s [], na', nc', rs, oa', oc', os, G.ea, G.ec, G.en, fa', fc', fs⟩ : Sv).sq = (normD G.sq P) := NoR.done hNo.fit (by rw [show (normD G.sq P).n = G.rs.length from hgn]; exact hno) _ _ _ _ _ _ _ _
   have hval : svv (⟨G.L, G.s, G.init ++ P.getD G.s [], na', nc', rs, oa', oc', os, G.ea, G.ec, G.en, fa', fc', fs⟩ : Sv) = .agg #[zn G.L, zn G.s, sv (G.init ++ P.getD G.s []), .slice na' G.rs.length nc', .slice oa' G.rs.length oc', .slice G.ea G.en.length G.ec, .slice fa' G.rs.length fc'] := by simp only [svv, svc, hrl0, hol0, hfl0]
   refine CT.exit (PX.then_x (PX.then_x (PX.block_x (PX.then_n (CT.seq (CT.seq (CT.region ?_)))))))
   refine Wl.q rfl rfl (OpQ.move rfl) ?_
   refine Wl.know 231 (v' := .bool false) rfl (congrArg Value.bool rfl) ?_
   refine Wl.nil (PX.then_n ?_)
   refine CT.condF rfl ?_
   refine CT.skip (PX.then_n (CT.seq (CT.region ?_)))
   refine Wl.q rfl rfl (OpQ.loadV (b := b16) zf29 zf28 rfl (by repeat (first | exact Has.here | apply Has.there)) (by rfl)) ?_
   refine Wl.know 233 (v' := svv (⟨G.L, G.s, G.init ++ P.getD G.s [], na', nc', rs, oa', oc', os, G.ea, G.ec, G.en, fa', fc', fs⟩ : Sv)) rfl hval.symm ?_
   refine Wl.g rfl rfl (OpG.storeV (b := b2) zf28 rfl rfl rfl rfl (by repeat (first | exact Upd.here | apply Upd.there))) ?_
   rintro _ _
   refine Wl.q rfl rfl (OpQ.assign rfl) ?_
   refine Wl.nil (PX.then_n (CT.ret ?_))
   refine PX.retC2 rfl rfl rfl (by repeat (first | exact Has.here | apply Has.there)) zf29 zf28 (by rfl) (fun w' hH => ?_)
   have h1 := HOk.rot (A := [_, _, _]) (B := [_, _, _, _, _, _]) hH
   have h2 := HOk.bindR (A := [_, _, _, _, _, _]) (L := [.row 22 1 (.slice na' G.rs.length nc') G.rs.length (rs.map rxv), .row 28 1 (.slice oa' G.rs.length oc') G.rs.length (os.map rxv), .row 9 1 (.slice fa' G.rs.length fc') G.rs.length (fs.map sv), .frag fG (svm G)] ++ (fam 3 zo rs ++ fam 9 sv os)) (p := svm (⟨G.L, G.s, G.init ++ P.getD G.s [], na', nc', rs, oa', oc', os, G.ea, G.ec, G.en, fa', fc', fs⟩ : Sv)) h1 (fun w hk => ⟨Rd.of_owns (show World.ownsRow _ _ _ _ _ _ _ from hk (.row 22 1 (.slice na' G.rs.length nc') G.rs.length (rs.map rxv)) (.head _)), rxs_fam (e := 3) fun k hk2 => hk k (List.mem_append_right _ (List.mem_append_left _ hk2)), Rd.of_owns (show World.ownsRow _ _ _ _ _ _ _ from hk (.row 28 1 (.slice oa' G.rs.length oc') G.rs.length (os.map rxv)) (.tail _ (.head _))), rxs_fam (e := 9) fun k hk2 => hk k (List.mem_append_right _ (List.mem_append_right _ hk2)), ((hk (.frag fG (svm G)) (.tail _ (.tail _ (.tail _ (.head _))))).2 w (fun _ _ => rfl)).e, Rd.of_owns (show World.ownsRow _ _ _ _ _ _ _ from hk (.row 9 1 (.slice fa' G.rs.length fc') G.rs.length (fs.map sv)) (.tail _ (.tail _ (.head _))))⟩)
   exact ⟨((⟨G.L, G.s, G.init ++ P.getD G.s [], na', nc', rs, oa', oc', os, G.ea, G.ec, G.en, fa', fc', fs⟩ : Sv), _), ⟨by rw [hSV]; exact hIN, by rw [hSV]; exact hNo.mono hGM2⟩, rfl, (h2.take (.cons .here .nil)).post⟩

end Go.Proofs.Ytamolakhpcofhaa

