/-
  What functions of the program compute, each by its walk. Conditions: those that each theorem names.
-/
import Derived.Test.YtamolakhpcofhaaMod1
import Derived.Test.YtamolakhpcofhaaEng1
import Derived.Test.YtamolakhpcofhaaXE35
import Derived.Test.YtamolakhpcofhaaXE22
import Derived.Test.YtamolakhpcofhaaXE10
import Derived.Test.YtamolakhpcofhaaMod
import Derived.Test.YtamolakhpcofhaaXC1
import Derived.Test.YtamolakhpcofhaaXE4
import Derived.Test.YtamolakhpcofhaaEng
import Derived.Test.YtamolakhpcofhaaXF
set_option linter.unusedSimpArgs false
namespace Go.Proofs.Ytamolakhpcofhaa
open Go Go.Eng Go.Am Go.Sq
open Go.Tp (zi)
open Go.Tl (mayL Wd okW okB bo)

theorem XJ_mkS : MapKey Try.prog 9 sv := MapKey.str (by kernel_rfl)
theorem XJ_mkI : MapKey Try.prog 3 (fun n : Int => .int .i64 n) := MapKey.int (by kernel_rfl)
set_option maxRecDepth 100000 in
set_option maxHeartbeats 4000000 in
/-- semigroup/semigroupref42.Minimal -/
theorem minimalR_spec (w : World) {M : Nat} (S : Sv) (hS : Stays [] w (svm S)) (hv : S.sq.Ok M) (hM4 : M ≤ 4096) (hMn : (S.sq.n + 1) * M ≤ 4096) (h200 : ∀ g, IsNorm S.sq g → g.n ≤ 200) : Calls Try.prog 21 #[svv S] w (fun e w' => ∃ i : Sv, (IsMini S.sq i.sq ∧ i.sq.Ok ((S.sq.n + 1) * M) ∧ i.sq.n ≤ S.sq.n) ∧ e = .returned (.tuple #[svv i, .int .i64 0]) ∧ Post [] (svH i 3 22 4 9 28) w w') := by
 obtain ⟨hb1, hb2, hb3, hb4⟩ := hv.bnd
 obtain ⟨hlo, hle, hlf⟩ := hv.lens
 have hns : 0 < S.rs.length → S.na.isSome = true := fun h => hS.now.n.isSome (j := 0) (by rw [List.length_map]; exact h)
 have hos : 0 < S.os.length → S.oa.isSome = true := fun h => hS.now.o.isSome (j := 0) (by rw [List.length_map]; exact h)
 have hes : 0 < S.en.length → S.ea.isSome = true := fun h => hS.now.e.isSome (j := 0) (by rw [List.length_map]; exact h)
 have hfs : 0 < S.fi.length → S.fa.isSome = true := fun h => hS.now.f.isSome (j := 0) (by rw [List.length_map]; exact h)
 have hrs : ∀ q, q < S.rs.length → 0 < (S.rs.getD q rx0).xs.length → (S.rs.getD q rx0).a.isSome = true := fun q hq h => (hS.now.r _ (getDm hq)).isSome (j := 0) (by rw [List.length_map]; exact h)
 have hus : ∀ q, q < S.os.length → 0 < (S.os.getD q rx0).xs.length → (S.os.getD q rx0).a.isSome = true := fun q hq h => (hS.now.u _ (getDm hq)).isSome (j := 0) (by rw [List.length_map]; exact h)
 refine enter (args := [svv S]) [] 210 Try.func21 rfl rfl rfl ?_
 refine CT.seq (CT.region ?_)
 refine Wl.g rfl rfl (OpG.box (size := 7) rfl rfl rfl) ?_
 rintro b1 _
 refine Wl.g rfl rfl (OpG.alloc (zs := [.int .i64 0, .int .i64 0, .string ⟨#[]⟩, .slice none 0 0, .slice none 0 0, .slice none 0 0, .slice none 0 0]) zf19 rfl rfl) ?_
 rintro b2 _
 refine Wl.q rfl rfl (OpQ.assign rfl) ?_
 refine Wl.nil (PX.then_n (CT.seq (CT.region ?_)))
 refine Wl.q rfl rfl (OpQ.loadV (b := b1) zf29 zf28 rfl (by repeat (first | exact Has.here | apply Has.there)) (by rfl)) ?_
 refine Wl.know 26 (v' := svv S) rfl rfl ?_
 refine Wl.g rfl rfl (OpG.callX zf98 rfl .nil (fun _ => (.cons .nil)) (fun w hH hp => normalR_spec w S (hH.stays0 hS) hv hM4 hMn)) ?_
 rintro ⟨G, fG⟩ hG
 dsimp only at hG
 obtain ⟨hGN, hGM⟩ := hG
 have hGo := hGM.mono hMn
 obtain ⟨hGb, hGe, hGL⟩ := IsNorm.bis hGN hGo
 obtain ⟨gb1, gb2, gb3, gb4⟩ := hGo.bnd
 obtain ⟨glo, gle, glf⟩ := hGo.lens
 refine Wl.fact (p := Nn G) (fun w hH => svm.nn (hH.fragp .here)) (fun gnn => ?_)
 have hgn : G.sq.n = G.rs.length := G.n_eq
 have hgN : G.rs.length ≤ 250 := by have := h200 _ hGN; omega
 refine Wl.q rfl rfl (OpQ.move rfl) ?_
 refine Wl.q rfl rfl (OpQ.extract rfl rfl) ?_
 refine Wl.know 28 (v' := svv G) rfl rfl ?_
 refine Wl.q rfl rfl (OpQ.extract rfl rfl) ?_
 refine Wl.know 29 (v' := .int .i64 ((0 : Nat) : Int)) rfl rfl ?_
 refine Wl.g rfl rfl (OpG.alloc (zs := [.int .i64 0, .int .i64 0, .string ⟨#[]⟩, .slice none 0 0, .slice none 0 0, .slice none 0 0, .slice none 0 0]) zf19 rfl rfl) ?_
 rintro b4 _
 refine Wl.g rfl rfl (OpG.storeV (b := b4) zf28 rfl rfl rfl rfl (by repeat (first | exact Upd.here | apply Upd.there))) ?_
 rintro _ _
 refine Wl.q rfl rfl (OpQ.assign rfl) ?_
 refine Wl.nil (PX.then_n (CT.seq (CT.seq (CT.region ?_))))
 refine Wl.q rfl rfl (OpQ.move rfl) ?_
 refine Wl.q rfl rfl (OpQ.neq rfl rfl) ?_
 refine Wl.know 31 (v' := .bool false) rfl (congrArg Value.bool (by decide)) ?_
 refine Wl.nil (PX.then_n ?_)
 refine CT.condF rfl ?_
 refine CT.skip (PX.then_n (CT.seq (CT.region ?_)))
 refine Wl.q rfl rfl (OpQ.fieldAddr zf30 rfl) ?_
 refine Wl.q rfl rfl (OpQ.loadF (b := b4) zf31 rfl (by repeat (first | exact Has.here | apply Has.there)) (by rfl)) ?_
 refine Wl.q rfl rfl (OpQ.len zf21 rfl) ?_
 refine Wl.q rfl rfl (OpQ.assign rfl) ?_
 refine Wl.nil (PX.then_n (CT.seq (CT.region ?_)))
 refine Wl.q rfl rfl (OpQ.move rfl) ?_
 refine Wl.g rfl rfl (OpG.make1 zf0 zf16 rfl rfl rfl rfl (by omega) (by omega)) ?_
 rintro b38 _
 refine Wl.q rfl rfl (OpQ.assign rfl) ?_
 refine Wl.nil (PX.then_n (CT.seq (CT.seq (CT.region ?_))))
 refine Wl.q rfl rfl (OpQ.assign rfl) ?_
 refine Wl.nil (PX.then_n (CT.block ?_))
 refine CT.loop (ι := List Nat × Nat × Nat) (fun (c, m, cb) => RmI G.sq c m) (fun (c, m, cb) => [(2, .pointer (some ⟨b2, 0, none⟩)), (4, .pointer (some ⟨b4, 0, none⟩)), (6, .int .i64 ((G.rs.length : Nat) : Int)), (7, .slice (some ⟨cb, 0, none⟩) G.rs.length G.rs.length), (8, .int .i64 ((m : Nat) : Int))]) (fun (c, m, cb) => [.row 3 1 (.slice (some ⟨cb, 0, none⟩) G.rs.length G.rs.length) G.rs.length ((c).map zn), .row 30 7 (vb b4) 1 (svc G), .frag fG (svm G), .row 30 7 (vb b2) 1 [.int .i64 0, .int .i64 0, .string ⟨#[]⟩, .slice none 0 0, .slice none 0 0, .slice none 0 0, .slice none 0 0], .row 30 7 (vb b1) 1 (svc S)]) (fun (c, m, cb) => G.rs.length + 1 - m) (List.replicate G.sq.n 0, 0, b38) (RmI.start _) ⟨rfl, rfl, rfl, rfl, rfl, trivial⟩ (.keep (row_eq (by rw [List.map_replicate, hgn]; rfl)) (HSub.refl _)) (fun ⟨c, m, cb⟩ hR K0 hK0 => ?_)
 dsimp only
 have hcl : c.length = G.rs.length := hR.len.trans hgn
 have hcc : ClsQ G.sq (lab (rks G.sq c m G.rs.length)) ∨ True := .inr trivial
 have hlt : ∀ q, q < G.rs.length → c.getD q 0 < 255 := fun q hq => hR.lt q (by rw [hgn]; exact hq)
 refine CT.block (CT.seq (CT.region ?_))
 refine Wl.g rfl rfl (OpG.makeMap (f := sv)) ?_
 rintro b39 _
 refine Wl.q rfl rfl (OpQ.assign rfl) ?_
 refine Wl.nil (PX.then_n (CT.seq (CT.region ?_)))
 refine Wl.q rfl rfl (OpQ.move rfl) ?_
 refine Wl.g rfl rfl (OpG.make1 zf0 zf16 rfl rfl rfl rfl (by omega) (by omega)) ?_
 rintro b41 _
 refine Wl.q rfl rfl (OpQ.assign rfl) ?_
 refine Wl.nil (PX.then_n (CT.seq (CT.seq (CT.region ?_))))
 refine Wl.q rfl rfl (OpQ.fieldAddr zf30 rfl) ?_
 refine Wl.q rfl rfl (OpQ.loadF (b := b4) zf31 rfl (by repeat (first | exact Has.here | apply Has.there)) (by rfl)) ?_
 refine Wl.q rfl rfl (OpQ.len zf21 rfl) ?_
 refine Wl.q rfl rfl (OpQ.move rfl) ?_
 refine Wl.nil (PX.then_n (CT.block ?_))
 refine CT.loop (ι := Nat) (fun q => q ≤ G.rs.length) (fun q => [(2, .pointer (some ⟨b2, 0, none⟩)), (4, .pointer (some ⟨b4, 0, none⟩)), (6, .int .i64 ((G.rs.length : Nat) : Int)), (7, .slice (some ⟨cb, 0, none⟩) G.rs.length G.rs.length), (8, .int .i64 ((m : Nat) : Int)), (9, .map (some b39)), (10, .slice (some ⟨b41, 0, none⟩) G.rs.length G.rs.length), (44, .int .i64 ((G.rs.length : Nat) : Int)), (45, .int .i64 ((q : Nat) : Int))]) (fun q => [.row 3 1 (.slice (some ⟨b41, 0, none⟩) G.rs.length G.rs.length) G.rs.length ((labP (rks G.sq c m q) G.rs.length).map zn), .blk b39 (mapO sv (itA 0 (ded (rks G.sq c m q)))), .row 3 1 (.slice (some ⟨cb, 0, none⟩) G.rs.length G.rs.length) G.rs.length ((c).map zn), .row 30 7 (vb b4) 1 (svc G), .frag fG (svm G), .row 30 7 (vb b2) 1 [.int .i64 0, .int .i64 0, .string ⟨#[]⟩, .slice none 0 0, .slice none 0 0, .slice none 0 0, .slice none 0 0], .row 30 7 (vb b1) 1 (svc S)]) (fun q => G.rs.length - q) 0 (Nat.zero_le _) ⟨rfl, rfl, rfl, rfl, rfl, rfl, rfl, rfl, rfl, trivial⟩ (.keep (row_eq (labP_nil _)) (.keep rfl (HSub.refl _))) (fun q hq K1 hK1 => ?_)
 refine CT.seq (CT.region ?_)
 refine Wl.q rfl rfl (OpQ.lss rfl rfl) ?_
 refine Wl.nil (PX.then_n (CT.seq ?_))
 refine CT.cond rfl (fun h46 => ?_) (fun h46 => ?_)
 ·
  have h46 := of_decide_eq_true h46
  have hqN : q < G.rs.length := by omega
  have hqn : q < G.sq.n := by rw [hgn]; exact hqN
  have hrl := hGo.rlen hqN
  have hol := hGo.olen hqN
  have hfl := (hGo.tf q hqn).1
  have hkl := fun x hx => rkey_len (c := c) (m := m) hGo hqn x hx
  have hcq := hlt q hqN
  have hrst : (rst G.sq q).length ≤ 4100 := by have := rst_len (c := c) (m := m) hGo hqn; rw [List.length_append] at this; omega
  refine CT.skip (PX.then_n (CT.seq (CT.block (CT.seq (CT.region ?_)))))
  refine Wl.q rfl rfl (OpQ.move rfl) ?_
  refine Wl.q rfl rfl (OpQ.assign rfl) ?_
  refine Wl.nil (PX.then_n (CT.seq (CT.region ?_)))
  refine Wl.q rfl rfl (OpQ.fieldAddr zf41 rfl) ?_
  refine Wl.q rfl rfl (OpQ.loadF (b := b4) zf37 rfl (by repeat (first | exact Has.here | apply Has.there)) (by rfl)) ?_
  refine Wl.q rfl rfl (OpQ.move rfl) ?_
  refine Wl.q rfl rfl (OpQ.index1 zf17 zf38 rfl rfl (by omega) (gnn.f (by omega))) ?_
  refine Wl.q rfl rfl (OpQ.loadG zf39 rfl (fun w hH => (hH.fragp (.there (.there (.there (.there .here))))).f) (getMap sv G.fi [] (j := q) (by omega))) ?_
  refine Wl.know 52 (v' := sv (G.sq.f q)) rfl rfl ?_
  refine Wl.q rfl rfl (OpQ.concat rfl rfl (by simp only [List.length_append, List.length_cons, List.length_nil, cbt_len]; omega)) ?_
  refine Wl.know 53 (v' := sv (G.sq.f q ++ [124])) rfl rfl ?_
  refine Wl.q rfl rfl (OpQ.assign rfl) ?_
  refine Wl.nil (PX.then_n ?_)
  refine CT.cut (ι := Unit) (Φ := fun _ => True) (E' := fun _ => [(2, .pointer (some ⟨b2, 0, none⟩)), (4, .pointer (some ⟨b4, 0, none⟩)), (6, .int .i64 ((G.rs.length : Nat) : Int)), (7, .slice (some ⟨cb, 0, none⟩) G.rs.length G.rs.length), (8, .int .i64 ((m : Nat) : Int)), (9, .map (some b39)), (10, .slice (some ⟨b41, 0, none⟩) G.rs.length G.rs.length), (44, .int .i64 ((G.rs.length : Nat) : Int)), (45, .int .i64 ((q : Nat) : Int)), (11, .int .i64 ((q : Nat) : Int)), (12, sv (rst G.sq q))]) (H' := fun _ => [.row 3 1 (.slice (some ⟨b41, 0, none⟩) G.rs.length G.rs.length) G.rs.length ((labP (rks G.sq c m q) G.rs.length).map zn), .blk b39 (mapO sv (itA 0 (ded (rks G.sq c m q)))), .row 3 1 (.slice (some ⟨cb, 0, none⟩) G.rs.length G.rs.length) G.rs.length ((c).map zn), .row 30 7 (vb b4) 1 (svc G), .frag fG (svm G), .row 30 7 (vb b2) 1 [.int .i64 0, .int .i64 0, .string ⟨#[]⟩, .slice none 0 0, .slice none 0 0, .slice none 0 0, .slice none 0 0], .row 30 7 (vb b1) 1 (svc S)]) (fun K2 hK2 => ?_) (fun _ _ => ?_)
  ·
   refine CT.seq (CT.region ?_)
   refine Wl.q rfl rfl (OpQ.fieldAddr zf42 rfl) ?_
   refine Wl.q rfl rfl (OpQ.loadF (b := b4) zf43 rfl (by repeat (first | exact Has.here | apply Has.there)) (by rfl)) ?_
   refine Wl.q rfl rfl (OpQ.move rfl) ?_
   refine Wl.q rfl rfl (OpQ.index1 zf25 zf44 rfl rfl (by omega) (gnn.e (by omega))) ?_
   refine Wl.q rfl rfl (OpQ.loadG zf45 rfl (fun w hH => (hH.fragp (.there (.there (.there (.there .here))))).e) (getMap bo G.en false (j := q) (by omega))) ?_
   refine Wl.know 58 (v' := .bool (G.sq.e q)) rfl rfl ?_
   refine Wl.nil (PX.then_n ?_)
   refine CT.cond rfl (fun h58 => ?_) (fun h58 => ?_)
   ·
    refine CT.region ?_
    refine Wl.q rfl rfl (OpQ.move rfl) ?_
    refine Wl.q rfl rfl (OpQ.concat rfl rfl (by simp only [List.length_append, List.length_cons, List.length_nil, cbt_len]; omega)) ?_
    refine Wl.know 60 (v' := sv ((G.sq.f q ++ [124]) ++ [33])) rfl rfl ?_
    refine Wl.q rfl rfl (OpQ.assign rfl) ?_
    refine Wl.nil ?_
    exact PX.cut hK2 () trivial ⟨rfl, rfl, rfl, rfl, rfl, rfl, rfl, rfl, rfl, rfl, (lkV rfl (by rw [rst_t h58])), trivial⟩ (HSub.refl _)
   ·
    refine CT.skip ?_
    exact PX.cut hK2 () trivial ⟨rfl, rfl, rfl, rfl, rfl, rfl, rfl, rfl, rfl, rfl, (lkV rfl (by rw [rst_f h58])), trivial⟩ (HSub.refl _)
  ·
   refine CT.cut (ι := Unit) (Φ := fun _ => True) (E' := fun _ => [(2, .pointer (some ⟨b2, 0, none⟩)), (4, .pointer (some ⟨b4, 0, none⟩)), (6, .int .i64 ((G.rs.length : Nat) : Int)), (7, .slice (some ⟨cb, 0, none⟩) G.rs.length G.rs.length), (8, .int .i64 ((m : Nat) : Int)), (9, .map (some b39)), (10, .slice (some ⟨b41, 0, none⟩) G.rs.length G.rs.length), (44, .int .i64 ((G.rs.length : Nat) : Int)), (45, .int .i64 ((q : Nat) : Int)), (11, .int .i64 ((q : Nat) : Int)), (12, sv (rkey G.sq c m q 0))]) (H' := fun _ => [.row 3 1 (.slice (some ⟨b41, 0, none⟩) G.rs.length G.rs.length) G.rs.length ((labP (rks G.sq c m q) G.rs.length).map zn), .blk b39 (mapO sv (itA 0 (ded (rks G.sq c m q)))), .row 3 1 (.slice (some ⟨cb, 0, none⟩) G.rs.length G.rs.length) G.rs.length ((c).map zn), .row 30 7 (vb b4) 1 (svc G), .frag fG (svm G), .row 30 7 (vb b2) 1 [.int .i64 0, .int .i64 0, .string ⟨#[]⟩, .slice none 0 0, .slice none 0 0, .slice none 0 0, .slice none 0 0], .row 30 7 (vb b1) 1 (svc S)]) (fun K3 hK3 => ?_) (fun _ _ => ?_)
   ·
    refine CT.seq (CT.region ?_)
    refine Wl.q rfl rfl (OpQ.move rfl) ?_
    refine Wl.q rfl rfl (OpQ.gtr rfl rfl) ?_
    refine Wl.nil (PX.then_n ?_)
    refine CT.cond rfl (fun h62 => ?_) (fun h62 => ?_)
    ·
     have h62 := of_decide_eq_true h62
     refine CT.draw 16 zf6 ?_
     refine RA.q 0 (by kernel_rfl) rfl rfl rfl (.refl _) (OpQ.move rfl) ?_
     refine RA.q 1 (by kernel_rfl) rfl rfl rfl (.refl _) (OpQ.move rfl) ?_
     refine RA.q 2 (by kernel_rfl) rfl rfl rfl (.refl _) (OpQ.move rfl) ?_
     refine RA.q 3 (by kernel_rfl) rfl rfl rfl (.refl _) (OpQ.index1 zf0 zf1 rfl rfl (by omega) rfl) ?_
     refine RA.q 4 (by kernel_rfl) rfl rfl rfl (.refl _) (OpQ.loadRow zf8 rfl (.there (.there .here)) (getMap zn c 0 (j := q) (by omega))) ?_
     refine RA.q 5 (by kernel_rfl) rfl rfl rfl (.refl _) (OpQ.conv rfl (conv_i64_u8z zf13 zf3 _)) ?_
     refine RA.know 68 (v' := (bv (UInt8.ofNat ((((c.getD q 0 : Nat) : Int)) % 256).toNat))) rfl (congrArg (Value.int .u8) (u8z _).symm) ?_
     refine RA.q 6 (by kernel_rfl) rfl rfl rfl (.refl _) (OpQ.move rfl) ?_
     refine RA.q 7 (by kernel_rfl) rfl rfl rfl (.refl _) (OpQ.move rfl) ?_
     refine RA.q 8 (by kernel_rfl) rfl rfl rfl (.refl _) (OpQ.index1 zf0 zf1 rfl rfl (by omega) rfl) ?_
     refine RA.q 9 (by kernel_rfl) rfl rfl rfl (.refl _) (OpQ.loadRow zf8 rfl (.there (.there .here)) (getMap zn c 0 (j := q) (by omega))) ?_
     refine RA.q 10 (by kernel_rfl) rfl rfl rfl (.refl _) (OpQ.ishz (n := 8) rfl rfl (by decide)) ?_
     refine RA.know 73 (v' := .int .i64 (((c.getD q 0 : Nat) : Int) / 2 ^ 8)) rfl rfl ?_
     refine RA.q 11 (by kernel_rfl) rfl rfl rfl (.refl _) (OpQ.conv rfl (conv_i64_u8z zf13 zf3 _)) ?_
     refine RA.know 74 (v' := (bv (UInt8.ofNat ((((c.getD q 0 : Nat) : Int) / 2 ^ 8) % 256).toNat))) rfl (congrArg (Value.int .u8) (u8z _).symm) ?_
     refine RA.f 12 (by kernel_rfl) rfl rfl rfl (OpG.lit2 zf2 zf14 rfl rfl rfl rfl rfl) (fun _ _ => (.cons _ (.refl _))) ?_
     rintro b75 _
     refine RA.f 13 (by kernel_rfl) rfl rfl rfl (OpG.ofQ (OpQ.convBS (l := cbt ((c.getD q 0 : Nat) : Int)) zf2 zf3 zf4 rfl (fun w hH => hH.rd .here))) (fun _ _ => (.cons _ (.refl _))) ?_
     rintro _ _
     refine RA.know 76 (v' := sv (cbt ((c.getD q 0 : Nat) : Int))) rfl rfl ?_
     refine RA.q 14 (by kernel_rfl) rfl rfl rfl (.cons _ (.refl _)) (OpQ.concat rfl rfl (by simp only [List.length_append, List.length_cons, List.length_nil, cbt_len]; omega)) ?_
     refine RA.know 77 (v' := sv (rst G.sq q ++ cbt ((c.getD q 0 : Nat) : Int))) rfl rfl ?_
     refine RA.q 15 (by kernel_rfl) rfl rfl rfl (.cons _ (.refl _)) (OpQ.assign rfl) ?_
     refine RA.tail ?_
     refine RT.done (by kernel_rfl) ?_
     exact PX.cut hK3 () trivial ⟨rfl, rfl, rfl, rfl, rfl, rfl, rfl, rfl, rfl, rfl, (lkV rfl (by rw [rkey_zero, rcl_t (by omega)])), trivial⟩ (.drop (HSub.refl _))
    ·
     have h62 := of_decide_eq_false h62
     refine CT.skip ?_
     exact PX.cut hK3 () trivial ⟨rfl, rfl, rfl, rfl, rfl, rfl, rfl, rfl, rfl, rfl, (lkV rfl (by rw [rkey_zero, rcl_f (by omega), List.append_nil])), trivial⟩ (HSub.refl _)
   ·
    refine CT.seq (CT.seq (CT.region ?_))
    refine Wl.q rfl rfl (OpQ.fieldAddr zf30 rfl) ?_
    refine Wl.q rfl rfl (OpQ.loadF (b := b4) zf31 rfl (by repeat (first | exact Has.here | apply Has.there)) (by rfl)) ?_
    refine Wl.q rfl rfl (OpQ.move rfl) ?_
    refine Wl.q rfl rfl (OpQ.index1 zf21 zf32 rfl rfl (by omega) (gnn.n (by omega))) ?_
    refine Wl.q rfl rfl (OpQ.loadG zf10 rfl (fun w hH => (hH.fragp (.there (.there (.there (.there .here))))).n) (getMap rxv G.rs rx0 (j := q) (by omega))) ?_
    refine Wl.q rfl rfl (OpQ.len zf0 rfl) ?_
    refine Wl.know 83 (v' := .int .i64 ((G.L : Nat) : Int)) rfl (congrArg (Value.int .i64) (by rw [hrl])) ?_
    refine Wl.q rfl rfl (OpQ.move rfl) ?_
    refine Wl.nil (PX.then_n (CT.block ?_))
    refine CT.loop (ι := Nat) (fun x => x ≤ G.L) (fun x => [(2, .pointer (some ⟨b2, 0, none⟩)), (4, .pointer (some ⟨b4, 0, none⟩)), (6, .int .i64 ((G.rs.length : Nat) : Int)), (7, .slice (some ⟨cb, 0, none⟩) G.rs.length G.rs.length), (8, .int .i64 ((m : Nat) : Int)), (9, .map (some b39)), (10, .slice (some ⟨b41, 0, none⟩) G.rs.length G.rs.length), (44, .int .i64 ((G.rs.length : Nat) : Int)), (45, .int .i64 ((q : Nat) : Int)), (11, .int .i64 ((q : Nat) : Int)), (12, sv (rkey G.sq c m q x)), (82, rxv (G.rs.getD q rx0)), (83, .int .i64 ((G.L : Nat) : Int)), (84, .int .i64 ((x : Nat) : Int))]) (fun _ => [.row 3 1 (.slice (some ⟨b41, 0, none⟩) G.rs.length G.rs.length) G.rs.length ((labP (rks G.sq c m q) G.rs.length).map zn), .blk b39 (mapO sv (itA 0 (ded (rks G.sq c m q)))), .row 3 1 (.slice (some ⟨cb, 0, none⟩) G.rs.length G.rs.length) G.rs.length ((c).map zn), .row 30 7 (vb b4) 1 (svc G), .frag fG (svm G), .row 30 7 (vb b2) 1 [.int .i64 0, .int .i64 0, .string ⟨#[]⟩, .slice none 0 0, .slice none 0 0, .slice none 0 0, .slice none 0 0], .row 30 7 (vb b1) 1 (svc S)]) (fun x => G.L - x) 0 (Nat.zero_le _) ⟨rfl, rfl, rfl, rfl, rfl, rfl, rfl, rfl, rfl, rfl, rfl, rfl, rfl, rfl, trivial⟩ (HSub.refl _) (fun x hx K4 hK4 => ?_)
    refine CT.seq (CT.region ?_)
    refine Wl.q rfl rfl (OpQ.lss rfl rfl) ?_
    refine Wl.nil (PX.then_n (CT.seq ?_))
    refine CT.cond rfl (fun h85 => ?_) (fun h85 => ?_)
    ·
     have h85 := of_decide_eq_true h85
     have hxL : x < G.L := by omega
     have hxg : x < G.sq.L := hxL
     have hot := (hGo.to' q x hqn hxg).1
     have hkx := hkl x hx
     have hrpl : (rpc G.sq c q x).length ≤ 4100 := by simp only [rpc, List.length_append, List.length_cons, List.length_nil, cbt_len]; omega
     refine CT.skip (PX.then_n (CT.seq (CT.block (CT.seq (CT.region ?_)))))
     refine Wl.q rfl rfl (OpQ.move rfl) ?_
     refine Wl.q rfl rfl (OpQ.index1 zf0 zf1 rfl rfl (by omega) (gnn.r q hqN (by omega))) ?_
     refine Wl.q rfl rfl (OpQ.loadG zf8 rfl (fun w hH => (hH.fragp (.there (.there (.there (.there .here))))).r _ (getDm (d := rx0) (show q < G.rs.length by omega))) (getMap zo (G.rs.getD q rx0).xs none (j := x) (by omega))) ?_
     refine Wl.know 88 (v' := zo (G.sq.to q x)) rfl (congrArg zo (G.to_eq q x).symm) ?_
     refine Wl.q rfl rfl (OpQ.assign rfl) ?_
     refine Wl.q rfl rfl (OpQ.assign rfl) ?_
     refine Wl.nil (PX.then_n (CT.seq (CT.region ?_)))
     refine Wl.q rfl rfl (OpQ.assign rfl) ?_
     refine Wl.nil (PX.then_n ?_)
     refine CT.cut (ι := Unit) (Φ := fun _ => True) (E' := fun _ => [(2, .pointer (some ⟨b2, 0, none⟩)), (4, .pointer (some ⟨b4, 0, none⟩)), (6, .int .i64 ((G.rs.length : Nat) : Int)), (7, .slice (some ⟨cb, 0, none⟩) G.rs.length G.rs.length), (8, .int .i64 ((m : Nat) : Int)), (9, .map (some b39)), (10, .slice (some ⟨b41, 0, none⟩) G.rs.length G.rs.length), (44, .int .i64 ((G.rs.length : Nat) : Int)), (45, .int .i64 ((q : Nat) : Int)), (11, .int .i64 ((q : Nat) : Int)), (12, sv (rkey G.sq c m q x)), (82, rxv (G.rs.getD q rx0)), (83, .int .i64 ((G.L : Nat) : Int)), (84, .int .i64 ((x : Nat) : Int)), (13, .int .i64 ((x : Nat) : Int)), (15, .int .i64 (tz G.sq c q x))]) (H' := fun _ => [.row 3 1 (.slice (some ⟨b41, 0, none⟩) G.rs.length G.rs.length) G.rs.length ((labP (rks G.sq c m q) G.rs.length).map zn), .blk b39 (mapO sv (itA 0 (ded (rks G.sq c m q)))), .row 3 1 (.slice (some ⟨cb, 0, none⟩) G.rs.length G.rs.length) G.rs.length ((c).map zn), .row 30 7 (vb b4) 1 (svc G), .frag fG (svm G), .row 30 7 (vb b2) 1 [.int .i64 0, .int .i64 0, .string ⟨#[]⟩, .slice none 0 0, .slice none 0 0, .slice none 0 0, .slice none 0 0], .row 30 7 (vb b1) 1 (svc S)]) (fun K5 hK5 => ?_) (fun _ _ => ?_)
     ·
      refine CT.seq (CT.region ?_)
      refine Wl.q rfl rfl (OpQ.move rfl) ?_
      refine Wl.q rfl rfl (OpQ.geq rfl rfl) ?_
      refine Wl.nil (PX.then_n ?_)
      refine CT.cond rfl (fun h90 => ?_) (fun h90 => ?_)
      ·
       have h90 := of_decide_eq_true h90
       obtain ⟨r, hto⟩ := oi_some (show oi (G.sq.to q x) ≠ -1 by omega)
       have hr := hGo.lt q x r hqn hxg hto
       have hrn : r < G.rs.length := by rw [← hgn]; exact hr
       refine CT.know 14 (v' := zn r) rfl (by rw [hto]; rfl) ?_
       refine CT.region ?_
       refine Wl.q rfl rfl (OpQ.move rfl) ?_
       refine Wl.q rfl rfl (OpQ.move rfl) ?_
       refine Wl.q rfl rfl (OpQ.index1 zf0 zf1 rfl rfl (by omega) rfl) ?_
       refine Wl.q rfl rfl (OpQ.loadRow zf8 rfl (.there (.there .here)) (getMap zn c 0 (j := r) (by omega))) ?_
       refine Wl.q rfl rfl (OpQ.assign rfl) ?_
       refine Wl.nil ?_
       exact PX.cut hK5 () trivial ⟨rfl, rfl, rfl, rfl, rfl, rfl, rfl, rfl, rfl, rfl, rfl, rfl, rfl, rfl, rfl, (lkV rfl (congrArg (Value.int .i64) (tz_some hto).symm)), trivial⟩ (HSub.refl _)
      ·
       have h90 := of_decide_eq_false h90
       have hno : G.sq.to q x = none := oi_neg.1 (by have := oi_ge (G.sq.to q x); omega)
       refine CT.skip ?_
       exact PX.cut hK5 () trivial ⟨rfl, rfl, rfl, rfl, rfl, rfl, rfl, rfl, rfl, rfl, rfl, rfl, rfl, rfl, rfl, (lkV rfl (congrArg (Value.int .i64) (tz_none hno).symm)), trivial⟩ (HSub.refl _)
     ·
      refine CT.draw 21 zf6 ?_
      refine RA.q 0 (by kernel_rfl) rfl rfl rfl (.refl _) (OpQ.move rfl) ?_
      refine RA.q 1 (by kernel_rfl) rfl rfl rfl (.refl _) (OpQ.fieldAddr zf34 rfl) ?_
      refine RA.q 2 (by kernel_rfl) rfl rfl rfl (.refl _) (OpQ.loadF (b := b4) zf35 rfl (by repeat (first | exact Has.here | apply Has.there)) (by rfl)) ?_
      refine RA.q 3 (by kernel_rfl) rfl rfl rfl (.refl _) (OpQ.move rfl) ?_
      refine RA.q 4 (by kernel_rfl) rfl rfl rfl (.refl _) (OpQ.index1 zf23 zf36 rfl rfl (by omega) (gnn.o (by omega))) ?_
      refine RA.q 5 (by kernel_rfl) rfl rfl rfl (.refl _) (OpQ.loadG zf37 rfl (fun w hH => (hH.fragp (.there (.there (.there (.there .here))))).o) (getMap rxv G.os rx0 (j := q) (by omega))) ?_
      refine RA.q 6 (by kernel_rfl) rfl rfl rfl (.refl _) (OpQ.move rfl) ?_
      refine RA.q 7 (by kernel_rfl) rfl rfl rfl (.refl _) (OpQ.index1 zf17 zf38 rfl rfl (by omega) (gnn.u q (by omega) (by omega))) ?_
      refine RA.q 8 (by kernel_rfl) rfl rfl rfl (.refl _) (OpQ.loadG zf39 rfl (fun w hH => (hH.fragp (.there (.there (.there (.there .here))))).u _ (getDm (d := rx0) (show q < G.os.length by omega))) (getMap sv (G.os.getD q rx0).xs [] (j := x) (by omega))) ?_
      refine RA.know 103 (v' := sv (G.sq.o q x)) rfl (congrArg sv (G.o_eq q x).symm) ?_
      refine RA.q 9 (by kernel_rfl) rfl rfl rfl (.refl _) (OpQ.concat rfl rfl (by simp only [List.length_append, List.length_cons, List.length_nil, cbt_len]; omega)) ?_
      refine RA.know 104 (v' := sv ([124] ++ G.sq.o q x)) rfl rfl ?_
      refine RA.q 10 (by kernel_rfl) rfl rfl rfl (.refl _) (OpQ.concat rfl rfl (by simp only [List.length_append, List.length_cons, List.length_nil, cbt_len]; omega)) ?_
      refine RA.know 105 (v' := sv (([124] ++ G.sq.o q x) ++ [124])) rfl rfl ?_
      refine RA.q 11 (by kernel_rfl) rfl rfl rfl (.refl _) (OpQ.move rfl) ?_
      refine RA.q 12 (by kernel_rfl) rfl rfl rfl (.refl _) (OpQ.conv rfl (conv_i64_u8z zf13 zf3 _)) ?_
      refine RA.know 107 (v' := (bv (UInt8.ofNat (((tz G.sq c q x)) % 256).toNat))) rfl (congrArg (Value.int .u8) (u8z _).symm) ?_
      refine RA.q 13 (by kernel_rfl) rfl rfl rfl (.refl _) (OpQ.move rfl) ?_
      refine RA.q 14 (by kernel_rfl) rfl rfl rfl (.refl _) (OpQ.ishz (n := 8) rfl rfl (by decide)) ?_
      refine RA.know 109 (v' := .int .i64 ((tz G.sq c q x) / 2 ^ 8)) rfl rfl ?_
      refine RA.q 15 (by kernel_rfl) rfl rfl rfl (.refl _) (OpQ.conv rfl (conv_i64_u8z zf13 zf3 _)) ?_
      refine RA.know 110 (v' := (bv (UInt8.ofNat (((tz G.sq c q x) / 2 ^ 8) % 256).toNat))) rfl (congrArg (Value.int .u8) (u8z _).symm) ?_
      refine RA.f 16 (by kernel_rfl) rfl rfl rfl (OpG.lit2 zf2 zf14 rfl rfl rfl rfl rfl) (fun _ _ => (.cons _ (.refl _))) ?_
      rintro b111 _
      refine RA.f 17 (by kernel_rfl) rfl rfl rfl (OpG.ofQ (OpQ.convBS (l := cbt (tz G.sq c q x)) zf2 zf3 zf4 rfl (fun w hH => hH.rd .here))) (fun _ _ => (.cons _ (.refl _))) ?_
      rintro _ _
      refine RA.know 112 (v' := sv (cbt (tz G.sq c q x))) rfl rfl ?_
      refine RA.q 18 (by kernel_rfl) rfl rfl rfl (.cons _ (.refl _)) (OpQ.concat rfl rfl (by simp only [List.length_append, List.length_cons, List.length_nil, cbt_len]; omega)) ?_
      refine RA.know 113 (v' := sv (rpc G.sq c q x)) rfl rfl ?_
      refine RA.q 19 (by kernel_rfl) rfl rfl rfl (.cons _ (.refl _)) (OpQ.concat rfl rfl (by omega)) ?_
      refine RA.know 114 (v' := sv (rkey G.sq c m q x ++ rpc G.sq c q x)) rfl rfl ?_
      refine RA.q 20 (by kernel_rfl) rfl rfl rfl (.cons _ (.refl _)) (OpQ.assign rfl) ?_
      refine RA.tail ?_
      refine RT.done (by kernel_rfl) ?_
      refine PX.block_n (PX.then_n (CT.region ?_))
      refine Wl.q rfl rfl (OpQ.add rfl rfl (by omega)) ?_
      refine Wl.q rfl rfl (OpQ.move rfl) ?_
      refine Wl.nil ?_
      exact PX.loop hK4 (x + 1) (by omega) (by first | omega | (dsimp only; omega)) ⟨rfl, rfl, rfl, rfl, rfl, rfl, rfl, rfl, rfl, rfl, (lkV rfl (by rw [rkey_s])), rfl, rfl, rfl, trivial⟩ (.drop (HSub.refl _))
    ·
     have h85 := of_decide_eq_false h85
     obtain rfl : x = G.L := by omega
     refine CT.exit (PX.then_x (PX.then_x (PX.block_x (PX.then_n (CT.seq (CT.region ?_))))))
     refine Wl.q rfl rfl (OpQ.move rfl) ?_
     refine Wl.q rfl rfl (OpQ.move rfl) ?_
     refine Wl.q rfl rfl (OpQ.lookup (f := sv) (x := (rkey G.sq c m q G.L)) (l := (itA 0 (ded (rks G.sq c m q)))) XJ_mkS zf99 zf16 rfl rfl (by repeat (first | exact Has.here | apply Has.there)) (by rw [if_pos rfl, getA_itA, ix_val, ix_is])) ?_
     refine Wl.q rfl rfl (OpQ.move rfl) ?_
     refine Wl.q rfl rfl (OpQ.extract rfl rfl) ?_
     refine Wl.q rfl rfl (OpQ.extract rfl rfl) ?_
     refine Wl.q rfl rfl (OpQ.assign rfl) ?_
     refine Wl.q rfl rfl (OpQ.assign rfl) ?_
     refine Wl.nil (PX.then_n ?_)
     refine CT.cut (ι := Unit) (Φ := fun _ => True) (E' := fun _ => [(2, .pointer (some ⟨b2, 0, none⟩)), (4, .pointer (some ⟨b4, 0, none⟩)), (6, .int .i64 ((G.rs.length : Nat) : Int)), (7, .slice (some ⟨cb, 0, none⟩) G.rs.length G.rs.length), (8, .int .i64 ((m : Nat) : Int)), (9, .map (some b39)), (10, .slice (some ⟨b41, 0, none⟩) G.rs.length G.rs.length), (44, .int .i64 ((G.rs.length : Nat) : Int)), (45, .int .i64 ((q : Nat) : Int)), (11, .int .i64 ((q : Nat) : Int)), (16, .int .i64 (((addN (ded (rks G.sq c m q)) (rkey G.sq c m q G.L)).2 : Nat) : Int))]) (H' := fun _ => [.row 3 1 (.slice (some ⟨b41, 0, none⟩) G.rs.length G.rs.length) G.rs.length ((labP (rks G.sq c m q) G.rs.length).map zn), .blk b39 (mapO sv (itA 0 (addN (ded (rks G.sq c m q)) (rkey G.sq c m q G.L)).1)), .row 3 1 (.slice (some ⟨cb, 0, none⟩) G.rs.length G.rs.length) G.rs.length ((c).map zn), .row 30 7 (vb b4) 1 (svc G), .frag fG (svm G), .row 30 7 (vb b2) 1 [.int .i64 0, .int .i64 0, .string ⟨#[]⟩, .slice none 0 0, .slice none 0 0, .slice none 0 0, .slice none 0 0], .row 30 7 (vb b1) 1 (svc S)]) (fun K6 hK6 => ?_) (fun _ _ => ?_)
     ·
      refine CT.seq (CT.region ?_)
      refine Wl.q rfl rfl (OpQ.move rfl) ?_
      refine Wl.q rfl rfl (OpQ.not rfl) ?_
      refine Wl.nil (PX.then_n ?_)
      refine CT.cond rfl (fun h123 => ?_) (fun h123 => ?_)
      ·
       have hix : ixA (rkey G.sq c m q G.L) 0 (ded (rks G.sq c m q)) = none := by simpa using h123
       have hnx := ixA_none hix
       refine CT.seq (CT.region ?_)
       refine Wl.q rfl rfl (OpQ.move rfl) ?_
       refine Wl.q rfl rfl (OpQ.lenMap (f := sv) (l := (itA 0 (ded (rks G.sq c m q)))) zf99 rfl (by repeat (first | exact Has.here | apply Has.there))) ?_
       refine Wl.know 125 (v' := .int .i64 (((ded (rks G.sq c m q)).length : Nat) : Int)) rfl (congrArg (fun m : Nat => Value.int .i64 (m : Int)) (itA_len _ _)) ?_
       refine Wl.q rfl rfl (OpQ.assign rfl) ?_
       refine Wl.nil (PX.then_n (CT.region ?_))
       refine Wl.q rfl rfl (OpQ.move rfl) ?_
       refine Wl.q rfl rfl (OpQ.move rfl) ?_
       refine Wl.q rfl rfl (OpQ.move rfl) ?_
       refine Wl.g rfl rfl (OpG.mapNew (f := sv) (x := (rkey G.sq c m q G.L)) (l := (itA 0 (ded (rks G.sq c m q)))) XJ_mkS zf99 rfl rfl rfl (by rw [getA_itA, hix]; rfl) (by repeat (first | exact Upd.here | apply Upd.there))) ?_
       rintro _ _
       refine Wl.nil ?_
       exact PX.cut hK6 () trivial ⟨rfl, rfl, rfl, rfl, rfl, rfl, rfl, rfl, rfl, rfl, (lkV rfl (congrArg (fun m : Nat => Value.int .i64 (m : Int)) (by rw [addN_out hnx]))), trivial⟩ (.keep rfl (.keep (by rw [addN_out hnx, itA_snoc, Nat.zero_add]) (HSub.refl _)))
      ·
       have hix : ¬ ixA (rkey G.sq c m q G.L) 0 (ded (rks G.sq c m q)) = none := fun hh => by rw [hh] at h123; exact absurd h123 (by decide)
       refine CT.skip ?_
       exact PX.cut hK6 () trivial ⟨rfl, rfl, rfl, rfl, rfl, rfl, rfl, rfl, rfl, rfl, (lkV rfl (congrArg (fun m : Nat => Value.int .i64 (m : Int)) (ix_in hix).2)), trivial⟩ (.keep rfl (.keep (by rw [(ix_in hix).1]) (HSub.refl _)))
     ·
      refine CT.region ?_
      refine Wl.q rfl rfl (OpQ.move rfl) ?_
      refine Wl.q rfl rfl (OpQ.move rfl) ?_
      refine Wl.q rfl rfl (OpQ.move rfl) ?_
      refine Wl.q rfl rfl (OpQ.index1 zf0 zf1 rfl rfl (by omega) rfl) ?_
      refine Wl.g rfl rfl (OpG.storeRow zf1 rfl rfl rfl .here (by rw [List.length_map, labP_len (by rw [rks_len]; omega)]; exact hqN)) ?_
      rintro _ _
      refine Wl.nil (PX.block_n (PX.then_n (CT.region ?_)))
      refine Wl.q rfl rfl (OpQ.add rfl rfl (by omega)) ?_
      refine Wl.q rfl rfl (OpQ.move rfl) ?_
      refine Wl.nil ?_
      exact PX.loop hK1 (q + 1) (by omega) (by first | omega | (dsimp only; omega)) ⟨rfl, rfl, rfl, rfl, rfl, rfl, rfl, rfl, rfl, trivial⟩ (.keep (row_eq (by rw [rks_s]; exact (labP_put (rks_len _ _ _ _) hqN rfl).symm)) (.keep (by rw [rks_s, ded_addN]; rfl) (HSub.refl _)))
 ·
  have h46 := of_decide_eq_false h46
  obtain rfl : q = G.rs.length := by omega
  refine CT.mem (.keep (row_eq (xs := (lab (rks G.sq c m G.rs.length)).map zn) (by rw [labP_full (rks_len _ _ _ _)])) (HSub.refl _)) ?_
  have htop := (hR.coarse hGo hGb).top
  rw [hgn] at htop
  have hgr := hR.grow hGo hGb
  rw [hgn] at hgr
  have hDl : (itA 0 (ded (rks G.sq c m G.rs.length))).length = topL (lab (rks G.sq c m G.rs.length)) := by rw [itA_len, lab_top]
  refine CT.exit (PX.then_x (PX.then_x (PX.block_x (PX.then_n (CT.seq (CT.region ?_))))))
  refine Wl.q rfl rfl (OpQ.move rfl) ?_
  refine Wl.q rfl rfl (OpQ.assign rfl) ?_
  refine Wl.nil (PX.then_n (CT.seq (CT.seq (CT.region ?_))))
  refine Wl.q rfl rfl (OpQ.move rfl) ?_
  refine Wl.q rfl rfl (OpQ.lenMap (f := sv) (l := (itA 0 (ded (rks G.sq c m G.rs.length)))) zf99 rfl (by repeat (first | exact Has.here | apply Has.there))) ?_
  refine Wl.know 136 (v' := .int .i64 (((topL (lab (rks G.sq c m G.rs.length))) : Nat) : Int)) rfl (congrArg (fun m : Nat => Value.int .i64 (m : Int)) hDl) ?_
  refine Wl.q rfl rfl (OpQ.move rfl) ?_
  refine Wl.q rfl rfl (OpQ.eql rfl rfl) ?_
  refine Wl.nil (PX.then_n ?_)
  refine CT.cond rfl (fun h138 => ?_) (fun h138 => ?_)
  ·
   have h138 := of_decide_eq_true h138
   have hcl2 : ClsQ G.sq (lab (rks G.sq c m G.rs.length)) := by have h1 := hR.done hGo hGb (by rw [hgn]; omega); rwa [hgn] at h1
   have hfr := fun q (hq : q < G.rs.length) => frL_rep hcl2 (q := q) (by rw [hgn]; exact hq)
   rw [hgn] at hfr
   obtain ⟨d, hd⟩ : ∃ d, d = (lab (rks G.sq c m G.rs.length)) := ⟨_, rfl⟩
   rw [← hd] at hcl2 hfr
   have hdl : d.length = G.rs.length := hcl2.len.trans hgn
   refine CT.mem (H' := [.row 3 1 (.slice (some ⟨b41, 0, none⟩) G.rs.length G.rs.length) G.rs.length ((d).map zn), .row 30 7 (vb b4) 1 (svc G), .frag fG (svm G), .row 30 7 (vb b2) 1 [.int .i64 0, .int .i64 0, .string ⟨#[]⟩, .slice none 0 0, .slice none 0 0, .slice none 0 0, .slice none 0 0], .row 30 7 (vb b1) 1 (svc S)]) (.keep (row_eq (by rw [hd])) (.drop (.drop (HSub.refl _)))) ?_
   refine CT.exit (PX.then_x ?_)
   refine PX.block_y rfl ?_
   refine PX.then_x (PX.block_x (PX.then_n (CT.seq (CT.region ?_))))
   refine Wl.g rfl rfl (OpG.makeMap (f := (fun n : Int => .int .i64 n))) ?_
   rintro b141 _
   refine Wl.q rfl rfl (OpQ.assign rfl) ?_
   refine Wl.nil (PX.then_n (CT.seq (CT.seq (CT.region ?_))))
   refine Wl.q rfl rfl (OpQ.move rfl) ?_
   refine Wl.q rfl rfl (OpQ.sub rfl rfl (by omega)) ?_
   refine Wl.q rfl rfl (OpQ.assign rfl) ?_
   refine Wl.nil (PX.then_n (CT.block ?_))
   refine CT.loop (ι := Nat) (fun k => k ≤ G.rs.length) (fun k => [(2, .pointer (some ⟨b2, 0, none⟩)), (4, .pointer (some ⟨b4, 0, none⟩)), (6, .int .i64 ((G.rs.length : Nat) : Int)), (7, .slice (some ⟨b41, 0, none⟩) G.rs.length G.rs.length), (18, .map (some b141)), (19, .int .i64 ((G.rs.length : Int) - 1 - (k : Int)))]) (fun k => [.blk b141 (mapO (fun n : Int => .int .i64 n) (frL d G.rs.length k)), .row 3 1 (.slice (some ⟨b41, 0, none⟩) G.rs.length G.rs.length) G.rs.length ((d).map zn), .row 30 7 (vb b4) 1 (svc G), .frag fG (svm G), .row 30 7 (vb b2) 1 [.int .i64 0, .int .i64 0, .string ⟨#[]⟩, .slice none 0 0, .slice none 0 0, .slice none 0 0, .slice none 0 0], .row 30 7 (vb b1) 1 (svc S)]) (fun k => G.rs.length - k) 0 (Nat.zero_le _) ⟨rfl, rfl, rfl, rfl, rfl, (lkV rfl (congrArg (Value.int .i64) (by omega))), trivial⟩ (.keep rfl (HSub.refl _)) (fun k hk K7 hK7 => ?_)
   refine CT.seq (CT.seq (CT.region ?_))
   refine Wl.q rfl rfl (OpQ.move rfl) ?_
   refine Wl.q rfl rfl (OpQ.geq rfl rfl) ?_
   refine Wl.nil (PX.then_n ?_)
   refine CT.cond rfl (fun h145 => ?_) (fun h145 => ?_)
   ·
    have h145 := of_decide_eq_true h145
    have hkN : k < G.rs.length := by omega
    refine CT.skip (PX.then_n (CT.seq (CT.block (CT.region ?_))))
    refine Wl.q rfl rfl (OpQ.move rfl) ?_
    refine Wl.q rfl rfl (OpQ.move rfl) ?_
    refine Wl.q rfl rfl (OpQ.move rfl) ?_
    refine Wl.know 150 (v' := .int .i64 (((G.rs.length - (k + 1)) : Nat) : Int)) rfl (congrArg (Value.int .i64) (by omega)) ?_
    refine Wl.q rfl rfl (OpQ.index1 zf0 zf1 rfl rfl (by omega) rfl) ?_
    refine Wl.q rfl rfl (OpQ.loadRow zf8 rfl (.there .here) (getMap zn d 0 (j := (G.rs.length - (k + 1))) (by omega))) ?_
    refine Wl.q rfl rfl (OpQ.move rfl) ?_
    refine Wl.know 153 (v' := .int .i64 (((G.rs.length - (k + 1)) : Nat) : Int)) rfl (congrArg (Value.int .i64) (by omega)) ?_
    refine Wl.g rfl rfl (OpG.mapPut (f := (fun n : Int => .int .i64 n)) (x := ((d.getD (G.rs.length - (k + 1)) 0 : Nat) : Int)) (l := (frL d G.rs.length k)) XJ_mkI (by simp [Instr.sameBits]) zf100 rfl rfl rfl (by repeat (first | exact Upd.here | apply Upd.there))) ?_
    rintro _ _
    refine Wl.nil (PX.block_n (PX.then_n (CT.region ?_)))
    refine Wl.q rfl rfl (OpQ.move rfl) ?_
    refine Wl.q rfl rfl (OpQ.sub rfl rfl (by omega)) ?_
    refine Wl.q rfl rfl (OpQ.assign rfl) ?_
    refine Wl.nil ?_
    exact PX.loop hK7 (k + 1) (by omega) (by first | omega | (dsimp only; omega)) ⟨rfl, rfl, rfl, rfl, rfl, (lkV rfl (congrArg (Value.int .i64) (by push_cast; omega))), trivial⟩ (HSub.refl _)
   ·
    have h145 := of_decide_eq_false h145
    obtain rfl : k = G.rs.length := by omega
    refine CT.exit (PX.then_x (PX.then_x (PX.block_x (PX.then_n (CT.seq ?_)))))
    refine CT.draw 19 zf6 ?_
    refine RA.q 0 (by kernel_rfl) rfl rfl rfl (.refl _) (OpQ.fieldAddr zf33 rfl) ?_
    refine RA.q 1 (by kernel_rfl) rfl rfl rfl (.refl _) (OpQ.loadF (b := b4) zf8 rfl (by repeat (first | exact Has.here | apply Has.there)) (by rfl)) ?_
    refine RA.q 2 (by kernel_rfl) rfl rfl rfl (.refl _) (OpQ.move rfl) ?_
    refine RA.q 3 (by kernel_rfl) rfl rfl rfl (.refl _) (OpQ.move rfl) ?_
    refine RA.q 4 (by kernel_rfl) rfl rfl rfl (.refl _) (OpQ.fieldAddr zf46 rfl) ?_
    refine RA.q 5 (by kernel_rfl) rfl rfl rfl (.refl _) (OpQ.loadF (b := b4) zf8 rfl (by repeat (first | exact Has.here | apply Has.there)) (by rfl)) ?_
    refine RA.q 6 (by kernel_rfl) rfl rfl rfl (.refl _) (OpQ.index1 zf0 zf1 rfl rfl (by omega) rfl) ?_
    refine RA.q 7 (by kernel_rfl) rfl rfl rfl (.refl _) (OpQ.loadRow zf8 rfl (.there .here) (getMap zn d 0 (j := G.s) (by omega))) ?_
    refine RA.q 8 (by kernel_rfl) rfl rfl rfl (.refl _) (OpQ.lookup (f := (fun n : Int => .int .i64 n)) (x := ((d.getD G.s 0 : Nat) : Int)) (l := (frL d G.rs.length G.rs.length)) XJ_mkI zf100 zf16 rfl rfl (by repeat (first | exact Has.here | apply Has.there)) (by rw [hfr _ gb4])) ?_
    refine RA.know 162 (v' := (zn ((reps d G.rs.length).getD (d.getD G.s 0) 0))) rfl rfl ?_
    refine RA.q 9 (by kernel_rfl) rfl rfl rfl (.refl _) (OpQ.fieldAddr zf47 rfl) ?_
    refine RA.q 10 (by kernel_rfl) rfl rfl rfl (.refl _) (OpQ.loadF (b := b4) zf39 rfl (by repeat (first | exact Has.here | apply Has.there)) (by rfl)) ?_
    refine RA.q 11 (by kernel_rfl) rfl rfl rfl (.refl _) (OpQ.fieldAddr zf34 rfl) ?_
    refine RA.q 12 (by kernel_rfl) rfl rfl rfl (.refl _) (OpQ.loadF (b := b4) zf35 rfl (by repeat (first | exact Has.here | apply Has.there)) (by rfl)) ?_
    refine RA.q 13 (by kernel_rfl) rfl rfl rfl (.refl _) (OpQ.fieldAddr zf42 rfl) ?_
    refine RA.q 14 (by kernel_rfl) rfl rfl rfl (.refl _) (OpQ.loadF (b := b4) zf43 rfl (by repeat (first | exact Has.here | apply Has.there)) (by rfl)) ?_
    refine RA.q 15 (by kernel_rfl) rfl rfl rfl (.refl _) (OpQ.fieldAddr zf41 rfl) ?_
    refine RA.q 16 (by kernel_rfl) rfl rfl rfl (.refl _) (OpQ.loadF (b := b4) zf37 rfl (by repeat (first | exact Has.here | apply Has.there)) (by rfl)) ?_
    refine RA.q 17 (by kernel_rfl) rfl rfl rfl (.refl _) (OpQ.build (cells := #[_, _, _, .slice none 0 0, _, _, _]) zf27 rfl rfl) ?_
    refine RA.f 18 (by kernel_rfl) rfl rfl rfl (OpG.alloc (zs := [.int .i64 0, .int .i64 0, .string ⟨#[]⟩, .slice none 0 0, .slice none 0 0, .slice none 0 0, .slice none 0 0]) zf19 rfl rfl) (fun _ _ => (.cons _ (.refl _))) ?_
    rintro b20 _
    refine RA.tail ?_
    refine RT.f 19 (by kernel_rfl) rfl rfl rfl (OpG.storeV (b := b20) zf28 rfl rfl rfl rfl (by repeat (first | exact Upd.here | apply Upd.there))) ?_
    rintro _ _
    refine RT.done (by kernel_rfl) ?_
    refine PX.then_n (CT.seq (CT.seq (CT.region ?_)))
    refine Wl.q rfl rfl (OpQ.fieldAddr zf30 rfl) ?_
    refine Wl.q rfl rfl (OpQ.loadF (b := b4) zf31 rfl (by repeat (first | exact Has.here | apply Has.there)) (by rfl)) ?_
    refine Wl.q rfl rfl (OpQ.len zf21 rfl) ?_
    refine Wl.q rfl rfl (OpQ.move rfl) ?_
    refine Wl.nil (PX.then_n (CT.block ?_))
    refine CT.nilrow 22 1 ?_
    refine CT.as (fun _ h => h.take (.cons (.there .here) (.cons .here (.cons .here (.cons .here (.cons .here (.cons .here (.cons .here (.cons .here .nil))))))))) ?_
    refine CT.loop (ι := Nat × Option Addr × Nat × List (Rx (Option Nat))) (fun (q, na', nc', rs) => q ≤ G.rs.length ∧ rs.map (·.xs) = rdn G.sq d q) (fun (q, na', nc', rs) => [(2, .pointer (some ⟨b2, 0, none⟩)), (4, .pointer (some ⟨b4, 0, none⟩)), (7, .slice (some ⟨b41, 0, none⟩) G.rs.length G.rs.length), (18, .map (some b141)), (20, .pointer (some ⟨b20, 0, none⟩)), (174, .int .i64 ((G.rs.length : Nat) : Int)), (175, .int .i64 ((q : Nat) : Int))]) (fun (q, na', nc', rs) => [.row 30 7 (vb b20) 1 [zn G.L, zn ((reps d G.rs.length).getD (d.getD G.s 0) 0), sv G.init, .slice na' q nc', .slice G.oa G.os.length G.oc, .slice G.ea G.en.length G.ec, .slice G.fa G.fi.length G.fc], .row 22 1 (.slice na' q nc') q (rs.map rxv), .blk b141 (mapO (fun n : Int => .int .i64 n) (frL d G.rs.length G.rs.length)), .row 3 1 (.slice (some ⟨b41, 0, none⟩) G.rs.length G.rs.length) G.rs.length ((d).map zn), .row 30 7 (vb b4) 1 (svc G), .frag fG (svm G), .row 30 7 (vb b2) 1 [.int .i64 0, .int .i64 0, .string ⟨#[]⟩, .slice none 0 0, .slice none 0 0, .slice none 0 0, .slice none 0 0], .row 30 7 (vb b1) 1 (svc S)] ++ fam 3 zo rs) (fun (q, na', nc', rs) => G.rs.length - q) (0, none, 0, []) ⟨Nat.zero_le _, rfl⟩ ⟨rfl, rfl, rfl, rfl, rfl, rfl, rfl, trivial⟩ (HSub.refl _) (fun ⟨q, na', nc', rs⟩ ⟨hq, hrs'⟩ K8 hK8 => ?_)
    dsimp only
    have hrsl : rs.length = q := by have := congrArg List.length hrs'; rwa [List.length_map, rdn_len] at this
    refine CT.seq (CT.region ?_)
    refine Wl.q rfl rfl (OpQ.lss rfl rfl) ?_
    refine Wl.nil (PX.then_n (CT.seq ?_))
    refine CT.cond rfl (fun h176 => ?_) (fun h176 => ?_)
    ·
     have h176 := of_decide_eq_true h176
     have hqN : q < G.rs.length := by omega
     have hqn : q < G.sq.n := by rw [hgn]; exact hqN
     have hrl := hGo.rlen hqN
     refine CT.skip (PX.then_n (CT.seq (CT.block (CT.seq (CT.region ?_)))))
     refine Wl.q rfl rfl (OpQ.move rfl) ?_
     refine Wl.q rfl rfl (OpQ.assign rfl) ?_
     refine Wl.nil (PX.then_n (CT.seq (CT.region ?_)))
     refine Wl.q rfl rfl (OpQ.assign rfl) ?_
     refine Wl.nil (PX.then_n (CT.seq (CT.seq (CT.region ?_))))
     refine Wl.q rfl rfl (OpQ.fieldAddr zf30 rfl) ?_
     refine Wl.q rfl rfl (OpQ.loadF (b := b4) zf31 rfl (by repeat (first | exact Has.here | apply Has.there)) (by rfl)) ?_
     refine Wl.q rfl rfl (OpQ.move rfl) ?_
     refine Wl.q rfl rfl (OpQ.index1 zf21 zf32 rfl rfl (by omega) (gnn.n (by omega))) ?_
     refine Wl.q rfl rfl (OpQ.loadG zf10 rfl (fun w hH => (hH.fragp (.there (.there (.there (.there (.there .here)))))).n) (getMap rxv G.rs rx0 (j := q) (by omega))) ?_
     refine Wl.q rfl rfl (OpQ.len zf0 rfl) ?_
     refine Wl.know 183 (v' := .int .i64 ((G.L : Nat) : Int)) rfl (congrArg (Value.int .i64) (by rw [hrl])) ?_
     refine Wl.q rfl rfl (OpQ.move rfl) ?_
     refine Wl.nil (PX.then_n (CT.block ?_))
     refine CT.nilrow 3 1 ?_
     refine CT.loop (ι := Nat × Option Addr × Nat) (fun (x, wa, wc) => x ≤ G.L) (fun (x, wa, wc) => [(2, .pointer (some ⟨b2, 0, none⟩)), (4, .pointer (some ⟨b4, 0, none⟩)), (7, .slice (some ⟨b41, 0, none⟩) G.rs.length G.rs.length), (18, .map (some b141)), (20, .pointer (some ⟨b20, 0, none⟩)), (174, .int .i64 ((G.rs.length : Nat) : Int)), (175, .int .i64 ((q : Nat) : Int)), (21, .int .i64 ((q : Nat) : Int)), (22, .slice wa x wc), (182, rxv (G.rs.getD q rx0)), (183, .int .i64 ((G.L : Nat) : Int)), (184, .int .i64 ((x : Nat) : Int))]) (fun (x, wa, wc) => [.row 3 1 (.slice wa x wc) x ((rdr G.sq d q x).map zo), .row 30 7 (vb b20) 1 [zn G.L, zn ((reps d G.rs.length).getD (d.getD G.s 0) 0), sv G.init, .slice na' q nc', .slice G.oa G.os.length G.oc, .slice G.ea G.en.length G.ec, .slice G.fa G.fi.length G.fc], .row 22 1 (.slice na' q nc') q (rs.map rxv), .blk b141 (mapO (fun n : Int => .int .i64 n) (frL d G.rs.length G.rs.length)), .row 3 1 (.slice (some ⟨b41, 0, none⟩) G.rs.length G.rs.length) G.rs.length ((d).map zn), .row 30 7 (vb b4) 1 (svc G), .frag fG (svm G), .row 30 7 (vb b2) 1 [.int .i64 0, .int .i64 0, .string ⟨#[]⟩, .slice none 0 0, .slice none 0 0, .slice none 0 0, .slice none 0 0], .row 30 7 (vb b1) 1 (svc S)] ++ fam 3 zo rs) (fun (x, wa, wc) => G.L - x) (0, none, 0) (Nat.zero_le _) ⟨rfl, rfl, rfl, rfl, rfl, rfl, rfl, rfl, rfl, rfl, rfl, rfl, trivial⟩ (HSub.refl _) (fun ⟨x, wa, wc⟩ hx K9 hK9 => ?_)
     dsimp only
     refine CT.seq (CT.region ?_)
     refine Wl.q rfl rfl (OpQ.lss rfl rfl) ?_
     refine Wl.nil (PX.then_n (CT.seq ?_))
     refine CT.cond rfl (fun h185 => ?_) (fun h185 => ?_)
     ·
      have h185 := of_decide_eq_true h185
      have hxL : x < G.L := by omega
      have hxg : x < G.sq.L := hxL
      refine CT.skip (PX.then_n (CT.seq (CT.block (CT.seq (CT.region ?_)))))
      refine Wl.q rfl rfl (OpQ.index1 zf0 zf1 rfl rfl (by omega) (gnn.r q hqN (by omega))) ?_
      refine Wl.q rfl rfl (OpQ.loadG zf8 rfl (fun w hH => (hH.fragp (.there (.there (.there (.there (.there (.there .here))))))).r _ (getDm (d := rx0) (show q < G.rs.length by omega))) (getMap zo (G.rs.getD q rx0).xs none (j := x) (by omega))) ?_
      refine Wl.know 187 (v' := zo (G.sq.to q x)) rfl (congrArg zo (G.to_eq q x).symm) ?_
      refine Wl.q rfl rfl (OpQ.assign rfl) ?_
      refine Wl.nil (PX.then_n ?_)
      refine CT.cut (ι := Unit) (Φ := fun _ => True) (E' := fun _ => [(2, .pointer (some ⟨b2, 0, none⟩)), (4, .pointer (some ⟨b4, 0, none⟩)), (7, .slice (some ⟨b41, 0, none⟩) G.rs.length G.rs.length), (18, .map (some b141)), (20, .pointer (some ⟨b20, 0, none⟩)), (174, .int .i64 ((G.rs.length : Nat) : Int)), (175, .int .i64 ((q : Nat) : Int)), (21, .int .i64 ((q : Nat) : Int)), (22, .slice wa x wc), (182, rxv (G.rs.getD q rx0)), (183, .int .i64 ((G.L : Nat) : Int)), (184, .int .i64 ((x : Nat) : Int)), (24, zo (rdi G.sq d q x))]) (H' := fun _ => [.row 3 1 (.slice wa x wc) x ((rdr G.sq d q x).map zo), .row 30 7 (vb b20) 1 [zn G.L, zn ((reps d G.rs.length).getD (d.getD G.s 0) 0), sv G.init, .slice na' q nc', .slice G.oa G.os.length G.oc, .slice G.ea G.en.length G.ec, .slice G.fa G.fi.length G.fc], .row 22 1 (.slice na' q nc') q (rs.map rxv), .blk b141 (mapO (fun n : Int => .int .i64 n) (frL d G.rs.length G.rs.length)), .row 3 1 (.slice (some ⟨b41, 0, none⟩) G.rs.length G.rs.length) G.rs.length ((d).map zn), .row 30 7 (vb b4) 1 (svc G), .frag fG (svm G), .row 30 7 (vb b2) 1 [.int .i64 0, .int .i64 0, .string ⟨#[]⟩, .slice none 0 0, .slice none 0 0, .slice none 0 0, .slice none 0 0], .row 30 7 (vb b1) 1 (svc S)] ++ fam 3 zo rs) (fun K10 hK10 => ?_) (fun _ _ => ?_)
      ·
       refine CT.seq (CT.region ?_)
       refine Wl.q rfl rfl (OpQ.move rfl) ?_
       refine Wl.q rfl rfl (OpQ.geq rfl rfl) ?_
       refine Wl.nil (PX.then_n ?_)
       refine CT.cond rfl (fun h189 => ?_) (fun h189 => ?_)
       ·
        have h189 := of_decide_eq_true h189
        obtain ⟨r, hto⟩ := oi_some (show oi (G.sq.to q x) ≠ -1 by omega)
        have hr := hGo.lt q x r hqn hxg hto
        have hrn : r < G.rs.length := by rw [← hgn]; exact hr
        refine CT.know 24 (v' := zn r) rfl (by rw [hto]; rfl) ?_
        refine CT.region ?_
        refine Wl.q rfl rfl (OpQ.move rfl) ?_
        refine Wl.q rfl rfl (OpQ.move rfl) ?_
        refine Wl.q rfl rfl (OpQ.move rfl) ?_
        refine Wl.q rfl rfl (OpQ.index1 zf0 zf1 rfl rfl (by omega) rfl) ?_
        refine Wl.q rfl rfl (OpQ.loadRow zf8 rfl (.there (.there (.there (.there .here)))) (getMap zn d 0 (j := r) (by omega))) ?_
        refine Wl.q rfl rfl (OpQ.lookup (f := (fun n : Int => .int .i64 n)) (x := ((d.getD r 0 : Nat) : Int)) (l := (frL d G.rs.length G.rs.length)) XJ_mkI zf100 zf16 rfl rfl (by repeat (first | exact Has.here | apply Has.there)) (by rw [hfr _ hrn])) ?_
        refine Wl.know 195 (v' := (zn ((reps d G.rs.length).getD (d.getD r 0) 0))) rfl rfl ?_
        refine Wl.q rfl rfl (OpQ.assign rfl) ?_
        refine Wl.nil ?_
        exact PX.cut hK10 () trivial ⟨rfl, rfl, rfl, rfl, rfl, rfl, rfl, rfl, rfl, rfl, rfl, rfl, (lkV rfl (by rw [rdi_some hto, hgn]; rfl)), trivial⟩ (HSub.refl _)
       ·
        have h189 := of_decide_eq_false h189
        have hno : G.sq.to q x = none := oi_neg.1 (by have := oi_ge (G.sq.to q x); omega)
        refine CT.skip ?_
        exact PX.cut hK10 () trivial ⟨rfl, rfl, rfl, rfl, rfl, rfl, rfl, rfl, rfl, rfl, rfl, rfl, (lkV rfl (by rw [rdi_none hno, hno])), trivial⟩ (HSub.refl _)
      ·
       refine CT.region ?_
       refine Wl.q rfl rfl (OpQ.move rfl) ?_
       refine Wl.q rfl rfl (OpQ.move rfl) ?_
       refine Wl.g rfl rfl (OpG.lit1 zf0 zf16 rfl rfl rfl) ?_
       rintro b198 _
       refine Wl.g rfl rfl (OpG.append zf0 zf16 (by rfl) (by decide) rfl rfl (p := 1) rfl (fun w hH => hH.rd .here) ⟨rfl, (by simp [Value.oneCell']), (by omega), (by omega)⟩ (nm := (x + 1)) rfl (all := (rdr G.sq d q (x + 1)).map zo) (by rw [rdr_s, List.map_append]; rfl)) ?_
       rintro ⟨a199, c199⟩ h199
       refine Wl.q rfl rfl (OpQ.assign rfl) ?_
       refine Wl.nil (PX.block_n (PX.then_n (CT.region ?_)))
       refine Wl.q rfl rfl (OpQ.add rfl rfl (by omega)) ?_
       refine Wl.q rfl rfl (OpQ.move rfl) ?_
       refine Wl.nil ?_
       exact PX.loop hK9 (x + 1, a199, c199) (show x + 1 ≤ G.L by omega) (show G.L - (x + 1) < G.L - x by omega) ⟨rfl, rfl, rfl, rfl, rfl, rfl, rfl, rfl, rfl, rfl, rfl, rfl, trivial⟩ (.drop (HSub.refl _))
     ·
      have h185 := of_decide_eq_false h185
      obtain rfl : x = G.L := by omega
      refine CT.exit (PX.then_x (PX.then_x (PX.block_x (PX.then_n (CT.region ?_)))))
      refine Wl.q rfl rfl (OpQ.fieldAddr zf30 rfl) ?_
      refine Wl.q rfl rfl (OpQ.loadF (b := b20) zf31 rfl (by repeat (first | exact Has.here | apply Has.there)) (by rfl)) ?_
      refine Wl.q rfl rfl (OpQ.move rfl) ?_
      refine Wl.g rfl rfl (OpG.lit1 zf21 zf22 rfl rfl rfl) ?_
      rintro b204 _
      refine Wl.g rfl rfl (OpG.append zf21 zf22 (by rfl) (by decide) rfl rfl (p := 3) rfl (fun w hH => hH.rd .here) ⟨rfl, (by simp [Value.oneCell']), (by omega), (by omega)⟩ (nm := (q + 1)) rfl (all := (rs ++ [(⟨wa, wc, rdr G.sq d q G.L⟩ : Rx (Option Nat))]).map rxv) (by rw [List.map_append, List.map_singleton, show rxv (⟨wa, wc, rdr G.sq d q G.L⟩ : Rx (Option Nat)) = .slice wa G.L wc from by show Value.slice _ (rdr G.sq d q G.L).length _ = _; rw [rdr_len]])) ?_
      rintro ⟨a205, c205⟩ h205
      refine Wl.q rfl rfl (OpQ.fieldAddr zf30 rfl) ?_
      refine Wl.g rfl rfl (OpG.storeRow (a := some ⟨b20, 0, none⟩) zf63 rfl rfl rfl (by repeat (first | exact Upd.here | apply Upd.there)) (by simp)) ?_
      rintro _ _
      refine Wl.nil (PX.block_n (PX.then_n (CT.region ?_)))
      refine Wl.q rfl rfl (OpQ.add rfl rfl (by omega)) ?_
      refine Wl.q rfl rfl (OpQ.move rfl) ?_
      refine Wl.nil ?_
      refine PX.mem (H' := [rch 3 zo (⟨wa, wc, rdr G.sq d q G.L⟩ : Rx (Option Nat)), .row 30 7 (vb b20) 1 [zn G.L, zn ((reps d G.rs.length).getD (d.getD G.s 0) 0), sv G.init, .slice a205 (q + 1) c205, .slice G.oa G.os.length G.oc, .slice G.ea G.en.length G.ec, .slice G.fa G.fi.length G.fc], .row 22 1 (.slice a205 (q + 1) c205) (q + 1) ((rs ++ [(⟨wa, wc, rdr G.sq d q G.L⟩ : Rx (Option Nat))]).map rxv), .blk b141 (mapO (fun n : Int => .int .i64 n) (frL d G.rs.length G.rs.length)), .row 3 1 (.slice (some ⟨b41, 0, none⟩) G.rs.length G.rs.length) G.rs.length ((d).map zn), .row 30 7 (vb b4) 1 (svc G), .frag fG (svm G), .row 30 7 (vb b2) 1 [.int .i64 0, .int .i64 0, .string ⟨#[]⟩, .slice none 0 0, .slice none 0 0, .slice none 0 0, .slice none 0 0], .row 30 7 (vb b1) 1 (svc S)] ++ fam 3 zo rs) (.drop (.keep (by show Chunk.row _ _ (.slice _ (rdr G.sq d q G.L).length _) (rdr G.sq d q G.L).length _ = _; rw [rdr_len]) (HSub.refl _))) ?_
      refine PX.as (fun _ h => HOk.famS (A := [.row 30 7 (vb b20) 1 [zn G.L, zn ((reps d G.rs.length).getD (d.getD G.s 0) 0), sv G.init, .slice a205 (q + 1) c205, .slice G.oa G.os.length G.oc, .slice G.ea G.en.length G.ec, .slice G.fa G.fi.length G.fc], .row 22 1 (.slice a205 (q + 1) c205) (q + 1) ((rs ++ [(⟨wa, wc, rdr G.sq d q G.L⟩ : Rx (Option Nat))]).map rxv), .blk b141 (mapO (fun n : Int => .int .i64 n) (frL d G.rs.length G.rs.length)), .row 3 1 (.slice (some ⟨b41, 0, none⟩) G.rs.length G.rs.length) G.rs.length ((d).map zn), .row 30 7 (vb b4) 1 (svc G), .frag fG (svm G), .row 30 7 (vb b2) 1 [.int .i64 0, .int .i64 0, .string ⟨#[]⟩, .slice none 0 0, .slice none 0 0, .slice none 0 0, .slice none 0 0], .row 30 7 (vb b1) 1 (svc S)]) (r := (⟨wa, wc, rdr G.sq d q G.L⟩ : Rx (Option Nat))) h) ?_
      exact PX.loop hK8 (q + 1, a205, c205, rs ++ [(⟨wa, wc, rdr G.sq d q G.L⟩ : Rx (Option Nat))]) ⟨by omega, by rw [List.map_append, hrs', rdn_s]; rfl⟩ (show G.rs.length - (q + 1) < G.rs.length - q by omega) ⟨rfl, rfl, rfl, rfl, rfl, rfl, rfl, trivial⟩ (HSub.refl _)
    ·
     have h176 := of_decide_eq_false h176
     obtain rfl : q = G.rs.length := by omega
     have hSV : (⟨G.L, ((reps d G.rs.length).getD (d.getD G.s 0) 0), G.init, na', nc', rs, G.oa, G.oc, G.os, G.ea, G.ec, G.en, G.fa, G.fc, G.fi⟩ : Sv).sq = redQ G.sq d := by
      have e1 : G.rs.length = G.sq.n := hgn.symm
      show (⟨G.L, ((reps d G.rs.length).getD (d.getD G.s 0) 0), G.init, G.en, G.fi, rs.map (·.xs), G.os.map (·.xs)⟩ : Sq) = redQ G.sq d
      rw [hrs', e1]; rfl
     have hSVo : (⟨G.L, ((reps d G.rs.length).getD (d.getD G.s 0) 0), G.init, na', nc', rs, G.oa, G.oc, G.os, G.ea, G.ec, G.en, G.fa, G.fc, G.fi⟩ : Sv).sq.Ok 4096 := by rw [hSV]; exact redQ_ok hcl2 hGo
     have hval : svv (⟨G.L, ((reps d G.rs.length).getD (d.getD G.s 0) 0), G.init, na', nc', rs, G.oa, G.oc, G.os, G.ea, G.ec, G.en, G.fa, G.fc, G.fi⟩ : Sv) = .agg #[zn G.L, zn ((reps d G.rs.length).getD (d.getD G.s 0) 0), sv G.init, .slice na' G.rs.length nc', .slice G.oa G.os.length G.oc, .slice G.ea G.en.length G.ec, .slice G.fa G.fi.length G.fc] := by simp only [svv, svc, hrsl]
     refine CT.as (fun _ h => HOk.bindR (A := [_, _, _, _, _, _]) (L := [.row 22 1 (.slice na' G.rs.length nc') G.rs.length (rs.map rxv), .frag fG (svm G)] ++ fam 3 zo rs) (p := svm (⟨G.L, ((reps d G.rs.length).getD (d.getD G.s 0) 0), G.init, na', nc', rs, G.oa, G.oc, G.os, G.ea, G.ec, G.en, G.fa, G.fc, G.fi⟩ : Sv)) (HOk.takeA (A := [_, _, _, _, _, _, _, _]) (L := [_, _, _, _, _, _, _, _]) (F := fam 3 zo rs) h (.cons .here (.cons (.there .here) (.cons (.there .here) (.cons (.there .here) (.cons (.there (.there .here)) (.cons (.there (.there .here)) (.cons .here (.cons .here .nil))))))))) (fun w hk => have hg := (hk (.frag fG (svm G)) (.tail _ (.head _))).2 w (fun _ _ => rfl); ⟨Rd.of_owns (show World.ownsRow _ _ _ _ _ _ _ from hk (.row 22 1 (.slice na' G.rs.length nc') G.rs.length (rs.map rxv)) (.head _)), rxs_fam (e := 3) fun k hk2 => hk k (List.mem_append_right _ hk2), hg.o, hg.u, hg.e, hg.f⟩)) ?_
     generalize blks _ = fS
     refine CT.exit (PX.then_x (PX.then_x (PX.block_x (PX.then_n (CT.seq (CT.region ?_))))))
     refine Wl.q rfl rfl (OpQ.loadV (b := b20) zf29 zf28 rfl (by repeat (first | exact Has.here | apply Has.there)) (by rfl)) ?_
     refine Wl.know 208 (v' := svv (⟨G.L, ((reps d G.rs.length).getD (d.getD G.s 0) 0), G.init, na', nc', rs, G.oa, G.oc, G.os, G.ea, G.ec, G.en, G.fa, G.fc, G.fi⟩ : Sv)) rfl hval.symm ?_
     refine Wl.g rfl rfl (OpG.callX zf96 rfl .nil (fun _ => (App.of _ _)) (fun w hH hp => trimR42_spec w (⟨G.L, ((reps d G.rs.length).getD (d.getD G.s 0) 0), G.init, na', nc', rs, G.oa, G.oc, G.os, G.ea, G.ec, G.en, G.fa, G.fc, G.fi⟩ : Sv) (Stays.frag (hH.staysK0 .here)) hSVo)) ?_
     rintro i209 h209
     refine Wl.as (fun _ h => HOk.swap (A := svH i209 3 22 4 9 28) (h.sublist (List.Sublist.append_left (HSub.sub (L := [.row 30 7 (vb b2) 1 [.int .i64 0, .int .i64 0, .string ⟨#[]⟩, .slice none 0 0, .slice none 0 0, .slice none 0 0, .slice none 0 0]]) (.drop (.drop (.drop (.drop (.drop (.keep rfl (HSub.none _)))))))) _))) ?_
     refine Wl.g rfl rfl (OpG.storeV (b := b2) zf28 rfl rfl rfl rfl (by repeat (first | exact Upd.here | apply Upd.there))) ?_
     rintro _ _
     refine Wl.q rfl rfl (OpQ.assign rfl) ?_
     refine Wl.nil (PX.then_n (CT.ret ?_))
     refine PX.retC2 rfl rfl rfl (by repeat (first | exact Has.here | apply Has.there)) zf29 zf28 (by rfl) (fun w' hH => ?_)
     have hTr : IsTrim (redQ G.sq d).tr (redQ G.sq d).L (redQ G.sq d).s (redQ G.sq d).init i209.sq := by rw [← hSV]; exact h209
     have hTo := IsTrim.ok (redQ_ok hcl2 hGM) hTr
     exact ⟨i209, ⟨redQ_min hcl2 hGo hGN hTr, hTo.1, Nat.le_trans hTo.2 (by rw [show (redQ G.sq d).n = G.sq.n from rdn_len _ _ _]; exact hGN.n_le hv)⟩, rfl, (HOk.behind (A := [_]) hH).post⟩
  ·
   have h138 := of_decide_eq_false h138
   refine CT.skip (PX.then_n (CT.region ?_))
   refine Wl.q rfl rfl (OpQ.move rfl) ?_
   refine Wl.q rfl rfl (OpQ.lenMap (f := sv) (l := (itA 0 (ded (rks G.sq c m G.rs.length)))) zf99 rfl (by repeat (first | exact Has.here | apply Has.there))) ?_
   refine Wl.know 140 (v' := .int .i64 (((topL (lab (rks G.sq c m G.rs.length))) : Nat) : Int)) rfl (congrArg (fun m : Nat => Value.int .i64 (m : Int)) hDl) ?_
   refine Wl.q rfl rfl (OpQ.assign rfl) ?_
   refine Wl.nil (PX.block_n ?_)
   exact PX.loop hK0 ((lab (rks G.sq c m G.rs.length)), topL (lab (rks G.sq c m G.rs.length)), b41) (by have h1 := (hR.coarse hGo hGb).rm (by rw [hgn]; omega); rw [hgn] at h1; exact h1) (show G.rs.length + 1 - topL (lab (rks G.sq c m G.rs.length)) < G.rs.length + 1 - m by omega) ⟨rfl, rfl, rfl, rfl, rfl, trivial⟩ (.keep rfl (.drop (.drop (HSub.refl _))))

end Go.Proofs.Ytamolakhpcofhaa

