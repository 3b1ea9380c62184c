/-
  What functions of the program compute, each by its walk. Conditions: those that each theorem names.
-/
import Derived.Test.YtamolakhpcofhaaMod1
import Derived.Test.YtamolakhpcofhaaXE44
import Derived.Test.YtamolakhpcofhaaXE36
import Derived.Test.YtamolakhpcofhaaXE34
import Derived.Test.YtamolakhpcofhaaXE13
import Derived.Test.YtamolakhpcofhaaXE14
import Derived.Test.YtamolakhpcofhaaXE15
import Derived.Test.YtamolakhpcofhaaXF
set_option linter.unusedSimpArgs false
namespace Go.Proofs.Ytamolakhpcofhaa
open Go Go.Eng Go.Am Go.Sq
open Go.Tp (zi)
open Go.Tl (mayL Wd okW okB bo)

set_option maxRecDepth 100000 in
set_option maxHeartbeats 2000000 in
/-- semigroup/semigrouplaw42.SequentialEqual -/
theorem SequentialEqual_spec (w : World) (a : Option Addr) (cp : Nat) (l : List Int) (hrl : Rd w a (l.map zi)) (hl : l.length ≤ cp) (how at_ vv : Int) : Calls Try.prog 5 #[.slice a l.length cp, .int .i64 (how), .int .i64 (at_), .int .i64 (vv)] w (fun e w' => e = .returned (.bool true) ∧ Ext [] w w') := by
 refine enter (args := [.slice a l.length cp, .int .i64 (how), .int .i64 (at_), .int .i64 (vv)]) [] 156 Try.func5 rfl rfl rfl ?_
 refine CT.seq (CT.region ?_)
 refine Wl.q rfl rfl (OpQ.assign rfl) ?_
 refine Wl.nil (PX.then_n (CT.seq (CT.region ?_)))
 refine Wl.q rfl rfl (OpQ.move rfl) ?_
 refine Wl.g rfl rfl (OpG.callX zf142 rfl .nil (fun _ => (.cons .nil)) (fun w hH hp => new_spec w a cp l hl)) ?_
 rintro ⟨b26, k26⟩ h26
 dsimp only at h26
 obtain ⟨hk26, hk26m⟩ := h26
 have hrT26 : Stays [] w (fun w => Rd w a ((l.take k26).map zi)) := Rd.stays (by rw [List.map_take]; exact hrl.take _)
 have hle26 : (l.take k26).length = k26 := by rw [List.length_take]; omega
 refine Wl.q rfl rfl (OpQ.assign rfl) ?_
 refine Wl.nil (PX.then_n (CT.seq (CT.region ?_)))
 refine Wl.q rfl rfl (OpQ.move rfl) ?_
 refine Wl.g rfl rfl (OpG.callX zf12 rfl (.cons .here .nil) (fun _ => (.cons .nil)) (fun w hH hp => next_spec w b26 a k26 cp (l.take k26) hle26 (by omega) (hH.stays hrT26 (.cons .here .nil)) 0 (Nat.zero_le _) hp (2) (by omega))) ?_
 rintro ⟨r28, p28⟩ h28
 dsimp only at h28
 obtain ⟨⟨h28a, h28b⟩, h28p⟩ := h28
 refine Wl.know 28 (v' := .int .i64 r28) rfl rfl ?_
 obtain ⟨L, hL⟩ : ∃ L : Nat, (L : Int) = 1 + r28 := ⟨(1 + r28).toNat, by omega⟩
 refine Wl.q rfl rfl (OpQ.add rfl rfl (by omega)) ?_
 refine Wl.know 29 (v' := .int .i64 ((L : Nat) : Int)) rfl (congrArg (Value.int .i64) hL.symm) ?_
 refine Wl.q rfl rfl (OpQ.assign rfl) ?_
 refine Wl.nil (PX.then_n (CT.seq (CT.region ?_)))
 refine Wl.q rfl rfl (OpQ.move rfl) ?_
 refine Wl.q rfl rfl (OpQ.move rfl) ?_
 refine Wl.g rfl rfl (OpG.callX zf143 rfl (.cons .here .nil) (fun _ => (App.of _ _)) (fun w hH hp => tseq_spec w b26 a k26 cp (l.take k26) hle26 (by omega) (hH.stays hrT26 (.cons .here .nil)) p28 h28p hp L (by omega) 4 2 (by omega) (by omega))) ?_
 rintro ⟨F, p32⟩ h32
 dsimp only at h32
 obtain ⟨⟨hFo, hFL, hFn, hFv⟩, h32p⟩ := h32
 refine Wl.know 32 (v' := svv F) rfl rfl ?_
 refine Wl.as (fun _ h => HOk.bindL (L := svH F 3 22 4 9 28) (F := [.row 57 2 (vb b26) 1 [.slice a k26 cp, .int .i64 ((p32 : Nat) : Int)]] ++ []) (p := svm F) (HOk.rot (A := [_]) (B := svH F 3 22 4 9 28) h) (fun w hk => svm_of hk)) ?_
 generalize blks _ = fF
 rw [← F.n_eq] at hFn
 have hF5 := Nat.mul_le_mul_right 2 (show F.sq.n + 1 ≤ 5 by omega)
 refine Wl.g rfl rfl (OpG.alloc (zs := [.int .i64 0, .int .i64 0, .string ⟨#[]⟩, .slice none 0 0, .slice none 0 0, .slice none 0 0, .slice none 0 0]) zf19 rfl rfl) ?_
 rintro b11 _
 refine Wl.g rfl rfl (OpG.storeV (b := b11) zf28 rfl rfl rfl rfl (by repeat (first | exact Upd.here | apply Upd.there))) ?_
 rintro _ _
 refine Wl.nil (PX.then_n (CT.seq (CT.region ?_)))
 refine Wl.q rfl rfl (OpQ.move rfl) ?_
 refine Wl.q rfl rfl (OpQ.move rfl) ?_
 refine Wl.g rfl rfl (OpG.callX zf143 rfl (.cons (.there (.there .here)) .nil) (fun _ => (App.of _ _)) (fun w hH hp => tseq_spec w b26 a k26 cp (l.take k26) hle26 (by omega) (hH.stays hrT26 (.cons (.there (.there .here)) .nil)) p32 h32p hp L (by omega) 4 2 (by omega) (by omega))) ?_
 rintro ⟨K, p35⟩ h35
 dsimp only at h35
 obtain ⟨⟨hKo, hKL, hKn, hKv⟩, h35p⟩ := h35
 refine Wl.know 35 (v' := svv K) rfl rfl ?_
 refine Wl.as (fun _ h => HOk.bindL (L := svH K 3 22 4 9 28) (F := [.row 57 2 (vb b26) 1 [.slice a k26 cp, .int .i64 ((p35 : Nat) : Int)]] ++ [.row 30 7 (vb b11) 1 (svc F), .frag fF (svm F)]) (p := svm K) (HOk.rot (A := [_]) (B := svH K 3 22 4 9 28) h) (fun w hk => svm_of hk)) ?_
 generalize blks _ = fK
 rw [← K.n_eq] at hKn
 refine Wl.g rfl rfl (OpG.alloc (zs := [.int .i64 0, .int .i64 0, .string ⟨#[]⟩, .slice none 0 0, .slice none 0 0, .slice none 0 0, .slice none 0 0]) zf19 rfl rfl) ?_
 rintro b12 _
 refine Wl.g rfl rfl (OpG.storeV (b := b12) zf28 rfl rfl rfl rfl (by repeat (first | exact Upd.here | apply Upd.there))) ?_
 rintro _ _
 refine Wl.nil (PX.then_n ?_)
 refine CT.cut (ι := Sv × List Nat) (Φ := fun (G, bG) => G.sq.Ok 11 ∧ G.L = L ∧ G.sq.n ≤ 4) (E' := fun (G, bG) => [(11, .pointer (some ⟨b11, 0, none⟩)), (12, .pointer (some ⟨b12, 0, none⟩))]) (H' := fun (G, bG) => [.row 30 7 (vb b12) 1 (svc G), .frag bG (svm G), .row 30 7 (vb b11) 1 (svc F), .frag fF (svm F)]) (fun K0 hK0 => ?_) (fun ⟨G, bG⟩ ⟨hGo, hGL, hGn⟩ => ?_)
 ·
  refine CT.seq (CT.region ?_)
  refine Wl.q rfl rfl (OpQ.move rfl) ?_
  refine Wl.g rfl rfl (OpG.call zf11 rfl (fun w hH => (mod_spec w how 4 (by omega)).mono fun e w' ⟨r, h1, h2, h3⟩ => ⟨r, h1, h2, hH.ext_nil h3⟩)) ?_
  rintro r37 h37
  obtain ⟨h37a, h37b⟩ := h37
  refine Wl.know 37 (v' := .int .i64 r37) rfl rfl ?_
  refine Wl.q rfl rfl (OpQ.gtr rfl rfl) ?_
  refine Wl.nil (PX.then_n ?_)
  refine CT.cond rfl (fun h38 => ?_) (fun h38 => ?_)
  ·
   have h38 := of_decide_eq_true h38
   refine CT.seq (CT.region ?_)
   refine Wl.q rfl rfl (OpQ.loadV (b := b11) zf29 zf28 rfl (by repeat (first | exact Has.here | apply Has.there)) (by rfl)) ?_
   refine Wl.know 40 (v' := svv F) rfl rfl ?_
   refine Wl.g rfl rfl (OpG.callX zf144 rfl .nil (fun _ => (App.of _ _)) (fun w hH hp => minimalR_spec w F (Stays.frag (hH.staysK0 (.there (.there (.there (.there .here)))))) hFo (by decide) (by omega) (fun g hg => by have := hg.n_le hFo; omega))) ?_
   rintro G hG
   obtain ⟨hGm, hGo1, hGn1⟩ := hG
   have hGo := hGo1.mono hF5
   have hGL : G.L = L := hGm.L_eq.trans hFL
   have hGL0 : 0 < G.L := by omega
   have hgn := G.n_eq
   have hst := hGo.st
   have hGl := hGo.lens
   refine Wl.as (fun _ h => HOk.swap (A := svH G 3 22 4 9 28) h) ?_
   refine Wl.fact (p := Nn G) (fun w hH => svm.nn (HOk.svm (A := [_, _, _, _, _]) hH)) (fun gnn => ?_)
   refine Wl.q rfl rfl (OpQ.move rfl) ?_
   refine Wl.q rfl rfl (OpQ.extract rfl rfl) ?_
   refine Wl.know 42 (v' := svv G) rfl rfl ?_
   refine Wl.q rfl rfl (OpQ.extract rfl rfl) ?_
   refine Wl.g rfl rfl (OpG.storeV (b := b12) zf28 rfl rfl rfl rfl (by repeat (first | exact Upd.here | apply Upd.there))) ?_
   rintro _ _
   refine Wl.nil (PX.then_n (CT.seq (CT.region ?_)))
   refine Wl.q rfl rfl (OpQ.move rfl) ?_
   refine Wl.q rfl rfl (OpQ.fieldAddr zf30 rfl) ?_
   refine Wl.q rfl rfl (OpQ.loadF (b := b12) zf31 rfl (by repeat (first | exact Has.here | apply Has.there)) (by rfl)) ?_
   refine Wl.q rfl rfl (OpQ.len zf21 rfl) ?_
   refine Wl.know 47 (v' := .int .i64 ((G.rs.length : Nat) : Int)) rfl rfl ?_
   refine Wl.g rfl rfl (OpG.call zf11 rfl (fun w hH => (mod_spec w at_ (G.rs.length : Int) (by omega)).mono fun e w' ⟨r, h1, h2, h3⟩ => ⟨r, h1, h2, hH.ext_nil h3⟩)) ?_
   rintro r48 h48
   obtain ⟨h48a, h48b⟩ := h48
   have hst2 : G.s < G.rs.length := by have : G.s < G.sq.n := hst; omega
   obtain ⟨q, hqq⟩ : ∃ q : Nat, (q : Int) = r48 := ⟨r48.toNat, by omega⟩
   have hqr : q < G.rs.length := by have := h48b (by omega); omega
   have hqo : q < G.os.length := by omega
   refine Wl.know 48 (v' := zn q) rfl (congrArg (Value.int .i64) hqq.symm) ?_
   have hrl := hGo.rlen hqr
   have hol := hGo.olen hqr
   have hot0 := (hGo.to' q 0 (by omega) hGL0)
   have hot : okT 11 (G.sq.o q 0 ++ [97]) := hot0.app (M := 10) (N := 1) (t := [97]) ⟨by decide, by decide⟩
   refine Wl.q rfl rfl (OpQ.assign rfl) ?_
   refine Wl.nil (PX.then_n (CT.seq (CT.region ?_)))
   refine Wl.q rfl rfl (OpQ.move rfl) ?_
   refine Wl.g rfl rfl (OpG.call zf11 rfl (fun w hH => (mod_spec w how 4 (by omega)).mono fun e w' ⟨r, h1, h2, h3⟩ => ⟨r, h1, h2, hH.ext_nil h3⟩)) ?_
   rintro r50 h50
   obtain ⟨h50a, h50b⟩ := h50
   refine Wl.know 50 (v' := .int .i64 r50) rfl rfl ?_
   refine Wl.nil (PX.then_n (CT.block (CT.seq (CT.region ?_))))
   refine Wl.q rfl rfl (OpQ.eql rfl rfl) ?_
   refine Wl.q rfl rfl (OpQ.assign rfl) ?_
   refine Wl.nil (PX.then_n ?_)
   refine CT.cond rfl (fun h51 => ?_) (fun h51 => ?_)
   ·
    have h51 := of_decide_eq_true h51
    refine CT.seq (CT.region ?_)
    refine Wl.q rfl rfl (OpQ.fieldAddr zf30 rfl) ?_
    refine Wl.q rfl rfl (OpQ.loadF (b := b12) zf31 rfl (by repeat (first | exact Has.here | apply Has.there)) (by rfl)) ?_
    refine Wl.q rfl rfl (OpQ.move rfl) ?_
    refine Wl.q rfl rfl (OpQ.index1 zf21 zf32 rfl rfl (by omega) (gnn.n (by omega))) ?_
    refine Wl.q rfl rfl (OpQ.loadG zf10 rfl (fun w hH => (HOk.svm (A := [_, _, _, _, _]) hH).n) (getMap rxv G.rs rx0 (j := q) (by omega))) ?_
    refine Wl.q rfl rfl (OpQ.index1 zf0 zf1 rfl rfl (by omega) (gnn.r q hqr (by omega))) ?_
    refine Wl.q rfl rfl (OpQ.loadG zf8 rfl (fun w hH => (HOk.svm (A := [_, _, _, _, _]) hH).r _ (getDm hqr)) (getMap zo (G.rs.getD q rx0).xs none (j := 0) (by omega))) ?_
    refine Wl.know 59 (v' := zo (G.sq.to q 0)) rfl (congrArg zo (G.to_eq q 0).symm) ?_
    refine Wl.q rfl rfl (OpQ.geq rfl rfl) ?_
    refine Wl.nil (PX.then_n ?_)
    refine CT.cond rfl (fun h60 => ?_) (fun h60 => ?_)
    ·
     have h60 := of_decide_eq_true h60
     refine CT.region ?_
     refine Wl.q rfl rfl (OpQ.fieldAddr zf34 rfl) ?_
     refine Wl.q rfl rfl (OpQ.loadF (b := b12) zf35 rfl (by repeat (first | exact Has.here | apply Has.there)) (by rfl)) ?_
     refine Wl.q rfl rfl (OpQ.move rfl) ?_
     refine Wl.q rfl rfl (OpQ.index1 zf23 zf36 rfl rfl (by omega) (gnn.o (by omega))) ?_
     refine Wl.q rfl rfl (OpQ.loadG zf37 rfl (fun w hH => (HOk.svm (A := [_, _, _, _, _]) hH).o) (getMap rxv G.os rx0 (j := q) (by omega))) ?_
     refine Wl.q rfl rfl (OpQ.index1 zf17 zf38 rfl rfl (by omega) (gnn.u q hqo (by omega))) ?_
     refine Wl.q rfl rfl (OpQ.loadG zf39 rfl (fun w hH => (HOk.svm (A := [_, _, _, _, _]) hH).u _ (getDm hqo)) (getMap sv (G.os.getD q rx0).xs [] (j := 0) (by omega))) ?_
     refine Wl.know 67 (v' := sv (G.sq.o q 0)) rfl (congrArg sv (G.o_eq q 0).symm) ?_
     refine Wl.q rfl rfl (OpQ.concat rfl rfl (by have := hot0.1; show _ + 1 ≤ _; omega)) ?_
     refine Wl.q rfl rfl (OpQ.index1 zf17 zf38 rfl rfl (by omega) (gnn.u q hqo (by omega))) ?_
     refine Wl.g rfl rfl (OpG.storeRow (a := (G.os.getD q rx0).a) zf38 rfl rfl rfl (Upd.get (svH_atO (A := [.row 30 7 (vb b12) 1 (svc G), .frag fK (svm K), .row 57 2 (vb b26) 1 [.slice a k26 cp, .int .i64 ((p35 : Nat) : Int)], .row 30 7 (vb b11) 1 (svc F), .frag fF (svm F)]) hqo)) (by rw [List.length_map]; omega)) ?_
     rintro _ _
     refine Wl.as (fun _ h => HOk.svPutO (A := [.row 30 7 (vb b12) 1 (svc G), .frag fK (svm K), .row 57 2 (vb b26) 1 [.slice a k26 cp, .int .i64 ((p35 : Nat) : Int)], .row 30 7 (vb b11) 1 (svc F), .frag fF (svm F)]) (q := q) (x := 0) (v := G.sq.o q 0 ++ [97]) h (rch_put (y := G.sq.o q 0 ++ [97]))) ?_
     refine Wl.nil (PX.block_n ?_)
     refine PX.as (fun _ h => HOk.bindL (L := svH (G.putO q 0 (G.sq.o q 0 ++ [97])) 3 22 4 9 28) (p := svm (G.putO q 0 (G.sq.o q 0 ++ [97]))) (HOk.swap (A := [.row 30 7 (vb b12) 1 (svc G), .frag fK (svm K), .row 57 2 (vb b26) 1 [.slice a k26 cp, .int .i64 ((p35 : Nat) : Int)], .row 30 7 (vb b11) 1 (svc F), .frag fF (svm F)]) (B := svH (G.putO q 0 (G.sq.o q 0 ++ [97])) 3 22 4 9 28) h) (fun w hk => svm_of hk)) ?_
     generalize blks _ = fG
     refine PX.as (fun _ h => h.take (.cons (.there .here) (.cons .here (.cons (.there (.there .here)) (.cons (.there (.there .here)) .nil))))) ?_
     exact PX.cut hK0 ((G.putO q 0 (G.sq.o q 0 ++ [97])), fG) ⟨Sv.putO_ok hGo hqr hGL0 (by decide) hot (fun e => by rw [e] at h60; exact absurd h60 (by decide)), hGL, (show G.sq.n ≤ 4 by omega)⟩ ⟨rfl, rfl, trivial⟩ (.keep (by rw [svc_putO]) (HSub.refl _))
    ·
     have h60 := of_decide_eq_false h60
     refine CT.skip (PX.block_n ?_)
     refine PX.as (fun _ h => HOk.bindL (L := svH G 3 22 4 9 28) (p := svm G) (HOk.swap (A := [.row 30 7 (vb b12) 1 (svc G), .frag fK (svm K), .row 57 2 (vb b26) 1 [.slice a k26 cp, .int .i64 ((p35 : Nat) : Int)], .row 30 7 (vb b11) 1 (svc F), .frag fF (svm F)]) (B := svH G 3 22 4 9 28) h) (fun w hk => svm_of hk)) ?_
     generalize blks _ = fG
     refine PX.as (fun _ h => h.take (.cons (.there .here) (.cons .here (.cons (.there (.there .here)) (.cons (.there (.there .here)) .nil))))) ?_
     exact PX.cut hK0 (G, fG) ⟨hGo.mono (by decide), hGL, by omega⟩ ⟨rfl, rfl, trivial⟩ (HSub.refl _)
   ·
    have h51 := of_decide_eq_false h51
    refine CT.seq (CT.region ?_)
    refine Wl.q rfl rfl (OpQ.eql rfl rfl) ?_
    refine Wl.q rfl rfl (OpQ.assign rfl) ?_
    refine Wl.nil (PX.then_n ?_)
    refine CT.cond rfl (fun h70 => ?_) (fun h70 => ?_)
    ·
     have h70 := of_decide_eq_true h70
     refine CT.seq (CT.region ?_)
     refine Wl.q rfl rfl (OpQ.fieldAddr zf30 rfl) ?_
     refine Wl.q rfl rfl (OpQ.loadF (b := b12) zf31 rfl (by repeat (first | exact Has.here | apply Has.there)) (by rfl)) ?_
     refine Wl.q rfl rfl (OpQ.move rfl) ?_
     refine Wl.q rfl rfl (OpQ.index1 zf21 zf32 rfl rfl (by omega) (gnn.n (by omega))) ?_
     refine Wl.q rfl rfl (OpQ.loadG zf10 rfl (fun w hH => (HOk.svm (A := [_, _, _, _, _]) hH).n) (getMap rxv G.rs rx0 (j := q) (by omega))) ?_
     refine Wl.q rfl rfl (OpQ.index1 zf0 zf1 rfl rfl (by omega) (gnn.r q hqr (by omega))) ?_
     refine Wl.q rfl rfl (OpQ.loadG zf8 rfl (fun w hH => (HOk.svm (A := [_, _, _, _, _]) hH).r _ (getDm hqr)) (getMap zo (G.rs.getD q rx0).xs none (j := 0) (by omega))) ?_
     refine Wl.know 78 (v' := zo (G.sq.to q 0)) rfl (congrArg zo (G.to_eq q 0).symm) ?_
     refine Wl.q rfl rfl (OpQ.geq rfl rfl) ?_
     refine Wl.nil (PX.then_n ?_)
     refine CT.cond rfl (fun h79 => ?_) (fun h79 => ?_)
     ·
      have h79 := of_decide_eq_true h79
      refine CT.draw 11 zf6 ?_
      refine RA.q 0 (by kernel_rfl) rfl rfl rfl (.refl _) (OpQ.fieldAddr zf30 rfl) ?_
      refine RA.q 1 (by kernel_rfl) rfl rfl rfl (.refl _) (OpQ.loadF (b := b12) zf31 rfl (by repeat (first | exact Has.here | apply Has.there)) (by rfl)) ?_
      refine RA.q 2 (by kernel_rfl) rfl rfl rfl (.refl _) (OpQ.move rfl) ?_
      refine RA.q 3 (by kernel_rfl) rfl rfl rfl (.refl _) (OpQ.index1 zf21 zf32 rfl rfl (by omega) (gnn.n (by omega))) ?_
      refine RA.q 4 (by kernel_rfl) rfl rfl rfl (.refl _) (OpQ.loadG zf10 rfl (fun w hH => (HOk.svm (A := [_, _, _, _, _]) hH).n) (getMap rxv G.rs rx0 (j := q) (by omega))) ?_
      refine RA.q 5 (by kernel_rfl) rfl rfl rfl (.refl _) (OpQ.move rfl) ?_
      refine RA.q 6 (by kernel_rfl) rfl rfl rfl (.refl _) (OpQ.fieldAddr zf30 rfl) ?_
      refine RA.q 7 (by kernel_rfl) rfl rfl rfl (.refl _) (OpQ.loadF (b := b12) zf31 rfl (by repeat (first | exact Has.here | apply Has.there)) (by rfl)) ?_
      refine RA.q 8 (by kernel_rfl) rfl rfl rfl (.refl _) (OpQ.len zf21 rfl) ?_
      refine RA.know 88 (v' := .int .i64 ((G.rs.length : Nat) : Int)) rfl rfl ?_
      refine RA.f 9 (by kernel_rfl) rfl rfl rfl (OpG.call zf11 rfl (fun w hH => (mod_spec w vv (G.rs.length : Int) (by omega)).mono fun e w' ⟨r, h1, h2, h3⟩ => ⟨r, h1, h2, hH.ext_nil h3⟩)) (fun _ _ => (.refl _)) ?_
      rintro r89 h89
      obtain ⟨h89a, h89b⟩ := h89
      obtain ⟨v, hv⟩ : ∃ v : Nat, (v : Int) = r89 := ⟨r89.toNat, by omega⟩
      have hvn : v < G.rs.length := by have := h89b (by omega); omega
      refine RA.know 89 (v' := zo (some v)) rfl (congrArg (Value.int .i64) hv.symm) ?_
      refine RA.q 10 (by kernel_rfl) rfl rfl rfl (.refl _) (OpQ.index1 zf0 zf1 rfl rfl (by omega) (gnn.r q hqr (by omega))) ?_
      refine RA.tail ?_
      refine RT.f 11 (by kernel_rfl) rfl rfl rfl (OpG.storeRow (a := (G.rs.getD q rx0).a) zf1 rfl rfl rfl (Upd.get (svH_atN (A := [.row 30 7 (vb b12) 1 (svc G), .frag fK (svm K), .row 57 2 (vb b26) 1 [.slice a k26 cp, .int .i64 ((p35 : Nat) : Int)], .row 30 7 (vb b11) 1 (svc F), .frag fF (svm F)]) hqr)) (by rw [List.length_map]; omega)) ?_
      rintro _ _
      refine RT.as (fun _ h => HOk.svPutN (A := [.row 30 7 (vb b12) 1 (svc G), .frag fK (svm K), .row 57 2 (vb b26) 1 [.slice a k26 cp, .int .i64 ((p35 : Nat) : Int)], .row 30 7 (vb b11) 1 (svc F), .frag fF (svm F)]) (q := q) (x := 0) (v := some v) hqr h (rch_put (y := some v))) ?_
      refine RT.done (by kernel_rfl) ?_
      refine PX.block_n ?_
      refine PX.as (fun _ h => HOk.bindL (L := svH (G.putN q 0 (some v)) 3 22 4 9 28) (p := svm (G.putN q 0 (some v))) (HOk.swap (A := [.row 30 7 (vb b12) 1 (svc G), .frag fK (svm K), .row 57 2 (vb b26) 1 [.slice a k26 cp, .int .i64 ((p35 : Nat) : Int)], .row 30 7 (vb b11) 1 (svc F), .frag fF (svm F)]) (B := svH (G.putN q 0 (some v)) 3 22 4 9 28) h) (fun w hk => svm_of hk)) ?_
      generalize blks _ = fG
      refine PX.as (fun _ h => h.take (.cons (.there .here) (.cons .here (.cons (.there (.there .here)) (.cons (.there (.there .here)) .nil))))) ?_
      exact PX.cut hK0 ((G.putN q 0 (some v)), fG) ⟨(Sv.putN_ok hGo hqr hGL0 hvn (fun e => by rw [e] at h79; exact absurd h79 (by decide))).mono (by decide), hGL, (by rw [Sv.n_eq]; show (G.rs.set _ _).length ≤ 4; rw [List.length_set]; omega)⟩ ⟨rfl, rfl, trivial⟩ (.keep (by rw [svc_putN]) (HSub.refl _))
     ·
      have h79 := of_decide_eq_false h79
      refine CT.skip (PX.block_n ?_)
      refine PX.as (fun _ h => HOk.bindL (L := svH G 3 22 4 9 28) (p := svm G) (HOk.swap (A := [.row 30 7 (vb b12) 1 (svc G), .frag fK (svm K), .row 57 2 (vb b26) 1 [.slice a k26 cp, .int .i64 ((p35 : Nat) : Int)], .row 30 7 (vb b11) 1 (svc F), .frag fF (svm F)]) (B := svH G 3 22 4 9 28) h) (fun w hk => svm_of hk)) ?_
      generalize blks _ = fG
      refine PX.as (fun _ h => h.take (.cons (.there .here) (.cons .here (.cons (.there (.there .here)) (.cons (.there (.there .here)) .nil))))) ?_
      exact PX.cut hK0 (G, fG) ⟨hGo.mono (by decide), hGL, by omega⟩ ⟨rfl, rfl, trivial⟩ (HSub.refl _)
    ·
     have h70 := of_decide_eq_false h70
     refine CT.skip (PX.block_n ?_)
     refine PX.as (fun _ h => HOk.bindL (L := svH G 3 22 4 9 28) (p := svm G) (HOk.swap (A := [.row 30 7 (vb b12) 1 (svc G), .frag fK (svm K), .row 57 2 (vb b26) 1 [.slice a k26 cp, .int .i64 ((p35 : Nat) : Int)], .row 30 7 (vb b11) 1 (svc F), .frag fF (svm F)]) (B := svH G 3 22 4 9 28) h) (fun w hk => svm_of hk)) ?_
     generalize blks _ = fG
     refine PX.as (fun _ h => h.take (.cons (.there .here) (.cons .here (.cons (.there (.there .here)) (.cons (.there (.there .here)) .nil))))) ?_
     exact PX.cut hK0 (G, fG) ⟨hGo.mono (by decide), hGL, by omega⟩ ⟨rfl, rfl, trivial⟩ (HSub.refl _)
  ·
   have h38 := of_decide_eq_false h38
   refine CT.skip ?_
   exact PX.cut hK0 (K, fK) ⟨hKo.mono (by decide), hKL, by omega⟩ ⟨rfl, rfl, trivial⟩ (.keep rfl (.keep rfl (.drop (HSub.refl _))))
 ·
  dsimp only
  refine CT.seq (CT.region ?_)
  have hG5 := Nat.mul_le_mul_right 11 (show G.sq.n + 1 ≤ 5 by omega)
  have hF4 := hFo.mono (show 2 ≤ 4096 by decide)
  have hG4 := hGo.mono (show 11 ≤ 4096 by decide)
  have hFG : F.L = G.L := hFL.trans hGL.symm
  refine Wl.q rfl rfl (OpQ.loadV (b := b11) zf29 zf28 rfl (by repeat (first | exact Has.here | apply Has.there)) (by rfl)) ?_
  refine Wl.know 92 (v' := svv F) rfl rfl ?_
  refine Wl.q rfl rfl (OpQ.loadV (b := b12) zf29 zf28 rfl (by repeat (first | exact Has.here | apply Has.there)) (by rfl)) ?_
  refine Wl.know 93 (v' := svv G) rfl rfl ?_
  refine Wl.g rfl rfl (OpG.call zf145 rfl (fun w hH => (equal_spec w (M := 11) F G (Stays.frag (hH.staysK0 (.there (.there (.there .here))))) (hFo.mono (by decide)) (Stays.frag (hH.staysK0 (.there .here))) hGo hFG (by decide) (by omega) (by omega) (fun g hg => by have := hg.n_le hFo; omega) (fun g hg => by have := hg.n_le hGo; omega)).mono fun e w' ⟨ws, h1, h2, h3⟩ => ⟨ws, h1, h2, hH.ext_nil h3⟩)) ?_
  rintro ⟨ws, df⟩ ho
  have hwsl : ws.length ≤ 25 ∧ okW ws (L : Int) = true := by
   cases df with
   | true => obtain ⟨h1, h2, _⟩ := ho.1 rfl; have h2 : ws.length ≤ _ := h2; exact ⟨by omega, Lw.okW (show Lw L ws from hFL ▸ h1) (by omega) (by omega)⟩
   | false => obtain ⟨h1, _⟩ := ho.2 rfl; have h1 : ws = [] := h1; subst h1; exact ⟨by decide, Lw.okW (Lw.nil L) (by omega) (by decide)⟩
  obtain ⟨hwl, hwk⟩ := hwsl
  refine Wl.q rfl rfl (OpQ.move rfl) ?_
  refine Wl.q rfl rfl (OpQ.extract rfl rfl) ?_
  refine Wl.know 95 (v' := sv ws) rfl rfl ?_
  refine Wl.q rfl rfl (OpQ.extract rfl rfl) ?_
  refine Wl.know 96 (v' := .bool (!df)) rfl rfl ?_
  refine Wl.q rfl rfl (OpQ.extract rfl rfl) ?_
  refine Wl.q rfl rfl (OpQ.assign rfl) ?_
  refine Wl.q rfl rfl (OpQ.assign rfl) ?_
  refine Wl.q rfl rfl (OpQ.assign rfl) ?_
  refine Wl.nil (PX.then_n (CT.seq (CT.region ?_)))
  refine Wl.q rfl rfl (OpQ.loadV (b := b11) zf29 zf28 rfl (by repeat (first | exact Has.here | apply Has.there)) (by rfl)) ?_
  refine Wl.know 99 (v' := svv F) rfl rfl ?_
  refine Wl.g rfl rfl (OpG.callX zf144 rfl .nil (fun _ => (App.of _ _)) (fun w hH hp => minimalR_spec w F (Stays.frag (hH.staysK0 (.there (.there (.there .here))))) hFo (by decide) (by omega) (fun g hg => by have := hg.n_le hFo; omega))) ?_
  rintro A hA
  obtain ⟨hAm, hAo, _⟩ := hA
  refine Wl.as (fun _ h => HOk.bindL (L := svH A 3 22 4 9 28) (p := svm A) h (fun w hk => svm_of hk)) ?_
  generalize blks _ = fA
  refine Wl.q rfl rfl (OpQ.move rfl) ?_
  refine Wl.q rfl rfl (OpQ.extract rfl rfl) ?_
  refine Wl.know 101 (v' := svv A) rfl rfl ?_
  refine Wl.q rfl rfl (OpQ.extract rfl rfl) ?_
  refine Wl.g rfl rfl (OpG.alloc (zs := [.int .i64 0, .int .i64 0, .string ⟨#[]⟩, .slice none 0 0, .slice none 0 0, .slice none 0 0, .slice none 0 0]) zf19 rfl rfl) ?_
  rintro b17 _
  refine Wl.g rfl rfl (OpG.storeV (b := b17) zf28 rfl rfl rfl rfl (by repeat (first | exact Upd.here | apply Upd.there))) ?_
  rintro _ _
  refine Wl.q rfl rfl (OpQ.assign rfl) ?_
  refine Wl.nil (PX.then_n (CT.seq (CT.region ?_)))
  refine Wl.q rfl rfl (OpQ.loadV (b := b12) zf29 zf28 rfl (by repeat (first | exact Has.here | apply Has.there)) (by rfl)) ?_
  refine Wl.know 104 (v' := svv G) rfl rfl ?_
  refine Wl.g rfl rfl (OpG.callX zf144 rfl .nil (fun _ => (App.of _ _)) (fun w hH hp => minimalR_spec w G (Stays.frag (hH.staysK0 (.there (.there (.there .here))))) hGo (by decide) (by omega) (fun g hg => by have := hg.n_le hGo; omega))) ?_
  rintro B hB
  obtain ⟨hBm, hBo, _⟩ := hB
  refine Wl.as (fun _ h => HOk.bindL (L := svH B 3 22 4 9 28) (p := svm B) h (fun w hk => svm_of hk)) ?_
  generalize blks _ = fB
  refine Wl.q rfl rfl (OpQ.move rfl) ?_
  refine Wl.q rfl rfl (OpQ.extract rfl rfl) ?_
  refine Wl.know 106 (v' := svv B) rfl rfl ?_
  refine Wl.q rfl rfl (OpQ.extract rfl rfl) ?_
  refine Wl.g rfl rfl (OpG.alloc (zs := [.int .i64 0, .int .i64 0, .string ⟨#[]⟩, .slice none 0 0, .slice none 0 0, .slice none 0 0, .slice none 0 0]) zf19 rfl rfl) ?_
  rintro b19 _
  refine Wl.g rfl rfl (OpG.storeV (b := b19) zf28 rfl rfl rfl rfl (by repeat (first | exact Upd.here | apply Upd.there))) ?_
  rintro _ _
  refine Wl.q rfl rfl (OpQ.assign rfl) ?_
  refine Wl.nil (PX.then_n (CT.seq (CT.seq (CT.region ?_))))
  refine Wl.q rfl rfl (OpQ.move rfl) ?_
  refine Wl.q rfl rfl (OpQ.neq rfl rfl) ?_
  refine Wl.know 109 (v' := .bool false) rfl (congrArg Value.bool (by decide)) ?_
  refine Wl.q rfl rfl (OpQ.move rfl) ?_
  refine Wl.q rfl rfl (OpQ.move rfl) ?_
  refine Wl.q rfl rfl (OpQ.loadV (b := b17) zf29 zf28 rfl (by repeat (first | exact Has.here | apply Has.there)) (by rfl)) ?_
  refine Wl.know 112 (v' := svv A) rfl rfl ?_
  refine Wl.q rfl rfl (OpQ.loadV (b := b19) zf29 zf28 rfl (by repeat (first | exact Has.here | apply Has.there)) (by rfl)) ?_
  refine Wl.know 113 (v' := svv B) rfl rfl ?_
  refine Wl.g rfl rfl (OpG.callV zf146 rfl (fun w hH => sameS_spec w A (Stays.frag (hH.staysK0 (.there (.there (.there .here))))) (hAo.mono (by omega)) B (Stays.frag (hH.staysK0 (.there .here))) (hBo.mono (by omega)))) ?_
  rintro _ _
  refine Wl.q rfl rfl (OpQ.neqB zf128 rfl rfl) ?_
  refine Wl.know 115 (v' := .bool false) rfl (congrArg Value.bool (by have := ho.min hFG hAm hBm; dsimp only at this; rw [this]; simp)) ?_
  refine Wl.q rfl rfl (OpQ.pickF rfl rfl) ?_
  refine Wl.nil (PX.then_n ?_)
  refine CT.condF rfl ?_
  refine CT.skip (PX.then_n (CT.seq (CT.region ?_)))
  refine Wl.q rfl rfl (OpQ.loadV (b := b11) zf29 zf28 rfl (by repeat (first | exact Has.here | apply Has.there)) (by rfl)) ?_
  refine Wl.know 118 (v' := svv F) rfl rfl ?_
  refine Wl.q rfl rfl (OpQ.move rfl) ?_
  refine Wl.g rfl rfl (OpG.callV zf147 rfl (fun w hH => applyR_spec w F (Stays.frag (hH.staysK0 (.there (.there (.there (.there (.there (.there (.there .here))))))))) hF4 hFo ws (by rw [hFL]; exact hwk) (by omega))) ?_
  rintro _ _
  refine Wl.q rfl rfl (OpQ.move rfl) ?_
  refine Wl.q rfl rfl (OpQ.extract rfl rfl) ?_
  refine Wl.q rfl rfl (OpQ.extract rfl rfl) ?_
  refine Wl.q rfl rfl (OpQ.assign rfl) ?_
  refine Wl.q rfl rfl (OpQ.assign rfl) ?_
  refine Wl.nil (PX.then_n (CT.seq (CT.region ?_)))
  refine Wl.q rfl rfl (OpQ.loadV (b := b12) zf29 zf28 rfl (by repeat (first | exact Has.here | apply Has.there)) (by rfl)) ?_
  refine Wl.know 124 (v' := svv G) rfl rfl ?_
  refine Wl.q rfl rfl (OpQ.move rfl) ?_
  refine Wl.g rfl rfl (OpG.callV zf147 rfl (fun w hH => applyR_spec w G (Stays.frag (hH.staysK0 (.there (.there (.there (.there (.there .here))))))) hG4 hGo ws (by rw [hGL]; exact hwk) (by omega))) ?_
  rintro _ _
  refine Wl.q rfl rfl (OpQ.move rfl) ?_
  refine Wl.q rfl rfl (OpQ.extract rfl rfl) ?_
  refine Wl.q rfl rfl (OpQ.extract rfl rfl) ?_
  refine Wl.q rfl rfl (OpQ.assign rfl) ?_
  refine Wl.q rfl rfl (OpQ.assign rfl) ?_
  refine Wl.nil (PX.then_n (CT.seq (CT.region ?_)))
  refine Wl.q rfl rfl (OpQ.move rfl) ?_
  refine Wl.q rfl rfl (OpQ.move rfl) ?_
  refine Wl.split 130 rfl (fun hg130 => ?_) (fun hg130 => ?_)
  ·
   have hdf : df = false := by simpa using hg130
   have hws0 : ws = [] := (ho.2 hdf).1
   refine Wl.q rfl rfl (OpQ.move rfl) ?_
   refine Wl.q rfl rfl (OpQ.eqlS rfl rfl) ?_
   refine Wl.know 132 (v' := .bool true) rfl (congrArg Value.bool (by rw [hws0]; rfl)) ?_
   refine Wl.q rfl rfl (OpQ.pickT rfl rfl) ?_
   refine Wl.q rfl rfl (OpQ.move rfl) ?_
   refine Wl.skip rfl rfl ?_
   refine Wl.skip rfl rfl ?_
   refine Wl.skip rfl rfl ?_
   refine Wl.skip rfl rfl ?_
   refine Wl.skip rfl rfl ?_
   refine Wl.skip rfl rfl ?_
   refine Wl.skip rfl rfl ?_
   refine Wl.skip rfl rfl ?_
   refine Wl.skip rfl rfl ?_
   refine Wl.skip rfl rfl ?_
   refine Wl.skip rfl rfl ?_
   refine Wl.skip rfl rfl ?_
   refine Wl.skip rfl rfl ?_
   refine Wl.skip rfl rfl ?_
   refine Wl.skip rfl rfl ?_
   refine Wl.skip rfl rfl ?_
   refine Wl.skip rfl rfl ?_
   refine Wl.q rfl rfl (OpQ.pickT rfl rfl) ?_
   refine Wl.q rfl rfl (OpQ.move rfl) ?_
   refine Wl.g rfl rfl (OpG.callV zf148 rfl (fun w hH => known_spec w)) ?_
   rintro _ _
   refine Wl.know 154 (v' := .bool true) rfl (congrArg Value.bool rfl) ?_
   refine Wl.q rfl rfl (OpQ.pickT rfl rfl) ?_
   refine Wl.q rfl rfl (OpQ.assign rfl) ?_
   refine Wl.nil (PX.then_n (CT.ret ?_))
   refine PX.ret1 rfl rfl (fun w' hH => ?_)
   exact ⟨rfl, hH.ext⟩
  ·
   have hdf : df = true := by simpa using hg130
   have hne : F.sq.value (wl ws) ≠ G.sq.value (wl ws) := (ho.1 hdf).2.2
   refine Wl.skip rfl rfl ?_
   refine Wl.skip rfl rfl ?_
   refine Wl.q rfl rfl (OpQ.pickF rfl rfl) ?_
   refine Wl.q rfl rfl (OpQ.move rfl) ?_
   refine Wl.q rfl rfl (OpQ.move rfl) ?_
   refine Wl.q rfl rfl (OpQ.not rfl) ?_
   refine Wl.know 136 (v' := .bool true) rfl (congrArg Value.bool (by rw [hdf]; rfl)) ?_
   refine Wl.q rfl rfl (OpQ.move rfl) ?_
   refine Wl.q rfl rfl (OpQ.move rfl) ?_
   refine Wl.q rfl rfl (OpQ.lenSv zf4 rfl) ?_
   refine Wl.q rfl rfl (OpQ.leq rfl rfl) ?_
   refine Wl.know 140 (v' := .bool true) rfl (congrArg Value.bool (decide_eq_true (by omega))) ?_
   refine Wl.q rfl rfl (OpQ.pickT rfl rfl) ?_
   refine Wl.q rfl rfl (OpQ.move rfl) ?_
   refine Wl.q rfl rfl (OpQ.move rfl) ?_
   refine Wl.q rfl rfl (OpQ.move rfl) ?_
   refine Wl.q rfl rfl (OpQ.neqB zf128 rfl rfl) ?_
   refine Wl.q rfl rfl (OpQ.move rfl) ?_
   refine Wl.split 146 rfl (fun hg146 => ?_) (fun hg146 => ?_)
   ·
    refine Wl.skip rfl rfl ?_
    refine Wl.skip rfl rfl ?_
    refine Wl.skip rfl rfl ?_
    refine Wl.q rfl rfl (OpQ.pickT rfl rfl) ?_
    refine Wl.q rfl rfl (OpQ.pickT rfl rfl) ?_
    refine Wl.q rfl rfl (OpQ.pickF rfl rfl) ?_
    refine Wl.q rfl rfl (OpQ.move rfl) ?_
    refine Wl.g rfl rfl (OpG.callV zf148 rfl (fun w hH => known_spec w)) ?_
    rintro _ _
    refine Wl.know 154 (v' := .bool true) rfl (congrArg Value.bool rfl) ?_
    refine Wl.q rfl rfl (OpQ.pickT rfl rfl) ?_
    refine Wl.q rfl rfl (OpQ.assign rfl) ?_
    refine Wl.nil (PX.then_n (CT.ret ?_))
    refine PX.ret1 rfl rfl (fun w' hH => ?_)
    exact ⟨rfl, hH.ext⟩
   ·
    have hp2 : (apv (F.sq.value (wl ws))).2 = (apv (G.sq.value (wl ws))).2 := by simpa using hg146
    refine Wl.q rfl rfl (OpQ.move rfl) ?_
    refine Wl.q rfl rfl (OpQ.move rfl) ?_
    refine Wl.q rfl rfl (OpQ.neqS rfl rfl) ?_
    refine Wl.know 149 (v' := .bool true) rfl (congrArg Value.bool (by simpa using fun e => hne (apv_eq hp2 e))) ?_
    refine Wl.q rfl rfl (OpQ.pickF rfl rfl) ?_
    refine Wl.q rfl rfl (OpQ.pickT rfl rfl) ?_
    refine Wl.q rfl rfl (OpQ.pickF rfl rfl) ?_
    refine Wl.q rfl rfl (OpQ.move rfl) ?_
    refine Wl.g rfl rfl (OpG.callV zf148 rfl (fun w hH => known_spec w)) ?_
    rintro _ _
    refine Wl.know 154 (v' := .bool true) rfl (congrArg Value.bool rfl) ?_
    refine Wl.q rfl rfl (OpQ.pickT rfl rfl) ?_
    refine Wl.q rfl rfl (OpQ.assign rfl) ?_
    refine Wl.nil (PX.then_n (CT.ret ?_))
    refine PX.ret1 rfl rfl (fun w' hH => ?_)
    exact ⟨rfl, hH.ext⟩

end Go.Proofs.Ytamolakhpcofhaa

