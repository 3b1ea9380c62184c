/-
  What functions of the program compute, each by its walk. Conditions: those that each theorem names.
-/
import Derived.Test.YtamolakhpcofhaaXC1
import Derived.Test.YtamolakhpcofhaaXE4
import Derived.Test.YtamolakhpcofhaaEng1
import Derived.Test.YtamolakhpcofhaaMod1
import Derived.Test.YtamolakhpcofhaaXF
set_option linter.unusedSimpArgs false
namespace Go.Proofs.Ytamolakhpcofhaa
open Go Go.Eng Go.Am Go.Sq
open Go.Tp (zi)
open Go.Tl (mayL Wd okW okB bo)

set_option maxRecDepth 100000 in
set_option maxHeartbeats 1000000 in
/-- (*semigroup/semigroupmade.Tape).Sequential -/
theorem tseq_spec (w : World) (b : Nat) (ta : Option Addr) (tn tc : Nat) (tl : List Int) (htl : tl.length = tn) (htm : tn ≤ 9223372036854775806) (hr : Stays [b] w (fun w => Rd w ta (tl.map zi))) (p : Nat) (hat : p ≤ tn) (hpre : Pre [.row 57 2 (vb b) 1 [.slice ta tn tc, .int .i64 ((p : Nat) : Int)]] w) (L : Nat) (hL : 1 ≤ L ∧ L ≤ 6) (most outs : Int) (hmo : 1 ≤ most ∧ most ≤ 100) (hou : 1 ≤ outs ∧ outs ≤ 6) : Calls Try.prog 10 #[.pointer (some ⟨b, 0, none⟩), .int .i64 ((L : Nat) : Int), .int .i64 most, .int .i64 outs] w (fun e w' => ∃ i : Sv × Nat, ((i.1.sq.Ok 2 ∧ i.1.L = L ∧ (i.1.rs.length : Int) ≤ most ∧ i.1.sq.Over outs) ∧ i.2 ≤ tn) ∧ e = .returned (svv i.1) ∧ Post [b] (.row 57 2 (vb b) 1 [.slice ta tn tc, .int .i64 ((i.2 : Nat) : Int)] :: svH i.1 3 22 4 9 28) w w') := by
 refine enterX (args := [.pointer (some ⟨b, 0, none⟩), .int .i64 ((L : Nat) : Int), .int .i64 most, .int .i64 outs]) hpre 92 Try.func10 rfl rfl rfl ?_
 refine CT.seq (CT.region ?_)
 refine Wl.g rfl rfl (OpG.alloc (zs := [.int .i64 0, .int .i64 0, .string ⟨#[]⟩, .slice none 0 0, .slice none 0 0, .slice none 0 0, .slice none 0 0]) zf19 rfl rfl) ?_
 rintro b8 _
 refine Wl.nil (PX.then_n (CT.seq (CT.region ?_)))
 refine Wl.q rfl rfl (OpQ.move rfl) ?_
 refine Wl.q rfl rfl (OpQ.move rfl) ?_
 refine Wl.g rfl rfl (OpG.callX zf12 rfl (.cons (.there .here) .nil) (fun _ => (.cons .nil)) (fun w hH hp => next_spec w b ta tn tc tl htl htm (hH.stays hr (.cons (.there .here) .nil)) p hat hp (most) (by omega))) ?_
 rintro ⟨r21, p21⟩ h21
 dsimp only at h21
 obtain ⟨⟨h21a, h21b⟩, h21p⟩ := h21
 refine Wl.know 21 (v' := .int .i64 r21) rfl rfl ?_
 obtain ⟨n, hn⟩ : ∃ n : Nat, (n : Int) = 1 + r21 := ⟨(1 + r21).toNat, by omega⟩
 refine Wl.q rfl rfl (OpQ.add rfl rfl (by omega)) ?_
 refine Wl.know 22 (v' := .int .i64 ((n : Nat) : Int)) rfl (congrArg (Value.int .i64) hn.symm) ?_
 refine Wl.q rfl rfl (OpQ.assign rfl) ?_
 refine Wl.nil (PX.then_n (CT.seq (CT.region ?_)))
 refine Wl.q rfl rfl (OpQ.move rfl) ?_
 refine Wl.q rfl rfl (OpQ.move rfl) ?_
 refine Wl.q rfl rfl (OpQ.move rfl) ?_
 refine Wl.g rfl rfl (OpG.callX zf12 rfl (.cons .here .nil) (fun _ => (.cons .nil)) (fun w hH hp => next_spec w b ta tn tc tl htl htm (hH.stays hr (.cons .here .nil)) p21 h21p hp ((n : Int)) (by omega))) ?_
 rintro ⟨r26, p26⟩ h26
 dsimp only at h26
 obtain ⟨⟨h26a, h26b⟩, h26p⟩ := h26
 refine Wl.know 26 (v' := .int .i64 r26) rfl rfl ?_
 obtain ⟨s, hs⟩ : ∃ s : Nat, (s : Int) = r26 := ⟨r26.toNat, by omega⟩
 refine Wl.q rfl rfl (OpQ.move rfl) ?_
 refine Wl.q rfl rfl (OpQ.move rfl) ?_
 refine Wl.g rfl rfl (OpG.callX zf140 rfl (.cons .here .nil) (fun _ => (.cons .nil)) (fun w hH hp => word_spec w b ta tn tc tl htl htm (hH.stays hr (.cons .here .nil)) p26 h26p hp outs 1 hou (by omega))) ?_
 rintro ⟨ws, p29⟩ h29
 dsimp only at h29
 obtain ⟨⟨hwl, hwk⟩, h29p⟩ := h29
 refine Wl.know 29 (v' := sv ws) rfl rfl ?_
 refine Wl.know 26 (v' := zn s) rfl (congrArg (Value.int .i64) hs.symm) ?_
 refine Wl.q rfl rfl (OpQ.build (cells := #[zn L, zn s, sv ws, .slice none 0 0, .slice none 0 0, .slice none 0 0, .slice none 0 0]) zf27 rfl rfl) ?_
 refine Wl.g rfl rfl (OpG.alloc (zs := [.int .i64 0, .int .i64 0, .string ⟨#[]⟩, .slice none 0 0, .slice none 0 0, .slice none 0 0, .slice none 0 0]) zf19 rfl rfl) ?_
 rintro b10 _
 refine Wl.g rfl rfl (OpG.storeV (b := b10) zf28 rfl rfl rfl rfl (by repeat (first | exact Upd.here | apply Upd.there))) ?_
 rintro _ _
 refine Wl.nil (PX.then_n (CT.seq (CT.seq (CT.region ?_))))
 refine Wl.q rfl rfl (OpQ.assign rfl) ?_
 refine Wl.nil (PX.then_n (CT.block ?_))
 refine CT.nilrow 9 1 ?_
 refine CT.nilrow 4 1 ?_
 refine CT.nilrow 28 1 ?_
 refine CT.nilrow 22 1 ?_
 refine CT.as (fun _ h => h.take (.cons .here (.cons .here (.cons .here (.cons .here (.cons (.there .here) (.cons .here (.cons .here .nil)))))))) ?_
 refine CT.loop (ι := Nat × Nat × Option Addr × Nat × List (Rx (Option Nat)) × Option Addr × Nat × List (Rx Wd) × Option Addr × Nat × List Bool × Option Addr × Nat × List Wd) (fun (k, p', na', nc', rs, oa', oc', os, ea', ec', es, fa', fc', fs) => k ≤ n ∧ p' ≤ tn ∧ TqI outs L n k rs os es fs) (fun (k, p', na', nc', rs, oa', oc', os, ea', ec', es, fa', fc', fs) => [(0, .pointer (some ⟨b, 0, none⟩)), (1, .int .i64 ((L : Nat) : Int)), (3, .int .i64 outs), (8, .pointer (some ⟨b8, 0, none⟩)), (9, .int .i64 ((n : Nat) : Int)), (10, .pointer (some ⟨b10, 0, none⟩)), (11, .int .i64 ((k : Nat) : Int))]) (fun (k, p', na', nc', rs, oa', oc', os, ea', ec', es, fa', fc', fs) => [.row 22 1 (.slice na' k nc') k ((rs).map rxv), .row 28 1 (.slice oa' k oc') k ((os).map rxv), .row 4 1 (.slice ea' k ec') k ((es).map bo), .row 9 1 (.slice fa' k fc') k ((fs).map sv), .row 57 2 (vb b) 1 [.slice ta tn tc, .int .i64 ((p' : Nat) : Int)], .row 30 7 (vb b10) 1 [zn L, zn s, sv ws, .slice na' k nc', .slice oa' k oc', .slice ea' k ec', .slice fa' k fc'], .row 30 7 (vb b8) 1 [.int .i64 0, .int .i64 0, .string ⟨#[]⟩, .slice none 0 0, .slice none 0 0, .slice none 0 0, .slice none 0 0]] ++ (fam 3 zo rs ++ fam 9 sv os)) (fun (k, p', na', nc', rs, oa', oc', os, ea', ec', es, fa', fc', fs) => n - k) (0, p29, none, 0, [], none, 0, [], none, 0, [], none, 0, []) ⟨Nat.zero_le _, h29p, TqI.start outs L n⟩ ⟨rfl, rfl, rfl, rfl, rfl, rfl, rfl, trivial⟩ (HSub.refl _) (fun ⟨k, p', na', nc', rs, oa', oc', os, ea', ec', es, fa', fc', fs⟩ ⟨hk, hat', ht⟩ K0 hK0 => ?_)
 dsimp only
 refine CT.seq (CT.seq (CT.region ?_))
 refine Wl.q rfl rfl (OpQ.move rfl) ?_
 refine Wl.q rfl rfl (OpQ.move rfl) ?_
 refine Wl.q rfl rfl (OpQ.lss rfl rfl) ?_
 refine Wl.nil (PX.then_n ?_)
 refine CT.cond rfl (fun h33 => ?_) (fun h33 => ?_)
 ·
  have h33 := of_decide_eq_true h33
  refine CT.skip (PX.then_n (CT.seq (CT.block (CT.seq (CT.region ?_)))))
  refine Wl.q rfl rfl (OpQ.assign rfl) ?_
  refine Wl.nil (PX.then_n (CT.seq (CT.region ?_)))
  refine Wl.q rfl rfl (OpQ.assign rfl) ?_
  refine Wl.nil (PX.then_n (CT.seq (CT.seq (CT.region ?_))))
  refine Wl.q rfl rfl (OpQ.assign rfl) ?_
  refine Wl.nil (PX.then_n (CT.block ?_))
  refine CT.nilrow 9 1 ?_
  refine CT.nilrow 3 1 ?_
  refine CT.as (fun _ h => HOk.rot (A := [_, _, _, _, _, _]) (B := [_]) h) ?_
  refine CT.loop (ι := Nat × Nat × Option Addr × Nat × List (Option Nat) × Option Addr × Nat × List Wd) (fun (x, p', xa, xc, xs, wa, wc, wl) => x ≤ L ∧ p' ≤ tn ∧ RowI outs n x xs wl) (fun (x, p', xa, xc, xs, wa, wc, wl) => [(0, .pointer (some ⟨b, 0, none⟩)), (1, .int .i64 ((L : Nat) : Int)), (3, .int .i64 outs), (8, .pointer (some ⟨b8, 0, none⟩)), (9, .int .i64 ((n : Nat) : Int)), (10, .pointer (some ⟨b10, 0, none⟩)), (11, .int .i64 ((k : Nat) : Int)), (12, .slice xa x xc), (13, .slice wa x wc), (14, .int .i64 ((x : Nat) : Int))]) (fun (x, p', xa, xc, xs, wa, wc, wl) => [.row 57 2 (vb b) 1 [.slice ta tn tc, .int .i64 ((p' : Nat) : Int)], .row 3 1 (.slice xa x xc) x (xs.map zo), .row 9 1 (.slice wa x wc) x (wl.map sv), .row 22 1 (.slice na' k nc') k ((rs).map rxv), .row 28 1 (.slice oa' k oc') k ((os).map rxv), .row 4 1 (.slice ea' k ec') k ((es).map bo), .row 9 1 (.slice fa' k fc') k ((fs).map sv), .row 30 7 (vb b10) 1 [zn L, zn s, sv ws, .slice na' k nc', .slice oa' k oc', .slice ea' k ec', .slice fa' k fc'], .row 30 7 (vb b8) 1 [.int .i64 0, .int .i64 0, .string ⟨#[]⟩, .slice none 0 0, .slice none 0 0, .slice none 0 0, .slice none 0 0]] ++ (fam 3 zo rs ++ fam 9 sv os)) (fun (x, p', xa, xc, xs, wa, wc, wl) => L - x) (0, p', none, 0, [], none, 0, []) ⟨Nat.zero_le _, hat', RowI.start outs n⟩ ⟨rfl, rfl, rfl, rfl, rfl, rfl, rfl, rfl, rfl, rfl, trivial⟩ (HSub.refl _) (fun ⟨x, p', xa, xc, xs, wa, wc, wl⟩ ⟨hx, hat', hri⟩ K1 hK1 => ?_)
  dsimp only
  refine CT.seq (CT.seq (CT.region ?_))
  refine Wl.q rfl rfl (OpQ.move rfl) ?_
  refine Wl.q rfl rfl (OpQ.move rfl) ?_
  refine Wl.q rfl rfl (OpQ.lss rfl rfl) ?_
  refine Wl.nil (PX.then_n ?_)
  refine CT.cond rfl (fun h38 => ?_) (fun h38 => ?_)
  ·
   have h38 := of_decide_eq_true h38
   refine CT.skip (PX.then_n (CT.seq (CT.block (CT.seq (CT.region ?_)))))
   refine Wl.q rfl rfl (OpQ.move rfl) ?_
   refine Wl.q rfl rfl (OpQ.move rfl) ?_
   refine Wl.q rfl rfl (OpQ.add rfl rfl (by omega)) ?_
   refine Wl.know 43 (v' := .int .i64 (((n + 1) : Nat) : Int)) rfl (congrArg (Value.int .i64) (by push_cast; rfl)) ?_
   refine Wl.g rfl rfl (OpG.callX zf12 rfl (.cons .here .nil) (fun _ => (.cons .nil)) (fun w hH hp => next_spec w b ta tn tc tl htl htm (hH.stays hr (.cons .here .nil)) p' hat' hp (((n + 1 : Nat) : Int)) (by omega))) ?_
   rintro ⟨r44, p44⟩ h44
   dsimp only at h44
   obtain ⟨⟨h44a, h44b⟩, h44p⟩ := h44
   refine Wl.know 44 (v' := .int .i64 r44) rfl rfl ?_
   obtain ⟨to, hto⟩ : ∃ t : Option Nat, oi t = r44 - 1 := ⟨io (r44 - 1), oi_io (by omega)⟩
   have hto2 : ∀ r, to = some r → r < n := fun r hr => by rw [hr] at hto; have hto : (r : Int) = r44 - 1 := hto; omega
   refine Wl.q rfl rfl (OpQ.sub rfl rfl (by omega)) ?_
   refine Wl.know 45 (v' := zo to) rfl (congrArg (Value.int .i64) hto.symm) ?_
   refine Wl.q rfl rfl (OpQ.move rfl) ?_
   refine Wl.q rfl rfl (OpQ.move rfl) ?_
   refine Wl.g rfl rfl (OpG.callX zf140 rfl (.cons .here .nil) (fun _ => (.cons .nil)) (fun w hH hp => word_spec w b ta tn tc tl htl htm (hH.stays hr (.cons .here .nil)) p44 h44p hp outs 2 hou (by omega))) ?_
   rintro ⟨w48, p48⟩ h48
   dsimp only at h48
   obtain ⟨⟨hwl48, hwk48⟩, h48p⟩ := h48
   refine Wl.know 48 (v' := sv w48) rfl rfl ?_
   refine Wl.q rfl rfl (OpQ.assign rfl) ?_
   refine Wl.q rfl rfl (OpQ.assign rfl) ?_
   refine Wl.nil (PX.then_n ?_)
   refine CT.cut (ι := Wd) (Φ := fun v => (to = none → v = []) ∧ okT 2 v ∧ okO outs v) (E' := fun v => [(0, .pointer (some ⟨b, 0, none⟩)), (1, .int .i64 ((L : Nat) : Int)), (3, .int .i64 outs), (8, .pointer (some ⟨b8, 0, none⟩)), (9, .int .i64 ((n : Nat) : Int)), (10, .pointer (some ⟨b10, 0, none⟩)), (11, .int .i64 ((k : Nat) : Int)), (12, .slice xa x xc), (13, .slice wa x wc), (14, .int .i64 ((x : Nat) : Int)), (15, zo to), (16, sv v)]) (H' := fun v => [.row 57 2 (vb b) 1 [.slice ta tn tc, .int .i64 ((p48 : Nat) : Int)], .row 3 1 (.slice xa x xc) x (xs.map zo), .row 9 1 (.slice wa x wc) x (wl.map sv), .row 22 1 (.slice na' k nc') k ((rs).map rxv), .row 28 1 (.slice oa' k oc') k ((os).map rxv), .row 4 1 (.slice ea' k ec') k ((es).map bo), .row 9 1 (.slice fa' k fc') k ((fs).map sv), .row 30 7 (vb b10) 1 [zn L, zn s, sv ws, .slice na' k nc', .slice oa' k oc', .slice ea' k ec', .slice fa' k fc'], .row 30 7 (vb b8) 1 [.int .i64 0, .int .i64 0, .string ⟨#[]⟩, .slice none 0 0, .slice none 0 0, .slice none 0 0, .slice none 0 0]] ++ (fam 3 zo rs ++ fam 9 sv os)) (fun K2 hK2 => ?_) (fun v ⟨hvn, hvt⟩ => ?_)
   ·
    refine CT.seq (CT.region ?_)
    refine Wl.q rfl rfl (OpQ.move rfl) ?_
    refine Wl.q rfl rfl (OpQ.lss rfl rfl) ?_
    refine Wl.nil (PX.then_n ?_)
    refine CT.cond rfl (fun h50 => ?_) (fun h50 => ?_)
    ·
     have h50 := of_decide_eq_true h50
     refine CT.region ?_
     refine Wl.q rfl rfl (OpQ.assign rfl) ?_
     refine Wl.nil ?_
     exact PX.cut hK2 [] ⟨fun _ => rfl, okT.nil 2, okO.nil outs⟩ ⟨rfl, rfl, rfl, rfl, rfl, rfl, rfl, rfl, rfl, rfl, rfl, rfl, trivial⟩ (HSub.refl _)
    ·
     have h50 := of_decide_eq_false h50
     refine CT.skip ?_
     exact PX.cut hK2 w48 ⟨(fun e => by rw [e] at h50; exact absurd (show oi none < 0 by decide) h50), okT_of_okW hwk48 hou.2 (by omega), okO_of_okW hwk48⟩ ⟨rfl, rfl, rfl, rfl, rfl, rfl, rfl, rfl, rfl, rfl, rfl, rfl, trivial⟩ (HSub.refl _)
   ·
    refine CT.region ?_
    refine Wl.q rfl rfl (OpQ.move rfl) ?_
    refine Wl.q rfl rfl (OpQ.move rfl) ?_
    refine Wl.g rfl rfl (OpG.lit1 zf0 zf16 rfl rfl rfl) ?_
    rintro b53 _
    refine Wl.g rfl rfl (OpG.append zf0 zf16 (by rfl) (by decide) rfl rfl (p := 2) rfl (fun w hH => hH.rd .here) ⟨rfl, (by simp [Value.oneCell']), (by omega), (by omega)⟩ (nm := (x + 1)) rfl (all := (xs ++ [to]).map zo) (by simp)) ?_
    rintro ⟨a54, c54⟩ h54
    refine Wl.q rfl rfl (OpQ.move rfl) ?_
    refine Wl.q rfl rfl (OpQ.move rfl) ?_
    refine Wl.g rfl rfl (OpG.lit1 zf17 zf18 rfl rfl rfl) ?_
    rintro b57 _
    refine Wl.g rfl rfl (OpG.append zf17 zf18 (by rfl) (by decide) rfl rfl (p := 4) rfl (fun w hH => hH.rd .here) ⟨rfl, (by simp [Value.oneCell']), (by omega), (by omega)⟩ (nm := (x + 1)) rfl (all := (wl ++ [v]).map sv) (by simp)) ?_
    rintro ⟨a58, c58⟩ h58
    refine Wl.q rfl rfl (OpQ.assign rfl) ?_
    refine Wl.q rfl rfl (OpQ.assign rfl) ?_
    refine Wl.nil (PX.block_n (PX.then_n (CT.region ?_)))
    refine Wl.q rfl rfl (OpQ.move rfl) ?_
    refine Wl.q rfl rfl (OpQ.add rfl rfl (by omega)) ?_
    refine Wl.q rfl rfl (OpQ.assign rfl) ?_
    refine Wl.nil ?_
    exact PX.loop hK1 (x + 1, p48, a54, c54, xs ++ [to], a58, c58, wl ++ [v]) ⟨by omega, h48p, hri.snoc hto2 hvn hvt⟩ (show L - (x + 1) < L - x by omega) ⟨rfl, rfl, rfl, rfl, rfl, rfl, rfl, rfl, rfl, rfl, trivial⟩ (.drop (.drop (HSub.refl _)))
  ·
   have h38 := of_decide_eq_false h38
   obtain rfl : L = x := by omega
   refine CT.exit (PX.then_x (PX.then_x (PX.block_x (PX.then_n (CT.seq (CT.region ?_))))))
   refine Wl.q rfl rfl (OpQ.move rfl) ?_
   refine Wl.g rfl rfl (OpG.callX zf12 rfl (.cons .here .nil) (fun _ => (.cons .nil)) (fun w hH hp => next_spec w b ta tn tc tl htl htm (hH.stays hr (.cons .here .nil)) p' hat' hp (3) (by omega))) ?_
   rintro ⟨r60, p60⟩ h60
   dsimp only at h60
   obtain ⟨⟨h60a, h60b⟩, h60p⟩ := h60
   refine Wl.know 60 (v' := .int .i64 r60) rfl rfl ?_
   obtain ⟨eb, heb⟩ : ∃ e : Bool, e = decide (r60 > 0) := ⟨_, rfl⟩
   refine Wl.q rfl rfl (OpQ.gtr rfl rfl) ?_
   refine Wl.know 61 (v' := .bool eb) rfl (congrArg Value.bool heb.symm) ?_
   refine Wl.q rfl rfl (OpQ.move rfl) ?_
   refine Wl.q rfl rfl (OpQ.move rfl) ?_
   refine Wl.g rfl rfl (OpG.callX zf140 rfl (.cons .here .nil) (fun _ => (.cons .nil)) (fun w hH hp => word_spec w b ta tn tc tl htl htm (hH.stays hr (.cons .here .nil)) p60 h60p hp outs 2 hou (by omega))) ?_
   rintro ⟨w64, p64⟩ h64
   dsimp only at h64
   obtain ⟨⟨hwl64, hwk64⟩, h64p⟩ := h64
   refine Wl.know 64 (v' := sv w64) rfl rfl ?_
   refine Wl.q rfl rfl (OpQ.assign rfl) ?_
   refine Wl.q rfl rfl (OpQ.assign rfl) ?_
   refine Wl.nil (PX.then_n ?_)
   refine CT.cut (ι := Wd) (Φ := fun v => (eb = false → v = []) ∧ okT 2 v ∧ okO outs v) (E' := fun v => [(0, .pointer (some ⟨b, 0, none⟩)), (1, .int .i64 ((L : Nat) : Int)), (3, .int .i64 outs), (8, .pointer (some ⟨b8, 0, none⟩)), (9, .int .i64 ((n : Nat) : Int)), (10, .pointer (some ⟨b10, 0, none⟩)), (11, .int .i64 ((k : Nat) : Int)), (12, .slice xa L xc), (13, .slice wa L wc), (17, .bool eb), (18, sv v)]) (H' := fun v => [.row 57 2 (vb b) 1 [.slice ta tn tc, .int .i64 ((p64 : Nat) : Int)], .row 3 1 (.slice xa L xc) L (xs.map zo), .row 9 1 (.slice wa L wc) L (wl.map sv), .row 22 1 (.slice na' k nc') k ((rs).map rxv), .row 28 1 (.slice oa' k oc') k ((os).map rxv), .row 4 1 (.slice ea' k ec') k ((es).map bo), .row 9 1 (.slice fa' k fc') k ((fs).map sv), .row 30 7 (vb b10) 1 [zn L, zn s, sv ws, .slice na' k nc', .slice oa' k oc', .slice ea' k ec', .slice fa' k fc'], .row 30 7 (vb b8) 1 [.int .i64 0, .int .i64 0, .string ⟨#[]⟩, .slice none 0 0, .slice none 0 0, .slice none 0 0, .slice none 0 0]] ++ (fam 3 zo rs ++ fam 9 sv os)) (fun K3 hK3 => ?_) (fun v ⟨hvn, hvt⟩ => ?_)
   ·
    refine CT.seq (CT.region ?_)
    refine Wl.q rfl rfl (OpQ.move rfl) ?_
    refine Wl.q rfl rfl (OpQ.not rfl) ?_
    refine Wl.nil (PX.then_n ?_)
    refine CT.cond rfl (fun h66 => ?_) (fun h66 => ?_)
    ·
     refine CT.region ?_
     refine Wl.q rfl rfl (OpQ.assign rfl) ?_
     refine Wl.nil ?_
     exact PX.cut hK3 [] ⟨fun _ => rfl, okT.nil 2, okO.nil outs⟩ ⟨rfl, rfl, rfl, rfl, rfl, rfl, rfl, rfl, rfl, rfl, rfl, trivial⟩ (HSub.refl _)
    ·
     refine CT.skip ?_
     exact PX.cut hK3 w64 ⟨(fun e => by rw [e] at h66; cases h66), okT_of_okW hwk64 hou.2 (by omega), okO_of_okW hwk64⟩ ⟨rfl, rfl, rfl, rfl, rfl, rfl, rfl, rfl, rfl, rfl, rfl, trivial⟩ (HSub.refl _)
   ·
    refine CT.as (fun _ h => HOk.rot (A := [_, _, _]) (B := [_, _, _, _]) h) ?_
    refine CT.draw' (Hc := [.row 57 2 (vb b) 1 [.slice ta tn tc, .int .i64 ((p64 : Nat) : Int)], .row 3 1 (.slice xa L xc) L (xs.map zo), .row 9 1 (.slice wa L wc) L (wl.map sv), .row 30 7 (vb b10) 1 [zn L, zn s, sv ws, .slice na' k nc', .slice oa' k oc', .slice ea' k ec', .slice fa' k fc'], .row 30 7 (vb b8) 1 [.int .i64 0, .int .i64 0, .string ⟨#[]⟩, .slice none 0 0, .slice none 0 0, .slice none 0 0, .slice none 0 0]] ++ (fam 3 zo rs ++ fam 9 sv os)) 21 zf6 ?_
    refine RA.q 0 (by kernel_rfl) rfl rfl rfl (.cons _ (.cons _ (.cons _ (.cons _ (.refl _))))) (OpQ.fieldAddr zf30 rfl) ?_
    refine RA.q 1 (by kernel_rfl) rfl rfl rfl (.cons _ (.cons _ (.cons _ (.cons _ (.refl _))))) (OpQ.loadF (b := b10) zf31 rfl (by repeat (first | exact Has.here | apply Has.there)) (by rfl)) ?_
    refine RA.q 2 (by kernel_rfl) rfl rfl rfl (.cons _ (.cons _ (.cons _ (.cons _ (.refl _))))) (OpQ.move rfl) ?_
    refine RA.q 5 (by kernel_rfl) rfl rfl rfl (.cons _ (.cons _ (.cons _ (.cons _ (.refl _))))) (OpQ.fieldAddr zf34 rfl) ?_
    refine RA.q 6 (by kernel_rfl) rfl rfl rfl (.cons _ (.cons _ (.cons _ (.cons _ (.refl _))))) (OpQ.loadF (b := b10) zf35 rfl (by repeat (first | exact Has.here | apply Has.there)) (by rfl)) ?_
    refine RA.q 7 (by kernel_rfl) rfl rfl rfl (.cons _ (.cons _ (.cons _ (.cons _ (.refl _))))) (OpQ.move rfl) ?_
    refine RA.q 10 (by kernel_rfl) rfl rfl rfl (.cons _ (.cons _ (.cons _ (.cons _ (.refl _))))) (OpQ.fieldAddr zf42 rfl) ?_
    refine RA.q 11 (by kernel_rfl) rfl rfl rfl (.cons _ (.cons _ (.cons _ (.cons _ (.refl _))))) (OpQ.loadF (b := b10) zf43 rfl (by repeat (first | exact Has.here | apply Has.there)) (by rfl)) ?_
    refine RA.q 12 (by kernel_rfl) rfl rfl rfl (.cons _ (.cons _ (.cons _ (.cons _ (.refl _))))) (OpQ.move rfl) ?_
    refine RA.q 15 (by kernel_rfl) rfl rfl rfl (.cons _ (.cons _ (.cons _ (.cons _ (.refl _))))) (OpQ.fieldAddr zf41 rfl) ?_
    refine RA.q 16 (by kernel_rfl) rfl rfl rfl (.cons _ (.cons _ (.cons _ (.cons _ (.refl _))))) (OpQ.loadF (b := b10) zf37 rfl (by repeat (first | exact Has.here | apply Has.there)) (by rfl)) ?_
    refine RA.q 17 (by kernel_rfl) rfl rfl rfl (.cons _ (.cons _ (.cons _ (.cons _ (.refl _))))) (OpQ.move rfl) ?_
    refine RA.as (L := [dmy, dmy, dmy, dmy, dmy, .row 22 1 (.slice na' k nc') k ((rs).map rxv), .row 28 1 (.slice oa' k oc') k ((os).map rxv), .row 4 1 (.slice ea' k ec') k ((es).map bo), .row 9 1 (.slice fa' k fc') k ((fs).map sv)] ++ ([.row 57 2 (vb b) 1 [.slice ta tn tc, .int .i64 ((p64 : Nat) : Int)], .row 3 1 (.slice xa L xc) L (xs.map zo), .row 9 1 (.slice wa L wc) L (wl.map sv), .row 30 7 (vb b10) 1 [zn L, zn s, sv ws, .slice na' k nc', .slice oa' k oc', .slice ea' k ec', .slice fa' k fc'], .row 30 7 (vb b8) 1 [.int .i64 0, .int .i64 0, .string ⟨#[]⟩, .slice none 0 0, .slice none 0 0, .slice none 0 0, .slice none 0 0]] ++ (fam 3 zo rs ++ fam 9 sv os))) (fun _ h => h.dmy 5) ?_
    refine RA.many (it := fun | 3 => Itm.new 70 0 3 (fun b => .slice (some ⟨b, 0, none⟩) 1 1) (fun b => .row 22 1 (.slice (some ⟨b, 0, none⟩) 1 1) 1 [.slice xa L xc]) | 4 => Itm.own 71 5 4 [3] (fun pl => .slice pl.1 (k + 1) pl.2) (fun pl => .row 22 1 (.slice pl.1 (k + 1) pl.2) (k + 1) ((rs ++ [(⟨xa, xc, xs⟩ : Rx (Option Nat))]).map rxv)) (fun pl => k + 1 ≠ 0 → pl.1.isSome = true) | 8 => Itm.new 75 1 8 (fun b => .slice (some ⟨b, 0, none⟩) 1 1) (fun b => .row 28 1 (.slice (some ⟨b, 0, none⟩) 1 1) 1 [.slice wa L wc]) | 9 => Itm.own 76 6 9 [4, 8] (fun pl => .slice pl.1 (k + 1) pl.2) (fun pl => .row 28 1 (.slice pl.1 (k + 1) pl.2) (k + 1) ((os ++ [(⟨wa, wc, wl⟩ : Rx Wd)]).map rxv)) (fun pl => k + 1 ≠ 0 → pl.1.isSome = true) | 13 => Itm.new 80 2 13 (fun b => .slice (some ⟨b, 0, none⟩) 1 1) (fun b => .row 4 1 (.slice (some ⟨b, 0, none⟩) 1 1) 1 [.bool eb]) | 14 => Itm.own 81 7 14 [9, 13] (fun pl => .slice pl.1 (k + 1) pl.2) (fun pl => .row 4 1 (.slice pl.1 (k + 1) pl.2) (k + 1) ((es ++ [eb]).map bo)) (fun pl => k + 1 ≠ 0 → pl.1.isSome = true) | 18 => Itm.new 85 3 18 (fun b => .slice (some ⟨b, 0, none⟩) 1 1) (fun b => .row 9 1 (.slice (some ⟨b, 0, none⟩) 1 1) 1 [sv v]) | 19 => Itm.own 86 8 19 [14, 18] (fun pl => .slice pl.1 (k + 1) pl.2) (fun pl => .row 9 1 (.slice pl.1 (k + 1) pl.2) (k + 1) ((fs ++ [v]).map sv)) (fun pl => k + 1 ≠ 0 → pl.1.isSome = true) | 20 => ⟨87, 4, [3, 4], fun g => .pointer (some ((⟨b10, 0, none⟩ : Addr).add 3)), fun _ => dmy, fun _ => True⟩ | _ => Itm.none) (A := [dmy, dmy, dmy, dmy, dmy, .row 22 1 (.slice na' k nc') k ((rs).map rxv), .row 28 1 (.slice oa' k oc') k ((os).map rxv), .row 4 1 (.slice ea' k ec') k ((es).map bo), .row 9 1 (.slice fa' k fc') k ((fs).map sv)]) [3, 4, 8, 9, 13, 14, 18, 19, 20] 9 rfl (by kernel_rfl) rfl (all_cons Itm.loc_new (all_cons Itm.loc_own (all_cons Itm.loc_new (all_cons Itm.loc_own (all_cons Itm.loc_new (all_cons Itm.loc_own (all_cons Itm.loc_new (all_cons Itm.loc_own (all_cons (fun g g' h => ⟨rfl, rfl, fun h => h⟩) all_nil))))))))) (all_cons (Good.new' rfl rfl (Nat.lt_of_lt_of_le (by decide) (Nat.le_add_left 5 _)) (fun D g hD => OpG.lit1 zf21 zf22 rfl (ev_base rfl rfl hD) rfl)) (all_cons (Good.own rfl rfl (fun D g hD hd => OpG.append zf21 zf22 (by rfl) (by decide) (ev_base rfl rfl hD) (ev_dep rfl hD (hd 3 (.head _)) rfl rfl) (p := 5) (mk_base rfl (.tail _ (.head _)) hD rfl rfl) (fun w hH => hH.rdAt (mk_at (p := 0) rfl hD (hd 3 (.head _)) rfl rfl (by exact (Nat.succ_pos _)))) ⟨rfl, (by simp [Value.oneCell']), (by omega), (by omega)⟩ (nm := k + 1) rfl (all := (rs ++ [(⟨xa, xc, xs⟩ : Rx (Option Nat))]).map rxv) (by rw [List.map_append, List.map_singleton, show rxv (⟨xa, xc, xs⟩ : Rx (Option Nat)) = .slice xa L xc from by show Value.slice _ xs.length _ = _; rw [hri.xl]]))) (all_cons (Good.new' rfl rfl (Nat.lt_of_lt_of_le (by decide) (Nat.le_add_left 5 _)) (fun D g hD => OpG.lit1 zf23 zf24 rfl (ev_base rfl rfl hD) rfl)) (all_cons (Good.own rfl rfl (fun D g hD hd => OpG.append zf23 zf24 (by rfl) (by decide) (ev_base rfl rfl hD) (ev_dep rfl hD (hd 8 (.tail _ (.head _))) rfl rfl) (p := 6) (mk_base rfl (.tail _ (.tail _ (.tail _ (.head _)))) hD rfl rfl) (fun w hH => hH.rdAt (mk_at (p := 1) rfl hD (hd 8 (.tail _ (.head _))) rfl rfl (by exact (Nat.succ_lt_succ (Nat.succ_pos _))))) ⟨rfl, (by simp [Value.oneCell']), (by omega), (by omega)⟩ (nm := k + 1) rfl (all := (os ++ [(⟨wa, wc, wl⟩ : Rx Wd)]).map rxv) (by rw [List.map_append, List.map_singleton, show rxv (⟨wa, wc, wl⟩ : Rx Wd) = .slice wa L wc from by show Value.slice _ wl.length _ = _; rw [hri.wl]]))) (all_cons (Good.new' rfl rfl (Nat.lt_of_lt_of_le (by decide) (Nat.le_add_left 5 _)) (fun D g hD => OpG.lit1 zf25 zf26 rfl (ev_base rfl rfl hD) rfl)) (all_cons (Good.own rfl rfl (fun D g hD hd => OpG.append zf25 zf26 (by rfl) (by decide) (ev_base rfl rfl hD) (ev_dep rfl hD (hd 13 (.tail _ (.head _))) rfl rfl) (p := 7) (mk_base rfl (.tail _ (.tail _ (.tail _ (.tail _ (.tail _ (.head _)))))) hD rfl rfl) (fun w hH => hH.rdAt (mk_at (p := 2) rfl hD (hd 13 (.tail _ (.head _))) rfl rfl (by exact (Nat.succ_lt_succ (Nat.succ_lt_succ (Nat.succ_pos _)))))) ⟨rfl, (by simp [Value.oneCell']), (by omega), (by omega)⟩ (nm := k + 1) rfl (all := (es ++ [eb]).map bo) (by rw [List.map_append]; rfl))) (all_cons (Good.new' rfl rfl (Nat.lt_of_lt_of_le (by decide) (Nat.le_add_left 5 _)) (fun D g hD => OpG.lit1 zf17 zf18 rfl (ev_base rfl rfl hD) rfl)) (all_cons (Good.own rfl rfl (fun D g hD hd => OpG.append zf17 zf18 (by rfl) (by decide) (ev_base rfl rfl hD) (ev_dep rfl hD (hd 18 (.tail _ (.head _))) rfl rfl) (p := 8) (mk_base rfl (.tail _ (.tail _ (.tail _ (.tail _ (.tail _ (.tail _ (.tail _ (.head _)))))))) hD rfl rfl) (fun w hH => hH.rdAt (mk_at (p := 3) rfl hD (hd 18 (.tail _ (.head _))) rfl rfl (by exact (Nat.succ_lt_succ (Nat.succ_lt_succ (Nat.succ_lt_succ (Nat.succ_pos _))))))) ⟨rfl, (by simp [Value.oneCell']), (by omega), (by omega)⟩ (nm := k + 1) rfl (all := (fs ++ [v]).map sv) (by rw [List.map_append]; rfl))) (all_cons (Good.quiet rfl (fun _ => rfl) rfl (.tail _ (.tail _ (.tail _ (.tail _ (.tail _ (.tail _ (.tail _ (.tail _ (.head _))))))))) (fun _ => trivial) (fun g g' h => rfl) (fun D g hD hd => OpQ.fieldAddr zf30 (ev_base rfl rfl hD)) rfl) all_nil))))))))) (fun g _ => ?_)
    show RA _ _ _ _ _ _ _ ((70, .slice (some ⟨(g 3).2, 0, none⟩) 1 1) :: (71, .slice (g 4).1 (k + 1) (g 4).2) :: (75, .slice (some ⟨(g 8).2, 0, none⟩) 1 1) :: (76, .slice (g 9).1 (k + 1) (g 9).2) :: (80, .slice (some ⟨(g 13).2, 0, none⟩) 1 1) :: (81, .slice (g 14).1 (k + 1) (g 14).2) :: (85, .slice (some ⟨(g 18).2, 0, none⟩) 1 1) :: (86, .slice (g 19).1 (k + 1) (g 19).2) :: (87, .pointer (some ((⟨b10, 0, none⟩ : Addr).add 3))) :: _) ([.row 22 1 (.slice (some ⟨(g 3).2, 0, none⟩) 1 1) 1 [.slice xa L xc], .row 28 1 (.slice (some ⟨(g 8).2, 0, none⟩) 1 1) 1 [.slice wa L wc], .row 4 1 (.slice (some ⟨(g 13).2, 0, none⟩) 1 1) 1 [.bool eb], .row 9 1 (.slice (some ⟨(g 18).2, 0, none⟩) 1 1) 1 [sv v], dmy, .row 22 1 (.slice (g 4).1 (k + 1) (g 4).2) (k + 1) ((rs ++ [(⟨xa, xc, xs⟩ : Rx (Option Nat))]).map rxv), .row 28 1 (.slice (g 9).1 (k + 1) (g 9).2) (k + 1) ((os ++ [(⟨wa, wc, wl⟩ : Rx Wd)]).map rxv), .row 4 1 (.slice (g 14).1 (k + 1) (g 14).2) (k + 1) ((es ++ [eb]).map bo), .row 9 1 (.slice (g 19).1 (k + 1) (g 19).2) (k + 1) ((fs ++ [v]).map sv)] ++ ([.row 57 2 (vb b) 1 [.slice ta tn tc, .int .i64 ((p64 : Nat) : Int)], .row 3 1 (.slice xa L xc) L (xs.map zo), .row 9 1 (.slice wa L wc) L (wl.map sv), .row 30 7 (vb b10) 1 [zn L, zn s, sv ws, .slice na' k nc', .slice oa' k oc', .slice ea' k ec', .slice fa' k fc'], .row 30 7 (vb b8) 1 [.int .i64 0, .int .i64 0, .string ⟨#[]⟩, .slice none 0 0, .slice none 0 0, .slice none 0 0, .slice none 0 0]] ++ (fam 3 zo rs ++ fam 9 sv os)))
    generalize (g 4).1 = a71
    generalize (g 9).1 = a76
    generalize (g 14).1 = a81
    generalize (g 19).1 = a86
    generalize (g 4).2 = c71
    generalize (g 9).2 = c76
    generalize (g 14).2 = c81
    generalize (g 19).2 = c86
    generalize (g 3).2 = b70
    generalize (g 8).2 = b75
    generalize (g 13).2 = b80
    generalize (g 18).2 = b85
    refine RA.tail ?_
    refine RT.f 21 (by kernel_rfl) rfl rfl rfl (OpG.storeRow (a := some ⟨b10, 0, none⟩) zf63 rfl rfl rfl (by repeat (first | exact Upd.here | apply Upd.there)) (by simp)) ?_
    rintro _ _
    refine RT.q 22 (by kernel_rfl) rfl rfl rfl (OpQ.fieldAddr zf34 rfl) ?_
    refine RT.f 23 (by kernel_rfl) rfl rfl rfl (OpG.storeRow (a := some ⟨b10, 0, none⟩) zf64 rfl rfl rfl (by repeat (first | exact Upd.here | apply Upd.there)) (by simp)) ?_
    rintro _ _
    refine RT.q 24 (by kernel_rfl) rfl rfl rfl (OpQ.fieldAddr zf42 rfl) ?_
    refine RT.f 25 (by kernel_rfl) rfl rfl rfl (OpG.storeRow (a := some ⟨b10, 0, none⟩) zf65 rfl rfl rfl (by repeat (first | exact Upd.here | apply Upd.there)) (by simp)) ?_
    rintro _ _
    refine RT.q 26 (by kernel_rfl) rfl rfl rfl (OpQ.fieldAddr zf41 rfl) ?_
    refine RT.f 27 (by kernel_rfl) rfl rfl rfl (OpG.storeRow (a := some ⟨b10, 0, none⟩) zf36 rfl rfl rfl (by repeat (first | exact Upd.here | apply Upd.there)) (by simp)) ?_
    rintro _ _
    refine RT.done (by kernel_rfl) ?_
    refine PX.block_n (PX.then_n (CT.region ?_))
    refine Wl.q rfl rfl (OpQ.move rfl) ?_
    refine Wl.q rfl rfl (OpQ.add rfl rfl (by omega)) ?_
    refine Wl.q rfl rfl (OpQ.assign rfl) ?_
    refine Wl.nil ?_
    refine PX.as (fun _ h => HOk.rot (A := [_, _, _, _, _]) (B := [_, _]) (HOk.behind (A := [_, _, _, _, _]) h)) ?_
    refine PX.mem (.keep (k := rch 3 zo (⟨xa, xc, xs⟩ : Rx (Option Nat))) (by show Chunk.row _ _ (.slice _ xs.length _) xs.length _ = _; rw [hri.xl]) (.keep (k := rch 9 sv (⟨wa, wc, wl⟩ : Rx Wd)) (by show Chunk.row _ _ (.slice _ wl.length _) wl.length _ = _; rw [hri.wl]) (HSub.refl _))) ?_
    refine PX.as (fun _ h => HOk.fam2 (r := (⟨xa, xc, xs⟩ : Rx (Option Nat))) (o := (⟨wa, wc, wl⟩ : Rx Wd)) (A := [.row 22 1 (.slice a71 (k + 1) c71) (k + 1) ((rs ++ [(⟨xa, xc, xs⟩ : Rx (Option Nat))]).map rxv), .row 28 1 (.slice a76 (k + 1) c76) (k + 1) ((os ++ [(⟨wa, wc, wl⟩ : Rx Wd)]).map rxv), .row 4 1 (.slice a81 (k + 1) c81) (k + 1) ((es ++ [eb]).map bo), .row 9 1 (.slice a86 (k + 1) c86) (k + 1) ((fs ++ [v]).map sv), .row 57 2 (vb b) 1 [.slice ta tn tc, .int .i64 ((p64 : Nat) : Int)], .row 30 7 (vb b10) 1 [zn L, zn s, sv ws, .slice a71 (k + 1) c71, .slice a76 (k + 1) c76, .slice a81 (k + 1) c81, .slice a86 (k + 1) c86], .row 30 7 (vb b8) 1 [.int .i64 0, .int .i64 0, .string ⟨#[]⟩, .slice none 0 0, .slice none 0 0, .slice none 0 0, .slice none 0 0]]) h) ?_
    exact PX.loop hK0 (k + 1, p64, a71, c71, rs ++ [(⟨xa, xc, xs⟩ : Rx (Option Nat))], a76, c76, os ++ [(⟨wa, wc, wl⟩ : Rx Wd)], a81, c81, es ++ [eb], a86, c86, fs ++ [v]) ⟨by omega, h64p, ht.snoc hri hvn hvt⟩ (show n - (k + 1) < n - k by omega) ⟨rfl, rfl, rfl, rfl, rfl, rfl, rfl, trivial⟩ (HSub.refl _)
 ·
  have h33 := of_decide_eq_false h33
  obtain rfl : n = k := by omega
  have hrl := ht.rl
  have hol := ht.ol
  have hel := ht.el
  have hfl := ht.fl
  have hval : svv (⟨L, s, ws, na', nc', rs, oa', oc', os, ea', ec', es, fa', fc', fs⟩ : Sv) = .agg #[zn L, zn s, sv ws, .slice na' n nc', .slice oa' n oc', .slice ea' n ec', .slice fa' n fc'] := by simp only [svv, svc, hrl, hol, hel, hfl]
  refine CT.exit (PX.then_x (PX.then_x (PX.block_x (PX.then_n (CT.seq (CT.region ?_))))))
  refine Wl.q rfl rfl (OpQ.loadV (b := b10) zf29 zf28 rfl (by repeat (first | exact Has.here | apply Has.there)) (by rfl)) ?_
  refine Wl.know 91 (v' := svv (⟨L, s, ws, na', nc', rs, oa', oc', os, ea', ec', es, fa', fc', fs⟩ : Sv)) rfl hval.symm ?_
  refine Wl.g rfl rfl (OpG.storeV (b := b8) zf28 rfl rfl rfl rfl (by repeat (first | exact Upd.here | apply Upd.there))) ?_
  rintro _ _
  refine Wl.nil (PX.then_n (CT.ret ?_))
  refine PX.retC rfl rfl (by repeat (first | exact Has.here | apply Has.there)) zf29 zf28 (by rfl) (fun w' hH => ?_)
  have hok : (⟨L, s, ws, na', nc', rs, oa', oc', os, ea', ec', es, fa', fc', fs⟩ : Sv).sq.Ok 2 := TqI.ok (S := (⟨L, s, ws, na', nc', rs, oa', oc', os, ea', ec', es, fa', fc', fs⟩ : Sv)) (by show TqI outs L rs.length rs.length rs os es fs; rw [hrl]; exact ht) hL (by show rs.length ≤ 512; omega) (by show s < rs.length; omega) (okT_of_okW hwk hou.2 (by show ws.length ≤ 2; omega))
  exact ⟨((⟨L, s, ws, na', nc', rs, oa', oc', os, ea', ec', es, fa', fc', fs⟩ : Sv), p'), ⟨⟨hok, rfl, by show (rs.length : Int) ≤ most; have := h21b hmo.1; omega, TqI.over (S := (⟨L, s, ws, na', nc', rs, oa', oc', os, ea', ec', es, fa', fc', fs⟩ : Sv)) (by show TqI outs L rs.length rs.length rs os es fs; rw [hrl]; exact ht) (okO_of_okW hwk)⟩, hat'⟩, rfl, (HOk.rot (A := [_, _, _, _]) (B := [_]) hH).post.conv (.keep rfl (.keep (by simp only [hrl]) (.keep (by simp only [hol]) (.keep (by simp only [hel]) (.keep (by simp only [hfl]) (.drop (.drop (HSub.refl _))))))))⟩

end Go.Proofs.Ytamolakhpcofhaa

