/-
  What functions of the program compute, each by its walk. Conditions: those that each theorem names.
-/
import Derived.Test.YtamolakhpcofhaaMod1
import Derived.Test.YtamolakhpcofhaaXC1
import Derived.Test.YtamolakhpcofhaaXC2
import Derived.Test.YtamolakhpcofhaaEng1
import Derived.Test.YtamolakhpcofhaaEng
import Derived.Test.YtamolakhpcofhaaXF
set_option linter.unusedSimpArgs false
namespace Go.Proofs.Ytamolakhpcofhaa
open Go Go.Eng Go.Am Go.Sq
open Go.Tp (zi)
open Go.Tl (mayL Wd okW okB bo)

set_option maxRecDepth 100000 in
set_option maxHeartbeats 1000000 in
/-- (*semigroup/semigroupmade.Tape).Dfa -/
theorem tdfa_spec (w : World) (b : Nat) (ta : Option Addr) (tn tc : Nat) (tl : List Int) (htl : tl.length = tn) (htm : tn ≤ 9223372036854775806) (hr : Stays [b] w (fun w => Rd w ta (tl.map zi))) (p : Nat) (hat : p ≤ tn) (hpre : Pre [.row 57 2 (vb b) 1 [.slice ta tn tc, .int .i64 ((p : Nat) : Int)]] w) (L : Int) (hL : 1 ≤ L ∧ L ≤ 6) (most : Int) (hmo : 1 ≤ most ∧ most ≤ 100) : Calls Try.prog 24 #[.pointer (some ⟨b, 0, none⟩), .int .i64 L, .int .i64 most] w (fun e w' => ∃ i : Dv × List Nat × Nat, ((i.1.Ok ∧ i.1.L = L ∧ (i.1.fin.length : Int) ≤ most) ∧ i.2.2 ≤ tn) ∧ e = .returned (dvv i.1) ∧ Post [b] [.row 57 2 (vb b) 1 [.slice ta tn tc, .int .i64 ((i.2.2 : Nat) : Int)], .frag i.2.1 (dvm i.1)] w w') := by
 refine enterX (args := [.pointer (some ⟨b, 0, none⟩), .int .i64 L, .int .i64 most]) hpre 53 Try.func24 rfl rfl rfl ?_
 refine CT.seq (CT.region ?_)
 refine Wl.g rfl rfl (OpG.alloc (zs := [.int .i64 0, .int .i64 0, .slice none 0 0, .slice none 0 0]) zf37 rfl rfl) ?_
 rintro b6 _
 refine Wl.nil (PX.then_n (CT.seq (CT.region ?_)))
 refine Wl.q rfl rfl (OpQ.move rfl) ?_
 refine Wl.q rfl rfl (OpQ.build (cells := #[.int .i64 L, .int .i64 0, .slice none 0 0, .slice none 0 0]) zf40 rfl rfl) ?_
 refine Wl.g rfl rfl (OpG.alloc (zs := [.int .i64 0, .int .i64 0, .slice none 0 0, .slice none 0 0]) zf37 rfl rfl) ?_
 rintro b7 _
 refine Wl.g rfl rfl (OpG.storeV (b := b7) zf25 rfl rfl rfl rfl (by repeat (first | exact Upd.here | apply Upd.there))) ?_
 rintro _ _
 refine Wl.nil (PX.then_n (CT.seq (CT.region ?_)))
 refine Wl.q rfl rfl (OpQ.move rfl) ?_
 refine Wl.q rfl rfl (OpQ.move rfl) ?_
 refine Wl.g rfl rfl (OpG.callX zf12 rfl (.cons (.there (.there .here)) .nil) (fun _ => (.cons .nil)) (fun w hH hp => next_spec w b ta tn tc tl htl htm (hH.stays hr (.cons (.there (.there .here)) .nil)) p hat hp (most) (by omega))) ?_
 rintro ⟨r16, p16⟩ h16
 dsimp only at h16
 obtain ⟨⟨h16a, h16b⟩, h16p⟩ := h16
 refine Wl.know 16 (v' := .int .i64 r16) rfl rfl ?_
 obtain ⟨n, hn⟩ : ∃ n : Nat, (n : Int) = 1 + r16 := ⟨(1 + r16).toNat, by omega⟩
 refine Wl.q rfl rfl (OpQ.add rfl rfl (by omega)) ?_
 refine Wl.know 17 (v' := .int .i64 ((n : Nat) : Int)) rfl (congrArg (Value.int .i64) hn.symm) ?_
 refine Wl.q rfl rfl (OpQ.assign rfl) ?_
 refine Wl.nil (PX.then_n (CT.seq (CT.region ?_)))
 refine Wl.q rfl rfl (OpQ.move rfl) ?_
 refine Wl.q rfl rfl (OpQ.move rfl) ?_
 refine Wl.g rfl rfl (OpG.callX zf12 rfl (.cons .here .nil) (fun _ => (.cons .nil)) (fun w hH hp => next_spec w b ta tn tc tl htl htm (hH.stays hr (.cons .here .nil)) p16 h16p hp ((n : Int)) (by omega))) ?_
 rintro ⟨r20, p20⟩ h20
 dsimp only at h20
 obtain ⟨⟨h20a, h20b⟩, h20p⟩ := h20
 refine Wl.know 20 (v' := .int .i64 r20) rfl rfl ?_
 refine Wl.q rfl rfl (OpQ.fieldAddr zf22 rfl) ?_
 refine Wl.g rfl rfl (OpG.storeRow (a := some ⟨b7, 0, none⟩) zf1 rfl rfl rfl (by repeat (first | exact Upd.here | apply Upd.there)) (by simp)) ?_
 rintro _ _
 refine Wl.nil (PX.then_n (CT.seq (CT.seq (CT.region ?_))))
 refine Wl.q rfl rfl (OpQ.assign rfl) ?_
 refine Wl.nil (PX.then_n (CT.block ?_))
 refine CT.nilrow 4 1 ?_
 refine CT.nilrow 22 1 ?_
 refine CT.as (fun _ h => h.bind0 (p := rws []) (rws_nil)) ?_
 refine CT.as (fun _ h => h.take (.cons (.there (.there (.there .here))) (.cons .here (.cons (.there (.there .here)) (.cons (.there .here) (.cons .here (.cons .here .nil))))))) ?_
 refine CT.loop (ι := Nat × Nat × Option Addr × Nat × List Bool × Option Addr × Nat × List Rw × List Nat) (fun (k, p', fa', fc', fl, na', nc', rs, bs) => k ≤ n ∧ p' ≤ tn ∧ DqI L n k fl rs) (fun (k, p', fa', fc', fl, na', nc', rs, bs) => [(0, .pointer (some ⟨b, 0, none⟩)), (1, .int .i64 L), (6, .pointer (some ⟨b6, 0, none⟩)), (7, .pointer (some ⟨b7, 0, none⟩)), (8, .int .i64 ((n : Nat) : Int)), (9, .int .i64 ((k : Nat) : Int))]) (fun (k, p', fa', fc', fl, na', nc', rs, bs) => [.row 57 2 (vb b) 1 [.slice ta tn tc, .int .i64 ((p' : Nat) : Int)], .frag bs (rws rs), .row 49 4 (vb b7) 1 [.int .i64 L, .int .i64 r20, .slice fa' k fc', .slice na' k nc'], .row 4 1 (.slice fa' k fc') k (fl.map bo), .row 22 1 (.slice na' k nc') k (rs.map rv), .row 49 4 (vb b6) 1 [.int .i64 0, .int .i64 0, .slice none 0 0, .slice none 0 0]]) (fun (k, p', fa', fc', fl, na', nc', rs, bs) => n - k) (0, p20, none, 0, [], none, 0, [], []) ⟨Nat.zero_le _, h20p, DqI.start _ _⟩ ⟨rfl, rfl, rfl, rfl, rfl, rfl, trivial⟩ (HSub.refl _) (fun ⟨k, p', fa', fc', fl, na', nc', rs, bs⟩ ⟨hk, hat', hd⟩ K0 hK0 => ?_)
 dsimp only
 refine CT.seq (CT.seq (CT.region ?_))
 refine Wl.q rfl rfl (OpQ.move rfl) ?_
 refine Wl.q rfl rfl (OpQ.move rfl) ?_
 refine Wl.q rfl rfl (OpQ.lss rfl rfl) ?_
 refine Wl.nil (PX.then_n ?_)
 refine CT.cond rfl (fun h24 => ?_) (fun h24 => ?_)
 ·
  have h24 := of_decide_eq_true h24
  refine CT.skip (PX.then_n (CT.seq (CT.block (CT.seq ?_))))
  refine CT.draw' (Hc := [.frag bs (rws rs), .row 49 4 (vb b7) 1 [.int .i64 L, .int .i64 r20, .slice fa' k fc', .slice na' k nc'], .row 22 1 (.slice na' k nc') k (rs.map rv), .row 49 4 (vb b6) 1 [.int .i64 0, .int .i64 0, .slice none 0 0, .slice none 0 0]]) 7 zf6 ?_
  refine RA.q 0 (by kernel_rfl) rfl rfl rfl (.cons _ (.cons_cons _ (.cons_cons _ (.cons _ (.cons_cons _ (.cons_cons _ (.refl _))))))) (OpQ.fieldAddr zf16 rfl) ?_
  refine RA.q 1 (by kernel_rfl) rfl rfl rfl (.cons _ (.cons_cons _ (.cons_cons _ (.cons _ (.cons_cons _ (.cons_cons _ (.refl _))))))) (OpQ.loadF (b := b7) zf17 rfl (by repeat (first | exact Has.here | apply Has.there)) (by rfl)) ?_
  refine RA.q 2 (by kernel_rfl) rfl rfl rfl (.cons _ (.cons_cons _ (.cons_cons _ (.cons _ (.cons_cons _ (.cons_cons _ (.refl _))))))) (OpQ.move rfl) ?_
  refine RA.f 3 (by kernel_rfl) rfl rfl rfl (OpG.callX zf12 rfl (.cons .here .nil) (fun _ => (.cons .nil)) (fun w hH hp => next_spec w b ta tn tc tl htl htm (hH.stays hr (.cons .here .nil)) p' hat' hp (2) (by omega))) (fun _ _ => (.cons _ (.cons_cons _ (.cons_cons _ (.cons _ (.cons_cons _ (.cons_cons _ (.refl _)))))))) ?_
  rintro ⟨r30, p30⟩ h30
  dsimp only at h30
  obtain ⟨⟨h30a, h30b⟩, h30p⟩ := h30
  refine RA.know 30 (v' := .int .i64 r30) rfl rfl ?_
  obtain ⟨eb, heb⟩ : ∃ e : Bool, e = decide (r30 = 1) := ⟨_, rfl⟩
  refine RA.q 4 (by kernel_rfl) rfl rfl rfl (.cons _ (.cons_cons _ (.cons_cons _ (.cons _ (.cons_cons _ (.cons_cons _ (.refl _))))))) (OpQ.eql rfl rfl) ?_
  refine RA.know 31 (v' := .bool eb) rfl (congrArg Value.bool heb.symm) ?_
  refine RA.f 5 (by kernel_rfl) rfl rfl rfl (OpG.lit1 zf18 zf43 rfl rfl rfl) (fun _ _ => (.cons _ (.cons _ (.cons_cons _ (.cons_cons _ (.cons _ (.cons_cons _ (.cons_cons _ (.refl _))))))))) ?_
  rintro b32 _
  refine RA.f 6 (by kernel_rfl) rfl rfl rfl (OpG.append zf18 zf43 (by rfl) (by decide) rfl rfl (p := 4) rfl (fun w hH => hH.rd .here) ⟨rfl, (by simp [Value.oneCell']), (by omega), (by omega)⟩ (nm := (k + 1)) rfl (all := (fl ++ [eb]).map bo) (by rw [List.map_append]; rfl)) (fun _ _ => (.cons _ (.cons _ (.cons_cons _ (.cons_cons _ (.cons _ (.cons_cons _ (.cons_cons _ (.refl _))))))))) ?_
  rintro ⟨a33, c33⟩ h33
  refine RA.tail ?_
  refine RT.q 7 (by kernel_rfl) rfl rfl rfl (OpQ.fieldAddr zf16 rfl) ?_
  refine RT.f 8 (by kernel_rfl) rfl rfl rfl (OpG.storeRow (a := some ⟨b7, 0, none⟩) zf44 rfl rfl rfl (by repeat (first | exact Upd.here | apply Upd.there)) (by simp)) ?_
  rintro _ _
  refine RT.done (by kernel_rfl) ?_
  refine PX.then_n (CT.seq (CT.region ?_))
  refine Wl.q rfl rfl (OpQ.assign rfl) ?_
  refine Wl.nil (PX.then_n (CT.seq (CT.seq (CT.region ?_))))
  refine Wl.q rfl rfl (OpQ.assign rfl) ?_
  refine Wl.nil (PX.then_n (CT.block ?_))
  refine CT.as (fun _ h => h.take (.cons (.there .here) (.cons (.there .here) (.cons (.there .here) (.cons (.there .here) (.cons (.there .here) (.cons (.there .here) .nil))))))) ?_
  refine CT.nilrow 3 1 ?_
  refine CT.loop (ι := Nat × Nat × Option Addr × Nat × List Int) (fun (x, p', a', c', xs) => (x : Int) ≤ L ∧ p' ≤ tn ∧ xs.length = x ∧ ∀ v ∈ xs, 0 ≤ v ∧ v < (n : Int)) (fun (x, p', a', c', xs) => [(0, .pointer (some ⟨b, 0, none⟩)), (1, .int .i64 L), (6, .pointer (some ⟨b6, 0, none⟩)), (7, .pointer (some ⟨b7, 0, none⟩)), (8, .int .i64 ((n : Nat) : Int)), (9, .int .i64 ((k : Nat) : Int)), (10, .slice a' x c'), (11, .int .i64 ((x : Nat) : Int))]) (fun (x, p', a', c', xs) => [.row 3 1 (.slice a' x c') x (xs.map zz), .row 57 2 (vb b) 1 [.slice ta tn tc, .int .i64 ((p' : Nat) : Int)], .frag bs (rws rs), .row 49 4 (vb b7) 1 [.int .i64 L, .int .i64 r20, .slice a33 (k + 1) c33, .slice na' k nc'], .row 4 1 (.slice a33 (k + 1) c33) (k + 1) ((fl ++ [eb]).map bo), .row 22 1 (.slice na' k nc') k (rs.map rv), .row 49 4 (vb b6) 1 [.int .i64 0, .int .i64 0, .slice none 0 0, .slice none 0 0]]) (fun (x, p', a', c', xs) => L.toNat - x) (0, p30, none, 0, []) ⟨by omega, h30p, rfl, fun v hv => by cases hv⟩ ⟨rfl, rfl, rfl, rfl, rfl, rfl, rfl, rfl, trivial⟩ (HSub.refl _) (fun ⟨x, p', a', c', xs⟩ ⟨hx, hat', hxl, hxn⟩ K1 hK1 => ?_)
  dsimp only
  refine CT.seq (CT.seq (CT.region ?_))
  refine Wl.q rfl rfl (OpQ.move rfl) ?_
  refine Wl.q rfl rfl (OpQ.move rfl) ?_
  refine Wl.q rfl rfl (OpQ.lss rfl rfl) ?_
  refine Wl.nil (PX.then_n ?_)
  refine CT.cond rfl (fun h37 => ?_) (fun h37 => ?_)
  ·
   have h37 := of_decide_eq_true h37
   have hxl2 : (x : Int) < L := by omega
   refine CT.skip (PX.then_n (CT.seq (CT.block (CT.region ?_))))
   refine Wl.q rfl rfl (OpQ.move rfl) ?_
   refine Wl.q rfl rfl (OpQ.move rfl) ?_
   refine Wl.q rfl rfl (OpQ.move rfl) ?_
   refine Wl.g rfl rfl (OpG.callX zf12 rfl (.cons (.there .here) .nil) (fun _ => (.cons .nil)) (fun w hH hp => next_spec w b ta tn tc tl htl htm (hH.stays hr (.cons (.there .here) .nil)) p' hat' hp ((n : Int)) (by omega))) ?_
   rintro ⟨r43, p43⟩ h43
   dsimp only at h43
   obtain ⟨⟨h43a, h43b⟩, h43p⟩ := h43
   refine Wl.know 43 (v' := .int .i64 r43) rfl rfl ?_
   refine Wl.g rfl rfl (OpG.lit1 zf0 zf32 rfl rfl rfl) ?_
   rintro b44 _
   refine Wl.g rfl rfl (OpG.append zf0 zf32 (by rfl) (by decide) rfl rfl (p := 2) rfl (fun w hH => hH.rd .here) ⟨rfl, (by simp [Value.oneCell']), (by omega), (by omega)⟩ (nm := (x + 1)) rfl (all := (xs ++ [r43]).map zz) (by rw [List.map_append]; rfl)) ?_
   rintro ⟨a45, c45⟩ h45
   refine Wl.q rfl rfl (OpQ.assign rfl) ?_
   refine Wl.nil (PX.block_n (PX.then_n (CT.region ?_)))
   refine Wl.q rfl rfl (OpQ.move rfl) ?_
   refine Wl.q rfl rfl (OpQ.add rfl rfl (by omega)) ?_
   refine Wl.q rfl rfl (OpQ.assign rfl) ?_
   refine Wl.nil ?_
   refine PX.as (fun _ h => h.take (.cons (.there (.there .here)) (.cons (.there .here) (.cons (.there .here) (.cons (.there .here) (.cons (.there .here) (.cons (.there .here) (.cons (.there .here) .nil)))))))) ?_
   exact PX.loop hK1 (x + 1, p43, a45, c45, xs ++ [r43]) ⟨by omega, h43p, by rw [List.length_append, hxl]; rfl, mem_snoc hxn ⟨h43a, h43b (by omega)⟩⟩ (show L.toNat - (x + 1) < L.toNat - x by omega) ⟨rfl, rfl, rfl, rfl, rfl, rfl, rfl, rfl, trivial⟩ (HSub.refl _)
  ·
   have h37 := of_decide_eq_false h37
   have hxL : (x : Int) = L := by omega
   refine CT.exit (PX.then_x (PX.then_x (PX.block_x (PX.then_n (CT.region ?_)))))
   refine Wl.q rfl rfl (OpQ.fieldAddr zf19 rfl) ?_
   refine Wl.q rfl rfl (OpQ.loadF (b := b7) zf20 rfl (by repeat (first | exact Has.here | apply Has.there)) (by rfl)) ?_
   refine Wl.q rfl rfl (OpQ.move rfl) ?_
   refine Wl.g rfl rfl (OpG.lit1 zf21 zf41 rfl rfl rfl) ?_
   rintro b49 _
   refine Wl.g rfl rfl (OpG.append zf21 zf41 (by rfl) (by decide) rfl rfl (p := 6) rfl (fun w hH => hH.rd .here) ⟨rfl, (by simp [Value.oneCell']), (by omega), (by omega)⟩ (nm := (k + 1)) rfl (all := (rs ++ [(⟨a', c', xs⟩ : Rw)]).map rv) (by rw [List.map_append, List.map_singleton, show rv (⟨a', c', xs⟩ : Rw) = .slice a' x c' from by show Value.slice _ xs.length _ = _; rw [hxl]])) ?_
   rintro ⟨a50, c50⟩ h50
   refine Wl.q rfl rfl (OpQ.fieldAddr zf19 rfl) ?_
   refine Wl.g rfl rfl (OpG.storeRow (a := some ⟨b7, 0, none⟩) zf42 rfl rfl rfl (by repeat (first | exact Upd.here | apply Upd.there)) (by simp)) ?_
   rintro _ _
   refine Wl.nil (PX.block_n (PX.then_n (CT.region ?_)))
   refine Wl.q rfl rfl (OpQ.move rfl) ?_
   refine Wl.q rfl rfl (OpQ.add rfl rfl (by omega)) ?_
   refine Wl.q rfl rfl (OpQ.assign rfl) ?_
   refine Wl.nil ?_
   refine PX.as (fun _ h => h.bind (L := [.frag bs (rws rs), .row 3 1 (.slice a' x c') x (xs.map zz)]) (p := rws (rs ++ [(⟨a', c', xs⟩ : Rw)])) (.cons (.there (.there (.there .here))) (.cons (.there .here) .nil)) (fun w hk => rws_snoc (r := (⟨a', c', xs⟩ : Rw)) ((hk _ List.mem_cons_self).2 w (fun _ _ => rfl)) (Rd.of_owns (hk _ (List.mem_cons_of_mem _ List.mem_cons_self))))) ?_
   refine PX.as (fun _ h => h.take (.cons (.there (.there .here)) (.cons .here (.cons (.there .here) (.cons (.there .here) (.cons (.there .here) (.cons (.there .here) .nil))))))) ?_
   exact PX.loop hK0 (k + 1, p', a33, c33, fl ++ [eb], a50, c50, rs ++ [(⟨a', c', xs⟩ : Rw)], _) ⟨by omega, hat', hd.snoc eb (by show (xs.length : Int) = L; omega) hxn⟩ (show n - (k + 1) < n - k by omega) ⟨rfl, rfl, rfl, rfl, rfl, rfl, trivial⟩ (HSub.refl _)
 ·
  have h24 := of_decide_eq_false h24
  obtain rfl : n = k := by omega
  have hfl := hd.fl
  have hrl := hd.rl
  have hval : dvv (⟨L, r20, fa', fc', fl, na', nc', rs⟩ : Dv) = .agg #[.int .i64 L, .int .i64 r20, .slice fa' n fc', .slice na' n nc'] := by simp only [dvv, dvc, hfl, hrl]
  have hok : (⟨L, r20, fa', fc', fl, na', nc', rs⟩ : Dv).Ok := ⟨hL, (by show fl.length ≤ 30000; omega), (by show rs.length = fl.length; omega), (by show 0 ≤ r20 ∧ r20 < (fl.length : Int); have := h20b (by omega); omega), (by intro q hq; have := hd.row q (by have : q < fl.length := hq; omega); rw [show ((⟨L, r20, fa', fc', fl, na', nc', rs⟩ : Dv).fin.length) = n from hfl]; exact this)⟩
  refine CT.exit (PX.then_x (PX.then_x (PX.block_x (PX.then_n (CT.seq (CT.region ?_))))))
  refine Wl.q rfl rfl (OpQ.loadV (b := b7) zf24 zf25 rfl (by repeat (first | exact Has.here | apply Has.there)) (by rfl)) ?_
  refine Wl.know 52 (v' := dvv (⟨L, r20, fa', fc', fl, na', nc', rs⟩ : Dv)) rfl hval.symm ?_
  refine Wl.g rfl rfl (OpG.storeV (b := b6) zf25 rfl rfl rfl rfl (by repeat (first | exact Upd.here | apply Upd.there))) ?_
  rintro _ _
  refine Wl.nil (PX.then_n (CT.ret ?_))
  refine PX.retC rfl rfl (by repeat (first | exact Has.here | apply Has.there)) zf24 zf25 (by rfl) (fun w' hH => ?_)
  exact ⟨((⟨L, r20, fa', fc', fl, na', nc', rs⟩ : Dv), _, p'), ⟨⟨hok, rfl, (by show (fl.length : Int) ≤ most; have := h16b hmo.1; omega)⟩, hat'⟩, rfl, ((hH.bind (L := [.row 4 1 (.slice fa' n fc') n (fl.map bo), .row 22 1 (.slice na' n nc') n (rs.map rv), .frag bs (rws rs)]) (p := dvm (⟨L, r20, fa', fc', fl, na', nc', rs⟩ : Dv)) (.cons (.there (.there (.there .here))) (.cons (.there (.there (.there .here))) (.cons (.there .here) .nil))) (fun w hk => ⟨Rd.of_owns (hk _ List.mem_cons_self), Rd.of_owns (hk _ (List.mem_cons_of_mem _ List.mem_cons_self)), (hk _ (.tail _ (.tail _ (.head _)))).2 w (fun _ _ => rfl)⟩)).take (.cons (.there .here) (.cons .here .nil))).post⟩

end Go.Proofs.Ytamolakhpcofhaa

