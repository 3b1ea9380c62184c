/-
  What functions of the program compute, each by its walk. Conditions: those that each theorem names.
-/
import Derived.Test.YtlmbcdjmdgbmjaaMod
import Derived.Test.YtlmbcdjmdgbmjaaXQ1
set_option linter.unusedSimpArgs false
namespace Go.Proofs.Ytlmbcdjmdgbmjaa
open Go Go.Eng Go.Am
open Go.Tl (mayL bo)

theorem AG_ib129 : intsB Try.prog 129 3 = some true := by kernel_rfl
theorem AG_un3 : Try.prog.underlying 3 = some (.int .i64) := by kernel_rfl
theorem AG_un82 : Try.prog.underlying 82 = some (.int .u64) := by kernel_rfl
set_option maxRecDepth 100000 in
/-- semigroup/semigroupref02.Bit -/
theorem bit_spec (w : World) (x : Nat) (hx : x ≤ 200000) : Calls Try.prog 74 #[.int .i64 ((x : Nat) : Int)] w (fun e w' => e = .returned (u (1#64 <<< x)) ∧ Ext [] w w') := by
 refine enter (args := [.int .i64 ((x : Nat) : Int)]) [] 6 Try.func74 rfl rfl rfl ?_
 refine CT.seq ?_
 refine CT.region ?_
 refine Wl.q rfl rfl (OpQ.assign rfl) ?_
 refine Wl.nil ?_
 refine PX.then_n ?_
 refine CT.seq ?_
 refine CT.region ?_
 refine Wl.q rfl rfl (OpQ.move rfl) ?_
 refine Wl.q rfl rfl (OpQ.conv rfl (conv_i64_u64 AG_un3 AG_un82 _ (by omega))) ?_
 refine Wl.q rfl rfl (OpQ.ushlN (p := 1#64) rfl rfl) ?_
 refine Wl.q rfl rfl (OpQ.assign rfl) ?_
 refine Wl.nil ?_
 refine PX.then_n ?_
 refine CT.ret ?_
 refine PX.ret1 rfl rfl (fun w' hH => ?_)
 exact ⟨rfl, hH.ext⟩

set_option maxRecDepth 100000 in
/-- semigroup/semigroupref02.Below -/
theorem below_spec (w : World) (x : Nat) (hx : x ≤ 200000) : Calls Try.prog 84 #[.int .i64 ((x : Nat) : Int)] w (fun e w' => e = .returned (u (low x)) ∧ Ext [] w w') := by
 refine enter (args := [.int .i64 ((x : Nat) : Int)]) [] 9 Try.func84 rfl rfl rfl ?_
 refine CT.seq ?_
 refine CT.region ?_
 refine Wl.q rfl rfl (OpQ.assign rfl) ?_
 refine Wl.nil ?_
 refine PX.then_n ?_
 refine CT.seq ?_
 refine CT.seq ?_
 refine CT.region ?_
 refine Wl.q rfl rfl (OpQ.move rfl) ?_
 refine Wl.q rfl rfl (OpQ.geq rfl rfl) ?_
 refine Wl.nil ?_
 refine PX.then_n ?_
 refine CT.cond rfl (fun h4 => ?_) (fun h4 => ?_)
 ·
  have h4 := of_decide_eq_true h4
  refine CT.seq ?_
  refine CT.region ?_
  refine Wl.q rfl rfl (OpQ.assign rfl) ?_
  refine Wl.nil ?_
  refine PX.then_n ?_
  refine CT.ret ?_
  refine PX.then_r ?_
  refine PX.ret1 rfl rfl (fun w' hH => ?_)
  exact ⟨by unfold low; rw [if_pos (show 64 ≤ x by omega)]; rfl, hH.ext⟩
 ·
  have h4 := of_decide_eq_false h4
  refine CT.skip ?_
  refine PX.then_n ?_
  refine CT.seq ?_
  refine CT.region ?_
  refine Wl.q rfl rfl (OpQ.move rfl) ?_
  refine Wl.q rfl rfl (OpQ.conv rfl (conv_i64_u64 AG_un3 AG_un82 _ (by omega))) ?_
  refine Wl.q rfl rfl (OpQ.ushlN (p := 1#64) rfl rfl) ?_
  refine Wl.q rfl rfl (OpQ.usub (q := 1#64) rfl rfl) ?_
  refine Wl.q rfl rfl (OpQ.assign rfl) ?_
  refine Wl.nil ?_
  refine PX.then_n ?_
  refine CT.ret ?_
  refine PX.ret1 rfl rfl (fun w' hH => ?_)
  exact ⟨by unfold low; rw [if_neg (show ¬ 64 ≤ x by omega)], hH.ext⟩

set_option maxRecDepth 100000 in
/-- semigroup/semigroupref02.Has -/
theorem ehas_spec (w : World) (s : W64) (x : Nat) (hx : x ≤ 200000) : Calls Try.prog 85 #[u (s), .int .i64 ((x : Nat) : Int)] w (fun e w' => e = .returned (.bool (s.getLsbD x)) ∧ Ext [] w w') := by
 refine enter (args := [u (s), .int .i64 ((x : Nat) : Int)]) [] 11 Try.func85 rfl rfl rfl ?_
 refine CT.seq ?_
 refine CT.region ?_
 refine Wl.q rfl rfl (OpQ.assign rfl) ?_
 refine Wl.nil ?_
 refine PX.then_n ?_
 refine CT.seq ?_
 refine CT.region ?_
 refine Wl.q rfl rfl (OpQ.move rfl) ?_
 refine Wl.q rfl rfl (OpQ.move rfl) ?_
 refine Wl.q rfl rfl (OpQ.conv rfl (conv_i64_u64 AG_un3 AG_un82 _ (by omega))) ?_
 refine Wl.q rfl rfl (OpQ.ushrN rfl rfl) ?_
 refine Wl.q rfl rfl (OpQ.uand (q := 1#64) rfl rfl) ?_
 refine Wl.q rfl rfl (OpQ.ueql (q := 1#64) rfl rfl) ?_
 refine Wl.know 10 (v' := .bool (s.getLsbD x)) rfl (congrArg Value.bool (has_bit s x)) ?_
 refine Wl.q rfl rfl (OpQ.assign rfl) ?_
 refine Wl.nil ?_
 refine PX.then_n ?_
 refine CT.ret ?_
 refine PX.ret1 rfl rfl (fun w' hH => ?_)
 exact ⟨rfl, hH.ext⟩

theorem AG_fa129_0 : fieldB Try.prog 129 0 = some 0 := by kernel_rfl
theorem AG_sc3 : scalarB Try.prog 3 = some true := by kernel_rfl
theorem AG_fa129_1 : fieldB Try.prog 129 1 = some 1 := by kernel_rfl
theorem AG_fa129_2 : fieldB Try.prog 129 2 = some 2 := by kernel_rfl
set_option maxRecDepth 100000 in
/-- semigroup/semigroupref06.before -/
theorem ebefore_spec (w : World) (a b : Ed) : Calls Try.prog 79 #[.agg (edv a).toArray, .agg (edv b).toArray] w (fun e w' => e = .returned (.bool (edB a b)) ∧ Ext [] w w') := by
 refine enter (args := [.agg (edv a).toArray, .agg (edv b).toArray]) [] 30 Try.func79 rfl rfl rfl ?_
 refine CT.seq ?_
 refine CT.region ?_
 refine Wl.g rfl rfl (OpG.box (size := 3) rfl rfl rfl) ?_
 rintro b2 _
 refine Wl.g rfl rfl (OpG.box (size := 3) rfl rfl rfl) ?_
 rintro b3 _
 refine Wl.q rfl rfl (OpQ.assign rfl) ?_
 refine Wl.nil ?_
 refine PX.then_n ?_
 refine CT.seq ?_
 refine CT.seq ?_
 refine CT.region ?_
 refine Wl.q rfl rfl (OpQ.fieldAddr AG_fa129_0 rfl) ?_
 refine Wl.q rfl rfl (OpQ.loadF (b := b2) AG_sc3 rfl (by repeat (first | exact Has.here | apply Has.there)) (by rfl)) ?_
 refine Wl.q rfl rfl (OpQ.fieldAddr AG_fa129_0 rfl) ?_
 refine Wl.q rfl rfl (OpQ.loadF (b := b3) AG_sc3 rfl (by repeat (first | exact Has.here | apply Has.there)) (by rfl)) ?_
 refine Wl.q rfl rfl (OpQ.neq rfl rfl) ?_
 refine Wl.nil ?_
 refine PX.then_n ?_
 refine CT.cond rfl (fun h9 => ?_) (fun h9 => ?_)
 ·
  have h9 := of_nd_t h9
  refine CT.seq ?_
  refine CT.region ?_
  refine Wl.q rfl rfl (OpQ.fieldAddr AG_fa129_0 rfl) ?_
  refine Wl.q rfl rfl (OpQ.loadF (b := b2) AG_sc3 rfl (by repeat (first | exact Has.here | apply Has.there)) (by rfl)) ?_
  refine Wl.q rfl rfl (OpQ.fieldAddr AG_fa129_0 rfl) ?_
  refine Wl.q rfl rfl (OpQ.loadF (b := b3) AG_sc3 rfl (by repeat (first | exact Has.here | apply Has.there)) (by rfl)) ?_
  refine Wl.q rfl rfl (OpQ.lss rfl rfl) ?_
  refine Wl.q rfl rfl (OpQ.assign rfl) ?_
  refine Wl.nil ?_
  refine PX.then_n ?_
  refine CT.ret ?_
  refine PX.then_r ?_
  refine PX.ret1 rfl rfl (fun w' hH => ?_)
  exact ⟨by unfold edB; rw [if_pos h9], hH.ext⟩
 ·
  have h9 := of_nd_f h9
  refine CT.skip ?_
  refine PX.then_n ?_
  refine CT.seq ?_
  refine CT.seq ?_
  refine CT.region ?_
  refine Wl.q rfl rfl (OpQ.fieldAddr AG_fa129_1 rfl) ?_
  refine Wl.q rfl rfl (OpQ.loadF (b := b2) AG_sc3 rfl (by repeat (first | exact Has.here | apply Has.there)) (by rfl)) ?_
  refine Wl.q rfl rfl (OpQ.fieldAddr AG_fa129_1 rfl) ?_
  refine Wl.q rfl rfl (OpQ.loadF (b := b3) AG_sc3 rfl (by repeat (first | exact Has.here | apply Has.there)) (by rfl)) ?_
  refine Wl.q rfl rfl (OpQ.neq rfl rfl) ?_
  refine Wl.nil ?_
  refine PX.then_n ?_
  refine CT.cond rfl (fun h19 => ?_) (fun h19 => ?_)
  ·
   have h19 := of_nd_t h19
   refine CT.seq ?_
   refine CT.region ?_
   refine Wl.q rfl rfl (OpQ.fieldAddr AG_fa129_1 rfl) ?_
   refine Wl.q rfl rfl (OpQ.loadF (b := b2) AG_sc3 rfl (by repeat (first | exact Has.here | apply Has.there)) (by rfl)) ?_
   refine Wl.q rfl rfl (OpQ.fieldAddr AG_fa129_1 rfl) ?_
   refine Wl.q rfl rfl (OpQ.loadF (b := b3) AG_sc3 rfl (by repeat (first | exact Has.here | apply Has.there)) (by rfl)) ?_
   refine Wl.q rfl rfl (OpQ.lss rfl rfl) ?_
   refine Wl.q rfl rfl (OpQ.assign rfl) ?_
   refine Wl.nil ?_
   refine PX.then_n ?_
   refine CT.ret ?_
   refine PX.then_r ?_
   refine PX.ret1 rfl rfl (fun w' hH => ?_)
   exact ⟨by unfold edB; rw [if_neg (fun h => h h9), if_pos h19], hH.ext⟩
  ·
   have h19 := of_nd_f h19
   refine CT.skip ?_
   refine PX.then_n ?_
   refine CT.seq ?_
   refine CT.region ?_
   refine Wl.q rfl rfl (OpQ.fieldAddr AG_fa129_2 rfl) ?_
   refine Wl.q rfl rfl (OpQ.loadF (b := b2) AG_sc3 rfl (by repeat (first | exact Has.here | apply Has.there)) (by rfl)) ?_
   refine Wl.q rfl rfl (OpQ.fieldAddr AG_fa129_2 rfl) ?_
   refine Wl.q rfl rfl (OpQ.loadF (b := b3) AG_sc3 rfl (by repeat (first | exact Has.here | apply Has.there)) (by rfl)) ?_
   refine Wl.q rfl rfl (OpQ.lss rfl rfl) ?_
   refine Wl.q rfl rfl (OpQ.assign rfl) ?_
   refine Wl.nil ?_
   refine PX.then_n ?_
   refine CT.ret ?_
   refine PX.ret1 rfl rfl (fun w' hH => ?_)
   exact ⟨by unfold edB; rw [if_neg (fun h => h h9), if_neg (fun h => h h19)], hH.ext⟩

theorem AG_un105 : Try.prog.underlying 105 = some (.slice 129) := by kernel_rfl
theorem AG_sz129 : sizeB Try.prog 129 = some 3 := by kernel_rfl
theorem AG_ag129 : isAggB Try.prog 129 = some true := by kernel_rfl
theorem AG_in129 : (Try.prog.info? 129).map (fun i => (i.zero, i.size, i.bytes)) = some (some (.agg #[.int .i64 0, .int .i64 0, .int .i64 0]), 3, 24) := by kernel_rfl
theorem AG_mixed : Try.prog.follows .mixedOrders = true := by kernel_rfl
theorem AG_go79 : isGo Try.prog 79 = true := by kernel_rfl
set_option maxRecDepth 100000 in
/-- semigroup/semigroupref06.Sorted -/
theorem sorted_spec (w : World) (es : List Ed) (ea : Option Addr) (ec : Nat) (hr : Stays [] w (fun w => Rd w ea (es.flatMap edv))) (hl : es.length ≤ 200000) : Calls Try.prog 75 #[.slice ea es.length ec] w (fun e w' => ∃ i : List Ed × Option Addr × Nat, Sd es es.length i.1 ∧ e = .returned (.slice i.2.1 i.1.length i.2.2) ∧ Post [] [.row 129 3 (.slice i.2.1 i.1.length i.2.2) i.1.length (i.1.flatMap edv)] w w') := by
 have hea : 0 < es.length → ea.isSome = true := fun h => hr.now.isSome (j := 0) (by rw [flat_len edv_len]; omega)
 refine enter (args := [.slice ea es.length ec]) [] 53 Try.func75 rfl rfl rfl ?_
 refine CT.seq ?_
 refine CT.region ?_
 refine Wl.q rfl rfl (OpQ.assign rfl) ?_
 refine Wl.nil ?_
 refine PX.then_n ?_
 refine CT.seq ?_
 refine CT.region ?_
 refine Wl.q rfl rfl (OpQ.assign rfl) ?_
 refine Wl.nil ?_
 refine PX.then_n ?_
 refine CT.seq ?_
 refine CT.seq ?_
 refine CT.region ?_
 refine Wl.q rfl rfl (OpQ.move rfl) ?_
 refine Wl.q rfl rfl (OpQ.len AG_un105 rfl) ?_
 refine Wl.q rfl rfl (OpQ.move rfl) ?_
 refine Wl.nil ?_
 refine PX.then_n ?_
 refine CT.block ?_
 refine CT.nilrow 129 3 ?_
 refine CT.as (fun _ h => h.take (.cons .here .nil)) ?_
 refine CT.loop (ι := Nat × List Ed × Option Addr × Nat) (fun (i, o, oa, oc) => i ≤ es.length ∧ Sd es i o) (fun (i, o, oa, oc) => [(3, .slice oa o.length oc), (7, .slice ea es.length ec), (8, .int .i64 ((es.length : Nat) : Int)), (9, .int .i64 ((i : Nat) : Int))]) (fun (i, o, oa, oc) => [.row 129 3 (.slice oa o.length oc) o.length (o.flatMap edv)]) (fun (i, o, oa, oc) => es.length - i) (0, [], none, 0) ⟨Nat.zero_le _, Sd.start _⟩ ⟨rfl, rfl, rfl, rfl, trivial⟩ (HSub.refl _) (fun ⟨i, o, oa, oc⟩ ⟨hi, hs⟩ K0 hK0 => ?_)
 dsimp only
 refine CT.fact (p := o.length ≤ oc) (fun w hH => owns_cap (hH.holds _ (Has.mem .here)).1) (fun hoc => ?_)
 refine CT.fact (p := 0 < o.length → oa.isSome = true) (fun w hH h0 => (hH.rd .here).isSome (j := 0) (by rw [flat_len edv_len]; omega)) (fun hoa => ?_)
 have hol := hs.len
 refine CT.seq ?_
 refine CT.region ?_
 refine Wl.q rfl rfl (OpQ.lss rfl rfl) ?_
 refine Wl.nil ?_
 refine PX.then_n ?_
 refine CT.seq ?_
 refine CT.cond rfl (fun h10 => ?_) (fun h10 => ?_)
 ·
  have h10 := of_decide_eq_true h10
  have hil : i < es.length := by omega
  refine CT.skip ?_
  refine PX.then_n ?_
  refine CT.seq ?_
  refine CT.block ?_
  refine CT.seq ?_
  refine CT.region ?_
  refine Wl.q rfl rfl (OpQ.index AG_un105 AG_sz129 rfl rfl (by omega) (hea (by omega))) ?_
  refine Wl.q rfl rfl (OpQ.loadAggG (cs := (edv (es.getD i ed0))) AG_ag129 AG_sz129 rfl (fun w hH => hH.use hr) (flat_cells edv_len es ed0 (by omega))) ?_
  refine Wl.g rfl rfl (OpG.alloc (zs := [.int .i64 0, .int .i64 0, .int .i64 0]) AG_in129 rfl rfl) ?_
  rintro b5 _
  refine Wl.g rfl rfl (OpG.storeV (b := b5) AG_sz129 rfl rfl rfl rfl (by repeat (first | exact Upd.here | apply Upd.there))) ?_
  rintro _ _
  refine Wl.nil ?_
  refine PX.then_n ?_
  refine CT.seq ?_
  refine CT.region ?_
  refine Wl.q rfl rfl (OpQ.move rfl) ?_
  refine Wl.q rfl rfl (OpQ.len AG_un105 rfl) ?_
  refine Wl.q rfl rfl (OpQ.assign rfl) ?_
  refine Wl.nil ?_
  refine PX.then_n ?_
  refine CT.cut (ι := Nat) (Φ := fun k => k ≤ o.length ∧ (∀ j, k ≤ j → j < o.length → edB (es.getD i ed0) (o.getD j ed0) = true) ∧ (k = 0 ∨ edB (es.getD i ed0) (o.getD (k - 1) ed0) = false)) (E' := fun k => [(3, .slice oa o.length oc), (7, .slice ea es.length ec), (8, .int .i64 ((es.length : Nat) : Int)), (9, .int .i64 ((i : Nat) : Int)), (5, .pointer (some ⟨b5, 0, none⟩)), (6, .int .i64 ((k : Nat) : Int))]) (H' := fun _ => [.row 129 3 (vb b5) 1 (edv (es.getD i ed0)), .row 129 3 (.slice oa o.length oc) o.length (o.flatMap edv)]) (fun K1 hK1 => ?_) (fun k ⟨hk, hhi, hlo⟩ => ?_)
  ·
   refine CT.block ?_
   refine CT.loop (ι := Nat) (fun k => k ≤ o.length ∧ ∀ j, k ≤ j → j < o.length → edB (es.getD i ed0) (o.getD j ed0) = true) (fun k => [(3, .slice oa o.length oc), (7, .slice ea es.length ec), (8, .int .i64 ((es.length : Nat) : Int)), (9, .int .i64 ((i : Nat) : Int)), (5, .pointer (some ⟨b5, 0, none⟩)), (6, .int .i64 ((k : Nat) : Int))]) (fun _ => [.row 129 3 (vb b5) 1 (edv (es.getD i ed0)), .row 129 3 (.slice oa o.length oc) o.length (o.flatMap edv)]) (fun k => k) o.length ⟨Nat.le_refl _, fun j h1 h2 => by omega⟩ ⟨rfl, rfl, rfl, rfl, rfl, rfl, trivial⟩ (HSub.refl _) (fun k ⟨hk, hhi⟩ K2 hK2 => ?_)
   refine CT.seq ?_
   refine CT.seq ?_
   refine CT.draw 11 AG_mixed ?_
   refine RA.q 0 (by kernel_rfl) rfl rfl rfl (.refl _) (OpQ.move rfl) ?_
   refine RA.q 1 (by kernel_rfl) rfl rfl rfl (.refl _) (OpQ.gtr rfl rfl) ?_
   refine RA.q 2 (by kernel_rfl) rfl rfl rfl (.refl _) (OpQ.move rfl) ?_
   refine RA.split 17 rfl (fun hg17 => ?_) (fun hg17 => ?_)
   ·
    have hg17 := of_decide_eq_true hg17
    refine RA.q 3 (by kernel_rfl) rfl rfl rfl (.refl _) (OpQ.loadV (b := b5) AG_ag129 AG_sz129 rfl (by repeat (first | exact Has.here | apply Has.there)) (by rfl)) ?_
    refine RA.q 4 (by kernel_rfl) rfl rfl rfl (.refl _) (OpQ.move rfl) ?_
    refine RA.q 5 (by kernel_rfl) rfl rfl rfl (.refl _) (OpQ.move rfl) ?_
    refine RA.q 6 (by kernel_rfl) rfl rfl rfl (.refl _) (OpQ.sub rfl rfl (by omega)) ?_
    refine RA.know 21 (v' := .int .i64 (((k - 1) : Nat) : Int)) rfl (congrArg (Value.int .i64) (by omega)) ?_
    refine RA.q 7 (by kernel_rfl) rfl rfl rfl (.refl _) (OpQ.index AG_un105 AG_sz129 rfl rfl (by omega) (hoa (by omega))) ?_
    refine RA.q 8 (by kernel_rfl) rfl rfl rfl (.refl _) (OpQ.loadAggG (cs := (edv (o.getD (k - 1) ed0))) AG_ag129 AG_sz129 rfl (fun w hH => hH.rd (.there .here)) (flat_cells edv_len o ed0 (by omega))) ?_
    refine RA.f 9 (by kernel_rfl) rfl rfl rfl (OpG.callV AG_go79 rfl (fun w hH => ebefore_spec w (es.getD i ed0) (o.getD (k - 1) ed0))) (fun _ _ => (.refl _)) ?_
    rintro _ _
    refine RA.q 10 (by kernel_rfl) rfl rfl rfl (.refl _) (OpQ.pickT rfl rfl) ?_
    refine RA.tail ?_
    refine RT.done (by kernel_rfl) ?_
    refine PX.then_n ?_
    refine CT.cond rfl (fun h25 => ?_) (fun h25 => ?_)
    ·
     refine CT.skip ?_
     refine PX.then_n ?_
     refine CT.block ?_
     refine CT.region ?_
     refine Wl.q rfl rfl (OpQ.move rfl) ?_
     refine Wl.q rfl rfl (OpQ.sub rfl rfl (by omega)) ?_
     refine Wl.q rfl rfl (OpQ.assign rfl) ?_
     refine Wl.nil ?_
     refine PX.block_n ?_
     exact PX.loop hK2 (k - 1) ⟨by omega, fun j h1 h2 => by rcases Nat.lt_or_ge j k with h3 | h3; obtain rfl : j = k - 1 := (by omega); exact h25; exact hhi j h3 h2⟩ (show k - 1 < k by omega) ⟨rfl, rfl, rfl, rfl, rfl, (lkV rfl (by congr 1; omega)), trivial⟩ (HSub.refl _)
    ·
     refine CT.exit ?_
     refine PX.then_x ?_
     refine PX.then_x ?_
     refine PX.block_x ?_
     exact PX.cut hK1 k ⟨hk, hhi, .inr h25⟩ ⟨rfl, rfl, rfl, rfl, rfl, rfl, trivial⟩ (HSub.refl _)
   ·
    have hg17 := of_decide_eq_false hg17
    refine RA.skip 3 (by kernel_rfl) rfl rfl rfl (.refl _) ?_
    refine RA.skip 4 (by kernel_rfl) rfl rfl rfl (.refl _) ?_
    refine RA.skip 5 (by kernel_rfl) rfl rfl rfl (.refl _) ?_
    refine RA.skip 6 (by kernel_rfl) rfl rfl rfl (.refl _) ?_
    refine RA.skip 7 (by kernel_rfl) rfl rfl rfl (.refl _) ?_
    refine RA.skip 8 (by kernel_rfl) rfl rfl rfl (.refl _) ?_
    refine RA.skip 9 (by kernel_rfl) rfl rfl rfl (.refl _) ?_
    refine RA.q 10 (by kernel_rfl) rfl rfl rfl (.refl _) (OpQ.pickF rfl rfl) ?_
    refine RA.tail ?_
    refine RT.done (by kernel_rfl) ?_
    refine PX.then_n ?_
    refine CT.condF rfl ?_
    refine CT.exit ?_
    refine PX.then_x ?_
    refine PX.then_x ?_
    refine PX.block_x ?_
    exact PX.cut hK1 k ⟨hk, hhi, .inl (by omega)⟩ ⟨rfl, rfl, rfl, rfl, rfl, rfl, trivial⟩ (HSub.refl _)
  ·
   refine CT.seq ?_
   refine CT.draw 11 AG_mixed ?_
   refine RA.q 0 (by kernel_rfl) rfl rfl rfl (.refl _) (OpQ.move rfl) ?_
   refine RA.q 1 (by kernel_rfl) rfl rfl rfl (.refl _) (OpQ.eql rfl rfl) ?_
   refine RA.q 2 (by kernel_rfl) rfl rfl rfl (.refl _) (OpQ.move rfl) ?_
   refine RA.split 30 rfl (fun hg30 => ?_) (fun hg30 => ?_)
   ·
    have hg30 := of_decide_eq_true hg30
    have hins : k = 0 ∨ edB (es.getD i ed0) (o.getD (k - 1) ed0) = false ∧ (o.getD (k - 1) ed0) ≠ (es.getD i ed0) := .inl (by omega)
    refine RA.skip 3 (by kernel_rfl) rfl rfl rfl (.refl _) ?_
    refine RA.skip 4 (by kernel_rfl) rfl rfl rfl (.refl _) ?_
    refine RA.skip 5 (by kernel_rfl) rfl rfl rfl (.refl _) ?_
    refine RA.skip 6 (by kernel_rfl) rfl rfl rfl (.refl _) ?_
    refine RA.skip 7 (by kernel_rfl) rfl rfl rfl (.refl _) ?_
    refine RA.skip 8 (by kernel_rfl) rfl rfl rfl (.refl _) ?_
    refine RA.skip 9 (by kernel_rfl) rfl rfl rfl (.refl _) ?_
    refine RA.q 10 (by kernel_rfl) rfl rfl rfl (.refl _) (OpQ.pickT rfl rfl) ?_
    refine RA.tail ?_
    refine RT.done (by kernel_rfl) ?_
    refine PX.then_n ?_
    refine CT.condT rfl ?_
    refine CT.draw 13 AG_mixed ?_
    refine RA.q 1 (by kernel_rfl) rfl rfl rfl (.refl _) (OpQ.move rfl) ?_
    refine RA.q 2 (by kernel_rfl) rfl rfl rfl (.refl _) (OpQ.move rfl) ?_
    refine RA.q 3 (by kernel_rfl) rfl rfl rfl (.refl _) (OpQ.sliceToN AG_un105 AG_sz129 rfl rfl rfl (by omega)) ?_
    refine RA.q 5 (by kernel_rfl) rfl rfl rfl (.refl _) (OpQ.loadV (b := b5) AG_ag129 AG_sz129 rfl (by repeat (first | exact Has.here | apply Has.there)) (by rfl)) ?_
    refine RA.q 8 (by kernel_rfl) rfl rfl rfl (.refl _) (OpQ.move rfl) ?_
    refine RA.q 9 (by kernel_rfl) rfl rfl rfl (.refl _) (OpQ.move rfl) ?_
    refine RA.q 10 (by kernel_rfl) rfl rfl rfl (.refl _) (OpQ.sliceFromN AG_un105 AG_sz129 rfl rfl rfl hk) ?_
    refine RA.two 0 6 (by kernel_rfl) rfl rfl rfl (OpG.litE AG_un105 AG_in129) (fun _ _ => (.cons _ (.refl _))) rfl rfl rfl (OpG.litS1 AG_un105 AG_in129 rfl (by decide) rfl) (fun _ _ => (.cons _ (.refl _))) ?_ ?_
    ·
     rintro b39 _
     refine RA.two 4 6 (by kernel_rfl) rfl rfl rfl (OpG.append AG_un105 AG_in129 (by rfl) (by decide) rfl rfl (p := 0) rfl (fun w hH => ed_take (hH.rd (.there (.there .here))) k) ⟨by rw [flat_len edv_len, List.length_take]; omega, ed_one _, by omega, by omega⟩ (nm := k) (Nat.zero_add k) (all := (o.take k).flatMap edv) (List.nil_append _)) (fun _ _ => (.cons _ (.refl _))) rfl rfl rfl (OpG.litS1 AG_un105 AG_in129 rfl (by decide) rfl) (fun _ _ => (.cons _ (.cons _ (.refl _)))) ?_ ?_
     ·
      rintro ⟨a43, c43⟩ h43
      refine RA.f 6 (by kernel_rfl) rfl rfl rfl (OpG.litS1 AG_un105 AG_in129 rfl (by decide) rfl) (fun _ _ => (.cons _ (.cons _ (.refl _)))) ?_
      rintro b45 _
      refine RA.f 7 (by kernel_rfl) rfl rfl rfl (OpG.append AG_un105 AG_in129 (by rfl) (by decide) rfl rfl (p := 1) rfl (fun w hH => hH.rd .here) ⟨rfl, (by simp [Value.oneCell']), by omega, by omega⟩ (nm := (k + 1)) rfl (all := (o.take k ++ [(es.getD i ed0)]).flatMap edv) (by simp)) (fun _ _ => (.cons _ (.cons _ (.refl _)))) ?_
      rintro ⟨a46, c46⟩ h46
      refine RA.f 11 (by kernel_rfl) rfl rfl rfl (OpG.append AG_un105 AG_in129 (by rfl) (by decide) rfl rfl (p := 1) rfl (fun w hH => ed_drop (hH.rd (.there (.there (.there .here)))) hoc k) ⟨by rw [flat_len edv_len, List.length_drop], ed_one _, by omega, by omega⟩ (nm := (o.length + 1)) (by omega) (all := (o.take k ++ [(es.getD i ed0)] ++ o.drop k).flatMap edv) (List.flatMap_append ..).symm) (fun _ _ => (.cons _ (.cons _ (.refl _)))) ?_
      rintro ⟨a50, c50⟩ h50
      refine RA.q 12 (by kernel_rfl) rfl rfl rfl (.cons _ (.cons _ (.refl _))) (OpQ.assign rfl) ?_
      refine RA.tail ?_
      refine RT.done (by kernel_rfl) ?_
      refine PX.block_n ?_
      refine PX.then_n ?_
      refine CT.region ?_
      refine Wl.q rfl rfl (OpQ.add rfl rfl (by omega)) ?_
      refine Wl.q rfl rfl (OpQ.move rfl) ?_
      refine Wl.nil ?_
      have hnl : (o.take k ++ [(es.getD i ed0)] ++ o.drop k).length = o.length + 1 := by simp only [List.length_append, List.length_take, List.length_drop, List.length_singleton]; omega
      refine PX.as (fun _ h => h.take (.cons (.there .here) .nil)) ?_
      exact PX.loop hK0 (i + 1, (o.take k ++ [(es.getD i ed0)] ++ o.drop k), a50, c50) ⟨by omega, hs.ins hil hk hhi hins⟩ (show es.length - (i + 1) < es.length - i by omega) ⟨(lkV rfl (by rw [hnl])), rfl, rfl, rfl, trivial⟩ (by dsimp only; rw [hnl]; exact HSub.refl _)
     ·
      rintro b45 _
      refine RA.f 4 (by kernel_rfl) rfl rfl rfl (OpG.append AG_un105 AG_in129 (by rfl) (by decide) rfl rfl (p := 1) rfl (fun w hH => ed_take (hH.rd (.there (.there (.there .here)))) k) ⟨by rw [flat_len edv_len, List.length_take]; omega, ed_one _, by omega, by omega⟩ (nm := k) (Nat.zero_add k) (all := (o.take k).flatMap edv) (List.nil_append _)) (fun _ _ => (.cons _ (.cons _ (.refl _)))) ?_
      rintro ⟨a43, c43⟩ h43
      refine RA.f 7 (by kernel_rfl) rfl rfl rfl (OpG.append AG_un105 AG_in129 (by rfl) (by decide) rfl rfl (p := 1) rfl (fun w hH => hH.rd .here) ⟨rfl, (by simp [Value.oneCell']), by omega, by omega⟩ (nm := (k + 1)) rfl (all := (o.take k ++ [(es.getD i ed0)]).flatMap edv) (by simp)) (fun _ _ => (.cons _ (.cons _ (.refl _)))) ?_
      rintro ⟨a46, c46⟩ h46
      refine RA.f 11 (by kernel_rfl) rfl rfl rfl (OpG.append AG_un105 AG_in129 (by rfl) (by decide) rfl rfl (p := 1) rfl (fun w hH => ed_drop (hH.rd (.there (.there (.there .here)))) hoc k) ⟨by rw [flat_len edv_len, List.length_drop], ed_one _, by omega, by omega⟩ (nm := (o.length + 1)) (by omega) (all := (o.take k ++ [(es.getD i ed0)] ++ o.drop k).flatMap edv) (List.flatMap_append ..).symm) (fun _ _ => (.cons _ (.cons _ (.refl _)))) ?_
      rintro ⟨a50, c50⟩ h50
      refine RA.q 12 (by kernel_rfl) rfl rfl rfl (.cons _ (.cons _ (.refl _))) (OpQ.assign rfl) ?_
      refine RA.tail ?_
      refine RT.done (by kernel_rfl) ?_
      refine PX.block_n ?_
      refine PX.then_n ?_
      refine CT.region ?_
      refine Wl.q rfl rfl (OpQ.add rfl rfl (by omega)) ?_
      refine Wl.q rfl rfl (OpQ.move rfl) ?_
      refine Wl.nil ?_
      have hnl : (o.take k ++ [(es.getD i ed0)] ++ o.drop k).length = o.length + 1 := by simp only [List.length_append, List.length_take, List.length_drop, List.length_singleton]; omega
      refine PX.as (fun _ h => h.take (.cons (.there .here) .nil)) ?_
      exact PX.loop hK0 (i + 1, (o.take k ++ [(es.getD i ed0)] ++ o.drop k), a50, c50) ⟨by omega, hs.ins hil hk hhi hins⟩ (show es.length - (i + 1) < es.length - i by omega) ⟨(lkV rfl (by rw [hnl])), rfl, rfl, rfl, trivial⟩ (by dsimp only; rw [hnl]; exact HSub.refl _)
    ·
     rintro b45 _
     refine RA.f 0 (by kernel_rfl) rfl rfl rfl (OpG.litE AG_un105 AG_in129) (fun _ _ => (.cons _ (.cons _ (.refl _)))) ?_
     rintro b39 _
     refine RA.f 4 (by kernel_rfl) rfl rfl rfl (OpG.append AG_un105 AG_in129 (by rfl) (by decide) rfl rfl (p := 0) rfl (fun w hH => ed_take (hH.rd (.there (.there (.there .here)))) k) ⟨by rw [flat_len edv_len, List.length_take]; omega, ed_one _, by omega, by omega⟩ (nm := k) (Nat.zero_add k) (all := (o.take k).flatMap edv) (List.nil_append _)) (fun _ _ => (.cons _ (.cons _ (.refl _)))) ?_
     rintro ⟨a43, c43⟩ h43
     refine RA.f 7 (by kernel_rfl) rfl rfl rfl (OpG.append AG_un105 AG_in129 (by rfl) (by decide) rfl rfl (p := 0) rfl (fun w hH => hH.rd (.there .here)) ⟨rfl, (by simp [Value.oneCell']), by omega, by omega⟩ (nm := (k + 1)) rfl (all := (o.take k ++ [(es.getD i ed0)]).flatMap edv) (by simp)) (fun _ _ => (.cons _ (.cons _ (.refl _)))) ?_
     rintro ⟨a46, c46⟩ h46
     refine RA.f 11 (by kernel_rfl) rfl rfl rfl (OpG.append AG_un105 AG_in129 (by rfl) (by decide) rfl rfl (p := 0) rfl (fun w hH => ed_drop (hH.rd (.there (.there (.there .here)))) hoc k) ⟨by rw [flat_len edv_len, List.length_drop], ed_one _, by omega, by omega⟩ (nm := (o.length + 1)) (by omega) (all := (o.take k ++ [(es.getD i ed0)] ++ o.drop k).flatMap edv) (List.flatMap_append ..).symm) (fun _ _ => (.cons _ (.cons _ (.refl _)))) ?_
     rintro ⟨a50, c50⟩ h50
     refine RA.q 12 (by kernel_rfl) rfl rfl rfl (.cons _ (.cons _ (.refl _))) (OpQ.assign rfl) ?_
     refine RA.tail ?_
     refine RT.as (fun _ h => h.take (.cons (.there .here) (.cons .here (.cons .here (.cons .here .nil))))) ?_
     refine RT.done (by kernel_rfl) ?_
     refine PX.block_n ?_
     refine PX.then_n ?_
     refine CT.region ?_
     refine Wl.q rfl rfl (OpQ.add rfl rfl (by omega)) ?_
     refine Wl.q rfl rfl (OpQ.move rfl) ?_
     refine Wl.nil ?_
     have hnl : (o.take k ++ [(es.getD i ed0)] ++ o.drop k).length = o.length + 1 := by simp only [List.length_append, List.length_take, List.length_drop, List.length_singleton]; omega
     refine PX.as (fun _ h => h.take (.cons (.there .here) .nil)) ?_
     exact PX.loop hK0 (i + 1, (o.take k ++ [(es.getD i ed0)] ++ o.drop k), a50, c50) ⟨by omega, hs.ins hil hk hhi hins⟩ (show es.length - (i + 1) < es.length - i by omega) ⟨(lkV rfl (by rw [hnl])), rfl, rfl, rfl, trivial⟩ (by dsimp only; rw [hnl]; exact HSub.refl _)
   ·
    have hg30 := of_decide_eq_false hg30
    refine RA.q 3 (by kernel_rfl) rfl rfl rfl (.refl _) (OpQ.move rfl) ?_
    refine RA.q 4 (by kernel_rfl) rfl rfl rfl (.refl _) (OpQ.move rfl) ?_
    refine RA.q 5 (by kernel_rfl) rfl rfl rfl (.refl _) (OpQ.sub rfl rfl (by omega)) ?_
    refine RA.know 33 (v' := .int .i64 (((k - 1) : Nat) : Int)) rfl (congrArg (Value.int .i64) (by omega)) ?_
    refine RA.q 6 (by kernel_rfl) rfl rfl rfl (.refl _) (OpQ.index AG_un105 AG_sz129 rfl rfl (by omega) (hoa (by omega))) ?_
    refine RA.q 7 (by kernel_rfl) rfl rfl rfl (.refl _) (OpQ.loadAggG (cs := (edv (o.getD (k - 1) ed0))) AG_ag129 AG_sz129 rfl (fun w hH => hH.rd (.there .here)) (flat_cells edv_len o ed0 (by omega))) ?_
    refine RA.q 8 (by kernel_rfl) rfl rfl rfl (.refl _) (OpQ.loadV (b := b5) AG_ag129 AG_sz129 rfl (by repeat (first | exact Has.here | apply Has.there)) (by rfl)) ?_
    refine RA.q 9 (by kernel_rfl) rfl rfl rfl (.refl _) (OpQ.neqInts [(o.getD (k - 1) ed0).fr, (o.getD (k - 1) ed0).lt, (o.getD (k - 1) ed0).to] [(es.getD i ed0).fr, (es.getD i ed0).lt, (es.getD i ed0).to] AG_ib129 rfl rfl ⟨rfl, rfl⟩) ?_
    refine RA.q 10 (by kernel_rfl) rfl rfl rfl (.refl _) (OpQ.pickF rfl rfl) ?_
    refine RA.tail ?_
    refine RT.done (by kernel_rfl) ?_
    refine PX.then_n ?_
    refine CT.cond rfl (fun h38 => ?_) (fun h38 => ?_)
    ·
     have hins : k = 0 ∨ edB (es.getD i ed0) (o.getD (k - 1) ed0) = false ∧ (o.getD (k - 1) ed0) ≠ (es.getD i ed0) := .inr ⟨hlo.resolve_left (by omega), ed_ne h38⟩
     refine CT.draw 13 AG_mixed ?_
     refine RA.q 1 (by kernel_rfl) rfl rfl rfl (.refl _) (OpQ.move rfl) ?_
     refine RA.q 2 (by kernel_rfl) rfl rfl rfl (.refl _) (OpQ.move rfl) ?_
     refine RA.q 3 (by kernel_rfl) rfl rfl rfl (.refl _) (OpQ.sliceToN AG_un105 AG_sz129 rfl rfl rfl (by omega)) ?_
     refine RA.q 5 (by kernel_rfl) rfl rfl rfl (.refl _) (OpQ.loadV (b := b5) AG_ag129 AG_sz129 rfl (by repeat (first | exact Has.here | apply Has.there)) (by rfl)) ?_
     refine RA.q 8 (by kernel_rfl) rfl rfl rfl (.refl _) (OpQ.move rfl) ?_
     refine RA.q 9 (by kernel_rfl) rfl rfl rfl (.refl _) (OpQ.move rfl) ?_
     refine RA.q 10 (by kernel_rfl) rfl rfl rfl (.refl _) (OpQ.sliceFromN AG_un105 AG_sz129 rfl rfl rfl hk) ?_
     refine RA.two 0 6 (by kernel_rfl) rfl rfl rfl (OpG.litE AG_un105 AG_in129) (fun _ _ => (.cons _ (.refl _))) rfl rfl rfl (OpG.litS1 AG_un105 AG_in129 rfl (by decide) rfl) (fun _ _ => (.cons _ (.refl _))) ?_ ?_
     ·
      rintro b39 _
      refine RA.two 4 6 (by kernel_rfl) rfl rfl rfl (OpG.append AG_un105 AG_in129 (by rfl) (by decide) rfl rfl (p := 0) rfl (fun w hH => ed_take (hH.rd (.there (.there .here))) k) ⟨by rw [flat_len edv_len, List.length_take]; omega, ed_one _, by omega, by omega⟩ (nm := k) (Nat.zero_add k) (all := (o.take k).flatMap edv) (List.nil_append _)) (fun _ _ => (.cons _ (.refl _))) rfl rfl rfl (OpG.litS1 AG_un105 AG_in129 rfl (by decide) rfl) (fun _ _ => (.cons _ (.cons _ (.refl _)))) ?_ ?_
      ·
       rintro ⟨a43, c43⟩ h43
       refine RA.f 6 (by kernel_rfl) rfl rfl rfl (OpG.litS1 AG_un105 AG_in129 rfl (by decide) rfl) (fun _ _ => (.cons _ (.cons _ (.refl _)))) ?_
       rintro b45 _
       refine RA.f 7 (by kernel_rfl) rfl rfl rfl (OpG.append AG_un105 AG_in129 (by rfl) (by decide) rfl rfl (p := 1) rfl (fun w hH => hH.rd .here) ⟨rfl, (by simp [Value.oneCell']), by omega, by omega⟩ (nm := (k + 1)) rfl (all := (o.take k ++ [(es.getD i ed0)]).flatMap edv) (by simp)) (fun _ _ => (.cons _ (.cons _ (.refl _)))) ?_
       rintro ⟨a46, c46⟩ h46
       refine RA.f 11 (by kernel_rfl) rfl rfl rfl (OpG.append AG_un105 AG_in129 (by rfl) (by decide) rfl rfl (p := 1) rfl (fun w hH => ed_drop (hH.rd (.there (.there (.there .here)))) hoc k) ⟨by rw [flat_len edv_len, List.length_drop], ed_one _, by omega, by omega⟩ (nm := (o.length + 1)) (by omega) (all := (o.take k ++ [(es.getD i ed0)] ++ o.drop k).flatMap edv) (List.flatMap_append ..).symm) (fun _ _ => (.cons _ (.cons _ (.refl _)))) ?_
       rintro ⟨a50, c50⟩ h50
       refine RA.q 12 (by kernel_rfl) rfl rfl rfl (.cons _ (.cons _ (.refl _))) (OpQ.assign rfl) ?_
       refine RA.tail ?_
       refine RT.done (by kernel_rfl) ?_
       refine PX.block_n ?_
       refine PX.then_n ?_
       refine CT.region ?_
       refine Wl.q rfl rfl (OpQ.add rfl rfl (by omega)) ?_
       refine Wl.q rfl rfl (OpQ.move rfl) ?_
       refine Wl.nil ?_
       have hnl : (o.take k ++ [(es.getD i ed0)] ++ o.drop k).length = o.length + 1 := by simp only [List.length_append, List.length_take, List.length_drop, List.length_singleton]; omega
       refine PX.as (fun _ h => h.take (.cons (.there .here) .nil)) ?_
       exact PX.loop hK0 (i + 1, (o.take k ++ [(es.getD i ed0)] ++ o.drop k), a50, c50) ⟨by omega, hs.ins hil hk hhi hins⟩ (show es.length - (i + 1) < es.length - i by omega) ⟨(lkV rfl (by rw [hnl])), rfl, rfl, rfl, trivial⟩ (by dsimp only; rw [hnl]; exact HSub.refl _)
      ·
       rintro b45 _
       refine RA.f 4 (by kernel_rfl) rfl rfl rfl (OpG.append AG_un105 AG_in129 (by rfl) (by decide) rfl rfl (p := 1) rfl (fun w hH => ed_take (hH.rd (.there (.there (.there .here)))) k) ⟨by rw [flat_len edv_len, List.length_take]; omega, ed_one _, by omega, by omega⟩ (nm := k) (Nat.zero_add k) (all := (o.take k).flatMap edv) (List.nil_append _)) (fun _ _ => (.cons _ (.cons _ (.refl _)))) ?_
       rintro ⟨a43, c43⟩ h43
       refine RA.f 7 (by kernel_rfl) rfl rfl rfl (OpG.append AG_un105 AG_in129 (by rfl) (by decide) rfl rfl (p := 1) rfl (fun w hH => hH.rd .here) ⟨rfl, (by simp [Value.oneCell']), by omega, by omega⟩ (nm := (k + 1)) rfl (all := (o.take k ++ [(es.getD i ed0)]).flatMap edv) (by simp)) (fun _ _ => (.cons _ (.cons _ (.refl _)))) ?_
       rintro ⟨a46, c46⟩ h46
       refine RA.f 11 (by kernel_rfl) rfl rfl rfl (OpG.append AG_un105 AG_in129 (by rfl) (by decide) rfl rfl (p := 1) rfl (fun w hH => ed_drop (hH.rd (.there (.there (.there .here)))) hoc k) ⟨by rw [flat_len edv_len, List.length_drop], ed_one _, by omega, by omega⟩ (nm := (o.length + 1)) (by omega) (all := (o.take k ++ [(es.getD i ed0)] ++ o.drop k).flatMap edv) (List.flatMap_append ..).symm) (fun _ _ => (.cons _ (.cons _ (.refl _)))) ?_
       rintro ⟨a50, c50⟩ h50
       refine RA.q 12 (by kernel_rfl) rfl rfl rfl (.cons _ (.cons _ (.refl _))) (OpQ.assign rfl) ?_
       refine RA.tail ?_
       refine RT.done (by kernel_rfl) ?_
       refine PX.block_n ?_
       refine PX.then_n ?_
       refine CT.region ?_
       refine Wl.q rfl rfl (OpQ.add rfl rfl (by omega)) ?_
       refine Wl.q rfl rfl (OpQ.move rfl) ?_
       refine Wl.nil ?_
       have hnl : (o.take k ++ [(es.getD i ed0)] ++ o.drop k).length = o.length + 1 := by simp only [List.length_append, List.length_take, List.length_drop, List.length_singleton]; omega
       refine PX.as (fun _ h => h.take (.cons (.there .here) .nil)) ?_
       exact PX.loop hK0 (i + 1, (o.take k ++ [(es.getD i ed0)] ++ o.drop k), a50, c50) ⟨by omega, hs.ins hil hk hhi hins⟩ (show es.length - (i + 1) < es.length - i by omega) ⟨(lkV rfl (by rw [hnl])), rfl, rfl, rfl, trivial⟩ (by dsimp only; rw [hnl]; exact HSub.refl _)
     ·
      rintro b45 _
      refine RA.f 0 (by kernel_rfl) rfl rfl rfl (OpG.litE AG_un105 AG_in129) (fun _ _ => (.cons _ (.cons _ (.refl _)))) ?_
      rintro b39 _
      refine RA.f 4 (by kernel_rfl) rfl rfl rfl (OpG.append AG_un105 AG_in129 (by rfl) (by decide) rfl rfl (p := 0) rfl (fun w hH => ed_take (hH.rd (.there (.there (.there .here)))) k) ⟨by rw [flat_len edv_len, List.length_take]; omega, ed_one _, by omega, by omega⟩ (nm := k) (Nat.zero_add k) (all := (o.take k).flatMap edv) (List.nil_append _)) (fun _ _ => (.cons _ (.cons _ (.refl _)))) ?_
      rintro ⟨a43, c43⟩ h43
      refine RA.f 7 (by kernel_rfl) rfl rfl rfl (OpG.append AG_un105 AG_in129 (by rfl) (by decide) rfl rfl (p := 0) rfl (fun w hH => hH.rd (.there .here)) ⟨rfl, (by simp [Value.oneCell']), by omega, by omega⟩ (nm := (k + 1)) rfl (all := (o.take k ++ [(es.getD i ed0)]).flatMap edv) (by simp)) (fun _ _ => (.cons _ (.cons _ (.refl _)))) ?_
      rintro ⟨a46, c46⟩ h46
      refine RA.f 11 (by kernel_rfl) rfl rfl rfl (OpG.append AG_un105 AG_in129 (by rfl) (by decide) rfl rfl (p := 0) rfl (fun w hH => ed_drop (hH.rd (.there (.there (.there .here)))) hoc k) ⟨by rw [flat_len edv_len, List.length_drop], ed_one _, by omega, by omega⟩ (nm := (o.length + 1)) (by omega) (all := (o.take k ++ [(es.getD i ed0)] ++ o.drop k).flatMap edv) (List.flatMap_append ..).symm) (fun _ _ => (.cons _ (.cons _ (.refl _)))) ?_
      rintro ⟨a50, c50⟩ h50
      refine RA.q 12 (by kernel_rfl) rfl rfl rfl (.cons _ (.cons _ (.refl _))) (OpQ.assign rfl) ?_
      refine RA.tail ?_
      refine RT.as (fun _ h => h.take (.cons (.there .here) (.cons .here (.cons .here (.cons .here .nil))))) ?_
      refine RT.done (by kernel_rfl) ?_
      refine PX.block_n ?_
      refine PX.then_n ?_
      refine CT.region ?_
      refine Wl.q rfl rfl (OpQ.add rfl rfl (by omega)) ?_
      refine Wl.q rfl rfl (OpQ.move rfl) ?_
      refine Wl.nil ?_
      have hnl : (o.take k ++ [(es.getD i ed0)] ++ o.drop k).length = o.length + 1 := by simp only [List.length_append, List.length_take, List.length_drop, List.length_singleton]; omega
      refine PX.as (fun _ h => h.take (.cons (.there .here) .nil)) ?_
      exact PX.loop hK0 (i + 1, (o.take k ++ [(es.getD i ed0)] ++ o.drop k), a50, c50) ⟨by omega, hs.ins hil hk hhi hins⟩ (show es.length - (i + 1) < es.length - i by omega) ⟨(lkV rfl (by rw [hnl])), rfl, rfl, rfl, trivial⟩ (by dsimp only; rw [hnl]; exact HSub.refl _)
    ·
     have hsame := ed_eq h38
     refine CT.skip ?_
     refine PX.block_n ?_
     refine PX.then_n ?_
     refine CT.region ?_
     refine Wl.q rfl rfl (OpQ.add rfl rfl (by omega)) ?_
     refine Wl.q rfl rfl (OpQ.move rfl) ?_
     refine Wl.nil ?_
     refine PX.as (fun _ h => h.take (.cons (.there .here) .nil)) ?_
     exact PX.loop hK0 (i + 1, o, oa, oc) ⟨by omega, hs.skip hil (k := k - 1) (by omega) hsame⟩ (show es.length - (i + 1) < es.length - i by omega) ⟨rfl, rfl, rfl, rfl, trivial⟩ (HSub.refl _)
 ·
  have h10 := of_decide_eq_false h10
  refine CT.exit ?_
  refine PX.then_x ?_
  refine PX.then_x ?_
  refine PX.block_x ?_
  refine PX.then_n ?_
  refine CT.seq ?_
  refine CT.region ?_
  refine Wl.q rfl rfl (OpQ.move rfl) ?_
  refine Wl.q rfl rfl (OpQ.assign rfl) ?_
  refine Wl.nil ?_
  refine PX.then_n ?_
  refine CT.ret ?_
  refine PX.ret1 rfl rfl (fun w' hH => ?_)
  obtain rfl : i = es.length := by omega
  exact ⟨(o, oa, oc), hs, rfl, hH.post⟩

theorem AG_in107 : (Try.prog.info? 107).map (fun i => (i.zero, i.size, i.bytes)) = some (some (.agg #[.int .i64 0, .int .i64 0, .int .u64 0, .int .u64 0, .slice none 0 0]), 5, 56) := by kernel_rfl
theorem AG_fa107_4 : fieldB Try.prog 107 4 = some 4 := by kernel_rfl
theorem AG_sc105 : scalarB Try.prog 105 = some true := by kernel_rfl
theorem AG_pl129 : placesB Try.prog 129 = some (#[.int .i64 0, .int .i64 0, .int .i64 0], [(0, 1), (1, 1), (2, 1)]) := by kernel_rfl
theorem AG_fa107_0 : fieldB Try.prog 107 0 = some 0 := by kernel_rfl
theorem AG_fa107_1 : fieldB Try.prog 107 1 = some 1 := by kernel_rfl
theorem AG_fa107_3 : fieldB Try.prog 107 3 = some 3 := by kernel_rfl
theorem AG_sc77 : scalarB Try.prog 77 = some true := by kernel_rfl
theorem AG_fa107_2 : fieldB Try.prog 107 2 = some 2 := by kernel_rfl
theorem AG_go75 : isGo Try.prog 75 = true := by kernel_rfl
theorem AG_pl107 : placesB Try.prog 107 = some (#[.int .i64 0, .int .i64 0, .int .u64 0, .int .u64 0, .slice none 0 0], [(0, 1), (1, 1), (2, 1), (3, 1), (4, 1)]) := by kernel_rfl
theorem AG_sz107 : sizeB Try.prog 107 = some 5 := by kernel_rfl
theorem AG_ag107 : isAggB Try.prog 107 = some true := by kernel_rfl
set_option maxRecDepth 100000 in
/-- semigroup/semigroupref06.Reverse -/
theorem reverse_spec (w : World) (N : Nv) (hN : Stays [] w (nfm N)) (hl : N.es.length ≤ 200000) : Calls Try.prog 63 #[nfv N] w (fun e w' => ∃ i : List Ed × Option Addr × Nat, (Srt i.1 ∧ (∀ e, e ∈ i.1 ↔ sw e ∈ N.es) ∧ i.1.length ≤ N.es.length) ∧ e = .returned (nfv ⟨N.L, N.n, N.fi, N.st, i.2.1, i.2.2, i.1⟩) ∧ Post [] [.row 129 3 (.slice i.2.1 i.1.length i.2.2) i.1.length (i.1.flatMap edv)] w w') := by
 have hna : 0 < N.es.length → N.ea.isSome = true := fun h => hN.now.isSome (j := 0) (by rw [flat_len edv_len]; omega)
 refine enter (args := [nfv N]) [] 35 Try.func63 rfl rfl rfl ?_
 refine CT.seq ?_
 refine CT.region ?_
 refine Wl.g rfl rfl (OpG.box (size := 5) rfl rfl rfl) ?_
 rintro b1 _
 refine Wl.g rfl rfl (OpG.alloc (zs := [.int .i64 0, .int .i64 0, .int .u64 0, .int .u64 0, .slice none 0 0]) AG_in107 rfl rfl) ?_
 rintro b2 _
 refine Wl.nil ?_
 refine PX.then_n ?_
 refine CT.seq ?_
 refine CT.region ?_
 refine Wl.q rfl rfl (OpQ.assign rfl) ?_
 refine Wl.nil ?_
 refine PX.then_n ?_
 refine CT.seq ?_
 refine CT.seq ?_
 refine CT.region ?_
 refine Wl.q rfl rfl (OpQ.fieldAddr AG_fa107_4 rfl) ?_
 refine Wl.q rfl rfl (OpQ.loadF (b := b1) AG_sc105 rfl (by repeat (first | exact Has.here | apply Has.there)) (by rfl)) ?_
 refine Wl.q rfl rfl (OpQ.len AG_un105 rfl) ?_
 refine Wl.q rfl rfl (OpQ.move rfl) ?_
 refine Wl.nil ?_
 refine PX.then_n ?_
 refine CT.block ?_
 refine CT.nilrow 129 3 ?_
 refine CT.loop (ι := Nat × Option Addr × Nat) (fun (k, sa, sc) => k ≤ N.es.length) (fun (k, sa, sc) => [(1, .pointer (some ⟨b1, 0, none⟩)), (2, .pointer (some ⟨b2, 0, none⟩)), (3, .slice sa k sc), (7, .slice N.ea N.es.length N.ec), (8, .int .i64 ((N.es.length : Nat) : Int)), (9, .int .i64 ((k : Nat) : Int))]) (fun (k, sa, sc) => [.row 129 3 (.slice sa k sc) k (((N.es.take k).map sw).flatMap edv), .row 107 5 (vb b2) 1 [.int .i64 0, .int .i64 0, .int .u64 0, .int .u64 0, .slice none 0 0], .row 107 5 (vb b1) 1 (nfc N)]) (fun (k, sa, sc) => N.es.length - k) (0, none, 0) (Nat.zero_le _) ⟨rfl, rfl, rfl, rfl, rfl, rfl, trivial⟩ (HSub.refl _) (fun ⟨k, sa, sc⟩ hk K0 hK0 => ?_)
 dsimp only
 refine CT.seq ?_
 refine CT.region ?_
 refine Wl.q rfl rfl (OpQ.lss rfl rfl) ?_
 refine Wl.nil ?_
 refine PX.then_n ?_
 refine CT.seq ?_
 refine CT.cond rfl (fun h10 => ?_) (fun h10 => ?_)
 ·
  have h10 := of_decide_eq_true h10
  refine CT.skip ?_
  refine PX.then_n ?_
  refine CT.seq ?_
  refine CT.block ?_
  refine CT.seq ?_
  refine CT.region ?_
  refine Wl.q rfl rfl (OpQ.index AG_un105 AG_sz129 rfl rfl (by omega) (hna (by omega))) ?_
  refine Wl.q rfl rfl (OpQ.loadAggG (cs := (edv (N.es.getD k ed0))) AG_ag129 AG_sz129 rfl (fun w hH => hH.use hN) (flat_cells edv_len N.es ed0 (by omega))) ?_
  refine Wl.g rfl rfl (OpG.alloc (zs := [.int .i64 0, .int .i64 0, .int .i64 0]) AG_in129 rfl rfl) ?_
  rintro b5 _
  refine Wl.g rfl rfl (OpG.storeV (b := b5) AG_sz129 rfl rfl rfl rfl (by repeat (first | exact Upd.here | apply Upd.there))) ?_
  rintro _ _
  refine Wl.nil ?_
  refine PX.then_n ?_
  refine CT.region ?_
  refine Wl.q rfl rfl (OpQ.move rfl) ?_
  refine Wl.q rfl rfl (OpQ.fieldAddr AG_fa129_2 rfl) ?_
  refine Wl.q rfl rfl (OpQ.loadF (b := b5) AG_sc3 rfl (by repeat (first | exact Has.here | apply Has.there)) (by rfl)) ?_
  refine Wl.q rfl rfl (OpQ.fieldAddr AG_fa129_1 rfl) ?_
  refine Wl.q rfl rfl (OpQ.loadF (b := b5) AG_sc3 rfl (by repeat (first | exact Has.here | apply Has.there)) (by rfl)) ?_
  refine Wl.q rfl rfl (OpQ.fieldAddr AG_fa129_0 rfl) ?_
  refine Wl.q rfl rfl (OpQ.loadF (b := b5) AG_sc3 rfl (by repeat (first | exact Has.here | apply Has.there)) (by rfl)) ?_
  refine Wl.q rfl rfl (OpQ.build (cells := #[_, _, _]) AG_pl129 rfl rfl) ?_
  refine Wl.g rfl rfl (OpG.litS1 AG_un105 AG_in129 rfl (by decide) rfl) ?_
  rintro b21 _
  refine Wl.g rfl rfl (OpG.append AG_un105 AG_in129 (by rfl) (by decide) rfl rfl (p := 2) rfl (fun w hH => hH.rd .here) ⟨rfl, (ed_one [sw (N.es.getD k ed0)]), by omega, by omega⟩ (nm := (k + 1)) rfl (all := ((N.es.take (k + 1)).map sw).flatMap edv) (by rw [take_snoc N.es ed0 (show k < N.es.length by omega), List.map_append, List.flatMap_append]; rfl)) ?_
  rintro ⟨a22, c22⟩ h22
  refine Wl.q rfl rfl (OpQ.assign rfl) ?_
  refine Wl.nil ?_
  refine PX.block_n ?_
  refine PX.then_n ?_
  refine CT.region ?_
  refine Wl.q rfl rfl (OpQ.add rfl rfl (by omega)) ?_
  refine Wl.q rfl rfl (OpQ.move rfl) ?_
  refine Wl.nil ?_
  refine PX.as (fun _ h => h.take (.cons (.there (.there .here)) (.cons (.there (.there .here)) (.cons (.there (.there .here)) .nil)))) ?_
  exact PX.loop hK0 (k + 1, a22, c22) (by omega) (show N.es.length - (k + 1) < N.es.length - k by omega) ⟨rfl, rfl, rfl, rfl, rfl, rfl, trivial⟩ (HSub.refl _)
 ·
  have h10 := of_decide_eq_false h10
  obtain rfl : k = N.es.length := by omega
  refine CT.as (fun _ h => h) ?_
  refine CT.exit ?_
  refine PX.then_x ?_
  refine PX.then_x ?_
  refine PX.block_x ?_
  refine PX.then_n ?_
  refine CT.seq ?_
  refine CT.draw 11 AG_mixed ?_
  refine RA.q 0 (by kernel_rfl) rfl rfl rfl (.refl _) (OpQ.fieldAddr AG_fa107_0 rfl) ?_
  refine RA.q 1 (by kernel_rfl) rfl rfl rfl (.refl _) (OpQ.loadF (b := b1) AG_sc3 rfl (by repeat (first | exact Has.here | apply Has.there)) (by rfl)) ?_
  refine RA.q 2 (by kernel_rfl) rfl rfl rfl (.refl _) (OpQ.fieldAddr AG_fa107_1 rfl) ?_
  refine RA.q 3 (by kernel_rfl) rfl rfl rfl (.refl _) (OpQ.loadF (b := b1) AG_sc3 rfl (by repeat (first | exact Has.here | apply Has.there)) (by rfl)) ?_
  refine RA.q 4 (by kernel_rfl) rfl rfl rfl (.refl _) (OpQ.fieldAddr AG_fa107_3 rfl) ?_
  refine RA.q 5 (by kernel_rfl) rfl rfl rfl (.refl _) (OpQ.loadF (b := b1) AG_sc77 rfl (by repeat (first | exact Has.here | apply Has.there)) (by rfl)) ?_
  refine RA.q 6 (by kernel_rfl) rfl rfl rfl (.refl _) (OpQ.fieldAddr AG_fa107_2 rfl) ?_
  refine RA.q 7 (by kernel_rfl) rfl rfl rfl (.refl _) (OpQ.loadF (b := b1) AG_sc77 rfl (by repeat (first | exact Has.here | apply Has.there)) (by rfl)) ?_
  refine RA.q 8 (by kernel_rfl) rfl rfl rfl (.refl _) (OpQ.move rfl) ?_
  refine RA.know 32 (v' := .slice sa (N.es.map sw).length sc) rfl (by rw [List.length_map]) ?_
  refine RA.f 9 (by kernel_rfl) rfl rfl rfl (OpG.callX AG_go75 rfl .nil (fun _ => (.cons .nil)) (fun w hH hp => sorted_spec w (N.es.map sw) sa sc ((Stays.rd (hH.staysK0 .here)).mono fun w h => by rw [List.take_length] at h; exact h) (by rw [List.length_map]; exact hl))) (fun _ _ => (.cons _ (.refl _))) ?_
  rintro ⟨o, oa, oc⟩ hs
  refine RA.q 10 (by kernel_rfl) rfl rfl rfl (.cons _ (.refl _)) (OpQ.build (cells := #[_, _, _, _, _]) AG_pl107 rfl rfl) ?_
  refine RA.tail ?_
  refine RT.f 11 (by kernel_rfl) rfl rfl rfl (OpG.storeV (b := b2) AG_sz107 rfl rfl rfl rfl (by repeat (first | exact Upd.here | apply Upd.there))) ?_
  rintro _ _
  refine RT.done (by kernel_rfl) ?_
  refine PX.then_n ?_
  refine CT.ret ?_
  refine PX.retC rfl rfl (by repeat (first | exact Has.here | apply Has.there)) AG_ag107 AG_sz107 (by rfl) (fun w' hH => ?_)
  have hm : ∀ e, e ∈ o ↔ sw e ∈ N.es := fun e => by rw [hs.mem e, List.take_length, mem_sw]
  have hll := hs.len
  rw [List.length_map] at hll
  exact ⟨(o, oa, oc), ⟨hs.srt, hm, hll⟩, rfl, (hH.take (.cons .here .nil)).post⟩

theorem AG_go39 : isGo Try.prog 39 = true := by kernel_rfl
theorem AG_go84 : isGo Try.prog 84 = true := by kernel_rfl
set_option maxRecDepth 100000 in
/-- semigroup/semigroupref06.Validate -/
theorem nvalid_spec (w : World) (N : Nv) (hN : Stays [] w (nfm N)) (hv : EdIn N) (hs : Srt N.es) : Calls Try.prog 80 #[nfv N] w (fun e w' => e = .returned (.int .i64 (0)) ∧ Ext [] w w') := by
 have hna : 0 < N.es.length → N.ea.isSome = true := fun h => hN.now.isSome (j := 0) (by rw [flat_len edv_len]; omega)
 have hmv := hv.may
 have hnv := hv.n
 have hlv := hv.len
 refine enter (args := [nfv N]) [] 95 Try.func80 rfl rfl rfl ?_
 refine CT.seq ?_
 refine CT.region ?_
 refine Wl.g rfl rfl (OpG.box (size := 5) rfl rfl rfl) ?_
 rintro b1 _
 refine Wl.q rfl rfl (OpQ.assign rfl) ?_
 refine Wl.nil ?_
 refine PX.then_n ?_
 refine CT.seq ?_
 refine CT.seq ?_
 refine CT.region ?_
 refine Wl.q rfl rfl (OpQ.fieldAddr AG_fa107_0 rfl) ?_
 refine Wl.q rfl rfl (OpQ.loadF (b := b1) AG_sc3 rfl (by repeat (first | exact Has.here | apply Has.there)) (by rfl)) ?_
 refine Wl.g rfl rfl (OpG.callV AG_go39 rfl (fun w hH => may_spec w N.L)) ?_
 rintro _ _
 refine Wl.know 8 (v' := .bool true) rfl (congrArg Value.bool (by rw [mayL, decide_eq_true_eq]; exact hv.may)) ?_
 refine Wl.q rfl rfl (OpQ.not rfl) ?_
 refine Wl.q rfl rfl (OpQ.move rfl) ?_
 refine Wl.q rfl rfl (OpQ.fieldAddr AG_fa107_1 rfl) ?_
 refine Wl.q rfl rfl (OpQ.loadF (b := b1) AG_sc3 rfl (by repeat (first | exact Has.here | apply Has.there)) (by rfl)) ?_
 refine Wl.q rfl rfl (OpQ.lss rfl rfl) ?_
 refine Wl.know 13 (v' := .bool false) rfl (congrArg Value.bool (decide_eq_false (by omega))) ?_
 refine Wl.q rfl rfl (OpQ.pickF rfl rfl) ?_
 refine Wl.q rfl rfl (OpQ.move rfl) ?_
 refine Wl.q rfl rfl (OpQ.fieldAddr AG_fa107_1 rfl) ?_
 refine Wl.q rfl rfl (OpQ.loadF (b := b1) AG_sc3 rfl (by repeat (first | exact Has.here | apply Has.there)) (by rfl)) ?_
 refine Wl.q rfl rfl (OpQ.gtr rfl rfl) ?_
 refine Wl.know 18 (v' := .bool false) rfl (congrArg Value.bool (decide_eq_false (by omega))) ?_
 refine Wl.q rfl rfl (OpQ.pickF rfl rfl) ?_
 refine Wl.nil ?_
 refine PX.then_n ?_
 refine CT.condF rfl ?_
 refine CT.skip ?_
 refine PX.then_n ?_
 refine CT.seq ?_
 refine CT.region ?_
 refine Wl.q rfl rfl (OpQ.fieldAddr AG_fa107_1 rfl) ?_
 refine Wl.q rfl rfl (OpQ.loadF (b := b1) AG_sc3 rfl (by repeat (first | exact Has.here | apply Has.there)) (by rfl)) ?_
 refine Wl.know 21 (v' := .int .i64 ((N.n.toNat : Nat) : Int)) rfl (congrArg (Value.int .i64) (by omega)) ?_
 refine Wl.g rfl rfl (OpG.callV AG_go84 rfl (fun w hH => below_spec w N.n.toNat (by omega))) ?_
 rintro _ _
 refine Wl.q rfl rfl (OpQ.assign rfl) ?_
 refine Wl.nil ?_
 refine PX.then_n ?_
 refine CT.seq ?_
 refine CT.seq ?_
 refine CT.region ?_
 refine Wl.q rfl rfl (OpQ.fieldAddr AG_fa107_2 rfl) ?_
 refine Wl.q rfl rfl (OpQ.loadF (b := b1) AG_sc77 rfl (by repeat (first | exact Has.here | apply Has.there)) (by rfl)) ?_
 refine Wl.q rfl rfl (OpQ.move rfl) ?_
 refine Wl.q rfl rfl (OpQ.uor rfl rfl) ?_
 refine Wl.q rfl rfl (OpQ.move rfl) ?_
 refine Wl.q rfl rfl (OpQ.uneq rfl rfl) ?_
 refine Wl.know 28 (v' := .bool false) rfl (congrArg Value.bool (by rw [or_low (fun j hj hn => hv.st j hj (by omega)), bne_self_eq_false])) ?_
 refine Wl.q rfl rfl (OpQ.move rfl) ?_
 refine Wl.q rfl rfl (OpQ.fieldAddr AG_fa107_3 rfl) ?_
 refine Wl.q rfl rfl (OpQ.loadF (b := b1) AG_sc77 rfl (by repeat (first | exact Has.here | apply Has.there)) (by rfl)) ?_
 refine Wl.q rfl rfl (OpQ.move rfl) ?_
 refine Wl.q rfl rfl (OpQ.uor rfl rfl) ?_
 refine Wl.q rfl rfl (OpQ.move rfl) ?_
 refine Wl.q rfl rfl (OpQ.uneq rfl rfl) ?_
 refine Wl.know 35 (v' := .bool false) rfl (congrArg Value.bool (by rw [or_low (fun j hj hn => hv.fi j hj (by omega)), bne_self_eq_false])) ?_
 refine Wl.q rfl rfl (OpQ.pickF rfl rfl) ?_
 refine Wl.nil ?_
 refine PX.then_n ?_
 refine CT.condF rfl ?_
 refine CT.skip ?_
 refine PX.then_n ?_
 refine CT.seq ?_
 refine CT.seq ?_
 refine CT.region ?_
 refine Wl.q rfl rfl (OpQ.fieldAddr AG_fa107_4 rfl) ?_
 refine Wl.q rfl rfl (OpQ.loadF (b := b1) AG_sc105 rfl (by repeat (first | exact Has.here | apply Has.there)) (by rfl)) ?_
 refine Wl.q rfl rfl (OpQ.len AG_un105 rfl) ?_
 refine Wl.q rfl rfl (OpQ.move rfl) ?_
 refine Wl.nil ?_
 refine PX.then_n ?_
 refine CT.block ?_
 refine CT.loop (ι := Nat) (fun k => k ≤ N.es.length) (fun k => [(1, .pointer (some ⟨b1, 0, none⟩)), (38, .slice N.ea N.es.length N.ec), (39, .int .i64 ((N.es.length : Nat) : Int)), (40, .int .i64 ((k : Nat) : Int))]) (fun _ => [.row 107 5 (vb b1) 1 (nfc N)]) (fun k => N.es.length - k) 0 (Nat.zero_le _) ⟨rfl, rfl, rfl, rfl, trivial⟩ (HSub.refl _) (fun k hk K0 hK0 => ?_)
 refine CT.seq ?_
 refine CT.region ?_
 refine Wl.q rfl rfl (OpQ.lss rfl rfl) ?_
 refine Wl.nil ?_
 refine PX.then_n ?_
 refine CT.seq ?_
 refine CT.cond rfl (fun h41 => ?_) (fun h41 => ?_)
 ·
  have h41 := of_decide_eq_true h41
  have hkl : k < N.es.length := by omega
  have he := hv.ed (N.es.getD k ed0) (getDm hkl)
  refine CT.skip ?_
  refine PX.then_n ?_
  refine CT.seq ?_
  refine CT.block ?_
  refine CT.seq ?_
  refine CT.region ?_
  refine Wl.q rfl rfl (OpQ.move rfl) ?_
  refine Wl.q rfl rfl (OpQ.index AG_un105 AG_sz129 rfl rfl (by omega) (hna (by omega))) ?_
  refine Wl.q rfl rfl (OpQ.loadAggG (cs := (edv (N.es.getD k ed0))) AG_ag129 AG_sz129 rfl (fun w hH => hH.use hN) (flat_cells edv_len N.es ed0 (by omega))) ?_
  refine Wl.g rfl rfl (OpG.alloc (zs := [.int .i64 0, .int .i64 0, .int .i64 0]) AG_in129 rfl rfl) ?_
  rintro b5 _
  refine Wl.q rfl rfl (OpQ.assign rfl) ?_
  refine Wl.g rfl rfl (OpG.storeV (b := b5) AG_sz129 rfl rfl rfl rfl (by repeat (first | exact Upd.here | apply Upd.there))) ?_
  rintro _ _
  refine Wl.nil ?_
  refine PX.then_n ?_
  refine CT.seq ?_
  refine CT.draw 49 AG_mixed ?_
  refine RA.q 0 (by kernel_rfl) rfl rfl rfl (.refl _) (OpQ.fieldAddr AG_fa129_0 rfl) ?_
  refine RA.q 1 (by kernel_rfl) rfl rfl rfl (.refl _) (OpQ.loadF (b := b5) AG_sc3 rfl (by repeat (first | exact Has.here | apply Has.there)) (by rfl)) ?_
  refine RA.q 2 (by kernel_rfl) rfl rfl rfl (.refl _) (OpQ.lss rfl rfl) ?_
  refine RA.know 47 (v' := .bool false) rfl (congrArg Value.bool (decide_eq_false (by omega))) ?_
  refine RA.q 3 (by kernel_rfl) rfl rfl rfl (.refl _) (OpQ.move rfl) ?_
  refine RA.q 4 (by kernel_rfl) rfl rfl rfl (.refl _) (OpQ.fieldAddr AG_fa129_0 rfl) ?_
  refine RA.q 5 (by kernel_rfl) rfl rfl rfl (.refl _) (OpQ.loadF (b := b5) AG_sc3 rfl (by repeat (first | exact Has.here | apply Has.there)) (by rfl)) ?_
  refine RA.q 6 (by kernel_rfl) rfl rfl rfl (.refl _) (OpQ.fieldAddr AG_fa107_1 rfl) ?_
  refine RA.q 7 (by kernel_rfl) rfl rfl rfl (.refl _) (OpQ.loadF (b := b1) AG_sc3 rfl (by repeat (first | exact Has.here | apply Has.there)) (by rfl)) ?_
  refine RA.q 8 (by kernel_rfl) rfl rfl rfl (.refl _) (OpQ.geq rfl rfl) ?_
  refine RA.know 53 (v' := .bool false) rfl (congrArg Value.bool (decide_eq_false (by omega))) ?_
  refine RA.q 9 (by kernel_rfl) rfl rfl rfl (.refl _) (OpQ.pickF rfl rfl) ?_
  refine RA.q 10 (by kernel_rfl) rfl rfl rfl (.refl _) (OpQ.move rfl) ?_
  refine RA.q 11 (by kernel_rfl) rfl rfl rfl (.refl _) (OpQ.fieldAddr AG_fa129_2 rfl) ?_
  refine RA.q 12 (by kernel_rfl) rfl rfl rfl (.refl _) (OpQ.loadF (b := b5) AG_sc3 rfl (by repeat (first | exact Has.here | apply Has.there)) (by rfl)) ?_
  refine RA.q 13 (by kernel_rfl) rfl rfl rfl (.refl _) (OpQ.lss rfl rfl) ?_
  refine RA.know 58 (v' := .bool false) rfl (congrArg Value.bool (decide_eq_false (by omega))) ?_
  refine RA.q 14 (by kernel_rfl) rfl rfl rfl (.refl _) (OpQ.pickF rfl rfl) ?_
  refine RA.q 15 (by kernel_rfl) rfl rfl rfl (.refl _) (OpQ.move rfl) ?_
  refine RA.q 16 (by kernel_rfl) rfl rfl rfl (.refl _) (OpQ.fieldAddr AG_fa129_2 rfl) ?_
  refine RA.q 17 (by kernel_rfl) rfl rfl rfl (.refl _) (OpQ.loadF (b := b5) AG_sc3 rfl (by repeat (first | exact Has.here | apply Has.there)) (by rfl)) ?_
  refine RA.q 18 (by kernel_rfl) rfl rfl rfl (.refl _) (OpQ.fieldAddr AG_fa107_1 rfl) ?_
  refine RA.q 19 (by kernel_rfl) rfl rfl rfl (.refl _) (OpQ.loadF (b := b1) AG_sc3 rfl (by repeat (first | exact Has.here | apply Has.there)) (by rfl)) ?_
  refine RA.q 20 (by kernel_rfl) rfl rfl rfl (.refl _) (OpQ.geq rfl rfl) ?_
  refine RA.know 65 (v' := .bool false) rfl (congrArg Value.bool (decide_eq_false (by omega))) ?_
  refine RA.q 21 (by kernel_rfl) rfl rfl rfl (.refl _) (OpQ.pickF rfl rfl) ?_
  refine RA.q 22 (by kernel_rfl) rfl rfl rfl (.refl _) (OpQ.move rfl) ?_
  refine RA.q 23 (by kernel_rfl) rfl rfl rfl (.refl _) (OpQ.fieldAddr AG_fa129_1 rfl) ?_
  refine RA.q 24 (by kernel_rfl) rfl rfl rfl (.refl _) (OpQ.loadF (b := b5) AG_sc3 rfl (by repeat (first | exact Has.here | apply Has.there)) (by rfl)) ?_
  refine RA.q 25 (by kernel_rfl) rfl rfl rfl (.refl _) (OpQ.lss rfl rfl) ?_
  refine RA.know 70 (v' := .bool false) rfl (congrArg Value.bool (decide_eq_false (by omega))) ?_
  refine RA.q 26 (by kernel_rfl) rfl rfl rfl (.refl _) (OpQ.pickF rfl rfl) ?_
  refine RA.q 27 (by kernel_rfl) rfl rfl rfl (.refl _) (OpQ.move rfl) ?_
  refine RA.q 28 (by kernel_rfl) rfl rfl rfl (.refl _) (OpQ.fieldAddr AG_fa129_1 rfl) ?_
  refine RA.q 29 (by kernel_rfl) rfl rfl rfl (.refl _) (OpQ.loadF (b := b5) AG_sc3 rfl (by repeat (first | exact Has.here | apply Has.there)) (by rfl)) ?_
  refine RA.q 30 (by kernel_rfl) rfl rfl rfl (.refl _) (OpQ.fieldAddr AG_fa107_0 rfl) ?_
  refine RA.q 31 (by kernel_rfl) rfl rfl rfl (.refl _) (OpQ.loadF (b := b1) AG_sc3 rfl (by repeat (first | exact Has.here | apply Has.there)) (by rfl)) ?_
  refine RA.q 32 (by kernel_rfl) rfl rfl rfl (.refl _) (OpQ.geq rfl rfl) ?_
  refine RA.know 77 (v' := .bool false) rfl (congrArg Value.bool (decide_eq_false (by omega))) ?_
  refine RA.q 33 (by kernel_rfl) rfl rfl rfl (.refl _) (OpQ.pickF rfl rfl) ?_
  refine RA.q 34 (by kernel_rfl) rfl rfl rfl (.refl _) (OpQ.move rfl) ?_
  refine RA.q 35 (by kernel_rfl) rfl rfl rfl (.refl _) (OpQ.move rfl) ?_
  refine RA.q 36 (by kernel_rfl) rfl rfl rfl (.refl _) (OpQ.gtr rfl rfl) ?_
  refine RA.q 37 (by kernel_rfl) rfl rfl rfl (.refl _) (OpQ.move rfl) ?_
  refine RA.split 82 rfl (fun hg82 => ?_) (fun hg82 => ?_)
  ·
   have hg82 := of_decide_eq_true hg82
   refine RA.q 38 (by kernel_rfl) rfl rfl rfl (.refl _) (OpQ.fieldAddr AG_fa107_4 rfl) ?_
   refine RA.q 39 (by kernel_rfl) rfl rfl rfl (.refl _) (OpQ.loadF (b := b1) AG_sc105 rfl (by repeat (first | exact Has.here | apply Has.there)) (by rfl)) ?_
   refine RA.q 40 (by kernel_rfl) rfl rfl rfl (.refl _) (OpQ.move rfl) ?_
   refine RA.q 41 (by kernel_rfl) rfl rfl rfl (.refl _) (OpQ.sub rfl rfl (by omega)) ?_
   refine RA.know 86 (v' := .int .i64 (((k - 1) : Nat) : Int)) rfl (congrArg (Value.int .i64) (by omega)) ?_
   refine RA.q 42 (by kernel_rfl) rfl rfl rfl (.refl _) (OpQ.index AG_un105 AG_sz129 rfl rfl (by omega) (hna (by omega))) ?_
   refine RA.q 43 (by kernel_rfl) rfl rfl rfl (.refl _) (OpQ.loadAggG (cs := (edv (N.es.getD (k - 1) ed0))) AG_ag129 AG_sz129 rfl (fun w hH => hH.use hN) (flat_cells edv_len N.es ed0 (by omega))) ?_
   refine RA.q 44 (by kernel_rfl) rfl rfl rfl (.refl _) (OpQ.loadV (b := b5) AG_ag129 AG_sz129 rfl (by repeat (first | exact Has.here | apply Has.there)) (by rfl)) ?_
   refine RA.f 45 (by kernel_rfl) rfl rfl rfl (OpG.callV AG_go79 rfl (fun w hH => ebefore_spec w (N.es.getD (k - 1) ed0) (N.es.getD k ed0))) (fun _ _ => (.refl _)) ?_
   rintro _ _
   refine RA.know 90 (v' := .bool true) rfl (congrArg Value.bool (by have := List.pairwise_iff_getElem.1 hs (k - 1) k (by omega) hkl (by omega); simpa [List.getD_eq_getElem?_getD, hkl, show k - 1 < N.es.length by omega] using this)) ?_
   refine RA.q 46 (by kernel_rfl) rfl rfl rfl (.refl _) (OpQ.not rfl) ?_
   refine RA.q 47 (by kernel_rfl) rfl rfl rfl (.refl _) (OpQ.pickT rfl rfl) ?_
   refine RA.q 48 (by kernel_rfl) rfl rfl rfl (.refl _) (OpQ.pickF rfl rfl) ?_
   refine RA.tail ?_
   refine RT.done (by kernel_rfl) ?_
   refine PX.then_n ?_
   refine CT.condF rfl ?_
   refine CT.skip ?_
   refine PX.block_n ?_
   refine PX.then_n ?_
   refine CT.region ?_
   refine Wl.q rfl rfl (OpQ.add rfl rfl (by omega)) ?_
   refine Wl.q rfl rfl (OpQ.move rfl) ?_
   refine Wl.nil ?_
   refine PX.as (fun _ h => h.take (.cons (.there .here) .nil)) ?_
   exact PX.loop hK0 (k + 1) (by omega) (by first | omega | (dsimp only; omega)) ⟨rfl, rfl, rfl, rfl, trivial⟩ (HSub.refl _)
  ·
   have hg82 := of_decide_eq_false hg82
   refine RA.skip 38 (by kernel_rfl) rfl rfl rfl (.refl _) ?_
   refine RA.skip 39 (by kernel_rfl) rfl rfl rfl (.refl _) ?_
   refine RA.skip 40 (by kernel_rfl) rfl rfl rfl (.refl _) ?_
   refine RA.skip 41 (by kernel_rfl) rfl rfl rfl (.refl _) ?_
   refine RA.skip 42 (by kernel_rfl) rfl rfl rfl (.refl _) ?_
   refine RA.skip 43 (by kernel_rfl) rfl rfl rfl (.refl _) ?_
   refine RA.skip 44 (by kernel_rfl) rfl rfl rfl (.refl _) ?_
   refine RA.skip 45 (by kernel_rfl) rfl rfl rfl (.refl _) ?_
   refine RA.skip 46 (by kernel_rfl) rfl rfl rfl (.refl _) ?_
   refine RA.q 47 (by kernel_rfl) rfl rfl rfl (.refl _) (OpQ.pickF rfl rfl) ?_
   refine RA.q 48 (by kernel_rfl) rfl rfl rfl (.refl _) (OpQ.pickF rfl rfl) ?_
   refine RA.tail ?_
   refine RT.done (by kernel_rfl) ?_
   refine PX.then_n ?_
   refine CT.condF rfl ?_
   refine CT.skip ?_
   refine PX.block_n ?_
   refine PX.then_n ?_
   refine CT.region ?_
   refine Wl.q rfl rfl (OpQ.add rfl rfl (by omega)) ?_
   refine Wl.q rfl rfl (OpQ.move rfl) ?_
   refine Wl.nil ?_
   refine PX.as (fun _ h => h.take (.cons (.there .here) .nil)) ?_
   exact PX.loop hK0 (k + 1) (by omega) (by first | omega | (dsimp only; omega)) ⟨rfl, rfl, rfl, rfl, trivial⟩ (HSub.refl _)
 ·
  have h41 := of_decide_eq_false h41
  refine CT.exit ?_
  refine PX.then_x ?_
  refine PX.then_x ?_
  refine PX.block_x ?_
  refine PX.then_n ?_
  refine CT.seq ?_
  refine CT.region ?_
  refine Wl.q rfl rfl (OpQ.assign rfl) ?_
  refine Wl.nil ?_
  refine PX.then_n ?_
  refine CT.ret ?_
  refine PX.ret1 rfl rfl (fun w' hH => ?_)
  exact ⟨rfl, hH.ext⟩

theorem AG_go85 : isGo Try.prog 85 = true := by kernel_rfl
theorem AG_go74 : isGo Try.prog 74 = true := by kernel_rfl
set_option maxRecDepth 100000 in
/-- semigroup/semigroupref06.Step -/
theorem nstep_spec (w : World) (N : Nv) (hN : Stays [] w (nfm N)) (hv : EdIn N) (s : W64) (x : Nat) : Calls Try.prog 81 #[nfv N, u (s), .int .i64 ((x : Nat) : Int)] w (fun e w' => e = .returned (u (stp N.es s x)) ∧ Ext [] w w') := by
 have hna : 0 < N.es.length → N.ea.isSome = true := fun h => hN.now.isSome (j := 0) (by rw [flat_len edv_len]; omega)
 have hlv := hv.len
 have hnv := hv.n
 refine enter (args := [nfv N, u (s), .int .i64 ((x : Nat) : Int)]) [] 34 Try.func81 rfl rfl rfl ?_
 refine CT.seq ?_
 refine CT.region ?_
 refine Wl.g rfl rfl (OpG.box (size := 5) rfl rfl rfl) ?_
 rintro b3 _
 refine Wl.q rfl rfl (OpQ.assign rfl) ?_
 refine Wl.nil ?_
 refine PX.then_n ?_
 refine CT.seq ?_
 refine CT.region ?_
 refine Wl.q rfl rfl (OpQ.assign rfl) ?_
 refine Wl.nil ?_
 refine PX.then_n ?_
 refine CT.seq ?_
 refine CT.seq ?_
 refine CT.region ?_
 refine Wl.q rfl rfl (OpQ.fieldAddr AG_fa107_4 rfl) ?_
 refine Wl.q rfl rfl (OpQ.loadF (b := b3) AG_sc105 rfl (by repeat (first | exact Has.here | apply Has.there)) (by rfl)) ?_
 refine Wl.q rfl rfl (OpQ.len AG_un105 rfl) ?_
 refine Wl.q rfl rfl (OpQ.move rfl) ?_
 refine Wl.nil ?_
 refine PX.then_n ?_
 refine CT.block ?_
 refine CT.loop (ι := Nat) (fun k => k ≤ N.es.length) (fun k => [(1, u (s)), (2, .int .i64 ((x : Nat) : Int)), (7, u ((stp (N.es.take k) s x))), (11, .slice N.ea N.es.length N.ec), (12, .int .i64 ((N.es.length : Nat) : Int)), (13, .int .i64 ((k : Nat) : Int))]) (fun _ => []) (fun k => N.es.length - k) 0 (Nat.zero_le _) ⟨rfl, rfl, rfl, rfl, rfl, rfl, trivial⟩ (HSub.none _) (fun k hk K0 hK0 => ?_)
 refine CT.seq ?_
 refine CT.region ?_
 refine Wl.q rfl rfl (OpQ.lss rfl rfl) ?_
 refine Wl.nil ?_
 refine PX.then_n ?_
 refine CT.seq ?_
 refine CT.cond rfl (fun h14 => ?_) (fun h14 => ?_)
 ·
  have h14 := of_decide_eq_true h14
  have hkl : k < N.es.length := by omega
  have he := hv.ed (N.es.getD k ed0) (getDm hkl)
  refine CT.skip ?_
  refine PX.then_n ?_
  refine CT.seq ?_
  refine CT.block ?_
  refine CT.seq ?_
  refine CT.region ?_
  refine Wl.q rfl rfl (OpQ.index AG_un105 AG_sz129 rfl rfl (by omega) (hna (by omega))) ?_
  refine Wl.q rfl rfl (OpQ.loadAggG (cs := (edv (N.es.getD k ed0))) AG_ag129 AG_sz129 rfl (fun w hH => hH.use hN) (flat_cells edv_len N.es ed0 (by omega))) ?_
  refine Wl.g rfl rfl (OpG.alloc (zs := [.int .i64 0, .int .i64 0, .int .i64 0]) AG_in129 rfl rfl) ?_
  rintro b9 _
  refine Wl.g rfl rfl (OpG.storeV (b := b9) AG_sz129 rfl rfl rfl rfl (by repeat (first | exact Upd.here | apply Upd.there))) ?_
  rintro _ _
  refine Wl.nil ?_
  refine PX.then_n ?_
  refine CT.seq ?_
  refine CT.region ?_
  refine Wl.q rfl rfl (OpQ.fieldAddr AG_fa129_1 rfl) ?_
  refine Wl.q rfl rfl (OpQ.loadF (b := b9) AG_sc3 rfl (by repeat (first | exact Has.here | apply Has.there)) (by rfl)) ?_
  refine Wl.q rfl rfl (OpQ.move rfl) ?_
  refine Wl.q rfl rfl (OpQ.eql rfl rfl) ?_
  refine Wl.q rfl rfl (OpQ.move rfl) ?_
  refine Wl.split 21 rfl (fun hg21 => ?_) (fun hg21 => ?_)
  ·
   have hg20 := of_decide_eq_true hg21
   refine Wl.q rfl rfl (OpQ.move rfl) ?_
   refine Wl.q rfl rfl (OpQ.fieldAddr AG_fa129_0 rfl) ?_
   refine Wl.q rfl rfl (OpQ.loadF (b := b9) AG_sc3 rfl (by repeat (first | exact Has.here | apply Has.there)) (by rfl)) ?_
   refine Wl.know 24 (v' := .int .i64 (((N.es.getD k ed0).fr.toNat : Nat) : Int)) rfl (congrArg (Value.int .i64) (by omega)) ?_
   refine Wl.g rfl rfl (OpG.callV AG_go85 rfl (fun w hH => ehas_spec w s (N.es.getD k ed0).fr.toNat (by omega))) ?_
   rintro _ _
   refine Wl.q rfl rfl (OpQ.pickT rfl rfl) ?_
   refine Wl.nil ?_
   refine PX.then_n ?_
   refine CT.cond rfl (fun h26 => ?_) (fun h26 => ?_)
   ·
    refine CT.region ?_
    refine Wl.q rfl rfl (OpQ.move rfl) ?_
    refine Wl.q rfl rfl (OpQ.fieldAddr AG_fa129_2 rfl) ?_
    refine Wl.q rfl rfl (OpQ.loadF (b := b9) AG_sc3 rfl (by repeat (first | exact Has.here | apply Has.there)) (by rfl)) ?_
    refine Wl.know 29 (v' := .int .i64 (((N.es.getD k ed0).to.toNat : Nat) : Int)) rfl (congrArg (Value.int .i64) (by omega)) ?_
    refine Wl.g rfl rfl (OpG.callV AG_go74 rfl (fun w hH => bit_spec w (N.es.getD k ed0).to.toNat (by omega))) ?_
    rintro _ _
    refine Wl.q rfl rfl (OpQ.uor rfl rfl) ?_
    refine Wl.q rfl rfl (OpQ.assign rfl) ?_
    refine Wl.nil ?_
    refine PX.block_n ?_
    refine PX.then_n ?_
    refine CT.region ?_
    refine Wl.q rfl rfl (OpQ.add rfl rfl (by omega)) ?_
    refine Wl.q rfl rfl (OpQ.move rfl) ?_
    refine Wl.nil ?_
    have hst := stp_take (s := s) (x := x) (show k < N.es.length by omega)
    rw [if_pos ⟨hg20, h26⟩] at hst
    exact PX.loop hK0 (k + 1) (by omega) (by first | omega | (dsimp only; omega)) ⟨rfl, rfl, (lkV rfl (by rw [hst])), rfl, rfl, rfl, trivial⟩ (HSub.none _)
   ·
    refine CT.skip ?_
    refine PX.block_n ?_
    refine PX.then_n ?_
    refine CT.region ?_
    refine Wl.q rfl rfl (OpQ.add rfl rfl (by omega)) ?_
    refine Wl.q rfl rfl (OpQ.move rfl) ?_
    refine Wl.nil ?_
    have hst := stp_take (s := s) (x := x) (show k < N.es.length by omega)
    rw [if_neg (fun h => by rw [h.2] at h26; cases h26)] at hst
    exact PX.loop hK0 (k + 1) (by omega) (by first | omega | (dsimp only; omega)) ⟨rfl, rfl, (lkV rfl (by rw [hst])), rfl, rfl, rfl, trivial⟩ (HSub.none _)
  ·
   have hg20 := of_decide_eq_false hg21
   refine Wl.skip rfl rfl ?_
   refine Wl.skip rfl rfl ?_
   refine Wl.skip rfl rfl ?_
   refine Wl.skip rfl rfl ?_
   refine Wl.q rfl rfl (OpQ.pickF rfl rfl) ?_
   refine Wl.nil ?_
   refine PX.then_n ?_
   refine CT.condF rfl ?_
   refine CT.skip ?_
   refine PX.block_n ?_
   refine PX.then_n ?_
   refine CT.region ?_
   refine Wl.q rfl rfl (OpQ.add rfl rfl (by omega)) ?_
   refine Wl.q rfl rfl (OpQ.move rfl) ?_
   refine Wl.nil ?_
   have hst := stp_take (s := s) (x := x) (show k < N.es.length by omega)
   rw [if_neg (fun h => hg20 h.1)] at hst
   exact PX.loop hK0 (k + 1) (by omega) (by first | omega | (dsimp only; omega)) ⟨rfl, rfl, (lkV rfl (by rw [hst])), rfl, rfl, rfl, trivial⟩ (HSub.none _)
 ·
  have h14 := of_decide_eq_false h14
  obtain rfl : k = N.es.length := by omega
  refine CT.exit ?_
  refine PX.then_x ?_
  refine PX.then_x ?_
  refine PX.block_x ?_
  refine PX.then_n ?_
  refine CT.seq ?_
  refine CT.region ?_
  refine Wl.q rfl rfl (OpQ.move rfl) ?_
  refine Wl.q rfl rfl (OpQ.assign rfl) ?_
  refine Wl.nil ?_
  refine PX.then_n ?_
  refine CT.ret ?_
  refine PX.ret1 rfl rfl (fun w' hH => ?_)
  exact ⟨by rw [List.take_length], hH.ext⟩

end Go.Proofs.Ytlmbcdjmdgbmjaa

