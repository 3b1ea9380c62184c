/-
  What functions of the program compute, each by its walk. Conditions: those that each theorem names.
-/
import Derived.Test.YtamolakhpcofhaaMod1
import Derived.Test.YtamolakhpcofhaaXE20
import Derived.Test.YtamolakhpcofhaaXE1
import Derived.Test.YtamolakhpcofhaaXC1
import Derived.Test.YtamolakhpcofhaaXE7
import Derived.Test.YtamolakhpcofhaaXF
set_option linter.unusedSimpArgs false
namespace Go.Proofs.Ytamolakhpcofhaa
open Go Go.Eng Go.Am Go.Sq
open Go.Tp (zi)
open Go.Tl (mayL Wd okW okB bo)

set_option maxRecDepth 100000 in
/-- semigroup/semigroupref42.common -/
theorem commonR_spec (w : World) (s t : Wd) (hs : s.length ≤ 1000000000) : Calls Try.prog 81 #[sv s, sv t] w (fun e w' => e = .returned (sv (cm s t)) ∧ Ext [] w w') := by
 refine enter (args := [sv s, sv t]) [] 30 Try.func81 rfl rfl rfl ?_
 refine CT.seq (CT.region ?_)
 refine Wl.q rfl rfl (OpQ.assign rfl) ?_
 refine Wl.nil (PX.then_n (CT.seq (CT.region ?_)))
 refine Wl.q rfl rfl (OpQ.assign rfl) ?_
 refine Wl.nil (PX.then_n (CT.seq (CT.block ?_)))
 refine CT.loop (ι := Nat) (fun k => k ≤ s.length ∧ k ≤ t.length ∧ s.take k = t.take k) (fun k => [(0, sv s), (1, sv t), (5, .int .i64 ((k : Nat) : Int))]) (fun _ => []) (fun k => s.length - k) 0 ⟨Nat.zero_le _, Nat.zero_le _, rfl⟩ ⟨rfl, rfl, rfl, trivial⟩ (HSub.none _) (fun k ⟨hk1, hk2, hke⟩ K0 hK0 => ?_)
 refine CT.seq (CT.seq ?_)
 refine CT.draw 19 zf6 ?_
 refine RA.q 0 (by kernel_rfl) rfl rfl rfl (.refl _) (OpQ.move rfl) ?_
 refine RA.q 1 (by kernel_rfl) rfl rfl rfl (.refl _) (OpQ.move rfl) ?_
 refine RA.q 2 (by kernel_rfl) rfl rfl rfl (.refl _) (OpQ.lenSv zf4 rfl) ?_
 refine RA.q 3 (by kernel_rfl) rfl rfl rfl (.refl _) (OpQ.lss rfl rfl) ?_
 refine RA.q 4 (by kernel_rfl) rfl rfl rfl (.refl _) (OpQ.move rfl) ?_
 refine RA.split 10 rfl (fun hg10 => ?_) (fun hg10 => ?_)
 ·
  have hg10 := of_decide_eq_true hg10
  refine RA.q 5 (by kernel_rfl) rfl rfl rfl (.refl _) (OpQ.move rfl) ?_
  refine RA.q 6 (by kernel_rfl) rfl rfl rfl (.refl _) (OpQ.move rfl) ?_
  refine RA.q 7 (by kernel_rfl) rfl rfl rfl (.refl _) (OpQ.lenSv zf4 rfl) ?_
  refine RA.q 8 (by kernel_rfl) rfl rfl rfl (.refl _) (OpQ.lss rfl rfl) ?_
  refine RA.q 9 (by kernel_rfl) rfl rfl rfl (.refl _) (OpQ.pickT rfl rfl) ?_
  refine RA.q 10 (by kernel_rfl) rfl rfl rfl (.refl _) (OpQ.move rfl) ?_
  refine RA.split 16 rfl (fun hg16 => ?_) (fun hg16 => ?_)
  ·
   have hg16 := of_decide_eq_true hg16
   refine RA.q 11 (by kernel_rfl) rfl rfl rfl (.refl _) (OpQ.move rfl) ?_
   refine RA.q 12 (by kernel_rfl) rfl rfl rfl (.refl _) (OpQ.move rfl) ?_
   refine RA.q 13 (by kernel_rfl) rfl rfl rfl (.refl _) (OpQ.indexSvN zf4 rfl rfl (by omega)) ?_
   refine RA.q 14 (by kernel_rfl) rfl rfl rfl (.refl _) (OpQ.move rfl) ?_
   refine RA.q 15 (by kernel_rfl) rfl rfl rfl (.refl _) (OpQ.move rfl) ?_
   refine RA.q 16 (by kernel_rfl) rfl rfl rfl (.refl _) (OpQ.indexSvN zf4 rfl rfl (by omega)) ?_
   refine RA.q 17 (by kernel_rfl) rfl rfl rfl (.refl _) (OpQ.eql rfl rfl) ?_
   refine RA.q 18 (by kernel_rfl) rfl rfl rfl (.refl _) (OpQ.pickT rfl rfl) ?_
   refine RA.tail ?_
   refine RT.done (by kernel_rfl) ?_
   refine PX.then_n ?_
   refine CT.cond rfl (fun h24 => ?_) (fun h24 => ?_)
   ·
    have h24 := of_decide_eq_true h24
    have heq : s.getD k 0 = t.getD k 0 := UInt8.toNat.inj (by have := h24; omega)
    refine CT.skip (PX.then_n (CT.block (CT.region ?_)))
    refine Wl.q rfl rfl (OpQ.move rfl) ?_
    refine Wl.q rfl rfl (OpQ.add rfl rfl (by omega)) ?_
    refine Wl.q rfl rfl (OpQ.assign rfl) ?_
    refine Wl.nil (PX.block_n ?_)
    exact PX.loop hK0 (k + 1) ⟨by omega, by omega, take_next hke (by omega) (by omega) heq⟩ (by first | omega | (dsimp only; omega)) ⟨rfl, rfl, rfl, trivial⟩ (HSub.none _)
   ·
    have h24 := of_decide_eq_false h24
    have hstop : ¬ (k < s.length ∧ k < t.length ∧ s.getD k 0 = t.getD k 0) := fun ⟨h1, h2, h3⟩ => h24 (by rw [h3])
    refine CT.exit (PX.then_x (PX.then_x (PX.block_x (PX.then_n (CT.seq (CT.region ?_))))))
    refine Wl.q rfl rfl (OpQ.move rfl) ?_
    refine Wl.q rfl rfl (OpQ.move rfl) ?_
    refine Wl.q rfl rfl (OpQ.sliceSH zf4 rfl rfl (by omega)) ?_
    refine Wl.q rfl rfl (OpQ.assign rfl) ?_
    refine Wl.nil (PX.then_n (CT.ret ?_))
    refine PX.ret1 rfl rfl (fun w' hH => ?_)
    exact ⟨by rw [cm_at k s t hke hk1 hk2 hstop], hH.ext⟩
  ·
   have hg16 := of_decide_eq_false hg16
   have hstop : ¬ (k < s.length ∧ k < t.length ∧ s.getD k 0 = t.getD k 0) := fun ⟨h1, h2, h3⟩ => by omega
   refine RA.skip 11 (by kernel_rfl) rfl rfl rfl (.refl _) ?_
   refine RA.skip 12 (by kernel_rfl) rfl rfl rfl (.refl _) ?_
   refine RA.skip 13 (by kernel_rfl) rfl rfl rfl (.refl _) ?_
   refine RA.skip 14 (by kernel_rfl) rfl rfl rfl (.refl _) ?_
   refine RA.skip 15 (by kernel_rfl) rfl rfl rfl (.refl _) ?_
   refine RA.skip 16 (by kernel_rfl) rfl rfl rfl (.refl _) ?_
   refine RA.skip 17 (by kernel_rfl) rfl rfl rfl (.refl _) ?_
   refine RA.q 18 (by kernel_rfl) rfl rfl rfl (.refl _) (OpQ.pickF rfl rfl) ?_
   refine RA.tail ?_
   refine RT.done (by kernel_rfl) ?_
   refine PX.then_n ?_
   refine CT.condF rfl ?_
   refine CT.exit (PX.then_x (PX.then_x (PX.block_x (PX.then_n (CT.seq (CT.region ?_))))))
   refine Wl.q rfl rfl (OpQ.move rfl) ?_
   refine Wl.q rfl rfl (OpQ.move rfl) ?_
   refine Wl.q rfl rfl (OpQ.sliceSH zf4 rfl rfl (by omega)) ?_
   refine Wl.q rfl rfl (OpQ.assign rfl) ?_
   refine Wl.nil (PX.then_n (CT.ret ?_))
   refine PX.ret1 rfl rfl (fun w' hH => ?_)
   exact ⟨by rw [cm_at k s t hke hk1 hk2 hstop], hH.ext⟩
 ·
  have hg10 := of_decide_eq_false hg10
  have hstop : ¬ (k < s.length ∧ k < t.length ∧ s.getD k 0 = t.getD k 0) := fun ⟨h1, h2, h3⟩ => by omega
  refine RA.skip 5 (by kernel_rfl) rfl rfl rfl (.refl _) ?_
  refine RA.skip 6 (by kernel_rfl) rfl rfl rfl (.refl _) ?_
  refine RA.skip 7 (by kernel_rfl) rfl rfl rfl (.refl _) ?_
  refine RA.skip 8 (by kernel_rfl) rfl rfl rfl (.refl _) ?_
  refine RA.q 9 (by kernel_rfl) rfl rfl rfl (.refl _) (OpQ.pickF rfl rfl) ?_
  refine RA.q 10 (by kernel_rfl) rfl rfl rfl (.refl _) (OpQ.move rfl) ?_
  refine RA.skip 11 (by kernel_rfl) rfl rfl rfl (.refl _) ?_
  refine RA.skip 12 (by kernel_rfl) rfl rfl rfl (.refl _) ?_
  refine RA.skip 13 (by kernel_rfl) rfl rfl rfl (.refl _) ?_
  refine RA.skip 14 (by kernel_rfl) rfl rfl rfl (.refl _) ?_
  refine RA.skip 15 (by kernel_rfl) rfl rfl rfl (.refl _) ?_
  refine RA.skip 16 (by kernel_rfl) rfl rfl rfl (.refl _) ?_
  refine RA.skip 17 (by kernel_rfl) rfl rfl rfl (.refl _) ?_
  refine RA.q 18 (by kernel_rfl) rfl rfl rfl (.refl _) (OpQ.pickF rfl rfl) ?_
  refine RA.tail ?_
  refine RT.done (by kernel_rfl) ?_
  refine PX.then_n ?_
  refine CT.condF rfl ?_
  refine CT.exit (PX.then_x (PX.then_x (PX.block_x (PX.then_n (CT.seq (CT.region ?_))))))
  refine Wl.q rfl rfl (OpQ.move rfl) ?_
  refine Wl.q rfl rfl (OpQ.move rfl) ?_
  refine Wl.q rfl rfl (OpQ.sliceSH zf4 rfl rfl (by omega)) ?_
  refine Wl.q rfl rfl (OpQ.assign rfl) ?_
  refine Wl.nil (PX.then_n (CT.ret ?_))
  refine PX.ret1 rfl rfl (fun w' hH => ?_)
  exact ⟨by rw [cm_at k s t hke hk1 hk2 hstop], hH.ext⟩

set_option maxRecDepth 100000 in
/-- semigroup/semigroupref42.Apply -/
theorem applyR_spec (w : World) (S : Sv) (hS : Stays [] w (svm S)) (hv : S.sq.Ok 4096) {M : Nat} (hvM : S.sq.Ok M) (ws : Wd) (hws : okW ws S.L = true) (hl : ws.length * M ≤ 4096) : Calls Try.prog 23 #[svv S, sv ws] w (fun e w' => e = .returned (.tuple #[sv (apv (S.sq.value (wl ws))).1, .bool (apv (S.sq.value (wl ws))).2]) ∧ Ext [] w w') := by
 obtain ⟨hb1, hb2, hb3, hb4⟩ := hv.bnd
 obtain ⟨hlo, hle, hlf⟩ := hv.lens
 have hns : 0 < S.rs.length → S.na.isSome = true := fun h => hS.now.n.isSome (j := 0) (by rw [List.length_map]; exact h)
 have hos : 0 < S.os.length → S.oa.isSome = true := fun h => hS.now.o.isSome (j := 0) (by rw [List.length_map]; exact h)
 have hes : 0 < S.en.length → S.ea.isSome = true := fun h => hS.now.e.isSome (j := 0) (by rw [List.length_map]; exact h)
 have hfs : 0 < S.fi.length → S.fa.isSome = true := fun h => hS.now.f.isSome (j := 0) (by rw [List.length_map]; exact h)
 have hrs : ∀ q, q < S.rs.length → 0 < (S.rs.getD q rx0).xs.length → (S.rs.getD q rx0).a.isSome = true := fun q hq h => (hS.now.r _ (getDm hq)).isSome (j := 0) (by rw [List.length_map]; exact h)
 have hus : ∀ q, q < S.os.length → 0 < (S.os.getD q rx0).xs.length → (S.os.getD q rx0).a.isSome = true := fun q hq h => (hS.now.u _ (getDm hq)).isSome (j := 0) (by rw [List.length_map]; exact h)
 have hwl : ws.length ≤ 2048 := Tl.okW_len hws
 have hil := hv.ti.1
 have hil2 : S.init.length ≤ 4096 := hil
 have hwT : okT ws.length ws := okT_of_okW hws (by omega) (Nat.le_refl _)
 have hin : InW S.sq.L (wl ws) := wl_inO hwT (okO_of_okW hws)
 refine enter (args := [svv S, sv ws]) [] 46 Try.func23 rfl rfl rfl ?_
 refine CT.seq (CT.region ?_)
 refine Wl.g rfl rfl (OpG.box (size := 7) rfl rfl rfl) ?_
 rintro b2 _
 refine Wl.q rfl rfl (OpQ.assign rfl) ?_
 refine Wl.q rfl rfl (OpQ.assign rfl) ?_
 refine Wl.nil (PX.then_n (CT.seq (CT.seq (CT.region ?_))))
 refine Wl.q rfl rfl (OpQ.loadV (b := b2) zf29 zf28 rfl (by repeat (first | exact Has.here | apply Has.there)) (by rfl)) ?_
 refine Wl.know 8 (v' := svv S) rfl rfl ?_
 refine Wl.g rfl rfl (OpG.callV zf86 rfl (fun w hH => svalidR_spec w S (hH.stays0 hS) hv)) ?_
 rintro _ _
 refine Wl.q rfl rfl (OpQ.neq rfl rfl) ?_
 refine Wl.know 10 (v' := .bool false) rfl (congrArg Value.bool (by decide)) ?_
 refine Wl.q rfl rfl (OpQ.move rfl) ?_
 refine Wl.q rfl rfl (OpQ.move rfl) ?_
 refine Wl.q rfl rfl (OpQ.fieldAddr zf33 rfl) ?_
 refine Wl.q rfl rfl (OpQ.loadF (b := b2) zf8 rfl (by repeat (first | exact Has.here | apply Has.there)) (by rfl)) ?_
 refine Wl.g rfl rfl (OpG.callV zf87 rfl (fun w hH => wvalidR_spec w ws (by omega) S.L)) ?_
 rintro _ _
 refine Wl.know 15 (v' := .bool true) rfl (congrArg Value.bool hws) ?_
 refine Wl.q rfl rfl (OpQ.not rfl) ?_
 refine Wl.q rfl rfl (OpQ.pickF rfl rfl) ?_
 refine Wl.nil (PX.then_n ?_)
 refine CT.condF rfl ?_
 refine CT.skip (PX.then_n (CT.seq (CT.region ?_)))
 refine Wl.q rfl rfl (OpQ.loadV (b := b2) zf29 zf28 rfl (by repeat (first | exact Has.here | apply Has.there)) (by rfl)) ?_
 refine Wl.know 19 (v' := svv S) rfl rfl ?_
 refine Wl.q rfl rfl (OpQ.fieldAddr zf46 rfl) ?_
 refine Wl.q rfl rfl (OpQ.loadF (b := b2) zf8 rfl (by repeat (first | exact Has.here | apply Has.there)) (by rfl)) ?_
 refine Wl.q rfl rfl (OpQ.move rfl) ?_
 refine Wl.g rfl rfl (OpG.call zf88 rfl (fun w hH => (run_spec w S (hH.stays0 hS) hvM S.s hb4 ws hwT (okO_of_okW hws) hl (by omega)).mono fun e w' ⟨r, h1, h2, h3⟩ => ⟨r, h1, h2, hH.ext_nil h3⟩)) ?_
 rintro p23 h23
 refine Wl.know 23 (v' := .tuple #[zo p23.1, sv p23.2]) rfl rfl ?_
 refine Wl.q rfl rfl (OpQ.move rfl) ?_
 refine Wl.q rfl rfl (OpQ.extract rfl rfl) ?_
 refine Wl.q rfl rfl (OpQ.extract rfl rfl) ?_
 refine Wl.q rfl rfl (OpQ.assign rfl) ?_
 refine Wl.q rfl rfl (OpQ.assign rfl) ?_
 refine Wl.nil (PX.then_n (CT.seq (CT.seq (CT.region ?_))))
 refine Wl.q rfl rfl (OpQ.move rfl) ?_
 refine Wl.q rfl rfl (OpQ.lss rfl rfl) ?_
 refine Wl.q rfl rfl (OpQ.move rfl) ?_
 refine Wl.split 28 rfl (fun hg28 => ?_) (fun hg28 => ?_)
 ·
  have hr := Rn_none h23 (oi_neg.1 (by have := of_decide_eq_true hg28; have := oi_ge p23.1; omega))
  have hval : S.sq.value (wl ws) = none := value_none hr
  refine Wl.skip rfl rfl ?_
  refine Wl.skip rfl rfl ?_
  refine Wl.skip rfl rfl ?_
  refine Wl.skip rfl rfl ?_
  refine Wl.skip rfl rfl ?_
  refine Wl.skip rfl rfl ?_
  refine Wl.q rfl rfl (OpQ.pickT rfl rfl) ?_
  refine Wl.nil (PX.then_n ?_)
  refine CT.condT rfl ?_
  refine CT.seq (CT.region ?_)
  refine Wl.q rfl rfl (OpQ.assign rfl) ?_
  refine Wl.q rfl rfl (OpQ.assign rfl) ?_
  refine Wl.nil (PX.then_n (CT.ret (PX.then_r ?_)))
  refine PX.ret2 rfl rfl rfl (fun w' hH => ?_)
  exact ⟨by rw [hval]; rfl, hH.ext⟩
 ·
  obtain ⟨n, hn⟩ := oi_some (show oi p23.1 ≠ -1 by have := of_decide_eq_false hg28; omega)
  have hr := Rn_some h23 hn
  obtain ⟨hn1, hn2, _⟩ := run_in hvM hin hv.st hr
  have hnn : n < S.rs.length := by rw [← S.n_eq]; exact hn1
  have hpl : p23.2.length ≤ 4096 := Nat.le_trans hn2.1 (by rw [wl_len]; exact hl)
  have hft := (hv.tf n hn1).1
  have hval0 := value_some hr
  refine Wl.know 6 (v' := zn n) rfl (by rw [hn]; rfl) ?_
  refine Wl.q rfl rfl (OpQ.fieldAddr zf42 rfl) ?_
  refine Wl.q rfl rfl (OpQ.loadF (b := b2) zf43 rfl (by repeat (first | exact Has.here | apply Has.there)) (by rfl)) ?_
  refine Wl.q rfl rfl (OpQ.move rfl) ?_
  refine Wl.q rfl rfl (OpQ.index1 zf25 zf44 rfl rfl (by omega) (hes (by omega))) ?_
  refine Wl.q rfl rfl (OpQ.loadG zf45 rfl (fun w hH => (hH.use hS).e) (getMap bo S.en false (j := n) (by omega))) ?_
  refine Wl.know 33 (v' := .bool (S.sq.e n)) rfl rfl ?_
  refine Wl.q rfl rfl (OpQ.not rfl) ?_
  refine Wl.q rfl rfl (OpQ.pickF rfl rfl) ?_
  refine Wl.nil (PX.then_n ?_)
  refine CT.cond rfl (fun h35 => ?_) (fun h35 => ?_)
  ·
   have hval : S.sq.value (wl ws) = none := by rw [hval0, if_neg (by simpa using h35)]
   refine CT.seq (CT.region ?_)
   refine Wl.q rfl rfl (OpQ.assign rfl) ?_
   refine Wl.q rfl rfl (OpQ.assign rfl) ?_
   refine Wl.nil (PX.then_n (CT.ret (PX.then_r ?_)))
   refine PX.ret2 rfl rfl rfl (fun w' hH => ?_)
   exact ⟨by rw [hval]; rfl, hH.ext⟩
  ·
   have hval : S.sq.value (wl ws) = some (S.sq.init ++ p23.2 ++ S.sq.f n) := by rw [hval0, if_pos (by simpa using h35)]
   refine CT.skip (PX.then_n (CT.seq ?_))
   refine CT.draw 12 zf6 ?_
   refine RA.q 0 (by kernel_rfl) rfl rfl rfl (.refl _) (OpQ.fieldAddr zf47 rfl) ?_
   refine RA.q 1 (by kernel_rfl) rfl rfl rfl (.refl _) (OpQ.loadF (b := b2) zf39 rfl (by repeat (first | exact Has.here | apply Has.there)) (by rfl)) ?_
   refine RA.q 2 (by kernel_rfl) rfl rfl rfl (.refl _) (OpQ.move rfl) ?_
   refine RA.q 3 (by kernel_rfl) rfl rfl rfl (.refl _) (OpQ.concat rfl rfl (by omega)) ?_
   refine RA.q 4 (by kernel_rfl) rfl rfl rfl (.refl _) (OpQ.fieldAddr zf41 rfl) ?_
   refine RA.q 5 (by kernel_rfl) rfl rfl rfl (.refl _) (OpQ.loadF (b := b2) zf37 rfl (by repeat (first | exact Has.here | apply Has.there)) (by rfl)) ?_
   refine RA.q 6 (by kernel_rfl) rfl rfl rfl (.refl _) (OpQ.move rfl) ?_
   refine RA.q 7 (by kernel_rfl) rfl rfl rfl (.refl _) (OpQ.index1 zf17 zf38 rfl rfl (by omega) (hfs (by omega))) ?_
   refine RA.q 8 (by kernel_rfl) rfl rfl rfl (.refl _) (OpQ.loadG zf39 rfl (fun w hH => (hH.use hS).f) (getMap sv S.fi [] (j := n) (by omega))) ?_
   refine RA.know 44 (v' := sv (S.sq.f n)) rfl rfl ?_
   refine RA.q 9 (by kernel_rfl) rfl rfl rfl (.refl _) (OpQ.concat rfl rfl (by rw [List.length_append]; omega)) ?_
   refine RA.q 10 (by kernel_rfl) rfl rfl rfl (.refl _) (OpQ.assign rfl) ?_
   refine RA.q 11 (by kernel_rfl) rfl rfl rfl (.refl _) (OpQ.assign rfl) ?_
   refine RA.tail ?_
   refine RT.done (by kernel_rfl) ?_
   refine PX.then_n (CT.ret ?_)
   refine PX.ret2 rfl rfl rfl (fun w' hH => ?_)
   exact ⟨by rw [hval]; rfl, hH.ext⟩

end Go.Proofs.Ytamolakhpcofhaa

