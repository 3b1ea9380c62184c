/-
  What functions of the program compute, each by its walk. Conditions: those that each theorem names.
-/
import Derived.Test.YtmggcdegekbncabGreatDoorXGB30
import Derived.Test.YtmggcdegekbncabGreatDoorXF
set_option linter.unusedSimpArgs false
namespace Go.Proofs.YtmggcdegekbncabGreatDoor
open Go Go.Eng Go.Am Go.Ex
open Go.Tp (zi)
open Go.Tl (mayL Wd okW okB bo)
open Go.Ex.simp (simpL)
open Go.Ex.dv (dvL dvC)
open Go.Ex.hasU (hasAny hasAll)
open Go.Ex.wf (wfL)
open Go.Ex.szE (szL)
open Go.Ex.dpE (dpL)
open Go.Ex.cmpE (cmpL)
open Go.Ex.fmtE (fmtK fmtR)
theorem K31_in24 : (Tryz.prog.info? 24).map (fun i => (i.zero, i.size, i.bytes)) = some (some (.agg #[.int .i64 0, .int .i64 0, .slice none 0 0]), 3, 40) := by kernel_rfl
theorem K31_go130 : isGo Tryz.prog 130 = true := by kernel_rfl
theorem K31_un22 : Tryz.prog.underlying 22 = some (.slice 24) := by kernel_rfl
theorem K31_go131 : isGo Tryz.prog 131 = true := by kernel_rfl
theorem K31_go123 : isGo Tryz.prog 123 = true := by kernel_rfl
theorem K31_sz24 : sizeB Tryz.prog 24 = some 3 := by kernel_rfl
theorem K31_ag24 : isAggB Tryz.prog 24 = some true := by kernel_rfl
set_option maxRecDepth 100000 in
/-- (*semigroup/expr.parser).cat -/
theorem pcat_spec (w : World) (b : Nat) (ts : Tx) (hts : ts.length ≤ 4096) (k : Nat) (hk : k ≤ ts.length) (hpre : Pre [.row 109 3 (vb b) 1 [sv ts, .int .i64 ((k : Nat) : Int), .int .i64 2]] w) (f : Tx → Option (Ex × Tx)) (hf : PartC Tryz.prog 109 130 b ts f) (n : Nat) (hn : n ≤ 1000000) (es : List Ex) (rest : Tx) (hm : pMany f (begG 2) n (ts.drop k) = some (es, rest)) : Calls Tryz.prog 124 #[.pointer (some ⟨b, 0, none⟩)] w (fun e w' => ∃ i : Xv × List Nat × Nat, (toE i.1 = nodeE 5 es ∧ i.2.2 ≤ ts.length ∧ ts.drop i.2.2 = rest) ∧ e = .returned (evv i.1) ∧ Post (blks [.row 109 3 (vb b) 1 [sv ts, .int .i64 ((k : Nat) : Int), .int .i64 2]]) [.row 109 3 (vb b) 1 [sv ts, .int .i64 ((i.2.2 : Nat) : Int), .int .i64 2], fx (AllM []) [i.1] i.2.1] w w') := by
 obtain ⟨m0, e0, l0, es0, rfl, hp0, rfl, hM0⟩ := pMany_some hm
 refine enterX (args := [.pointer (some ⟨b, 0, none⟩)]) hpre 16 Tryz.func124 rfl rfl rfl ?_
 refine CT.seq (CT.region ?_)
 refine Wl.g rfl rfl (OpG.alloc (zs := [.int .i64 0, .int .i64 0, .slice none 0 0]) K31_in24 rfl rfl) ?_
 rintro b2 _
 refine Wl.nil (PX.then_n (CT.seq (CT.region ?_)))
 refine Wl.q rfl rfl (OpQ.move rfl) ?_
 refine Wl.g rfl rfl (OpG.callX K31_go130 rfl (.cons (.there .here) .nil) (fun _ => (.cons (.cons .nil))) (fun w hH hp => hf w k _ _ hk hp hp0)) ?_
 rintro ⟨x, xb, j0⟩ ⟨hx, hj0, hrj0⟩
 refine Wl.g rfl rfl (OpG.litS1 K31_un22 K31_in24 rfl (by decide) rfl) ?_
 rintro b6 _
 refine Wl.q rfl rfl (OpQ.assign rfl) ?_
 refine Wl.nil (PX.then_n (CT.seq (CT.block ?_)))
 refine CT.as (fun _ h => h.take (.cons .here (.cons .here (.cons .here (.cons .here .nil))))) ?_
 refine CT.loop (ι := List Xv × Option Addr × Nat × List Nat × Nat × Nat × List Ex) (fun (ks, a, c, bs, j, m, es2) => j ≤ ts.length ∧ e0 :: es0 = ks.map toE ++ es2 ∧ Mny f (begG 2) m (ts.drop j) es2 rest ∧ ks.length + m ≤ 1000000 ∧ (0 < ks.length → a.isSome = true)) (fun (ks, a, c, bs, j, m, es2) => [(0, .pointer (some ⟨b, 0, none⟩)), (2, .pointer (some ⟨b2, 0, none⟩)), (3, .slice a ks.length c)]) (fun (ks, a, c, bs, j, m, es2) => [.row 24 3 (.slice a ks.length c) ks.length ((ks).flatMap evc), .row 109 3 (vb b) 1 [sv ts, .int .i64 ((j : Nat) : Int), .int .i64 2], fx (AllM []) ks bs, .row 24 3 (vb b2) 1 (evc ev0)]) (fun (ks, a, c, bs, j, m, es2) => m) ([x], some ⟨b6, 0, none⟩, 1, xb, j0, m0, es0) ⟨hj0, by rw [← hx]; rfl, by rw [hrj0]; exact hM0, by show 1 + m0 ≤ _; omega, fun _ => rfl⟩ ⟨rfl, rfl, rfl, trivial⟩ (HSub.refl _) (fun ⟨ks, a, c, bs, j, m, es2⟩ ⟨hj, hks, hM, hl, hsn⟩ K0 hK0 => ?_)
 dsimp only
 refine CT.seq (CT.seq (CT.region ?_))
 refine Wl.q rfl rfl (OpQ.move rfl) ?_
 refine Wl.g rfl rfl (OpG.callX K31_go131 rfl (.cons (.there .here) .nil) (fun _ => (.cons .nil)) (fun w hH hp => begins_spec w b ts hts j hj hp)) ?_
 rintro j1 ⟨hj1, hd1⟩
 refine Wl.nil (PX.then_n ?_)
 refine CT.cond rfl (fun h8 => ?_) (fun h8 => ?_)
 ·
  obtain ⟨m2, e2, l3, es3, rfl, hp2, rfl, hM2⟩ := hM.next (l2 := skip (ts.drop j)) (by rw [begG_hd, if_pos h8])
  refine CT.skip (PX.then_n (CT.block (CT.region ?_)))
  refine Wl.q rfl rfl (OpQ.move rfl) ?_
  refine Wl.q rfl rfl (OpQ.move rfl) ?_
  refine Wl.g rfl rfl (OpG.callX K31_go130 rfl (.cons .here .nil) (fun _ => (.cons (.cons .nil))) (fun w hH hp => hf w j1 _ _ hj1 hp (by rw [hd1]; exact hp2))) ?_
  rintro ⟨y, yb, j2⟩ ⟨hy, hj2, hrj2⟩
  refine Wl.g rfl rfl (OpG.litS1 K31_un22 K31_in24 rfl (by decide) rfl) ?_
  rintro b12 _
  refine Wl.g rfl rfl (OpG.append K31_un22 K31_in24 (by rfl) (by decide) rfl rfl (p := 3) rfl (fun w hH => hH.rd (show Has _ (.row 24 3 (.slice (some ⟨b12, 0, none⟩) 1 1) 1 ([y].flatMap evc)) from .here)) ⟨(show ([y].flatMap evc).length = 1 * 3 from evcs_len _), evcs_one [y], by omega, by omega⟩ (nm := (ks ++ [y]).length) (by rw [List.length_append]; rfl) (all := (ks ++ [y]).flatMap evc) (by rw [List.flatMap_append])) ?_
  rintro ⟨a13, c13⟩ h13
  refine Wl.q rfl rfl (OpQ.assign rfl) ?_
  refine Wl.nil (PX.block_n ?_)
  refine PX.as (fun _ h => ((h.take (.cons (.there (.there .here)) (.cons (.there (.there (.there .here))) (.cons (.there (.there .here)) (.cons (.there .here) (.cons (.there .here) .nil)))))).fxAddA (us := []) (fun w h => h)).fxLess (us := ks ++ [y]) (fun w h => AllM.app.2 ⟨h.snd, h.fst⟩)) ?_
  refine PX.as (fun _ h => h.take (.cons (.there .here) (.cons (.there .here) (.cons .here (.cons .here .nil))))) ?_
  exact PX.loop hK0 (ks ++ [y], a13, c13, _, j2, m2, es3) ⟨hj2, by rw [hks, List.map_append, List.append_assoc, ← hy]; rfl, by rw [hrj2]; exact hM2, by rw [List.length_append]; show ks.length + 1 + m2 ≤ _; omega, fun _ => h13 (by simp)⟩ (show m2 < m2 + 1 by omega) ⟨rfl, rfl, rfl, trivial⟩ (HSub.refl _)
 ·
  obtain ⟨rfl, hrs⟩ := hM.stop (by rw [begG_hd, h8]; rfl)
  refine CT.exit (PX.then_x (PX.then_x (PX.block_x (PX.then_n (CT.seq (CT.region ?_))))))
  refine Wl.q rfl rfl (OpQ.move rfl) ?_
  refine Wl.g rfl rfl (OpG.call K31_go123 rfl (fun w hH => (nodeE_spec w ks a c (hH.kinS (by repeat (first | exact Has.here | apply Has.there)) (fun w' he => (hH.staysK0 (show Has _ (fx (AllM []) ks bs) from (by repeat (first | exact Has.here | apply Has.there)))).frag w' he (AllM.nil w'))) 5).mono fun e w' ⟨i, h1, h2, h3⟩ => ⟨i, h1, h2, hH.ext_nil h3⟩)) ?_
  rintro v ⟨hv, hvm⟩
  refine Wl.g rfl rfl (OpG.storeV (b := b2) K31_sz24 rfl rfl rfl rfl (by repeat (first | exact Upd.here | apply Upd.there))) ?_
  rintro _ _
  refine Wl.nil (PX.then_n (CT.ret ?_))
  refine PX.retC rfl rfl (by repeat (first | exact Has.here | apply Has.there)) K31_ag24 K31_sz24 (by rfl) (fun w' hH => ?_)
  exact ⟨(v, _, j1), ⟨by rw [hv, hks, List.append_nil], hj1, by rw [hrs]; exact hd1⟩, rfl, HOk.post (((hH.take (.cons (.there .here) (.cons (.there .here) (.cons .here .nil)))).fxRow2 (A := AllM []) (v := v) (fun w h => h) (fun w _ h => h) (fun w _ _ h => hvm w h)).take (.cons (.there .here) (.cons .here .nil)))⟩

theorem K31_go67 : isGo Tryz.prog 67 = true := by kernel_rfl
theorem K31_go134 : isGo Tryz.prog 134 = true := by kernel_rfl
theorem K31_fa109_1 : fieldB Tryz.prog 109 1 = some 1 := by kernel_rfl
theorem K31_sc3 : scalarB Tryz.prog 3 = some true := by kernel_rfl
theorem K31_sz3 : sizeB Tryz.prog 3 = some 1 := by kernel_rfl
theorem K31_pl24 : placesB Tryz.prog 24 = some (#[.int .i64 0, .int .i64 0, .slice none 0 0], [(0, 1), (1, 1), (2, 1)]) := by kernel_rfl
set_option maxRecDepth 100000 in
/-- (*semigroup/expr.parser).unary -/
theorem punary_spec (w : World) (b : Nat) (ts : Tx) (hts : ts.length ≤ 4096) (k : Nat) (hk : k ≤ ts.length) (hpre : Pre [.row 109 3 (vb b) 1 [sv ts, .int .i64 ((k : Nat) : Int), .int .i64 2]] w) (f3 f4 : Tx → Option (Ex × Tx)) (hf3 : PartC Tryz.prog 109 130 b ts f3) (hf4 : PartC Tryz.prog 109 134 b ts f4) (ex : Ex) (rest : Tx) (hm : (∃ l' e1, skip (ts.drop k) = 33 :: l' ∧ f3 l' = some (e1, rest) ∧ ex = .mk 8 0 [e1]) ∨ (¬ (∃ l', skip (ts.drop k) = 33 :: l') ∧ f4 (skip (ts.drop k)) = some (ex, rest))) : Calls Tryz.prog 130 #[.pointer (some ⟨b, 0, none⟩)] w (fun e w' => ∃ i : Xv × List Nat × Nat, (toE i.1 = ex ∧ i.2.2 ≤ ts.length ∧ ts.drop i.2.2 = rest) ∧ e = .returned (evv i.1) ∧ Post (blks [.row 109 3 (vb b) 1 [sv ts, .int .i64 ((k : Nat) : Int), .int .i64 2]]) [.row 109 3 (vb b) 1 [sv ts, .int .i64 ((i.2.2 : Nat) : Int), .int .i64 2], fx (AllM []) [i.1] i.2.1] w w') := by
 refine enterX (args := [.pointer (some ⟨b, 0, none⟩)]) hpre 19 Tryz.func130 rfl rfl rfl ?_
 refine CT.seq (CT.region ?_)
 refine Wl.g rfl rfl (OpG.alloc (zs := [.int .i64 0, .int .i64 0, .slice none 0 0]) K31_in24 rfl rfl) ?_
 rintro b2 _
 refine Wl.nil (PX.then_n (CT.seq (CT.seq (CT.region ?_))))
 refine Wl.q rfl rfl (OpQ.move rfl) ?_
 refine Wl.g rfl rfl (OpG.callX K31_go67 rfl (.cons (.there .here) .nil) (fun _ => (.cons .nil)) (fun w hH hp => peek_spec w b ts hts k hk hp)) ?_
 rintro j1 ⟨hj1, hdj1⟩
 refine Wl.q rfl rfl (OpQ.neq rfl rfl) ?_
 refine Wl.nil (PX.then_n ?_)
 refine CT.cond rfl (fun h5 => ?_) (fun h5 => ?_)
 ·
  have h5 := of_nd_t h5
  obtain ⟨_, hp4⟩ := hm.resolve_left (fun ⟨l', e1, h1, _⟩ => h5 ((hd_iff (s := 33) (by decide)).2 ⟨l', h1⟩))
  refine CT.seq (CT.region ?_)
  refine Wl.q rfl rfl (OpQ.move rfl) ?_
  refine Wl.g rfl rfl (OpG.callX K31_go134 rfl (.cons .here .nil) (fun _ => (.cons (.cons .nil))) (fun w hH hp => hf4 w j1 _ _ hj1 hp (by rw [hdj1]; exact hp4))) ?_
  rintro ⟨x, xb, j2⟩ ⟨hx, hj2, hrj2⟩
  refine Wl.g rfl rfl (OpG.storeV (b := b2) K31_sz24 rfl rfl rfl rfl (by repeat (first | exact Upd.here | apply Upd.there))) ?_
  rintro _ _
  refine Wl.nil (PX.then_n (CT.ret (PX.then_r ?_)))
  refine PX.retC rfl rfl (by repeat (first | exact Has.here | apply Has.there)) K31_ag24 K31_sz24 (by rfl) (fun w' hH => ?_)
  exact ⟨(x, xb, j2), ⟨hx, hj2, hrj2⟩, rfl, HOk.post (hH.take (.cons .here (.cons .here .nil)))⟩
 ·
  have h5 := of_nd_f h5
  obtain ⟨l', e1, hl', hp3, rfl⟩ := hm.resolve_right (fun h => h.1 ((hd_iff (s := 33) (by decide)).1 h5))
  obtain ⟨hj1s, hd1s⟩ := drop_tail (hdj1.trans hl')
  refine CT.skip (PX.then_n (CT.seq (CT.region ?_)))
  refine Wl.q rfl rfl (OpQ.move rfl) ?_
  refine Wl.q rfl rfl (OpQ.nilCheckP rfl) ?_
  refine Wl.q rfl rfl (OpQ.fieldAddr K31_fa109_1 rfl) ?_
  refine Wl.q rfl rfl (OpQ.loadF (b := b) K31_sc3 rfl (by repeat (first | exact Has.here | apply Has.there)) (by rfl)) ?_
  refine Wl.q rfl rfl (OpQ.add rfl rfl (by omega)) ?_
  refine Wl.know 12 (v' := .int .i64 ((j1 + 1 : Nat) : Int)) rfl (congrArg (Value.int .i64) (by omega)) ?_
  refine Wl.q rfl rfl (OpQ.nilCheckP rfl) ?_
  refine Wl.q rfl rfl (OpQ.fieldAddr K31_fa109_1 rfl) ?_
  refine Wl.g rfl rfl (OpG.storeRow (a := some ⟨b, 0, none⟩) K31_sz3 rfl rfl rfl (by repeat (first | exact Upd.here | apply Upd.there)) (by simp)) ?_
  rintro _ _
  refine Wl.nil (PX.then_n (CT.seq (CT.region ?_)))
  refine Wl.q rfl rfl (OpQ.move rfl) ?_
  refine Wl.g rfl rfl (OpG.callX K31_go130 rfl (.cons .here .nil) (fun _ => (.cons (.cons .nil))) (fun w hH hp => hf3 w (j1 + 1) _ _ (by omega) hp (by rw [hd1s]; exact hp3))) ?_
  rintro ⟨y, yb, j2⟩ ⟨hy, hj2, hrj2⟩
  refine Wl.g rfl rfl (OpG.litS1 K31_un22 K31_in24 rfl (by decide) rfl) ?_
  rintro b17 _
  refine Wl.q rfl rfl (OpQ.build (cells := #[.int .i64 8, .int .i64 0, .slice (some ⟨b17, 0, none⟩) 1 1]) K31_pl24 rfl rfl) ?_
  refine Wl.g rfl rfl (OpG.storeV (b := b2) K31_sz24 rfl rfl rfl rfl (by repeat (first | exact Upd.here | apply Upd.there))) ?_
  rintro _ _
  refine Wl.nil (PX.then_n (CT.ret ?_))
  refine PX.retC rfl rfl (by repeat (first | exact Has.here | apply Has.there)) K31_ag24 K31_sz24 (by rfl) (fun w' hH => ?_)
  exact ⟨((.mk 8 0 (some ⟨b17, 0, none⟩) 1 [y] : Xv), blks [.row 24 3 (.slice (some ⟨b17, 0, none⟩) 1 1) 1 ([y].flatMap evc), fx (AllM []) [y] yb], j2), ⟨by rw [toE_eq, ← hy]; rfl, hj2, hrj2⟩, rfl, HOk.post (((hH.take (.cons .here (.cons (.there .here) (.cons .here .nil)))).fxRow2 (A := AllM []) (us := [y]) (v := (.mk 8 0 (some ⟨b17, 0, none⟩) 1 [y] : Xv)) (fun w h => h) (fun w _ h => h) (fun w _ _ h => evm_iff.2 h)).take (.cons (.there .here) (.cons .here .nil)))⟩

theorem K31_go146 : isGo Tryz.prog 146 = true := by kernel_rfl
set_option maxRecDepth 100000 in
/-- (*semigroup/expr.parser).postfix -/
theorem ppostfix_spec (w : World) (b : Nat) (ts : Tx) (hts : ts.length ≤ 4096) (k : Nat) (hk : k ≤ ts.length) (hpre : Pre [.row 109 3 (vb b) 1 [sv ts, .int .i64 ((k : Nat) : Int), .int .i64 2]] w) (f5 : Tx → Option (Ex × Tx)) (hf5 : PartC Tryz.prog 109 146 b ts f5) (e1 : Ex) (l1 : Tx) (h1 : f5 (ts.drop k) = some (e1, l1)) (n : Nat) (ex : Ex) (rest : Tx) (hst : stars n e1 l1 = some (ex, rest)) : Calls Tryz.prog 134 #[.pointer (some ⟨b, 0, none⟩)] w (fun e w' => ∃ i : Xv × List Nat × Nat, (toE i.1 = ex ∧ i.2.2 ≤ ts.length ∧ ts.drop i.2.2 = rest) ∧ e = .returned (evv i.1) ∧ Post (blks [.row 109 3 (vb b) 1 [sv ts, .int .i64 ((k : Nat) : Int), .int .i64 2]]) [.row 109 3 (vb b) 1 [sv ts, .int .i64 ((i.2.2 : Nat) : Int), .int .i64 2], fx (AllM []) [i.1] i.2.1] w w') := by
 refine enterX (args := [.pointer (some ⟨b, 0, none⟩)]) hpre 20 Tryz.func134 rfl rfl rfl ?_
 refine CT.seq (CT.region ?_)
 refine Wl.g rfl rfl (OpG.alloc (zs := [.int .i64 0, .int .i64 0, .slice none 0 0]) K31_in24 rfl rfl) ?_
 rintro b2 _
 refine Wl.nil (PX.then_n (CT.seq (CT.region ?_)))
 refine Wl.q rfl rfl (OpQ.move rfl) ?_
 refine Wl.g rfl rfl (OpG.callX K31_go146 rfl (.cons (.there .here) .nil) (fun _ => (.cons (.cons .nil))) (fun w hH hp => hf5 w k _ _ hk hp h1)) ?_
 rintro ⟨x, xb, j0⟩ ⟨hx, hj0, hrj0⟩
 refine Wl.g rfl rfl (OpG.alloc (zs := [.int .i64 0, .int .i64 0, .slice none 0 0]) K31_in24 rfl rfl) ?_
 rintro b3 _
 refine Wl.g rfl rfl (OpG.storeV (b := b3) K31_sz24 rfl rfl rfl rfl (by repeat (first | exact Upd.here | apply Upd.there))) ?_
 rintro _ _
 refine Wl.nil (PX.then_n (CT.seq (CT.block ?_)))
 refine CT.as (fun _ h => h.take (.cons .here (.cons .here (.cons .here (.cons .here .nil))))) ?_
 refine CT.loop (ι := Xv × List Nat × Nat × Nat) (fun (y, bs, j, m) => j ≤ ts.length ∧ stars m (toE y) (ts.drop j) = some (ex, rest)) (fun (y, bs, j, m) => [(0, .pointer (some ⟨b, 0, none⟩)), (2, .pointer (some ⟨b2, 0, none⟩)), (3, .pointer (some ⟨b3, 0, none⟩))]) (fun (y, bs, j, m) => [.row 24 3 (vb b3) 1 (evc y), .row 109 3 (vb b) 1 [sv ts, .int .i64 ((j : Nat) : Int), .int .i64 2], fx (AllM []) [y] bs, .row 24 3 (vb b2) 1 (evc ev0)]) (fun (y, bs, j, m) => m) (x, xb, j0, n) ⟨hj0, by rw [hx, hrj0]; exact hst⟩ ⟨rfl, rfl, rfl, trivial⟩ (HSub.refl _) (fun ⟨y, bs, j, m⟩ ⟨hj, hs⟩ K0 hK0 => ?_)
 dsimp only
 refine CT.seq (CT.seq (CT.region ?_))
 refine Wl.q rfl rfl (OpQ.move rfl) ?_
 refine Wl.g rfl rfl (OpG.callX K31_go67 rfl (.cons (.there .here) .nil) (fun _ => (.cons .nil)) (fun w hH hp => peek_spec w b ts hts j hj hp)) ?_
 rintro j1 ⟨hj1, hdj1⟩
 refine Wl.q rfl rfl (OpQ.eql rfl rfl) ?_
 refine Wl.nil (PX.then_n ?_)
 refine CT.cond rfl (fun h8 => ?_) (fun h8 => ?_)
 ·
  have h8 := of_decide_eq_true h8
  obtain ⟨m2, rfl, h9⟩ := stars_some hs
  obtain ⟨l', hl', hst2⟩ := h9.resolve_right (fun h => h.1 ((hd_iff (s := 42) (by decide)).1 h8))
  obtain ⟨hj1s, hd1s⟩ := drop_tail (hdj1.trans hl')
  refine CT.skip (PX.then_n (CT.block (CT.seq (CT.region ?_))))
  refine Wl.q rfl rfl (OpQ.move rfl) ?_
  refine Wl.q rfl rfl (OpQ.nilCheckP rfl) ?_
  refine Wl.q rfl rfl (OpQ.fieldAddr K31_fa109_1 rfl) ?_
  refine Wl.q rfl rfl (OpQ.loadF (b := b) K31_sc3 rfl (by repeat (first | exact Has.here | apply Has.there)) (by rfl)) ?_
  refine Wl.q rfl rfl (OpQ.add rfl rfl (by omega)) ?_
  refine Wl.know 13 (v' := .int .i64 ((j1 + 1 : Nat) : Int)) rfl (congrArg (Value.int .i64) (by omega)) ?_
  refine Wl.q rfl rfl (OpQ.nilCheckP rfl) ?_
  refine Wl.q rfl rfl (OpQ.fieldAddr K31_fa109_1 rfl) ?_
  refine Wl.g rfl rfl (OpG.storeRow (a := some ⟨b, 0, none⟩) K31_sz3 rfl rfl rfl (by repeat (first | exact Upd.here | apply Upd.there)) (by simp)) ?_
  rintro _ _
  refine Wl.nil (PX.then_n (CT.region ?_))
  refine Wl.q rfl rfl (OpQ.loadV (b := b3) K31_ag24 K31_sz24 rfl (by repeat (first | exact Has.here | apply Has.there)) (by rfl)) ?_
  refine Wl.know 16 (v' := evv y) rfl rfl ?_
  refine Wl.g rfl rfl (OpG.litS1 K31_un22 K31_in24 rfl (by decide) rfl) ?_
  rintro b17 _
  refine Wl.q rfl rfl (OpQ.build (cells := #[.int .i64 7, .int .i64 0, .slice (some ⟨b17, 0, none⟩) 1 1]) K31_pl24 rfl rfl) ?_
  refine Wl.g rfl rfl (OpG.storeV (b := b3) K31_sz24 rfl rfl rfl rfl (by repeat (first | exact Upd.here | apply Upd.there))) ?_
  rintro _ _
  refine Wl.nil (PX.block_n ?_)
  refine PX.as (fun _ h => (h.take (.cons .here (.cons (.there (.there .here)) (.cons (.there .here) (.cons .here (.cons .here .nil)))))).fxRow2 (A := AllM []) (us := [y]) (v := (.mk 7 0 (some ⟨b17, 0, none⟩) 1 [y] : Xv)) (fun w h => h) (fun w _ h => h) (fun w _ _ h => evm_iff.2 h)) ?_
  refine PX.as (fun _ h => h.take (.cons (.there .here) (.cons (.there .here) (.cons .here (.cons .here .nil))))) ?_
  exact PX.loop hK0 ((.mk 7 0 (some ⟨b17, 0, none⟩) 1 [y] : Xv), _, j1 + 1, m2) ⟨by omega, by rw [toE_eq, hd1s]; exact hst2⟩ (show m2 < m2 + 1 by omega) ⟨rfl, rfl, rfl, trivial⟩ (HSub.refl _)
 ·
  have h8 := of_decide_eq_false h8
  obtain ⟨m2, rfl, h9⟩ := stars_some hs
  obtain ⟨_, rfl, hrs⟩ := h9.resolve_left (fun ⟨l', h2, _⟩ => h8 ((hd_iff (s := 42) (by decide)).2 ⟨l', h2⟩))
  refine CT.exit (PX.then_x (PX.then_x (PX.block_x (PX.then_n (CT.seq (CT.region ?_))))))
  refine Wl.q rfl rfl (OpQ.loadV (b := b3) K31_ag24 K31_sz24 rfl (by repeat (first | exact Has.here | apply Has.there)) (by rfl)) ?_
  refine Wl.g rfl rfl (OpG.storeV (b := b2) K31_sz24 rfl rfl rfl rfl (by repeat (first | exact Upd.here | apply Upd.there))) ?_
  rintro _ _
  refine Wl.nil (PX.then_n (CT.ret ?_))
  refine PX.retC rfl rfl (by repeat (first | exact Has.here | apply Has.there)) K31_ag24 K31_sz24 (by rfl) (fun w' hH => ?_)
  exact ⟨(y, bs, j1), ⟨rfl, hj1, by rw [hrs]; exact hdj1⟩, rfl, HOk.post (hH.take (.cons .here (.cons (.there .here) .nil)))⟩

theorem K31_fa24_0 : fieldB Tryz.prog 24 0 = some 0 := by kernel_rfl
theorem K31_go135 : isGo Tryz.prog 135 = true := by kernel_rfl
theorem K31_un5 : Tryz.prog.underlying 5 = some (.int .u8) := by kernel_rfl
theorem K31_un3 : Tryz.prog.underlying 3 = some (.int .i64) := by kernel_rfl
theorem K31_fa24_1 : fieldB Tryz.prog 24 1 = some 1 := by kernel_rfl
theorem K31_go66 : isGo Tryz.prog 66 = true := by kernel_rfl
set_option maxRecDepth 100000 in
/-- (*semigroup/expr.parser).atom -/
theorem patom_spec (w : World) (b : Nat) (ts : Tx) (hts : ts.length ≤ 4096) (k : Nat) (hk : k ≤ ts.length) (hpre : Pre [.row 109 3 (vb b) 1 [sv ts, .int .i64 ((k : Nat) : Int), .int .i64 2]] w) (f0 : Tx → Option (Ex × Tx)) (hf0 : PartC Tryz.prog 109 66 b ts f0) (b0 : UInt8) (l' : Tx) (hs : skip (ts.drop k) = b0 :: l') (ex : Ex) (rest : Tx) (hm : AtD f0 b0 l' ex rest) : Calls Tryz.prog 146 #[.pointer (some ⟨b, 0, none⟩)] w (fun e w' => ∃ i : Xv × List Nat × Nat, (toE i.1 = ex ∧ i.2.2 ≤ ts.length ∧ ts.drop i.2.2 = rest) ∧ e = .returned (evv i.1) ∧ Post (blks [.row 109 3 (vb b) 1 [sv ts, .int .i64 ((k : Nat) : Int), .int .i64 2]]) [.row 109 3 (vb b) 1 [sv ts, .int .i64 ((i.2.2 : Nat) : Int), .int .i64 2], fx (AllM []) [i.1] i.2.1] w w') := by
 have hb9 := b0.toNat_lt
 refine enterX (args := [.pointer (some ⟨b, 0, none⟩)]) hpre 51 Tryz.func146 rfl rfl rfl ?_
 refine CT.seq (CT.region ?_)
 refine Wl.g rfl rfl (OpG.alloc (zs := [.int .i64 0, .int .i64 0, .slice none 0 0]) K31_in24 rfl rfl) ?_
 rintro b2 _
 refine Wl.nil (PX.then_n (CT.seq (CT.region ?_)))
 refine Wl.g rfl rfl (OpG.alloc (zs := [.int .i64 0, .int .i64 0, .slice none 0 0]) K31_in24 rfl rfl) ?_
 rintro b3 _
 refine Wl.nil (PX.then_n (CT.seq (CT.seq (CT.region ?_))))
 refine Wl.q rfl rfl (OpQ.move rfl) ?_
 refine Wl.g rfl rfl (OpG.callX K31_go67 rfl (.cons (.there (.there .here)) .nil) (fun _ => (.cons .nil)) (fun w hH hp => peek_spec w b ts hts k hk hp)) ?_
 rintro j1 ⟨hj1, hdj1⟩
 refine Wl.know 6 (v' := bv b0) rfl (congrArg bv (by rw [hs]; rfl)) ?_
 refine Wl.q rfl rfl (OpQ.assign rfl) ?_
 refine Wl.nil (PX.then_n (CT.block (CT.seq (CT.region ?_))))
 refine Wl.q rfl rfl (OpQ.move rfl) ?_
 refine Wl.q rfl rfl (OpQ.eql rfl rfl) ?_
 refine Wl.q rfl rfl (OpQ.assign rfl) ?_
 refine Wl.nil (PX.then_n ?_)
 refine CT.cond rfl (fun h9 => ?_) (fun h9 => ?_)
 ·
  have h9 := of_decide_eq_true h9
  obtain ⟨hj1s, hd1s⟩ := drop_tail (hdj1.trans hs)
  refine CT.region ?_
  refine Wl.q rfl rfl (OpQ.fieldAddr K31_fa24_0 rfl) ?_
  refine Wl.g rfl rfl (OpG.storeRow (a := some ⟨b3, 0, none⟩) K31_sz3 rfl rfl rfl (by repeat (first | exact Upd.here | apply Upd.there)) (by simp)) ?_
  rintro _ _
  refine Wl.nil (PX.block_n (PX.then_n (CT.seq (CT.region ?_))))
  refine Wl.q rfl rfl (OpQ.move rfl) ?_
  refine Wl.q rfl rfl (OpQ.nilCheckP rfl) ?_
  refine Wl.q rfl rfl (OpQ.fieldAddr K31_fa109_1 rfl) ?_
  refine Wl.q rfl rfl (OpQ.loadF (b := b) K31_sc3 rfl (by repeat (first | exact Has.here | apply Has.there)) (by rfl)) ?_
  refine Wl.q rfl rfl (OpQ.add rfl rfl (by omega)) ?_
  refine Wl.q rfl rfl (OpQ.nilCheckP rfl) ?_
  refine Wl.q rfl rfl (OpQ.fieldAddr K31_fa109_1 rfl) ?_
  refine Wl.g rfl rfl (OpG.storeRow (a := some ⟨b, 0, none⟩) K31_sz3 rfl rfl rfl (by repeat (first | exact Upd.here | apply Upd.there)) (by simp)) ?_
  rintro _ _
  refine Wl.nil (PX.then_n (CT.seq (CT.region ?_)))
  refine Wl.q rfl rfl (OpQ.loadV (b := b3) K31_ag24 K31_sz24 rfl (by repeat (first | exact Has.here | apply Has.there)) (by rfl)) ?_
  refine Wl.g rfl rfl (OpG.storeV (b := b2) K31_sz24 rfl rfl rfl rfl (by repeat (first | exact Upd.here | apply Upd.there))) ?_
  rintro _ _
  refine Wl.nil (PX.then_n (CT.ret ?_))
  refine PX.retC rfl rfl (by repeat (first | exact Has.here | apply Has.there)) K31_ag24 K31_sz24 (by rfl) (fun w' hH => ?_)
  obtain ⟨q1, q2⟩ := hm.at_48 h9
  exact ⟨(lfv 1 0, [], j1 + 1), ⟨by rw [lfv_e, q1]; first | done | rfl, by show j1 + 1 ≤ _; omega, by rw [q2]; exact hd1s⟩, rfl, HOk.post (HOk.take (HOk.fx0 (A := AllM []) (vs := [lfv 1 0]) (hH.take (.cons .here .nil)) (fun w _ => AllM.one.2 (lfv_m _ _ w))) (.cons (.there .here) (.cons .here .nil)))⟩
 ·
  have h9 := of_decide_eq_false h9
  obtain ⟨hj1s, hd1s⟩ := drop_tail (hdj1.trans hs)
  refine CT.seq (CT.region ?_)
  refine Wl.q rfl rfl (OpQ.move rfl) ?_
  refine Wl.q rfl rfl (OpQ.eql rfl rfl) ?_
  refine Wl.q rfl rfl (OpQ.assign rfl) ?_
  refine Wl.nil (PX.then_n ?_)
  refine CT.cond rfl (fun h13 => ?_) (fun h13 => ?_)
  ·
   have h13 := of_decide_eq_true h13
   refine CT.region ?_
   refine Wl.q rfl rfl (OpQ.fieldAddr K31_fa24_0 rfl) ?_
   refine Wl.g rfl rfl (OpG.storeRow (a := some ⟨b3, 0, none⟩) K31_sz3 rfl rfl rfl (by repeat (first | exact Upd.here | apply Upd.there)) (by simp)) ?_
   rintro _ _
   refine Wl.nil (PX.block_n (PX.then_n (CT.seq (CT.region ?_))))
   refine Wl.q rfl rfl (OpQ.move rfl) ?_
   refine Wl.q rfl rfl (OpQ.nilCheckP rfl) ?_
   refine Wl.q rfl rfl (OpQ.fieldAddr K31_fa109_1 rfl) ?_
   refine Wl.q rfl rfl (OpQ.loadF (b := b) K31_sc3 rfl (by repeat (first | exact Has.here | apply Has.there)) (by rfl)) ?_
   refine Wl.q rfl rfl (OpQ.add rfl rfl (by omega)) ?_
   refine Wl.q rfl rfl (OpQ.nilCheckP rfl) ?_
   refine Wl.q rfl rfl (OpQ.fieldAddr K31_fa109_1 rfl) ?_
   refine Wl.g rfl rfl (OpG.storeRow (a := some ⟨b, 0, none⟩) K31_sz3 rfl rfl rfl (by repeat (first | exact Upd.here | apply Upd.there)) (by simp)) ?_
   rintro _ _
   refine Wl.nil (PX.then_n (CT.seq (CT.region ?_)))
   refine Wl.q rfl rfl (OpQ.loadV (b := b3) K31_ag24 K31_sz24 rfl (by repeat (first | exact Has.here | apply Has.there)) (by rfl)) ?_
   refine Wl.g rfl rfl (OpG.storeV (b := b2) K31_sz24 rfl rfl rfl rfl (by repeat (first | exact Upd.here | apply Upd.there))) ?_
   rintro _ _
   refine Wl.nil (PX.then_n (CT.ret ?_))
   refine PX.retC rfl rfl (by repeat (first | exact Has.here | apply Has.there)) K31_ag24 K31_sz24 (by rfl) (fun w' hH => ?_)
   obtain ⟨q1, q2⟩ := hm.at_49 h13
   exact ⟨(lfv 2 0, [], j1 + 1), ⟨by rw [lfv_e, q1]; first | done | rfl, by show j1 + 1 ≤ _; omega, by rw [q2]; exact hd1s⟩, rfl, HOk.post (HOk.take (HOk.fx0 (A := AllM []) (vs := [lfv 2 0]) (hH.take (.cons .here .nil)) (fun w _ => AllM.one.2 (lfv_m _ _ w))) (.cons (.there .here) (.cons .here .nil)))⟩
  ·
   have h13 := of_decide_eq_false h13
   refine CT.seq (CT.region ?_)
   refine Wl.q rfl rfl (OpQ.move rfl) ?_
   refine Wl.q rfl rfl (OpQ.move rfl) ?_
   refine Wl.g rfl rfl (OpG.callX K31_go135 rfl (.cons .here .nil) (fun _ => (.cons .nil)) (fun w hH hp => isLet_spec w b ts j1 hp b0)) ?_
   rintro _ _
   refine Wl.q rfl rfl (OpQ.assign rfl) ?_
   refine Wl.nil (PX.then_n ?_)
   refine CT.cond rfl (fun h17 => ?_) (fun h17 => ?_)
   ·
    obtain ⟨q3, q4, h97⟩ := hm.at_let h9 h13 h17
    refine CT.region ?_
    refine Wl.q rfl rfl (OpQ.move rfl) ?_
    refine Wl.q rfl rfl (OpQ.sub8 rfl rfl (by omega)) ?_
    refine Wl.q rfl rfl (OpQ.conv rfl (conv_u8_i64 K31_un5 K31_un3 _ (by omega))) ?_
    refine Wl.q rfl rfl (OpQ.fieldAddr K31_fa24_0 rfl) ?_
    refine Wl.g rfl rfl (OpG.storeRow (a := some ⟨b3, 0, none⟩) K31_sz3 rfl rfl rfl (by repeat (first | exact Upd.here | apply Upd.there)) (by simp)) ?_
    rintro _ _
    refine Wl.q rfl rfl (OpQ.fieldAddr K31_fa24_1 rfl) ?_
    refine Wl.g rfl rfl (OpG.storeRow (a := some ⟨b3, 0, none⟩) K31_sz3 rfl rfl rfl (by repeat (first | exact Upd.here | apply Upd.there)) (by simp)) ?_
    rintro _ _
    refine Wl.nil (PX.block_n (PX.then_n (CT.seq (CT.region ?_))))
    refine Wl.q rfl rfl (OpQ.move rfl) ?_
    refine Wl.q rfl rfl (OpQ.nilCheckP rfl) ?_
    refine Wl.q rfl rfl (OpQ.fieldAddr K31_fa109_1 rfl) ?_
    refine Wl.q rfl rfl (OpQ.loadF (b := b) K31_sc3 rfl (by repeat (first | exact Has.here | apply Has.there)) (by rfl)) ?_
    refine Wl.q rfl rfl (OpQ.add rfl rfl (by omega)) ?_
    refine Wl.q rfl rfl (OpQ.nilCheckP rfl) ?_
    refine Wl.q rfl rfl (OpQ.fieldAddr K31_fa109_1 rfl) ?_
    refine Wl.g rfl rfl (OpG.storeRow (a := some ⟨b, 0, none⟩) K31_sz3 rfl rfl rfl (by repeat (first | exact Upd.here | apply Upd.there)) (by simp)) ?_
    rintro _ _
    refine Wl.nil (PX.then_n (CT.seq (CT.region ?_)))
    refine Wl.q rfl rfl (OpQ.loadV (b := b3) K31_ag24 K31_sz24 rfl (by repeat (first | exact Has.here | apply Has.there)) (by rfl)) ?_
    refine Wl.g rfl rfl (OpG.storeV (b := b2) K31_sz24 rfl rfl rfl rfl (by repeat (first | exact Upd.here | apply Upd.there))) ?_
    rintro _ _
    refine Wl.nil (PX.then_n (CT.ret ?_))
    refine PX.retC rfl rfl (by repeat (first | exact Has.here | apply Has.there)) K31_ag24 K31_sz24 (by rfl) (fun w' hH => ?_)
    obtain ⟨q1, q2⟩ := (⟨q3, q4⟩ : _ ∧ _)
    exact ⟨(lfv 3 ((b0.toNat : Int) - 97), [], j1 + 1), ⟨by rw [lfv_e, q1]; first | done | rfl, by show j1 + 1 ≤ _; omega, by rw [q2]; exact hd1s⟩, rfl, HOk.post (HOk.take (HOk.fx0 (A := AllM []) (vs := [lfv 3 ((b0.toNat : Int) - 97)]) (hH.take (.cons .here .nil)) (fun w _ => AllM.one.2 (lfv_m _ _ w))) (.cons (.there .here) (.cons .here .nil)))⟩
   ·
    obtain ⟨h40b, l2, hp0, hl2⟩ := hm.at_40 h9 h13 h17
    refine CT.seq (CT.region ?_)
    refine Wl.q rfl rfl (OpQ.move rfl) ?_
    refine Wl.q rfl rfl (OpQ.eql rfl rfl) ?_
    refine Wl.q rfl rfl (OpQ.assign rfl) ?_
    refine Wl.nil (PX.then_n ?_)
    refine CT.cond rfl (fun h26 => ?_) (fun h26 => ?_)
    ·
     have h26 := of_decide_eq_true h26
     refine CT.seq (CT.region ?_)
     refine Wl.q rfl rfl (OpQ.move rfl) ?_
     refine Wl.q rfl rfl (OpQ.nilCheckP rfl) ?_
     refine Wl.q rfl rfl (OpQ.fieldAddr K31_fa109_1 rfl) ?_
     refine Wl.q rfl rfl (OpQ.loadF (b := b) K31_sc3 rfl (by repeat (first | exact Has.here | apply Has.there)) (by rfl)) ?_
     refine Wl.q rfl rfl (OpQ.add rfl rfl (by omega)) ?_
     refine Wl.know 33 (v' := .int .i64 ((j1 + 1 : Nat) : Int)) rfl (congrArg (Value.int .i64) (by omega)) ?_
     refine Wl.q rfl rfl (OpQ.nilCheckP rfl) ?_
     refine Wl.q rfl rfl (OpQ.fieldAddr K31_fa109_1 rfl) ?_
     refine Wl.g rfl rfl (OpG.storeRow (a := some ⟨b, 0, none⟩) K31_sz3 rfl rfl rfl (by repeat (first | exact Upd.here | apply Upd.there)) (by simp)) ?_
     rintro _ _
     refine Wl.nil (PX.then_n (CT.seq (CT.region ?_)))
     refine Wl.q rfl rfl (OpQ.move rfl) ?_
     refine Wl.g rfl rfl (OpG.callX K31_go66 rfl (.cons .here .nil) (fun _ => (.cons (.cons .nil))) (fun w hH hp => hf0 w (j1 + 1) _ _ (by omega) hp (by rw [hd1s]; exact hp0))) ?_
     rintro ⟨y, yb, j2⟩ ⟨hy, hj2, hrj2⟩
     refine Wl.g rfl rfl (OpG.storeV (b := b3) K31_sz24 rfl rfl rfl rfl (by repeat (first | exact Upd.here | apply Upd.there))) ?_
     rintro _ _
     refine Wl.nil (PX.then_n (CT.seq (CT.region ?_)))
     refine Wl.q rfl rfl (OpQ.move rfl) ?_
     refine Wl.g rfl rfl (OpG.callX K31_go67 rfl (.cons .here .nil) (fun _ => (.cons .nil)) (fun w hH hp => peek_spec w b ts hts j2 hj2 hp)) ?_
     rintro j3 ⟨hj3, hdj3⟩
     refine Wl.know 39 (v' := bv 41) rfl (congrArg bv (by rw [hrj2, hl2]; rfl)) ?_
     refine Wl.q rfl rfl (OpQ.neq rfl rfl) ?_
     refine Wl.know 40 (v' := .bool false) rfl (congrArg Value.bool rfl) ?_
     refine Wl.nil (PX.then_n ?_)
     refine CT.condF rfl ?_
     refine CT.skip (PX.block_n (PX.then_n (CT.seq (CT.region ?_))))
     refine Wl.q rfl rfl (OpQ.move rfl) ?_
     refine Wl.q rfl rfl (OpQ.nilCheckP rfl) ?_
     refine Wl.q rfl rfl (OpQ.fieldAddr K31_fa109_1 rfl) ?_
     refine Wl.q rfl rfl (OpQ.loadF (b := b) K31_sc3 rfl (by repeat (first | exact Has.here | apply Has.there)) (by rfl)) ?_
     refine Wl.q rfl rfl (OpQ.add rfl rfl (by omega)) ?_
     refine Wl.q rfl rfl (OpQ.nilCheckP rfl) ?_
     refine Wl.q rfl rfl (OpQ.fieldAddr K31_fa109_1 rfl) ?_
     refine Wl.g rfl rfl (OpG.storeRow (a := some ⟨b, 0, none⟩) K31_sz3 rfl rfl rfl (by repeat (first | exact Upd.here | apply Upd.there)) (by simp)) ?_
     rintro _ _
     refine Wl.nil (PX.then_n (CT.seq (CT.region ?_)))
     refine Wl.q rfl rfl (OpQ.loadV (b := b3) K31_ag24 K31_sz24 rfl (by repeat (first | exact Has.here | apply Has.there)) (by rfl)) ?_
     refine Wl.g rfl rfl (OpG.storeV (b := b2) K31_sz24 rfl rfl rfl rfl (by repeat (first | exact Upd.here | apply Upd.there))) ?_
     rintro _ _
     refine Wl.nil (PX.then_n (CT.ret ?_))
     refine PX.retC rfl rfl (by repeat (first | exact Has.here | apply Has.there)) K31_ag24 K31_sz24 (by rfl) (fun w' hH => ?_)
     obtain ⟨hj3s, hd3s⟩ := drop_tail (hdj3.trans (by rw [hrj2]; exact hl2))
     exact ⟨(y, yb, j3 + 1), ⟨hy, by show j3 + 1 ≤ _; omega, hd3s⟩, rfl, HOk.post (hH.take (.cons .here (.cons .here .nil)))⟩
    ·
     have h26 := of_decide_eq_false h26
     exact absurd h40b h26

theorem K31_go124 : isGo Tryz.prog 124 = true := by kernel_rfl
theorem K31_go96 : isGo Tryz.prog 96 = true := by kernel_rfl
set_option maxRecDepth 100000 in
/-- (*semigroup/expr.parser).and -/
theorem pand_spec (w : World) (b : Nat) (ts : Tx) (hts : ts.length ≤ 4096) (k : Nat) (hk : k ≤ ts.length) (hpre : Pre [.row 109 3 (vb b) 1 [sv ts, .int .i64 ((k : Nat) : Int), .int .i64 2]] w) (f : Tx → Option (Ex × Tx)) (hf : PartC Tryz.prog 109 124 b ts f) (n : Nat) (hn : n ≤ 1000000) (es : List Ex) (rest : Tx) (hm : pMany f (sepG 38) n (ts.drop k) = some (es, rest)) : Calls Tryz.prog 97 #[.pointer (some ⟨b, 0, none⟩)] w (fun e w' => ∃ i : Xv × List Nat × Nat, (toE i.1 = nodeE 6 es ∧ i.2.2 ≤ ts.length ∧ ts.drop i.2.2 = rest) ∧ e = .returned (evv i.1) ∧ Post (blks [.row 109 3 (vb b) 1 [sv ts, .int .i64 ((k : Nat) : Int), .int .i64 2]]) [.row 109 3 (vb b) 1 [sv ts, .int .i64 ((i.2.2 : Nat) : Int), .int .i64 2], fx (AllM []) [i.1] i.2.1] w w') := by
 refine enterX (args := [.pointer (some ⟨b, 0, none⟩)]) hpre 7 Tryz.func97 rfl rfl rfl ?_
 refine CT.seq (CT.region ?_)
 refine Wl.g rfl rfl (OpG.alloc (zs := [.int .i64 0, .int .i64 0, .slice none 0 0]) K31_in24 rfl rfl) ?_
 rintro b2 _
 refine Wl.nil (PX.then_n (CT.seq (CT.region ?_)))
 refine Wl.q rfl rfl (OpQ.move rfl) ?_
 refine Wl.q rfl rfl (OpQ.move rfl) ?_
 refine Wl.q rfl rfl (OpQ.makeFuncB rfl) ?_
 refine Wl.g rfl rfl (OpG.callX K31_go96 rfl (.cons (.there .here) .nil) (fun _ => (.cons (.cons .nil))) (fun w hH hp => list_spec w b ts hts k hk hp 6 38 (by decide) 124 K31_go124 f hf n hn es rest hm)) ?_
 rintro ⟨x, xb, j⟩ ⟨hx, hj, hr⟩
 refine Wl.g rfl rfl (OpG.storeV (b := b2) K31_sz24 rfl rfl rfl rfl (by repeat (first | exact Upd.here | apply Upd.there))) ?_
 rintro _ _
 refine Wl.nil (PX.then_n (CT.ret ?_))
 refine PX.retC rfl rfl (by repeat (first | exact Has.here | apply Has.there)) K31_ag24 K31_sz24 (by rfl) (fun w' hH => ?_)
 exact ⟨(x, xb, j), ⟨hx, hj, hr⟩, rfl, HOk.post (hH.take (.cons .here (.cons .here .nil)))⟩

theorem K31_go97 : isGo Tryz.prog 97 = true := by kernel_rfl
set_option maxRecDepth 100000 in
/-- (*semigroup/expr.parser).union -/
theorem punion_spec (w : World) (b : Nat) (ts : Tx) (hts : ts.length ≤ 4096) (k : Nat) (hk : k ≤ ts.length) (hpre : Pre [.row 109 3 (vb b) 1 [sv ts, .int .i64 ((k : Nat) : Int), .int .i64 2]] w) (f : Tx → Option (Ex × Tx)) (hf : PartC Tryz.prog 109 97 b ts f) (n : Nat) (hn : n ≤ 1000000) (es : List Ex) (rest : Tx) (hm : pMany f (sepG 124) n (ts.drop k) = some (es, rest)) : Calls Tryz.prog 66 #[.pointer (some ⟨b, 0, none⟩)] w (fun e w' => ∃ i : Xv × List Nat × Nat, (toE i.1 = nodeE 4 es ∧ i.2.2 ≤ ts.length ∧ ts.drop i.2.2 = rest) ∧ e = .returned (evv i.1) ∧ Post (blks [.row 109 3 (vb b) 1 [sv ts, .int .i64 ((k : Nat) : Int), .int .i64 2]]) [.row 109 3 (vb b) 1 [sv ts, .int .i64 ((i.2.2 : Nat) : Int), .int .i64 2], fx (AllM []) [i.1] i.2.1] w w') := by
 refine enterX (args := [.pointer (some ⟨b, 0, none⟩)]) hpre 7 Tryz.func66 rfl rfl rfl ?_
 refine CT.seq (CT.region ?_)
 refine Wl.g rfl rfl (OpG.alloc (zs := [.int .i64 0, .int .i64 0, .slice none 0 0]) K31_in24 rfl rfl) ?_
 rintro b2 _
 refine Wl.nil (PX.then_n (CT.seq (CT.region ?_)))
 refine Wl.q rfl rfl (OpQ.move rfl) ?_
 refine Wl.q rfl rfl (OpQ.move rfl) ?_
 refine Wl.q rfl rfl (OpQ.makeFuncB rfl) ?_
 refine Wl.g rfl rfl (OpG.callX K31_go96 rfl (.cons (.there .here) .nil) (fun _ => (.cons (.cons .nil))) (fun w hH hp => list_spec w b ts hts k hk hp 4 124 (by decide) 97 K31_go97 f hf n hn es rest hm)) ?_
 rintro ⟨x, xb, j⟩ ⟨hx, hj, hr⟩
 refine Wl.g rfl rfl (OpG.storeV (b := b2) K31_sz24 rfl rfl rfl rfl (by repeat (first | exact Upd.here | apply Upd.there))) ?_
 rintro _ _
 refine Wl.nil (PX.then_n (CT.ret ?_))
 refine PX.retC rfl rfl (by repeat (first | exact Has.here | apply Has.there)) K31_ag24 K31_sz24 (by rfl) (fun w' hH => ?_)
 exact ⟨(x, xb, j), ⟨hx, hj, hr⟩, rfl, HOk.post (hH.take (.cons .here (.cons .here .nil)))⟩

theorem parts (b : Nat) (ts : Tx) (hts : ts.length ≤ 4096) : ∀ n, n ≤ 1000000 → PartC Tryz.prog 109 66 b ts (pP 2 n 0) ∧ PartC Tryz.prog 109 97 b ts (pP 2 n 1) ∧ PartC Tryz.prog 109 124 b ts (pP 2 n 2) ∧ PartC Tryz.prog 109 130 b ts (pP 2 n 3) ∧ PartC Tryz.prog 109 134 b ts (pP 2 n 4) ∧ PartC Tryz.prog 109 146 b ts (pP 2 n 5) := by
 intro n
 induction n with
 | zero =>
  intro _
  refine ⟨?_, ?_, ?_, ?_, ?_, ?_⟩ <;> (intro w k e rest hk hp h; rw [pP] at h; cases h)
 | succ n ih =>
  intro hn
  obtain ⟨i0, i1, i2, i3, i4, i5⟩ := ih (by omega)
  refine ⟨?_, ?_, ?_, ?_, ?_, ?_⟩ <;> intro w k e rest hk hp h
  ·
   obtain ⟨m, es, hm, h1, rfl⟩ := pP_0 h
   obtain rfl : n = m := by omega
   exact punion_spec w b ts hts k hk hp _ i1 n (by omega) es rest h1
  ·
   obtain ⟨m, es, hm, h1, rfl⟩ := pP_1 h
   obtain rfl : n = m := by omega
   exact pand_spec w b ts hts k hk hp _ i2 n (by omega) es rest h1
  ·
   obtain ⟨m, es, hm, h1, rfl⟩ := pP_2 h
   obtain rfl : n = m := by omega
   exact pcat_spec w b ts hts k hk hp _ i3 n (by omega) es rest h1
  ·
   obtain ⟨m, hm, h1⟩ := pP_3 h
   obtain rfl : n = m := by omega
   exact punary_spec w b ts hts k hk hp _ _ i3 i4 e rest h1
  ·
   obtain ⟨m, e1, l1, hm, h1, h2⟩ := pP_4 h
   obtain rfl : n = m := by omega
   exact ppostfix_spec w b ts hts k hk hp _ i5 e1 l1 h1 n e rest h2
  ·
   obtain ⟨m, b0, l', hm, h1, h2⟩ := pP_5 h
   obtain rfl : n = m := by omega
   exact patom_spec w b ts hts k hk hp _ i0 b0 l' h1 e rest h2

end Go.Proofs.YtmggcdegekbncabGreatDoor

