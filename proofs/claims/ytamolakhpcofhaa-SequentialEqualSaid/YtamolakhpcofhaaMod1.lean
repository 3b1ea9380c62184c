/-
  Plain facts, without a program. No condition.
-/
import Derived.Test.YtamolakhpcofhaaMod
import Derived.Test.YtamolakhpcofhaaEng1
set_option linter.unusedSimpArgs false
namespace Go.Sq
open Go Go.Eng Go.Am
open Go.Tl (Wd bo okW okB)
/-! the function of the classes, row by row -/
def pad {α : Type} (m : Nat) (z : α) (l : List α) : List α := l ++ List.replicate (m - l.length) z
theorem pad_put {α : Type} {m k : Nat} {z v : α} {l : List α} (hk : l.length = k) (h : k < m) : (pad m z l).set k v = pad m z (l ++ [v]) := by
  subst hk
  unfold pad
  rw [show m - l.length = (m - (l.length + 1)) + 1 by omega, List.replicate_succ, List.set_append_right _ _ (Nat.le_refl _), Nat.sub_self, List.set_cons_zero, List.length_append, List.length_singleton, List.append_assoc, List.singleton_append]
def nrow (g : Sq) (c : List Nat) (p : Nat) : List (Option Nat) := (List.range g.L).map fun x => (g.to p x).map fun r => c.getD r 0
def orw (g : Sq) (p : Nat) : List Wd := (List.range g.L).map fun x => g.o p x
structure MiI (g : Sq) (c : List Nat) (q : Nat) (rs : List (Rx (Option Nat))) (os : List (Rx Wd)) : Prop where
  rl : rs.length = topL c
  ol : os.length = topL c
  nx : rs.map (·.xs) = pad (topL c) [] ((reps c q).map (nrow g c))
  ou : os.map (·.xs) = pad (topL c) [] ((reps c q).map (orw g))
  old : ∀ k, k < topL (c.take q) → (rs.getD k rx0).a.isSome = true
  new : ∀ k, topL (c.take q) ≤ k → rs.getD k rx0 = rx0
section
variable {g : Sq} {c : List Nat} {q : Nat} {rs : List (Rx (Option Nat))} {os : List (Rx Wd)}
theorem reps_old (hold : c.getD q 0 < topL (c.take q)) : reps c (q + 1) = reps c q := by rw [reps, if_pos hold]
theorem reps_new (hnew : c.getD q 0 = topL (c.take q)) : reps c (q + 1) = reps c q ++ [q] := by rw [reps, if_neg (by omega)]
theorem top_new (hq : q < c.length) (hnew : c.getD q 0 = topL (c.take q)) : topL (c.take (q + 1)) = topL (c.take q) + 1 := by rw [topL_take c hq]; omega
theorem MiI.put (h : MiI g c q rs os) (hfo : FO c) (hq : q < c.length) (hnew : c.getD q 0 = topL (c.take q)) {R : Rx (Option Nat)} {O : Rx Wd} (ha : R.a.isSome = true) (hR : R.xs = nrow g c q) (hO : O.xs = orw g q) : MiI g c (q + 1) (rs.set (c.getD q 0) R) (os.set (c.getD q 0) O) := by
  have hk : c.getD q 0 < topL c := topL_all c hq
  have hl : (reps c q).length = c.getD q 0 := by rw [reps_len hfo (by omega), hnew]
  refine ⟨by rw [List.length_set]; exact h.rl, by rw [List.length_set]; exact h.ol, ?_, ?_, fun k hk2 => ?_, fun k hk2 => ?_⟩
  · rw [List.map_set, h.nx, reps_new hnew, List.map_append, hR, pad_put (by rw [List.length_map, hl]) hk]; rfl
  · rw [List.map_set, h.ou, reps_new hnew, List.map_append, hO, pad_put (by rw [List.length_map, hl]) hk]; rfl
  · rw [top_new hq hnew] at hk2
    rw [gsetX]
    split
    · exact ha
    · rename_i hne
      refine h.old k ?_
      have : k ≠ c.getD q 0 := fun e => hne ⟨e.symm, by rw [h.rl]; exact hk⟩
      omega
  · rw [top_new hq hnew] at hk2
    rw [gsetX, if_neg (by omega)]
    exact h.new k (by omega)
end
theorem IsNorm.bis {f d : Sq} {M : Nat} (h : IsNorm f d) (hd : d.Ok M) : d.Bis ∧ (d = emptyQ d.L ∨ d.Nf) ∧ d.L = f.L := by
  rcases h.nf with rfl | ⟨_, h1, h2⟩
  · exact ⟨emptyQ_bis _, .inl rfl, rfl⟩
  · exact ⟨h2.bis hd.nf, .inr h2, h1⟩
theorem IsNorm.mini {f d m : Sq} (h : IsNorm f d) (hL : d.L = f.L) (hm : IsMinQ d.L d.value m) : IsMini f m := by
  unfold IsMini
  rw [← hL]
  exact hm.congr fun w hw => h.value (by rw [← hL]; exact hw)
end Go.Sq

namespace Go.Sq
open Go Go.Eng Go.Am
open Go.Tl (Wd bo okW okB)
/-! comparing; dealt functions -/
theorem sq_rows {S U : Sv} (h : S.sq = U.sq) (k : Nat) : (S.rs.getD k rx0).xs = (U.rs.getD k rx0).xs ∧ (S.os.getD k rx0).xs = (U.os.getD k rx0).xs := by
  have h1 : S.sq.nx.getD k [] = U.sq.nx.getD k [] := by rw [h]
  have h2 : S.sq.ou.getD k [] = U.sq.ou.getD k [] := by rw [h]
  have e1 : ∀ T : Sv, T.sq.nx.getD k [] = (T.rs.getD k rx0).xs := fun T => rx_getD _ _
  have e2 : ∀ T : Sv, T.sq.ou.getD k [] = (T.os.getD k rx0).xs := fun T => rx_getD _ _
  rw [e1, e1] at h1
  rw [e2, e2] at h2
  exact ⟨h1, h2⟩
theorem sq_lens {S U : Sv} (h : S.sq = U.sq) : S.rs.length = U.rs.length ∧ S.os.length = U.os.length ∧ S.en.length = U.en.length ∧ S.fi = U.fi := by
  have h1 : S.sq.nx.length = U.sq.nx.length := by rw [h]
  have h2 : S.sq.ou.length = U.sq.ou.length := by rw [h]
  have h3 : S.sq.en.length = U.sq.en.length := by rw [h]
  have h4 := congrArg Sq.fi h
  have e1 : ∀ T : Sv, T.sq.nx.length = T.rs.length := fun T => List.length_map ..
  have e2 : ∀ T : Sv, T.sq.ou.length = T.os.length := fun T => List.length_map ..
  rw [e1, e1] at h1
  rw [e2, e2] at h2
  exact ⟨h1, h2, h3, h4⟩
theorem sq_same {S U : Sv} (hL : S.L = U.L) (hs : S.s = U.s) (hi : S.init = U.init) (hn : S.rs.length = U.rs.length) (ho : S.os.length = U.os.length) (he : S.en.length = U.en.length) (hf : S.fi = U.fi) (hso : S.os.length = S.rs.length) (hse : S.en.length = S.rs.length)
    (h : ∀ k, k < S.rs.length → (S.rs.getD k rx0).xs = (U.rs.getD k rx0).xs ∧ (S.os.getD k rx0).xs = (U.os.getD k rx0).xs ∧ S.en.getD k false = U.en.getD k false) : S.sq = U.sq := by
  have h1 : S.rs.map (·.xs) = U.rs.map (·.xs) := list_ext_getD [] (by simp [hn]) fun k hk => by
    rw [List.length_map] at hk
    rw [rx_getD, rx_getD]; exact (h k hk).1
  have h2 : S.os.map (·.xs) = U.os.map (·.xs) := list_ext_getD [] (by simp [ho]) fun k hk => by
    rw [List.length_map, hso] at hk
    rw [rx_getD, rx_getD]; exact (h k hk).2.1
  have h3 : S.en = U.en := list_ext_getD false he fun k hk => (h k (by rw [← hse]; exact hk)).2.2
  unfold Sv.sq
  rw [hL, hs, hi, hf, h1, h2, h3]
theorem okT_of_okW {M : Nat} {l : Wd} {k : Int} (h : okW l k = true) (hk : k ≤ 6) (hl : l.length ≤ M) : okT M l := by
  refine ⟨hl, fun b hb => ?_⟩
  unfold okW at h
  simp only [Bool.and_eq_true, List.all_eq_true] at h
  have := h.2.2 b hb
  unfold okB at this
  simp only [Bool.and_eq_true, decide_eq_true_eq] at this
  omega
/-- bytes among so many letters -/
def okO (o : Int) (s : Wd) : Prop := ∀ b ∈ s, (b.toNat : Int) < 97 + o
theorem okO.nil (o : Int) : okO o [] := fun _ h => by cases h
theorem okO.app {o : Int} {s t : Wd} (h : okO o s) (k : okO o t) : okO o (s ++ t) := fun b hb => by
  rcases List.mem_append.1 hb with h1 | h1
  · exact h b h1
  · exact k b h1
theorem okO_of_okW {l : Wd} {k : Int} (h : okW l k = true) : okO k l := by
  intro b hb
  unfold okW at h
  simp only [Bool.and_eq_true, List.all_eq_true] at h
  have := h.2.2 b hb
  unfold okB at this
  simp only [Bool.and_eq_true, decide_eq_true_eq] at this
  omega
structure Sq.Over (u : Int) (d : Sq) : Prop where
  i : okO u d.init
  o : ∀ q x, q < d.n → x < d.L → okO u (d.o q x)
  f : ∀ q, q < d.n → okO u (d.f q)
/-- a row that is dealt letter by letter -/
structure RowI (o : Int) (n x : Nat) (xs : List (Option Nat)) (ws : List Wd) : Prop where
  xl : xs.length = x
  wl : ws.length = x
  lt : ∀ y r, xs.getD y none = some r → r < n
  no : ∀ y, y < x → xs.getD y none = none → ws.getD y [] = []
  to : ∀ y, okT 2 (ws.getD y [])
  ov : ∀ y, okO o (ws.getD y [])
theorem getD_snoc {α : Type} (l : List α) (v z : α) (y : Nat) : (l ++ [v]).getD y z = if y = l.length then v else l.getD y z := by
  rw [List.getD_eq_getElem?_getD, List.getD_eq_getElem?_getD]
  rcases Nat.lt_trichotomy y l.length with h | h | h
  · rw [if_neg (by omega), List.getElem?_append_left h]
  · rw [if_pos h, h, List.getElem?_append_right (Nat.le_refl _), Nat.sub_self]; rfl
  · rw [if_neg (by omega), List.getElem?_append_right (by omega), List.getElem?_eq_none (by omega : l.length ≤ y), List.getElem?_eq_none (by simp; omega)]
theorem RowI.start (o : Int) (n : Nat) : RowI o n 0 [] [] := ⟨rfl, rfl, fun y r h => by simp at h, fun y h => by omega, fun y => by simp [okT.nil], fun y => by simp [okO.nil]⟩
theorem RowI.snoc {o : Int} {n x : Nat} {xs : List (Option Nat)} {ws : List Wd} (h : RowI o n x xs ws) {t : Option Nat} {v : Wd} (ht : ∀ r, t = some r → r < n) (hn : t = none → v = []) (hv : okT 2 v ∧ okO o v) : RowI o n (x + 1) (xs ++ [t]) (ws ++ [v]) := by
  refine ⟨by rw [List.length_append, h.xl]; rfl, by rw [List.length_append, h.wl]; rfl, fun y r hy => ?_, fun y hy hx => ?_, fun y => ?_, fun y => ?_⟩
  · rw [getD_snoc] at hy
    split at hy
    · exact ht r hy
    · exact h.lt y r hy
  · rw [getD_snoc, h.xl] at hx
    rw [getD_snoc, h.wl]
    split
    · rename_i e; rw [if_pos e] at hx; exact hn hx
    · rename_i e; rw [if_neg e] at hx; exact h.no y (by omega) hx
  · rw [getD_snoc]
    split
    · exact hv.1
    · exact h.to y
  · rw [getD_snoc]
    split
    · exact hv.2
    · exact h.ov y
structure TqI (o : Int) (L n k : Nat) (rs : List (Rx (Option Nat))) (os : List (Rx Wd)) (es : List Bool) (fs : List Wd) : Prop where
  rl : rs.length = k
  ol : os.length = k
  el : es.length = k
  fl : fs.length = k
  row : ∀ q, q < k → RowI o n L (rs.getD q rx0).xs (os.getD q rx0).xs
  nf : ∀ q, q < k → es.getD q false = false → fs.getD q [] = []
  tf : ∀ q, okT 2 (fs.getD q [])
  fo : ∀ q, okO o (fs.getD q [])
theorem TqI.start (o : Int) (L n : Nat) : TqI o L n 0 [] [] [] [] := ⟨rfl, rfl, rfl, rfl, fun q h => by omega, fun q h => by omega, fun q => by simp [okT.nil], fun q => by simp [okO.nil]⟩
theorem TqI.snoc {u : Int} {L n k : Nat} {rs : List (Rx (Option Nat))} {os : List (Rx Wd)} {es : List Bool} {fs : List Wd} (h : TqI u L n k rs os es fs) {r : Rx (Option Nat)} {o : Rx Wd} {e : Bool} {v : Wd} (hr : RowI u n L r.xs o.xs) (hn : e = false → v = []) (hv : okT 2 v ∧ okO u v) : TqI u L n (k + 1) (rs ++ [r]) (os ++ [o]) (es ++ [e]) (fs ++ [v]) := by
  refine ⟨by rw [List.length_append, h.rl]; rfl, by rw [List.length_append, h.ol]; rfl, by rw [List.length_append, h.el]; rfl, by rw [List.length_append, h.fl]; rfl, fun q hq => ?_, fun q hq he => ?_, fun q => ?_, fun q => ?_⟩
  · rw [getD_snoc, getD_snoc, h.rl, h.ol]
    split
    · exact hr
    · exact h.row q (by omega)
  · rw [getD_snoc, h.el] at he
    rw [getD_snoc, h.fl]
    split
    · rename_i e2; rw [if_pos e2] at he; exact hn he
    · rename_i e2; rw [if_neg e2] at he; exact h.nf q (by omega) he
  · rw [getD_snoc]
    split
    · exact hv.1
    · exact h.tf q
  · rw [getD_snoc]
    split
    · exact hv.2
    · exact h.fo q
theorem TqI.over {u : Int} {S : Sv} (h : TqI u S.L S.rs.length S.rs.length S.rs S.os S.en S.fi) (hi : okO u S.init) : S.sq.Over u :=
  ⟨hi, fun q x hq hx => by
    rw [S.n_eq] at hq
    rw [S.o_eq]
    exact (h.row q hq).ov x, fun q hq => h.fo q⟩
theorem TqI.ok {u : Int} {S : Sv} (h : TqI u S.L S.rs.length S.rs.length S.rs S.os S.en S.fi) (hL : 1 ≤ S.L ∧ S.L ≤ 6) (hn : S.rs.length ≤ 512) (hs : S.s < S.rs.length) (hi : okT 2 S.init) : S.sq.Ok 2 := by
  have e := S.n_eq
  refine ⟨hL, by rw [e]; exact hn, by rw [e]; exact hs, ⟨?_, ?_, ?_⟩, fun q hq => ?_, fun q x r hq hx ht => ?_, fun q x hq hx ht => ?_, fun q hq he => ?_, hi, fun q x hq hx => ?_, fun q hq => ?_⟩
  · show (S.os.map _).length = _; rw [List.length_map, e, h.ol]
  · show S.en.length = _; rw [e, h.el]
  · show S.fi.length = _; rw [e, h.fl]
  all_goals rw [e] at hq
  · refine ⟨?_, ?_⟩
    · show ((S.rs.map (·.xs)).getD q []).length = S.L
      rw [rx_getD, (h.row q hq).xl]
    · show ((S.os.map (·.xs)).getD q []).length = S.L
      rw [rx_getD, (h.row q hq).wl]
  · rw [S.to_eq] at ht
    rw [e]
    exact (h.row q hq).lt x r ht
  · rw [S.to_eq] at ht
    rw [S.o_eq]
    exact (h.row q hq).no x hx ht
  · exact h.nf q hq he
  · rw [S.o_eq]
    exact (h.row q hq).to x
  · exact h.tf q
end Go.Sq
namespace Go.Sq
open Go Go.Eng Go.Am
open Go.Tl (Wd bo)
/-! the law of normal and minimal functions -/
theorem IsNorm.n_le {f d : Sq} {M : Nat} (hf : f.Ok M) (h : IsNorm f d) : d.n ≤ f.n := by
  obtain ⟨g, h1, h2⟩ := h
  have := (IsTrim.ok hf h1).2
  rcases h2 with ⟨_, rfl⟩ | ⟨_, P, _, rfl⟩
  · exact this
  · exact this
def kn : Sq := ⟨1, 0, [], [true], [[98]], [[some 0]], [[[98]]]⟩
theorem kn_ok : kn.Ok 1 := by
  refine ⟨⟨Nat.le_refl _, by decide⟩, by decide, by decide, ⟨rfl, rfl, rfl⟩, fun q hq => ?_, fun q x r hq hx h => ?_, fun q x hq hx h => ?_, fun q hq h => ?_, okT.nil 1, fun q x hq hx => ?_, fun q hq => ?_⟩
  all_goals (obtain rfl : q = 0 := Nat.lt_one_iff.1 hq)
  · exact ⟨rfl, rfl⟩
  · obtain rfl : x = 0 := Nat.lt_one_iff.1 hx
    cases h; decide
  · obtain rfl : x = 0 := Nat.lt_one_iff.1 hx
    cases h
  · cases h
  · obtain rfl : x = 0 := Nat.lt_one_iff.1 hx
    exact ⟨by decide, fun b hb => by obtain rfl := List.mem_singleton.1 hb; decide⟩
  · exact ⟨by decide, fun b hb => by obtain rfl := List.mem_singleton.1 hb; decide⟩
theorem kn_step {x : Nat} {w : List Nat} (hx : x < 1) : kn.tr.val 0 (x :: w) = (kn.tr.val 0 w).map ([98] ++ ·) := by
  obtain rfl : x = 0 := by omega
  exact kn.tr.val_some rfl
theorem kn_val : ∀ {w : List Nat}, InW 1 w → ∃ t, kn.tr.val 0 w = some (98 :: t)
  | [], _ => ⟨[], rfl⟩
  | x :: w, h => by
    obtain ⟨t, e⟩ := kn_val h.tail
    exact ⟨98 :: t, by rw [kn_step h.head, e]; rfl⟩
theorem kn_pf {P : List Wd} (h : kn.Pf P) : P = [[98]] := by
  refine h.unique ⟨rfl, fun q hq => ?_⟩
  obtain rfl : q = 0 := Nat.lt_one_iff.1 hq
  refine ⟨fun w v hw hv => ?_, fun p' hp => hp [] _ (InW.nil 1) rfl⟩
  obtain ⟨t, e⟩ := kn_val hw
  rw [e] at hv
  cases hv
  exact ⟨t, rfl⟩
theorem kn_co : kn.tr.co 1 0 = true := Tr.co_t.2 ⟨[], InW.nil 1, rfl⟩
theorem kn_trim {g : Sq} (h : IsTrim kn.tr 1 0 [] g) : g = kn := by
  refine Sq.Trimmed.again kn_ok.fit ⟨rfl, ?_, fun q hq => ?_⟩ Nat.zero_lt_one h
  · have h0 : bfsP kn.to 1 0 (0 * 1) = [0] := rfl
    have h1 : bfsP kn.to 1 0 (1 * 1) = [0] := rfl
    exact ⟨1 * 1, DoneP.of (Nat.zero_lt_one) (GoingP.next GoingP.zero (by show 0 < (bfsP kn.to 1 0 (0 * 1)).length; rw [h0]; exact Nat.zero_lt_one)) (by show (bfsP kn.to 1 0 (1 * 1)).length ≤ 1; rw [h1]; exact Nat.le_refl _), h1⟩
  · obtain rfl : q = 0 := Nat.lt_one_iff.1 hq
    exact kn_co
theorem kn_norm {d : Sq} (h : IsNorm kn d) : d = ⟨1, 0, [98], [true], [[]], [[some 0]], [[[98]]]⟩ := by
  obtain ⟨g, h1, h2⟩ := h
  have hg := kn_trim h1
  subst hg
  rcases h2 with ⟨h2, _⟩ | ⟨_, P, hP, rfl⟩
  · rw [show kn.tr.co kn.L kn.s = true from kn_co] at h2; cases h2
  · rw [kn_pf hP]; rfl
end Go.Sq

namespace Go.Sq
open Go Go.Eng Go.Am
open Go.Tl (Wd bo okW)
/-! a system that is listed with all its steps -/
/-! runs -/
theorem wl_app (v w : Wd) : wl (v ++ w) = wl v ++ wl w := List.map_append
theorem wl_inO {M : Nat} {L : Nat} {w : Wd} (h : okT M w) (ho : okO L w) : InW L (wl w) := fun x hx => by
  obtain ⟨b, hb, rfl⟩ := List.mem_map.1 hx
  have h1 := h.2 b hb
  have h2 := ho b hb
  omega
theorem run_in {g : Sq} {M : Nat} (hg : g.Ok M) : ∀ {w : List Nat} {p : Nat} {r : Nat × Wd}, InW g.L w → p < g.n → g.tr.run p w = some r → r.1 < g.n ∧ okT (w.length * M) r.2 ∧ (∀ u, g.Over u → okO u r.2)
  | [], p, r, _, hp, h => by
    have h : some (p, []) = some r := h
    cases h
    exact ⟨hp, okT.nil _, fun u _ => okO.nil u⟩
  | x :: w, p, r, hw, hp, h => by
    cases e : g.tr.to p x with
    | none => rw [Tr.run_none e] at h; cases h
    | some t =>
      rw [Tr.run_some e] at h
      obtain ⟨r', h1, rfl⟩ := Option.map_eq_some_iff.1 h
      obtain ⟨a, b, c⟩ := run_in hg hw.tail (hg.lt p x t hp hw.head e) h1
      refine ⟨a, ?_, fun u hu => (hu.o p x hp hw.head).app (c u hu)⟩
      have := (hg.to' p x hp hw.head).app b
      rw [List.length_cons, Nat.add_mul, Nat.one_mul, Nat.add_comm]
      exact this
/-! composition -/
end Go.Sq

namespace Go.Sq
open Go Go.Eng Go.Am
open Go.Tl (Wd bo okW)
/-! walks along a word from any state; the list of all outputs -/
section
variable {d : Sq} {ws : Wd} {q0 : Nat}
theorem run_deadQ {k q : Nat} {l : Wd} (hk : k < ws.length) (h : d.tr.run q0 ((wl ws).take k) = some (q, l)) (hn : d.to q ((ws.getD k 0).toNat - 97) = none) : d.tr.run q0 (wl ws) = none := by
  rw [wl_split hk, Tr.run_app, h, Option.bind_some, d.tr.run_none hn]; rfl
theorem run_stepQ {k q r : Nat} {l : Wd} (hk : k < ws.length) (h : d.tr.run q0 ((wl ws).take k) = some (q, l)) (hn : d.to q ((ws.getD k 0).toNat - 97) = some r) : d.tr.run q0 ((wl ws).take (k + 1)) = some (r, l ++ d.o q ((ws.getD k 0).toNat - 97)) := by
  rw [wl_take_s hk, Tr.run_snoc h, show d.tr.to q _ = some r from hn]; rfl
theorem run_endQ {p : Nat × Wd} (h : d.tr.run q0 ((wl ws).take ws.length) = some p) : d.tr.run q0 (wl ws) = some p := by
  rwa [List.take_of_length_le (Nat.le_of_eq (wl_len ws))] at h
end
/-- what run answers -/
def RnI : Option (Nat × Wd) → Option Nat × Wd → Prop
  | none, p => p.1 = none
  | some r, p => p = (some r.1, r.2)
theorem Rn_some {o : Option (Nat × Wd)} {p : Option Nat × Wd} (h : RnI o p) {n : Nat} (hp : p.1 = some n) : o = some (n, p.2) := by
  cases o with
  | none => have h : p.1 = none := h; rw [h] at hp; cases hp
  | some r =>
    have h : p = (some r.1, r.2) := h
    subst h
    cases hp; rfl
theorem Rn_none {o : Option (Nat × Wd)} {p : Option Nat × Wd} (h : RnI o p) (hp : p.1 = none) : o = none := by
  cases o with
  | none => rfl
  | some r =>
    have h : p = (some r.1, r.2) := h
    subst h
    cases hp
theorem mem_getD {α : Type} {l : List α} {a : α} (h : a ∈ l) (z : α) : ∃ i, i < l.length ∧ l.getD i z = a := by
  obtain ⟨i, hi, rfl⟩ := List.mem_iff_getElem.1 h
  exact ⟨i, hi, by rw [List.getD_eq_getElem?_getD, List.getElem?_eq_getElem hi]; rfl⟩
end Go.Sq

namespace Go.Sq
open Go Go.Eng Go.Am
open Go.Tl (Wd bo okW)
/-! a system that is listed row by row, while the list grows -/
section
variable {α : Type} (st : α → Nat → Option α) (T : Tr α) (L : Nat)
/-- the output of a step -/
def ow (a : α) (x : Nat) : Wd := if (st a x).isSome then T.ou a x else []
/-- a row is done so far; l: the list -/
def EntA (l : List α) (o : Option α) (z : Option Nat) : Prop := match o with
  | none => z = none
  | some b => ∃ n, z = some n ∧ l[n]? = some b
theorem EntA.grow {l t : List α} {o : Option α} {z : Option Nat} (h : EntA l o z) : EntA (l ++ t) o z := by
  cases o with
  | none => exact h
  | some b =>
    obtain ⟨n, h1, h2⟩ := h
    refine ⟨n, h1, ?_⟩
    have hn : n < l.length := (List.getElem?_eq_some_iff.1 h2).1
    rw [List.getElem?_append_left hn]; exact h2
theorem EntA.idx [DecidableEq α] {l : List α} {o : Option α} {z : Option Nat} (hd : l.Nodup) (h : EntA l o z) : z = o.map fun b => l.idxOf b := by
  cases o with
  | none => exact h
  | some b =>
    obtain ⟨n, rfl, h2⟩ := h
    have hn : n < l.length := (List.getElem?_eq_some_iff.1 h2).1
    have := idxOf_getD hd hn b
    rw [List.getD_eq_getElem?_getD, h2] at this
    show some n = some (l.idxOf b)
    exact congrArg some this.symm
theorem EntA.of [DecidableEq α] {l : List α} {b : α} (h : b ∈ l) : EntA l (some b) (some (l.idxOf b)) := ⟨l.idxOf b, rfl, by
  have h1 := List.idxOf_lt_length_of_mem h
  have := getD_idxOf h b
  rw [List.getD_eq_getElem?_getD, List.getElem?_eq_getElem h1] at this
  rw [List.getElem?_eq_getElem h1]
  exact congrArg some this⟩
structure RowA (l : List α) (a : α) (x : Nat) (xs : List (Option Nat)) : Prop where
  len : xs.length = x
  ent : ∀ y, y < x → EntA l (st a y) (xs.getD y none)
structure RowP (l : List α) (a : α) (x : Nat) (xs : List (Option Nat)) : Prop where
  len : xs.length = L
  ent : ∀ y, y < x → EntA l (st a y) (xs.getD y none)
  non : ∀ y, x ≤ y → xs.getD y none = none
structure OutP (a : α) (x : Nat) (ws : List Wd) : Prop where
  len : ws.length = L
  ent : ∀ y, y < x → ws.getD y [] = ow st T a y
  non : ∀ y, x ≤ y → ws.getD y [] = []
def owR (a : α) (x : Nat) : List Wd := (List.range x).map (ow st T a)
variable {st T L}
theorem owR_s (a : α) (x : Nat) : owR st T a (x + 1) = owR st T a x ++ [ow st T a x] := by simp [owR, List.range_succ]
theorem owR_len (a : α) (x : Nat) : (owR st T a x).length = x := by simp [owR]
theorem RowA.start (l : List α) (a : α) : RowA st l a 0 [] := ⟨rfl, fun y h => by omega⟩
theorem RowA.grow {l t : List α} {a : α} {x : Nat} {xs : List (Option Nat)} (h : RowA st l a x xs) : RowA st (l ++ t) a x xs := ⟨h.len, fun y hy => (h.ent y hy).grow⟩
theorem RowA.snoc {l : List α} {a : α} {x : Nat} {xs : List (Option Nat)} (h : RowA st l a x xs) {z : Option Nat} (hz : EntA l (st a x) z) : RowA st l a (x + 1) (xs ++ [z]) := ⟨by rw [List.length_append, h.len]; rfl, fun y hy => by
  rw [getD_snoc, h.len]
  split
  · rename_i e; rw [e]; exact hz
  · exact h.ent y (by omega)⟩
theorem RowP.grow {l t : List α} {a : α} {x : Nat} {xs : List (Option Nat)} (h : RowP st L l a x xs) : RowP st L (l ++ t) a x xs := ⟨h.len, fun y hy => (h.ent y hy).grow, h.non⟩
theorem getD_set' {β : Type} (l : List β) (i j : Nat) (v z : β) : (l.set i v).getD j z = if i = j ∧ i < l.length then v else l.getD j z := by
  simp only [List.getD_eq_getElem?_getD, List.getElem?_set]
  by_cases h : i = j
  · subst h
    by_cases h2 : i < l.length <;> simp [h2]
  · simp [h]
theorem RowP.put {l : List α} {a : α} {x : Nat} {xs : List (Option Nat)} (h : RowP st L l a x xs) (hx : x < L) {z : Option Nat} (hz : EntA l (st a x) z) : RowP st L l a (x + 1) (xs.set x z) := ⟨by rw [List.length_set]; exact h.len, fun y hy => by
  rw [getD_set']
  split
  · rename_i e; rw [← e.1]; exact hz
  · rename_i e
    refine h.ent y ?_
    rcases Nat.lt_or_ge y x with h1 | h1
    · exact h1
    · exact absurd ⟨by omega, by rw [h.len]; exact hx⟩ e, fun y hy => by
  rw [getD_set', if_neg (by omega)]; exact h.non y (by omega)⟩
theorem OutP.put {a : α} {x : Nat} {ws : List Wd} (h : OutP st T L a x ws) (hx : x < L) {b : α} (hb : st a x = some b) : OutP st T L a (x + 1) (ws.set x (T.ou a x)) := ⟨by rw [List.length_set]; exact h.len, fun y hy => by
  rw [getD_set']
  split
  · rename_i e; rw [← e.1, ow, hb]; rfl
  · rename_i e
    refine h.ent y ?_
    rcases Nat.lt_or_ge y x with h1 | h1
    · exact h1
    · exact absurd ⟨by omega, by rw [h.len]; exact hx⟩ e, fun y hy => by
  rw [getD_set', if_neg (by omega)]; exact h.non y (by omega)⟩
/-- the rows of the first i states of a list -/
structure CpI (st : α → Nat → Option α) (T : Tr α) (L : Nat) (z : α) (l : List α) (i : Nat) (rs : List (Rx (Option Nat))) (os : List (Rx Wd)) (es : List Bool) (fs : List Wd) : Prop where
  il : i ≤ l.length
  rl : rs.length = i
  ol : os.length = i
  el : es.length = i
  fl : fs.length = i
  row : ∀ j, j < i → RowA st l (l.getD j z) L (rs.getD j rx0).xs ∧ (os.getD j rx0).xs = owR st T (l.getD j z) L ∧ es.getD j false = T.en (l.getD j z) ∧ fs.getD j [] = T.fi (l.getD j z)
theorem CpI.start (z : α) (l : List α) : CpI st T L z l 0 [] [] [] [] := ⟨Nat.zero_le _, rfl, rfl, rfl, rfl, fun j h => by omega⟩
theorem getD_grow {β : Type} {l t : List β} {j : Nat} (h : j < l.length) (z : β) : (l ++ t).getD j z = l.getD j z := by
  rw [List.getD_eq_getElem?_getD, List.getElem?_append_left h, List.getD_eq_getElem?_getD]
theorem CpI.grow {z : α} {l t : List α} {i : Nat} {rs : List (Rx (Option Nat))} {os : List (Rx Wd)} {es : List Bool} {fs : List Wd} (h : CpI st T L z l i rs os es fs) : CpI st T L z (l ++ t) i rs os es fs :=
  ⟨by have := h.il; rw [List.length_append]; omega, h.rl, h.ol, h.el, h.fl, fun j hj => by
    rw [getD_grow (by have := h.il; omega)]
    obtain ⟨a, b⟩ := h.row j hj
    exact ⟨a.grow, b⟩⟩
theorem CpI.snoc {z : α} {l : List α} {i : Nat} {rs : List (Rx (Option Nat))} {os : List (Rx Wd)} {es : List Bool} {fs : List Wd} (h : CpI st T L z l i rs os es fs) (hi : i < l.length) {r : Rx (Option Nat)} {o : Rx Wd} {e : Bool} {f : Wd}
    (hr : RowA st l (l.getD i z) L r.xs) (ho : o.xs = owR st T (l.getD i z) L) (he : e = T.en (l.getD i z)) (hf : f = T.fi (l.getD i z)) : CpI st T L z l (i + 1) (rs ++ [r]) (os ++ [o]) (es ++ [e]) (fs ++ [f]) :=
  ⟨hi, by rw [List.length_append, h.rl]; rfl, by rw [List.length_append, h.ol]; rfl, by rw [List.length_append, h.el]; rfl, by rw [List.length_append, h.fl]; rfl, fun j hj => by
    rw [getD_snoc, getD_snoc, getD_snoc, getD_snoc, h.rl, h.ol, h.el, h.fl]
    by_cases e1 : j = i
    · rw [if_pos e1, if_pos e1, if_pos e1, if_pos e1, e1]
      exact ⟨hr, ho, he, hf⟩
    · rw [if_neg e1, if_neg e1, if_neg e1, if_neg e1]
      exact h.row j (by omega)⟩
def lsT [DecidableEq α] (st : α → Nat → Option α) (T : Tr α) (L : Nat) (init : Wd) (l : List α) : Sq :=
  ⟨L, 0, init, l.map T.en, l.map T.fi, l.map fun a => (List.range L).map fun x => (st a x).map fun b => l.idxOf b, l.map fun a => (List.range L).map fun x => if (st a x).isSome then T.ou a x else []⟩
theorem CpI.done [DecidableEq α] {z : α} {l : List α} {rs : List (Rx (Option Nat))} {os : List (Rx Wd)} {es : List Bool} {fs : List Wd} (h : CpI st T L z l l.length rs os es fs) (hd : l.Nodup) (init : Wd) (na oa ea fa : Option Addr) (nc oc ec fc : Nat) : (⟨L, 0, init, na, nc, rs, oa, oc, os, ea, ec, es, fa, fc, fs⟩ : Sv).sq = lsT st T L init l := by
  have h1 : rs.map (·.xs) = l.map fun a => (List.range L).map fun x => (st a x).map fun b => l.idxOf b := list_ext_getD [] (by rw [List.length_map, List.length_map, h.rl]) fun i hi => by
    rw [List.length_map, h.rl] at hi
    rw [rx_getD, getD_map _ l [] z hi]
    have hr := (h.row i hi).1
    refine list_ext_getD none (by rw [hr.len, List.length_map, List.length_range]) fun y hy => ?_
    rw [hr.len] at hy
    rw [getD_rng _ _ _ hy]
    exact (hr.ent y hy).idx hd
  have h2 : os.map (·.xs) = l.map fun a => (List.range L).map fun x => if (st a x).isSome then T.ou a x else [] := list_ext_getD [] (by rw [List.length_map, List.length_map, h.ol]) fun i hi => by
    rw [List.length_map, h.ol] at hi
    rw [rx_getD, getD_map _ l [] z hi, (h.row i hi).2.1]; rfl
  have h3 : es = l.map T.en := list_ext_getD false (by rw [List.length_map, h.el]) fun i hi => by
    rw [h.el] at hi
    rw [getD_map _ l false z hi, (h.row i hi).2.2.1]
  have h4 : fs = l.map T.fi := list_ext_getD [] (by rw [List.length_map, h.fl]) fun i hi => by
    rw [h.fl] at hi
    rw [getD_map _ l [] z hi, (h.row i hi).2.2.2]
  unfold Sv.sq lsT
  rw [← h1, ← h2, ← h3, ← h4]
end
/-! states that are reached, states from which values come -/
def Rch (d : Sq) (p : Nat) : Prop := ∃ w l, InW d.L w ∧ d.tr.run d.s w = some (p, l)
theorem Rch.start (d : Sq) : Rch d d.s := ⟨[], [], InW.nil _, rfl⟩
theorem Rch.next {d : Sq} {p x r : Nat} (h : Rch d p) (hx : x < d.L) (ht : d.to p x = some r) : Rch d r := by
  obtain ⟨w, l, h1, h2⟩ := h
  exact ⟨w ++ [x], l ++ d.o p x, h1.app (InW.cons hx (InW.nil _)), by rw [Tr.run_snoc h2, show d.tr.to p x = some r from ht]; rfl⟩
theorem Rch.all {d : Sq} {P : Nat → Prop} (h0 : P d.s) (hs : ∀ p x r, P p → x < d.L → d.to p x = some r → P r) {p : Nat} (h : Rch d p) : P p := by
  obtain ⟨w, l, h1, h2⟩ := h
  have key : ∀ (w : List Nat) (q : Nat) (l : Wd), P q → InW d.L w → d.tr.run q w = some (p, l) → P p := by
    intro w
    induction w with
    | nil => intro q l hq _ h; have h : some (q, []) = some (p, l) := h; cases h; exact hq
    | cons x w ih =>
      intro q l hq hw h
      cases e : d.tr.to q x with
      | none => rw [Tr.run_none e] at h; cases h
      | some r =>
        rw [Tr.run_some e] at h
        obtain ⟨p', h3, h4⟩ := Option.map_eq_some_iff.1 h
        have e5 : p'.1 = p := congrArg Prod.fst h4
        exact ih r p'.2 (hs q x r hq hw.head e) hw.tail (by rw [h3, ← e5])
  exact key w _ l h0 h1 h2
def cnt (B : List Bool) : Nat := (B.filter id).length
theorem cnt_le (B : List Bool) : cnt B ≤ B.length := List.length_filter_le _ _
theorem cnt_set : ∀ {B : List Bool} {i : Nat}, i < B.length → B.getD i false = false → cnt (B.set i true) = cnt B + 1
  | [], i, h, _ => absurd h (Nat.not_lt_zero _)
  | b :: B, 0, _, h => by
    have h : b = false := h
    subst h
    show (List.filter id (true :: B)).length = (List.filter id (false :: B)).length + 1
    simp
  | b :: B, i + 1, h, h2 => by
    have ih := cnt_set (B := B) (i := i) (by simpa using h) h2
    unfold cnt at ih ⊢
    cases b
    · show (List.filter id (false :: B.set i true)).length = (List.filter id (false :: B)).length + 1
      simpa using ih
    · show (List.filter id (true :: B.set i true)).length = (List.filter id (true :: B)).length + 1
      simpa using ih
/-- a pass over the steps; c0: the number before -/
structure UsI (d : Sq) (c0 : Nat) (B : List Bool) (ch : Bool) (q x : Nat) : Prop where
  len : B.length = d.n
  sound : ∀ p, B.getD p false = true → d.tr.co d.L p = true
  ends : ∀ p, p < d.n → d.e p = true → B.getD p false = true
  cl : ch = false → ∀ p y r, p < q ∨ (p = q ∧ y < x) → y < d.L → d.to p y = some r → B.getD r false = true → B.getD p false = true
  up : c0 + (if ch then 1 else 0) ≤ cnt B + 1
theorem UsI.next {d : Sq} {c0 q : Nat} {B : List Bool} {ch : Bool} (h : UsI d c0 B ch q d.L) : UsI d c0 B ch (q + 1) 0 :=
  ⟨h.len, h.sound, h.ends, fun hc p y r hp hy ht hr => h.cl hc p y r (by omega) hy ht hr, h.up⟩
theorem UsI.pass {d : Sq} {c0 : Nat} {B : List Bool} {ch : Bool} {q x : Nat} (h : UsI d c0 B ch q x) : UsI d (cnt B + 1) B false 0 0 :=
  ⟨h.len, h.sound, h.ends, fun _ p y r hp => by omega, by simp⟩
theorem UsI.keep {d : Sq} {c0 q x : Nat} {B : List Bool} {ch : Bool} (h : UsI d c0 B ch q x) (hk : ∀ r, d.to q x = some r → B.getD r false = true → B.getD q false = true) : UsI d c0 B ch q (x + 1) :=
  ⟨h.len, h.sound, h.ends, fun hc p y r hp hy ht hr => by
    by_cases e : p = q ∧ y = x
    · rw [e.1] at ht ⊢; rw [e.2] at ht; exact hk r ht hr
    · exact h.cl hc p y r (by omega) hy ht hr, h.up⟩
theorem UsI.put {d : Sq} {c0 q x r : Nat} {B : List Bool} {ch : Bool} (h : UsI d c0 B ch q x) (hq : q < d.n) (hx : x < d.L) (ht : d.to q x = some r) (hr : B.getD r false = true) (hn : B.getD q false = false) : UsI d c0 (B.set q true) true q (x + 1) := by
  have hl : q < B.length := by rw [h.len]; exact hq
  refine ⟨by rw [List.length_set]; exact h.len, fun p hp => ?_, fun p hp he => ?_, (fun hc => by cases hc), ?_⟩
  · rw [getD_set'] at hp
    split at hp
    · rename_i e; rw [← e.1]; exact d.tr.co_to hx ht (h.sound r hr)
    · exact h.sound p hp
  · rw [getD_set']
    split
    · rfl
    · exact h.ends p hp he
  · rw [cnt_set hl hn]
    have := h.up
    split <;> split at this <;> omega
theorem UsI.done {d : Sq} {c0 x : Nat} {B : List Bool} (hf : d.Fit) (h : UsI d c0 B false d.n x) {p : Nat} (hp : p < d.n) : B.getD p false = d.tr.co d.L p := by
  have key : ∀ (w : List Nat) (q : Nat), q < d.n → InW d.L w → (d.tr.val q w).isSome = true → B.getD q false = true := by
    intro w
    induction w with
    | nil =>
      intro q hq _ hv
      have hv : (if d.e q then some (d.f q) else none).isSome = true := hv
      refine h.ends q hq ?_
      cases he : d.e q with
      | false => rw [he] at hv; cases hv
      | true => rfl
    | cons x w ih =>
      intro q hq hw hv
      cases e : d.tr.to q x with
      | none => rw [Tr.val_none _ e] at hv; cases hv
      | some r =>
        rw [Tr.val_some _ e, Option.isSome_map] at hv
        exact h.cl rfl q x r (.inl hq) hw.head e (ih r (hf.lt q x r hq hw.head e) hw.tail hv)
  cases hc : d.tr.co d.L p with
  | true =>
    obtain ⟨w, hw, hv⟩ := Tr.co_t.1 hc
    exact key w p hp hw hv
  | false =>
    cases hb : B.getD p false with
    | false => rfl
    | true => rw [h.sound p hb] at hc; cases hc
theorem UsI.start {d : Sq} (h : d.en.length = d.n) : UsI d 0 d.en true d.n 0 := ⟨h, fun p hp => d.tr.co_en (q := p) hp, fun p _ he => he, (fun hc => by cases hc), by simp⟩
/-- met, and useful -/
def muL (M B : List Bool) (j : Nat) : List Bool := (List.range M.length).map fun q => if q < j then M.getD q false && B.getD q false else M.getD q false
theorem muL_len (M B : List Bool) (j : Nat) : (muL M B j).length = M.length := by simp [muL]
theorem muL_get {M B : List Bool} {j q : Nat} (h : q < M.length) : (muL M B j).getD q false = if q < j then M.getD q false && B.getD q false else M.getD q false := getD_rng _ _ _ h
theorem muL_zero (M B : List Bool) : muL M B 0 = M := list_ext_getD false (muL_len _ _ _) fun i hi => by
  rw [muL_len] at hi
  rw [muL_get hi, if_neg (by omega)]
theorem muL_put {M B : List Bool} {j : Nat} : ((muL M B j).map bo).set j (.bool (M.getD j false && B.getD j false)) = (muL M B (j + 1)).map bo := by
  rw [show (Value.bool (M.getD j false && B.getD j false)) = bo (M.getD j false && B.getD j false) from rfl, ← List.map_set]
  congr 1
  refine list_ext_getD false (by rw [List.length_set, muL_len, muL_len]) fun i hi => ?_
  rw [List.length_set, muL_len] at hi
  rw [getD_set', muL_len, muL_get hi, muL_get hi]
  by_cases e : j = i
  · subst e; rw [if_pos ⟨rfl, hi⟩, if_pos (by omega)]
  · rw [if_neg (by omega)]
    by_cases h2 : i < j
    · rw [if_pos h2, if_pos (by omega)]
    · rw [if_neg h2, if_neg (by omega)]
theorem stC_of_co {d : Sq} {q x r : Nat} (h : d.to q x = some r) : d.tr.stC d.L q x = if d.tr.co d.L r then some r else none := by
  rw [Tr.stC, show d.tr.to q x = some r from h, Option.bind_some]
theorem Rch.bfs {d : Sq} (hL : 0 < d.L) (k : Nat) : ∀ a ∈ bfsP (d.tr.stC d.L) d.L d.s k, Rch d a :=
  bfsP_all (p := Rch d) (Rch.start d) (fun _ _ _ ha hx hb => ha.next hx (Tr.stC_some hb).1) hL k
/-- the states that are met -/
structure UrI (d : Sq) (M : List Bool) (l : List Nat) (i x : Nat) : Prop where
  len : M.length = d.n
  nd : l.Nodup
  mem : ∀ p, M.getD p false = true ↔ p ∈ l
  rch : ∀ p ∈ l, Rch d p
  st : d.s ∈ l
  lt : ∀ p ∈ l, p < d.n
  cl : ∀ j y r, (j < i ∨ (j = i ∧ y < x)) → j < l.length → y < d.L → d.to (l.getD j 0) y = some r → r ∈ l
theorem UrI.start {d : Sq} (hs : d.s < d.n) : UrI d ((List.replicate d.n false).set d.s true) [d.s] 0 0 :=
  ⟨by simp, by simp, fun p => by
    rw [getD_set', List.length_replicate, List.mem_singleton]
    split
    · rename_i e; exact ⟨fun _ => e.1.symm, fun _ => rfl⟩
    · rename_i e
      constructor
      · intro h; rw [List.getD_eq_getElem?_getD, List.getElem?_replicate] at h; split at h <;> cases h
      · intro h; exact absurd ⟨h.symm, hs⟩ e, fun p hp => by rw [List.mem_singleton.1 hp]; exact Rch.start d, List.mem_singleton.2 rfl, fun p hp => by rw [List.mem_singleton.1 hp]; exact hs, fun j y r h => by omega⟩
theorem UrI.le {d : Sq} {M : List Bool} {l : List Nat} {i x : Nat} (h : UrI d M l i x) : l.length ≤ d.n := nodup_lt_len h.nd h.lt
theorem UrI.next {d : Sq} {M : List Bool} {l : List Nat} {i : Nat} (h : UrI d M l i d.L) : UrI d M l (i + 1) 0 :=
  ⟨h.len, h.nd, h.mem, h.rch, h.st, h.lt, fun j y r hj hl hy ht => h.cl j y r (by omega) hl hy ht⟩
theorem UrI.keep {d : Sq} {M : List Bool} {l : List Nat} {i x : Nat} (h : UrI d M l i x) (hk : ∀ r, d.to (l.getD i 0) x = some r → r ∈ l) : UrI d M l i (x + 1) :=
  ⟨h.len, h.nd, h.mem, h.rch, h.st, h.lt, fun j y r hj hl hy ht => by
    by_cases e : j = i ∧ y = x
    · rw [e.1, e.2] at ht; exact hk r ht
    · exact h.cl j y r (by omega) hl hy ht⟩
theorem UrI.put {d : Sq} {M : List Bool} {l : List Nat} {i x r : Nat} (h : UrI d M l i x) (hi : i < l.length) (hx : x < d.L) (ht : d.to (l.getD i 0) x = some r) (hr : r < d.n) (hn : r ∉ l) : UrI d (M.set r true) (l ++ [r]) i (x + 1) := by
  refine ⟨by rw [List.length_set]; exact h.len, ?_, fun p => ?_, fun p hp => ?_, List.mem_append_left _ h.st, fun p hp => ?_, fun j y s hj hl hy ht2 => ?_⟩
  · rw [List.nodup_append]
    exact ⟨h.nd, by simp, fun a ha b hb => by rw [List.mem_singleton.1 hb]; intro e; rw [e] at ha; exact hn ha⟩
  · rw [getD_set', h.len, List.mem_append, List.mem_singleton]
    split
    · rename_i e; exact ⟨fun _ => .inr e.1.symm, fun _ => rfl⟩
    · rename_i e
      rw [h.mem p]
      exact ⟨.inl, fun h1 => h1.elim id fun h2 => absurd ⟨h2.symm, hr⟩ e⟩
  · rcases List.mem_append.1 hp with h1 | h1
    · exact h.rch p h1
    · rw [List.mem_singleton.1 h1]; exact (h.rch _ (getDm hi)).next hx ht
  · rcases List.mem_append.1 hp with h1 | h1
    · exact h.lt p h1
    · rw [List.mem_singleton.1 h1]; exact hr
  · have hjl : j < l.length := by omega
    rw [getD_grow hjl] at ht2
    by_cases e : j = i ∧ y = x
    · rw [e.1, e.2, ht] at ht2; cases ht2
      exact List.mem_append_right _ (List.mem_singleton.2 rfl)
    · exact List.mem_append_left _ (h.cl j y s (by omega) hjl hy ht2)
theorem UrI.done {d : Sq} {M : List Bool} {l : List Nat} {i x : Nat} (h : UrI d M l i x) (hi : l.length ≤ i) {p : Nat} (hp : Rch d p) : p ∈ l :=
  Rch.all (P := fun p => p ∈ l) h.st (fun p x r hp hx ht => by
    obtain ⟨j, hj, rfl⟩ := mem_getD hp 0
    exact h.cl j x r (by omega) hj hx ht) hp
end Go.Sq

namespace Go.Sq
open Go Go.Eng Go.Am
open Go.Tl (Wd bo okW)
/-! the reference's prefixes: all states again and again -/
def bst (d : Sq) (P : List Wd) (K : List Bool) (q : Nat) : Nat → Wd × Bool
  | 0 => if d.e q then (d.f q, true) else ([], false)
  | x + 1 => match d.to q x with
    | none => bst d P K q x
    | some r => if K.getD r false then (if (bst d P K q x).2 then cm (bst d P K q x).1 (d.o q x ++ P.getD r []) else d.o q x ++ P.getD r [], true) else bst d P K q x
section
variable {d : Sq} {P : List Wd} {K : List Bool} {q x : Nat}
theorem bst_none (h : d.to q x = none) : bst d P K q (x + 1) = bst d P K q x := by rw [bst, h]
theorem bst_skip {r : Nat} (h : d.to q x = some r) (hk : K.getD r false = false) : bst d P K q (x + 1) = bst d P K q x := by rw [bst, h]; exact if_neg (by rw [hk]; decide)
theorem bst_first {r : Nat} (h : d.to q x = some r) (hk : K.getD r false = true) (hs : (bst d P K q x).2 = false) : bst d P K q (x + 1) = (d.o q x ++ P.getD r [], true) := by
  rw [bst, h]
  show (if K.getD r false then _ else _) = _
  rw [if_pos hk, hs]; rfl
theorem bst_more {r : Nat} (h : d.to q x = some r) (hk : K.getD r false = true) (hs : (bst d P K q x).2 = true) : bst d P K q (x + 1) = (cm (bst d P K q x).1 (d.o q x ++ P.getD r []), true) := by
  rw [bst, h]
  show (if K.getD r false then _ else _) = _
  rw [if_pos hk, hs]; rfl
/-- what a prefix has to fit -/
def BstU (d : Sq) (P : List Wd) (K : List Bool) (q x : Nat) (p : Wd) : Prop := (d.e q = true → p <+: d.f q) ∧ ∀ y r, y < x → d.to q y = some r → K.getD r false = true → p <+: d.o q y ++ P.getD r []
theorem bst_spec : ∀ x, ((bst d P K q x).2 = true → BstU d P K q x (bst d P K q x).1 ∧ ∀ p, BstU d P K q x p → p <+: (bst d P K q x).1) ∧ ((bst d P K q x).2 = false → d.e q = false ∧ ∀ y r, y < x → d.to q y = some r → K.getD r false = false)
  | 0 => by
    rw [bst]
    cases he : d.e q with
    | true => exact ⟨fun _ => ⟨⟨fun _ => List.prefix_rfl, fun y r h => by omega⟩, fun p hp => hp.1 he⟩, (fun h => by cases h)⟩
    | false => exact ⟨(fun h => by cases h), fun _ => ⟨rfl, fun y r h => by omega⟩⟩
  | x + 1 => by
    have ih := bst_spec x
    have keep : (∀ r, d.to q x = some r → K.getD r false = false) → bst d P K q (x + 1) = bst d P K q x := fun h => by
      cases e : d.to q x with
      | none => exact bst_none e
      | some r => exact bst_skip e (h r e)
    by_cases hk : ∃ r, d.to q x = some r ∧ K.getD r false = true
    · obtain ⟨r, hr, hk⟩ := hk
      cases hs : (bst d P K q x).2 with
      | false =>
        rw [bst_first hr hk hs]
        obtain ⟨h1, h2⟩ := ih.2 hs
        refine ⟨fun _ => ⟨⟨(fun h => by rw [h1] at h; cases h), fun y s hy ht hks => ?_⟩, fun p hp => hp.2 x r (Nat.lt_succ_self x) hr hk⟩, (fun h => by cases h)⟩
        rcases Nat.lt_or_ge y x with h | h
        · rw [h2 y s h ht] at hks; cases hks
        · obtain rfl : y = x := by omega
          rw [hr] at ht; cases ht; exact List.prefix_rfl
      | true =>
        rw [bst_more hr hk hs]
        obtain ⟨h1, h2⟩ := ih.1 hs
        refine ⟨fun _ => ⟨⟨fun h => (cm_l _ _).trans (h1.1 h), fun y s hy ht hks => ?_⟩, fun p hp => cm_top (h2 p ⟨hp.1, fun y s hy => hp.2 y s (by omega)⟩) (hp.2 x r (Nat.lt_succ_self x) hr hk)⟩, (fun h => by cases h)⟩
        rcases Nat.lt_or_ge y x with h | h
        · exact (cm_l _ _).trans (h1.2 y s h ht hks)
        · obtain rfl : y = x := by omega
          rw [hr] at ht; cases ht; exact cm_r _ _
    · have hk2 : ∀ r, d.to q x = some r → K.getD r false = false := fun r hr => by
        cases e : K.getD r false with
        | false => rfl
        | true => exact absurd ⟨r, hr, e⟩ hk
      rw [keep hk2]
      refine ⟨fun h => ⟨⟨(ih.1 h).1.1, fun y s hy ht hks => ?_⟩, fun p hp => (ih.1 h).2 p ⟨hp.1, fun y s hy => hp.2 y s (by omega)⟩⟩, fun h => ⟨(ih.2 h).1, fun y s hy ht => ?_⟩⟩
      · rcases Nat.lt_or_ge y x with h' | h'
        · exact (ih.1 h).1.2 y s h' ht hks
        · obtain rfl : y = x := by omega
          rw [hk2 s ht] at hks; cases hks
      · rcases Nat.lt_or_ge y x with h' | h'
        · exact (ih.2 h).2 y s h' ht
        · obtain rfl : y = x := by omega
          exact hk2 s ht
end
abbrev bq (d : Sq) (P : List Wd) (K : List Bool) (q : Nat) : Wd × Bool := bst d P K q d.L
/-- between two states of a pass; m0: the measure before it -/
structure RfI (d : Sq) (M m0 : Nat) (P : List Wd) (K : List Bool) (ch : Bool) (i : Nat) : Prop where
  pl : P.length = d.n
  kl : K.length = d.n
  up : ∀ q, q < d.n → K.getD q false = true → ∀ p', d.tr.Pre d.L q p' → p' <+: P.getD q []
  mo : ∀ q, q < d.n → K.getD q false = true → (bq d P K q).2 = true ∧ (bq d P K q).1 <+: P.getD q []
  bd : ∀ q, q < d.n → K.getD q false = true → (P.getD q []).length ≤ M * kc d.n K
  uk : ∀ q, K.getD q false = false → P.getD q [] = []
  fx : ch = false → ∀ q, q < i → q < d.n → (bq d P K q).2 = true → K.getD q false = true ∧ (bq d P K q).1 = P.getD q []
  ms : msP d M P K + (if ch then 1 else 0) ≤ m0
theorem RfI.start {d : Sq} {M : Nat} : RfI d M (msP d M (List.replicate d.n []) (List.replicate d.n false) + 1) (List.replicate d.n []) (List.replicate d.n false) true d.n := by
  have hr : ∀ q, (List.replicate d.n false).getD q false = false := fun q => by
    rw [List.getD_eq_getElem?_getD, List.getElem?_replicate]; split <;> rfl
  refine ⟨List.length_replicate, List.length_replicate, (fun q _ h => by rw [hr] at h; cases h), (fun q _ h => by rw [hr] at h; cases h), (fun q _ h => by rw [hr] at h; cases h), fun q _ => ?_, (fun h => by cases h), Nat.le_refl _⟩
  rw [List.getD_eq_getElem?_getD, List.getElem?_replicate]; split <;> rfl
section
variable {d : Sq} {M m0 i : Nat} {P : List Wd} {K : List Bool} {ch : Bool}
theorem RfI.pass (h : RfI d M m0 P K true i) : RfI d M (msP d M P K) P K false 0 :=
  ⟨h.pl, h.kl, h.up, h.mo, h.bd, h.uk, fun _ q hq => by omega, by simp⟩
theorem RfI.keep (h : RfI d M m0 P K ch i) (hk : (bq d P K i).2 = true → K.getD i false = true ∧ (bq d P K i).1 = P.getD i []) : RfI d M m0 P K ch (i + 1) :=
  ⟨h.pl, h.kl, h.up, h.mo, h.bd, h.uk, fun hc q hq hn hb => by
    rcases Nat.lt_or_ge q i with h1 | h1
    · exact h.fx hc q h1 hn hb
    · obtain rfl : q = i := by omega
      exact hk hb, h.ms⟩
theorem kc_le1 (r : Nat) : (if K.getD r false = true then 1 else 0) ≤ if (K.set i true).getD r false = true then 1 else 0 := by
  have h := getD_set' K i r true false
  cases e : K.getD r false with
  | false => exact Nat.zero_le _
  | true =>
    have h2 : (K.set i true).getD r false = true := by
      rw [h]; split
      · rfl
      · exact e
    rw [h2]; exact Nat.le_refl _
theorem kc_set (hl : K.length = d.n) (hi : i < d.n) (hn : K.getD i false = false) : kc d.n K + 1 ≤ kc d.n (K.set i true) := by
  unfold kc
  refine sumR_lt (q := i) (fun r _ => kc_le1 r) hi ?_
  have h := getD_set' K i i true false
  rw [if_pos ⟨rfl, by rw [hl]; exact hi⟩] at h
  rw [h, hn]; decide
theorem kc_mono : kc d.n K ≤ kc d.n (K.set i true) := by
  unfold kc
  exact sumR_le fun r _ => kc_le1 r
theorem RfI.put (hd : d.Ok M) (hall : ∀ r, r < d.n → d.tr.co d.L r = true) (h : RfI d M m0 P K ch i) (hi : i < d.n) (hs : (bq d P K i).2 = true) (hne : K.getD i false = false ∨ (bq d P K i).1 ≠ P.getD i []) : RfI d M m0 (P.set i (bq d P K i).1) (K.set i true) true (i + 1) := by
  obtain ⟨hb, hb2⟩ := (bst_spec (d := d) (P := P) (K := K) (q := i) d.L).1 hs
  have hPi : i < P.length := by rw [h.pl]; exact hi
  have hKi : i < K.length := by rw [h.kl]; exact hi
  -- the new prefix is shorter, if there was one
  have hsm : K.getD i false = true → (bq d P K i).1 <+: P.getD i [] := fun hk => (h.mo i hi hk).2
  have hPle : ∀ r, K.getD r false = true → (P.set i (bq d P K i).1).getD r [] <+: P.getD r [] := fun r hk => by
    rw [getD_set']
    split
    · rename_i e; rw [← e.1]; rw [← e.1] at hk; exact hsm hk
    · exact List.prefix_rfl
  have hKup : ∀ r, K.getD r false = true → (K.set i true).getD r false = true := fun r hk => by
    rw [getD_set']
    split
    · rfl
    · exact hk
  -- a bound of all values of i
  have hup : ∀ p', d.tr.Pre d.L i p' → p' <+: (bq d P K i).1 := fun p' hp' => hb2 p' ⟨fun he => Tr.up_fi (T := d.tr) he hp', fun y r hy ht hk => Tr.up_to (T := d.tr) hy ht (hall r (hd.lt i y r hi hy ht)) hp' (fun p2 hp2 => h.up r (hd.lt i y r hi hy ht) hk p2 hp2)⟩
  have hkc : kc d.n K ≤ kc d.n (K.set i true) := kc_mono
  have hbl : (bst d P K i d.L).1.length ≤ M * kc d.n (K.set i true) := by
    cases hk : K.getD i false with
    | true => exact Nat.le_trans (hsm hk).length_le (Nat.le_trans (h.bd i hi hk) (Nat.mul_le_mul_left _ hkc))
    | false =>
      have h1 := kc_set h.kl hi hk
      have h2 : M * (kc d.n K + 1) ≤ M * kc d.n (K.set i true) := Nat.mul_le_mul_left _ h1
      have h2 : M * kc d.n K + M ≤ M * kc d.n (K.set i true) := by rw [Nat.mul_add, Nat.mul_one] at h2; exact h2
      cases he : d.e i with
      | true => have := (hb.1 he).length_le; have := (hd.tf i hi).1; omega
      | false =>
        by_cases hex : ∃ y r, y < d.L ∧ d.to i y = some r ∧ K.getD r false = true
        · obtain ⟨y, r, hy, ht, hkr⟩ := hex
          have h3 := (hb.2 y r hy ht hkr).length_le
          have h4 := (hd.to' i y hi hy).1
          have h5 := h.bd r (hd.lt i y r hi hy ht) hkr
          rw [List.length_append] at h3
          omega
        · exfalso
          have hnone : (bq d P K i).2 = false := by
            have key : ∀ x, x ≤ d.L → (bst d P K i x).2 = false := by
              intro x
              induction x with
              | zero => intro _; rw [bst, he]; rfl
              | succ x ih =>
                intro hx
                cases e : d.to i x with
                | none => rw [bst_none e]; exact ih (by omega)
                | some r =>
                  have : K.getD r false = false := by
                    cases e2 : K.getD r false with
                    | false => rfl
                    | true => exact absurd ⟨x, r, by omega, e, e2⟩ hex
                  rw [bst_skip e this]; exact ih (by omega)
            exact key d.L (Nat.le_refl _)
          rw [hnone] at hs; cases hs
  refine ⟨by rw [List.length_set]; exact h.pl, by rw [List.length_set]; exact h.kl, fun q hq hk p' hp' => ?_, fun q hq hk => ?_, fun q hq hk => ?_, fun q hk => ?_, (fun hc => by cases hc), ?_⟩
  · rw [getD_set']
    split
    · rename_i e; rw [← e.1] at hp'; exact hup p' hp'
    · rename_i e
      rw [getD_set'] at hk
      split at hk
      · rename_i e2; exact absurd ⟨e2.1, hPi⟩ e
      · exact h.up q hq hk p' hp'
  · -- monotone
    have hsome : (bq d P K q).2 = true := by
      rw [getD_set'] at hk
      split at hk
      · rename_i e; rw [← e.1]; exact hs
      · exact (h.mo q hq hk).1
    obtain ⟨g1, g2⟩ := (bst_spec (d := d) (P := P) (K := K) (q := q) d.L).1 hsome
    have hsome' : (bq d (P.set i (bq d P K i).1) (K.set i true) q).2 = true := by
      cases e : (bq d (P.set i (bq d P K i).1) (K.set i true) q).2 with
      | true => rfl
      | false =>
        obtain ⟨k1, k2⟩ := (bst_spec (d := d) (P := P.set i (bq d P K i).1) (K := K.set i true) (q := q) d.L).2 e
        have key : ∀ x, x ≤ d.L → (bst d P K q x).2 = false := by
          intro x
          induction x with
          | zero => intro _; rw [bst, k1]; rfl
          | succ x ih =>
            intro hx
            cases e2 : d.to q x with
            | none => rw [bst_none e2]; exact ih (by omega)
            | some r =>
              have : K.getD r false = false := by
                cases e3 : K.getD r false with
                | false => rfl
                | true => have := hKup r e3; rw [k2 x r (by omega) e2] at this; cases this
              rw [bst_skip e2 this]; exact ih (by omega)
        rw [show (bq d P K q).2 = false from key d.L (Nat.le_refl _)] at hsome; cases hsome
    obtain ⟨f1, f2⟩ := (bst_spec (d := d) (P := P.set i (bq d P K i).1) (K := K.set i true) (q := q) d.L).1 hsome'
    have hle : (bq d (P.set i (bq d P K i).1) (K.set i true) q).1 <+: (bq d P K q).1 := g2 _ ⟨f1.1, fun y r hy ht hkr => by
      refine (f1.2 y r hy ht (hKup r hkr)).trans ?_
      obtain ⟨t, ht2⟩ := hPle r hkr
      rw [← ht2, ← List.append_assoc]
      exact List.prefix_append _ _⟩
    refine ⟨hsome', ?_⟩
    rw [getD_set']
    split
    · rename_i e; rw [← e.1] at hle ⊢; exact hle
    · rename_i e
      rw [getD_set'] at hk
      split at hk
      · rename_i e2; exact absurd ⟨e2.1, hPi⟩ e
      · exact hle.trans (h.mo q hq hk).2
  · rw [getD_set']
    split
    · exact hbl
    · rename_i e
      rw [getD_set'] at hk
      split at hk
      · rename_i e2; exact absurd ⟨e2.1, hPi⟩ e
      · exact Nat.le_trans (h.bd q hq hk) (Nat.mul_le_mul_left _ hkc)
  · rw [getD_set'] at hk
    split at hk
    · cases hk
    · rename_i e
      rw [getD_set', if_neg (fun e2 => e ⟨e2.1, hKi⟩)]
      exact h.uk q hk
  · have hlt : msP d M (P.set i (bq d P K i).1) (K.set i true) < msP d M P K := by
      unfold msP
      have hKi1 : (K.set i true).getD i false = true := by rw [getD_set', if_pos ⟨rfl, hKi⟩]
      have hPi1 : (P.set i (bq d P K i).1).getD i [] = (bq d P K i).1 := by rw [getD_set', if_pos ⟨rfl, hPi⟩]
      refine sumR_lt (q := i) (fun r hr => ?_) hi ?_
      · by_cases e : i = r
        · subst e
          rw [hKi1, hPi1, if_pos rfl]
          split
          · rename_i hk; exact (hsm hk).length_le
          · exact Nat.le_trans hbl (Nat.le_trans (Nat.mul_le_mul_left _ (kc_le _ _)) (Nat.le_succ _))
        · rw [show (K.set i true).getD r false = K.getD r false by rw [getD_set', if_neg (fun e2 => e e2.1)], show (P.set i (bq d P K i).1).getD r [] = P.getD r [] by rw [getD_set', if_neg (fun e2 => e e2.1)]]
          exact Nat.le_refl _
      · rw [hKi1, hPi1, if_pos rfl]
        cases hk : K.getD i false with
        | false => rw [if_neg (by decide)]; exact Nat.lt_succ_of_le (Nat.le_trans hbl (Nat.mul_le_mul_left _ (kc_le _ _)))
        | true =>
          rw [if_pos rfl]
          have hp := hsm hk
          rcases hne with h1 | h1
          · rw [hk] at h1; cases h1
          · exact Nat.lt_of_le_of_ne hp.length_le fun e => h1 (hp.eq_of_length e)
    have := h.ms
    simp only [if_pos]
    split at this <;> omega
theorem RfI.done (hd : d.Ok M) (hall : ∀ r, r < d.n → d.tr.co d.L r = true) (h : RfI d M m0 P K false d.n) : d.Pf P := by
  have hknow : ∀ (w : List Nat) (q : Nat), q < d.n → InW d.L w → (d.tr.val q w).isSome = true → K.getD q false = true := by
    intro w
    induction w with
    | nil =>
      intro q hq _ hv
      have he : d.e q = true := by
        cases e : d.e q with
        | true => rfl
        | false =>
          have hv : (if d.e q then some (d.f q) else none).isSome = true := hv
          rw [e] at hv; cases hv
      cases hb : (bq d P K q).2 with
      | true => exact (h.fx rfl q hq hq hb).1
      | false => rw [((bst_spec (d := d) (P := P) (K := K) (q := q) d.L).2 hb).1] at he; cases he
    | cons x w ih =>
      intro q hq hw hv
      cases e : d.tr.to q x with
      | none => rw [Tr.val_none _ e] at hv; cases hv
      | some r =>
        rw [Tr.val_some _ e, Option.isSome_map] at hv
        have hk := ih r (hd.lt q x r hq hw.head e) hw.tail hv
        cases hb : (bq d P K q).2 with
        | true => exact (h.fx rfl q hq hq hb).1
        | false => rw [((bst_spec (d := d) (P := P) (K := K) (q := q) d.L).2 hb).2 x r hw.head e] at hk; cases hk
  have hK : ∀ q, q < d.n → K.getD q false = true := fun q hq => by
    obtain ⟨w, hw, hv⟩ := Tr.co_t.1 (hall q hq)
    exact hknow w q hq hw hv
  have hU : ∀ q, q < d.n → BstU d P K q d.L (P.getD q []) := fun q hq => by
    have hb := (h.mo q hq (hK q hq)).1
    rw [← (h.fx rfl q hq hq hb).2]
    exact ((bst_spec (d := d) (P := P) (K := K) (q := q) d.L).1 hb).1
  refine ⟨h.pl, fun q hq => ⟨?_, fun p hp => h.up q hq (hK q hq) p hp⟩⟩
  exact Tr.pre_fix (T := d.tr) (L := d.L) (Q := fun q => q < d.n) (P := fun q => P.getD q []) (fun q x r hq hx ht => hd.lt q x r hq hx ht) (fun q hq he => (hU q hq).1 he) (fun q x r hq hx ht => (hU q hq).2 x r hx ht (hK r (hd.lt q x r hq hx ht))) q hq
end
end Go.Sq

namespace Go.Sq
open Go Go.Eng Go.Am
open Go.Tl (Wd bo okW)
theorem cm_at : ∀ (k : Nat) (s t : Wd), s.take k = t.take k → k ≤ s.length → k ≤ t.length → ¬ (k < s.length ∧ k < t.length ∧ s.getD k 0 = t.getD k 0) → s.take k = cm s t
  | 0, [], t, _, _, _, _ => by cases t <;> rfl
  | 0, a :: s, [], _, _, _, _ => rfl
  | 0, a :: s, b :: t, _, _, _, h => by
    have hab : a ≠ b := fun e => h ⟨by simp, by simp, e⟩
    show [] = cm (a :: s) (b :: t)
    rw [cm, if_neg hab]
  | k + 1, [], t, _, h, _, _ => absurd h (by simp)
  | k + 1, a :: s, [], _, _, h, _ => absurd h (by simp)
  | k + 1, a :: s, b :: t, h, h1, h2, h3 => by
    have h : a :: s.take k = b :: t.take k := h
    injection h with e1 e2
    subst e1
    have ih := cm_at k s t e2 (by simpa using h1) (by simpa using h2) (fun ⟨x, y, z⟩ => h3 ⟨by simpa using x, by simpa using y, z⟩)
    show a :: s.take k = cm (a :: s) (a :: t)
    rw [cm, if_pos rfl, ih]
theorem take_next {s t : Wd} {k : Nat} (h : s.take k = t.take k) (h1 : k < s.length) (h2 : k < t.length) (h3 : s.getD k 0 = t.getD k 0) : s.take (k + 1) = t.take (k + 1) := by
  rw [take_snoc s 0 h1, take_snoc t 0 h2, h, h3]
theorem value_none {d : Sq} {w : List Nat} (h : d.tr.run d.s w = none) : d.value w = none := by
  rw [Sq.value, Tr.val_run, h]; rfl
theorem value_some {d : Sq} {w : List Nat} {q : Nat} {l : Wd} (h : d.tr.run d.s w = some (q, l)) : d.value w = if d.e q then some (d.init ++ l ++ d.f q) else none := by
  rw [Sq.value, Tr.val_run, h]
  show Option.map _ (if d.e q then some (l ++ d.f q) else none) = _
  split
  · rw [List.append_assoc]; rfl
  · rfl
end Go.Sq

namespace Go.Sq
open Go Go.Eng Go.Am
open Go.Tl (Wd bo okW)
/-! the reference's normal form -/
section
variable {d : Sq} {P : List Wd} {K : List Bool} {q : Nat}
theorem bst0_t (h : d.e q = true) : bst d P K q 0 = (d.f q, true) := by rw [bst, if_pos h]
theorem bst0_f (h : d.e q = false) : bst d P K q 0 = ([], false) := by rw [bst, if_neg (by rw [h]; decide)]
end
theorem RfI.len {d : Sq} {M m0 i : Nat} {P : List Wd} {K : List Bool} {ch : Bool} (h : RfI d M m0 P K ch i) (q : Nat) : (P.getD q []).length ≤ M * d.n := by
  rcases Nat.lt_or_ge q d.n with h1 | h1
  · cases hk : K.getD q false with
    | true => exact Nat.le_trans (h.bd q h1 hk) (Nat.mul_le_mul_left _ (kc_le _ _))
    | false => rw [h.uk q hk]; exact Nat.zero_le _
  · rw [List.getD_eq_getElem?_getD, List.getElem?_eq_none (by rw [h.pl]; exact h1)]; exact Nat.zero_le _
theorem emptyQ_norm {L M m0 : Nat} {P : List Wd} {K : List Bool} (h : RfI (emptyQ L) M m0 P K false 1) : normD (emptyQ L) P = emptyQ L ∧ P.getD 0 [] = [] := by
  have hk : K.getD 0 false = false := by
    cases hk : K.getD 0 false with
    | false => rfl
    | true =>
      have h1 := (h.mo 0 (by show 0 < 1; decide) hk).1
      have key : ∀ x, (bst (emptyQ L) P K 0 x).2 = false := by
        intro x
        induction x with
        | zero => rw [bst0_f (show (emptyQ L).e 0 = false from rfl)]
        | succ x ih => rw [bst_none (emptyQ_to L)]; exact ih
      rw [key] at h1; cases h1
  have hP := h.uk 0 hk
  refine ⟨?_, hP⟩
  unfold normD
  rw [show (emptyQ L).s = 0 from rfl, hP]
  show Sq.mk L 0 ([] ++ []) [false] _ [List.replicate L none] _ = emptyQ L
  unfold emptyQ
  congr 1
  show [(List.range L).map fun x => _] = [List.replicate L []]
  congr 1
  refine list_ext_getD [] (by simp) fun i hi => ?_
  rw [List.length_map, List.length_range] at hi
  rw [getD_rng _ _ _ hi]
  show (match (emptyQ L).to 0 i with
    | none => (emptyQ L).o 0 i
    | some r => ((emptyQ L).o 0 i ++ P.getD r []).drop (P.getD 0 []).length) = _
  rw [emptyQ_to]
  show (emptyQ L).o 0 i = _
  rw [emptyQ_o, List.getD_eq_getElem?_getD, List.getElem?_replicate, if_pos hi]; rfl
theorem rf_norm {f g : Sq} {M m0 : Nat} {P : List Wd} {K : List Bool} (hf : f.Ok M) (hg : IsTrim f.tr f.L f.s f.init g) (h : RfI g M m0 P K false g.n) :
    IsNorm f (normD g P) ∧ (normD g P).Ok ((g.n + 1) * M) ∧ (∀ q x r, q < g.n → x < g.L → g.to q x = some r → (P.getD q []).length ≤ (g.o q x ++ P.getD r []).length) ∧ (∀ q, q < g.n → g.e q = true → (P.getD q []).length ≤ (g.f q).length) := by
  obtain ⟨hgo, hgn⟩ := IsTrim.ok hf hg
  cases hc : f.tr.co f.L f.s with
  | true =>
    obtain ⟨h1, h2, h3, h4⟩ := hg.good hc
    have hP := h.done hgo h2.co
    exact ⟨⟨g, hg, .inr ⟨hc, P, hP, rfl⟩⟩, normD_ok hgo h2 hP, fun q x r hq hx ht => (normD_step h1 h2 hP hq hx ht).length_le, fun q hq he => (Tr.up_fi (T := g.tr) he (hP.lcp q hq).pre).length_le⟩
  | false =>
    have hge : g = emptyQ f.L := by
      rcases hg with ⟨_, h2⟩ | ⟨h2, _⟩
      · exact h2
      · rw [hc] at h2; cases h2
    subst hge
    obtain ⟨e1, e2⟩ := emptyQ_norm h
    rw [e1]
    exact ⟨⟨_, hg, .inl ⟨hc, rfl⟩⟩, emptyQ_ok hf.may _, fun q x r hq hx ht => (by rw [emptyQ_to] at ht; cases ht), fun q hq he => (by
      obtain rfl : q = 0 := by have : q < 1 := hq; omega
      cases he)⟩
/-- the rows of the normal form that are there -/
structure NoR (d : Sq) (k : Nat) (rs : List (Rx (Option Nat))) (os : List (Rx Wd)) (fs : List Wd) : Prop where
  rl : rs.length = k
  ol : os.length = k
  fl : fs.length = k
  row : ∀ j, j < k → (rs.getD j rx0).xs = d.nx.getD j [] ∧ (os.getD j rx0).xs = (List.range d.L).map (d.o j) ∧ fs.getD j [] = d.f j
theorem NoR.start (d : Sq) : NoR d 0 [] [] [] := ⟨rfl, rfl, rfl, fun j h => by omega⟩
theorem NoR.snoc {d : Sq} {k : Nat} {rs : List (Rx (Option Nat))} {os : List (Rx Wd)} {fs : List Wd} (h : NoR d k rs os fs) {r : Rx (Option Nat)} {o : Rx Wd} {v : Wd} (hr : r.xs = d.nx.getD k []) (ho : o.xs = (List.range d.L).map (d.o k)) (hv : v = d.f k) : NoR d (k + 1) (rs ++ [r]) (os ++ [o]) (fs ++ [v]) :=
  ⟨by rw [List.length_append, h.rl]; rfl, by rw [List.length_append, h.ol]; rfl, by rw [List.length_append, h.fl]; rfl, fun j hj => by
    rw [getD_snoc, getD_snoc, getD_snoc, h.rl, h.ol, h.fl]
    by_cases e : j = k
    · rw [if_pos e, if_pos e, if_pos e, e]; exact ⟨hr, ho, hv⟩
    · rw [if_neg e, if_neg e, if_neg e]; exact h.row j (by omega)⟩
theorem NoR.done {d : Sq} {rs : List (Rx (Option Nat))} {os : List (Rx Wd)} {fs : List Wd} (hd : d.Fit) (h : NoR d d.n rs os fs) (na oa ea fa : Option Addr) (nc oc ec fc : Nat) : (⟨d.L, d.s, d.init, na, nc, rs, oa, oc, os, ea, ec, d.en, fa, fc, fs⟩ : Sv).sq = d := by
  have h1 : rs.map (·.xs) = d.nx := list_ext_getD [] (by rw [List.length_map, h.rl]) fun i hi => by
    rw [List.length_map, h.rl] at hi
    rw [rx_getD, (h.row i hi).1]
  have h2 : os.map (·.xs) = d.ou := list_ext_getD [] (by rw [List.length_map, h.ol, hd.len.1]) fun i hi => by
    rw [List.length_map, h.ol] at hi
    rw [rx_getD, (h.row i hi).2.1]
    refine list_ext_getD [] (by rw [List.length_map, List.length_range, (hd.row i hi).2]) fun y hy => ?_
    rw [List.length_map, List.length_range] at hy
    rw [getD_rng _ _ _ hy]; rfl
  have h3 : fs = d.fi := list_ext_getD [] (by rw [h.fl, hd.len.2.2]) fun i hi => by
    rw [h.fl] at hi
    rw [(h.row i hi).2.2]; rfl
  unfold Sv.sq
  dsimp only
  rw [h1, h2, h3]
theorem rng_snoc {γ : Type} (g : Nat → γ) (x : Nat) : (List.range (x + 1)).map g = (List.range x).map g ++ [g x] := by simp [List.range_succ]
end Go.Sq
namespace Go.Sq
open Go Go.Eng Go.Am
open Go.Tl (Wd)
theorem bst_len {d : Sq} {P : List Wd} {K : List Bool} {q M B : Nat} (hf : (d.f q).length ≤ M) (ho : ∀ y, y < d.L → (d.o q y).length ≤ M) (hP : ∀ r, (P.getD r []).length ≤ B) : ∀ x, x ≤ d.L → (bst d P K q x).1.length ≤ M + B
  | 0, _ => by
    cases he : d.e q with
    | true => rw [bst0_t he]; exact Nat.le_trans hf (Nat.le_add_right _ _)
    | false => rw [bst0_f he]; exact Nat.zero_le _
  | x + 1, hx => by
    have ih := bst_len (K := K) hf ho hP x (by omega)
    have hn : ∀ r, (d.o q x ++ P.getD r []).length ≤ M + B := fun r => by
      rw [List.length_append]
      exact Nat.add_le_add (ho x (by omega)) (hP r)
    cases e : d.to q x with
    | none => rw [bst_none e]; exact ih
    | some r =>
      cases hk : K.getD r false with
      | false => rw [bst_skip e hk]; exact ih
      | true =>
        cases hs : (bst d P K q x).2 with
        | false => rw [bst_first e hk hs]; exact hn r
        | true => rw [bst_more e hk hs]; exact Nat.le_trans (cm_l _ _).length_le ih
theorem rf_all {f g : Sq} (hg : IsTrim f.tr f.L f.s f.init g) {P : List Wd} {K : List Bool} {q x : Nat} (hs : (bst g P K q x).2 = true) : ∀ r, r < g.n → g.tr.co g.L r = true := by
  cases hc : f.tr.co f.L f.s with
  | true => exact (hg.good hc).2.1.co
  | false =>
    have hge : g = emptyQ f.L := by
      rcases hg with ⟨_, h2⟩ | ⟨h2, _⟩
      · exact h2
      · rw [hc] at h2; cases h2
    subst hge
    have key : ∀ x, (bst (emptyQ f.L) P K q x).2 = false := by
      intro x
      induction x with
      | zero =>
        have he : (emptyQ f.L).e q = false := by
          show [false].getD q false = false
          cases q with
          | zero => rfl
          | succ q => rfl
        rw [bst0_f he]
      | succ x ih => rw [bst_none (emptyQ_to f.L)]; exact ih
    rw [key] at hs; cases hs
end Go.Sq

namespace Go.Sq
open Go Go.Eng Go.Am
open Go.Tl (Wd bo okW okB)
/-! the keys by which the reference's Minimal parts the states -/
def cbt (z : Int) : Wd := [UInt8.ofNat (z % 256).toNat, UInt8.ofNat (z / 2 ^ 8 % 256).toNat]
theorem u8z (z : Int) : ((UInt8.ofNat (z % 256).toNat).toNat : Int) = z % 256 := by
  have h : (z % 256).toNat < 256 := by omega
  rw [UInt8.toNat_ofNat', Nat.mod_eq_of_lt h]
  omega
theorem cbt_len (z : Int) : (cbt z).length = 2 := rfl
theorem cbt_inj {y z : Int} (hy : -1 ≤ y ∧ y < 255) (hz : -1 ≤ z ∧ z < 255) (h : cbt y = cbt z) : y = z := by
  have h1 := (List.cons.inj h).1
  have h2 := congrArg (fun b : UInt8 => (b.toNat : Int)) h1
  have h2 : ((UInt8.ofNat (y % 256).toNat).toNat : Int) = ((UInt8.ofNat (z % 256).toNat).toNat : Int) := h2
  rw [u8z, u8z] at h2
  omega
theorem cbt_hi {y : Int} (hy : 0 ≤ y ∧ y < 255) : cbt y = [UInt8.ofNat (y % 256).toNat, 0] := by
  have : y / 2 ^ 8 % 256 = 0 := by omega
  unfold cbt
  rw [this]; rfl
/-- the class of a target -/
abbrev tz (g : Sq) (c : List Nat) (q x : Nat) : Int := oi ((g.to q x).map fun r => c.getD r 0)
def rst (g : Sq) (q : Nat) : Wd := (g.f q ++ [124]) ++ (if g.e q then [33] else [])
def rcl (c : List Nat) (m q : Nat) : Wd := if 0 < m then cbt (c.getD q 0 : Nat) else []
def rpc (g : Sq) (c : List Nat) (q x : Nat) : Wd := (([124] ++ g.o q x) ++ [124]) ++ cbt (tz g c q x)
def rkey (g : Sq) (c : List Nat) (m q x : Nat) : Wd := (rst g q ++ rcl c m q) ++ (List.range x).flatMap (rpc g c q)
theorem rkey_zero (g : Sq) (c : List Nat) (m q : Nat) : rkey g c m q 0 = rst g q ++ rcl c m q := by simp [rkey]
theorem rkey_s (g : Sq) (c : List Nat) (m q x : Nat) : rkey g c m q (x + 1) = rkey g c m q x ++ rpc g c q x := by
  simp only [rkey, List.range_succ, List.flatMap_append, List.flatMap_cons, List.flatMap_nil, List.append_nil, List.append_assoc]
def Cut2 (s : Wd) : Prop := ∀ b t, s = b :: t → 122 < b.toNat
theorem cut2_split {M N : Nat} : ∀ {u v s t : Wd}, okT M u → okT N v → Cut2 s → Cut2 t → u ++ s = v ++ t → u = v ∧ s = t
  | [], [], _, _, _, _, _, _, h => ⟨rfl, h⟩
  | [], b :: v, s, t, _, hv, hs, _, h => by
    have := hs b (v ++ t) h
    have := (hv.2 b List.mem_cons_self).2
    omega
  | b :: u, [], s, t, hu, _, _, ht, h => by
    have := ht b (u ++ s) h.symm
    have := (hu.2 b List.mem_cons_self).2
    omega
  | b :: u, c :: v, s, t, hu, hv, hs, ht, h => by
    obtain ⟨rfl, h2⟩ := List.cons.inj h
    obtain ⟨e1, e2⟩ := cut2_split (M := M) (N := N) ⟨by have := hu.1; simp only [List.length_cons] at this; omega, fun x hx => hu.2 x (List.mem_cons_of_mem _ hx)⟩ ⟨by have := hv.1; simp only [List.length_cons] at this; omega, fun x hx => hv.2 x (List.mem_cons_of_mem _ hx)⟩ hs ht h2
    exact ⟨by rw [e1], e2⟩
theorem cut2_bar (s : Wd) : Cut2 (124 :: s) := fun b t h => by cases h; decide
theorem rpc_eq (g : Sq) (c : List Nat) (q x : Nat) (s : Wd) : rpc g c q x ++ s = 124 :: (g.o q x ++ 124 :: (cbt (tz g c q x) ++ s)) := by
  simp only [rpc, List.append_assoc, List.singleton_append, List.cons_append, List.nil_append]
section
variable {g : Sq} {c : List Nat} {m M : Nat} (hg : g.Ok M) (hc : ∀ q, q < g.n → c.getD q 0 < 255)
include hg hc
theorem tz_lt {q x : Nat} (hq : q < g.n) (hx : x < g.L) : -1 ≤ tz g c q x ∧ tz g c q x < 255 := by
  refine ⟨oi_ge _, ?_⟩
  unfold tz
  cases e : g.to q x with
  | none => show (-1 : Int) < 255; omega
  | some r =>
    have := hc r (hg.lt q x r hq hx e)
    show ((c.getD r 0 : Nat) : Int) < 255
    omega
theorem rflat_inj {p q : Nat} (hp : p < g.n) (hq : q < g.n) : ∀ {xs : List Nat}, (∀ x ∈ xs, x < g.L) → xs.flatMap (rpc g c p) = xs.flatMap (rpc g c q) → ∀ x ∈ xs, g.o p x = g.o q x ∧ tz g c p x = tz g c q x
  | [], _, _, x, hx => by cases hx
  | y :: xs, hxs, h, x, hx => by
    rw [List.flatMap_cons, List.flatMap_cons, rpc_eq, rpc_eq] at h
    have hy := hxs y List.mem_cons_self
    obtain ⟨h1, h2⟩ := cut2_split (hg.to' p y hp hy) (hg.to' q y hq hy) (cut2_bar _) (cut2_bar _) (List.cons.inj h).2
    have h3 := (List.cons.inj h2).2
    obtain ⟨h4, h5⟩ := List.append_inj h3 rfl
    rcases List.mem_cons.1 hx with rfl | hx
    · exact ⟨h1, cbt_inj (tz_lt hg hc hp hy) (tz_lt hg hc hq hy) h4⟩
    · exact rflat_inj hp hq (fun x hx => hxs x (List.mem_cons_of_mem _ hx)) h5 x hx
/-- two states get one key when this holds -/
structure Req (g : Sq) (c : List Nat) (m p q : Nat) : Prop where
  e : g.e p = g.e q
  f : g.f p = g.f q
  k : 0 < m → c.getD p 0 = c.getD q 0
  o : ∀ x, x < g.L → g.o p x = g.o q x
  t : ∀ x, x < g.L → tz g c p x = tz g c q x
omit hg hc in
theorem rflat_head (g : Sq) (c : List Nat) (q : Nat) (xs : List Nat) : ∀ b t, xs.flatMap (rpc g c q) = b :: t → b = 124 := by
  intro b t h
  cases xs with
  | nil => cases h
  | cons x xs =>
    rw [List.flatMap_cons, rpc_eq] at h
    exact (List.cons.inj h).1.symm
theorem rkey_iff {p q : Nat} (hp : p < g.n) (hq : q < g.n) : rkey g c m p g.L = rkey g c m q g.L ↔ Req g c m p q := by
  constructor
  · intro h
    have h1 : g.f p ++ 124 :: ((if g.e p then [33] else []) ++ (rcl c m p ++ (List.range g.L).flatMap (rpc g c p))) = g.f q ++ 124 :: ((if g.e q then [33] else []) ++ (rcl c m q ++ (List.range g.L).flatMap (rpc g c q))) := by
      have := h
      simp only [rkey, rst, List.append_assoc, List.singleton_append, List.cons_append, List.nil_append] at this
      exact this
    obtain ⟨h2, h3⟩ := cut2_split (hg.tf p hp) (hg.tf q hq) (cut2_bar _) (cut2_bar _) h1
    have h4 := (List.cons.inj h3).2
    have no : ∀ p q, p < g.n → q < g.n → g.e p = true → g.e q = false → (if g.e p then [(33 : UInt8)] else []) ++ (rcl c m p ++ (List.range g.L).flatMap (rpc g c p)) = (if g.e q then [33] else []) ++ (rcl c m q ++ (List.range g.L).flatMap (rpc g c q)) → False := fun p q hp hq e1 e2 h => by
      rw [e1, e2, if_pos rfl] at h
      rw [if_neg (by decide), List.nil_append] at h
      by_cases hm : 0 < m
      · rw [rcl, rcl, if_pos hm, if_pos hm, cbt_hi (by have := hc p hp; omega), cbt_hi (by have := hc q hq; omega)] at h
        have h5 := (List.cons.inj (List.cons.inj h).2).2
        have h6 := rflat_head g c q _ _ _ h5.symm
        exact absurd h6 (by decide)
      · rw [rcl, rcl, if_neg hm, if_neg hm, List.nil_append, List.nil_append] at h
        have h6 := rflat_head g c q _ _ _ h.symm
        exact absurd h6 (by decide)
    have h5 : g.e p = g.e q := by
      cases e1 : g.e p <;> cases e2 : g.e q
      · rfl
      · exact (no q p hq hp e2 e1 h4.symm).elim
      · exact (no p q hp hq e1 e2 h4).elim
      · rfl
    rw [h5] at h4
    have h6 := List.append_cancel_left h4
    have hl : (rcl c m p).length = (rcl c m q).length := by unfold rcl; split <;> rfl
    obtain ⟨h7, h8⟩ := List.append_inj h6 hl
    have h9 := rflat_inj hg hc hp hq (xs := List.range g.L) (fun x hx => List.mem_range.1 hx) h8
    refine ⟨h5, h2, fun hm => ?_, fun x hx => (h9 x (List.mem_range.2 hx)).1, fun x hx => (h9 x (List.mem_range.2 hx)).2⟩
    rw [rcl, rcl, if_pos hm, if_pos hm] at h7
    have := cbt_inj (by have := hc p hp; omega) (by have := hc q hq; omega) h7
    omega
  · intro h
    have e2 : (List.range g.L).flatMap (rpc g c p) = (List.range g.L).flatMap (rpc g c q) := by
      rw [List.flatMap_def, List.flatMap_def]
      congr 1
      refine List.map_congr_left fun x hx => ?_
      have hx := List.mem_range.1 hx
      unfold rpc
      rw [h.o x hx, h.t x hx]
    have e3 : rcl c m p = rcl c m q := by
      unfold rcl
      split
      · rename_i hm; rw [h.k hm]
      · rfl
    unfold rkey rst
    rw [e2, e3, h.e, h.f]
end
/-- the keys of the first states -/
def rks (g : Sq) (c : List Nat) (m i : Nat) : List Wd := (List.range i).map fun q => rkey g c m q g.L
theorem rks_len (g : Sq) (c : List Nat) (m i : Nat) : (rks g c m i).length = i := by simp [rks]
theorem rks_s (g : Sq) (c : List Nat) (m i : Nat) : rks g c m (i + 1) = rks g c m i ++ [rkey g c m i g.L] := by simp [rks, List.range_succ]
theorem rks_get {g : Sq} {c : List Nat} {m i q : Nat} (h : q < i) : (rks g c m i).getD q [] = rkey g c m q g.L := getD_rng _ _ _ h
/-- the rounds -/
structure RmI (g : Sq) (c : List Nat) (m : Nat) : Prop where
  len : c.length = g.n
  lt : ∀ q, q < g.n → c.getD q 0 < 255
  or : (m = 0 ∧ ∀ q, c.getD q 0 = 0) ∨ (m = topL c ∧ CoarseQ g c)
theorem RmI.start (g : Sq) : RmI g (List.replicate g.n 0) 0 :=
  have h : ∀ q, (List.replicate g.n 0).getD q 0 = 0 := fun q => by rw [List.getD_eq_getElem?_getD, List.getElem?_replicate]; split <;> rfl
  ⟨by simp, fun q _ => by rw [h]; omega, .inl ⟨rfl, h⟩⟩
theorem CoarseQ.rm {g : Sq} {c : List Nat} (h : CoarseQ g c) (hn : g.n ≤ 255) : RmI g c (topL c) :=
  ⟨h.len, fun q hq => Nat.lt_of_lt_of_le (topL_all c (by rw [h.len]; exact hq)) (Nat.le_trans h.top hn), .inr ⟨rfl, h⟩⟩
section
variable {g : Sq} {c : List Nat} {m M : Nat} (hg : g.Ok M) (hb : g.Bis) (h : RmI g c m)
set_option linter.unusedSectionVars false
include hg hb h
theorem RmI.key {p q : Nat} (hp : p < g.n) (hq : q < g.n) : (lab (rks g c m g.n)).getD p 0 = (lab (rks g c m g.n)).getD q 0 ↔ Req g c m p q := by
  rw [lab_iff _ [] (by rw [rks_len]; exact hp) (by rw [rks_len]; exact hq), rks_get hp, rks_get hq, rkey_iff hg h.lt hp hq]
theorem RmI.coarse : CoarseQ g (lab (rks g c m g.n)) := by
  refine ⟨by rw [lab_len, rks_len], lab_fo _, fun p q hp hq he => (h.key hg hb hp hq).2 ?_, fun p q hp hq he => ?_⟩
  · have hs := hb.same p q hp hq he
    refine ⟨hs.e, hs.f, fun hm => ?_, hs.o, fun x hx => ?_⟩
    · rcases h.or with ⟨h1, _⟩ | ⟨_, h1⟩
      · omega
      · exact h1.co p q hp hq he
    · unfold tz
      cases e1 : g.to p x with
      | none => rw [(hs.t x hx).1 e1]
      | some r =>
        cases e2 : g.to q x with
        | none => rw [(hs.t x hx).2 e2] at e1; cases e1
        | some r' =>
          show ((c.getD r 0 : Nat) : Int) = ((c.getD r' 0 : Nat) : Int)
          rcases h.or with ⟨_, h1⟩ | ⟨_, h1⟩
          · rw [h1, h1]
          · rw [h1.co r r' (hg.lt p x r hp hx e1) (hg.lt q x r' hq hx e2) (hb.step p q x r r' hp hq hx he e1 e2)]
  · have hr := (h.key hg hb hp hq).1 he
    refine ⟨hr.e, hr.f, fun x hx => ?_, hr.o⟩
    have := hr.t x hx
    unfold tz at this
    have := oi_inj this
    cases e1 : g.to p x with
    | none =>
      cases e2 : g.to q x with
      | none => exact Iff.rfl
      | some r => rw [e1, e2] at this; cases this
    | some r =>
      cases e2 : g.to q x with
      | none => rw [e1, e2] at this; cases this
      | some r' => exact ⟨(fun h => by cases h), (fun h => by cases h)⟩
theorem RmI.ref {p q : Nat} (hm : 0 < m) (hp : p < g.n) (hq : q < g.n) (he : (lab (rks g c m g.n)).getD p 0 = (lab (rks g c m g.n)).getD q 0) : c.getD p 0 = c.getD q 0 := ((h.key hg hb hp hq).1 he).k hm
theorem RmI.grow : m ≤ topL (lab (rks g c m g.n)) := by
  rcases h.or with ⟨h1, _⟩ | ⟨h1, hco⟩
  · omega
  · by_cases hm : 0 < m
    · rw [h1]
      exact fo_le hco.fo (lab_fo _) (by rw [h.len, lab_len, rks_len]) fun i j hi hj e => by
        rw [h.len] at hi hj
        exact h.ref hg hb hm hi hj (by rw [h1]; exact h1 ▸ e)
    · omega
theorem RmI.done (ht : topL (lab (rks g c m g.n)) = m) : ClsQ g (lab (rks g c m g.n)) := by
  have hn : 0 < g.n := Nat.lt_of_le_of_lt (Nat.zero_le _) hg.st
  have hpos : 0 < topL (lab (rks g c m g.n)) := Nat.lt_of_le_of_lt (Nat.zero_le _) (topL_all _ (p := 0) (by rw [lab_len, rks_len]; exact hn))
  have hm : 0 < m := by omega
  rcases h.or with ⟨h1, _⟩ | ⟨h1, hco⟩
  · omega
  · have hs : lab (rks g c m g.n) = c := fo_same hco.fo (lab_fo _) (by rw [h.len, lab_len, rks_len]) (fun i j hi hj e => by
      rw [h.len] at hi hj
      exact h.ref hg hb hm hi hj e) (by rw [ht, h1]; exact Nat.le_refl _)
    refine (h.coarse hg hb).cls hb fun p q hp hq he x hx => ?_
    have hr := (h.key hg hb hp hq).1 he
    have := oi_inj (hr.t x hx)
    rw [hs]
    unfold mkq
    cases e1 : g.to p x with
    | none =>
      cases e2 : g.to q x with
      | none => rfl
      | some r => rw [e1, e2] at this; cases this
    | some r =>
      cases e2 : g.to q x with
      | none => rw [e1, e2] at this; cases this
      | some r' =>
        rw [e1, e2] at this
        have this : c.getD r 0 = c.getD r' 0 := Option.some.inj this
        show 1 + c.getD r 0 = 1 + c.getD r' 0
        rw [this]
end
end Go.Sq

namespace Go.Sq
open Go Go.Eng Go.Am
open Go.Tl (Wd bo okW okB)
/-! the first state of each class, as a map; every state redirected to it -/
/-- the map after k steps downwards from n -/
def frL (c : List Nat) (n : Nat) : Nat → List (Int × Value)
  | 0 => []
  | k + 1 => putA ((c.getD (n - (k + 1)) 0 : Nat) : Int) (zn (n - (k + 1))) (frL c n k)
theorem reps_fst {c : List Nat} (h : FO c) : ∀ {q i p : Nat}, q ≤ c.length → i < (reps c q).length → p < (reps c q).getD i 0 → c.getD p 0 ≠ i
  | 0, i, p, _, hi, _ => by cases hi
  | q + 1, i, p, hq, hi, hp => by
    by_cases hold : c.getD q 0 < topL (c.take q)
    · rw [reps_old hold] at hi hp
      exact reps_fst h (by omega) hi hp
    · have hnew : c.getD q 0 = topL (c.take q) := by
        have h1 := reps_len h (q := q) (by omega)
        have h2 := h q (by omega)
        omega
      rw [reps_new hnew] at hi hp
      have hl := reps_len h (q := q) (by omega)
      rcases Nat.lt_or_ge i (reps c q).length with h1 | h1
      · rw [List.getD_eq_getElem?_getD, List.getElem?_append_left h1, ← List.getD_eq_getElem?_getD] at hp
        exact reps_fst h (by omega) h1 hp
      · have hi : i = (reps c q).length := by rw [List.length_append] at hi; simp only [List.length_cons, List.length_nil] at hi; omega
        subst hi
        rw [List.getD_eq_getElem?_getD, List.getElem?_append_right (Nat.le_refl _), Nat.sub_self] at hp
        have hp : p < q := hp
        have := topL_lt c hp (by omega)
        omega
/-- what the map answers after k steps -/
theorem frL_get {c : List Nat} {n : Nat} (hn : n ≤ c.length) : ∀ {k : Nat}, k ≤ n → ∀ {v : Nat} {q : Nat}, n - k ≤ q → q < n → c.getD q 0 = v → (∀ p, p < q → c.getD p 0 ≠ v) → getA (v : Int) (frL c n k) = some (zn q)
  | 0, _, v, q, h1, h2, _, _ => by omega
  | k + 1, hk, v, q, h1, h2, h3, h4 => by
    rw [frL, getA_putA]
    by_cases he : q = n - (k + 1)
    · subst he
      rw [if_pos (by rw [h3])]
    · have h5 : c.getD (n - (k + 1)) 0 ≠ v := fun e => h4 _ (by omega) e
      rw [if_neg (show ¬ ((v : Nat) : Int) = ((c.getD (n - (k + 1)) 0 : Nat) : Int) from fun e => h5 (Int.ofNat.inj e).symm)]
      exact frL_get hn (by omega) (by omega) h2 h3 h4
theorem frL_rep {g : Sq} {c : List Nat} (hc : ClsQ g c) {q : Nat} (hq : q < g.n) : getA ((c.getD q 0 : Nat) : Int) (frL c g.n g.n) = some (zn ((reps c g.n).getD (c.getD q 0) 0)) := by
  have h1 := repsQ_get hc (topL_all c (p := q) (by rw [hc.len]; exact hq))
  exact frL_get (Nat.le_of_eq hc.len.symm) (Nat.le_refl _) (by omega) h1.1 h1.2 fun p hp => reps_fst hc.fo (Nat.le_of_eq hc.len.symm) (by rw [repsQ_len hc]; exact topL_all c (by rw [hc.len]; exact hq)) hp
/-- a target redirected -/
def rdi (g : Sq) (c : List Nat) (q x : Nat) : Option Nat := (g.to q x).map fun r => (reps c g.n).getD (c.getD r 0) 0
def rdr (g : Sq) (c : List Nat) (q x : Nat) : List (Option Nat) := (List.range x).map (rdi g c q)
theorem rdr_len (g : Sq) (c : List Nat) (q x : Nat) : (rdr g c q x).length = x := by simp [rdr]
theorem rdr_s (g : Sq) (c : List Nat) (q x : Nat) : rdr g c q (x + 1) = rdr g c q x ++ [rdi g c q x] := by simp [rdr, List.range_succ]
def rdn (g : Sq) (c : List Nat) (i : Nat) : List (List (Option Nat)) := (List.range i).map fun q => rdr g c q g.L
theorem rdn_len (g : Sq) (c : List Nat) (i : Nat) : (rdn g c i).length = i := by simp [rdn]
theorem rdn_s (g : Sq) (c : List Nat) (i : Nat) : rdn g c (i + 1) = rdn g c i ++ [rdr g c i g.L] := by simp [rdn, List.range_succ]
def redQ (g : Sq) (c : List Nat) : Sq := ⟨g.L, (reps c g.n).getD (c.getD g.s 0) 0, g.init, g.en, g.fi, rdn g c g.n, g.ou⟩
section
variable {g : Sq} {c : List Nat} {M : Nat} (hc : ClsQ g c) (hg : g.Ok M)
theorem redQ_to {q x : Nat} (hq : q < g.n) (hx : x < g.L) : (redQ g c).to q x = rdi g c q x := by
  show ((List.map _ _).getD q []).getD x none = _
  rw [getD_rng _ _ _ hq, rdr, getD_rng _ _ _ hx]
include hg in
theorem redQ_tr : (redQ g c).tr = redT g c := by
  have : (redQ g c).to = fun q x => rdi g c q x := by
    funext q x
    rcases Nat.lt_or_ge q g.n with hq | hq
    · rcases Nat.lt_or_ge x g.L with hx | hx
      · exact redQ_to hq hx
      · have e1 : g.to q x = none := by
          show (g.nx.getD q []).getD x none = none
          rw [List.getD_eq_getElem?_getD, List.getElem?_eq_none (by rw [(hg.row q hq).1]; exact hx)]; rfl
        rw [rdi, e1]
        show ((List.map _ _).getD q []).getD x none = _
        rw [getD_rng _ _ _ hq, List.getD_eq_getElem?_getD, List.getElem?_eq_none (by rw [rdr_len]; exact hx)]; rfl
    · have e1 : g.to q x = none := by
        show (g.nx.getD q []).getD x none = none
        rw [List.getD_eq_getElem?_getD (l := g.nx), List.getElem?_eq_none hq]; rfl
      rw [rdi, e1]
      show ((rdn g c g.n).getD q []).getD x none = _
      rw [List.getD_eq_getElem?_getD (l := rdn g c g.n), List.getElem?_eq_none (by rw [rdn_len]; exact hq)]; rfl
  show (⟨(redQ g c).to, (redQ g c).o, (redQ g c).e, (redQ g c).f⟩ : Tr Nat) = _
  rw [this]; rfl
include hc hg
theorem rdi_lt {q x r : Nat} (hq : q < g.n) (hx : x < g.L) (h : rdi g c q x = some r) : r < g.n := by
  unfold rdi at h
  obtain ⟨r', h1, rfl⟩ := Option.map_eq_some_iff.1 h
  exact (repsQ_get hc (topL_all c (by rw [hc.len]; exact hg.lt q x r' hq hx h1))).1
theorem redQ_ok : (redQ g c).Ok M := by
  have hn : (redQ g c).n = g.n := rdn_len _ _ _
  refine ⟨hg.may, by rw [hn]; exact hg.n5, by rw [hn]; exact (repsQ_get hc (topL_all c (by rw [hc.len]; exact hg.st))).1, by rw [hn]; exact hg.len, fun q hq => ?_, fun q x r hq hx e => ?_, fun q x hq hx e => ?_, fun q hq e => hg.nf q (by rw [hn] at hq; exact hq) e, hg.ti, fun q x hq hx => hg.to' q x (by rw [hn] at hq; exact hq) hx, fun q hq => hg.tf q (by rw [hn] at hq; exact hq)⟩
  · rw [hn] at hq
    refine ⟨?_, (hg.row q hq).2⟩
    show ((List.map _ _).getD q []).length = g.L
    rw [getD_rng _ _ _ hq, rdr_len]
  · rw [hn] at hq ⊢
    rw [redQ_to hq hx] at e
    exact rdi_lt hc hg hq hx e
  · rw [hn] at hq
    rw [redQ_to hq hx] at e
    exact hg.no q x hq hx (by
      unfold rdi at e
      cases h : g.to q x with
      | none => rfl
      | some r => rw [h] at e; cases e)
theorem redQ_min {f m : Sq} (hf : IsNorm f g) (hm : IsTrim (redQ g c).tr (redQ g c).L (redQ g c).s (redQ g c).init m) : IsMini f m := by
  obtain ⟨hb, hor, hL⟩ := hf.bis hg
  rw [redQ_tr hg] at hm
  exact hf.mini hL (redT_min hc hb hor hg.st hm)
end
end Go.Sq
namespace Go.Sq
open Go Go.Eng Go.Am
open Go.Tl (Wd bo okW okB)
section
variable {g : Sq} {c : List Nat} {m M : Nat} (hg : g.Ok M)
include hg
theorem rst_len {q : Nat} (hq : q < g.n) : (rst g q ++ rcl c m q).length ≤ M + 4 := by
  have h1 := (hg.tf q hq).1
  have h2 : (if g.e q then [(33 : UInt8)] else []).length ≤ 1 := by split <;> simp
  have h3 : (rcl c m q).length ≤ 2 := by unfold rcl; split <;> simp [cbt_len]
  rw [rst]
  simp only [List.length_append, List.length_cons, List.length_nil] at h2 ⊢
  omega
theorem rkey_len {q : Nat} (hq : q < g.n) : ∀ x, x ≤ g.L → (rkey g c m q x).length ≤ (M + 4) * (x + 1)
  | 0, _ => by
    rw [rkey_zero]
    have := rst_len (c := c) (m := m) hg hq
    omega
  | x + 1, hx => by
    have ih := rkey_len hq x (by omega)
    have h1 := (hg.to' q x hq (show x < g.L by omega)).1
    have e : (M + 4) * (x + 1 + 1) = (M + 4) * (x + 1) + (M + 4) := by rw [Nat.mul_add (M + 4) (x + 1) 1, Nat.mul_one]
    rw [rkey_s, List.length_append, e, rpc]
    simp only [List.length_append, List.length_cons, List.length_nil, cbt_len]
    omega
end
theorem rst_t {g : Sq} {q : Nat} (h : g.e q = true) : rst g q = (g.f q ++ [124]) ++ [33] := by rw [rst, if_pos h]
theorem rst_f {g : Sq} {q : Nat} (h : g.e q = false) : rst g q = g.f q ++ [124] := by rw [rst, if_neg (by rw [h]; decide), List.append_nil]
theorem rcl_t {c : List Nat} {m q : Nat} (h : 0 < m) : rcl c m q = cbt (c.getD q 0 : Nat) := by rw [rcl, if_pos h]
theorem rcl_f {c : List Nat} {m q : Nat} (h : ¬ 0 < m) : rcl c m q = [] := by rw [rcl, if_neg h]
theorem tz_none {g : Sq} {c : List Nat} {q x : Nat} (h : g.to q x = none) : tz g c q x = -1 := by rw [tz, h]; rfl
theorem tz_some {g : Sq} {c : List Nat} {q x r : Nat} (h : g.to q x = some r) : tz g c q x = (c.getD r 0 : Nat) := by rw [tz, h]; rfl
theorem rdi_none {g : Sq} {c : List Nat} {q x : Nat} (h : g.to q x = none) : rdi g c q x = none := by rw [rdi, h]; rfl
theorem rdi_some {g : Sq} {c : List Nat} {q x r : Nat} (h : g.to q x = some r) : rdi g c q x = some ((reps c g.n).getD (c.getD r 0) 0) := by rw [rdi, h]; rfl
end Go.Sq

namespace Go.Sq
open Go Go.Eng Go.Am
open Go.Tl (Wd bo okW okB)
/-! finish: the way from a state to an end, by first letters -/
/-- i letters from q by F have led to p -/
def Fw (d : Sq) (q : Nat) (w : List Nat) (p : Nat) : Prop := ∀ v, ((d.tr.val p v).isSome = true → (d.tr.val q (w ++ v)).isSome = true)
theorem Fw.start (d : Sq) (q : Nat) : Fw d q [] q := fun _ h => h
theorem Fw.step {d : Sq} {q p x r : Nat} {w : List Nat} (h : Fw d q w p) (ht : d.to p x = some r) : Fw d q (w ++ [x]) r := fun v hv => by
  rw [List.append_assoc, List.singleton_append]
  refine h _ ?_
  rw [d.tr.val_some (show d.tr.to p x = some r from ht), Option.isSome_map]
  exact hv
theorem Fw.done {d : Sq} {q p : Nat} {w : List Nat} (h : Fw d q w p) (he : d.e p = true) : (d.tr.val q w).isSome = true := by
  have := h [] (by
    rw [Tr.val]
    rw [show d.tr.en p = true from he]; rfl)
  rwa [List.append_nil] at this
theorem u8a {x : Nat} (h : x < 100) : (UInt8.ofNat (97 + x)).toNat = 97 + x := by
  rw [UInt8.toNat_ofNat', Nat.mod_eq_of_lt (by omega)]
theorem wl_add {x : Nat} (h : x < 100) (l : Wd) : wl (l ++ [UInt8.ofNat (97 + x)]) = wl l ++ [x] := by
  unfold wl
  rw [List.map_append, List.map_singleton, u8a h, Nat.add_sub_cancel_left]
theorem bv_add {x : Nat} (h : x < 100) : Value.int .u8 (97 + (x : Int)) = bv (UInt8.ofNat (97 + x)) := by
  show _ = Value.int .u8 _
  rw [u8a h]; push_cast; rfl
end Go.Sq

namespace Go.Sq
open Go Go.Eng Go.Am
open Go.Tl (Wd bo okW okB)
/-! avoid: a word whose value does not begin with a letter -/
/-- a text begins with a letter -/
def Bgw (ch : UInt8) (v : Wd) : Prop := ∃ t, v = ch :: t
/-- w leads from q to p, and nothing is written -/
def Fe (d : Sq) (q : Nat) (w : List Nat) (p : Nat) : Prop := ∀ v, d.tr.val q (w ++ v) = d.tr.val p v
theorem Fe.start (d : Sq) (q : Nat) : Fe d q [] q := fun _ => rfl
theorem Fe.step {d : Sq} {q p x r : Nat} {w : List Nat} (h : Fe d q w p) (ht : d.to p x = some r) (ho : d.o p x = []) : Fe d q (w ++ [x]) r := fun v => by
  rw [List.append_assoc, List.singleton_append, h, d.tr.val_some (show d.tr.to p x = some r from ht), show d.tr.ou p x = [] from ho]
  cases d.tr.val r v <;> rfl
theorem Fe.out {d : Sq} {q p x r : Nat} {w u : List Nat} (h : Fe d q w p) (ht : d.to p x = some r) : d.tr.val q ((w ++ [x]) ++ u) = (d.tr.val r u).map (d.o p x ++ ·) := by
  rw [List.append_assoc, List.singleton_append, h, d.tr.val_some (show d.tr.to p x = some r from ht)]; rfl
theorem Fe.fin {d : Sq} {q p : Nat} {w : List Nat} (h : Fe d q w p) (he : d.e p = true) : d.tr.val q w = some (d.f p) := by
  have := h []
  rw [List.append_nil, Tr.val] at this
  rw [this, show d.tr.en p = true from he]; rfl
/-- when the list of states is closed, every value begins with the letter -/
theorem bg_all {d : Sq} {ch : UInt8} {l : List Nat} (he : ∀ p ∈ l, d.e p = true → Bgw ch (d.f p)) (ho : ∀ p ∈ l, ∀ x r, x < d.L → d.to p x = some r → Bgw ch (d.o p x) ∨ (d.o p x = [] ∧ r ∈ l)) : ∀ (w : List Nat) (p : Nat) (v : Wd), p ∈ l → InW d.L w → d.tr.val p w = some v → Bgw ch v
  | [], p, v, hp, _, h => by
    rw [Tr.val] at h
    cases e : d.e p with
    | false => rw [show d.tr.en p = false from e] at h; cases h
    | true =>
      rw [show d.tr.en p = true from e] at h
      cases h
      exact he p hp e
  | x :: w, p, v, hp, hw, h => by
    cases ht : d.to p x with
    | none => rw [d.tr.val_none (show d.tr.to p x = none from ht)] at h; cases h
    | some r =>
      rw [d.tr.val_some (show d.tr.to p x = some r from ht)] at h
      obtain ⟨v', h1, rfl⟩ := Option.map_eq_some_iff.1 h
      rcases ho p hp x r hw.head ht with ⟨t, h2⟩ | ⟨h2, hr⟩
      · exact ⟨t ++ v', by show d.o p x ++ v' = _; rw [h2]; rfl⟩
      · have := bg_all he ho w r v' hr hw.tail h1
        show Bgw ch (d.o p x ++ v')
        rw [h2]; exact this
def bgb (ch : UInt8) : Wd → Bool
  | [] => false
  | b :: _ => b == ch
theorem bgb_iff {ch : UInt8} {v : Wd} : bgb ch v = true ↔ Bgw ch v := by
  cases v with
  | nil => exact ⟨(fun h => by cases h), fun ⟨_, h⟩ => by cases h⟩
  | cons b v =>
    refine ⟨fun h => ⟨v, ?_⟩, fun ⟨t, h⟩ => ?_⟩
    · have h : (b == ch) = true := h
      rw [beq_iff_eq] at h; rw [h]
    · cases h
      show (ch == ch) = true
      simp
theorem bgb_dec {ch : UInt8} {v : Wd} (h : v ≠ []) : decide (((v.getD 0 0).toNat : Int) = (ch.toNat : Int)) = bgb ch v := by
  cases v with
  | nil => exact absurd rfl h
  | cons b v =>
    show decide ((b.toNat : Int) = (ch.toNat : Int)) = (b == ch)
    rw [Bool.eq_iff_iff, decide_eq_true_eq, beq_iff_eq]
    exact ⟨fun h => UInt8.toNat_inj.1 (by omega), fun h => by rw [h]⟩
theorem pre_dec (s t : Wd) : (List.take t.length s == t) = decide (t <+: s) := by
  rw [Bool.eq_iff_iff, decide_eq_true_eq, beq_iff_eq, List.prefix_iff_eq_take]
  exact eq_comm
theorem pre_no {s t : Wd} (h : ¬ t.length ≤ s.length) : false = decide (t <+: s) := (decide_eq_false (fun k => h k.length_le)).symm
end Go.Sq

namespace Go.Sq
open Go Go.Eng Go.Am
open Go.Tl (Wd bo okW okB)
/-! avoid's work list: states with words -/
abbrev avM (l : List (Nat × Wd)) : List (Int × Value) := l.map fun p => ((p.1 : Int), sv p.2)
/-- letters of a word -/
def Lw (L : Nat) (w : Wd) : Prop := ∀ b ∈ w, 97 ≤ b.toNat ∧ b.toNat < 97 + L
theorem Lw.nil (L : Nat) : Lw L [] := fun _ h => by cases h
theorem Lw.snoc {L x : Nat} {w : Wd} (h : Lw L w) (hx : x < L) (hL : L ≤ 6) : Lw L (w ++ [UInt8.ofNat (97 + x)]) := fun b hb => by
  rcases List.mem_append.1 hb with h1 | h1
  · exact h b h1
  · rw [List.mem_singleton] at h1; subst h1; rw [u8a (by omega)]; omega
theorem Lw.app {L : Nat} {v w : Wd} (h : Lw L v) (k : Lw L w) : Lw L (v ++ w) := fun b hb => by
  rcases List.mem_append.1 hb with h1 | h1
  · exact h b h1
  · exact k b h1
theorem avM_none {l : List (Nat × Wd)} {r : Nat} : getA (r : Int) (avM l) = none ↔ r ∉ l.map (·.1) := by
  induction l with
  | nil => exact ⟨fun _ h => (by cases h), fun _ => rfl⟩
  | cons p l ih =>
    rw [avM, List.map_cons, getA, List.map_cons, List.mem_cons]
    by_cases h : (r : Int) = (p.1 : Int)
    · rw [if_pos h]
      exact ⟨(fun h => by cases h), fun k => absurd (.inl (Int.ofNat.inj h)) k⟩
    · rw [if_neg h]
      refine ih.trans ⟨fun k => ?_, fun k k2 => k (.inr k2)⟩
      rintro (rfl | k2)
      · exact h rfl
      · exact k k2
theorem avM_at {l : List (Nat × Wd)} (hn : (l.map (·.1)).Nodup) {p : Nat × Wd} (hp : p ∈ l) : getA (p.1 : Int) (avM l) = some (sv p.2) := by
  induction l with
  | nil => cases hp
  | cons a l ih =>
    rw [List.map_cons, List.nodup_cons] at hn
    rw [avM, List.map_cons, getA]
    rcases List.mem_cons.1 hp with rfl | h
    · rw [if_pos rfl]
    · rw [if_neg (fun e => hn.1 (by rw [← Int.ofNat.inj e]; exact List.mem_map.2 ⟨p, h, rfl⟩))]
      exact ih hn.2 h
/-- i rows are done, and x letters of row i -/
structure AvI (d : Sq) (ch : UInt8) (q0 : Nat) (l : List (Nat × Wd)) (i x : Nat) : Prop where
  nd : (l.map (·.1)).Nodup
  lt : ∀ p ∈ l, p.1 < d.n
  lw : ∀ p ∈ l, Lw d.L p.2
  fe : ∀ p ∈ l, Fe d q0 (wl p.2) p.1
  ln : ∀ j, j < l.length → (l.getD j (0, [])).2.length ≤ j
  st : l.head?.map (·.1) = some q0
  fi : ∀ j, j < i → d.e (l.getD j (0, [])).1 = true → Bgw ch (d.f (l.getD j (0, [])).1)
  ou : ∀ j y r, (j < i ∧ y < d.L) ∨ (j = i ∧ y < x) → j < l.length → d.to (l.getD j (0, [])).1 y = some r → Bgw ch (d.o (l.getD j (0, [])).1 y) ∨ (d.o (l.getD j (0, [])).1 y = [] ∧ r ∈ l.map (·.1))
theorem AvI.start {d : Sq} (ch : UInt8) {q0 : Nat} (h : q0 < d.n) : AvI d ch q0 [(q0, [])] 0 0 :=
  ⟨by simp, fun p hp => by rw [List.mem_singleton] at hp; subst hp; exact h, fun p hp => by rw [List.mem_singleton] at hp; subst hp; exact Lw.nil _, fun p hp => by rw [List.mem_singleton] at hp; subst hp; exact Fe.start _ _,
   fun j hj => by obtain rfl : j = 0 := Nat.lt_one_iff.1 hj; exact Nat.le_refl _, rfl, fun j hj => by omega, fun j y r hj => by omega⟩
section
variable {d : Sq} {ch : UInt8} {q0 : Nat} {l : List (Nat × Wd)} {i x : Nat} (h : AvI d ch q0 l i x)
include h
theorem AvI.le : l.length ≤ d.n := by
  have h1 := h.nd.length_le_of_subset (l₂ := List.range d.n) (fun y hy => by
    obtain ⟨p, hp, rfl⟩ := List.mem_map.1 hy
    exact List.mem_range.2 (h.lt p hp))
  rwa [List.length_map, List.length_range] at h1
theorem AvI.keep (hs : ∀ r, d.to (l.getD i (0, [])).1 x = some r → Bgw ch (d.o (l.getD i (0, [])).1 x) ∨ (d.o (l.getD i (0, [])).1 x = [] ∧ r ∈ l.map (·.1))) : AvI d ch q0 l i (x + 1) :=
  ⟨h.nd, h.lt, h.lw, h.fe, h.ln, h.st, h.fi, fun j y r hj hl ht => by
    by_cases h1 : (j < i ∧ y < d.L) ∨ (j = i ∧ y < x)
    · exact h.ou j y r h1 hl ht
    · obtain rfl : j = i := by omega
      obtain rfl : y = x := by omega
      exact hs r ht⟩
theorem AvI.put {r : Nat} (hi : i < l.length) (hx : x < d.L) (hL : d.L ≤ 6) (hr : r < d.n) (ht : d.to (l.getD i (0, [])).1 x = some r) (ho : d.o (l.getD i (0, [])).1 x = []) (hn : r ∉ l.map (·.1)) : AvI d ch q0 (l ++ [(r, (l.getD i (0, [])).2 ++ [UInt8.ofNat (97 + x)])]) i (x + 1) := by
  have hm : l.getD i (0, []) ∈ l := by rw [List.getD_eq_getElem?_getD, List.getElem?_eq_getElem hi]; exact List.getElem_mem hi
  have hg : ∀ j, j < l.length → (l ++ [(r, (l.getD i (0, [])).2 ++ [UInt8.ofNat (97 + x)])]).getD j (0, []) = l.getD j (0, []) := fun j hj => by
    rw [List.getD_eq_getElem?_getD, List.getElem?_append_left hj, List.getD_eq_getElem?_getD]
  have hlen := h.ln i hi
  refine ⟨?_, fun p hp => ?_, fun p hp => ?_, fun p hp => ?_, fun j hj => ?_, ?_, fun j hj => ?_, fun j y r' hj hl ht' => ?_⟩
  · rw [List.map_append, List.map_singleton, List.nodup_append]
    exact ⟨h.nd, by simp, fun a ha b hb => by rw [List.mem_singleton] at hb; subst hb; rintro rfl; exact hn ha⟩
  · rcases List.mem_append.1 hp with h1 | h1
    · exact h.lt p h1
    · rw [List.mem_singleton] at h1; subst h1; exact hr
  · rcases List.mem_append.1 hp with h1 | h1
    · exact h.lw p h1
    · rw [List.mem_singleton] at h1; subst h1; exact (h.lw _ hm).snoc hx hL
  · rcases List.mem_append.1 hp with h1 | h1
    · exact h.fe p h1
    · rw [List.mem_singleton] at h1; subst h1
      show Fe d q0 (wl (_ ++ [_])) r
      rw [wl_add (by omega)]
      exact (h.fe _ hm).step ht ho
  · rw [List.length_append, List.length_singleton] at hj
    by_cases h1 : j < l.length
    · rw [hg j h1]; exact h.ln j h1
    · obtain rfl : j = l.length := by omega
      rw [List.getD_eq_getElem?_getD, List.getElem?_append_right (Nat.le_refl _), Nat.sub_self]
      show ((l.getD i (0, [])).2 ++ [_]).length ≤ _
      rw [List.length_append, List.length_singleton]; omega
  · have := h.st
    cases l with
    | nil => cases hi
    | cons a l => exact this
  · rw [hg j (by omega)]; exact h.fi j hj
  · by_cases h1 : (j < i ∧ y < d.L) ∨ (j = i ∧ y < x)
    · have hjl : j < l.length := by omega
      rw [hg j hjl] at ht' ⊢
      rcases h.ou j y r' h1 hjl ht' with h2 | ⟨h2, h3⟩
      · exact .inl h2
      · exact .inr ⟨h2, by rw [List.map_append]; exact List.mem_append_left _ h3⟩
    · obtain rfl : j = i := by omega
      obtain rfl : y = x := by omega
      rw [hg j hi] at ht' ⊢
      rw [ht] at ht'; cases ht'
      exact .inr ⟨ho, by rw [List.map_append]; exact List.mem_append_right _ (by simp)⟩
theorem AvI.next (hx : x = d.L) (hf : d.e (l.getD i (0, [])).1 = true → Bgw ch (d.f (l.getD i (0, [])).1)) : AvI d ch q0 l (i + 1) 0 :=
  ⟨h.nd, h.lt, h.lw, h.fe, h.ln, h.st, fun j hj => by
    by_cases h1 : j < i
    · exact h.fi j h1
    · obtain rfl : j = i := by omega
      exact hf, fun j y r hj hl ht => h.ou j y r (by omega) hl ht⟩
/-- the list is closed: the common prefix is not empty -/
theorem AvI.done (hi : l.length ≤ i) (w : List Nat) (v : Wd) (hw : InW d.L w) (hv : d.tr.val q0 w = some v) : Bgw ch v := by
  have hmem : ∀ p ∈ l.map (·.1), ∃ j, j < l.length ∧ (l.getD j (0, [])).1 = p := fun p hp => by
    obtain ⟨a, ha, rfl⟩ := List.mem_map.1 hp
    obtain ⟨j, hj, rfl⟩ := List.getElem_of_mem ha
    exact ⟨j, hj, by rw [List.getD_eq_getElem?_getD, List.getElem?_eq_getElem hj]; rfl⟩
  refine bg_all (l := l.map (·.1)) (fun p hp he => ?_) (fun p hp y r hy ht => ?_) w q0 v ?_ hw hv
  · obtain ⟨j, hj, rfl⟩ := hmem p hp
    exact h.fi j (by omega) he
  · obtain ⟨j, hj, rfl⟩ := hmem p hp
    exact h.ou j y r (.inl ⟨by omega, hy⟩) hj ht
  · have := h.st
    cases l with
    | nil => cases this
    | cons a l => cases this; exact List.mem_cons_self
end
end Go.Sq

namespace Go.Sq
open Go Go.Eng Go.Am
open Go.Tl (Wd bo okW okB)
/-! the comparison of two functions: states that must be equal are joined -/
theorem getD_setN (P : List Nat) (s v i : Nat) (hs : s < P.length) : (P.set s v).getD i 0 = if i = s then v else P.getD i 0 := by
  simp only [List.getD_eq_getElem?_getD, List.getElem?_set]
  by_cases h : s = i
  · subst h; simp [hs]
  · rw [if_neg h, if_neg (fun e => h e.symm)]
structure Uf (N : Nat) (P : List Nat) (k δ : Nat → Nat) : Prop where
  len : P.length = N
  lt : ∀ i, i < N → P.getD i 0 < N
  kl : ∀ i, i < N → k i < N
  kp : ∀ i, i < N → k (P.getD i 0) = k i
  ki : ∀ i, i < N → P.getD i 0 = i → k i = i
  kr : ∀ i, i < N → P.getD (k i) 0 = k i
  dl : ∀ i, i < N → P.getD i 0 ≠ i → δ (P.getD i 0) < δ i
theorem getD_range {N i : Nat} (h : i < N) : (List.range N).getD i 0 = i := by
  rw [List.getD_eq_getElem?_getD, List.getElem?_range h]; rfl
theorem Uf.start (N : Nat) : Uf N (List.range N) (fun i => i) (fun _ => 0) :=
  ⟨List.length_range, fun i hi => by rw [getD_range hi]; exact hi, fun i hi => hi, fun i hi => getD_range hi, fun _ _ _ => rfl, fun i hi => getD_range hi, fun i hi h => absurd (getD_range hi) h⟩
section
variable {N : Nat} {P : List Nat} {k δ : Nat → Nat} (h : Uf N P k δ)
include h
theorem Uf.kk {i : Nat} (hi : i < N) : k (k i) = k i := h.ki _ (h.kl i hi) (h.kr i hi)
theorem Uf.half {s : Nat} (hs : s < N) (hne : P.getD s 0 ≠ s) : Uf N (P.set s (P.getD (P.getD s 0) 0)) k δ := by
  have hsl : s < P.length := by rw [h.len]; exact hs
  have hps := h.lt s hs
  have hd1 := h.dl s hs hne
  have hd2 : δ (P.getD (P.getD s 0) 0) < δ s := by
    by_cases e : P.getD (P.getD s 0) 0 = P.getD s 0
    · rw [e]; exact hd1
    · have := h.dl _ hps e; omega
  refine ⟨by rw [List.length_set]; exact h.len, fun i hi => ?_, h.kl, fun i hi => ?_, fun i hi => ?_, fun i hi => ?_, fun i hi => ?_⟩
  · rw [getD_setN _ _ _ _ hsl]
    split
    · exact h.lt _ hps
    · exact h.lt i hi
  · rw [getD_setN _ _ _ _ hsl]
    split
    · rename_i e; subst e; rw [h.kp _ hps, h.kp _ hs]
    · exact h.kp i hi
  · rw [getD_setN _ _ _ _ hsl]
    split
    · rename_i e; subst e
      intro e2; rw [e2] at hd2; omega
    · exact h.ki i hi
  · rw [getD_setN _ _ _ _ hsl, if_neg (fun e => hne (by rw [← e]; exact h.kr i hi))]
    exact h.kr i hi
  · rw [getD_setN _ _ _ _ hsl]
    split
    · rename_i e; subst e; intro _; exact hd2
    · exact h.dl i hi
theorem Uf.add {a b : Nat} (ha : a < N) (hb : b < N) (hne : k a ≠ k b) : Uf N (P.set (k a) (k b)) (fun i => if k i = k a then k b else k i) (fun i => if k i = k a then δ i + δ (k b) + 1 else δ i) := by
  have hka := h.kl a ha
  have hkb := h.kl b hb
  have hsl : k a < P.length := by rw [h.len]; exact hka
  have ea := h.kk ha
  have eb := h.kk hb
  refine ⟨by rw [List.length_set]; exact h.len, fun i hi => ?_, fun i hi => ?_, fun i hi => ?_, fun i hi => ?_, fun i hi => ?_, fun i hi => ?_⟩
  · rw [getD_setN _ _ _ _ hsl]
    split
    · exact hkb
    · exact h.lt i hi
  · split
    · exact hkb
    · exact h.kl i hi
  · rw [getD_setN _ _ _ _ hsl]
    by_cases e : i = k a
    · subst e
      rw [if_pos rfl, eb, if_neg (fun e => hne e.symm), ea, if_pos rfl]
    · rw [if_neg e, h.kp i hi]
  · rw [getD_setN _ _ _ _ hsl]
    by_cases e : i = k a
    · rw [if_pos e]; intro e2; exact absurd (e2.trans e).symm hne
    · rw [if_neg e]
      intro e2
      have := h.ki i hi e2
      rw [this, if_neg e]
  · by_cases e : k i = k a
    · rw [if_pos e, getD_setN _ _ _ _ hsl, if_neg (fun e => hne e.symm)]; exact h.kr b hb
    · rw [if_neg e, getD_setN _ _ _ _ hsl, if_neg e]; exact h.kr i hi
  · rw [getD_setN _ _ _ _ hsl]
    by_cases e : i = k a
    · subst e
      rw [if_pos rfl, eb, if_neg (fun e => hne e.symm), ea, if_pos rfl]
      intro _; omega
    · rw [if_neg e, h.kp i hi]
      intro e2
      have := h.dl i hi e2
      split <;> omega
end
def ro (N : Nat) (k : Nat → Nat) : Nat := ((List.range N).filter fun i => decide (k i = i)).length
theorem ro_start (N : Nat) : ro N (fun i => i) = N := by
  unfold ro
  rw [List.filter_eq_self.2 (fun i _ => decide_eq_true rfl), List.length_range]
theorem ro_add {N : Nat} {P : List Nat} {k δ : Nat → Nat} (h : Uf N P k δ) {a b : Nat} (ha : a < N) (hb : b < N) (hne : k a ≠ k b) : ro N (fun i => if k i = k a then k b else k i) + 1 = ro N k := by
  have hm : k a ∈ (List.range N).filter fun i => decide (k i = i) := List.mem_filter.2 ⟨List.mem_range.2 (h.kl a ha), decide_eq_true (h.kk ha)⟩
  have hnd : ((List.range N).filter fun i => decide (k i = i)).Nodup := List.nodup_range.filter _
  have e : (List.range N).filter (fun i => decide ((if k i = k a then k b else k i) = i)) = ((List.range N).filter fun i => decide (k i = i)).erase (k a) := by
    rw [hnd.erase_eq_filter, List.filter_filter]
    refine List.filter_congr fun i hi => ?_
    have hi := List.mem_range.1 hi
    rw [Bool.eq_iff_iff, Bool.and_eq_true, decide_eq_true_eq, decide_eq_true_eq, bne_iff_ne]
    by_cases e : k i = k a
    · rw [if_pos e]
      constructor
      · rintro rfl
        rw [h.kk hb] at e; exact absurd e.symm hne
      · rintro ⟨h1, h2⟩
        exact absurd (h2.symm.trans e) h1
    · rw [if_neg e]
      exact ⟨fun h1 => ⟨fun h2 => e (by rw [h1, h2]), h1⟩, fun h1 => h1.2⟩
  unfold ro
  rw [e, List.length_erase_of_mem hm]
  have := List.length_pos_of_mem hm
  omega
/-- from pair x the letter a leads to pair y, and both write the same -/
def St2 (l r : Sq) (x : Nat × Nat) (a : Nat) (y : Nat × Nat) : Prop := l.to x.1 a = some y.1 ∧ r.to x.2 a = some y.2 ∧ l.o x.1 a = r.o x.2 a
abbrev z2 : Nat × Nat := (0, 0)
structure Cp (l r : Sq) (Q : List (Nat × Nat)) (F B : List Nat) (k : Nat → Nat) : Prop where
  fl : F.length = Q.length
  bl : B.length = Q.length
  lt : ∀ x ∈ Q, x.1 < l.n ∧ x.2 < r.n
  jn : ∀ x ∈ Q, k x.1 = k (l.n + x.2)
  gen : ∀ φ : Nat → Option Wd, (∀ x ∈ Q, φ x.1 = φ (l.n + x.2)) → ∀ a b, a < l.n + r.n → b < l.n + r.n → k a = k b → φ a = φ b
  z0 : 0 < Q.length → Q.getD 0 z2 = (l.s, r.s)
  st : ∀ i, 0 < i → i < Q.length → F.getD i 0 < i ∧ B.getD i 0 < l.L ∧ St2 l r (Q.getD (F.getD i 0) z2) (B.getD i 0) (Q.getD i z2)
  cnt : Q.length + ro (l.n + r.n) k = l.n + r.n
theorem Cp.start (l r : Sq) : Cp l r [] [] [] (fun i => i) :=
  ⟨rfl, rfl, fun _ h => (by cases h), fun _ h => (by cases h), fun φ _ a b _ _ e => by rw [show a = b from e], fun h => absurd h (by decide), fun i _ h => absurd h (by simp), by rw [ro_start]; simp⟩
theorem getD_end {α : Type} {l : List α} {x d : α} : (l ++ [x]).getD l.length d = x := by
  rw [List.getD_eq_getElem?_getD, List.getElem?_append_right (Nat.le_refl _), Nat.sub_self]; rfl
section
variable {l r : Sq} {Q : List (Nat × Nat)} {F B P : List Nat} {k δ : Nat → Nat} (h : Cp l r Q F B k) (u : Uf (l.n + r.n) P k δ)
include h u
theorem Cp.add {y : Nat × Nat} (h1 : y.1 < l.n) (h2 : y.2 < r.n) (hne : k y.1 ≠ k (l.n + y.2)) {f b : Nat} (hb : (Q = [] ∧ y = (l.s, r.s)) ∨ (f < Q.length ∧ b < l.L ∧ St2 l r (Q.getD f z2) b y)) :
    Cp l r (Q ++ [y]) (F ++ [f]) (B ++ [b]) (fun i => if k i = k y.1 then k (l.n + y.2) else k i) := by
  have ha' : y.1 < l.n + r.n := by omega
  have hb' : l.n + y.2 < l.n + r.n := by omega
  have hy : (if k y.1 = k y.1 then k (l.n + y.2) else k y.1) = (if k (l.n + y.2) = k y.1 then k (l.n + y.2) else k (l.n + y.2)) := by
    rw [if_pos rfl]; split <;> rfl
  refine ⟨by rw [List.length_append, List.length_append, h.fl]; rfl, by rw [List.length_append, List.length_append, h.bl]; rfl, fun x hx => ?_, fun x hx => ?_, fun φ hφ a c ha hc he => ?_, fun _ => ?_, fun i hi hl => ?_, ?_⟩
  · rcases List.mem_append.1 hx with hx | hx
    · exact h.lt x hx
    · rw [List.mem_singleton] at hx; subst hx; exact ⟨h1, h2⟩
  · rcases List.mem_append.1 hx with hx | hx
    · show (if k x.1 = k y.1 then _ else _) = (if k (l.n + x.2) = k y.1 then _ else _)
      rw [h.jn x hx]
    · rw [List.mem_singleton] at hx; subst hx; exact hy
  · have g := h.gen φ (fun x hx => hφ x (List.mem_append_left _ hx))
    have gy : φ y.1 = φ (l.n + y.2) := hφ y (List.mem_append_right _ (by simp))
    by_cases e1 : k a = k y.1
    · by_cases e2 : k c = k y.1
      · exact g a c ha hc (e1.trans e2.symm)
      · rw [if_pos e1, if_neg e2] at he
        rw [g a y.1 ha ha' e1, gy]
        exact g _ c hb' hc he
    · by_cases e2 : k c = k y.1
      · rw [if_neg e1, if_pos e2] at he
        rw [g c y.1 hc ha' e2, gy]
        exact g a _ ha hb' he
      · rw [if_neg e1, if_neg e2] at he
        exact g a c ha hc he
  · rcases hb with ⟨rfl, rfl⟩ | ⟨hf, _⟩
    · rfl
    · rw [getD_app (by omega)]; exact h.z0 (by omega)
  · rw [List.length_append, List.length_singleton] at hl
    have hfl := h.fl
    have hbl := h.bl
    by_cases hq : i < Q.length
    · have := h.st i hi hq
      rw [getD_app (by omega), getD_app (by omega), getD_app (by omega), getD_app (by omega)]
      exact this
    · obtain rfl : i = Q.length := by omega
      have e1 : (F ++ [f]).getD Q.length 0 = f := by rw [← hfl]; exact getD_end
      have e2 : (B ++ [b]).getD Q.length 0 = b := by rw [← hbl]; exact getD_end
      rcases hb with ⟨rfl, _⟩ | ⟨hf, hb2, hb3⟩
      · exact absurd hi (by decide)
      · rw [e1, e2, getD_end, getD_app hf]
        exact ⟨hf, hb2, hb3⟩
  · have := h.cnt
    have e := ro_add u ha' hb' hne
    rw [List.length_append, List.length_singleton]
    omega
omit u in
theorem Cp.len : Q.length ≤ l.n + r.n := by have := h.cnt; omega
end
/-- pair x is looked at: nothing differs, and what lies behind is joined -/
def Cl (l r : Sq) (k : Nat → Nat) (x : Nat × Nat) (n : Nat) : Prop := l.e x.1 = r.e x.2 ∧ l.f x.1 = r.f x.2 ∧ ∀ a, a < n → (l.to x.1 a = none ∧ r.to x.2 a = none) ∨ ∃ y : Nat × Nat, St2 l r x a y ∧ k y.1 = k (l.n + y.2)
/-- k' joins what k joins -/
def Crs (N : Nat) (k k' : Nat → Nat) : Prop := ∀ a b, a < N → b < N → k a = k b → k' a = k' b
theorem Crs.refl (N : Nat) (k : Nat → Nat) : Crs N k k := fun _ _ _ _ e => e
theorem Crs.trans {N : Nat} {k k' k'' : Nat → Nat} (h : Crs N k k') (g : Crs N k' k'') : Crs N k k'' := fun a b ha hb e => g a b ha hb (h a b ha hb e)
theorem Crs.add (N : Nat) (k : Nat → Nat) (a b : Nat) : Crs N k (fun i => if k i = k a then k b else k i) := fun c d _ _ e => by show (if k c = k a then k b else k c) = (if k d = k a then k b else k d); rw [e]
theorem Cl.mono {l r : Sq} {k k' : Nat → Nat} {x : Nat × Nat} {n : Nat} (hl : ∀ q a p, q < l.n → a < n → l.to q a = some p → p < l.n) (hr : ∀ q a p, q < r.n → a < n → r.to q a = some p → p < r.n) (h1 : x.1 < l.n) (h2 : x.2 < r.n) (h : Cl l r k x n) (g : Crs (l.n + r.n) k k') : Cl l r k' x n :=
  ⟨h.1, h.2.1, fun a ha => by
    rcases h.2.2 a ha with h3 | ⟨y, h3, h4⟩
    · exact .inl h3
    · have hy1 := hl _ _ _ h1 ha h3.1
      have hy2 := hr _ _ _ h2 ha h3.2.1
      exact .inr ⟨y, h3, g _ _ (by omega) (by omega) h4⟩⟩
theorem val_nil {α : Type} (T : Tr α) (q : α) : T.val q [] = if T.en q then some (T.fi q) else none := rfl
theorem Cp.same {l r : Sq} {Q : List (Nat × Nat)} {F B : List Nat} {k : Nat → Nat} (h : Cp l r Q F B k) (hl : ∀ q a p, q < l.n → a < l.L → l.to q a = some p → p < l.n) (hr : ∀ q a p, q < r.n → a < l.L → r.to q a = some p → p < r.n) (hc : ∀ x ∈ Q, Cl l r k x l.L) : ∀ w, InW l.L w → ∀ x ∈ Q, l.tr.val x.1 w = r.tr.val x.2 w
  | [], _, x, hx => by
    obtain ⟨h1, h2, _⟩ := hc x hx
    rw [val_nil, val_nil, show l.tr.en x.1 = r.tr.en x.2 from h1, show l.tr.fi x.1 = r.tr.fi x.2 from h2]
  | a :: w, hw, x, hx => by
    have ih := Cp.same h hl hr hc w hw.tail
    obtain ⟨x1, x2⟩ := h.lt x hx
    rcases (hc x hx).2.2 a hw.head with ⟨e1, e2⟩ | ⟨y, ⟨e1, e2, e3⟩, e4⟩
    · rw [l.tr.val_none (show l.tr.to x.1 a = none from e1), r.tr.val_none (show r.tr.to x.2 a = none from e2)]
    · rw [l.tr.val_some (show l.tr.to x.1 a = some y.1 from e1), r.tr.val_some (show r.tr.to x.2 a = some y.2 from e2), show l.tr.ou x.1 a = r.tr.ou x.2 a from e3]
      have y1 := hl _ _ _ x1 hw.head e1
      have y2 := hr _ _ _ x2 hw.head e2
      have := h.gen (fun i => if i < l.n then l.tr.val i w else r.tr.val (i - l.n) w) (fun z hz => by
        obtain ⟨z1, z2⟩ := h.lt z hz
        rw [if_pos z1, if_neg (by omega), Nat.add_sub_cancel_left]
        exact ih z hz) y.1 (l.n + y.2) (by omega) (by omega) e4
      rw [if_pos y1, if_neg (by omega), Nat.add_sub_cancel_left] at this
      rw [this]
/-- u leads both to pair x, and both write the same -/
def Go2 (l r : Sq) (u : List Nat) (x : Nat × Nat) : Prop := ∃ o : Wd, (∀ v, l.tr.val l.s (u ++ v) = (l.tr.val x.1 v).map (o ++ ·)) ∧ (∀ v, r.tr.val r.s (u ++ v) = (r.tr.val x.2 v).map (o ++ ·))
theorem map_nil_app (o : Option Wd) : o.map (([] : Wd) ++ ·) = o := by cases o <;> rfl
theorem map_app_app (o : Option Wd) (s t : Wd) : (o.map (t ++ ·)).map (s ++ ·) = o.map ((s ++ t) ++ ·) := by
  cases o with
  | none => rfl
  | some v => show some (s ++ (t ++ v)) = some (s ++ t ++ v); rw [List.append_assoc]
theorem Go2.start (l r : Sq) : Go2 l r [] (l.s, r.s) := ⟨[], fun _ => (map_nil_app _).symm, fun _ => (map_nil_app _).symm⟩
theorem Go2.step {l r : Sq} {u : List Nat} {x y : Nat × Nat} {a : Nat} (h : Go2 l r u x) (k : St2 l r x a y) : Go2 l r (u ++ [a]) y := by
  obtain ⟨o, h1, h2⟩ := h
  obtain ⟨k1, k2, k3⟩ := k
  refine ⟨o ++ l.o x.1 a, fun v => ?_, fun v => ?_⟩
  · rw [List.append_assoc, List.singleton_append, h1, l.tr.val_some (show l.tr.to x.1 a = some y.1 from k1)]
    exact map_app_app _ _ _
  · rw [List.append_assoc, List.singleton_append, h2, r.tr.val_some (show r.tr.to x.2 a = some y.2 from k2), k3]
    exact map_app_app _ _ _
theorem map_app_inj {o p : Option Wd} {s : Wd} (h : o.map (s ++ ·) = p.map (s ++ ·)) : o = p := by
  cases o with
  | none =>
    cases p with
    | none => rfl
    | some v => cases h
  | some v =>
    cases p with
    | none => cases h
    | some w => exact congrArg some (List.append_cancel_left (Option.some.inj h))
theorem Go2.differ {l r : Sq} {u v : List Nat} {x : Nat × Nat} (h : Go2 l r u x) (hn : l.tr.val x.1 v ≠ r.tr.val x.2 v) : l.tr.val l.s (u ++ v) ≠ r.tr.val r.s (u ++ v) := by
  obtain ⟨o, h1, h2⟩ := h
  rw [h1, h2]
  exact fun e => hn (map_app_inj e)
/-- what word has found, from the end -/
def WdI (l r : Sq) (Q : List (Nat × Nat)) (i j : Nat) (w : Wd) : Prop := ∀ u, Go2 l r u (Q.getD j z2) → Go2 l r (u ++ wl w.reverse) (Q.getD i z2)
theorem WdI.start (l r : Sq) (Q : List (Nat × Nat)) (i : Nat) : WdI l r Q i i [] := fun u h => by
  show Go2 l r (u ++ []) _
  rwa [List.append_nil]
theorem WdI.step {l r : Sq} {Q : List (Nat × Nat)} {F B : List Nat} {k : Nat → Nat} (h : Cp l r Q F B k) (hL : l.L ≤ 6) {i j : Nat} {w : Wd} (g : WdI l r Q i j w) (hj : 0 < j) (hl : j < Q.length) : WdI l r Q i (F.getD j 0) (w ++ [UInt8.ofNat (97 + B.getD j 0)]) := fun u hu => by
  obtain ⟨h1, h2, h3⟩ := h.st j hj hl
  have := g _ (hu.step h3)
  rw [List.reverse_append]
  show Go2 l r (u ++ ((UInt8.ofNat (97 + B.getD j 0)).toNat - 97) :: wl w.reverse) _
  rw [u8a (by omega), Nat.add_sub_cancel_left]
  rwa [List.append_assoc] at this
theorem WdI.done {l r : Sq} {Q : List (Nat × Nat)} {F B : List Nat} {k : Nat → Nat} (h : Cp l r Q F B k) {i : Nat} {w : Wd} (g : WdI l r Q i 0 w) (hl : 0 < Q.length) : Go2 l r (wl w.reverse) (Q.getD i z2) := by
  have := g [] (by rw [h.z0 hl]; exact Go2.start l r)
  rwa [List.nil_append] at this
/-! apart -/
theorem pre_ex {u v : Wd} (h : u <+: v) (hne : u ≠ v) : ∃ c t, v = u ++ c :: t ∧ v.getD u.length 0 = c ∧ u.length < v.length := by
  obtain ⟨t, rfl⟩ := h
  cases t with
  | nil => rw [List.append_nil] at hne; exact absurd rfl hne
  | cons c t => exact ⟨c, t, rfl, by rw [List.getD_eq_getElem?_getD, List.getElem?_append_right (Nat.le_refl _), Nat.sub_self]; rfl, by rw [List.length_append, List.length_cons]; omega⟩
theorem ap_l {u v : Wd} {c : UInt8} {t : Wd} (hv : v = u ++ c :: t) {z : Wd} (hz : ¬ Bgw c z) (o : Option Wd) : (some z).map (u ++ ·) ≠ o.map (v ++ ·) := by
  subst hv
  intro e
  cases o with
  | none => cases e
  | some y =>
    have e : u ++ z = (u ++ c :: t) ++ y := Option.some.inj e
    rw [List.append_assoc] at e
    exact hz ⟨t ++ y, by rw [List.append_cancel_left e]; rfl⟩
theorem ap_n {u v z : Wd} (h1 : ¬ u <+: v) (h2 : ¬ v <+: u) (o : Option Wd) : (some z).map (u ++ ·) ≠ o.map (v ++ ·) := by
  intro e
  cases o with
  | none => cases e
  | some y =>
    have e : u ++ z = v ++ y := Option.some.inj e
    have p1 : u <+: u ++ z := List.prefix_append _ _
    have p2 : v <+: u ++ z := by rw [e]; exact List.prefix_append _ _
    rcases Nat.le_total u.length v.length with hl | hl
    · exact h1 (pre_len p1 p2 hl)
    · exact h2 (pre_len p2 p1 hl)
/-- in a normal form not all values begin with one letter -/
theorem Sq.Nf.avoid {d : Sq} (h : d.Nf) {q : Nat} (hq : q < d.n) (ch : UInt8) : ∃ ws v, InW d.L ws ∧ d.tr.val q ws = some v ∧ ¬ Bgw ch v := Classical.byContradiction fun hn => by
  have h1 := (h.nor q hq).top [ch] (fun w v hw hv => by
    have : Bgw ch v := Classical.byContradiction fun hb => hn ⟨w, v, hw, hv, hb⟩
    obtain ⟨t, rfl⟩ := this
    exact ⟨t, rfl⟩)
  have := h1.length_le
  simp at this
end Go.Sq

namespace Go.Sq
open Go Go.Eng Go.Am
open Go.Tl (Wd bo okW)
/-! pairs as keys; adding to the list of pairs -/
abbrev kp (p : Nat × Nat) : Value := .agg #[zn p.1, zn p.2]
section
variable {α : Type} [DecidableEq α]
theorem addN_get (l : List α) (b : α) : (addN l b).1[(addN l b).2]? = some b := by
  have h := addN_mem l b
  rw [addN_idx]
  have h1 := List.idxOf_lt_length_of_mem h
  have := getD_idxOf h b
  rw [List.getD_eq_getElem?_getD, List.getElem?_eq_getElem h1] at this
  rw [List.getElem?_eq_getElem h1]
  exact congrArg some this
theorem EntA.add {l : List α} {b : α} : EntA (addN l b).1 (some b) (some (addN l b).2) := ⟨_, rfl, addN_get l b⟩
theorem RowP.add {st : α → Nat → Option α} {L x : Nat} {l : List α} {a : α} {xs : List (Option Nat)} (h : RowP st L l a x xs) (hx : x < L) {b : α} (hb : st a x = some b) : RowP st L (addN l b).1 a (x + 1) (xs.set x (some (addN l b).2)) := by
  obtain ⟨t, ht⟩ := addN_pre l b
  have h2 : RowP st L (addN l b).1 a x xs := by rw [ht]; exact h.grow
  exact h2.put hx (by rw [hb]; exact EntA.add)
theorem RowA.add {st : α → Nat → Option α} {x : Nat} {l : List α} {a : α} {xs : List (Option Nat)} (h : RowA st l a x xs) {b : α} (hb : st a x = some b) : RowA st (addN l b).1 a (x + 1) (xs ++ [some (addN l b).2]) := by
  obtain ⟨t, ht⟩ := addN_pre l b
  have h2 : RowA st (addN l b).1 a x xs := by rw [ht]; exact h.grow
  exact h2.snoc (by rw [hb]; exact EntA.add)
end
end Go.Sq

namespace Go.Sq
open Go Go.Eng Go.Am
open Go.Tl (Wd bo okW okB)
/-! what the comparison has in memory -/
structure Cs where
  P : List Nat
  Q : List (Nat × Nat)
  F : List Nat
  B : List Nat
  qa : Option Addr
  qc : Nat
  fa : Option Addr
  fc : Nat
  ba : Option Addr
  bc : Nat
  k : Nat → Nat
  δ : Nat → Nat
structure CsOk (l r : Sq) (C : Cs) : Prop where
  uf : Uf (l.n + r.n) C.P C.k C.δ
  cp : Cp l r C.Q C.F C.B C.k
theorem Uf.half_lt {N : Nat} {P : List Nat} {k δ : Nat → Nat} (h : Uf N P k δ) {s : Nat} (hs : s < N) (hne : P.getD s 0 ≠ s) : δ (P.getD (P.getD s 0) 0) < δ s := by
  have hd1 := h.dl s hs hne
  by_cases e : P.getD (P.getD s 0) 0 = P.getD s 0
  · rw [e]; exact hd1
  · have := h.dl _ (h.lt s hs) e; omega
theorem Uf.half_k {N : Nat} {P : List Nat} {k δ : Nat → Nat} (h : Uf N P k δ) {s : Nat} (hs : s < N) : k (P.getD (P.getD s 0) 0) = k s := by
  rw [h.kp _ (h.lt s hs), h.kp _ hs]
/-- a text turned round in place, i bytes from each end -/
def rvP (l : Wd) (i : Nat) : Wd := (List.range l.length).map fun t => if t < i ∨ l.length - i ≤ t then l.getD (l.length - 1 - t) 0 else l.getD t 0
theorem rvP_len (l : Wd) (i : Nat) : (rvP l i).length = l.length := by simp [rvP]
theorem rvP_get (l : Wd) (i : Nat) {t : Nat} (h : t < l.length) : (rvP l i).getD t 0 = if t < i ∨ l.length - i ≤ t then l.getD (l.length - 1 - t) 0 else l.getD t 0 := by
  rw [rvP, List.getD_eq_getElem?_getD, List.getElem?_map, List.getElem?_range h]; rfl
theorem list_ext0 {l m : Wd} (hl : l.length = m.length) (h : ∀ t, t < l.length → l.getD t 0 = m.getD t 0) : l = m := by
  refine List.ext_getElem hl fun i h1 h2 => ?_
  have := h i h1
  rw [List.getD_eq_getElem?_getD, List.getD_eq_getElem?_getD, List.getElem?_eq_getElem h1, List.getElem?_eq_getElem h2] at this
  exact this
theorem rvP_zero (l : Wd) : rvP l 0 = l := list_ext0 (rvP_len l 0) fun t ht => by
  rw [rvP_len] at ht
  rw [rvP_get l 0 ht, if_neg (by omega)]
theorem rvP_done (l : Wd) {i : Nat} (h : l.length ≤ 2 * i + 1) : rvP l i = l.reverse := list_ext0 (by rw [rvP_len, List.length_reverse]) fun t ht => by
  rw [rvP_len] at ht
  have e : l.reverse.getD t 0 = l.getD (l.length - 1 - t) 0 := by
    rw [List.getD_eq_getElem?_getD, List.getElem?_reverse ht, ← List.getD_eq_getElem?_getD]
  rw [rvP_get l i ht, e]
  by_cases h1 : t < i ∨ l.length - i ≤ t
  · rw [if_pos h1]
  · rw [if_neg h1]
    rw [show l.length - 1 - t = t by omega]
theorem getD_set0 (l : Wd) (s : Nat) (v : UInt8) (i : Nat) : (l.set s v).getD i 0 = if s = i ∧ i < l.length then v else l.getD i 0 := by
  simp only [List.getD_eq_getElem?_getD, List.getElem?_set]
  by_cases h : s = i
  · subst h
    by_cases h2 : s < l.length <;> simp [h2]
  · simp [h]
theorem rvP_step (l : Wd) {i : Nat} (h : i < l.length - 1 - i) : ((rvP l i).set i ((rvP l i).getD (l.length - 1 - i) 0)).set (l.length - 1 - i) ((rvP l i).getD i 0) = rvP l (i + 1) := list_ext0 (by simp [rvP_len]) fun t ht => by
  rw [List.length_set, List.length_set, rvP_len] at ht
  rw [getD_set0, getD_set0, List.length_set, rvP_len, rvP_get l i ht, rvP_get l (i + 1) ht, rvP_get l i (show i < l.length by omega), rvP_get l i (show l.length - 1 - i < l.length by omega)]
  by_cases e1 : l.length - 1 - i = t
  · rw [if_pos ⟨e1, ht⟩, if_neg (by omega), if_pos (by omega), show l.length - 1 - t = i by omega]
  · rw [if_neg (fun hh => e1 hh.1)]
    by_cases e2 : i = t
    · rw [if_pos ⟨e2, ht⟩, if_neg (by omega), if_pos (by omega), e2]
    · rw [if_neg (fun hh => e2 hh.1)]
      by_cases e3 : t < i ∨ l.length - i ≤ t
      · rw [if_pos e3, if_pos (by omega)]
      · rw [if_neg e3, if_neg (by omega)]
end Go.Sq
namespace Go.Sq
open Go Go.Eng Go.Am
open Go.Tl (Wd bo okW okB)
theorem df_e {l r : Sq} {p q : Nat} (h : l.e p ≠ r.e q) : l.tr.val p [] ≠ r.tr.val q [] := by
  rw [val_nil, val_nil, show l.tr.en p = l.e p from rfl, show r.tr.en q = r.e q from rfl]
  cases e1 : l.e p <;> cases e2 : r.e q
  · rw [e1, e2] at h; exact absurd rfl h
  · simp
  · simp
  · rw [e1, e2] at h; exact absurd rfl h
theorem df_f {l r : Sq} {p q : Nat} (he : l.e p = r.e q) (h : l.f p ≠ r.f q) (nl : l.e p = false → l.f p = []) (nr : r.e q = false → r.f q = []) : l.tr.val p [] ≠ r.tr.val q [] := by
  rw [val_nil, val_nil, show l.tr.en p = l.e p from rfl, show r.tr.en q = r.e q from rfl]
  cases e1 : l.e p
  · rw [e1] at he
    exact absurd ((nl e1).trans (nr he.symm).symm) h
  · rw [← he, e1]
    intro e
    exact h (Option.some.inj e)
theorem Cl.snoc {l r : Sq} {k : Nat → Nat} {x : Nat × Nat} {a : Nat} (h : Cl l r k x a) (hn : (l.to x.1 a = none ∧ r.to x.2 a = none) ∨ ∃ y : Nat × Nat, St2 l r x a y ∧ k y.1 = k (l.n + y.2)) : Cl l r k x (a + 1) :=
  ⟨h.1, h.2.1, fun b hb => by
    by_cases e : b < a
    · exact h.2.2 b e
    · obtain rfl : b = a := by omega
      exact hn⟩
theorem df_l {l r : Sq} {p q a p' : Nat} {w : List Nat} (h1 : l.to p a = some p') (h2 : r.to q a = none) (h : (l.tr.val p' w).isSome = true) : l.tr.val p (a :: w) ≠ r.tr.val q (a :: w) := by
  rw [l.tr.val_some (show l.tr.to p a = some p' from h1), r.tr.val_none (show r.tr.to q a = none from h2)]
  obtain ⟨v, hv⟩ := Option.isSome_iff_exists.1 h
  rw [hv]; exact fun e => by cases e
theorem df_r {l r : Sq} {p q a q' : Nat} {w : List Nat} (h1 : l.to p a = none) (h2 : r.to q a = some q') (h : (r.tr.val q' w).isSome = true) : l.tr.val p (a :: w) ≠ r.tr.val q (a :: w) := fun e => df_l h2 h1 h e.symm
theorem df_o {l r : Sq} {p q a p' q' : Nat} {w : List Nat} (h1 : l.to p a = some p') (h2 : r.to q a = some q') (h : (l.tr.val p' w).map (l.o p a ++ ·) ≠ (r.tr.val q' w).map (r.o q a ++ ·)) : l.tr.val p (a :: w) ≠ r.tr.val q (a :: w) := by
  rw [l.tr.val_some (show l.tr.to p a = some p' from h1), r.tr.val_some (show r.tr.to q a = some q' from h2)]
  exact h
theorem wl_cons8 {x : Nat} (h : x < 100) (w : Wd) : wl ([UInt8.ofNat (97 + x)] ++ w) = x :: wl w := by
  show ((UInt8.ofNat (97 + x)).toNat - 97) :: wl w = _
  rw [u8a h, Nat.add_sub_cancel_left]
theorem Lw.cons8 {L x : Nat} {w : Wd} (h : Lw L w) (hx : x < L) (hL : L ≤ 6) : Lw L ([UInt8.ofNat (97 + x)] ++ w) := Lw.app ((Lw.nil L).snoc hx hL) h
theorem Lw.rev {L : Nat} {w : Wd} (h : Lw L w) : Lw L w.reverse := fun b hb => h b (List.mem_reverse.1 hb)
theorem pre_getD {α : Type} {l m : List α} (h : l <+: m) {i : Nat} (hi : i < l.length) (d : α) : m.getD i d = l.getD i d := by
  obtain ⟨t, rfl⟩ := h
  exact getD_app hi
end Go.Sq

namespace Go.Sq
open Go Go.Eng Go.Am
open Go.Tl (Wd bo okW okB)
/-! difference and Equal -/
def rgP (N i : Nat) : List Nat := (List.range N).map fun t => if t < i then t else 0
theorem rgP_len (N i : Nat) : (rgP N i).length = N := by simp [rgP]
theorem rgP_get {N i t : Nat} (h : t < N) : (rgP N i).getD t 0 = if t < i then t else 0 := by
  rw [rgP, List.getD_eq_getElem?_getD, List.getElem?_map, List.getElem?_range h]; rfl
theorem ext0 {l m : List Nat} (hl : l.length = m.length) (h : ∀ t, t < l.length → l.getD t 0 = m.getD t 0) : l = m := by
  refine List.ext_getElem hl fun i h1 h2 => ?_
  have := h i h1
  rw [List.getD_eq_getElem?_getD, List.getD_eq_getElem?_getD, List.getElem?_eq_getElem h1, List.getElem?_eq_getElem h2] at this
  exact this
theorem rgP_zero (N : Nat) : rgP N 0 = List.replicate N 0 := ext0 (by rw [rgP_len, List.length_replicate]) fun t ht => by
  rw [rgP_len] at ht
  rw [rgP_get ht, if_neg (by omega), List.getD_eq_getElem?_getD, List.getElem?_replicate, if_pos ht]; rfl
theorem rgP_put {N i : Nat} (h : i < N) : (rgP N i).set i i = rgP N (i + 1) := ext0 (by rw [List.length_set, rgP_len, rgP_len]) fun t ht => by
  rw [List.length_set, rgP_len] at ht
  rw [getD_setN _ _ _ _ (by rw [rgP_len]; exact h), rgP_get ht, rgP_get ht]
  by_cases e : t = i
  · rw [if_pos e, if_pos (by omega), e]
  · rw [if_neg e]
    by_cases e2 : t < i
    · rw [if_pos e2, if_pos (by omega)]
    · rw [if_neg e2, if_neg (by omega)]
theorem rgP_full (N : Nat) : rgP N N = List.range N := ext0 (by rw [rgP_len, List.length_range]) fun t ht => by
  rw [rgP_len] at ht
  rw [rgP_get ht, if_pos ht, getD_range ht]
theorem value_ne {l r : Sq} {w : List Nat} (hi : l.init = r.init) (h : l.tr.val l.s w ≠ r.tr.val r.s w) : l.value w ≠ r.value w := fun e => by
  rw [Sq.value, Sq.value, ← hi] at e
  exact h (map_app_inj e)
theorem value_emp {l : Sq} (h : l.tr.co l.L l.s = false) {w : List Nat} (hw : InW l.L w) : l.value w = none := by
  rw [Sq.value]
  cases e : l.tr.val l.s w with
  | none => rfl
  | some v =>
    have : l.tr.co l.L l.s = true := Tr.co_t.2 ⟨w, hw, by rw [e]; rfl⟩
    rw [h] at this; cases this
theorem value_is {l : Sq} {w : List Nat} (h : (l.tr.val l.s w).isSome = true) : l.value w ≠ none := by
  rw [Sq.value]
  cases e : l.tr.val l.s w with
  | none => rw [e] at h; cases h
  | some v => exact fun e => by cases e
theorem wl_inw {L : Nat} {w : Wd} (h : Lw L w) : InW L (wl w) := fun x hx => by
  obtain ⟨b, hb, rfl⟩ := List.mem_map.1 hx
  have := h b hb; omega
/-- what difference answers -/
def Dif (l r : Sq) (N : Nat) (o : Wd × Bool) : Prop := (o.2 = true → Lw l.L o.1 ∧ o.1.length ≤ N ∧ l.value (wl o.1) ≠ r.value (wl o.1)) ∧ (o.2 = false → o.1 = [] ∧ ∀ w, InW l.L w → l.value w = r.value w)
theorem Dif.yes {l r : Sq} {N : Nat} {ws : Wd} (h1 : Lw l.L ws) (h2 : ws.length ≤ N) (h3 : l.value (wl ws) ≠ r.value (wl ws)) : Dif l r N (ws, true) := ⟨fun _ => ⟨h1, h2, h3⟩, fun h => by cases h⟩
theorem Dif.no {l r : Sq} {N : Nat} (h : ∀ w, InW l.L w → l.value w = r.value w) : Dif l r N ([], false) := ⟨fun h => (by cases h), fun _ => ⟨rfl, h⟩⟩
theorem CsOk.start (l r : Sq) : CsOk l r ⟨List.range (l.n + r.n), [], [], [], none, 0, none, 0, none, 0, fun i => i, fun _ => 0⟩ := ⟨Uf.start _, Cp.start l r⟩
theorem CsOk.all {l r : Sq} {C : Cs} (h : CsOk l r C) (hl : ∀ q a p, q < l.n → a < l.L → l.to q a = some p → p < l.n) (hr : ∀ q a p, q < r.n → a < l.L → r.to q a = some p → p < r.n) (hi : l.init = r.init) (h1 : l.s < l.n) (h2 : r.s < r.n) (hj : C.k l.s = C.k (l.n + r.s)) (hc : ∀ j, j < C.Q.length → Cl l r C.k (C.Q.getD j z2) l.L) (w : List Nat) (hw : InW l.L w) : l.value w = r.value w := by
  have key := h.cp.same hl hr (fun x hx => by
    obtain ⟨j, hj, rfl⟩ := List.getElem_of_mem hx
    have := hc j hj
    rwa [List.getD_eq_getElem?_getD, List.getElem?_eq_getElem hj] at this) w hw
  have := h.cp.gen (fun i => if i < l.n then l.tr.val i w else r.tr.val (i - l.n) w) (fun z hz => by
    obtain ⟨z1, z2⟩ := h.cp.lt z hz
    rw [if_pos z1, if_neg (by omega), Nat.add_sub_cancel_left]
    exact key z hz) l.s (l.n + r.s) (by omega) (by omega) hj
  rw [if_pos h1, if_neg (by omega), Nat.add_sub_cancel_left] at this
  rw [Sq.value, Sq.value, hi, this]
end Go.Sq

namespace Go.Sq
open Go Go.Eng Go.Am
open Go.Tl (Wd bo okW okB)
theorem emptyQ_co (L : Nat) : (emptyQ L).tr.co (emptyQ L).L (emptyQ L).s = false := by
  cases e : (emptyQ L).tr.co (emptyQ L).L (emptyQ L).s with
  | false => rfl
  | true =>
    obtain ⟨w, hw, hv⟩ := Tr.co_t.1 e
    rw [show (emptyQ L).tr.val (emptyQ L).s w = none from emptyQ_val L hw] at hv; cases hv
theorem IsNorm.nf' {f d : Sq} (h : IsNorm f d) (hc : d.tr.co d.L d.s = true) : d.Nf := by
  rcases h.nf with rfl | ⟨_, _, h1⟩
  · rw [emptyQ_co] at hc; cases hc
  · exact h1
theorem IsNorm.L_eq {f d : Sq} (h : IsNorm f d) : d.L = f.L := by
  rcases h.nf with rfl | ⟨_, h1, _⟩
  · rfl
  · exact h1
theorem Dif.congr {l r l' r' : Sq} {N N' : Nat} {o : Wd × Bool} (h : Dif l r N o) (hN : N ≤ N') (hL : l.L = l'.L) (h1 : ∀ w, InW l'.L w → l.value w = l'.value w) (h2 : ∀ w, InW l'.L w → r.value w = r'.value w) : Dif l' r' N' o :=
  ⟨fun ho => by
    obtain ⟨a, b, c⟩ := h.1 ho
    rw [hL] at a
    exact ⟨a, Nat.le_trans b hN, by rw [← h1 _ (wl_inw a), ← h2 _ (wl_inw a)]; exact c⟩, fun ho => by
    obtain ⟨a, b⟩ := h.2 ho
    exact ⟨a, fun w hw => by rw [← h1 w hw, ← h2 w hw]; exact b w (hL ▸ hw)⟩⟩
/-- the answer and the minimal forms -/
theorem Dif.min {l r a b : Sq} {N : Nat} {o : Wd × Bool} (h : Dif l r N o) (hL : l.L = r.L) (ha : IsMini l a) (hb : IsMini r b) : (!o.2) = decide (a = b) := by
  have hb : IsMinQ l.L r.value b := by rw [hL]; exact hb
  have hi := IsMinQ.iff ha hb
  cases e : o.2 with
  | false => exact (decide_eq_true (hi.2 (h.2 e).2)).symm
  | true =>
    obtain ⟨h1, _, h3⟩ := h.1 e
    exact (decide_eq_false fun hab => h3 (hi.1 hab _ (wl_inw h1))).symm
end Go.Sq

namespace Go.Sq
open Go Go.Eng Go.Am
open Go.Tl (Wd bo okW okB)
/-! one text, one target of a function in memory changed -/
def Sv.putO (S : Sv) (q x : Nat) (v : Wd) : Sv := { S with os := S.os.set q ⟨(S.os.getD q rx0).a, (S.os.getD q rx0).cp, (S.os.getD q rx0).xs.set x v⟩ }
def Sv.putN (S : Sv) (q x : Nat) (v : Option Nat) : Sv := { S with rs := S.rs.set q ⟨(S.rs.getD q rx0).a, (S.rs.getD q rx0).cp, (S.rs.getD q rx0).xs.set x v⟩ }
theorem set_self {α : Type} {l : List α} {q : Nat} {y : α} (h : l[q]? = some y) : l.set q y = l := by
  apply List.ext_getElem?
  intro i
  rw [List.getElem?_set]
  by_cases e : q = i
  · subst e
    rw [if_pos rfl]
    obtain ⟨h1, h2⟩ := List.getElem?_eq_some_iff.1 h
    rw [if_pos h1, h]
  · rw [if_neg e]
theorem rxv_set {α : Type} {rs : List (Rx α)} {q x : Nat} {v : α} : (rs.set q ⟨(rs.getD q rx0).a, (rs.getD q rx0).cp, (rs.getD q rx0).xs.set x v⟩).map rxv = rs.map rxv := by
  by_cases hq : q < rs.length
  · rw [List.map_set]
    refine set_self ?_
    rw [List.getElem?_map, getX hq]
    simp [rxv]
  · rw [List.set_eq_of_length_le (by omega)]
theorem svc_putO (S : Sv) (q x : Nat) (v : Wd) : svc (S.putO q x v) = svc S := by simp [svc, Sv.putO]
theorem svc_putN (S : Sv) (q x : Nat) (v : Option Nat) : svc (S.putN q x v) = svc S := by simp [svc, Sv.putN]
theorem getD_setL {α : Type} (l : List (List α)) (q i : Nat) (y : List α) (hq : q < l.length) : (l.set q y).getD i [] = if i = q then y else l.getD i [] := by
  simp only [List.getD_eq_getElem?_getD, List.getElem?_set]
  by_cases h : q = i
  · subst h; simp [hq]
  · rw [if_neg h, if_neg (fun e => h e.symm)]
theorem getD_setX {α : Type} (l : List α) (x i : Nat) (y d : α) (hx : x < l.length) : (l.set x y).getD i d = if i = x then y else l.getD i d := by
  simp only [List.getD_eq_getElem?_getD, List.getElem?_set]
  by_cases h : x = i
  · subst h; simp [hx]
  · rw [if_neg h, if_neg (fun e => h e.symm)]
section
variable {M : Nat} {S : Sv} (h : S.sq.Ok M) {q x : Nat} (hq : q < S.rs.length) (hx : x < S.L)
include h hq hx
omit h hq hx in
theorem Sv.putO_sq (v : Wd) : (S.putO q x v).sq = { S.sq with ou := S.sq.ou.set q ((S.sq.ou.getD q []).set x v) } := by
  show Sq.mk _ _ _ _ _ _ ((S.os.set q _).map (·.xs)) = _
  rw [List.map_set, show S.sq.ou = S.os.map (·.xs) from rfl, rx_getD]; rfl
omit h hq hx in
theorem Sv.putN_sq (v : Option Nat) : (S.putN q x v).sq = { S.sq with nx := S.sq.nx.set q ((S.sq.nx.getD q []).set x v) } := by
  show Sq.mk _ _ _ _ _ ((S.rs.set q _).map (·.xs)) _ = _
  rw [List.map_set, show S.sq.nx = S.rs.map (·.xs) from rfl, rx_getD]; rfl
theorem Sv.putO_ok {N : Nat} (hN : M ≤ N) {v : Wd} (hv : okT N v) (hto : S.sq.to q x ≠ none) : (S.putO q x v).sq.Ok N := by
  rw [Sv.putO_sq]
  have h0 := h.mono hN
  have hqn : q < S.sq.n := by rw [S.n_eq]; exact hq
  have hol := h.len.1
  have hrow := (h.row q hqn).2
  have ho : ∀ p, ({ S.sq with ou := S.sq.ou.set q ((S.sq.ou.getD q []).set x v) } : Sq).ou.getD p [] = if p = q then (S.sq.ou.getD q []).set x v else S.sq.ou.getD p [] := fun p => getD_setL _ _ _ _ (by rw [hol]; exact hqn)
  have hO : ∀ p y, ({ S.sq with ou := S.sq.ou.set q ((S.sq.ou.getD q []).set x v) } : Sq).o p y = if p = q ∧ y = x then v else S.sq.o p y := fun p y => by
    show List.getD _ y [] = _
    rw [ho]
    by_cases e : p = q
    · subst e
      rw [if_pos rfl, getD_setX _ _ _ _ _ (by rw [hrow]; exact hx)]
      by_cases e2 : y = x
      · rw [if_pos e2, if_pos ⟨rfl, e2⟩]
      · rw [if_neg e2, if_neg (fun hh => e2 hh.2)]; rfl
    · rw [if_neg e, if_neg (fun hh => e hh.1)]; rfl
  refine ⟨h0.may, h0.n5, h0.st, ⟨by show (S.sq.ou.set _ _).length = _; rw [List.length_set]; exact hol, h0.len.2⟩, fun p hp => ⟨(h0.row p hp).1, ?_⟩, h0.lt, fun p y hp hy hn => ?_, h0.nf, h0.ti, fun p y hp hy => ?_, h0.tf⟩
  · rw [ho]
    split
    · rename_i e; subst e; rw [List.length_set]; exact (h0.row p hp).2
    · exact (h0.row p hp).2
  · rw [hO, if_neg (fun hh => hto (by rw [← hh.1, ← hh.2]; exact hn))]
    exact h0.no p y hp hy hn
  · rw [hO]
    split
    · exact hv
    · exact h0.to' p y hp hy
theorem Sv.putN_ok {v : Nat} (hv : v < S.rs.length) (hto : S.sq.to q x ≠ none) : (S.putN q x (some v)).sq.Ok M := by
  rw [Sv.putN_sq]
  have hqn : q < S.sq.n := by rw [S.n_eq]; exact hq
  have hrow := (h.row q hqn).1
  have hnl : ({ S.sq with nx := S.sq.nx.set q ((S.sq.nx.getD q []).set x (some v)) } : Sq).n = S.sq.n := by show (S.sq.nx.set _ _).length = _; rw [List.length_set]
  have ho : ∀ p, ({ S.sq with nx := S.sq.nx.set q ((S.sq.nx.getD q []).set x (some v)) } : Sq).nx.getD p [] = if p = q then (S.sq.nx.getD q []).set x (some v) else S.sq.nx.getD p [] := fun p => getD_setL _ _ _ _ hqn
  have hO : ∀ p y, ({ S.sq with nx := S.sq.nx.set q ((S.sq.nx.getD q []).set x (some v)) } : Sq).to p y = if p = q ∧ y = x then some v else S.sq.to p y := fun p y => by
    show List.getD _ y none = _
    rw [ho]
    by_cases e : p = q
    · subst e
      rw [if_pos rfl, getD_setX _ _ _ _ _ (by rw [hrow]; exact hx)]
      by_cases e2 : y = x
      · rw [if_pos e2, if_pos ⟨rfl, e2⟩]
      · rw [if_neg e2, if_neg (fun hh => e2 hh.2)]; rfl
    · rw [if_neg e, if_neg (fun hh => e hh.1)]; rfl
  refine ⟨h.may, by rw [hnl]; exact h.n5, by rw [hnl]; exact h.st, by rw [hnl]; exact h.len, fun p hp => ⟨?_, ?_⟩, fun p y r hp hy hr => ?_, fun p y hp hy hn => ?_, fun p hp => h.nf p (by rw [hnl] at hp; exact hp), h.ti, fun p y hp hy => h.to' p y (by rw [hnl] at hp; exact hp) hy, fun p hp => h.tf p (by rw [hnl] at hp; exact hp)⟩
  · rw [hnl] at hp
    rw [ho]
    split
    · rename_i e; subst e; rw [List.length_set]; exact (h.row p hp).1
    · exact (h.row p hp).1
  · rw [hnl] at hp
    exact (h.row p hp).2
  · rw [hnl] at hp ⊢
    rw [hO] at hr
    split at hr
    · cases hr; rw [S.n_eq]; exact hv
    · exact h.lt p y r hp hy hr
  · rw [hnl] at hp
    rw [hO] at hn
    split at hn
    · cases hn
    · exact h.no p y hp hy hn
end
theorem apv_eq {o p : Option Wd} (h1 : (apv o).2 = (apv p).2) (h2 : (apv o).1 = (apv p).1) : o = p := by
  cases o <;> cases p
  · rfl
  · cases h1
  · cases h1
  · exact congrArg some h2
theorem Lw.okW {L : Nat} {w : Wd} (h : Lw L w) (h1 : 1 ≤ L ∧ L ≤ 6) (hl : w.length ≤ 2048) : Tl.okW w (L : Int) = true := by
  rw [Tl.okW, Bool.and_eq_true, Bool.and_eq_true]
  refine ⟨by rw [Tl.mayL, decide_eq_true_eq]; omega, decide_eq_true hl, ?_⟩
  rw [List.all_eq_true]
  intro b hb
  have := h b hb
  rw [Tl.okB, decide_eq_true_eq]; omega
end Go.Sq
namespace Go.Eng
open Go Go.Sq
section
variable {c : Cx} {w : World} {A : List Chunk} {S : Sv} {ti tn te ts to : TypeId}
theorem svH_atO {q : Nat} (hq : q < S.os.length) : (A ++ svH S ti tn te ts to)[A.length + 4 + S.rs.length + q]? = some (rch ts sv (S.os.getD q rx0)) := by
  rw [List.getElem?_append_right (by omega), svH, List.getElem?_append_right (by simp; omega), List.getElem?_append_right (by simp; omega)]
  simp only [List.length_cons, List.length_nil, List.length_map]
  rw [show A.length + 4 + S.rs.length + q - A.length - (0 + 1 + 1 + 1 + 1) - S.rs.length = q by omega, List.getElem?_map, getX hq]; rfl
theorem svH_atN {q : Nat} (hq : q < S.rs.length) : (A ++ svH S ti tn te ts to)[A.length + 4 + q]? = some (rch ti zo (S.rs.getD q rx0)) := by
  rw [List.getElem?_append_right (by omega), svH, List.getElem?_append_right (by simp; omega), List.getElem?_append_left (by simp; omega)]
  simp only [List.length_cons, List.length_nil]
  rw [show A.length + 4 + q - A.length - (0 + 1 + 1 + 1 + 1) = q by omega, List.getElem?_map, getX hq]; rfl
theorem HOk.svPutO {q x : Nat} {v : Tl.Wd} {k' : Chunk} (h : HOk c ((A ++ svH S ti tn te ts to).set (A.length + 4 + S.rs.length + q) k') w) (hk : k' = rch ts sv ⟨(S.os.getD q rx0).a, (S.os.getD q rx0).cp, (S.os.getD q rx0).xs.set x v⟩) : HOk c (A ++ svH (S.putO q x v) ti tn te ts to) w := by
  have e : (A ++ svH S ti tn te ts to).set (A.length + 4 + S.rs.length + q) k' = A ++ svH (S.putO q x v) ti tn te ts to := by
    rw [List.set_append_right _ _ (by omega), svH, List.set_append_right _ _ (by simp; omega), List.set_append_right _ _ (by simp; omega)]
    simp only [List.length_cons, List.length_nil, List.length_map]
    rw [show A.length + 4 + S.rs.length + q - A.length - (0 + 1 + 1 + 1 + 1) - S.rs.length = q by omega]
    subst hk
    rw [svH]
    simp only [Sv.putO, List.length_set]
    rw [rxv_set, show fam ts sv (S.os.set q ⟨(S.os.getD q rx0).a, (S.os.getD q rx0).cp, (S.os.getD q rx0).xs.set x v⟩) = (fam ts sv S.os).set q _ from List.map_set]
  rwa [e] at h
theorem HOk.svPutN {q x : Nat} {v : Option Nat} {k' : Chunk} (hq : q < S.rs.length) (h : HOk c ((A ++ svH S ti tn te ts to).set (A.length + 4 + q) k') w) (hk : k' = rch ti zo ⟨(S.rs.getD q rx0).a, (S.rs.getD q rx0).cp, (S.rs.getD q rx0).xs.set x v⟩) : HOk c (A ++ svH (S.putN q x v) ti tn te ts to) w := by
  have e : (A ++ svH S ti tn te ts to).set (A.length + 4 + q) k' = A ++ svH (S.putN q x v) ti tn te ts to := by
    rw [List.set_append_right _ _ (by omega), svH, List.set_append_right _ _ (by simp; omega), List.set_append_left _ _ (by simp; omega)]
    simp only [List.length_cons, List.length_nil]
    rw [show A.length + 4 + q - A.length - (0 + 1 + 1 + 1 + 1) = q by omega]
    subst hk
    rw [svH]
    simp only [Sv.putN, List.length_set]
    rw [rxv_set, show fam ti zo (S.rs.set q ⟨(S.rs.getD q rx0).a, (S.rs.getD q rx0).cp, (S.rs.getD q rx0).xs.set x v⟩) = (fam ti zo S.rs).set q _ from List.map_set]
  rwa [e] at h
end
end Go.Eng

