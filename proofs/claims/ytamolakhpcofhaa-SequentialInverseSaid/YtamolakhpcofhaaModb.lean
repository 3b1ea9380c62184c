/-
  Plain facts, without a program. No condition.
-/
import Derived.Test.YtamolakhpcofhaaMod
import Derived.Test.YtamolakhpcofhaaEng
set_option linter.unusedSimpArgs false
namespace Go.Sq
open Go Go.Eng Go.Am
open Go.Tl (Wd bo okW okB)
/-! prefixes: the worklist, plain -/
abbrev Ist := List Wd × List Bool × Bool
def imp1 (d : Sq) (q x : Nat) (st : Ist) : Ist :=
  match d.to q x with
  | none => st
  | some r =>
    if st.2.1.getD r false = false then st
    else if st.2.1.getD q false = false then (st.1.set q (d.o q x ++ st.1.getD r []), st.2.1.set q true, true)
    else if (cm (st.1.getD q []) (d.o q x ++ st.1.getD r [])).length < (st.1.getD q []).length then (st.1.set q ((st.1.getD q []).take (cm (st.1.getD q []) (d.o q x ++ st.1.getD r [])).length), st.2.1, true)
    else st
def impL (d : Sq) (q : Nat) (st : Ist) : Nat → Ist
  | 0 => st
  | x + 1 => imp1 d q x (impL d q st x)
theorem gset' {α : Type} (l : List α) (i j : Nat) (x z : α) : (l.set i x).getD j z = if i = j ∧ i < l.length then x else l.getD j z := by
  simp only [List.getD_eq_getElem?_getD, List.getElem?_set]
  by_cases h : i = j
  · subst h
    by_cases h2 : i < l.length <;> simp [h2]
  · simp [h]
theorem cm_take (s t : Wd) : s.take (cm s t).length = cm s t := by
  obtain ⟨r, hr⟩ := cm_l s t
  conv => lhs; arg 2; rw [← hr]
  exact List.take_left
/-- what improve has done with the letters before x -/
structure ImpI (d : Sq) (q : Nat) (P : List Wd) (K : List Bool) (x : Nat) (st : Ist) : Prop where
  pl : st.1.length = P.length
  kl : st.2.1.length = K.length
  other : ∀ r, r ≠ q → st.1.getD r [] = P.getD r [] ∧ st.2.1.getD r false = K.getD r false
  keep : K.getD q false = true → st.2.1.getD q false = true ∧ st.1.getD q [] <+: P.getD q []
  un : st.2.2 = false → st.1 = P ∧ st.2.1 = K ∧ ∀ y r, y < x → d.to q y = some r → K.getD r false = true → K.getD q false = true ∧ P.getD q [] <+: d.o q y ++ P.getD r []
  ch : st.2.2 = true → st.2.1.getD q false = true ∧ ∀ y r, y < x → r ≠ q → d.to q y = some r → K.getD r false = true → st.1.getD q [] <+: d.o q y ++ P.getD r []
  up : (∀ r, r < d.n → K.getD r false = true → ∀ p', d.tr.Pre d.L r p' → p' <+: P.getD r []) → st.2.1.getD q false = true → ∀ p', d.tr.Pre d.L q p' → p' <+: st.1.getD q []
  lt : st.2.2 = true → K.getD q false = true → (st.1.getD q []).length < (P.getD q []).length
  nw : K.getD q false = false → st.2.1.getD q false = true → ∃ r y, r < d.n ∧ y < d.L ∧ K.getD r false = true ∧ (st.1.getD q []).length ≤ (d.o q y).length + (P.getD r []).length
theorem ImpI.start {d : Sq} {q : Nat} (hq : q < d.n) (P : List Wd) (K : List Bool) : ImpI d q P K 0 (P, K, false) :=
  ⟨rfl, rfl, fun _ _ => ⟨rfl, rfl⟩, fun h => ⟨h, List.prefix_rfl⟩, fun _ => ⟨rfl, rfl, fun y r hy => by omega⟩, fun h => Bool.noConfusion h, fun h1 h2 => h1 q hq h2, fun h => Bool.noConfusion h, fun h1 h2 => by
    rw [h1] at h2; cases h2⟩
section
variable {d : Sq} {q : Nat} {P : List Wd} {K : List Bool} {x : Nat} {st : Ist}
theorem ImpI.none (h : ImpI d q P K x st) (hn : d.to q x = none) : ImpI d q P K (x + 1) st :=
  ⟨h.pl, h.kl, h.other, h.keep, fun hc => ⟨(h.un hc).1, (h.un hc).2.1, fun y r hy ht hk => by
      rcases Nat.lt_or_ge y x with h1 | h1
      · exact (h.un hc).2.2 y r h1 ht hk
      · obtain rfl : y = x := by omega
        rw [hn] at ht; cases ht⟩,
    fun hc => ⟨(h.ch hc).1, fun y r hy hr ht hk => by
      rcases Nat.lt_or_ge y x with h1 | h1
      · exact (h.ch hc).2 y r h1 hr ht hk
      · obtain rfl : y = x := by omega
        rw [hn] at ht; cases ht⟩, h.up, h.lt, h.nw⟩
theorem ImpI.skip (h : ImpI d q P K x st) {r : Nat} (hn : d.to q x = some r) (hk : st.2.1.getD r false = false) : ImpI d q P K (x + 1) st :=
  ⟨h.pl, h.kl, h.other, h.keep, fun hc => ⟨(h.un hc).1, (h.un hc).2.1, fun y r' hy ht hk' => by
      rcases Nat.lt_or_ge y x with h1 | h1
      · exact (h.un hc).2.2 y r' h1 ht hk'
      · obtain rfl : y = x := by omega
        rw [hn] at ht; cases ht
        rw [(h.un hc).2.1, hk'] at hk; cases hk⟩,
    fun hc => ⟨(h.ch hc).1, fun y r' hy hr ht hk' => by
      rcases Nat.lt_or_ge y x with h1 | h1
      · exact (h.ch hc).2 y r' h1 hr ht hk'
      · obtain rfl : y = x := by omega
        rw [hn] at ht; cases ht
        rw [(h.other r hr).2, hk'] at hk; cases hk⟩, h.up, h.lt, h.nw⟩
/-- the first time that q is known -/
theorem ImpI.first (h : ImpI d q P K x st) (hq : q < d.n) (hx : x < d.L) (hPl : P.length = d.n) (hKl : K.length = d.n) {r : Nat} (hn : d.to q x = some r) (hr : r < d.n) (hco : d.tr.co d.L r = true) (hk : st.2.1.getD r false = true) (hkq : st.2.1.getD q false = false) :
    ImpI d q P K (x + 1) (st.1.set q (d.o q x ++ st.1.getD r []), st.2.1.set q true, true) := by
  have hrq : r ≠ q := fun e => by subst e; rw [hk] at hkq; cases hkq
  have hKq : K.getD q false = false := by
    cases e : K.getD q false with
    | false => rfl
    | true => rw [(h.keep e).1] at hkq; cases hkq
  have hc : st.2.2 = false := by
    cases e : st.2.2 with
    | false => rfl
    | true => rw [(h.ch e).1] at hkq; cases hkq
  obtain ⟨e1, e2, e3⟩ := h.un hc
  have hPr : st.1.getD r [] = P.getD r [] := (h.other r hrq).1
  have hKr : K.getD r false = true := by rw [← (h.other r hrq).2]; exact hk
  have hgq : (st.1.set q (d.o q x ++ st.1.getD r [])).getD q [] = d.o q x ++ P.getD r [] := by rw [gset', if_pos ⟨rfl, by rw [h.pl, hPl]; exact hq⟩, hPr]
  have hgk : (st.2.1.set q true).getD q false = true := by rw [gset', if_pos ⟨rfl, by rw [h.kl, hKl]; exact hq⟩]
  refine ⟨by rw [List.length_set]; exact h.pl, by rw [List.length_set]; exact h.kl, fun p hp => ?_, fun h1 => (by rw [hKq] at h1; cases h1), fun h1 => Bool.noConfusion h1, fun _ => ⟨hgk, fun y p hy hpq ht hkp => ?_⟩, fun h1 _ p' hp' => ?_, fun _ h1 => (by rw [hKq] at h1; cases h1), fun _ _ => ⟨r, x, hr, hx, hKr, by dsimp only; rw [hgq, List.length_append]; exact Nat.le_refl _⟩⟩
  · rw [gset', if_neg (fun h => hp h.1.symm), gset', if_neg (fun h => hp h.1.symm)]
    exact h.other p hp
  · rcases Nat.lt_or_ge y x with h1 | h1
    · rw [(e3 y p h1 ht hkp).1] at hKq; cases hKq
    · obtain rfl : y = x := by omega
      rw [hn] at ht; cases ht
      dsimp only
      rw [hgq]; exact List.prefix_rfl
  · dsimp only
    rw [hgq]
    exact Tr.up_to (T := d.tr) hx hn hco hp' (h1 r hr hKr)
/-- q is known: what it has in common with o P(r) -/
theorem ImpI.cut (h : ImpI d q P K x st) (hq : q < d.n) (hx : x < d.L) (hPl : P.length = d.n) {r : Nat} (hn : d.to q x = some r) (hr : r < d.n) (hco : d.tr.co d.L r = true) (hk : st.2.1.getD r false = true) (hkq : st.2.1.getD q false = true)
    (hl : (cm (st.1.getD q []) (d.o q x ++ st.1.getD r [])).length < (st.1.getD q []).length) :
    ImpI d q P K (x + 1) (st.1.set q ((st.1.getD q []).take (cm (st.1.getD q []) (d.o q x ++ st.1.getD r [])).length), st.2.1, true) := by
  rw [cm_take]
  have hgq : (st.1.set q (cm (st.1.getD q []) (d.o q x ++ st.1.getD r []))).getD q [] = cm (st.1.getD q []) (d.o q x ++ st.1.getD r []) := by rw [gset', if_pos ⟨rfl, by rw [h.pl, hPl]; exact hq⟩]
  refine ⟨by rw [List.length_set]; exact h.pl, h.kl, fun p hp => ?_, fun h1 => ⟨hkq, ?_⟩, fun h1 => Bool.noConfusion h1, fun _ => ⟨hkq, fun y p hy hpq ht hkp => ?_⟩, fun h1 _ p' hp' => ?_, fun _ h1 => ?_, fun h1 h2 => ?_⟩
  · rw [gset', if_neg (fun h => hp h.1.symm)]
    exact h.other p hp
  · dsimp only
    rw [hgq]
    exact (cm_l _ _).trans (h.keep h1).2
  · dsimp only
    rw [hgq]
    rcases Nat.lt_or_ge y x with h1 | h1
    · cases hc : st.2.2 with
      | true => exact (cm_l _ _).trans ((h.ch hc).2 y p h1 hpq ht hkp)
      | false =>
        rw [(h.un hc).1]
        exact (cm_l _ _).trans ((h.un hc).2.2 y p h1 ht hkp).2
    · obtain rfl : y = x := by omega
      rw [hn] at ht; cases ht
      rw [← (h.other _ hpq).1]
      exact cm_r _ _
  · dsimp only
    rw [hgq]
    refine cm_top (h.up h1 hkq p' hp') ?_
    by_cases e : r = q
    · subst e
      exact Tr.up_to (T := d.tr) hx hn hco hp' fun p'' hp'' => h.up h1 hkq p'' hp''
    · rw [(h.other r e).1]
      exact Tr.up_to (T := d.tr) hx hn hco hp' (h1 r hr (by rw [← (h.other r e).2]; exact hk))
  · dsimp only
    rw [hgq]
    have := (h.keep h1).2.length_le
    omega
  · dsimp only
    rw [hgq]
    obtain ⟨r', y, e1, e2, e3, e4⟩ := h.nw h1 hkq
    exact ⟨r', y, e1, e2, e3, by omega⟩
/-- q is known, and fits -/
theorem ImpI.fits (h : ImpI d q P K x st) {r : Nat} (hn : d.to q x = some r) (hkq : st.2.1.getD q false = true)
    (hl : ¬ (cm (st.1.getD q []) (d.o q x ++ st.1.getD r [])).length < (st.1.getD q []).length) : ImpI d q P K (x + 1) st := by
  have hfit : st.1.getD q [] <+: d.o q x ++ st.1.getD r [] := by
    have h1 := (cm_l (st.1.getD q []) (d.o q x ++ st.1.getD r [])).eq_of_length (Nat.le_antisymm (cm_l _ _).length_le (by omega))
    rw [← h1]
    have h2 := cm_r (st.1.getD q []) (d.o q x ++ st.1.getD r [])
    rw [h1] at h2 ⊢
    exact h2
  refine ⟨h.pl, h.kl, h.other, h.keep, fun hc => ⟨(h.un hc).1, (h.un hc).2.1, fun y r' hy ht hk' => ?_⟩, fun hc => ⟨(h.ch hc).1, fun y r' hy hr ht hk' => ?_⟩, h.up, h.lt, h.nw⟩
  · rcases Nat.lt_or_ge y x with h1 | h1
    · exact (h.un hc).2.2 y r' h1 ht hk'
    · obtain rfl : y = x := by omega
      rw [hn] at ht; cases ht
      rw [(h.un hc).1] at hfit
      rw [(h.un hc).2.1] at hkq
      exact ⟨hkq, hfit⟩
  · rcases Nat.lt_or_ge y x with h1 | h1
    · exact (h.ch hc).2 y r' h1 hr ht hk'
    · obtain rfl : y = x := by omega
      rw [hn] at ht; cases ht
      rw [← (h.other _ hr).1]; exact hfit
end
theorem impL_ok {d : Sq} {q : Nat} {P : List Wd} {K : List Bool} (hf : d.Fit) (hall : ∀ r, r < d.n → d.tr.co d.L r = true) (hq : q < d.n) (hPl : P.length = d.n) (hKl : K.length = d.n) : ∀ x, x ≤ d.L → ImpI d q P K x (impL d q (P, K, false) x) := by
  intro x
  induction x with
  | zero => intro _; exact ImpI.start hq P K
  | succ x ih =>
    intro hx
    have h := ih (by omega)
    show ImpI d q P K (x + 1) (imp1 d q x _)
    generalize impL d q (P, K, false) x = st at h ⊢
    unfold imp1
    cases hn : d.to q x with
    | none => exact h.none hn
    | some r =>
      have hr := hf.lt q x r hq (by omega) hn
      dsimp only
      split
      · rename_i hk; exact h.skip hn hk
      · rename_i hk
        have hk : st.2.1.getD r false = true := by simpa using hk
        split
        · rename_i hkq; exact h.first hq (by omega) hPl hKl hn hr (hall r hr) hk hkq
        · rename_i hkq
          have hkq : st.2.1.getD q false = true := by simpa using hkq
          split
          · rename_i hl; exact h.cut hq (by omega) hPl hn hr (hall r hr) hk hkq hl
          · rename_i hl; exact h.fits hn hkq hl
end Go.Sq

namespace Go.Sq
open Go Go.Eng Go.Am
open Go.Tl (Wd bo okW okB)
/-! the worklist's invariant -/
def sumR (n : Nat) (f : Nat → Nat) : Nat := ((List.range n).map f).sum
theorem sumR_s (n : Nat) (f : Nat → Nat) : sumR (n + 1) f = sumR n f + f n := by simp [sumR, List.range_succ]
theorem sumR_le {n : Nat} {f g : Nat → Nat} (h : ∀ r, r < n → f r ≤ g r) : sumR n f ≤ sumR n g := by
  induction n with
  | zero => exact Nat.le_refl _
  | succ n ih => rw [sumR_s, sumR_s]; have := h n (by omega); have := ih fun r hr => h r (by omega); omega
theorem sumR_lt {n q : Nat} {f g : Nat → Nat} (h : ∀ r, r < n → f r ≤ g r) (hq : q < n) (hl : f q < g q) : sumR n f < sumR n g := by
  induction n with
  | zero => omega
  | succ n ih =>
    rw [sumR_s, sumR_s]
    rcases Nat.lt_or_ge q n with h1 | h1
    · have := ih (fun r hr => h r (by omega)) h1
      have := h n (by omega)
      omega
    · obtain rfl : q = n := by omega
      have := sumR_le (n := q) fun r hr => h r (show r < q + 1 by omega)
      omega
theorem sumR_const (n c : Nat) {f : Nat → Nat} (h : ∀ r, r < n → f r ≤ c) : sumR n f ≤ n * c := by
  induction n with
  | zero => simp [sumR]
  | succ n ih => rw [sumR_s, Nat.add_mul]; have := ih fun r hr => h r (by omega); have := h n (by omega); omega
def kc (n : Nat) (K : List Bool) : Nat := sumR n fun q => if K.getD q false then 1 else 0
theorem kc_le (n : Nat) (K : List Bool) : kc n K ≤ n := by
  have := sumR_const n 1 (f := fun q => if K.getD q false then 1 else 0) fun r _ => by split <;> omega
  unfold kc; omega
def msP (d : Sq) (M : Nat) (P : List Wd) (K : List Bool) : Nat := sumR d.n fun q => if K.getD q false then (P.getD q []).length else M * d.n + 1
def befS (d : Sq) (r : Nat) : List Nat := (bef d d.n 0 r).map (·.1)
theorem befS_mem {d : Sq} {r q : Nat} : q ∈ befS d r ↔ q < d.n ∧ ∃ x, x < d.L ∧ d.to q x = some r := by
  unfold befS
  rw [List.mem_map]
  constructor
  · rintro ⟨p, hp, rfl⟩
    have := bef_mem.1 hp
    exact ⟨this.1.1, p.2, this.1.2, this.2⟩
  · rintro ⟨h1, x, h2, h3⟩
    exact ⟨(q, x), bef_mem.2 ⟨⟨h1, h2⟩, h3⟩, rfl⟩
structure PfI (d : Sq) (M : Nat) (P : List Wd) (K W : List Bool) (Qu : List Nat) (i r : Nat) (rem : List Nat) : Prop where
  pl : P.length = d.n
  kl : K.length = d.n
  wl : W.length = d.n
  ql : ∀ q ∈ Qu, q < d.n
  wq : ∀ q, q < d.n → W.getD q false = true → ∃ j, i ≤ j ∧ j < Qu.length ∧ Qu.getD j 0 = q
  up : ∀ q, q < d.n → K.getD q false = true → ∀ p', d.tr.Pre d.L q p' → p' <+: P.getD q []
  en : ∀ q, q < d.n → d.e q = true → K.getD q false = true ∧ P.getD q [] <+: d.f q
  fit : ∀ q x r', q < d.n → x < d.L → d.to q x = some r' → K.getD r' false = true → W.getD r' false = false → (K.getD q false = true ∧ P.getD q [] <+: d.o q x ++ P.getD r' []) ∨ (r' = r ∧ q ∈ rem)
  bd : ∀ q, q < d.n → K.getD q false = true → (P.getD q []).length ≤ M * kc d.n K
  il : i ≤ Qu.length
  uk : ∀ q, K.getD q false = false → P.getD q [] = []
  qm : Qu.length + msP d M P K ≤ d.n + d.n * (M * d.n + 1)
section
variable {d : Sq} {M : Nat} {P : List Wd} {K W : List Bool} {Qu : List Nat} {i r : Nat} {rem : List Nat}
theorem PfI.bd' (h : PfI d M P K W Qu i r rem) {q : Nat} (hq : q < d.n) (hk : K.getD q false = true) : (P.getD q []).length ≤ M * d.n :=
  Nat.le_trans (h.bd q hq hk) (Nat.mul_le_mul_left _ (kc_le _ _))
theorem PfI.pop (h : PfI d M P K W Qu i r []) (hi : i < Qu.length) : PfI d M P K (W.set (Qu.getD i 0) false) Qu (i + 1) (Qu.getD i 0) (befS d (Qu.getD i 0)) := by
  have hr : Qu.getD i 0 < d.n := h.ql _ (getDm hi)
  refine ⟨h.pl, h.kl, by rw [List.length_set]; exact h.wl, h.ql, fun q hq hw => ?_, h.up, h.en, fun q x r' hq hx ht hk hw => ?_, h.bd, hi, h.uk, h.qm⟩
  · rw [gset'] at hw
    split at hw
    · cases hw
    · rename_i hne
      obtain ⟨j, h1, h2, h3⟩ := h.wq q hq hw
      refine ⟨j, ?_, h2, h3⟩
      rcases Nat.lt_or_ge i j with h4 | h4
      · exact h4
      · obtain rfl : j = i := by omega
        exact absurd ⟨h3, by rw [h.wl]; exact hr⟩ hne
  · by_cases e : r' = Qu.getD i 0
    · exact .inr ⟨e, befS_mem.2 ⟨hq, x, hx, e ▸ ht⟩⟩
    · rw [gset', if_neg (fun h => e h.1.symm)] at hw
      rcases h.fit q x r' hq hx ht hk hw with h1 | ⟨_, h1⟩
      · exact .inl h1
      · cases h1
/-- one predecessor improved; W' and Qu': q waits if it has changed -/
theorem PfI.imp {q : Nat} {st : Ist} {W' : List Bool} {Qu' : List Nat} (hd : d.Ok M) (h : PfI d M P K W Qu i r (q :: rem)) (hq : q < d.n) (hst : ImpI d q P K d.L st) (hW : (st.2.2 = true ∧ W.getD q false = false ∧ W' = W.set q true ∧ Qu' = Qu ++ [q]) ∨ ((st.2.2 = false ∨ W.getD q false = true) ∧ W' = W ∧ Qu' = Qu)) :
    PfI d M st.1 st.2.1 W' Qu' i r rem ∧ msP d M st.1 st.2.1 ≤ msP d M P K ∧ Qu'.length + msP d M st.1 st.2.1 ≤ Qu.length + msP d M P K := by
  have hwo : ∀ p, p ≠ q → W'.getD p false = W.getD p false := fun p hp => by
    rcases hW with ⟨_, _, rfl, _⟩ | ⟨_, rfl, _⟩
    · rw [gset', if_neg (fun h => hp h.1.symm)]
    · rfl
  have hwq : st.2.2 = true → W'.getD q false = true := fun hc => by
    rcases hW with ⟨_, _, rfl, _⟩ | ⟨h1, rfl, _⟩
    · rw [gset', if_pos ⟨rfl, by rw [h.wl]; exact hq⟩]
    · rcases h1 with h1 | h1
      · rw [hc] at h1; cases h1
      · exact h1
  have hKmono : ∀ p, K.getD p false = true → st.2.1.getD p false = true := fun p hp => by
    by_cases e : p = q
    · subst e; exact (hst.keep hp).1
    · rw [(hst.other p e).2]; exact hp
  have hPle : ∀ p, p ≠ q → st.1.getD p [] = P.getD p [] := fun p hp => (hst.other p hp).1
  have hnewlen : K.getD q false = false → st.2.1.getD q false = true → (st.1.getD q []).length ≤ M + M * kc d.n K := fun h1 h2 => by
    obtain ⟨r', y, e1, e2, e3, e4⟩ := hst.nw h1 h2
    have := (hd.to' q y hq e2).1
    have := h.bd r' e1 e3
    omega
  have hkc : kc d.n K ≤ kc d.n st.2.1 := sumR_le fun p _ => by
    cases e : K.getD p false with
    | false => simp
    | true => rw [hKmono p e]; simp
  have hkc2 : K.getD q false = false → st.2.1.getD q false = true → kc d.n K + 1 ≤ kc d.n st.2.1 := fun h1 h2 => sumR_lt (q := q) (fun p _ => by
    cases e : K.getD p false with
    | false => simp
    | true => rw [hKmono p e]; simp) hq (by rw [h1, h2]; decide)
  have hms : msP d M st.1 st.2.1 ≤ msP d M P K ∧ (st.2.2 = true → msP d M st.1 st.2.1 < msP d M P K) := by
    have hle : ∀ p, p < d.n → (if st.2.1.getD p false then (st.1.getD p []).length else M * d.n + 1) ≤ (if K.getD p false then (P.getD p []).length else M * d.n + 1) := fun p hp => by
      by_cases e : p = q
      · subst e
        cases h1 : K.getD p false with
        | true => rw [(hst.keep h1).1]; simpa using (hst.keep h1).2.length_le
        | false =>
          cases h2 : st.2.1.getD p false with
          | false => simp
          | true =>
            have h3 := hnewlen h1 h2
            have h4 := hkc2 h1 h2
            have h5 := Nat.mul_le_mul_left M (Nat.le_trans h4 (kc_le d.n st.2.1))
            rw [Nat.mul_add, Nat.mul_one] at h5
            simp only [if_true, Bool.false_eq_true, if_false]
            omega
      · rw [(hst.other p e).2, hPle p e]; exact Nat.le_refl _
    refine ⟨sumR_le hle, fun hc => sumR_lt hle hq ?_⟩
    have h2 := (hst.ch hc).1
    rw [h2]
    cases h1 : K.getD q false with
    | true => simpa using hst.lt hc h1
    | false =>
      have h3 := hnewlen h1 h2
      have h4 := hkc2 h1 h2
      have h5 := Nat.mul_le_mul_left M (Nat.le_trans h4 (kc_le d.n st.2.1))
      rw [Nat.mul_add, Nat.mul_one] at h5
      simp only [if_true, Bool.false_eq_true, if_false]
      omega
  have hqm : Qu'.length + msP d M st.1 st.2.1 ≤ Qu.length + msP d M P K := by
    rcases hW with ⟨hc, _, _, rfl⟩ | ⟨_, _, rfl⟩
    · rw [List.length_append, List.length_singleton]
      have := hms.2 hc
      omega
    · have := hms.1
      omega
  refine ⟨?_, hms.1, hqm⟩
  refine ⟨by rw [hst.pl, h.pl], by rw [hst.kl, h.kl], ?_, ?_, fun p hp hw => ?_, fun p hp hk p' hp' => ?_, fun p hp he => ?_, fun p x r' hp hx ht hk hw => ?_, fun p hp hk => ?_, ?_, fun p hk => ?_, by have := h.qm; omega⟩
  · rcases hW with ⟨_, _, rfl, _⟩ | ⟨_, rfl, _⟩
    · rw [List.length_set]; exact h.wl
    · exact h.wl
  · rcases hW with ⟨_, _, _, rfl⟩ | ⟨_, _, rfl⟩
    · intro p hp
      rcases List.mem_append.1 hp with h1 | h1
      · exact h.ql p h1
      · rw [List.mem_singleton] at h1; subst h1; exact hq
    · exact h.ql
  · rcases hW with ⟨_, _, rfl, rfl⟩ | ⟨_, rfl, rfl⟩
    · by_cases e : p = q
      · subst e
        exact ⟨Qu.length, h.il, by simp, by rw [List.getD_eq_getElem?_getD]; simp⟩
      · rw [gset', if_neg (fun h => e h.1.symm)] at hw
        obtain ⟨j, h1, h2, h3⟩ := h.wq p hp hw
        exact ⟨j, h1, by rw [List.length_append]; omega, by rw [getD_app h2]; exact h3⟩
    · exact h.wq p hp hw
  · by_cases e : p = q
    · subst e; exact hst.up h.up hk p' hp'
    · rw [hPle p e]; exact h.up p hp (by rw [← (hst.other p e).2]; exact hk) p' hp'
  · obtain ⟨h1, h2⟩ := h.en p hp he
    by_cases e : p = q
    · subst e; exact ⟨(hst.keep h1).1, (hst.keep h1).2.trans h2⟩
    · rw [(hst.other p e).2, hPle p e]; exact ⟨h1, h2⟩
  · by_cases er : r' = q
    · subst er
      have hc : st.2.2 = false := by
        cases hc : st.2.2 with
        | false => rfl
        | true => rw [hwq hc] at hw; cases hw
      obtain ⟨e1, e2, e3⟩ := hst.un hc
      have hW2 : W'.getD r' false = W.getD r' false := by
        rcases hW with ⟨h1, _⟩ | ⟨_, rfl, _⟩
        · rw [hc] at h1; cases h1
        · rfl
      rw [e2] at hk
      rw [hW2] at hw
      rw [e1, e2]
      by_cases ep : p = r'
      · subst ep; exact .inl (e3 x _ hx ht hk)
      · rcases h.fit p x r' hp hx ht hk hw with h1 | ⟨h1, h2⟩
        · exact .inl h1
        · rcases List.mem_cons.1 h2 with h2 | h2
          · exact absurd h2 ep
          · exact .inr ⟨h1, h2⟩
    · have hk2 : K.getD r' false = true := by rw [← (hst.other r' er).2]; exact hk
      have hw2 : W.getD r' false = false := by rw [← hwo r' er]; exact hw
      rw [hPle r' er]
      by_cases ep : p = q
      · subst ep
        left
        cases hc : st.2.2 with
        | true => exact ⟨(hst.ch hc).1, (hst.ch hc).2 x r' hx er ht hk2⟩
        | false =>
          obtain ⟨e1, e2, e3⟩ := hst.un hc
          rw [e1, e2]; exact e3 x r' hx ht hk2
      · rw [(hst.other p ep).2, hPle p ep]
        rcases h.fit p x r' hp hx ht hk2 hw2 with h1 | ⟨h1, h2⟩
        · exact .inl h1
        · rcases List.mem_cons.1 h2 with h2 | h2
          · exact absurd h2 ep
          · exact .inr ⟨h1, h2⟩
  · have hM := Nat.mul_le_mul_left M hkc
    by_cases e : p = q
    · subst e
      cases h1 : K.getD p false with
      | true => have := (hst.keep h1).2.length_le; have := h.bd p hp h1; omega
      | false =>
        have h3 := hnewlen h1 hk
        have h5 := Nat.mul_le_mul_left M (hkc2 h1 hk)
        rw [Nat.mul_add, Nat.mul_one] at h5
        omega
    · rw [hPle p e]
      have := h.bd p hp (by rw [← (hst.other p e).2]; exact hk)
      omega
  · rcases hW with ⟨_, _, _, rfl⟩ | ⟨_, _, rfl⟩
    · rw [List.length_append]; have := h.il; omega
    · exact h.il
  · by_cases e : p = q
    · subst e
      have h1 : K.getD p false = false := by
        cases h1 : K.getD p false with
        | false => rfl
        | true => rw [(hst.keep h1).1] at hk; cases hk
      cases hc : st.2.2 with
      | true => rw [(hst.ch hc).1] at hk; cases hk
      | false => rw [(hst.un hc).1]; exact h.uk p h1
    · rw [hPle p e]; exact h.uk p (by rw [← (hst.other p e).2]; exact hk)
theorem PfI.any (h : PfI d M P K W Qu i r []) (r' : Nat) : PfI d M P K W Qu i r' [] :=
  ⟨h.pl, h.kl, h.wl, h.ql, h.wq, h.up, h.en, fun q x p hq hx ht hk hw => by
    exact .inl ((h.fit q x p hq hx ht hk hw).resolve_right (fun h1 => by cases h1.2)), h.bd, h.il, h.uk, h.qm⟩
theorem PfI.len (h : PfI d M P K W Qu i r rem) (q : Nat) : (P.getD q []).length ≤ M * d.n := by
  cases hk : K.getD q false with
  | false => rw [h.uk q hk]; exact Nat.zero_le _
  | true =>
    rcases Nat.lt_or_ge q d.n with h1 | h1
    · exact h.bd' h1 hk
    · rw [List.getD_eq_getElem?_getD, List.getElem?_eq_none (by rw [h.kl]; exact h1)] at hk; cases hk
theorem PfI.done (hd : d.Ok M) (hall : ∀ r, r < d.n → d.tr.co d.L r = true) (h : PfI d M P K W Qu i r []) (hi : Qu.length ≤ i) : d.Pf P := by
  have hw : ∀ q, q < d.n → W.getD q false = false := fun q hq => by
    cases e : W.getD q false with
    | false => rfl
    | true => obtain ⟨j, h1, h2, _⟩ := h.wq q hq e; omega
  have hfit : ∀ q x r', q < d.n → x < d.L → d.to q x = some r' → K.getD r' false = true → K.getD q false = true ∧ P.getD q [] <+: d.o q x ++ P.getD r' [] := fun q x r' hq hx ht hk => by
    rcases h.fit q x r' hq hx ht hk (hw r' (hd.lt q x r' hq hx ht)) with h1 | ⟨_, h1⟩
    · exact h1
    · cases h1
  have hK : ∀ q, q < d.n → K.getD q false = true := fun q hq => by
    obtain ⟨w, hw, hv⟩ := Tr.co_t.1 (hall q hq)
    clear hi
    induction w generalizing q with
    | nil =>
      rw [Tr.val] at hv
      by_cases he : d.tr.en q = true
      · exact (h.en q hq he).1
      · rw [if_neg he] at hv; cases hv
    | cons x w ih =>
      cases e : d.to q x with
      | none => rw [d.tr.val_none e] at hv; cases hv
      | some r' =>
        rw [d.tr.val_some e] at hv
        have hv' : (d.tr.val r' w).isSome = true := by
          cases e2 : d.tr.val r' w with
          | none => rw [e2] at hv; cases hv
          | some v => rfl
        exact (hfit q x r' hq hw.head e (ih r' (hd.lt q x r' hq hw.head e) hw.tail hv')).1
  refine ⟨h.pl, fun q hq => ⟨?_, h.up q hq (hK q hq)⟩⟩
  exact Tr.pre_fix (T := d.tr) (Q := fun q => q < d.n) (P := fun q => P.getD q []) (fun q x r' hq hx ht => hd.lt q x r' hq hx ht) (fun q hq he => (h.en q hq he).2) (fun q x r' hq hx ht => (hfit q x r' hq hx ht (hK r' (hd.lt q x r' hq hx ht))).2) q hq
end
end Go.Sq
namespace Go.Sq
open Go Go.Eng Go.Am
open Go.Tl (Wd bo okW okB)
theorem imp1_none {d : Sq} {q x : Nat} {st : Ist} (h : d.to q x = none) : imp1 d q x st = st := by unfold imp1; rw [h]
theorem imp1_skip {d : Sq} {q x r : Nat} {st : Ist} (h : d.to q x = some r) (hk : st.2.1.getD r false = false) : imp1 d q x st = st := by unfold imp1; rw [h]; exact if_pos hk
theorem imp1_first {d : Sq} {q x r : Nat} {st : Ist} (h : d.to q x = some r) (hk : st.2.1.getD r false = true) (hq : st.2.1.getD q false = false) : imp1 d q x st = (st.1.set q (d.o q x ++ st.1.getD r []), st.2.1.set q true, true) := by
  unfold imp1; rw [h]; dsimp only; rw [if_neg (by rw [hk]; decide), if_pos hq]
theorem imp1_cut {d : Sq} {q x r : Nat} {st : Ist} (h : d.to q x = some r) (hk : st.2.1.getD r false = true) (hq : st.2.1.getD q false = true) (hl : (cm (st.1.getD q []) (d.o q x ++ st.1.getD r [])).length < (st.1.getD q []).length) : imp1 d q x st = (st.1.set q ((st.1.getD q []).take (cm (st.1.getD q []) (d.o q x ++ st.1.getD r [])).length), st.2.1, true) := by
  unfold imp1; rw [h]; dsimp only; rw [if_neg (by rw [hk]; decide), if_neg (by rw [hq]; decide), if_pos hl]
theorem imp1_fits {d : Sq} {q x r : Nat} {st : Ist} (h : d.to q x = some r) (hk : st.2.1.getD r false = true) (hq : st.2.1.getD q false = true) (hl : ¬ (cm (st.1.getD q []) (d.o q x ++ st.1.getD r [])).length < (st.1.getD q []).length) : imp1 d q x st = st := by
  unfold imp1; rw [h]; dsimp only; rw [if_neg (by rw [hk]; decide), if_neg (by rw [hq]; decide), if_neg hl]
theorem imp_len {d : Sq} {q x B : Nat} {st : Ist} (ho : ∀ r, d.to q x = some r → (d.o q x).length ≤ 4096) (h : ∀ r, (st.1.getD r []).length ≤ B) (r : Nat) : ((imp1 d q x st).1.getD r []).length ≤ B + 4096 := by
  have hset : ∀ z : Wd, z.length ≤ B + 4096 → ((st.1.set q z).getD r []).length ≤ B + 4096 := fun z hz => by
    rw [gset']; split
    · exact hz
    · have := h r; omega
  unfold imp1
  split
  · have := h r; omega
  · rename_i r' e
    split
    · have := h r; omega
    · split
      · refine hset _ ?_
        rw [List.length_append]; have := ho r' e; have := h r'; omega
      · split
        · refine hset _ ?_
          rw [List.length_take]; have := h q; omega
        · have := h r; omega
theorem impL_len {d : Sq} {q B : Nat} {st : Ist} (ho : ∀ x r, d.to q x = some r → x < d.L → (d.o q x).length ≤ 4096) (h : ∀ r, (st.1.getD r []).length ≤ B) : ∀ x, x ≤ d.L → ∀ r, ((impL d q st x).1.getD r []).length ≤ B + 4096 * x := by
  intro x
  induction x with
  | zero => intro _ r; have := h r; show ((st.1).getD r []).length ≤ _; omega
  | succ x ih =>
    intro hx r
    exact Nat.le_trans (imp_len (d := d) (q := q) (x := x) (fun r' e => ho x r' e (by omega)) (ih (by omega)) r) (by rw [Nat.mul_succ]; exact Nat.le_of_eq (Nat.add_assoc _ _ _))
theorem imp1_lens {d : Sq} {q x : Nat} (st : Ist) : (imp1 d q x st).1.length = st.1.length ∧ (imp1 d q x st).2.1.length = st.2.1.length := by
  unfold imp1
  split
  · exact ⟨rfl, rfl⟩
  · split
    · exact ⟨rfl, rfl⟩
    · split
      · exact ⟨List.length_set, List.length_set⟩
      · split
        · exact ⟨List.length_set, rfl⟩
        · exact ⟨rfl, rfl⟩
theorem impL_lens {d : Sq} {q : Nat} {st : Ist} : ∀ x, (impL d q st x).1.length = st.1.length ∧ (impL d q st x).2.1.length = st.2.1.length := by
  intro x
  induction x with
  | zero => exact ⟨rfl, rfl⟩
  | succ x ih =>
    have := imp1_lens (d := d) (q := q) (x := x) (impL d q st x)
    exact ⟨this.1.trans ih.1, this.2.trans ih.2⟩
/-- rows of predecessors -/
structure Bg (d : Sq) (Q X : Nat) (rs : List (Rx Nat)) : Prop where
  len : rs.length = d.n
  at_ : ∀ r, r < d.n → (rs.getD r rx0).xs = (bef d Q X r).map (·.1)
theorem Bg.start (d : Sq) : Bg d 0 0 (List.replicate d.n rx0) := ⟨by simp, fun r hr => by
  rw [bef_zero, List.getD_eq_getElem?_getD, List.getElem?_replicate, if_pos hr]; rfl⟩
theorem Bg.row {d : Sq} {Q : Nat} {rs : List (Rx Nat)} (h : Bg d Q d.L rs) : Bg d (Q + 1) 0 rs := ⟨h.len, fun r hr => by rw [h.at_ r hr, bef_row]⟩
theorem Bg.keep {d : Sq} {Q X : Nat} {rs : List (Rx Nat)} (h : Bg d Q X rs) (hn : d.to Q X = none) : Bg d Q (X + 1) rs := ⟨h.len, fun r hr => by rw [h.at_ r hr, bef_s, hn]; simp⟩
theorem Bg.put {d : Sq} {Q X r0 : Nat} {rs : List (Rx Nat)} (h : Bg d Q X rs) (hn : d.to Q X = some r0) (hr0 : r0 < d.n) {x : Rx Nat} (hx : x.xs = (rs.getD r0 rx0).xs ++ [Q]) : Bg d Q (X + 1) (rs.set r0 x) := ⟨by rw [List.length_set, h.len], fun r hr => by
  rw [gsetX, bef_s, hn, h.len]
  by_cases e : r0 = r
  · subst e
    rw [if_pos ⟨rfl, hr0⟩, hx, h.at_ _ hr0, if_pos rfl, List.map_append]; rfl
  · rw [if_neg (fun h => e h.1), h.at_ r hr, if_neg (fun h => e (Option.some.inj h)), List.append_nil]⟩
/-- P, known at first: the states with End before i -/
def pfP (d : Sq) (i : Nat) : List Wd := (List.range d.n).map fun q => if q < i ∧ d.e q = true then d.f q else []
def pfK (d : Sq) (i : Nat) : List Bool := (List.range d.n).map fun q => decide (q < i ∧ d.e q = true)
theorem pfP_len (d : Sq) (i : Nat) : (pfP d i).length = d.n := by simp [pfP]
theorem pfK_len (d : Sq) (i : Nat) : (pfK d i).length = d.n := by simp [pfK]
theorem pfP_zero (d : Sq) : pfP d 0 = List.replicate d.n [] := by
  refine list_ext_getD [] (by simp [pfP]) fun i hi => ?_
  rw [pfP_len] at hi
  rw [pfP, getD_rng _ _ _ hi, if_neg (by omega), List.getD_eq_getElem?_getD, List.getElem?_replicate, if_pos hi]; rfl
theorem pfK_zero (d : Sq) : pfK d 0 = List.replicate d.n false := by
  refine list_ext_getD false (by simp [pfK]) fun i hi => ?_
  rw [pfK_len] at hi
  rw [pfK, getD_rng _ _ _ hi, decide_eq_false (by omega), List.getD_eq_getElem?_getD, List.getElem?_replicate, if_pos hi]; rfl
theorem pfP_put {d : Sq} {i : Nat} (h : d.e i = true) : ((pfP d i).map sv).set i (sv (d.f i)) = (pfP d (i + 1)).map sv := by
  rw [← List.map_set, pfP, rng_put _ (fun q => if q < i + 1 ∧ d.e q = true then d.f q else []) (by rw [if_pos ⟨by omega, h⟩]) fun y _ hne => ?_]
  · rfl
  · by_cases h1 : y < i
    · simp [h1, show y < i + 1 by omega]
    · simp [h1, show ¬ y < i + 1 by omega]
theorem pfK_put {d : Sq} {i : Nat} (h : d.e i = true) : ((pfK d i).map bo).set i (.bool true) = (pfK d (i + 1)).map bo := by
  rw [show (Value.bool true) = bo true from rfl, ← List.map_set, pfK, rng_put _ (fun q => decide (q < i + 1 ∧ d.e q = true)) (decide_eq_true ⟨by omega, h⟩) fun y _ hne => ?_]
  · rfl
  · rw [decide_eq_decide]
    exact ⟨fun h => ⟨by omega, h.2⟩, fun h => ⟨by omega, h.2⟩⟩
theorem pfP_keep {d : Sq} {i : Nat} (h : d.e i = false) : pfP d i = pfP d (i + 1) := rng_keep _ _ fun y _ => by
  by_cases e : y = i
  · subst e; simp [h]
  · by_cases h1 : y < i
    · simp [h1, show y < i + 1 by omega]
    · simp [h1, show ¬ y < i + 1 by omega]
theorem pfK_keep {d : Sq} {i : Nat} (h : d.e i = false) : pfK d i = pfK d (i + 1) := rng_keep _ _ fun y _ => by
  rw [decide_eq_decide]
  refine ⟨fun h => ⟨by omega, h.2⟩, fun h2 => ⟨?_, h2.2⟩⟩
  rcases Nat.lt_or_ge y i with h1 | h1
  · exact h1
  · obtain rfl : y = i := by omega
    rw [h] at h2
    exact absurd h2.2 (by decide)
theorem PfI.start {d : Sq} {M : Nat} (hd : d.Ok M) (hL : 0 < d.n) (r : Nat) : PfI d M (pfP d d.n) (pfK d d.n) (pfK d d.n) ((List.range d.n).filter d.e) 0 r [] := by
  have hk : ∀ q, q < d.n → (pfK d d.n).getD q false = d.e q := fun q hq => by
    rw [pfK, getD_rng _ _ _ hq]; cases d.e q <;> simp [hq]
  have hp : ∀ q, q < d.n → d.e q = true → (pfP d d.n).getD q [] = d.f q := fun q hq he => by rw [pfP, getD_rng _ _ _ hq, if_pos ⟨hq, he⟩]
  have hql : ((List.range d.n).filter d.e).length ≤ d.n := by have := List.length_filter_le d.e (List.range d.n); rwa [List.length_range] at this
  refine ⟨pfP_len _ _, pfK_len _ _, pfK_len _ _, fun q hq => List.mem_range.1 (List.mem_filter.1 hq).1, fun q hq hw => ?_, fun q hq h p' hp' => ?_, fun q hq he => ?_, fun q x r' hq hx ht h1 h2 => ?_, fun q hq h => ?_, Nat.zero_le _, fun q h => ?_, ?_⟩
  · rw [hk q hq] at hw
    have hm : q ∈ (List.range d.n).filter d.e := List.mem_filter.2 ⟨List.mem_range.2 hq, hw⟩
    obtain ⟨j, hj, e⟩ := List.mem_iff_getElem.1 hm
    exact ⟨j, Nat.zero_le _, hj, by rw [List.getD_eq_getElem?_getD, List.getElem?_eq_getElem hj]; exact e⟩
  · rw [hk q hq] at h
    rw [hp q hq h]
    exact Tr.up_fi (T := d.tr) h hp'
  · rw [hk q hq, hp q hq he]; exact ⟨he, List.prefix_rfl⟩
  · rw [h1] at h2; cases h2
  · have he := h
    rw [hk q hq] at he
    rw [hp q hq he]
    have h1 := (hd.tf q hq).1
    have h2 : 0 < kc d.n (pfK d d.n) := by
      have := sumR_lt (n := d.n) (q := q) (f := fun _ => 0) (g := fun q => if (pfK d d.n).getD q false then 1 else 0) (fun _ _ => Nat.zero_le _) hq (by rw [h]; decide)
      unfold kc; omega
    exact Nat.le_trans h1 (Nat.le_mul_of_pos_right _ h2)
  · rcases Nat.lt_or_ge q d.n with h1 | h1
    · rw [hk q h1] at h
      rw [pfP, getD_rng _ _ _ h1, if_neg (by rw [h]; simp)]
    · rw [List.getD_eq_getElem?_getD, List.getElem?_eq_none (by rw [pfP_len]; exact h1)]; rfl
  · have : msP d M (pfP d d.n) (pfK d d.n) ≤ d.n * (M * d.n + 1) := sumR_const _ _ fun q hq => by
      rw [hk q hq]
      cases he : d.e q with
      | false => simp
      | true =>
        rw [hp q hq he]
        have h1 := (hd.tf q hq).1
        have := Nat.le_mul_of_pos_right M hL
        simp only [if_true]
        omega
    omega
end Go.Sq
namespace Go.Sq
theorem drop_s {α : Type} {l : List α} {k : Nat} {z : α} (hk : k < l.length) : l.drop k = l.getD k z :: l.drop (k + 1) := by
  rw [List.drop_eq_getElem_cons hk, List.getD_eq_getElem?_getD, List.getElem?_eq_getElem hk]; rfl
end Go.Sq

namespace Go.Sq
open Go Go.Eng Go.Am
open Go.Tl (Wd bo okW okB)
/-! short words, sizes; what Normal writes -/
theorem run_lt {d : Sq} (hf : d.Fit) {w : List Nat} : ∀ {q p : Nat} {l : Wd}, q < d.n → InW d.L w → d.tr.run q w = some (p, l) → p < d.n := by
  induction w with
  | nil => intro q p l hq _ h; cases h; exact hq
  | cons x w ih =>
    intro q p l hq hw h
    cases e : d.to q x with
    | none => rw [Tr.run_none (T := d.tr) e] at h; cases h
    | some r =>
      rw [Tr.run_some (T := d.tr) e] at h
      obtain ⟨⟨p', l'⟩, h1, h2⟩ := Option.map_eq_some_iff.1 h
      cases h2
      exact ih (hf.lt q x r hq hw.head e) hw.tail h1
theorem co_short {d : Sq} (hf : d.Fit) {q : Nat} (hq : q < d.n) (hc : d.tr.co d.L q = true) : ∃ w, InW d.L w ∧ (d.tr.val q w).isSome = true ∧ w.length < d.n := by
  have key : ∀ m w, w.length ≤ m → InW d.L w → (d.tr.val q w).isSome = true → ∃ w, InW d.L w ∧ (d.tr.val q w).isSome = true ∧ w.length < d.n := by
    intro m
    induction m with
    | zero =>
      intro w hl hw hv
      exact ⟨w, hw, hv, by omega⟩
    | succ m ih =>
      intro w hl hw hv
      rcases Nat.lt_or_ge w.length d.n with h1 | h1
      · exact ⟨w, hw, hv, h1⟩
      · -- some state is met twice
        have hrun : ∀ i, i ≤ w.length → ∃ p l, d.tr.run q (w.take i) = some (p, l) ∧ p < d.n := fun i hi => by
          have e := List.take_append_drop i w
          rw [← e, Tr.val_app] at hv
          cases e2 : d.tr.run q (w.take i) with
          | none => rw [e2] at hv; cases hv
          | some p => exact ⟨p.1, p.2, rfl, run_lt hf hq (hw.take i) e2⟩
        let st : Nat → Nat := fun i => ((d.tr.run q (w.take i)).map (·.1)).getD 0
        have hst : ∀ i, i ≤ w.length → st i < d.n := fun i hi => by
          obtain ⟨p, l, e, hp⟩ := hrun i hi
          show ((d.tr.run q (w.take i)).map (·.1)).getD 0 < d.n
          rw [e]; exact hp
        have hnd : ¬ ((List.range (d.n + 1)).map st).Nodup := fun hnd => by
          have := nodup_lt_len hnd (n := d.n) (fun p hp => by
            obtain ⟨i, hi, rfl⟩ := List.mem_map.1 hp
            exact hst i (by have := List.mem_range.1 hi; omega))
          rw [List.length_map, List.length_range] at this
          omega
        obtain ⟨i, j, hij, hj, he⟩ : ∃ i j, i < j ∧ j ≤ d.n ∧ st i = st j := Classical.byContradiction fun hcon => by
          apply hnd
          rw [List.nodup_iff_pairwise_ne, List.pairwise_iff_getElem]
          intro i j hi hj hij e
          simp only [List.length_map, List.length_range] at hi hj
          simp only [List.getElem_map, List.getElem_range] at e
          exact hcon ⟨i, j, hij, by omega, e⟩
        obtain ⟨p, l, e1, _⟩ := hrun i (by omega)
        obtain ⟨p', l', e2, _⟩ := hrun j (by omega)
        have hpp : p = p' := by
          have he : ((d.tr.run q (w.take i)).map (·.1)).getD 0 = ((d.tr.run q (w.take j)).map (·.1)).getD 0 := he
          rw [e1, e2] at he; exact he
        subst hpp
        refine ih (w.take i ++ w.drop j) ?_ ((hw.take i).app fun x hx => hw x (List.mem_of_mem_drop hx)) ?_
        · rw [List.length_append, List.length_take, List.length_drop]; omega
        · rw [Tr.val_app, e1]
          rw [← List.take_append_drop j w, Tr.val_app, e2] at hv
          show ((d.tr.val p (w.drop j)).map (l ++ ·)).isSome = true
          have hv : ((d.tr.val p (w.drop j)).map (l' ++ ·)).isSome = true := hv
          cases e3 : d.tr.val p (w.drop j) with
          | none => rw [e3] at hv; cases hv
          | some v => rfl
  obtain ⟨w, hw, hv⟩ := Tr.co_t.1 hc
  exact key w.length w (Nat.le_refl _) hw hv
theorem val_text {d : Sq} {M : Nat} (hd : d.Ok M) {w : List Nat} : ∀ {q : Nat} {v : Wd}, q < d.n → InW d.L w → d.tr.val q w = some v → okT ((w.length + 1) * M) v := by
  induction w with
  | nil =>
    intro q v hq _ h
    rw [Tr.val] at h
    split at h
    · cases h
      exact (hd.tf q hq).mono (by simp)
    · cases h
  | cons x w ih =>
    intro q v hq hw h
    cases e : d.to q x with
    | none => rw [d.tr.val_none e] at h; cases h
    | some r =>
      rw [d.tr.val_some e] at h
      obtain ⟨u, h1, rfl⟩ := Option.map_eq_some_iff.1 h
      have h2 := ih (hd.lt q x r hq hw.head e) hw.tail h1
      have h3 := (hd.to' q x hq hw.head).app h2
      refine h3.mono ?_
      rw [List.length_cons, Nat.add_mul (w.length + 1) 1 M]; omega
theorem Pf_text {d : Sq} {M : Nat} {P : List Wd} (hd : d.Ok M) (hall : ∀ r, r < d.n → d.tr.co d.L r = true) (hP : d.Pf P) {q : Nat} (hq : q < d.n) : okT (d.n * M) (P.getD q []) := by
  obtain ⟨w, hw, hv, hl⟩ := co_short hd.fit hq (hall q hq)
  obtain ⟨v, hv⟩ := Option.isSome_iff_exists.1 hv
  have h1 := (hP.lcp q hq).pre w v hw hv
  have h2 := val_text hd hq hw hv
  have h3 := Nat.mul_le_mul_right M (show w.length + 1 ≤ d.n from hl)
  exact ⟨by have := h1.length_le; have := h2.1; omega, fun b hb => h2.2 b (h1.subset hb)⟩
theorem okT.drop {M : Nat} {s : Wd} (h : okT M s) (k : Nat) : okT M (s.drop k) := ⟨by rw [List.length_drop]; have := h.1; omega, fun b hb => h.2 b (List.mem_of_mem_drop hb)⟩
theorem emptyQ_ok {L : Nat} (hL : 1 ≤ L ∧ L ≤ 6) (M : Nat) : (emptyQ L).Ok M := by
  have hf := emptyQ_fit L
  refine ⟨hL, by show 1 ≤ 512; decide, Nat.zero_lt_one, hf.len, hf.row, hf.lt, hf.no, (emptyQ_bis L).nf, okT.nil M, fun q x _ _ => by rw [emptyQ_o]; exact okT.nil M, fun q hq => ?_⟩
  obtain rfl : q = 0 := Nat.lt_one_iff.1 hq
  exact okT.nil M
theorem IsTrim.ok {f g : Sq} {M : Nat} (hf : f.Ok M) (h : IsTrim f.tr f.L f.s f.init g) : g.Ok M ∧ g.n ≤ f.n := by
  rcases h with ⟨_, rfl⟩ | ⟨hc, K, hK, rfl⟩
  · exact ⟨emptyQ_ok hf.may M, Nat.lt_of_le_of_lt (Nat.zero_le _) hf.st⟩
  · have hcl : ∀ a x b, a ∈ bfsP (f.tr.stC f.L) f.L f.s K → x < f.L → f.tr.stC f.L a x = some b → b ∈ bfsP (f.tr.stC f.L) f.L f.s K := fun a x b ha hx hb => hK.closed ha hx hb
    have hlt := bfsC_lt hf.fit hf.st (show 0 < f.L from hf.may.1) K
    have hfit := trimT_fit (init := f.init) hcl
    have hlen := bfsC_len hf.fit hf.st (show 0 < f.L from hf.may.1) K
    have hmem : ∀ i, i < (bfsP (f.tr.stC f.L) f.L f.s K).length → (bfsP (f.tr.stC f.L) f.L f.s K).getD i 0 < f.n := fun i hi => hlt _ (getDm hi)
    refine ⟨⟨hf.may, by rw [trimT_n]; exact Nat.le_trans hlen hf.n5, by rw [trimT_n]; exact bfsP_pos K, hfit.len, hfit.row, hfit.lt, hfit.no, fun q hq he => ?_, hf.ti, fun q x hq hx => ?_, fun q hq => ?_⟩, by rw [trimT_n]; exact hlen⟩
    · rw [trimT_n] at hq
      rw [trimT_e 0 hq] at he
      rw [trimT_f 0 hq]
      exact hf.nf _ (hmem q hq) he
    · rw [trimT_n] at hq
      rw [trimT_o 0 hq (show x < f.L from hx)]
      split
      · exact hf.to' _ x (hmem q hq) hx
      · exact okT.nil M
    · rw [trimT_n] at hq
      rw [trimT_f 0 hq]
      exact hf.tf _ (hmem q hq)
theorem normD_ok {d : Sq} {M : Nat} {P : List Wd} (hd : d.Ok M) (ht : d.Trimmed) (hP : d.Pf P) : (normD d P).Ok ((d.n + 1) * M) := by
  have hfit := normD_fit hd.fit P
  have hPt := fun q hq => Pf_text hd ht.co hP (q := q) hq
  have e1 : (d.n + 1) * M = M + d.n * M := by rw [Nat.add_mul, Nat.one_mul, Nat.add_comm]
  refine ⟨hd.may, hd.n5, hd.st, hfit.len, hfit.row, hfit.lt, hfit.no, fun q hq he => ?_, ?_, fun q x hq hx => ?_, fun q hq => ?_⟩
  · have he : d.e q = false := he
    rw [normD_f (show q < d.n from hq), he]
    exact hd.nf q hq he
  · rw [e1]; exact hd.ti.app (hPt _ hd.st)
  · replace hq : q < d.n := hq
    replace hx : x < d.L := hx
    rw [normD_o hq hx, e1]
    cases e : d.to q x with
    | none => exact (hd.to' q x hq hx).mono (Nat.le_add_right _ _)
    | some r => exact ((hd.to' q x hq hx).app (hPt r (hd.lt q x r hq hx e))).drop _
  · replace hq : q < d.n := hq
    rw [normD_f hq, e1]
    split
    · exact ((hd.tf q hq).drop _).mono (Nat.le_add_right _ _)
    · exact (hd.tf q hq).mono (Nat.le_add_right _ _)
/-- the rows of Out while Normal writes them -/
structure NoI (d : Sq) (P : List Wd) (q x : Nat) (os : List (Rx Wd)) : Prop where
  len : os.length = d.n
  rl : ∀ p, p < d.n → (os.getD p rx0).xs.length = d.L
  at_ : ∀ p y, p < d.n → y < d.L → (os.getD p rx0).xs.getD y [] = if p < q ∨ (p = q ∧ y < x) then (normD d P).o p y else d.o p y
section
variable {d : Sq} {P : List Wd} {q x : Nat} {os : List (Rx Wd)}
theorem NoI.old (h : NoI d P q x os) (hq : q < d.n) (hx : x < d.L) : (os.getD q rx0).xs.getD x [] = d.o q x := by rw [h.at_ q x hq hx, if_neg (by omega)]
theorem NoI.row (h : NoI d P q d.L os) : NoI d P (q + 1) 0 os := ⟨h.len, h.rl, fun p y hp hy => by
  rw [h.at_ p y hp hy]
  by_cases e : p < q ∨ (p = q ∧ y < d.L)
  · rw [if_pos e, if_pos (by omega)]
  · rw [if_neg e, if_neg (by omega)]⟩
theorem NoI.put (h : NoI d P q x os) (hq : q < d.n) {r : Rx Wd} (hr : r.xs = (os.getD q rx0).xs.set x ((normD d P).o q x)) : NoI d P q (x + 1) (os.set q r) := by
  refine ⟨by rw [List.length_set, h.len], fun p hp => ?_, fun p y hp hy => ?_⟩
  · rw [gsetX]
    split
    · rw [hr, List.length_set, h.rl q hq]
    · exact h.rl p hp
  · rw [gsetX, h.len]
    by_cases e : q = p
    · subst e
      rw [if_pos ⟨rfl, hq⟩, hr, gset', h.rl q hq]
      by_cases e2 : x = y
      · subst e2; rw [if_pos ⟨rfl, hy⟩, if_pos (by omega)]
      · rw [if_neg (fun h => e2 h.1), h.at_ q y hq hy]
        by_cases e3 : q < q ∨ (q = q ∧ y < x)
        · rw [if_pos e3, if_pos (by omega)]
        · rw [if_neg e3, if_neg (by omega)]
    · rw [if_neg (fun h => e h.1), h.at_ p y hp hy]
      by_cases e3 : p < q ∨ (p = q ∧ y < x)
      · rw [if_pos e3, if_pos (by omega)]
      · rw [if_neg e3, if_neg (by omega)]
theorem NoI.keep (h : NoI d P q x os) (hn : d.to q x = none) : NoI d P q (x + 1) os := ⟨h.len, h.rl, fun p y hp hy => by
  rw [h.at_ p y hp hy]
  by_cases e3 : p < q ∨ (p = q ∧ y < x)
  · rw [if_pos e3, if_pos (by omega)]
  · rw [if_neg e3]
    by_cases e : p = q ∧ y = x
    · obtain ⟨rfl, rfl⟩ := e
      rw [if_pos (by omega), normD_o hp hy, hn]
    · rw [if_neg (by omega)]⟩
theorem NoI.done (h : NoI d P d.n 0 os) : os.map (·.xs) = (normD d P).ou := by
  have e1 : ∀ p, p < d.n → ((normD d P).ou.getD p []).length = d.L := fun p hp => by
    show ((List.map _ _).getD p []).length = d.L
    rw [getD_rng _ _ _ hp]; simp
  refine ext_rows (n := d.n) (L := d.L) (by rw [List.length_map, h.len]) (by show (List.map _ _).length = _; simp) (fun q hq => by rw [rx_getD]; exact h.rl q hq) e1 [] fun q x hq hx => ?_
  rw [rx_getD, h.at_ q x hq hx, if_pos (.inl hq)]
  rfl
def noF (d : Sq) (P : List Wd) (q : Nat) : List Wd := (List.range d.n).map fun p => if p < q then (normD d P).f p else d.f p
theorem noF_len (d : Sq) (P : List Wd) (q : Nat) : (noF d P q).length = d.n := by simp [noF]
theorem noF_get {d : Sq} {P : List Wd} {q p : Nat} (hp : p < d.n) : (noF d P q).getD p [] = if p < q then (normD d P).f p else d.f p := getD_rng _ _ _ hp
theorem noF_zero {d : Sq} (hf : d.fi.length = d.n) (P : List Wd) : noF d P 0 = d.fi := by
  refine list_ext_getD [] (by rw [noF_len, hf]) fun i hi => ?_
  rw [noF_len] at hi
  rw [noF_get hi, if_neg (by omega)]; rfl
theorem noF_end (d : Sq) (P : List Wd) : noF d P d.n = (normD d P).fi := by
  refine list_ext_getD [] (by rw [noF_len]; show _ = (List.map _ _).length; simp) fun i hi => ?_
  rw [noF_len] at hi
  rw [noF_get hi, if_pos hi]; rfl
theorem noF_put {d : Sq} {P : List Wd} {q : Nat} : ((noF d P q).map sv).set q (sv ((normD d P).f q)) = (noF d P (q + 1)).map sv := by
  rw [← List.map_set, noF, rng_put _ (fun p => if p < q + 1 then (normD d P).f p else d.f p) (by rw [if_pos (by omega)]) fun y _ hne => ?_]
  · rfl
  · by_cases h1 : y < q
    · simp [h1, show y < q + 1 by omega]
    · simp [h1, show ¬ y < q + 1 by omega]
theorem noF_keep {d : Sq} {P : List Wd} {q : Nat} (h : d.e q = false) : noF d P q = noF d P (q + 1) := by
  refine List.map_congr_left fun y hy => ?_
  have hy := List.mem_range.1 hy
  by_cases h1 : y < q
  · simp [h1, show y < q + 1 by omega]
  · by_cases h2 : y = q
    · subst h2; simp [normD_f hy, h]
    · simp [h1, show ¬ y < q + 1 by omega]
end
end Go.Sq

namespace Go.Sq
open Go Go.Eng Go.Am
open Go.Tl (Wd bo okW okB)
/-! Normal, further -/
theorem NoI.start {M : Nat} {S : Sv} (h : S.sq.Ok M) (P : List Wd) : NoI S.sq P 0 0 S.os :=
  ⟨by rw [h.lens.1, S.n_eq], fun p hp => h.olen (by rw [← S.n_eq]; exact hp), fun p y _ _ => by rw [if_neg (by omega), S.o_eq]⟩
theorem IsTrim.co_eq {f g : Sq} (h : IsTrim f.tr f.L f.s f.init g) : g.tr.co g.L g.s = f.tr.co f.L f.s := by
  cases hc : f.tr.co f.L f.s with
  | true =>
    obtain ⟨_, h2, h3, _⟩ := h.good hc
    exact h2.co _ (by rw [h2.st]; exact h3)
  | false =>
    rcases h with ⟨_, rfl⟩ | ⟨h1, _⟩
    · cases e : (emptyQ f.L).tr.co (emptyQ f.L).L (emptyQ f.L).s with
      | false => rfl
      | true =>
        obtain ⟨w, hw, hv⟩ := Tr.co_t.1 e
        rw [show (emptyQ f.L).tr.val (emptyQ f.L).s w = none from emptyQ_val f.L hw] at hv; cases hv
    · rw [hc] at h1; cases h1
theorem Pf_le {d : Sq} {P : List Wd} (hP : d.Pf P) {q : Nat} (hq : q < d.n) (he : d.e q = true) : (P.getD q []).length ≤ (d.f q).length :=
  (Tr.up_fi (T := d.tr) he (hP.lcp q hq).pre).length_le
end Go.Sq
namespace Go.Sq
open Go Go.Eng Go.Am
/-- a row in place of another at the same place: the row of rows stays -/
theorem rxv_put {α : Type} {os : List (Rx α)} {q : Nat} {xs : List α} (h : xs.length = (os.getD q rx0).xs.length) : (os.set q ⟨(os.getD q rx0).a, (os.getD q rx0).cp, xs⟩).map rxv = os.map rxv := by
  refine list_ext_getD (.int .i64 0) (by simp) fun i hi => ?_
  simp only [List.length_map, List.length_set] at hi
  rw [getD_map _ _ _ rx0 (by simpa using hi), getD_map _ _ _ rx0 hi, gsetX]
  split
  · rename_i h2
    rw [← h2.1]
    simp only [rxv, h]
  · rfl
end Go.Sq


namespace Go.Am
open Go Go.Eng
open Go.Tl (bo)
/-! the automaton of the classes, its rows filled when a class is first met -/
section
variable {d : Da} {c : List Nat} (hf : FO c)
theorem topL_keep {q : Nat} (hq : q < c.length) (h : c.getD q 0 < topL (c.take q)) : topL (c.take (q + 1)) = topL (c.take q) := by rw [topL_take c hq]; omega
theorem topL_new {q : Nat} (hq : q < c.length) (h : c.getD q 0 = topL (c.take q)) : topL (c.take (q + 1)) = topL (c.take q) + 1 := by rw [topL_take c hq]; omega
theorem topL_le {q : Nat} (hq : q ≤ c.length) : topL (c.take q) ≤ topL c := by
  have := topL_mono c (p := q) (q := c.length) hq (Nat.le_refl _)
  rwa [List.take_length] at this
def mf (d : Da) (c : List Nat) (N q : Nat) : List Bool := (reps c q).map d.fi ++ List.replicate (N - topL (c.take q)) false
include hf in
theorem mf_len {N q : Nat} (hq : q ≤ c.length) (hN : topL c ≤ N) : (mf d c N q).length = N := by
  have := topL_le hq
  rw [mf, List.length_append, List.length_map, List.length_replicate, reps_len hf hq]; omega
theorem mf_keep {N q : Nat} (hq : q < c.length) (h : c.getD q 0 < topL (c.take q)) : mf d c N q = mf d c N (q + 1) := by
  rw [mf, mf, topL_keep hq h, reps_s h]
include hf in
theorem mf_put {N q : Nat} (hq : q < c.length) (h : c.getD q 0 = topL (c.take q)) (hN : topL c ≤ N) : ((mf d c N q).map bo).set (c.getD q 0) (.bool (d.fi q)) = (mf d c N (q + 1)).map bo := by
  have h1 := topL_le (c := c) (q := q + 1) hq
  rw [topL_new hq h] at h1
  obtain ⟨m, hm⟩ : ∃ m, N - topL (c.take q) = m + 1 := ⟨N - topL (c.take q) - 1, by omega⟩
  have hm2 : N - topL (c.take (q + 1)) = m := by rw [topL_new hq h]; omega
  rw [mf, mf, hm2, hm, reps_n (by omega), List.map_append, List.map_append, List.set_append_right _ _ (by rw [List.length_map, List.length_map, reps_len hf (by omega), h]; exact Nat.le_refl _), List.length_map, List.length_map, reps_len hf (by omega), h, Nat.sub_self, List.replicate_succ, List.map_cons, List.set_cons_zero]
  simp
theorem mf_zero (N : Nat) : (mf d c N 0).map bo = List.replicate N (.bool false) := by
  have : topL (c.take 0) = 0 := rfl
  rw [mf, this]
  simp [reps]
theorem mf_end {N : Nat} (hl : c.length = d.n) (hN : topL c = N) : mf d c N d.n = (reps c d.n).map d.fi := by
  rw [mf, ← hl, List.take_length, hN, Nat.sub_self, List.replicate_zero, List.append_nil]
structure Mr (d : Da) (c : List Nat) (N q : Nat) (rs : List Rw) : Prop where
  len : rs.length = N
  old : ∀ i, i < topL (c.take q) → (rs.getD i rw0).a.isSome = true ∧ (rs.getD i rw0).xs = castL (qrow d c ((reps c q).getD i 0))
  new : ∀ i, topL (c.take q) ≤ i → (rs.getD i rw0).a = none
theorem Mr.start (N : Nat) : Mr d c N 0 (List.replicate N rw0) := by
  refine ⟨by simp, fun i hi => by simp [topL] at hi, fun i _ => ?_⟩
  rw [List.getD_eq_getElem?_getD, List.getElem?_replicate]
  split <;> rfl
theorem Mr.keep {N q : Nat} {rs : List Rw} (h : Mr d c N q rs) (hq : q < c.length) (hc : c.getD q 0 < topL (c.take q)) : Mr d c N (q + 1) rs := by
  refine ⟨h.len, fun i hi => ?_, fun i hi => ?_⟩
  · rw [topL_keep hq hc] at hi; rw [reps_s hc]; exact h.old i hi
  · rw [topL_keep hq hc] at hi; exact h.new i hi
include hf in
theorem Mr.put {N q : Nat} {rs : List Rw} (h : Mr d c N q rs) (hq : q < c.length) (hc : c.getD q 0 = topL (c.take q)) (hN : topL c ≤ N) {r : Rw} (hr : r.a.isSome = true) (hx : r.xs = castL (qrow d c q)) : Mr d c N (q + 1) (rs.set (c.getD q 0) r) := by
  have h1 := topL_le (c := c) (q := q + 1) hq
  have h2 := topL_new hq hc
  have hrl : (reps c q).length = topL (c.take q) := reps_len hf (by omega)
  have hn := reps_n (c := c) (q := q) (by omega)
  refine ⟨by rw [List.length_set, h.len], fun i hi => ?_, fun i hi => ?_⟩
  · rw [getD_set]
    by_cases e : c.getD q 0 = i
    · rw [if_pos ⟨e, by rw [h.len]; omega⟩]
      refine ⟨hr, ?_⟩
      rw [hx, hn]
      congr 2
      have : i = (reps c q).length := by omega
      simp [List.getD_eq_getElem?_getD, this]
    · rw [if_neg fun h => e h.1]
      have hi' : i < topL (c.take q) := by omega
      have := h.old i hi'
      refine ⟨this.1, ?_⟩
      rw [this.2, hn]
      congr 2
      simp only [List.getD_eq_getElem?_getD]
      rw [List.getElem?_append_left (by omega)]
  · rw [getD_set, if_neg (by rintro ⟨e, _⟩; omega)]
    exact h.new i (by omega)
include hf in
theorem Mr.done {N : Nat} {rs : List Rw} (hl : c.length = d.n) (hN : topL c = N) (h : Mr d c N d.n rs) : rs.map (·.xs) = (reps c d.n).map fun p => castL (qrow d c p) := by
  have hrl : (reps c d.n).length = topL c := by rw [reps_len hf (Nat.le_of_eq hl.symm), ← hl, List.take_length]
  refine list_ext_getD [] (by rw [List.length_map, List.length_map, h.len, hrl, hN]) fun i hi => ?_
  rw [List.length_map, h.len] at hi
  have h1 := (h.old i (by rw [← hl, List.take_length]; omega)).2
  have hi1 : i < rs.length := by rw [h.len]; exact hi
  have hi2 : i < (reps c d.n).length := by omega
  simp only [List.getD_eq_getElem?_getD, List.getElem?_map, List.getElem?_eq_getElem hi1, List.getElem?_eq_getElem hi2, Option.map_some, Option.getD_some] at h1 ⊢
  exact h1
end
/-- the automaton of the classes is the least one's -/
theorem quoT_min {d : Da} (hd : d.Ok) {c : List Nat} (h : Cls d c) {D3 : Dv} (h3 : D3.Is (quo d c (c.getD d.s 0))) {m : Da} (hm : IsMin D3.da.L D3.da.sy D3.da.s m) : IsMin d.L d.sy d.s m := by
  rw [h3.da] at hm
  exact hm.congr (quo_eqv hd h (c.getD d.s 0) hd.st)
theorem quoT_ok {d : Da} (hd : d.Ok) (hL : 1 ≤ d.L ∧ d.L ≤ 6) {c : List Nat} (h : Cls d c) (h5 : topL c ≤ 512) {D3 : Dv} (h3 : D3.Is (quo d c (c.getD d.s 0))) : D3.Ok ∧ D3.fin.length ≤ 512 := by
  have hq : (quo d c (c.getD d.s 0)).n = topL c := quo_n h _
  refine ⟨h3.ok (quo_ok hd h (topL_all c (by rw [h.len]; exact hd.st))) hL (by rw [hq]; omega), ?_⟩
  have : D3.da.n = topL c := by rw [h3.da, hq]
  show D3.da.n ≤ 512
  omega
end Go.Am


