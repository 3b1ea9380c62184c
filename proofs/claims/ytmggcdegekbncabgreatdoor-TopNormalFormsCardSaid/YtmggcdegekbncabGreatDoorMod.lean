/-
  Plain facts, without a program. No condition.
-/
import Derived.Test.YtmggcdegekbncabGreatDoorEng
import Derived.ProofKit
import Derived.OpenShut
import Derived.ShutString
import Derived.ChangeOld
import Derived.Below
import Derived.Lib.TrailingZeros
set_option linter.unusedSimpArgs false
namespace Go.Tl
open Go Go.Eng

structure Tm where
  op : Int
  lt : Int
  a : Int
  b : Int
deriving DecidableEq
def t0 : Tm := ⟨0, 0, 0, 0⟩
/-! fields -/
def fl (op : Int) : Bool := decide (op = 2)
def fa (op : Int) : Bool := decide (4 ≤ op ∧ op ≤ 8)
def fb (op : Int) : Bool := decide (op = 5 ∨ op = 6 ∨ op = 8)
def fk (op : Int) : Bool := decide (1 ≤ op ∧ op ≤ 8)
def vf (v n : Int) (need : Bool) : Bool := if need then decide (0 ≤ v ∧ v < n) else decide (v = 0)
def okF (x : Tm) (i : Nat) (letters : Int) : Bool := fk x.op && vf x.lt letters (fl x.op) && vf x.a (i : Int) (fa x.op) && vf x.b (i : Int) (fb x.op)
def okL (xs : List Tm) (letters : Int) : Bool := (List.range xs.length).all fun j => okF (xs.getD j t0) j letters
def mayL (l : Int) : Bool := decide (1 ≤ l ∧ l ≤ 6)
/-- the error of a list of formulas -/
def vdF (xs : List Tm) (root letters : Int) : Int :=
  if mayL letters = false then 1 else if 200000 < xs.length then 3 else if okL xs letters = false then 22 else if root < 0 ∨ (xs.length : Int) ≤ root then 22 else 0

theorem ret_b {p q : Bool} (h : p = q) : Ending.returned (.bool p) = Ending.returned (.bool q) := by rw [h]
theorem ret_i {p q : Int} (h : p = q) : Ending.returned (.int .i64 p) = Ending.returned (.int .i64 q) := by rw [h]
theorem vd_may {xs : List Tm} {root letters : Int} (h : letters < 1 ∨ 6 < letters) : vdF xs root letters = 1 := by
  rw [vdF, if_pos]; rw [mayL, decide_eq_false_iff_not]; omega
theorem may_in {letters : Int} (h1 : ¬ letters < 1) (h2 : ¬ 6 < letters) : mayL letters = true := by rw [mayL, decide_eq_true_eq]; omega
/-! words -/
abbrev Wd := List UInt8
def okB (letters : Int) (b : UInt8) : Bool := decide (97 ≤ (b.toNat : Int) ∧ (b.toNat : Int) - 97 < letters)
def okW (l : Wd) (letters : Int) : Bool := mayL letters && (decide (l.length ≤ 2048) && l.all (okB letters))
theorem u8_lt (b : UInt8) : (b.toNat : Int) < 256 := by have := b.toNat_lt; omega
theorem all_get {α : Type} {p : α → Bool} {d : α} {l : List α} (h : ∀ j, j < l.length → p (l.getD j d) = true) : l.all p = true := by
  rw [List.all_eq_true]
  intro x hx
  obtain ⟨j, hj, rfl⟩ := List.mem_iff_getElem.1 hx
  have := h j hj
  simpa [List.getD, hj] using this
theorem get_all {α : Type} {p : α → Bool} {d : α} {l : List α} (h : l.all p = true) {j : Nat} (hj : j < l.length) : p (l.getD j d) = true := by
  rw [List.all_eq_true] at h
  exact h _ (by simp [List.getD, hj])
theorem get_bad {α : Type} {p : α → Bool} {d : α} {l : List α} {j : Nat} (hj : j < l.length) (h : p (l.getD j d) = false) : l.all p = false := by
  cases hb : l.all p with
  | false => rfl
  | true => rw [get_all hb hj] at h; cases h
theorem okW_may {l : Wd} {letters : Int} (h : letters < 1 ∨ 6 < letters) : okW l letters = false := by
  have : mayL letters = false := by rw [mayL, decide_eq_false_iff_not]; omega
  rw [okW, this]; rfl
theorem okW_long {l : Wd} {letters : Int} (h : 2048 < l.length) : okW l letters = false := by
  have : decide (l.length ≤ 2048) = false := by rw [decide_eq_false_iff_not]; omega
  rw [okW, this]; simp
theorem okW_bad {l : Wd} {letters : Int} {j : Nat} (hj : j < l.length) (h : okB letters (l.getD j 0) = false) : okW l letters = false := by
  rw [okW, get_bad hj h]; simp
theorem okW_ok {l : Wd} {letters : Int} (h : mayL letters = true) (hl : ¬ 2048 < l.length) (hb : ∀ j, j < l.length → okB letters (l.getD j 0) = true) : okW l letters = true := by
  have : decide (l.length ≤ 2048) = true := by rw [decide_eq_true_eq]; omega
  rw [okW, h, this, all_get hb]; rfl
end Go.Tl

namespace Go.Tp
open Go Go.Eng

abbrev zi (n : Int) : Value := .int .i64 n
/-! the tape of numbers -/
end Go.Tp

namespace Go.Am

/-! deterministic systems, their exploration in breadth-first order, canonical automata -/
structure Da where
  L : Nat
  s : Nat
  fin : List Bool
  nx : List (List Nat)
abbrev Da.n (d : Da) : Nat := d.fin.length
def Da.to (d : Da) (q x : Nat) : Nat := (d.nx.getD q []).getD x 0
def Da.fi (d : Da) (q : Nat) : Bool := d.fin.getD q false
structure Da.Ok (d : Da) : Prop where
  len : d.nx.length = d.fin.length
  st : d.s < d.fin.length
  row : ∀ q, q < d.fin.length → (d.nx.getD q []).length = d.L
  lt : ∀ q x, q < d.fin.length → x < d.L → d.to q x < d.fin.length
abbrev InW (L : Nat) (w : List Nat) : Prop := ∀ x ∈ w, x < L
theorem InW.nil (L : Nat) : InW L [] := fun _ h => by cases h
theorem InW.cons {L x : Nat} {w : List Nat} (hx : x < L) (hw : InW L w) : InW L (x :: w) := fun y hy => by
  rcases List.mem_cons.1 hy with rfl | h
  · exact hx
  · exact hw y h
theorem InW.head {L x : Nat} {w : List Nat} (h : InW L (x :: w)) : x < L := h x List.mem_cons_self
theorem InW.tail {L x : Nat} {w : List Nat} (h : InW L (x :: w)) : InW L w := fun y hy => h y (List.mem_cons_of_mem _ hy)
theorem InW.app {L : Nat} {v w : List Nat} (hv : InW L v) (hw : InW L w) : InW L (v ++ w) := fun y hy => by
  rcases List.mem_append.1 hy with h | h
  · exact hv y h
  · exact hw y h

/-- a system: what a letter does, and which states are final -/
structure Sy (α : Type) where
  f : α → Nat → α
  fin : α → Bool
def Sy.run {α : Type} (S : Sy α) : α → List Nat → α
  | q, [] => q
  | q, x :: w => S.run (S.f q x) w
def Sy.acc {α : Type} (S : Sy α) (q : α) (w : List Nat) : Bool := S.fin (S.run q w)
theorem Sy.run_app {α : Type} (S : Sy α) (q : α) (v w : List Nat) : S.run q (v ++ w) = S.run (S.run q v) w := by
  induction v generalizing q with
  | nil => rfl
  | cons x v ih => exact ih _
def Da.sy (d : Da) : Sy Nat := ⟨d.to, d.fi⟩
/-- the same words of letters less than L -/
def Eqv {α β : Type} (L : Nat) (S : Sy α) (p : α) (T : Sy β) (q : β) : Prop := ∀ w, InW L w → S.acc p w = T.acc q w
theorem Eqv.symm {α β : Type} {L : Nat} {S : Sy α} {p : α} {T : Sy β} {q : β} (h : Eqv L S p T q) : Eqv L T q S p := fun w hw => (h w hw).symm
theorem Eqv.trans {α β γ : Type} {L : Nat} {S : Sy α} {p : α} {T : Sy β} {q : β} {U : Sy γ} {r : γ} (h : Eqv L S p T q) (k : Eqv L T q U r) : Eqv L S p U r := fun w hw => (h w hw).trans (k w hw)
theorem Eqv.step {α β : Type} {L : Nat} {S : Sy α} {p : α} {T : Sy β} {q : β} (h : Eqv L S p T q) {x : Nat} (hx : x < L) : Eqv L S (S.f p x) T (T.f q x) := fun w hw => h (x :: w) (InW.cons hx hw)
theorem Eqv.run {α β : Type} {L : Nat} {S : Sy α} {p : α} {T : Sy β} {q : β} (h : Eqv L S p T q) {v : List Nat} (hv : InW L v) : Eqv L S (S.run p v) T (T.run q v) := fun w hw => by
  have := h (v ++ w) (hv.app hw)
  unfold Sy.acc at this ⊢
  rwa [S.run_app, T.run_app] at this
theorem Eqv.fin {α β : Type} {L : Nat} {S : Sy α} {p : α} {T : Sy β} {q : β} (h : Eqv L S p T q) : S.fin p = T.fin q := h [] (InW.nil L)
/-- a morphism of systems -/
theorem Eqv.of_hom {α β : Type} {L : Nat} {S : Sy α} {T : Sy β} (R : α → β → Prop) (hf : ∀ p q x, R p q → x < L → R (S.f p x) (T.f q x)) (hfin : ∀ p q, R p q → S.fin p = T.fin q) {p : α} {q : β} (h : R p q) : Eqv L S p T q := by
  intro w hw
  induction w generalizing p q with
  | nil => exact hfin p q h
  | cons x w ih => exact ih (hf p q x h hw.head) hw.tail

/-! canonical order -/
def Da.seen (d : Da) : Nat → Nat
  | 0 => 1
  | k + 1 => max (d.seen k) (d.to (k / d.L) (k % d.L) + 1)
structure Da.Canon (d : Da) : Prop where
  st : d.s = 0
  next : ∀ k, k < d.n * d.L → d.to (k / d.L) (k % d.L) ≤ d.seen k ∧ k / d.L < d.seen k
  all : d.seen (d.n * d.L) = d.n
def Da.Reduced (d : Da) : Prop := ∀ p q, p < d.n → q < d.n → Eqv d.L d.sy p d.sy q → p = q

theorem Da.seen_le {d : Da} (h : d.Ok) : ∀ k, k ≤ d.n * d.L → d.seen k ≤ d.n := by
  intro k
  induction k with
  | zero => intro _; have := h.st; unfold Da.seen; show 1 ≤ d.fin.length; omega
  | succ k ih =>
    intro hk
    have h1 := ih (by omega)
    have hL : 0 < d.L := by
      rcases Nat.eq_zero_or_pos d.L with h0 | h0
      · rw [h0] at hk; omega
      · exact h0
    have h2 : k / d.L < d.n := (Nat.div_lt_iff_lt_mul hL).2 (by omega)
    have h3 := h.lt (k / d.L) (k % d.L) h2 (Nat.mod_lt _ hL)
    unfold Da.seen
    exact Nat.max_le.2 ⟨h1, h3⟩

theorem canon_step {d1 d2 : Da} (h1 : d1.Ok) (h2 : d2.Ok) (hL : d1.L = d2.L) (c1 : d1.Canon) (c2 : d2.Canon) (r1 : d1.Reduced) (r2 : d2.Reduced) (he : Eqv d1.L d1.sy d1.s d2.sy d2.s) :
    ∀ k, k ≤ d1.n * d1.L → k ≤ d2.n * d1.L → d1.seen k = d2.seen k ∧ (∀ j, j < k → d1.to (j / d1.L) (j % d1.L) = d2.to (j / d1.L) (j % d1.L)) ∧ ∀ q, q < d1.seen k → Eqv d1.L d1.sy q d2.sy q := by
  intro k
  induction k with
  | zero =>
    intro _ _
    refine ⟨rfl, (fun j hj => by omega), fun q hq => ?_⟩
    have : q = 0 := by unfold Da.seen at hq; omega
    subst this
    have h := he
    rw [c1.st, c2.st] at h
    exact h
  | succ k ih =>
    intro hk1 hk2
    obtain ⟨e1, e2, e3⟩ := ih (by omega) (by omega)
    have hL0 : 0 < d1.L := by
      rcases Nat.eq_zero_or_pos d1.L with h0 | h0
      · rw [h0] at hk1; omega
      · exact h0
    have n1 := c1.next k (by omega)
    have n2 := c2.next k (by rw [← hL]; omega)
    rw [← hL] at n2
    have s1 := Da.seen_le h1 k (by omega)
    have s2 := Da.seen_le h2 k (by rw [← hL]; omega)
    have hx : k % d1.L < d1.L := Nat.mod_lt _ hL0
    have q1 : k / d1.L < d1.n := by omega
    have q2 : k / d1.L < d2.n := by omega
    have t1 := h1.lt _ _ q1 hx
    have t2 := h2.lt _ _ q2 (by rw [← hL]; exact hx)
    have hstep : Eqv d1.L d1.sy (d1.to (k / d1.L) (k % d1.L)) d2.sy (d2.to (k / d1.L) (k % d1.L)) := (e3 (k / d1.L) n1.2).step hx
    have key : d1.to (k / d1.L) (k % d1.L) = d2.to (k / d1.L) (k % d1.L) := by
      rcases Nat.lt_or_ge (d1.to (k / d1.L) (k % d1.L)) (d1.seen k) with h | h
      · have h4 := (e3 _ h).symm.trans hstep
        have h5 : d1.to (k / d1.L) (k % d1.L) < d2.n := by omega
        rw [hL] at h4
        rw [hL] at h5 t2 ⊢
        exact r2 _ _ h5 t2 h4
      · rcases Nat.lt_or_ge (d2.to (k / d1.L) (k % d1.L)) (d1.seen k) with h' | h'
        · have h4 := hstep.trans (e3 _ h').symm
          exact r1 _ _ t1 (show d2.to (k / d1.L) (k % d1.L) < d1.n by omega) h4
        · omega
    refine ⟨?_, fun j hj => ?_, fun q hq => ?_⟩
    · unfold Da.seen
      rw [← hL, key, e1]
    · rcases Nat.lt_or_ge j k with h | h
      · exact e2 j h
      · obtain rfl : j = k := by omega
        exact key
    · unfold Da.seen at hq
      rcases Nat.lt_or_ge q (d1.seen k) with h | h
      · exact e3 q h
      · have : q = d1.to (k / d1.L) (k % d1.L) := by omega
        subst this
        rw [← key] at hstep
        exact hstep

theorem list_ext_getD {α : Type} {l m : List α} (z : α) (hl : l.length = m.length) (h : ∀ i, i < l.length → l.getD i z = m.getD i z) : l = m := by
  apply List.ext_getElem hl
  intro i h1 h2
  have := h i h1
  simpa [List.getD_eq_getElem?_getD, h1, h2] using this

theorem canon_n {d1 d2 : Da} (h1 : d1.Ok) (h2 : d2.Ok) (hL : d1.L = d2.L) (hL0 : 0 < d1.L) (c1 : d1.Canon) (c2 : d2.Canon) (r1 : d1.Reduced) (r2 : d2.Reduced) (he : Eqv d1.L d1.sy d1.s d2.sy d2.s) : d1.n ≤ d2.n := by
  rcases Nat.lt_or_ge d2.n d1.n with h | h
  · have hle : d2.n * d1.L ≤ d1.n * d1.L := Nat.mul_le_mul_right _ (Nat.le_of_lt h)
    obtain ⟨e1, _, _⟩ := canon_step h1 h2 hL c1 c2 r1 r2 he (d2.n * d1.L) hle (Nat.le_refl _)
    have h3 := c2.all
    rw [← hL] at h3
    have hlt : d2.n * d1.L < d1.n * d1.L := Nat.mul_lt_mul_of_pos_right h hL0
    have h4 := (c1.next (d2.n * d1.L) hlt).2
    rw [Nat.mul_div_cancel _ hL0] at h4
    omega
  · exact h
/-- canonical reduced automata of one language are equal -/
theorem canon_unique {d1 d2 : Da} (h1 : d1.Ok) (h2 : d2.Ok) (hL : d1.L = d2.L) (hL0 : 0 < d1.L) (c1 : d1.Canon) (c2 : d2.Canon) (r1 : d1.Reduced) (r2 : d2.Reduced) (he : Eqv d1.L d1.sy d1.s d2.sy d2.s) : d1 = d2 := by
  have hn : d1.n = d2.n := Nat.le_antisymm (canon_n h1 h2 hL hL0 c1 c2 r1 r2 he) (canon_n h2 h1 hL.symm (hL ▸ hL0) c2 c1 r2 r1 (hL ▸ he.symm))
  obtain ⟨e1, e2, e3⟩ := canon_step h1 h2 hL c1 c2 r1 r2 he (d1.n * d1.L) (Nat.le_refl _) (by rw [hn]; exact Nat.le_refl _)
  rw [c1.all] at e3
  have hfin : d1.fin = d2.fin := list_ext_getD false hn fun i hi => (e3 i hi).fin
  have hnx : d1.nx = d2.nx := by
    refine list_ext_getD [] (by rw [h1.len, h2.len]; exact hn) fun q hq => ?_
    rw [h1.len] at hq
    have hq2 : q < d2.fin.length := by have hn : d1.fin.length = d2.fin.length := hn; omega
    refine list_ext_getD 0 (by rw [h1.row q hq, h2.row q hq2, hL]) fun x hx => ?_
    rw [h1.row q hq] at hx
    have h5 := e2 (q * d1.L + x) (by
      have : (q + 1) * d1.L ≤ d1.n * d1.L := Nat.mul_le_mul_right _ hq
      rw [Nat.add_mul] at this
      omega)
    have h6 : (q * d1.L + x) / d1.L = q := by rw [Nat.mul_comm, Nat.mul_add_div hL0, Nat.div_eq_of_lt hx, Nat.add_zero]
    have h7 : (q * d1.L + x) % d1.L = x := by rw [Nat.mul_comm, Nat.mul_add_mod, Nat.mod_eq_of_lt hx]
    rw [h6, h7] at h5
    exact h5
  have hs : d1.s = d2.s := by rw [c1.st, c2.st]
  cases d1; cases d2
  simp only at hL hs hfin hnx
  subst hL; subst hs; subst hfin; subst hnx
  rfl
end Go.Am

namespace Go.Am

/-! exploration in breadth-first order -/
section
variable {α : Type} [DecidableEq α] (f : α → Nat → α) (L : Nat) (s : α)
def bfs : Nat → List α
  | 0 => [s]
  | k + 1 => if f ((bfs k).getD (k / L) s) (k % L) ∈ bfs k then bfs k else bfs k ++ [f ((bfs k).getD (k / L) s) (k % L)]
variable {f L s}
theorem bfs_pos (k : Nat) : 0 < (bfs f L s k).length := by
  induction k with
  | zero => exact Nat.zero_lt_one
  | succ k ih =>
    rw [bfs]; split
    · exact ih
    · rw [List.length_append]; omega
theorem bfs_succ (k : Nat) : ∃ t, bfs f L s (k + 1) = bfs f L s k ++ t ∧ t.length ≤ 1 := by
  rw [bfs]
  split
  · exact ⟨[], by simp, by simp⟩
  · exact ⟨_, rfl, by simp⟩
theorem bfs_pre (k j : Nat) : ∃ t, bfs f L s (k + j) = bfs f L s k ++ t := by
  induction j with
  | zero => exact ⟨[], by simp⟩
  | succ j ih =>
    obtain ⟨t, ht⟩ := ih
    obtain ⟨u, hu, _⟩ := bfs_succ (f := f) (L := L) (s := s) (k + j)
    exact ⟨t ++ u, by rw [← Nat.add_assoc, hu, ht, List.append_assoc]⟩
theorem bfs_le {k m : Nat} (h : k ≤ m) : (bfs f L s k).length ≤ (bfs f L s m).length := by
  obtain ⟨t, ht⟩ := bfs_pre (f := f) (L := L) (s := s) k (m - k)
  rw [show k + (m - k) = m by omega] at ht
  rw [ht, List.length_append]; omega
theorem bfs_get {k m i : Nat} (h : k ≤ m) (hi : i < (bfs f L s k).length) (z : α) : (bfs f L s m).getD i z = (bfs f L s k).getD i z := by
  obtain ⟨t, ht⟩ := bfs_pre (f := f) (L := L) (s := s) k (m - k)
  rw [show k + (m - k) = m by omega] at ht
  rw [ht, List.getD_eq_getElem?_getD, List.getD_eq_getElem?_getD, List.getElem?_append_left hi]
theorem bfs_nodup (k : Nat) : (bfs f L s k).Nodup := by
  induction k with
  | zero => simp [bfs]
  | succ k ih =>
    rw [bfs]
    split
    · exact ih
    · rename_i h
      rw [List.nodup_append]
      exact ⟨ih, by simp, fun a ha b hb => by rw [List.mem_singleton] at hb; subst hb; intro e; subst e; exact h ha⟩
theorem bfs_head (k : Nat) (z : α) : (bfs f L s k).getD 0 z = s := by
  rw [bfs_get (Nat.zero_le k) (by simp [bfs])]; rfl
/-- what step k meets is there from then on -/
theorem bfs_hit {k m : Nat} (h : k < m) (hk : k / L < (bfs f L s k).length) : f ((bfs f L s m).getD (k / L) s) (k % L) ∈ bfs f L s m := by
  rw [bfs_get (Nat.le_of_lt h) hk]
  have h1 : f ((bfs f L s k).getD (k / L) s) (k % L) ∈ bfs f L s (k + 1) := by
    rw [bfs]; split
    · assumption
    · simp
  obtain ⟨t, ht⟩ := bfs_pre (f := f) (L := L) (s := s) (k + 1) (m - (k + 1))
  rw [show k + 1 + (m - (k + 1)) = m by omega] at ht
  rw [ht]; exact List.mem_append_left _ h1
theorem bfs_all {p : α → Prop} (hs : p s) (hf : ∀ a x, p a → x < L → p (f a x)) (hL : 0 < L) (k : Nat) : ∀ a ∈ bfs f L s k, p a := by
  induction k with
  | zero => intro a ha; rw [bfs, List.mem_singleton] at ha; subst ha; exact hs
  | succ k ih =>
    have key : p (f ((bfs f L s k).getD (k / L) s) (k % L)) := by
      refine hf _ _ ?_ (Nat.mod_lt _ hL)
      rw [List.getD_eq_getElem?_getD]
      cases h : (bfs f L s k)[k / L]? with
      | none => exact hs
      | some a => exact ih a (List.mem_of_getElem? h)
    intro a ha
    rw [bfs] at ha
    split at ha
    · exact ih a ha
    · rcases List.mem_append.1 ha with h | h
      · exact ih a h
      · rw [List.mem_singleton] at h; subst h; exact key
variable (f L s) in
/-- the exploration has come to step K and goes on as long as there are states -/
def Going (K : Nat) : Prop := ∀ k, k < K → k / L < (bfs f L s k).length
theorem Going.zero : Going f L s 0 := fun _ h => by omega
theorem Going.succ {K : Nat} (h : Going f L s K) (hk : K / L < (bfs f L s K).length) : Going f L s (K + 1) := fun k hk' => by
  rcases Nat.lt_or_ge k K with h1 | h1
  · exact h k h1
  · obtain rfl : k = K := by omega
    exact hk
theorem Going.row {i x : Nat} (h : Going f L s (i * L)) (hi : i < (bfs f L s (i * L)).length) (hx : x ≤ L) : Going f L s (i * L + x) := fun k hk => by
  rcases Nat.lt_or_ge k (i * L) with h1 | h1
  · exact h k h1
  · have hL : 0 < L := by omega
    have h2 : k / L = i := by
      rw [Nat.div_eq_iff hL]
      have : i * L + L = (i + 1) * L := by rw [Nat.add_mul, Nat.one_mul]
      omega
    rw [h2]
    exact Nat.lt_of_lt_of_le hi (bfs_le h1)
variable (f L s) in
structure Done (K : Nat) : Prop where
  pos : 0 < L
  going : Going f L s K
  all : K = (bfs f L s K).length * L
section
variable {K : Nat}
theorem Done.closed (h : Done f L s K) {i x : Nat} (hi : i < (bfs f L s K).length) (hx : x < L) : f ((bfs f L s K).getD i s) x ∈ bfs f L s K := by
  have hk : i * L + x < K := by
    rw [h.all]
    have : (i + 1) * L ≤ (bfs f L s K).length * L := Nat.mul_le_mul_right _ hi
    rw [Nat.add_mul] at this; omega
  have e1 : (i * L + x) / L = i := by rw [Nat.mul_comm, Nat.mul_add_div h.pos, Nat.div_eq_of_lt hx, Nat.add_zero]
  have e2 : (i * L + x) % L = x := by rw [Nat.mul_comm, Nat.mul_add_mod, Nat.mod_eq_of_lt hx]
  have := bfs_hit hk (h.going _ hk)
  rwa [e1, e2] at this
variable (f L s K) in
/-- the automaton of what was met -/
def autoD (fin : α → Bool) : Da := ⟨L, 0, (bfs f L s K).map fin, (bfs f L s K).map fun a => (List.range L).map fun x => (bfs f L s K).idxOf (f a x)⟩
theorem autoD_to (fin : α → Bool) {i x : Nat} (hi : i < (bfs f L s K).length) (hx : x < L) : (autoD f L s K fin).to i x = (bfs f L s K).idxOf (f ((bfs f L s K).getD i s) x) := by
  unfold Da.to autoD
  simp only [List.getD_eq_getElem?_getD, List.getElem?_map, List.getElem?_eq_getElem hi, Option.map_some, Option.getD_some, List.getElem?_range hx]
theorem autoD_fi (fin : α → Bool) {i : Nat} (hi : i < (bfs f L s K).length) : (autoD f L s K fin).fi i = fin ((bfs f L s K).getD i s) := by
  unfold Da.fi autoD
  simp only [List.getD_eq_getElem?_getD, List.getElem?_map, List.getElem?_eq_getElem hi, Option.map_some, Option.getD_some]
theorem autoD_n (fin : α → Bool) : (autoD f L s K fin).n = (bfs f L s K).length := by simp [autoD, Da.n]
theorem getD_idxOf {l : List α} {a : α} (h : a ∈ l) (z : α) : l.getD (l.idxOf a) z = a := by
  have h1 := List.idxOf_lt_length_of_mem h
  rw [List.getD_eq_getElem?_getD, List.getElem?_eq_getElem h1, Option.getD_some]
  exact List.getElem_idxOf h1
theorem idxOf_getD {l : List α} (hd : l.Nodup) {i : Nat} (hi : i < l.length) (z : α) : l.idxOf (l.getD i z) = i := by
  rw [List.getD_eq_getElem?_getD, List.getElem?_eq_getElem hi, Option.getD_some]
  exact hd.idxOf_getElem _ hi
theorem idxOf_in {l m : List α} {a : α} (h : a ∈ l) : (l ++ m).idxOf a = l.idxOf a := by rw [List.idxOf_append, if_pos h]
theorem idxOf_out {l m : List α} {a : α} (h : a ∉ l) : (l ++ m).idxOf a = l.length + m.idxOf a := by rw [List.idxOf_append, if_neg h, Nat.add_comm]
theorem autoD_ok (h : Done f L s K) (fin : α → Bool) : (autoD f L s K fin).Ok := by
  refine ⟨by simp [autoD], by rw [← Da.n, autoD_n]; exact bfs_pos K, fun q hq => ?_, fun q x hq hx => ?_⟩
  · rw [← Da.n, autoD_n] at hq
    simp [autoD, List.getD_eq_getElem?_getD, hq]
  · rw [← Da.n, autoD_n] at hq ⊢
    have hx : x < L := hx
    rw [autoD_to fin hq hx]
    exact List.idxOf_lt_length_of_mem (h.closed hq hx)
theorem autoD_eqv (h : Done f L s K) (fin : α → Bool) {i : Nat} (hi : i < (bfs f L s K).length) : Eqv L (autoD f L s K fin).sy i (⟨f, fin⟩ : Sy α) ((bfs f L s K).getD i s) := by
  refine Eqv.of_hom (fun i a => i < (bfs f L s K).length ∧ a = (bfs f L s K).getD i s) (fun p a x ⟨hp, ha⟩ hx => ?_) (fun p a ⟨hp, ha⟩ => ?_) ⟨hi, rfl⟩
  · subst ha
    have h1 := h.closed hp hx
    have h2 : (autoD f L s K fin).sy.f p x = (bfs f L s K).idxOf (f ((bfs f L s K).getD p s) x) := autoD_to fin hp hx
    rw [h2]
    exact ⟨List.idxOf_lt_length_of_mem h1, (getD_idxOf h1 s).symm⟩
  · subst ha
    exact autoD_fi fin hp
theorem autoD_seen (h : Done f L s K) (fin : α → Bool) : ∀ k, k ≤ K → (autoD f L s K fin).seen k = (bfs f L s k).length := by
  intro k
  induction k with
  | zero => intro _; rfl
  | succ k ih =>
    intro hk
    have hg := h.going k hk
    have hx : k % L < L := Nat.mod_lt _ h.pos
    have hi : k / L < (bfs f L s K).length := Nat.lt_of_lt_of_le hg (bfs_le (by omega))
    have ih := ih (by omega)
    have hL : (autoD f L s K fin).L = L := rfl
    rw [Da.seen, ih, hL, autoD_to fin hi hx, bfs_get (by omega : k ≤ K) hg]
    have hnd := bfs_nodup (f := f) (L := L) (s := s) K
    obtain ⟨t, ht⟩ := bfs_pre (f := f) (L := L) (s := s) (k + 1) (K - (k + 1))
    rw [show k + 1 + (K - (k + 1)) = K by omega] at ht
    rw [bfs] at ht ⊢
    split
    · rename_i hm
      rw [if_pos hm] at ht
      rw [ht, idxOf_in hm]
      have := List.idxOf_lt_length_of_mem hm
      omega
    · rename_i hm
      rw [if_neg hm] at ht
      rw [ht, List.append_assoc, idxOf_out hm, List.singleton_append, List.idxOf_cons_self, List.length_append, List.length_singleton]
      omega
theorem autoD_canon (h : Done f L s K) (fin : α → Bool) : (autoD f L s K fin).Canon := by
  have hK : (autoD f L s K fin).n * (autoD f L s K fin).L = K := by
    rw [autoD_n]; exact h.all.symm
  refine ⟨rfl, fun k hk => ?_, ?_⟩
  · rw [hK] at hk
    have hg := h.going k hk
    rw [autoD_seen h fin k (by omega)]
    refine ⟨?_, hg⟩
    have h1 := autoD_seen h fin (k + 1) hk
    have h2 : (autoD f L s K fin).to (k / L) (k % L) + 1 ≤ (autoD f L s K fin).seen (k + 1) := by unfold Da.seen; exact Nat.le_max_right _ _
    have h3 : (bfs f L s (k + 1)).length ≤ (bfs f L s k).length + 1 := by
      obtain ⟨t, ht, hl⟩ := bfs_succ (f := f) (L := L) (s := s) k
      rw [ht, List.length_append]; omega
    have hL : (autoD f L s K fin).L = L := rfl
    rw [hL]
    omega
  · rw [hK, autoD_seen h fin K (Nat.le_refl _), autoD_n]
theorem autoD_reduced (h : Done f L s K) (fin : α → Bool) (hr : ∀ a b, a ∈ bfs f L s K → b ∈ bfs f L s K → Eqv L (⟨f, fin⟩ : Sy α) a (⟨f, fin⟩ : Sy α) b → a = b) : (autoD f L s K fin).Reduced := by
  intro p q hp hq he
  rw [autoD_n] at hp hq
  have e1 := (autoD_eqv h fin hp).symm.trans (he.trans (autoD_eqv h fin hq))
  have mem : ∀ i, i < (bfs f L s K).length → (bfs f L s K).getD i s ∈ bfs f L s K := fun i hi => by
    rw [List.getD_eq_getElem?_getD, List.getElem?_eq_getElem hi]; exact List.getElem_mem hi
  have e2 := hr _ _ (mem p hp) (mem q hq) e1
  rw [← idxOf_getD (bfs_nodup K) hp s, ← idxOf_getD (bfs_nodup K) hq s, e2]
end
end

/-- the minimal automaton of the words that lead from s to a final state -/
structure IsMin {α : Type} (L : Nat) (S : Sy α) (s : α) (m : Da) : Prop where
  ok : m.Ok
  letters : m.L = L
  pos : 0 < L
  canon : m.Canon
  red : m.Reduced
  eqv : Eqv L m.sy m.s S s
theorem IsMin.unique {α β : Type} {L : Nat} {S : Sy α} {s : α} {T : Sy β} {t : β} {m m' : Da} (h : IsMin L S s m) (h' : IsMin L T t m') (he : Eqv L S s T t) : m = m' := by
  refine canon_unique h.ok h'.ok (h.letters.trans h'.letters.symm) (h.letters ▸ h.pos) h.canon h'.canon h.red h'.red ?_
  rw [h.letters]
  exact (h.eqv.trans he).trans h'.eqv.symm
theorem IsMin.congr {α β : Type} {L : Nat} {S : Sy α} {s : α} {T : Sy β} {t : β} {m : Da} (h : IsMin L S s m) (he : Eqv L S s T t) : IsMin L T t m := ⟨h.ok, h.letters, h.pos, h.canon, h.red, h.eqv.trans he⟩
/-- a system with a Done exploration whose states differ has it as its minimal automaton -/
theorem IsMin.of_done {α : Type} [DecidableEq α] {f : α → Nat → α} {L : Nat} {s : α} {K : Nat} (h : Done f L s K) (fin : α → Bool) (hr : ∀ a b, a ∈ bfs f L s K → b ∈ bfs f L s K → Eqv L (⟨f, fin⟩ : Sy α) a (⟨f, fin⟩ : Sy α) b → a = b) : IsMin L (⟨f, fin⟩ : Sy α) s (autoD f L s K fin) := by
  refine ⟨autoD_ok h fin, rfl, h.pos, autoD_canon h fin, autoD_reduced h fin hr, ?_⟩
  have := autoD_eqv h fin (bfs_pos K)
  rwa [bfs_head] at this

/-! the reachable part of an automaton -/
theorem bfs_lt {d : Da} (h : d.Ok) (hL : 0 < d.L) (k : Nat) : ∀ q ∈ bfs d.to d.L d.s k, q < d.n := bfs_all (p := fun q => q < d.n) h.st (fun a x ha hx => h.lt a x ha hx) hL k
theorem nodup_lt_len {l : List Nat} (hd : l.Nodup) {n : Nat} (h : ∀ q ∈ l, q < n) : l.length ≤ n := by
  have : l.length ≤ (List.range n).length := hd.length_le_of_subset fun q hq => List.mem_range.2 (h q hq)
  simpa using this
theorem bfs_len {d : Da} (h : d.Ok) (hL : 0 < d.L) (k : Nat) : (bfs d.to d.L d.s k).length ≤ d.n := nodup_lt_len (bfs_nodup k) (bfs_lt h hL k)
end Go.Am

namespace Go.Am

/-! labels in the order of their first places -/
def topL (l : List Nat) : Nat := l.foldl (fun m x => max m (x + 1)) 0
theorem topL_snoc (l : List Nat) (x : Nat) : topL (l ++ [x]) = max (topL l) (x + 1) := by simp [topL]
theorem take_snoc {α : Type} (l : List α) (z : α) {q : Nat} (hq : q < l.length) : l.take (q + 1) = l.take q ++ [l.getD q z] := by
  rw [List.take_add_one, List.getElem?_eq_getElem hq, List.getD_eq_getElem?_getD, List.getElem?_eq_getElem hq]; rfl
theorem topL_take (c : List Nat) {q : Nat} (hq : q < c.length) : topL (c.take (q + 1)) = max (topL (c.take q)) (c.getD q 0 + 1) := by rw [take_snoc c 0 hq, topL_snoc]
theorem topL_mono (c : List Nat) {p q : Nat} (h : p ≤ q) (hq : q ≤ c.length) : topL (c.take p) ≤ topL (c.take q) := by
  induction q with
  | zero => obtain rfl : p = 0 := by omega
            exact Nat.le_refl _
  | succ q ih =>
    rcases Nat.lt_or_ge p (q + 1) with h1 | h1
    · have := ih (by omega) (by omega)
      rw [topL_take c (by omega)]; omega
    · obtain rfl : p = q + 1 := by omega
      exact Nat.le_refl _
theorem topL_lt (c : List Nat) {p q : Nat} (h : p < q) (hq : q ≤ c.length) : c.getD p 0 < topL (c.take q) := by
  have h1 := topL_mono c (p := p + 1) (q := q) h hq
  rw [topL_take c (by omega)] at h1
  omega
theorem topL_all (c : List Nat) {p : Nat} (h : p < c.length) : c.getD p 0 < topL c := by
  have := topL_lt c h (Nat.le_refl _)
  rwa [List.take_length] at this
abbrev FO (c : List Nat) : Prop := ∀ q, q < c.length → c.getD q 0 ≤ topL (c.take q)
theorem fo_occurs {c : List Nat} (h : FO c) {q v : Nat} (hq : q ≤ c.length) (hv : v < topL (c.take q)) : ∃ p, p < q ∧ c.getD p 0 = v := by
  induction q with
  | zero => simp [topL] at hv
  | succ q ih =>
    rw [topL_take c (by omega)] at hv
    rcases Nat.lt_or_ge v (topL (c.take q)) with h1 | h1
    · obtain ⟨p, hp, he⟩ := ih (by omega) h1
      exact ⟨p, by omega, he⟩
    · have := h q (by omega)
      exact ⟨q, by omega, by omega⟩
theorem fo_top_le {c : List Nat} (h : FO c) {q : Nat} (hq : q ≤ c.length) : topL (c.take q) ≤ q := by
  induction q with
  | zero => simp [topL]
  | succ q ih =>
    have h1 := ih (by omega)
    have h2 := h q (by omega)
    rw [topL_take c (by omega)]; omega
section
variable {c c' : List Nat} (hc : FO c) (hc' : FO c') (hl : c.length = c'.length) (hr : ∀ p q, p < c.length → q < c.length → c'.getD p 0 = c'.getD q 0 → c.getD p 0 = c.getD q 0)
include hc' hl hr
theorem fo_new {q : Nat} (hq : q < c.length) (hn : c.getD q 0 = topL (c.take q)) : c'.getD q 0 = topL (c'.take q) := by
  have h1 := hc' q (by omega)
  rcases Nat.lt_or_ge (c'.getD q 0) (topL (c'.take q)) with h2 | h2
  · obtain ⟨p, hp, he⟩ := fo_occurs hc' (q := q) (by omega) h2
    have h3 := hr p q (by omega) hq he
    have h4 := topL_lt c hp (Nat.le_of_lt hq)
    omega
  · omega
include hc
theorem fo_diff {p q : Nat} (h : p ≤ q) (hq : q ≤ c.length) : topL (c.take q) + topL (c'.take p) ≤ topL (c'.take q) + topL (c.take p) := by
  induction q with
  | zero => obtain rfl : p = 0 := by omega
            omega
  | succ q ih =>
    rcases Nat.lt_or_ge p (q + 1) with h1 | h1
    · have ih := ih (by omega) (by omega)
      rw [topL_take c (by omega), topL_take c' (by omega)]
      have h2 := hc q (by omega)
      rcases Nat.lt_or_ge (c.getD q 0) (topL (c.take q)) with h3 | h3
      · omega
      · have := fo_new hc' hl hr (q := q) (by omega) (by omega)
        omega
    · obtain rfl : p = q + 1 := by omega
      omega
theorem fo_le : topL c ≤ topL c' := by
  have := fo_diff hc hc' hl hr (Nat.zero_le c.length) (Nat.le_refl _)
  rw [List.take_length, hl, List.take_length] at this
  simp [topL] at this ⊢
  omega
/-- a refinement with as many labels is no other -/
theorem fo_same (ht : topL c' ≤ topL c) : c' = c := by
  have heq : ∀ q, q ≤ c.length → topL (c.take q) = topL (c'.take q) := fun q hq => by
    have h1 := fo_diff hc hc' hl hr (Nat.zero_le q) hq
    have h2 := fo_diff hc hc' hl hr hq (Nat.le_refl _)
    rw [List.take_length, show c'.take c.length = c' by rw [hl, List.take_length]] at h2
    have h0 : topL (c.take 0) = topL (c'.take 0) := rfl
    omega
  refine list_ext_getD 0 hl.symm fun q hq => ?_
  rw [← hl] at hq
  induction q using Nat.strongRecOn with
  | _ q ih =>
    have h1 := heq q (by omega)
    have h2 := heq (q + 1) (by omega)
    rw [topL_take c (by omega), topL_take c' (by omega)] at h2
    have h3 := hc q (by omega)
    have h4 := hc' q (by omega)
    rcases Nat.lt_or_ge (c'.getD q 0) (topL (c'.take q)) with h5 | h5
    · obtain ⟨p, hp, he⟩ := fo_occurs hc' (q := q) (by omega) h5
      rw [← he, ih p hp (by omega)]
      exact hr p q (by omega) hq he
    · omega
end

/-! labels of keys -/
section
variable {κ : Type} [DecidableEq κ]
def ded (ks : List κ) : List κ := ks.foldl (fun a k => if k ∈ a then a else a ++ [k]) []
theorem ded_snoc (ks : List κ) (k : κ) : ded (ks ++ [k]) = if k ∈ ded ks then ded ks else ded ks ++ [k] := by unfold ded; rw [List.foldl_append]; rfl
omit [DecidableEq κ] in
theorem snoc_ind {p : List κ → Prop} (h0 : p []) (hs : ∀ l x, p l → p (l ++ [x])) (l : List κ) : p l := by
  have : ∀ n (l : List κ), l.length = n → p l := by
    intro n
    induction n with
    | zero => intro l hl; rw [List.length_eq_zero_iff.1 hl]; exact h0
    | succ n ih =>
      intro l hl
      have hne : l ≠ [] := by intro e; subst e; simp at hl
      have := List.dropLast_concat_getLast hne
      rw [← this]
      exact hs _ _ (ih _ (by simp; omega))
  exact this _ l rfl
theorem mem_ded {ks : List κ} {k : κ} : k ∈ ded ks ↔ k ∈ ks := by
  induction ks using snoc_ind with
  | h0 => simp [ded]
  | hs l x ih =>
    rw [ded_snoc]
    split
    · rename_i h
      rw [ih, List.mem_append, List.mem_singleton]
      exact ⟨.inl, fun h' => h'.elim id (fun e => e ▸ ih.1 (e ▸ h))⟩
    · rw [List.mem_append, List.mem_append, ih]
def lab (ks : List κ) : List Nat := ks.map fun k => (ded ks).idxOf k
theorem lab_len (ks : List κ) : (lab ks).length = ks.length := by simp [lab]
theorem idx_keep {ks : List κ} {k x : κ} (h : k ∈ ded ks) : (ded (ks ++ [x])).idxOf k = (ded ks).idxOf k := by
  rw [ded_snoc]
  split
  · rfl
  · rw [idxOf_in h]
theorem lab_snoc (ks : List κ) (k : κ) : lab (ks ++ [k]) = lab ks ++ [(ded (ks ++ [k])).idxOf k] := by
  unfold lab
  rw [List.map_append]
  congr 1
  exact List.map_congr_left fun a ha => idx_keep (mem_ded.2 ha)
theorem idx_new {ks : List κ} {k : κ} (h : k ∉ ded ks) : (ded (ks ++ [k])).idxOf k = (ded ks).length := by
  rw [ded_snoc, if_neg h, idxOf_out h, List.idxOf_cons_self, Nat.add_zero]
theorem lab_top (ks : List κ) : topL (lab ks) = (ded ks).length := by
  induction ks using snoc_ind with
  | h0 => rfl
  | hs l x ih =>
    rw [lab_snoc, topL_snoc, ih]
    by_cases h : x ∈ ded l
    · rw [idx_keep h, ded_snoc, if_pos h]
      have := List.idxOf_lt_length_of_mem h
      omega
    · rw [idx_new h, ded_snoc, if_neg h, List.length_append, List.length_singleton]; omega
theorem lab_fo (ks : List κ) : FO (lab ks) := by
  induction ks using snoc_ind with
  | h0 => intro q hq; simp [lab] at hq
  | hs l x ih =>
    intro q hq
    rw [lab_len, List.length_append, List.length_singleton] at hq
    rw [lab_snoc]
    rcases Nat.lt_or_ge q l.length with h | h
    · rw [List.getD_eq_getElem?_getD, List.getElem?_append_left (by rw [lab_len]; exact h), ← List.getD_eq_getElem?_getD, List.take_append_of_le_length (by rw [lab_len]; omega)]
      exact ih q (by rw [lab_len]; exact h)
    · obtain rfl : q = l.length := by omega
      rw [List.getD_eq_getElem?_getD, List.getElem?_append_right (by rw [lab_len]; exact Nat.le_refl _), lab_len, Nat.sub_self, List.take_append_of_le_length (by rw [lab_len]; exact Nat.le_refl _), List.take_of_length_le (by rw [lab_len]; exact Nat.le_refl _), lab_top]
      by_cases h2 : x ∈ ded l
      · have := List.idxOf_lt_length_of_mem h2
        simp [idx_keep h2]; omega
      · simp [idx_new h2]
theorem lab_iff (ks : List κ) (z : κ) {p q : Nat} (hp : p < ks.length) (hq : q < ks.length) : (lab ks).getD p 0 = (lab ks).getD q 0 ↔ ks.getD p z = ks.getD q z := by
  have hg : ∀ i, i < ks.length → (lab ks).getD i 0 = (ded ks).idxOf (ks.getD i z) := fun i hi => by
    unfold lab
    simp only [List.getD_eq_getElem?_getD, List.getElem?_map, List.getElem?_eq_getElem hi, Option.map_some, Option.getD_some]
  have hm : ∀ i, i < ks.length → ks.getD i z ∈ ded ks := fun i hi => by
    rw [List.getD_eq_getElem?_getD, List.getElem?_eq_getElem hi, Option.getD_some, mem_ded]; exact List.getElem_mem hi
  rw [hg p hp, hg q hq]
  refine ⟨fun h => ?_, fun h => by rw [h]⟩
  have := getD_idxOf (hm p hp) z
  rw [h, getD_idxOf (hm q hq) z] at this
  exact this.symm
end

/-! partitions of the states -/
section
variable {d : Da} {c c' : List Nat}
/-- coarser than equivalence, and finer than being final -/
structure Coarse (d : Da) (c : List Nat) : Prop where
  len : c.length = d.n
  fo : FO c
  co : ∀ p q, p < d.n → q < d.n → Eqv d.L d.sy p d.sy q → c.getD p 0 = c.getD q 0
  fi : ∀ p q, p < d.n → q < d.n → c.getD p 0 = c.getD q 0 → d.fi p = d.fi q
structure Cls (d : Da) (c : List Nat) : Prop where
  len : c.length = d.n
  fo : FO c
  iff : ∀ p q, p < d.n → q < d.n → (c.getD p 0 = c.getD q 0 ↔ Eqv d.L d.sy p d.sy q)
theorem Coarse.cls (hd : d.Ok) (h : Coarse d c) (hs : ∀ p q, p < d.n → q < d.n → c.getD p 0 = c.getD q 0 → ∀ x, x < d.L → c.getD (d.to p x) 0 = c.getD (d.to q x) 0) : Cls d c := by
  refine ⟨h.len, h.fo, fun p q hp hq => ⟨fun he => ?_, h.co p q hp hq⟩⟩
  exact Eqv.of_hom (fun p q => p < d.n ∧ q < d.n ∧ c.getD p 0 = c.getD q 0) (fun p q x ⟨hp, hq, he⟩ hx => ⟨hd.lt p x hp hx, hd.lt q x hq hx, hs p q hp hq he x hx⟩) (fun p q ⟨hp, hq, he⟩ => h.fi p q hp hq he) ⟨hp, hq, he⟩
/-- split further by what equivalent states share -/
theorem Coarse.split {γ : Type} (h : Coarse d c) (g : Nat → γ) (hg : ∀ p q, p < d.n → q < d.n → Eqv d.L d.sy p d.sy q → g p = g q) (hl : c'.length = d.n) (hfo : FO c') (hi : ∀ p q, p < d.n → q < d.n → (c'.getD p 0 = c'.getD q 0 ↔ c.getD p 0 = c.getD q 0 ∧ g p = g q)) : Coarse d c' :=
  ⟨hl, hfo, fun p q hp hq he => (hi p q hp hq).2 ⟨h.co p q hp hq he, hg p q hp hq he⟩, fun p q hp hq he => h.fi p q hp hq ((hi p q hp hq).1 he).1⟩
theorem Coarse.step (hd : d.Ok) (h : Coarse d c) {x : Nat} (hx : x < d.L) : ∀ p q, p < d.n → q < d.n → Eqv d.L d.sy p d.sy q → c.getD (d.to p x) 0 = c.getD (d.to q x) 0 :=
  fun p q hp hq he => h.co _ _ (hd.lt p x hp hx) (hd.lt q x hq hx) (he.step hx)

/-! the quotient -/
def reps (c : List Nat) : Nat → List Nat
  | 0 => []
  | q + 1 => if c.getD q 0 < topL (c.take q) then reps c q else reps c q ++ [q]
theorem reps_len (h : FO c) {q : Nat} (hq : q ≤ c.length) : (reps c q).length = topL (c.take q) := by
  induction q with
  | zero => rfl
  | succ q ih =>
    have h1 := ih (by omega)
    have h2 := h q (by omega)
    rw [reps, topL_take c (by omega)]
    split
    · rw [h1]; omega
    · rw [List.length_append, h1, List.length_singleton]; omega
theorem reps_get (h : FO c) {q i : Nat} (hq : q ≤ c.length) (hi : i < topL (c.take q)) : (reps c q).getD i 0 < q ∧ c.getD ((reps c q).getD i 0) 0 = i := by
  induction q with
  | zero => simp [topL] at hi
  | succ q ih =>
    have h2 := h q (by omega)
    have hl := reps_len h (q := q) (by omega)
    rw [topL_take c (by omega)] at hi
    rw [reps]
    split
    · obtain ⟨h3, h4⟩ := ih (by omega) (by omega)
      exact ⟨by omega, h4⟩
    · rcases Nat.lt_or_ge i (topL (c.take q)) with h3 | h3
      · obtain ⟨h4, h5⟩ := ih (by omega) h3
        rw [List.getD_eq_getElem?_getD, List.getElem?_append_left (by omega), ← List.getD_eq_getElem?_getD]
        exact ⟨by omega, h5⟩
      · obtain rfl : i = (reps c q).length := by omega
        rw [List.getD_eq_getElem?_getD, List.getElem?_append_right (Nat.le_refl _), Nat.sub_self]
        refine ⟨Nat.lt_succ_self q, ?_⟩
        show c.getD q 0 = _
        omega
/-- the row of a state in the quotient -/
def qrow (d : Da) (c : List Nat) (q : Nat) : List Nat := (List.range d.L).map fun x => c.getD (d.to q x) 0
def quo (d : Da) (c : List Nat) (s : Nat) : Da := ⟨d.L, s, (reps c d.n).map d.fi, (reps c d.n).map (qrow d c)⟩
section
variable (hd : d.Ok) (h : Cls d c)
include h
theorem quo_n (s : Nat) : (quo d c s).n = topL c := by
  simp only [quo, Da.n, List.length_map]
  rw [reps_len h.fo (Nat.le_of_eq h.len.symm), ← h.len, List.take_length]
theorem quo_rep {i : Nat} (hi : i < topL c) : (reps c d.n).getD i 0 < d.n ∧ c.getD ((reps c d.n).getD i 0) 0 = i :=
  reps_get h.fo (by rw [h.len]; exact Nat.le_refl _) (by rw [← h.len, List.take_length]; exact hi)
theorem quo_to {s i x : Nat} (hi : i < topL c) (hx : x < d.L) : (quo d c s).to i x = c.getD (d.to ((reps c d.n).getD i 0) x) 0 := by
  have h1 : i < (reps c d.n).length := by rw [reps_len h.fo (by rw [h.len]; exact Nat.le_refl _), ← h.len, List.take_length]; exact hi
  unfold Da.to quo qrow
  simp only [List.getD_eq_getElem?_getD, List.getElem?_map, List.getElem?_eq_getElem h1, Option.map_some, Option.getD_some, List.getElem?_range hx]
  rfl
theorem quo_fi {s i : Nat} (hi : i < topL c) : (quo d c s).fi i = d.fi ((reps c d.n).getD i 0) := by
  have h1 : i < (reps c d.n).length := by rw [reps_len h.fo (by rw [h.len]; exact Nat.le_refl _), ← h.len, List.take_length]; exact hi
  unfold Da.fi quo
  simp only [List.getD_eq_getElem?_getD, List.getElem?_map, List.getElem?_eq_getElem h1, Option.map_some, Option.getD_some]
  rfl
include hd
theorem quo_ok {s : Nat} (hs : s < topL c) : (quo d c s).Ok := by
  have hn := quo_n h s
  refine ⟨by simp [quo], by rw [← Da.n, hn]; exact hs, fun q hq => ?_, fun q x hq hx => ?_⟩
  · rw [← Da.n, hn] at hq
    have h1 : q < (reps c d.n).length := by rw [reps_len h.fo (by rw [h.len]; exact Nat.le_refl _), ← h.len, List.take_length]; exact hq
    unfold quo
    simp only [List.getD_eq_getElem?_getD, List.getElem?_map, List.getElem?_eq_getElem h1, Option.map_some, Option.getD_some, qrow, List.length_map, List.length_range]
  · rw [← Da.n, hn] at hq ⊢
    rw [quo_to h hq hx]
    have h2 := hd.lt _ x (quo_rep h hq).1 hx
    exact topL_all c (by rw [h.len]; exact h2)
theorem quo_eqv (s : Nat) {q : Nat} (hq : q < d.n) : Eqv d.L (quo d c s).sy (c.getD q 0) d.sy q := by
  have top : ∀ q, q < d.n → c.getD q 0 < topL c := fun q hq => topL_all c (by rw [h.len]; exact hq)
  have rep : ∀ q, q < d.n → Eqv d.L d.sy ((reps c d.n).getD (c.getD q 0) 0) d.sy q := fun q hq => by
    obtain ⟨h1, h2⟩ := quo_rep h (top q hq)
    exact (h.iff _ q h1 hq).1 h2
  refine Eqv.of_hom (fun i q => q < d.n ∧ i = c.getD q 0) (fun i q x ⟨hq, hi⟩ hx => ?_) (fun i q ⟨hq, hi⟩ => ?_) ⟨hq, rfl⟩
  · subst hi
    have e1 : (quo d c s).sy.f (c.getD q 0) x = c.getD (d.to ((reps c d.n).getD (c.getD q 0) 0) x) 0 := quo_to h (top q hq) hx
    rw [e1]
    have h1 := (quo_rep h (top q hq)).1
    exact ⟨hd.lt q x hq hx, (h.iff _ _ (hd.lt _ x h1 hx) (hd.lt q x hq hx)).2 ((rep q hq).step hx)⟩
  · subst hi
    have e1 : (quo d c s).sy.fin (c.getD q 0) = d.fi ((reps c d.n).getD (c.getD q 0) 0) := quo_fi h (top q hq)
    rw [e1]
    exact (rep q hq).fin
theorem quo_reduced (s : Nat) : (quo d c s).Reduced := by
  intro i j hi hj he
  rw [quo_n h] at hi hj
  obtain ⟨h1, h2⟩ := quo_rep h hi
  obtain ⟨h3, h4⟩ := quo_rep h hj
  have e1 := quo_eqv hd h s h1
  have e2 := quo_eqv hd h s h3
  rw [h2] at e1
  rw [h4] at e2
  have hL : (quo d c s).L = d.L := rfl
  rw [hL] at he
  rw [← h2, ← h4]
  exact (h.iff _ _ h1 h3).2 (e1.symm.trans (he.trans e2))
end
end
/-- exploring a reduced automaton gives the minimal one -/
theorem reduced_min {d : Da} (hd : d.Ok) (hr : d.Reduced) {K : Nat} (hK : Done d.to d.L d.s K) : IsMin d.L d.sy d.s (autoD d.to d.L d.s K d.fi) :=
  IsMin.of_done hK d.fi fun a b ha hb he => hr a b (bfs_lt hd hK.pos K a ha) (bfs_lt hd hK.pos K b hb) he
theorem quo_min {d : Da} {c : List Nat} (hd : d.Ok) (h : Cls d c) {s : Nat} (hs : s = c.getD d.s 0) {K : Nat} (hK : Done (quo d c s).to d.L s K) : IsMin d.L d.sy d.s (autoD (quo d c s).to d.L s K (quo d c s).fi) := by
  have hst : s < topL c := by rw [hs]; exact topL_all c (by rw [h.len]; exact hd.st)
  have := reduced_min (quo_ok hd h hst) (quo_reduced hd h s) (K := K) hK
  refine this.congr ?_
  have e := quo_eqv hd h s hd.st
  rw [← hs] at e
  exact e

/-! sizes -/
end Go.Am

namespace Go.Tl
open Go Go.Eng

/-! values of formulas -/
abbrev bo (b : Bool) : Value := .bool b
end Go.Tl

namespace Go.Am
open Go Go.Eng
open Go.Tl (bo mayL)

/-! automata in memory -/
structure Dv where
  L : Int
  s : Int
  fa : Option Addr
  fc : Nat
  fin : List Bool
  na : Option Addr
  nc : Nat
  rs : List Rw
abbrev dvc (D : Dv) : List Value := [.int .i64 D.L, .int .i64 D.s, .slice D.fa D.fin.length D.fc, .slice D.na D.rs.length D.nc]
abbrev dvv (D : Dv) : Value := .agg (dvc D).toArray
def dvm (D : Dv) (w : World) : Prop := Rd w D.fa (D.fin.map bo) ∧ Rd w D.na (D.rs.map rv) ∧ rws D.rs w
def dv0 : Dv := ⟨0, 0, none, 0, [], none, 0, []⟩
theorem dvm0 (w : World) : dvm dv0 w := ⟨Rd.nil _ _, Rd.nil _ _, rws_nil w⟩
def Dv.da (D : Dv) : Da := ⟨D.L.toNat, D.s.toNat, D.fin, D.rs.map fun r => r.xs.map Int.toNat⟩
def rowB (n : Nat) (L : Int) (r : Rw) : Bool := decide ((r.xs.length : Int) = L) && r.xs.all fun x => decide (0 ≤ x ∧ x < n)
/-- the error of an automaton -/
def dvE (D : Dv) : Int :=
  if mayL D.L = false then 1 else if 512 < D.fin.length then 3 else if D.rs.length ≠ D.fin.length ∨ D.s < 0 ∨ (D.fin.length : Int) ≤ D.s then 4 else if D.rs.all (rowB D.fin.length D.L) = false then 4 else 0
theorem dvE_may {D : Dv} (h : mayL D.L = false) : dvE D = 1 := by rw [dvE, if_pos h]
theorem dvE_long {D : Dv} (h : mayL D.L = true) (hl : 512 < D.fin.length) : dvE D = 3 := by rw [dvE, if_neg (by rw [h]; decide), if_pos hl]
theorem dvE_form {D : Dv} (h : mayL D.L = true) (hl : ¬ 512 < D.fin.length) (hf : D.rs.length ≠ D.fin.length ∨ D.s < 0 ∨ (D.fin.length : Int) ≤ D.s) : dvE D = 4 := by rw [dvE, if_neg (by rw [h]; decide), if_neg hl, if_pos hf]
theorem dvE_row {D : Dv} (h : mayL D.L = true) (hl : ¬ 512 < D.fin.length) {q : Nat} (hq : q < D.rs.length) (hr : rowB D.fin.length D.L (D.rs.getD q rw0) = false) : dvE D = 4 := by
  have hb : D.rs.all (rowB D.fin.length D.L) = false := by
    rw [List.all_eq_false]
    refine ⟨D.rs.getD q rw0, ?_, by rw [hr]; decide⟩
    rw [List.getD_eq_getElem?_getD, List.getElem?_eq_getElem hq, Option.getD_some]; exact List.getElem_mem hq
  rw [dvE, if_neg (by rw [h]; decide), if_neg hl]
  split <;> first | rfl | rw [if_pos hb]
theorem dvE_ok {D : Dv} (h : mayL D.L = true) (hl : ¬ 512 < D.fin.length) (hf : ¬ (D.rs.length ≠ D.fin.length ∨ D.s < 0 ∨ (D.fin.length : Int) ≤ D.s)) (hr : ∀ q, q < D.rs.length → rowB D.fin.length D.L (D.rs.getD q rw0) = true) : dvE D = 0 := by
  have hb : D.rs.all (rowB D.fin.length D.L) = true := by
    rw [List.all_eq_true]
    intro r hm
    obtain ⟨q, hq, rfl⟩ := List.mem_iff_getElem.1 hm
    have := hr q hq
    rwa [List.getD_eq_getElem?_getD, List.getElem?_eq_getElem hq, Option.getD_some] at this
  rw [dvE, if_neg (by rw [h]; decide), if_neg hl, if_neg hf, if_neg (by rw [hb]; decide)]
/-- a valid automaton -/
structure Dv.Ok (D : Dv) : Prop where
  may : 1 ≤ D.L ∧ D.L ≤ 6
  n : D.fin.length ≤ 30000
  len : D.rs.length = D.fin.length
  st : 0 ≤ D.s ∧ D.s < D.fin.length
  row : ∀ q, q < D.fin.length → ((D.rs.getD q rw0).xs.length : Int) = D.L ∧ ∀ x ∈ (D.rs.getD q rw0).xs, 0 ≤ x ∧ x < D.fin.length
theorem Dv.Ok.zero {D : Dv} (h : D.Ok) (h5 : D.fin.length ≤ 512) : dvE D = 0 := by
  refine dvE_ok (by rw [mayL, decide_eq_true_eq]; exact h.may) (by omega) (by have := h.len; have := h.st; omega) fun q hq => ?_
  obtain ⟨h1, h2⟩ := h.row q (by rw [← h.len]; exact hq)
  unfold rowB
  rw [Bool.and_eq_true, decide_eq_true_eq, List.all_eq_true]
  exact ⟨h1, fun x hx => by simpa using h2 x hx⟩
theorem getD_map_toNat (l : List Int) (i : Nat) : (l.map Int.toNat).getD i 0 = (l.getD i 0).toNat := by
  simp only [List.getD_eq_getElem?_getD, List.getElem?_map]
  cases l[i]? <;> rfl
theorem Dv.nx_getD (D : Dv) (q : Nat) : D.da.nx.getD q [] = ((D.rs.getD q rw0).xs.map Int.toNat) := by
  unfold Dv.da
  simp only [List.getD_eq_getElem?_getD, List.getElem?_map]
  cases D.rs[q]? <;> rfl
theorem Dv.to_eq (D : Dv) (q x : Nat) : D.da.to q x = ((D.rs.getD q rw0).xs.getD x 0).toNat := by
  unfold Da.to
  rw [Dv.nx_getD, getD_map_toNat]
section
variable {D : Dv} (h : D.Ok)
include h
theorem Dv.Ok.mem {q x : Nat} (hq : q < D.fin.length) (hx : (x : Int) < D.L) : 0 ≤ (D.rs.getD q rw0).xs.getD x 0 ∧ (D.rs.getD q rw0).xs.getD x 0 < D.fin.length := by
  obtain ⟨h1, h2⟩ := h.row q hq
  have hx : x < (D.rs.getD q rw0).xs.length := by omega
  refine h2 _ ?_
  rw [List.getD_eq_getElem?_getD (l := (D.rs.getD q rw0).xs), List.getElem?_eq_getElem hx, Option.getD_some]
  exact List.getElem_mem hx
theorem Dv.Ok.to {q x : Nat} (hq : q < D.fin.length) (hx : (x : Int) < D.L) : (D.rs.getD q rw0).xs.getD x 0 = ((D.da.to q x : Nat) : Int) := by
  have := h.mem hq hx
  rw [Dv.to_eq]; omega
theorem Dv.Ok.s_eq : D.s = ((D.da.s : Nat) : Int) := by have := h.st; show D.s = (D.s.toNat : Int); omega
theorem Dv.Ok.L_eq : D.L = ((D.da.L : Nat) : Int) := by have := h.may; show D.L = (D.L.toNat : Int); omega
theorem Dv.Ok.daOk : D.da.Ok := by
  refine ⟨by simp [Dv.da, h.len], by have := h.st; show D.s.toNat < D.fin.length; omega, fun q hq => ?_, fun q x hq hx => ?_⟩
  · rw [Dv.nx_getD, List.length_map]
    have := (h.row q hq).1
    show _ = D.L.toNat
    omega
  · have hx : (x : Int) < D.L := by have : x < D.L.toNat := hx; omega
    have := h.mem hq hx
    rw [Dv.to_eq]
    show _ < D.fin.length
    omega
theorem Dv.Ok.pos : 0 < D.da.L := by have := h.may; show 0 < D.L.toNat; omega
end
/-- the automaton in memory is this -/
structure Dv.Is (D : Dv) (d : Da) : Prop where
  L : D.L = (d.L : Int)
  s : D.s = (d.s : Int)
  fin : D.fin = d.fin
  rs : D.rs.map (·.xs) = d.nx.map fun l => l.map fun n : Nat => (n : Int)
theorem map_toNat_cast (l : List Nat) : (l.map fun n : Nat => (n : Int)).map Int.toNat = l := by
  rw [List.map_map]
  have : (Int.toNat ∘ fun n : Nat => (n : Int)) = id := by funext n; simp
  rw [this, List.map_id]
theorem Dv.Is.da {D : Dv} {d : Da} (h : D.Is d) : D.da = d := by
  have e : D.rs.map (fun r => r.xs.map Int.toNat) = d.nx := by
    have h1 := congrArg (List.map (List.map Int.toNat)) h.rs
    rw [List.map_map, List.map_map] at h1
    have e2 : (List.map Int.toNat ∘ fun l : List Nat => l.map fun n : Nat => (n : Int)) = id := by funext l; exact map_toNat_cast l
    rw [e2, List.map_id] at h1
    exact h1
  unfold Dv.da
  rw [h.L, h.s, h.fin, e]
  cases d
  simp
theorem Dv.Is.ok {D : Dv} {d : Da} (h : D.Is d) (hd : d.Ok) (hL : 1 ≤ d.L ∧ d.L ≤ 6) (hn : d.n ≤ 30000) : D.Ok := by
  have hlen : D.rs.length = d.nx.length := by have := congrArg List.length h.rs; simpa using this
  refine ⟨by rw [h.L]; omega, by rw [h.fin]; exact hn, by rw [hlen, h.fin, hd.len], by rw [h.s, h.fin]; have := hd.st; omega, fun q hq => ?_⟩
  rw [h.fin] at hq
  have hr : (D.rs.getD q rw0).xs = (d.nx.getD q []).map fun n : Nat => (n : Int) := by
    have h1 := congrArg (fun l => l.getD q []) h.rs
    simp only [List.getD_eq_getElem?_getD, List.getElem?_map] at h1 ⊢
    have hq1 : q < D.rs.length := by rw [hlen, hd.len]; exact hq
    have hq2 : q < d.nx.length := by rw [hd.len]; exact hq
    rw [List.getElem?_eq_getElem hq1, List.getElem?_eq_getElem hq2] at h1 ⊢
    exact h1
  rw [hr, List.length_map, hd.row q hq, h.L, h.fin]
  refine ⟨rfl, fun x hx => ?_⟩
  obtain ⟨n, hn, rfl⟩ := List.mem_map.1 hx
  obtain ⟨i, hi, rfl⟩ := List.mem_iff_getElem.1 hn
  have := hd.lt q i hq (by rw [← hd.row q hq]; exact hi)
  unfold Da.to at this
  rw [List.getD_eq_getElem?_getD (l := d.nx.getD q []), List.getElem?_eq_getElem hi, Option.getD_some] at this
  omega
theorem Dv.Ok.is {D : Dv} (h : D.Ok) : D.Is D.da := by
  refine ⟨h.L_eq, h.s_eq, rfl, ?_⟩
  unfold Dv.da
  rw [List.map_map]
  refine List.map_congr_left fun r hr => ?_
  obtain ⟨q, hq, rfl⟩ := List.mem_iff_getElem.1 hr
  have h1 := (h.row q (by rw [← h.len]; exact hq)).2
  rw [List.getD_eq_getElem?_getD, List.getElem?_eq_getElem hq, Option.getD_some] at h1
  show _ = ((D.rs[q].xs.map Int.toNat).map fun n : Nat => (n : Int))
  rw [List.map_map]
  conv => lhs; rw [← List.map_id D.rs[q].xs]
  refine List.map_congr_left fun x hx => ?_
  have := h1 x hx
  show x = ((x.toNat : Nat) : Int)
  omega
end Go.Am
namespace Go.Am
open Go Go.Eng
theorem getDm {α : Type} {l : List α} {i : Nat} {d : α} (h : i < l.length) : l.getD i d ∈ l := by
  rw [List.getD_eq_getElem?_getD, List.getElem?_eq_getElem h, Option.getD_some]; exact List.getElem_mem h
end Go.Am

namespace Go.Tl
open Go Go.Eng

/-! the part that a formula needs -/
def rn (x : Tm) (num : List Nat) : Tm := ⟨x.op, x.lt, if fa x.op then ((num.getD x.a.toNat 0 : Nat) : Int) else x.a, if fb x.op then ((num.getD x.b.toNat 0 : Nat) : Int) else x.b⟩
end Go.Tl

namespace Go.Tl
open Go Go.Eng

structure Num (xs : List Tm) (R : List Bool) (num : List Nat) (sh : List Tm) (i : Nat) : Prop where
  lt : ∀ j, j < i → R.getD j false = true → num.getD j 0 < sh.length
  at_ : ∀ j, j < i → R.getD j false = true → sh.getD (num.getD j 0) t0 = rn (xs.getD j t0) num
  mono : ∀ a j, a < j → j < i → R.getD a false = true → R.getD j false = true → num.getD a 0 < num.getD j 0
  sur : ∀ q, q < sh.length → ∃ j, j < i ∧ R.getD j false = true ∧ num.getD j 0 = q

end Go.Tl

namespace Go.Am
open Go Go.Eng
open Go.Tl (bo mayL Wd okW okB)

/-! rows of an automaton that is being explored -/
theorem MapKey.nat {P : Program} {k : TypeId} (hk : P.underlying k = some (.int .i64)) : MapKey P k zn :=
  MapKey.now hk (fun x y => by
    simp only [Instr.sameNow, if_true, Option.some.injEq]
    rw [Bool.eq_iff_iff]; simp; omega) (fun b x w => MapKept.run_checkKey hk (by trivial) b 9999)
section
variable {α : Type} [DecidableEq α]
def addN (l : List α) (x : α) : List α × Nat := if x ∈ l then (l, l.idxOf x) else (l ++ [x], l.length)
theorem ixA_idx (l : List α) (x : α) (i : Nat) (h : x ∈ l) : ixA x i l = some (i + l.idxOf x) := by
  induction l generalizing i with
  | nil => cases h
  | cons y r ih =>
    rw [ixA, List.idxOf_cons]
    by_cases e : x = y
    · subst e; simp
    · rw [if_neg e, ih (i + 1) ((List.mem_cons.1 h).resolve_left e)]
      have : (y == x) = false := by simpa using fun h => e h.symm
      rw [this]
      simp only [cond_false, Option.some.injEq]; omega
theorem ixA_out (l : List α) (x : α) (i : Nat) (h : x ∉ l) : ixA x i l = none := by
  induction l generalizing i with
  | nil => rfl
  | cons y r ih =>
    rw [List.mem_cons, not_or] at h
    rw [ixA, if_neg h.1, ih (i + 1) h.2]
theorem addN_in {l : List α} {x : α} (h : x ∈ l) : addN l x = (l, l.idxOf x) := by rw [addN, if_pos h]
theorem addN_out {l : List α} {x : α} (h : x ∉ l) : addN l x = (l ++ [x], l.length) := by rw [addN, if_neg h]
theorem addN_idx (l : List α) (x : α) : (addN l x).2 = (addN l x).1.idxOf x := by
  unfold addN
  split
  · rfl
  · rename_i h; rw [idxOf_out h, List.idxOf_cons_self, Nat.add_zero]
theorem addN_pre (l : List α) (x : α) : ∃ t, (addN l x).1 = l ++ t := by
  unfold addN
  split
  · exact ⟨[], by simp⟩
  · exact ⟨[x], rfl⟩
theorem bfs_add {f : α → Nat → α} {L : Nat} {s : α} (k : Nat) : bfs f L s (k + 1) = (addN (bfs f L s k) (f ((bfs f L s k).getD (k / L) s) (k % L))).1 := by
  rw [bfs, addN]; split <;> rfl
theorem bfs_addx {f : α → Nat → α} {L i x : Nat} {s : α} (hx : x < L) (h : i < (bfs f L s (i * L)).length) : bfs f L s (i * L + x + 1) = (addN (bfs f L s (i * L + x)) (f ((bfs f L s (i * L)).getD i s) x)).1 := by
  have e1 : (i * L + x) / L = i := by rw [Nat.mul_comm, Nat.mul_add_div (by omega), Nat.div_eq_of_lt hx, Nat.add_zero]
  have e2 : (i * L + x) % L = x := by rw [Nat.mul_comm, Nat.mul_add_mod, Nat.mod_eq_of_lt hx]
  rw [bfs_add, e1, e2, bfs_get (show i * L ≤ i * L + x by omega) h]
variable (f : α → Nat → α) (L : Nat) (s : α)
/-- the row of a, as far as the first x letters -/
def rowP (l : List α) (a : α) (x : Nat) : List Int := (List.range L).map fun y => if y < x then ((l.idxOf (f a y) : Nat) : Int) else 0
structure XRows (l : List α) (i : Nat) (xss : List (List Int)) : Prop where
  len : xss.length = i
  row : ∀ q, q < i → xss.getD q [] = rowP f L l (l.getD q s) L
  mem : ∀ q, q < i → ∀ x, x < L → f (l.getD q s) x ∈ l
variable {f L s}
theorem rowP_len (l : List α) (a : α) (x : Nat) : (rowP f L l a x).length = L := by simp [rowP]
theorem rowP_zero (l : List α) (a : α) : rowP f L l a 0 = List.replicate L 0 := by
  refine List.ext_getElem (by simp [rowP]) fun i h1 h2 => ?_
  simp [rowP]
theorem rowP_put {l m : List α} {a : α} {x : Nat} (hp : ∃ t, m = l ++ t) (hm : ∀ y, y < x → f a y ∈ l) {v : Int} (hv : v = ((m.idxOf (f a x) : Nat) : Int)) : ((rowP f L l a x).map zz).set x (zz v) = (rowP f L m a (x + 1)).map zz := by
  obtain ⟨t, rfl⟩ := hp
  subst hv
  refine List.ext_getElem (by simp [rowP]) fun i h1 h2 => ?_
  rw [List.getElem_set]
  simp only [rowP, List.getElem_map, List.getElem_range]
  split
  · rename_i e; subst e; rw [if_pos (Nat.lt_succ_self x)]
  · rename_i e
    by_cases h : i < x
    · rw [if_pos h, if_pos (by omega), idxOf_in (hm i h)]
    · rw [if_neg h, if_neg (by omega)]
theorem XRows.start (l : List α) : XRows f L s l 0 [] := ⟨rfl, fun q hq => by omega, fun q hq => by omega⟩
theorem XRows.grow {l m : List α} {i : Nat} {xss : List (List Int)} (h : XRows f L s l i xss) (hi : i ≤ l.length) (hp : ∃ t, m = l ++ t) : XRows f L s m i xss := by
  obtain ⟨t, rfl⟩ := hp
  have hg : ∀ q, q < i → (l ++ t).getD q s = l.getD q s := fun q hq => by
    simp only [List.getD_eq_getElem?_getD]; rw [List.getElem?_append_left (by omega)]
  refine ⟨h.len, fun q hq => ?_, fun q hq x hx => ?_⟩
  · rw [h.row q hq, hg q hq]
    refine List.map_congr_left fun y hy => ?_
    rw [idxOf_in (h.mem q hq y (List.mem_range.1 hy))]
  · rw [hg q hq]; exact List.mem_append_left _ (h.mem q hq x hx)
theorem XRows.snoc {l : List α} {i : Nat} {xss : List (List Int)} (h : XRows f L s l i xss) (hm : ∀ x, x < L → f (l.getD i s) x ∈ l) : XRows f L s l (i + 1) (xss ++ [rowP f L l (l.getD i s) L]) := by
  refine ⟨by simp [h.len], fun q hq => ?_, fun q hq x hx => ?_⟩
  · rcases Nat.lt_or_ge q i with h1 | h1
    · rw [List.getD_eq_getElem?_getD, List.getElem?_append_left (by rw [h.len]; exact h1), ← List.getD_eq_getElem?_getD]
      exact h.row q h1
    · obtain rfl : q = i := by omega
      rw [List.getD_eq_getElem?_getD, List.getElem?_append_right (by rw [h.len]; exact Nat.le_refl _), h.len, Nat.sub_self]; rfl
  · rcases Nat.lt_or_ge q i with h1 | h1
    · exact h.mem q h1 x hx
    · obtain rfl : q = i := by omega
      exact hm x hx
theorem XRows.auto {K : Nat} {xss : List (List Int)} (h : XRows f L s (bfs f L s K) (bfs f L s K).length xss) (fin : α → Bool) : xss = (autoD f L s K fin).nx.map fun l => l.map fun n : Nat => (n : Int) := by
  refine list_ext_getD [] (by rw [h.len]; simp [autoD]) fun q hq => ?_
  rw [h.len] at hq
  rw [h.row q hq]
  simp only [autoD, List.getD_eq_getElem?_getD, List.getElem?_map, List.getElem?_eq_getElem hq, Option.map_some, Option.getD_some, List.map_map, rowP]
  show _ = (List.map _ (List.map _ _))
  rw [List.map_map]
  refine List.map_congr_left fun y hy => ?_
  rw [if_pos (List.mem_range.1 hy)]
  rfl
theorem Going.next {i : Nat} (h : Going f L s (i * L)) (hi : i < (bfs f L s (i * L)).length) : Going f L s ((i + 1) * L) := by
  have := h.row hi (Nat.le_refl L)
  rwa [Nat.add_mul, Nat.one_mul]
theorem Done.of {i : Nat} (hL : 0 < L) (h : Going f L s (i * L)) (hi : i = (bfs f L s (i * L)).length) : Done f L s (i * L) := ⟨hL, h, by rw [← hi]⟩
end
end Go.Am
namespace Go.Am
open Go Go.Eng
open Go.Tl (bo mayL Wd okW okB)
theorem Da.Ok.run_lt {d : Da} (h : d.Ok) {w : List Nat} (hw : InW d.L w) {q : Nat} (hq : q < d.n) : d.sy.run q w < d.n := by
  induction w generalizing q with
  | nil => exact hq
  | cons x w ih => exact ih hw.tail (h.lt q x hq hw.head)
end Go.Am
namespace Go.Am
open Go Go.Eng
open Go.Tl (bo mayL Wd okW okB)
section
variable {α : Type} [DecidableEq α] {f : α → Nat → α} {L i x : Nat} {s : α}
theorem bfs_row_mem (hx : x ≤ L) (h : i < (bfs f L s (i * L)).length) : ∀ y, y < x → f ((bfs f L s (i * L)).getD i s) y ∈ bfs f L s (i * L + x) := by
  intro y hy
  have hL : 0 < L := by omega
  have e1 : (i * L + y) / L = i := by rw [Nat.mul_comm, Nat.mul_add_div hL, Nat.div_eq_of_lt (by omega), Nat.add_zero]
  have e2 : (i * L + y) % L = y := by rw [Nat.mul_comm, Nat.mul_add_mod, Nat.mod_eq_of_lt (by omega)]
  have h2 : i < (bfs f L s (i * L + y)).length := Nat.lt_of_lt_of_le h (bfs_le (by omega))
  have := bfs_hit (f := f) (L := L) (s := s) (k := i * L + y) (m := i * L + x) (by omega) (by rw [e1]; exact h2)
  rw [e1, e2, bfs_get (show i * L ≤ i * L + x by omega) h] at this
  exact this
theorem bfs_succ_row : ∃ t, bfs f L s ((i + 1) * L) = bfs f L s (i * L) ++ t := by
  rw [Nat.add_mul, Nat.one_mul]; exact bfs_pre _ _
omit [DecidableEq α] in
theorem fl_next {β : Type} {l m : List α} {g : α → β} {fl : List β} (h : fl = (l.take i).map g) (hi : i < l.length) (hm : ∃ t, m = l ++ t) : fl ++ [g (l.getD i s)] = (m.take (i + 1)).map g := by
  obtain ⟨t, rfl⟩ := hm
  subst h
  rw [List.take_append_of_le_length hi, take_snoc l s hi, List.map_append]; rfl
end
end Go.Am
theorem Go.Am.XRows.auto' {α : Type} [DecidableEq α] {f : α → Nat → α} {L : Nat} {s : α} {K i : Nat} {xss : List (List Int)} (h : Go.Am.XRows f L s (Go.Am.bfs f L s K) i xss) (hi : i = (Go.Am.bfs f L s K).length) (fin : α → Bool) : xss = (Go.Am.autoD f L s K fin).nx.map fun l => l.map fun n : Nat => (n : Int) :=
  Go.Am.XRows.auto (by rw [hi] at h; exact h) fin

namespace Go.Sq
open Go Go.Eng Go.Am
open Go.Tl (Wd bo)
/-! sequential functions: plain, and in memory -/
/-- rows of things of one cell -/
structure Rx (α : Type) where
  a : Option Addr
  cp : Nat
  xs : List α
def rx0 {α : Type} : Rx α := ⟨none, 0, []⟩
abbrev rxv {α : Type} (r : Rx α) : Value := .slice r.a r.xs.length r.cp
def rxs {α : Type} (f : α → Value) (rs : List (Rx α)) (w : World) : Prop := ∀ r ∈ rs, Rd w r.a (r.xs.map f)
def oi : Option Nat → Int
  | none => -1
  | some n => n
abbrev zo (o : Option Nat) : Value := .int .i64 (oi o)

/-- a function as plain data -/
structure Sq where
  L : Nat
  s : Nat
  init : Wd
  en : List Bool
  fi : List Wd
  nx : List (List (Option Nat))
  ou : List (List Wd)
deriving DecidableEq
def Sq.to (d : Sq) (q x : Nat) : Option Nat := (d.nx.getD q []).getD x none
def Sq.o (d : Sq) (q x : Nat) : Wd := (d.ou.getD q []).getD x []
def Sq.e (d : Sq) (q : Nat) : Bool := d.en.getD q false
def Sq.f (d : Sq) (q : Nat) : Wd := d.fi.getD q []
abbrev Sq.n (d : Sq) : Nat := d.nx.length
/-- a text of at most M bytes a to z -/
def okT (M : Nat) (s : Wd) : Prop := s.length ≤ M ∧ ∀ b ∈ s, 97 ≤ b.toNat ∧ b.toNat ≤ 122
theorem okT.nil (M : Nat) : okT M [] := ⟨Nat.zero_le _, fun _ h => by cases h⟩
theorem okT.mono {M N : Nat} {s : Wd} (h : okT M s) (hl : M ≤ N) : okT N s := ⟨Nat.le_trans h.1 hl, h.2⟩
structure Sq.Ok (M : Nat) (d : Sq) : Prop where
  may : 1 ≤ d.L ∧ d.L ≤ 6
  n5 : d.n ≤ 512
  st : d.s < d.n
  len : d.ou.length = d.n ∧ d.en.length = d.n ∧ d.fi.length = d.n
  row : ∀ q, q < d.n → (d.nx.getD q []).length = d.L ∧ (d.ou.getD q []).length = d.L
  lt : ∀ q x r, q < d.n → x < d.L → d.to q x = some r → r < d.n
  no : ∀ q x, q < d.n → x < d.L → d.to q x = none → d.o q x = []
  nf : ∀ q, q < d.n → d.e q = false → d.f q = []
  ti : okT M d.init
  to' : ∀ q x, q < d.n → x < d.L → okT M (d.o q x)
  tf : ∀ q, q < d.n → okT M (d.f q)
theorem Sq.Ok.mono {M N : Nat} {d : Sq} (h : d.Ok M) (hl : M ≤ N) : d.Ok N :=
  ⟨h.may, h.n5, h.st, h.len, h.row, h.lt, h.no, h.nf, h.ti.mono hl, fun q x hq hx => (h.to' q x hq hx).mono hl, fun q hq => (h.tf q hq).mono hl⟩

/-- in memory -/
structure Sv where
  L : Nat
  s : Nat
  init : Wd
  na : Option Addr
  nc : Nat
  rs : List (Rx (Option Nat))
  oa : Option Addr
  oc : Nat
  os : List (Rx Wd)
  ea : Option Addr
  ec : Nat
  en : List Bool
  fa : Option Addr
  fc : Nat
  fi : List Wd
structure svm (S : Sv) (w : World) : Prop where
  n : Rd w S.na (S.rs.map rxv)
  r : rxs zo S.rs w
  o : Rd w S.oa (S.os.map rxv)
  u : rxs sv S.os w
  e : Rd w S.ea (S.en.map bo)
  f : Rd w S.fa (S.fi.map sv)
end Go.Sq

namespace Go.Ex
/-! expressions as trees -/
inductive Ex where
  | mk (op lt : Int) (ks : List Ex)
namespace Ex
def op : Ex → Int | .mk o _ _ => o
def lt : Ex → Int | .mk _ l _ => l
def ks : Ex → List Ex | .mk _ _ k => k
end Ex
def szE : Ex → Nat
  | .mk _ _ ks => 1 + szL ks
where szL : List Ex → Nat
  | [] => 0
  | k :: ks => szE k + szL ks
open szE (szL)
def dpE : Ex → Nat
  | .mk _ _ ks => 1 + dpL ks
where dpL : List Ex → Nat
  | [] => 0
  | k :: ks => max (dpE k) (dpL ks)
open dpE (dpL)
theorem szE_pos (e : Ex) : 0 < szE e := by cases e; rw [szE]; omega
theorem szL_mem {k : Ex} : ∀ {ks : List Ex}, k ∈ ks → szE k ≤ szL ks
  | [], h => by cases h
  | x :: ks, h => by
    rw [szL]
    rcases List.mem_cons.1 h with rfl | h
    · omega
    · have := szL_mem h; omega
/-- induction over trees -/
theorem Ex.ind {p : Ex → Prop} (h : ∀ o l ks, (∀ k ∈ ks, p k) → p (.mk o l ks)) (e : Ex) : p e := by
  have key : ∀ n e, szE e ≤ n → p e := by
    intro n
    induction n with
    | zero => intro e he; have := szE_pos e; omega
    | succ n ih =>
      intro e he
      cases e with
      | mk o l ks =>
        refine h o l ks fun k hk => ih k ?_
        have := szL_mem hk
        rw [szE] at he; omega
  exact key _ e (Nat.le_refl _)
theorem szL_app (a b : List Ex) : szL (a ++ b) = szL a + szL b := by
  induction a with
  | nil => simp [szL]
  | cons x a ih => rw [List.cons_append, szL, szL, ih]; omega
theorem dpL_le {n : Nat} : ∀ {ks : List Ex}, dpL ks ≤ n ↔ ∀ k ∈ ks, dpE k ≤ n
  | [] => ⟨fun _ _ h => (by cases h), fun _ => by rw [dpL]; omega⟩
  | x :: ks => by
    rw [dpL, List.forall_mem_cons, ← dpL_le (ks := ks)]
    omega
theorem dpL_mem {k : Ex} {ks : List Ex} (h : k ∈ ks) : dpE k ≤ dpL ks := dpL_le.1 (Nat.le_refl _) k h
/-! the order -/
def cmpI (a b : Int) : Int := if a < b then -1 else if b < a then 1 else 0
theorem cmpI_zero {a b : Int} : cmpI a b = 0 ↔ a = b := by unfold cmpI; split <;> (try split) <;> omega
theorem cmpI_anti (a b : Int) : cmpI b a = - cmpI a b := by unfold cmpI; split <;> split <;> omega
theorem cmpI_lt {a b : Int} : cmpI a b < 0 ↔ a < b := by unfold cmpI; split <;> (try split) <;> omega
def cmpE : Ex → Ex → Int
  | .mk o l ks, .mk o' l' ks' => if o ≠ o' then cmpI o o' else if l ≠ l' then cmpI l l' else cmpL ks ks'
where cmpL : List Ex → List Ex → Int
  | [], [] => 0
  | [], _ :: _ => -1
  | _ :: _, [] => 1
  | a :: s, b :: t => if cmpE a b ≠ 0 then cmpE a b else cmpL s t
open cmpE (cmpL)
theorem cmp_zero : ∀ e f, cmpE e f = 0 ↔ e = f := by
  refine Ex.ind fun o l ks ih f => ?_
  cases f with
  | mk o' l' ks' =>
    rw [cmpE, Ex.mk.injEq]
    by_cases h1 : o = o'
    · rw [if_neg (by simpa using h1)]
      by_cases h2 : l = l'
      · rw [if_neg (by simpa using h2)]
        have key : ∀ (s : List Ex) (t : List Ex), (∀ k ∈ s, ∀ f, cmpE k f = 0 ↔ k = f) → (cmpL s t = 0 ↔ s = t) := by
          intro s
          induction s with
          | nil =>
            intro t _
            cases t with
            | nil => simp [cmpL]
            | cons b t => simp [cmpL]
          | cons a s ih2 =>
            intro t hs
            cases t with
            | nil => simp [cmpL]
            | cons b t =>
              rw [cmpL, List.cons.injEq]
              have ha := hs a List.mem_cons_self b
              by_cases h3 : cmpE a b = 0
              · rw [if_neg (by simpa using h3), ih2 t (fun k hk => hs k (List.mem_cons_of_mem _ hk))]
                exact ⟨fun h => ⟨ha.1 h3, h⟩, fun h => h.2⟩
              · rw [if_pos h3]
                exact ⟨fun h => absurd h h3, fun h => absurd (ha.2 h.1) h3⟩
        rw [key ks ks' ih]
        exact ⟨fun h => ⟨h1, h2, h⟩, fun h => h.2.2⟩
      · rw [if_pos h2, cmpI_zero]
        exact ⟨fun h => absurd h h2, fun h => absurd h.2.1 h2⟩
    · rw [if_pos h1, cmpI_zero]
      exact ⟨fun h => absurd h h1, fun h => absurd h.1 h1⟩
theorem cmp_anti : ∀ e f, cmpE f e = - cmpE e f := by
  refine Ex.ind fun o l ks ih f => ?_
  cases f with
  | mk o' l' ks' =>
    rw [cmpE, cmpE]
    by_cases h1 : o = o'
    · subst h1
      rw [if_neg (c := o ≠ o) (by simp), if_neg (c := o ≠ o) (by simp)]
      by_cases h2 : l = l'
      · subst h2
        rw [if_neg (c := l ≠ l) (by simp), if_neg (c := l ≠ l) (by simp)]
        have key : ∀ (s : List Ex) (t : List Ex), (∀ k ∈ s, ∀ f, cmpE f k = - cmpE k f) → cmpL t s = - cmpL s t := by
          intro s
          induction s with
          | nil =>
            intro t _
            cases t with
            | nil => simp [cmpL]
            | cons b t => simp [cmpL]
          | cons a s ih2 =>
            intro t hs
            cases t with
            | nil => simp [cmpL]
            | cons b t =>
              rw [cmpL, cmpL, hs a List.mem_cons_self b, ih2 t (fun k hk => hs k (List.mem_cons_of_mem _ hk))]
              by_cases h3 : cmpE a b = 0
              · rw [if_neg (by simp [h3]), if_neg (by simpa using h3)]
              · rw [if_pos (by omega), if_pos h3]
        exact key ks ks' ih
      · rw [if_pos (c := l' ≠ l) (fun e => h2 e.symm), if_pos (c := l ≠ l') h2, cmpI_anti]
    · rw [if_pos (c := o' ≠ o) (fun e => h1 e.symm), if_pos (c := o ≠ o') h1, cmpI_anti]
theorem cmp_trans : ∀ e f g, cmpE e f < 0 → cmpE f g < 0 → cmpE e g < 0 := by
  refine Ex.ind fun o l ks ih f g => ?_
  cases f with
  | mk o' l' ks' =>
    cases g with
    | mk o'' l'' ks'' =>
      rw [cmpE, cmpE, cmpE]
      have key : ∀ (s : List Ex) (t u : List Ex), (∀ k ∈ s, ∀ f g, cmpE k f < 0 → cmpE f g < 0 → cmpE k g < 0) → cmpL s t < 0 → cmpL t u < 0 → cmpL s u < 0 := by
        intro s
        induction s with
        | nil =>
          intro t u _ h1 h2
          cases t with
          | nil => simp [cmpL] at h1
          | cons b t =>
            cases u with
            | nil => simp [cmpL] at h2
            | cons c u => simp [cmpL]
        | cons a s ih2 =>
          intro t u hs h1 h2
          cases t with
          | nil => simp [cmpL] at h1
          | cons b t =>
            cases u with
            | nil => simp [cmpL] at h2
            | cons c u =>
              rw [cmpL] at h1 h2 ⊢
              by_cases e1 : cmpE a b = 0
              · rw [if_neg (by simpa using e1)] at h1
                have := (cmp_zero a b).1 e1
                subst this
                by_cases e2 : cmpE a c = 0
                · rw [if_neg (by simpa using e2)] at h2 ⊢
                  exact ih2 t u (fun k hk => hs k (List.mem_cons_of_mem _ hk)) h1 h2
                · rw [if_pos e2] at h2 ⊢
                  exact h2
              · rw [if_pos e1] at h1
                by_cases e2 : cmpE b c = 0
                · have := (cmp_zero b c).1 e2
                  subst this
                  rw [if_pos e1]; exact h1
                · rw [if_pos e2] at h2
                  have := hs a List.mem_cons_self b c h1 h2
                  rw [if_pos (by omega)]; exact this
      by_cases h1 : o = o'
      · subst h1
        rw [if_neg (c := o ≠ o) (by simp)]
        by_cases h2 : o = o''
        · subst h2
          rw [if_neg (c := o ≠ o) (by simp), if_neg (c := o ≠ o) (by simp)]
          by_cases h3 : l = l'
          · subst h3
            rw [if_neg (c := l ≠ l) (by simp)]
            by_cases h4 : l = l''
            · subst h4
              rw [if_neg (c := l ≠ l) (by simp), if_neg (c := l ≠ l) (by simp)]
              exact key ks ks' ks'' ih
            · rw [if_pos h4, if_pos h4]; exact fun _ h => h
          · rw [if_pos h3]
            by_cases h4 : l' = l''
            · subst h4
              rw [if_neg (c := l' ≠ l') (by simp), if_pos h3]; exact fun h _ => h
            · rw [if_pos h4, cmpI_lt, cmpI_lt]
              intro a b
              rw [if_pos (by omega), cmpI_lt]; omega
        · rw [if_pos h2, if_pos h2]; exact fun _ h => h
      · rw [if_pos h1]
        by_cases h2 : o' = o''
        · subst h2
          rw [if_neg (c := o' ≠ o') (by simp), if_pos h1]; exact fun h _ => h
        · rw [if_pos h2, cmpI_lt, cmpI_lt]
          intro a b
          rw [if_pos (by omega), cmpI_lt]; omega
theorem cmp_tri (e f : Ex) : cmpE e f < 0 ∨ e = f ∨ cmpE f e < 0 := by
  have h1 := cmp_anti e f
  rcases Int.lt_trichotomy (cmpE e f) 0 with h | h | h
  · exact .inl h
  · exact .inr (.inl ((cmp_zero e f).1 h))
  · exact .inr (.inr (by omega))
theorem cmp_self (e : Ex) : cmpE e e = 0 := (cmp_zero e e).2 rfl
end Go.Ex

namespace Go.Ex
/-! normal forms and derivatives, as the program builds them -/
def emp : Ex := .mk 1 0 []
def unit : Ex := .mk 2 0 []
def uni : Ex := .mk 8 0 [emp]
def isOp (o : Int) (e : Ex) : Bool := decide (e.op = o)
def isUni (e : Ex) : Bool := decide (e.op = 8) && (match e.ks with
  | [k] => decide (k.op = 1)
  | _ => false)
def flat1 (o : Int) (k : Ex) : List Ex := if k.op = o then k.ks else [k]
def flat (o : Int) : List Ex → List Ex
  | [] => []
  | k :: ks => flat1 o k ++ flat o ks
def insE (x : Ex) : List Ex → List Ex
  | [] => [x]
  | y :: l => if cmpE y x < 0 then y :: insE x l else x :: y :: l
def srt : List Ex → List Ex
  | [] => []
  | x :: l => insE x (srt l)
def cmptA (a : Ex) : List Ex → List Ex
  | [] => [a]
  | b :: l => if cmpE b a = 0 then cmptA a l else a :: cmptA b l
def cmpt : List Ex → List Ex
  | [] => []
  | a :: l => cmptA a l
def coll (o : Int) (ps : List Ex) (no : Ex) : Ex := match ps with
  | [] => no
  | [x] => x
  | x :: y :: l => .mk o 0 (x :: y :: l)
def jCat (ks : List Ex) : Ex := if ks.any (isOp 1) then emp else coll 5 ((flat 5 ks).filter fun e => !isOp 2 e) unit
def jUni (ks : List Ex) : Ex := if ks.any isUni then uni else coll 4 (cmpt (srt ((flat 4 ks).filter fun e => !isOp 1 e))) emp
def jAnd (ks : List Ex) : Ex := if ks.any (isOp 1) then emp else coll 6 (cmpt (srt ((flat 6 ks).filter fun e => !isUni e))) uni
def jNot (k : Ex) : Ex := if k.op = 8 ∧ k.ks.length = 1 then k.ks.headD emp else .mk 8 0 [k]
def jStar (k : Ex) : Ex := if k.op = 1 ∨ k.op = 2 then unit else if k.op = 7 ∨ isUni k = true then k else .mk 7 0 [k]
def zeroE : Ex := .mk 0 0 []
def join (o : Int) (ks : List Ex) : Ex :=
  if o = 4 then jUni ks else if o = 5 then jCat ks else if o = 6 then jAnd ks else match ks with
    | [k] => if o = 8 then jNot k else if o = 7 then jStar k else zeroE
    | _ => zeroE
def simp : Ex → Ex
  | .mk o l ks => match ks with
    | [] => .mk o l []
    | k :: ks => join o (simp k :: simpL ks)
where simpL : List Ex → List Ex
  | [] => []
  | k :: ks => simp k :: simpL ks
open simp (simpL)
theorem simpL_map (ks : List Ex) : simpL ks = ks.map simp := by
  induction ks with
  | nil => simp [simpL]
  | cons k ks ih => rw [simpL, ih, List.map_cons]
theorem simp_nil (o l : Int) : simp (.mk o l []) = .mk o l [] := by rw [simp]
theorem simp_cons {o l : Int} {ks : List Ex} (h : ks ≠ []) : simp (.mk o l ks) = join o (ks.map simp) := by
  cases ks with
  | nil => exact absurd rfl h
  | cons k ks => rw [simp, simpL_map, List.map_cons]
/-- what a deriver finds -/
structure Dr where
  by' : Ex
  self : Ex
  nl : Bool
def cntN (l : List Dr) : Nat := (l.filter (·.nl)).length
def dBool (o : Int) (l : List Dr) : Dr :=
  ⟨join o (l.map (·.by')), join o (l.map (·.self)), if o = 4 then decide (0 < cntN l) else if o = 6 then decide (cntN l = l.length) else if o = 8 then decide (cntN l = 0) else false⟩
/-- the derivatives by the first kids, the forms of all of them, and whether all are nullable -/
def catP : List Ex → List Ex → List Ex
  | [], _ => []
  | b :: bs, ss => (if b.op = 1 then b else join 5 (b :: ss.tail)) :: catP bs ss.tail
def dv (nrm : Bool) (x : Int) : Ex → Dr
  | .mk o l ks =>
    if o = 2 then ⟨emp, unit, true⟩
    else if o = 3 then ⟨if l = x then unit else emp, .mk 3 l [], false⟩
    else if o = 4 ∨ o = 6 ∨ o = 8 then dBool o (dvL nrm x ks)
    else if o = 7 then match dvL nrm x ks with
      | k :: _ => ⟨join 5 [k.by', join 7 [k.self]], join 7 [k.self], true⟩
      | [] => ⟨emp, emp, false⟩
    else if o = 5 then let r := dvC nrm x ks; ⟨join 4 (catP r.1 r.2.1), join 5 r.2.1, r.2.2⟩
    else ⟨emp, emp, false⟩
where
  dvL (nrm : Bool) (x : Int) : List Ex → List Dr
    | [] => []
    | k :: ks => dv nrm x k :: dvL nrm x ks
  dvC (nrm : Bool) (x : Int) : List Ex → List Ex × List Ex × Bool
    | [] => ([], [], true)
    | k :: ks => let d := dv nrm x k; if d.nl then let r := dvC nrm x ks; (d.by' :: r.1, d.self :: r.2.1, r.2.2) else ([d.by'], d.self :: ks.map (fun k => if nrm then k else simp k), false)
open dv (dvL dvC)
theorem dvL_map (nrm : Bool) (x : Int) (ks : List Ex) : dvL nrm x ks = ks.map (dv nrm x) := by
  induction ks with
  | nil => simp [dvL]
  | cons k ks ih => rw [dvL, ih, List.map_cons]
/-- the empty word -/
def hasU : Ex → Bool
  | .mk o _ ks => if o = 2 ∨ o = 7 then true else if o = 4 then hasAny ks else if o = 5 ∨ o = 6 then hasAll ks else if o = 8 then decide (ks.length = 1) && !hasAny ks else false
where
  hasAny : List Ex → Bool
    | [] => false
    | k :: ks => hasU k || hasAny ks
  hasAll : List Ex → Bool
    | [] => true
    | k :: ks => hasU k && hasAll ks
open hasU (hasAny hasAll)
theorem hasAny_eq (ks : List Ex) : hasAny ks = ks.any hasU := by
  induction ks with
  | nil => simp [hasAny]
  | cons k ks ih => rw [hasAny, ih, List.any_cons]
theorem hasAll_eq (ks : List Ex) : hasAll ks = ks.all hasU := by
  induction ks with
  | nil => simp [hasAll]
  | cons k ks ih => rw [hasAll, ih, List.all_cons]
/-- form -/
def wf (L : Int) : Ex → Bool
  | .mk o l ks => if o = 3 then decide (ks.length = 0) && (decide (0 ≤ l) && decide (l < L)) else decide (l = 0) && ((if o = 1 ∨ o = 2 then decide (ks.length = 0) else if o = 4 ∨ o = 5 ∨ o = 6 then decide (2 ≤ ks.length) else if o = 7 ∨ o = 8 then decide (ks.length = 1) else false) && wfL L ks)
where wfL (L : Int) : List Ex → Bool
  | [] => true
  | k :: ks => wf L k && wfL L ks
open wf (wfL)
theorem wfL_all (L : Int) (ks : List Ex) : wfL L ks = ks.all (wf L) := by
  induction ks with
  | nil => simp [wfL]
  | cons k ks ih => rw [wfL, ih, List.all_cons]
def inLim (e : Ex) : Bool := decide (szE e ≤ 400 ∧ dpE e ≤ 40)
def vdE (L : Int) (e : Ex) : Int := if L < 1 ∨ 6 < L then 1 else if inLim e = false then 3 else if wf L e = false then 4 else 0
end Go.Ex

namespace Go.Ex
/-! languages of expressions -/
abbrev Lang := List Nat → Prop
def catL : List Lang → Lang
  | [] => fun w => w = []
  | P :: Ps => fun w => ∃ u v, w = u ++ v ∧ P u ∧ catL Ps v
def StarL (P : Lang) : Lang := fun w => ∃ ws : List (List Nat), (∀ u ∈ ws, P u) ∧ ws.flatten = w
def hdL : List Lang → Lang
  | [] => fun _ => False
  | P :: _ => P
def opL (o l : Int) (Ps : List Lang) : Lang := fun w =>
  if o = 2 then w = [] else if o = 3 then ∃ x : Nat, (x : Int) = l ∧ w = [x] else if o = 4 then ∃ P ∈ Ps, P w else if o = 5 then catL Ps w else if o = 6 then ∀ P ∈ Ps, P w else if o = 7 then StarL (hdL Ps) w else if o = 8 then ¬ hdL Ps w else False
def lang : Ex → Lang
  | .mk o l ks => opL o l (langs ks)
where langs : List Ex → List Lang
  | [] => []
  | k :: ks => lang k :: langs ks
open lang (langs)
theorem langs_map (ks : List Ex) : langs ks = ks.map lang := by
  induction ks with
  | nil => simp [langs]
  | cons k ks ih => rw [langs, ih, List.map_cons]
theorem lang_mk (o l : Int) (ks : List Ex) : lang (.mk o l ks) = opL o l (ks.map lang) := by rw [lang, langs_map]
theorem lang_eq (e : Ex) : lang e = opL e.op e.lt (e.ks.map lang) := by cases e; rw [lang_mk]; rfl
section
variable {o l : Int} {Ps : List Lang} {w : List Nat}
theorem opL1 : ¬ opL 1 l Ps w := by simp [opL]
theorem opL2 : opL 2 l Ps w ↔ w = [] := by simp [opL]
theorem opL3 : opL 3 l Ps w ↔ ∃ x : Nat, (x : Int) = l ∧ w = [x] := by simp [opL]
theorem opL4 : opL 4 l Ps w ↔ ∃ P ∈ Ps, P w := by simp [opL]
theorem opL5 : opL 5 l Ps w ↔ catL Ps w := by simp [opL]
theorem opL6 : opL 6 l Ps w ↔ ∀ P ∈ Ps, P w := by simp [opL]
theorem opL7 : opL 7 l Ps w ↔ StarL (hdL Ps) w := by simp [opL]
theorem opL8 : opL 8 l Ps w ↔ ¬ hdL Ps w := by simp [opL]
end
theorem lang1 {e : Ex} (h : e.op = 1) (w : List Nat) : ¬ lang e w := by rw [lang_eq, h]; exact opL1
theorem lang2 {e : Ex} (h : e.op = 2) (w : List Nat) : lang e w ↔ w = [] := by rw [lang_eq, h]; exact opL2
theorem lang4 {e : Ex} (h : e.op = 4) (w : List Nat) : lang e w ↔ ∃ k ∈ e.ks, lang k w := by
  rw [lang_eq, h, opL4]
  simp only [List.mem_map]
  exact ⟨fun ⟨P, ⟨k, hk, e⟩, hP⟩ => ⟨k, hk, e ▸ hP⟩, fun ⟨k, hk, hP⟩ => ⟨_, ⟨k, hk, rfl⟩, hP⟩⟩
theorem lang5 {e : Ex} (h : e.op = 5) (w : List Nat) : lang e w ↔ catL (e.ks.map lang) w := by rw [lang_eq, h]; exact opL5
theorem lang6 {e : Ex} (h : e.op = 6) (w : List Nat) : lang e w ↔ ∀ k ∈ e.ks, lang k w := by
  rw [lang_eq, h, opL6]
  simp only [List.mem_map]
  exact ⟨fun hh k hk => hh _ ⟨k, hk, rfl⟩, fun hh P ⟨k, hk, e⟩ => e ▸ hh k hk⟩
theorem emp_lang (w : List Nat) : ¬ lang emp w := lang1 rfl w
theorem unit_lang (w : List Nat) : lang unit w ↔ w = [] := lang2 rfl w
theorem uni_lang (w : List Nat) : lang uni w := by
  rw [uni, lang_mk, opL8]
  exact emp_lang w
theorem isOp_iff {o : Int} {e : Ex} : isOp o e = true ↔ e.op = o := by rw [isOp, decide_eq_true_eq]
theorem isUni_iff {e : Ex} : isUni e = true ↔ e.op = 8 ∧ ∃ k, e.ks = [k] ∧ k.op = 1 := by
  unfold isUni
  rw [Bool.and_eq_true, decide_eq_true_eq]
  cases h : e.ks with
  | nil => simp
  | cons k l =>
    cases l with
    | nil => simp
    | cons y l => simp
theorem isUni_lang {e : Ex} (h : isUni e = true) (w : List Nat) : lang e w := by
  obtain ⟨h1, k, h2, h3⟩ := isUni_iff.1 h
  rw [lang_eq, h1, h2, opL8]
  exact lang1 h3 w
/-! lists -/
theorem flat_mem {o : Int} {x : Ex} : ∀ {ks : List Ex}, x ∈ flat o ks ↔ ∃ k ∈ ks, x ∈ flat1 o k
  | [] => by simp [flat]
  | k :: ks => by
    rw [flat, List.mem_append, flat_mem]
    simp
theorem insE_mem {x y : Ex} {l : List Ex} : y ∈ insE x l ↔ y = x ∨ y ∈ l := by
  induction l with
  | nil => simp [insE]
  | cons z l ih =>
    rw [insE]
    split
    · rw [List.mem_cons, ih, List.mem_cons]; exact ⟨fun h => by rcases h with h | h | h <;> simp [h], fun h => by rcases h with h | h | h <;> simp [h]⟩
    · rw [List.mem_cons]
theorem srt_mem {y : Ex} {l : List Ex} : y ∈ srt l ↔ y ∈ l := by
  induction l with
  | nil => simp [srt]
  | cons x l ih => rw [srt, insE_mem, ih, List.mem_cons]
theorem cmptA_mem {y : Ex} : ∀ {l : List Ex} {a : Ex}, y ∈ cmptA a l ↔ y = a ∨ y ∈ l
  | [], a => by simp [cmptA]
  | b :: l, a => by
    rw [cmptA]
    split
    · rename_i h
      have := (cmp_zero b a).1 h
      subst this
      rw [cmptA_mem, List.mem_cons]
      exact ⟨fun h => by rcases h with h | h <;> simp [h], fun h => by rcases h with h | h | h <;> simp [h]⟩
    · rw [List.mem_cons, cmptA_mem, List.mem_cons]
theorem cmpt_mem {y : Ex} {l : List Ex} : y ∈ cmpt l ↔ y ∈ l := by
  cases l with
  | nil => simp [cmpt]
  | cons a l => rw [cmpt, cmptA_mem, List.mem_cons]
theorem ord_mem {y : Ex} {l : List Ex} : y ∈ cmpt (srt l) ↔ y ∈ l := by rw [cmpt_mem, srt_mem]
theorem coll_nil (o : Int) (no : Ex) : coll o [] no = no := rfl
theorem coll_one (o : Int) (x no : Ex) : coll o [x] no = x := rfl
theorem coll_two {o : Int} {ps : List Ex} (h : 2 ≤ ps.length) (no : Ex) : coll o ps no = .mk o 0 ps := by
  match ps, h with
  | _ :: _ :: _, _ => rfl
theorem len_cases (ps : List Ex) : ps = [] ∨ (∃ x, ps = [x]) ∨ 2 ≤ ps.length := by
  match ps with
  | [] => exact .inl rfl
  | [x] => exact .inr (.inl ⟨x, rfl⟩)
  | _ :: _ :: l => exact .inr (.inr (by simp))
/-! concatenation -/
theorem catL_app {Ps Qs : List Lang} {w : List Nat} : catL (Ps ++ Qs) w ↔ ∃ u v, w = u ++ v ∧ catL Ps u ∧ catL Qs v := by
  induction Ps generalizing w with
  | nil =>
    rw [List.nil_append]
    exact ⟨fun h => ⟨[], w, rfl, rfl, h⟩, fun ⟨u, v, h1, h2, h3⟩ => by rw [h1, show u = [] from h2]; exact h3⟩
  | cons P Ps ih =>
    rw [List.cons_append]
    constructor
    · rintro ⟨u, v, rfl, h1, h2⟩
      obtain ⟨a, b, rfl, h3, h4⟩ := ih.1 h2
      exact ⟨u ++ a, b, by rw [List.append_assoc], ⟨u, a, rfl, h1, h3⟩, h4⟩
    · rintro ⟨u, v, rfl, ⟨a, b, rfl, h1, h2⟩, h3⟩
      exact ⟨a, b ++ v, by rw [List.append_assoc], h1, ih.2 ⟨b, v, rfl, h2, h3⟩⟩
theorem catL_one {P : Lang} {w : List Nat} : catL [P] w ↔ P w :=
  ⟨fun ⟨u, v, h1, h2, h3⟩ => by rw [h1, show v = [] from h3, List.append_nil]; exact h2, fun h => ⟨w, [], (List.append_nil w).symm, h, rfl⟩⟩
theorem catL_congr {α : Type} {f g : α → Lang} : ∀ {ks : List α}, (∀ k ∈ ks, ∀ w, f k w ↔ g k w) → ∀ w, catL (ks.map f) w ↔ catL (ks.map g) w
  | [], _, _ => Iff.rfl
  | k :: ks, h, w => by
    have ih := catL_congr (ks := ks) (fun x hx => h x (List.mem_cons_of_mem _ hx))
    have h1 := h k List.mem_cons_self
    exact ⟨fun ⟨u, v, e, a, b⟩ => ⟨u, v, e, (h1 u).1 a, (ih v).1 b⟩, fun ⟨u, v, e, a, b⟩ => ⟨u, v, e, (h1 u).2 a, (ih v).2 b⟩⟩
theorem flat5 (ks : List Ex) (w : List Nat) : catL ((flat 5 ks).map lang) w ↔ catL (ks.map lang) w := by
  induction ks generalizing w with
  | nil => exact Iff.rfl
  | cons k ks ih =>
    rw [flat, List.map_append, catL_app, List.map_cons]
    have h1 : ∀ u, catL ((flat1 5 k).map lang) u ↔ lang k u := fun u => by
      unfold flat1
      split
      · rename_i h; exact (lang5 h u).symm
      · exact catL_one
    exact ⟨fun ⟨u, v, e, a, b⟩ => ⟨u, v, e, (h1 u).1 a, (ih v).1 b⟩, fun ⟨u, v, e, a, b⟩ => ⟨u, v, e, (h1 u).2 a, (ih v).2 b⟩⟩
theorem filt5 (l : List Ex) (w : List Nat) : catL ((l.filter fun e => !isOp 2 e).map lang) w ↔ catL (l.map lang) w := by
  induction l generalizing w with
  | nil => exact Iff.rfl
  | cons k l ih =>
    rw [List.filter_cons]
    by_cases h : isOp 2 k = true
    · rw [if_neg (by simp [h]), ih, List.map_cons]
      have h2 := isOp_iff.1 h
      exact ⟨fun hh => ⟨[], w, rfl, (lang2 h2 []).2 rfl, hh⟩, fun ⟨u, v, e, a, b⟩ => by rw [e, (lang2 h2 u).1 a]; exact b⟩
    · rw [if_pos (by simpa using h), List.map_cons, List.map_cons]
      exact ⟨fun ⟨u, v, e, a, b⟩ => ⟨u, v, e, a, (ih v).1 b⟩, fun ⟨u, v, e, a, b⟩ => ⟨u, v, e, a, (ih v).2 b⟩⟩
theorem catL_emp {ks : List Ex} (h : ks.any (isOp 1) = true) (w : List Nat) : ¬ catL (ks.map lang) w := by
  induction ks generalizing w with
  | nil => simp at h
  | cons k ks ih =>
    rintro ⟨u, v, _, a, b⟩
    rw [List.any_cons, Bool.or_eq_true] at h
    rcases h with h | h
    · exact lang1 (isOp_iff.1 h) u a
    · exact ih h v b
/-! star -/
theorem star_nil (P : Lang) : StarL P [] := ⟨[], fun _ h => (by cases h), rfl⟩
theorem star_sub {P : Lang} {w : List Nat} (h : P w) : StarL P w := ⟨[w], fun u hu => by rw [List.mem_singleton] at hu; rw [hu]; exact h, by simp⟩
theorem star_app {P : Lang} {u v : List Nat} (h : StarL P u) (k : StarL P v) : StarL P (u ++ v) := by
  obtain ⟨a, h1, rfl⟩ := h
  obtain ⟨b, k1, rfl⟩ := k
  exact ⟨a ++ b, fun x hx => (List.mem_append.1 hx).elim (h1 x) (k1 x), by rw [List.flatten_append]⟩
theorem star_star {P : Lang} {w : List Nat} : StarL (StarL P) w ↔ StarL P w := by
  have key : ∀ ws : List (List Nat), (∀ u ∈ ws, StarL P u) → StarL P ws.flatten := by
    intro ws
    induction ws with
    | nil => intro _; exact star_nil P
    | cons u ws ih =>
      intro h
      rw [List.flatten_cons]
      exact star_app (h u List.mem_cons_self) (ih fun x hx => h x (List.mem_cons_of_mem _ hx))
  exact ⟨fun ⟨ws, h, e⟩ => e ▸ key ws h, star_sub⟩
theorem star_congr {P Q : Lang} (h : ∀ w, P w ↔ Q w) (w : List Nat) : StarL P w ↔ StarL Q w :=
  ⟨fun ⟨ws, a, e⟩ => ⟨ws, fun u hu => (h u).1 (a u hu), e⟩, fun ⟨ws, a, e⟩ => ⟨ws, fun u hu => (h u).2 (a u hu), e⟩⟩
theorem star_cons {P : Lang} {x : Nat} {w : List Nat} : StarL P (x :: w) ↔ ∃ u v, w = u ++ v ∧ P (x :: u) ∧ StarL P v := by
  constructor
  · rintro ⟨ws, h, e⟩
    induction ws with
    | nil => simp at e
    | cons a ws ih =>
      cases a with
      | nil => exact ih (fun u hu => h u (List.mem_cons_of_mem _ hu)) (by simpa using e)
      | cons y a =>
        rw [List.flatten_cons, List.cons_append] at e
        injection e with e1 e2
        subst e1
        exact ⟨a, ws.flatten, e2.symm, h _ List.mem_cons_self, ws, fun u hu => h u (List.mem_cons_of_mem _ hu), rfl⟩
  · rintro ⟨u, v, rfl, h, ws, h2, rfl⟩
    exact ⟨(x :: u) :: ws, fun a ha => (List.mem_cons.1 ha).elim (fun e => e ▸ h) (h2 a), rfl⟩
/-! the joins -/
theorem jCat_lang (ks : List Ex) (w : List Nat) : lang (jCat ks) w ↔ catL (ks.map lang) w := by
  unfold jCat
  split
  · rename_i h
    exact ⟨fun hh => absurd hh (emp_lang w), fun hh => absurd hh (catL_emp h w)⟩
  · rw [← flat5, ← filt5]
    rcases len_cases ((flat 5 ks).filter fun e => !isOp 2 e) with h | ⟨x, h⟩ | h
    · rw [h, coll_nil]; exact unit_lang w
    · rw [h, coll_one]; exact catL_one.symm
    · rw [coll_two h, lang_mk]; exact opL5
theorem coll4 (ps : List Ex) (w : List Nat) : lang (coll 4 ps emp) w ↔ ∃ e ∈ ps, lang e w := by
  rcases len_cases ps with h | ⟨x, h⟩ | h
  · rw [h, coll_nil]; simp [emp_lang]
  · rw [h, coll_one]; simp
  · rw [coll_two h, lang4 rfl]; exact Iff.rfl
theorem coll6 (ps : List Ex) (w : List Nat) : lang (coll 6 ps uni) w ↔ ∀ e ∈ ps, lang e w := by
  rcases len_cases ps with h | ⟨x, h⟩ | h
  · rw [h, coll_nil]; simp [uni_lang]
  · rw [h, coll_one]; simp
  · rw [coll_two h, lang6 rfl]; exact Iff.rfl
theorem jUni_lang (ks : List Ex) (w : List Nat) : lang (jUni ks) w ↔ ∃ k ∈ ks, lang k w := by
  unfold jUni
  split
  · rename_i h
    obtain ⟨k, hk, hu⟩ := List.any_eq_true.1 h
    exact ⟨fun _ => ⟨k, hk, isUni_lang hu w⟩, fun _ => uni_lang w⟩
  · rw [coll4]
    constructor
    · rintro ⟨e, he, hw⟩
      obtain ⟨k, hk, hek⟩ := flat_mem.1 (List.mem_filter.1 (ord_mem.1 he)).1
      refine ⟨k, hk, ?_⟩
      unfold flat1 at hek
      split at hek
      · rename_i h4; exact (lang4 h4 w).2 ⟨e, hek, hw⟩
      · rw [List.mem_singleton] at hek; rw [← hek]; exact hw
    · rintro ⟨k, hk, hw⟩
      have key : ∀ e, e ∈ flat1 4 k → lang e w → ∃ e ∈ cmpt (srt ((flat 4 ks).filter fun e => !isOp 1 e)), lang e w := fun e he hl =>
        ⟨e, ord_mem.2 (List.mem_filter.2 ⟨flat_mem.2 ⟨k, hk, he⟩, by
          rw [Bool.not_eq_true']
          exact Bool.eq_false_iff.2 fun h1 => lang1 (isOp_iff.1 h1) w hl⟩), hl⟩
      by_cases h4 : k.op = 4
      · obtain ⟨e, he, hl⟩ := (lang4 h4 w).1 hw
        exact key e (by rw [flat1, if_pos h4]; exact he) hl
      · exact key k (by rw [flat1, if_neg h4]; simp) hw
theorem jAnd_lang (ks : List Ex) (w : List Nat) : lang (jAnd ks) w ↔ ∀ k ∈ ks, lang k w := by
  unfold jAnd
  split
  · rename_i h
    obtain ⟨k, hk, hu⟩ := List.any_eq_true.1 h
    exact ⟨fun hh => absurd hh (emp_lang w), fun hh => absurd (hh k hk) (lang1 (isOp_iff.1 hu) w)⟩
  · rw [coll6]
    constructor
    · intro hh k hk
      have key : ∀ e, e ∈ flat1 6 k → lang e w := fun e he => by
        by_cases hu : isUni e = true
        · exact isUni_lang hu w
        · exact hh e (ord_mem.2 (List.mem_filter.2 ⟨flat_mem.2 ⟨k, hk, he⟩, by simpa using hu⟩))
      by_cases h6 : k.op = 6
      · exact (lang6 h6 w).2 fun e he => key e (by rw [flat1, if_pos h6]; exact he)
      · exact key k (by rw [flat1, if_neg h6]; simp)
    · intro hh e he
      obtain ⟨k, hk, hek⟩ := flat_mem.1 (List.mem_filter.1 (ord_mem.1 he)).1
      have hw := hh k hk
      unfold flat1 at hek
      split at hek
      · rename_i h6; exact (lang6 h6 w).1 hw e hek
      · rw [List.mem_singleton] at hek; rw [hek]; exact hw
theorem jNot_lang (k : Ex) (w : List Nat) : lang (jNot k) w ↔ ¬ lang k w := by
  unfold jNot
  split
  · rename_i h
    obtain ⟨x, hx⟩ := List.length_eq_one_iff.1 h.2
    rw [hx]
    rw [lang_eq k, h.1, hx, opL8]
    show lang x w ↔ ¬ ¬ lang x w
    exact Classical.not_not.symm
  · rw [lang_mk, opL8]; exact Iff.rfl
theorem jStar_lang (k : Ex) (w : List Nat) : lang (jStar k) w ↔ StarL (lang k) w := by
  unfold jStar
  split
  · rename_i h
    rw [unit_lang]
    constructor
    · rintro rfl; exact star_nil _
    · rintro ⟨ws, h1, rfl⟩
      have : ∀ u ∈ ws, u = [] := fun u hu => by
        rcases h with h | h
        · exact absurd (h1 u hu) (lang1 h u)
        · exact (lang2 h u).1 (h1 u hu)
      rw [List.flatten_eq_nil_iff]; exact this
  · split
    · rename_i h
      refine ⟨star_sub, fun hh => ?_⟩
      rcases h with h | h
      · rw [lang_eq, h, opL7]
        refine star_star.1 ((star_congr (fun v => ?_) w).1 hh)
        rw [lang_eq k, h]; exact opL7
      · exact isUni_lang h w
    · rw [lang_mk, opL7]; exact Iff.rfl
theorem join_lang {o l : Int} {ks : List Ex} (h : o = 4 ∨ o = 5 ∨ o = 6 ∨ ((o = 7 ∨ o = 8) ∧ ks.length = 1)) (w : List Nat) : lang (join o ks) w ↔ opL o l (ks.map lang) w := by
  unfold join
  rcases h with rfl | rfl | rfl | ⟨h, h1⟩
  · rw [if_pos rfl, jUni_lang, opL4]
    simp only [List.mem_map]
    exact ⟨fun ⟨k, hk, hP⟩ => ⟨_, ⟨k, hk, rfl⟩, hP⟩, fun ⟨P, ⟨k, hk, e⟩, hP⟩ => ⟨k, hk, e ▸ hP⟩⟩
  · rw [if_neg (by decide), if_pos rfl, jCat_lang, opL5]
  · rw [if_neg (by decide), if_neg (by decide), if_pos rfl, jAnd_lang, opL6]
    simp only [List.mem_map]
    exact ⟨fun hh P ⟨k, hk, e⟩ => e ▸ hh k hk, fun hh k hk => hh _ ⟨k, hk, rfl⟩⟩
  · obtain ⟨k, rfl⟩ := List.length_eq_one_iff.1 h1
    rcases h with rfl | rfl
    · rw [if_neg (by decide), if_neg (by decide), if_neg (by decide)]
      show lang (if (7 : Int) = 8 then jNot k else if (7 : Int) = 7 then jStar k else zeroE) w ↔ _
      rw [if_neg (by decide), if_pos rfl, jStar_lang, opL7]; exact Iff.rfl
    · rw [if_neg (by decide), if_neg (by decide), if_neg (by decide)]
      show lang (if (8 : Int) = 8 then jNot k else _) w ↔ _
      rw [if_pos rfl, jNot_lang, opL8]; exact Iff.rfl
end Go.Ex

namespace Go.Ex
open simp (simpL)
open dv (dvL dvC)
open hasU (hasAny hasAll)
open wf (wfL)
open szE (szL)
open dpE (dpL)
/-! what normal forms and derivatives say -/
theorem wf_mk {L o l : Int} {ks : List Ex} : wf L (.mk o l ks) = true ↔ (o = 3 ∧ ks = [] ∧ 0 ≤ l ∧ l < L) ∨ (o ≠ 3 ∧ l = 0 ∧ (((o = 1 ∨ o = 2) ∧ ks = []) ∨ ((o = 4 ∨ o = 5 ∨ o = 6) ∧ 2 ≤ ks.length) ∨ ((o = 7 ∨ o = 8) ∧ ks.length = 1)) ∧ ∀ k ∈ ks, wf L k = true) := by
  rw [wf, wfL_all]
  by_cases h : o = 3
  · rw [if_pos h]
    simp only [Bool.and_eq_true, decide_eq_true_eq, List.length_eq_zero_iff]
    exact ⟨fun hh => .inl ⟨h, hh⟩, fun hh => hh.elim (fun k => k.2) (fun k => absurd h k.1)⟩
  · rw [if_neg h]
    simp only [Bool.and_eq_true, decide_eq_true_eq, List.all_eq_true]
    have key : ((if o = 1 ∨ o = 2 then decide (ks.length = 0) else if o = 4 ∨ o = 5 ∨ o = 6 then decide (2 ≤ ks.length) else if o = 7 ∨ o = 8 then decide (ks.length = 1) else false) = true) ↔ (((o = 1 ∨ o = 2) ∧ ks = []) ∨ ((o = 4 ∨ o = 5 ∨ o = 6) ∧ 2 ≤ ks.length) ∨ ((o = 7 ∨ o = 8) ∧ ks.length = 1)) := by
      by_cases h1 : o = 1 ∨ o = 2
      · rw [if_pos h1, decide_eq_true_eq, List.length_eq_zero_iff]
        exact ⟨fun hh => .inl ⟨h1, hh⟩, fun hh => by rcases hh with hh | hh | hh; exact hh.2; omega; omega⟩
      · rw [if_neg h1]
        by_cases h2 : o = 4 ∨ o = 5 ∨ o = 6
        · rw [if_pos h2, decide_eq_true_eq]
          exact ⟨fun hh => .inr (.inl ⟨h2, hh⟩), fun hh => by rcases hh with hh | hh | hh; exact absurd hh.1 h1; exact hh.2; omega⟩
        · rw [if_neg h2]
          by_cases h3 : o = 7 ∨ o = 8
          · rw [if_pos h3, decide_eq_true_eq]
            exact ⟨fun hh => .inr (.inr ⟨h3, hh⟩), fun hh => by rcases hh with hh | hh | hh; exact absurd hh.1 h1; exact absurd hh.1 h2; exact hh.2⟩
          · rw [if_neg h3]
            exact ⟨fun hh => (by cases hh), fun hh => by rcases hh with hh | hh | hh; exact absurd hh.1 h1; exact absurd hh.1 h2; exact absurd hh.1 h3⟩
    rw [key]
    exact ⟨fun hh => .inr ⟨h, hh.1, hh.2.1, hh.2.2⟩, fun hh => hh.elim (fun k => absurd k.1 h) (fun k => k.2)⟩
theorem wf_kids {L : Int} {e : Ex} (h : wf L e = true) : ∀ k ∈ e.ks, wf L k = true := by
  cases e with
  | mk o l ks =>
    rcases wf_mk.1 h with ⟨_, h2, _⟩ | ⟨_, _, _, h2⟩
    · intro k hk; rw [show ks = [] from h2] at hk; cases hk
    · exact h2
theorem opL_congr {α : Type} {o l l' : Int} {f g : α → Lang} {ks : List α} (h : ∀ k ∈ ks, ∀ w, f k w ↔ g k w) (hl : o = 3 → l = l') (w : List Nat) : opL o l (ks.map f) w ↔ opL o l' (ks.map g) w := by
  unfold opL
  have hd : ∀ w, hdL (ks.map f) w ↔ hdL (ks.map g) w := fun w => by
    cases ks with
    | nil => exact Iff.rfl
    | cons k ks => exact h k List.mem_cons_self w
  split
  · exact Iff.rfl
  · split
    · rename_i h3; rw [hl h3]
    · split
      · simp only [List.mem_map]
        exact ⟨fun ⟨P, ⟨k, hk, e⟩, hP⟩ => ⟨g k, ⟨k, hk, rfl⟩, (h k hk w).1 (e ▸ hP)⟩, fun ⟨P, ⟨k, hk, e⟩, hP⟩ => ⟨f k, ⟨k, hk, rfl⟩, (h k hk w).2 (e ▸ hP)⟩⟩
      · split
        · exact catL_congr h w
        · split
          · simp only [List.mem_map]
            exact ⟨fun hh P ⟨k, hk, e⟩ => e ▸ (h k hk w).1 (hh _ ⟨k, hk, rfl⟩), fun hh P ⟨k, hk, e⟩ => e ▸ (h k hk w).2 (hh _ ⟨k, hk, rfl⟩)⟩
          · split
            · exact star_congr hd w
            · split
              · exact not_congr (hd w)
              · exact Iff.rfl
/-- the arities of a node with kids -/
theorem wf_arity {L : Int} {o l : Int} {ks : List Ex} (h : wf L (.mk o l ks) = true) (hk : ks ≠ []) : (o = 4 ∨ o = 5 ∨ o = 6 ∨ ((o = 7 ∨ o = 8) ∧ ks.length = 1)) ∧ l = 0 := by
  rcases wf_mk.1 h with ⟨_, h2, _⟩ | ⟨_, h1, h2, _⟩
  · exact absurd h2 hk
  · refine ⟨?_, h1⟩
    rcases h2 with ⟨_, h3⟩ | ⟨h3, _⟩ | h3
    · exact absurd h3 hk
    · omega
    · exact .inr (.inr (.inr h3))
theorem simp_lang {L : Int} : ∀ e, wf L e = true → ∀ w, lang (simp e) w ↔ lang e w := by
  refine Ex.ind fun o l ks ih h w => ?_
  by_cases hk : ks = []
  · subst hk; rw [simp_nil]
  · obtain ⟨ha, rfl⟩ := wf_arity h hk
    rw [simp_cons hk, lang_mk, join_lang (l := 0) (by rwa [List.length_map]), List.map_map]
    exact opL_congr (fun k hk w => ih k hk (wf_kids h k hk) w) (fun _ => rfl) w
theorem hasU_lang {L : Int} : ∀ e, wf L e = true → (hasU e = true ↔ lang e []) := by
  refine Ex.ind fun o l ks ih h => ?_
  rw [hasU, lang_mk, hasAny_eq, hasAll_eq]
  have ih' : ∀ k ∈ ks, (hasU k = true ↔ lang k []) := fun k hk => ih k hk (wf_kids h k hk)
  by_cases h2 : o = 2
  · subst h2; rw [if_pos (.inl rfl), opL2]; simp
  by_cases h7 : o = 7
  · subst h7; rw [if_pos (.inr rfl), opL7]; exact ⟨fun _ => star_nil _, fun _ => rfl⟩
  rw [if_neg (by omega)]
  by_cases h4 : o = 4
  · subst h4
    rw [if_pos rfl, opL4, List.any_eq_true]
    simp only [List.mem_map]
    exact ⟨fun ⟨k, hk, hu⟩ => ⟨_, ⟨k, hk, rfl⟩, (ih' k hk).1 hu⟩, fun ⟨P, ⟨k, hk, e⟩, hP⟩ => ⟨k, hk, (ih' k hk).2 (e ▸ hP)⟩⟩
  rw [if_neg h4]
  by_cases h5 : o = 5
  · subst h5
    rw [if_pos (.inl rfl), opL5, List.all_eq_true]
    clear h ih
    induction ks with
    | nil => exact ⟨fun _ => rfl, fun _ x hx => by cases hx⟩
    | cons k ks ih2 =>
      have h1 := ih2 (fun k hk => ih' k (List.mem_cons_of_mem _ hk))
      constructor
      · intro hh
        exact ⟨[], [], rfl, (ih' k List.mem_cons_self).1 (hh k List.mem_cons_self), h1.1 fun x hx => hh x (List.mem_cons_of_mem _ hx)⟩
      · rintro ⟨u, v, e, a, b⟩
        obtain ⟨rfl, rfl⟩ := List.nil_eq_append_iff.1 e
        intro x hx
        rcases List.mem_cons.1 hx with rfl | hx
        · exact (ih' _ List.mem_cons_self).2 a
        · exact h1.2 b x hx
  by_cases h6 : o = 6
  · subst h6
    rw [if_pos (.inr rfl), opL6, List.all_eq_true]
    simp only [List.mem_map]
    exact ⟨fun hh P ⟨k, hk, e⟩ => e ▸ (ih' k hk).1 (hh k hk), fun hh k hk => (ih' k hk).2 (hh _ ⟨k, hk, rfl⟩)⟩
  rw [if_neg (by omega)]
  by_cases h8 : o = 8
  · subst h8
    rw [if_pos rfl, opL8]
    rcases wf_mk.1 h with ⟨h9, _⟩ | ⟨_, _, h9, _⟩
    · omega
    · obtain ⟨k, rfl⟩ := List.length_eq_one_iff.1 (show ks.length = 1 by rcases h9 with h9 | h9 | h9; omega; omega; exact h9.2)
      show (decide ([k].length = 1) && !([k].any hasU)) = true ↔ ¬ lang k []
      rw [← ih' k List.mem_cons_self]
      cases h10 : hasU k <;> simp [h10]
  rw [if_neg h8]
  rcases wf_mk.1 h with ⟨h3, _⟩ | ⟨_, _, h9, _⟩
  · subst h3; rw [opL3]; simp
  · have : o = 1 := by rcases h9 with h9 | h9 | h9 <;> omega
    subst this
    exact ⟨fun hh => (by cases hh), fun hh => absurd hh opL1⟩
/-- the derivative by x is right -/
structure Dok (x : Nat) (e : Ex) (d : Dr) : Prop where
  by' : ∀ w, lang d.by' w ↔ lang e (x :: w)
  self : ∀ w, lang d.self w ↔ lang e w
  nl : d.nl = true ↔ lang e []
theorem langs_self {ks : List Ex} {g : Ex → Ex} (h : ∀ k ∈ ks, ∀ w, lang (g k) w ↔ lang k w) (w : List Nat) : catL ((ks.map g).map lang) w ↔ catL (ks.map lang) w := by
  rw [List.map_map]
  exact catL_congr (fun k hk w => h k hk w) w
theorem dvC_ok {n : Bool} {x : Nat} : ∀ {ks : List Ex}, (∀ k ∈ ks, Dok x k (dv n x k)) → (∀ k ∈ ks, ∀ w, lang (if n then k else simp k) w ↔ lang k w) → (∀ w, catL ((dvC n x ks).2.1.map lang) w ↔ catL (ks.map lang) w) ∧ ((dvC n x ks).2.2 = true ↔ catL (ks.map lang) []) ∧ ∀ w, (∃ e ∈ catP (dvC n x ks).1 (dvC n x ks).2.1, lang e w) ↔ catL (ks.map lang) (x :: w)
  | [], _, _ => ⟨fun w => Iff.rfl, ⟨fun _ => rfl, fun _ => by rw [dvC]⟩, fun w => by rw [dvC]; exact ⟨fun ⟨e, h, _⟩ => (by cases h), fun h => (by cases h)⟩⟩
  | k :: ks, hd, hg => by
    have hk := hd k List.mem_cons_self
    have hd' := fun y hy => hd y (List.mem_cons_of_mem _ hy)
    have hg' := fun y hy => hg y (List.mem_cons_of_mem _ hy)
    have part : ∀ (ss : List Ex), (∀ w, catL (ss.map lang) w ↔ catL (ks.map lang) w) → ∀ w, lang (if (dv n x k).by'.op = 1 then (dv n x k).by' else join 5 ((dv n x k).by' :: ss)) w ↔ ∃ u v, w = u ++ v ∧ lang k (x :: u) ∧ catL (ks.map lang) v := fun ss hss w => by
      split
      · rename_i h1
        exact ⟨fun hh => absurd hh (lang1 h1 w), fun ⟨u, v, _, a, _⟩ => absurd ((hk.by' u).2 a) (lang1 h1 u)⟩
      · rw [join_lang (l := 0) (.inr (.inl rfl)), opL5, List.map_cons]
        exact ⟨fun ⟨u, v, e, a, b⟩ => ⟨u, v, e, (hk.by' u).1 a, (hss v).1 b⟩, fun ⟨u, v, e, a, b⟩ => ⟨u, v, e, (hk.by' u).2 a, (hss v).2 b⟩⟩
    have cons : ∀ w, catL ((k :: ks).map lang) (x :: w) ↔ (lang k [] ∧ catL (ks.map lang) (x :: w)) ∨ ∃ u v, w = u ++ v ∧ lang k (x :: u) ∧ catL (ks.map lang) v := fun w => by
      constructor
      · rintro ⟨u, v, e, a, b⟩
        cases u with
        | nil => exact .inl ⟨a, by rw [show v = x :: w from e.symm] at b; exact b⟩
        | cons y u =>
          rw [List.cons_append] at e
          injection e with e1 e2
          subst e1
          exact .inr ⟨u, v, e2, a, b⟩
      · rintro (⟨a, b⟩ | ⟨u, v, rfl, a, b⟩)
        · exact ⟨[], _, rfl, a, b⟩
        · exact ⟨x :: u, v, rfl, a, b⟩
    rw [dvC]
    dsimp only
    by_cases hn : (dv n x k).nl = true
    · rw [if_pos hn]
      obtain ⟨h1, h2, h3⟩ := dvC_ok hd' hg'
      refine ⟨fun w => ?_, ?_, fun w => ?_⟩
      · exact ⟨fun ⟨u, v, e, a, b⟩ => ⟨u, v, e, (hk.self u).1 a, (h1 v).1 b⟩, fun ⟨u, v, e, a, b⟩ => ⟨u, v, e, (hk.self u).2 a, (h1 v).2 b⟩⟩
      · constructor
        · intro h; exact ⟨[], [], rfl, hk.nl.1 hn, h2.1 h⟩
        · rintro ⟨u, v, e, a, b⟩
          obtain ⟨rfl, rfl⟩ := List.nil_eq_append_iff.1 e
          exact h2.2 b
      · rw [cons, catP, List.tail_cons]
        have hp := part _ h1 w
        simp only [List.mem_cons, exists_eq_or_imp]
        rw [hp, h3 w]
        exact ⟨fun hh => hh.elim .inr (fun b => .inl ⟨hk.nl.1 hn, b⟩), fun hh => hh.elim (fun b => .inr b.2) .inl⟩
    · rw [if_neg hn]
      refine ⟨fun w => ?_, ?_, fun w => ?_⟩
      · have hs := langs_self hg'
        exact ⟨fun ⟨u, v, e, a, b⟩ => ⟨u, v, e, (hk.self u).1 a, (hs v).1 b⟩, fun ⟨u, v, e, a, b⟩ => ⟨u, v, e, (hk.self u).2 a, (hs v).2 b⟩⟩
      · refine ⟨fun h => (by cases h), ?_⟩
        rintro ⟨u, v, e, a, b⟩
        obtain ⟨rfl, rfl⟩ := List.nil_eq_append_iff.1 e
        exact absurd (hk.nl.2 a) hn
      · rw [cons, catP, catP, List.tail_cons]
        have hp := part _ (langs_self hg') w
        simp only [List.mem_singleton, exists_eq_left]
        rw [hp]
        exact ⟨.inr, fun hh => hh.elim (fun b => absurd (hk.nl.2 b.1) hn) id⟩
theorem cntN_pos {l : List Dr} : 0 < cntN l ↔ ∃ d ∈ l, d.nl = true := by
  unfold cntN
  rw [List.length_pos_iff_exists_mem]
  simp only [List.mem_filter]
theorem cntN_all {l : List Dr} : cntN l = l.length ↔ ∀ d ∈ l, d.nl = true := by
  unfold cntN
  rw [List.length_filter_eq_length_iff]
theorem dv_ok {L : Int} {n : Bool} {x : Nat} : ∀ e, wf L e = true → Dok x e (dv n x e) := by
  refine Ex.ind fun o l ks ih h => ?_
  have ih' : ∀ k ∈ ks, Dok x k (dv n x k) := fun k hk => ih k hk (wf_kids h k hk)
  rw [dv]
  by_cases h2 : o = 2
  · subst h2
    rw [if_pos rfl]
    exact ⟨fun w => ⟨fun a => absurd a (emp_lang w), fun a => by have := opL2.1 ((lang_mk 2 l ks) ▸ a); cases this⟩, fun w => by rw [unit_lang, lang_mk, opL2], ⟨fun _ => by rw [lang_mk]; exact opL2.2 rfl, fun _ => rfl⟩⟩
  rw [if_neg h2]
  by_cases h3 : o = 3
  · subst h3
    rw [if_pos rfl]
    rcases wf_mk.1 h with ⟨_, rfl, h4, _⟩ | ⟨h4, _⟩
    · refine ⟨fun w => ?_, fun w => Iff.rfl, ⟨fun a => (by cases a), fun a => by rw [lang_mk, opL3] at a; obtain ⟨y, _, e⟩ := a; cases e⟩⟩
      rw [lang_mk, opL3]
      show lang (if l = (x : Int) then unit else emp) w ↔ _
      split
      · rename_i e
        rw [unit_lang]
        exact ⟨fun hw => ⟨x, e.symm, by rw [hw]⟩, fun ⟨y, _, e2⟩ => by injection e2⟩
      · rename_i e
        refine ⟨fun hw => absurd hw (emp_lang w), fun ⟨y, e1, e2⟩ => ?_⟩
        injection e2 with e3 _
        exact absurd (by rw [e3]; exact e1.symm) e
    · exact absurd rfl h4
  rw [if_neg h3]
  rw [dvL_map]
  have hkids : ks ≠ [] ∨ o = 1 := by
    rcases wf_mk.1 h with ⟨h4, _⟩ | ⟨_, _, h4, _⟩
    · exact absurd h4 h3
    · rcases h4 with ⟨h4, _⟩ | ⟨_, h4⟩ | ⟨_, h4⟩
      · exact .inr (by omega)
      · exact .inl (fun e => by rw [e] at h4; simp at h4)
      · exact .inl (fun e => by rw [e] at h4; simp at h4)
  by_cases hb : o = 4 ∨ o = 6 ∨ o = 8
  · rw [if_pos hb]
    have hne : ks ≠ [] := hkids.resolve_right (by omega)
    obtain ⟨ha, rfl⟩ := wf_arity h hne
    unfold dBool
    refine ⟨fun w => ?_, fun w => ?_, ?_⟩
    · show lang (join o (((ks.map (dv n x))).map (·.by'))) w ↔ _
      rw [lang_mk, List.map_map, join_lang (l := 0) (by rwa [List.length_map]), List.map_map]
      rcases hb with rfl | rfl | rfl
      · rw [opL4, opL4]
        simp only [List.mem_map]
        exact ⟨fun ⟨P, ⟨k, hk, e⟩, hP⟩ => ⟨_, ⟨k, hk, rfl⟩, ((ih' k hk).by' w).1 (by subst e; exact hP)⟩, fun ⟨P, ⟨k, hk, e⟩, hP⟩ => ⟨_, ⟨k, hk, rfl⟩, ((ih' k hk).by' w).2 (by subst e; exact hP)⟩⟩
      · rw [opL6, opL6]
        simp only [List.mem_map]
        exact ⟨fun hh P ⟨k, hk, e⟩ => by subst e; exact ((ih' k hk).by' w).1 (hh _ ⟨k, hk, rfl⟩), fun hh P ⟨k, hk, e⟩ => by subst e; exact ((ih' k hk).by' w).2 (hh _ ⟨k, hk, rfl⟩)⟩
      · rw [opL8, opL8]
        obtain ⟨k, rfl⟩ := List.length_eq_one_iff.1 (show ks.length = 1 by omega)
        exact not_congr ((ih' k List.mem_cons_self).by' w)
    · show lang (join o (((ks.map (dv n x))).map (·.self))) w ↔ _
      rw [lang_mk, List.map_map, join_lang (l := 0) (by rwa [List.length_map]), List.map_map]
      exact opL_congr (fun k hk w => (ih' k hk).self w) (fun _ => rfl) w
    · rw [lang_mk]
      rcases hb with rfl | rfl | rfl
      · show (if (4 : Int) = 4 then decide (0 < cntN (ks.map (dv n x))) else if (4 : Int) = 6 then decide (cntN (ks.map (dv n x)) = (ks.map (dv n x)).length) else if (4 : Int) = 8 then decide (cntN (ks.map (dv n x)) = 0) else false) = true ↔ _
        rw [if_pos rfl, decide_eq_true_eq, cntN_pos, opL4]
        simp only [List.mem_map]
        exact ⟨fun ⟨d, ⟨k, hk, e⟩, hd⟩ => ⟨_, ⟨k, hk, rfl⟩, (ih' k hk).nl.1 (by subst e; exact hd)⟩, fun ⟨P, ⟨k, hk, e⟩, hP⟩ => ⟨_, ⟨k, hk, rfl⟩, (ih' k hk).nl.2 (by subst e; exact hP)⟩⟩
      · show (if (6 : Int) = 4 then decide (0 < cntN (ks.map (dv n x))) else if (6 : Int) = 6 then decide (cntN (ks.map (dv n x)) = (ks.map (dv n x)).length) else if (6 : Int) = 8 then decide (cntN (ks.map (dv n x)) = 0) else false) = true ↔ _
        rw [if_neg (by decide), if_pos rfl, decide_eq_true_eq, cntN_all, opL6]
        simp only [List.mem_map]
        exact ⟨fun hh P ⟨k, hk, e⟩ => by subst e; exact (ih' k hk).nl.1 (hh _ ⟨k, hk, rfl⟩), fun hh d ⟨k, hk, e⟩ => by subst e; exact (ih' k hk).nl.2 (hh _ ⟨k, hk, rfl⟩)⟩
      · show (if (8 : Int) = 4 then decide (0 < cntN (ks.map (dv n x))) else if (8 : Int) = 6 then decide (cntN (ks.map (dv n x)) = (ks.map (dv n x)).length) else if (8 : Int) = 8 then decide (cntN (ks.map (dv n x)) = 0) else false) = true ↔ _
        rw [if_neg (by decide), if_neg (by decide), if_pos rfl, decide_eq_true_eq, opL8]
        obtain ⟨k, rfl⟩ := List.length_eq_one_iff.1 (show ks.length = 1 by omega)
        show cntN [dv n x k] = 0 ↔ ¬ lang k []
        rw [← (ih' k List.mem_cons_self).nl]
        unfold cntN
        cases hd : (dv n x k).nl <;> simp [hd]
  rw [if_neg hb]
  by_cases h7 : o = 7
  · subst h7
    rw [if_pos rfl]
    have hne : ks ≠ [] := hkids.resolve_right (by omega)
    obtain ⟨ha, rfl⟩ := wf_arity h hne
    obtain ⟨k, rfl⟩ := List.length_eq_one_iff.1 (show ks.length = 1 by omega)
    have hk := ih' k List.mem_cons_self
    have hself : ∀ w, lang (join 7 [(dv n x k).self]) w ↔ StarL (lang k) w := fun w => by
      rw [join_lang (l := 0) (.inr (.inr (.inr ⟨.inl rfl, rfl⟩))), opL7]
      exact star_congr hk.self w
    show Dok x _ ⟨join 5 [(dv n x k).by', join 7 [(dv n x k).self]], join 7 [(dv n x k).self], true⟩
    refine ⟨fun w => ?_, fun w => ?_, ?_⟩
    · rw [lang_mk, opL7, join_lang (l := 0) (.inr (.inl rfl)), opL5]
      show catL [lang (dv n x k).by', lang (join 7 [(dv n x k).self])] w ↔ StarL (lang k) (x :: w)
      rw [star_cons]
      exact ⟨fun ⟨u, v, e, a, b⟩ => ⟨u, v, e, (hk.by' u).1 a, (hself v).1 (catL_one.1 b)⟩, fun ⟨u, v, e, a, b⟩ => ⟨u, v, e, (hk.by' u).2 a, catL_one.2 ((hself v).2 b)⟩⟩
    · rw [lang_mk, opL7]; exact hself w
    · rw [lang_mk]; exact ⟨fun _ => opL7.2 (star_nil _), fun _ => rfl⟩
  rw [if_neg h7]
  by_cases h5 : o = 5
  · subst h5
    rw [if_pos rfl]
    obtain ⟨h1, h2', h3'⟩ := dvC_ok (n := n) (x := x) ih' (fun k hk w => by
      cases n with
      | true => exact Iff.rfl
      | false => exact simp_lang k (wf_kids h k hk) w)
    refine ⟨fun w => ?_, fun w => ?_, ?_⟩
    · show lang (join 4 (catP (dvC n x ks).1 (dvC n x ks).2.1)) w ↔ _
      rw [lang_mk, opL5, join_lang (l := 0) (.inl rfl), opL4, ← h3' w]
      simp only [List.mem_map]
      exact ⟨fun ⟨P, ⟨e, he, hP⟩, hw⟩ => ⟨e, he, hP ▸ hw⟩, fun ⟨e, he, hw⟩ => ⟨_, ⟨e, he, rfl⟩, hw⟩⟩
    · show lang (join 5 (dvC n x ks).2.1) w ↔ _
      rw [lang_mk, opL5, join_lang (l := 0) (.inr (.inl rfl)), opL5]
      exact h1 w
    · rw [lang_mk, opL5]; exact h2'
  rw [if_neg h5]
  have h1 : o = 1 := by
    rcases wf_mk.1 h with ⟨h4, _⟩ | ⟨_, _, h4, _⟩
    · exact absurd h4 h3
    · rcases h4 with h4 | h4 | h4 <;> omega
  subst h1
  exact ⟨fun w => ⟨fun a => absurd a (emp_lang w), fun a => absurd ((lang_mk 1 l ks) ▸ a) opL1⟩, fun w => ⟨fun a => absurd a (emp_lang w), fun a => absurd ((lang_mk 1 l ks) ▸ a) opL1⟩, ⟨fun a => (by cases a), fun a => absurd ((lang_mk 1 l ks) ▸ a) opL1⟩⟩
end Go.Ex

namespace Go.Ex
open simp (simpL)
open dv (dvL dvC)
open wf (wfL)
open szE (szL)
open dpE (dpL)
/-! form, size and depth of what is built -/
theorem wf_emp (L : Int) : wf L emp = true := by rw [emp, wf_mk]; exact .inr ⟨by decide, rfl, .inl ⟨.inl rfl, rfl⟩, fun _ h => by cases h⟩
theorem wf_unit (L : Int) : wf L unit = true := by rw [unit, wf_mk]; exact .inr ⟨by decide, rfl, .inl ⟨.inr rfl, rfl⟩, fun _ h => by cases h⟩
theorem wf_uni (L : Int) : wf L uni = true := by rw [uni, wf_mk]; exact .inr ⟨by decide, rfl, .inr (.inr ⟨.inr rfl, rfl⟩), fun k h => by rw [List.mem_singleton] at h; rw [h]; exact wf_emp L⟩
theorem flat1_wf {L o : Int} {k : Ex} (h : wf L k = true) : ∀ e ∈ flat1 o k, wf L e = true := fun e he => by
  unfold flat1 at he
  split at he
  · exact wf_kids h e he
  · rw [List.mem_singleton] at he; rw [he]; exact h
theorem coll_wf {L o : Int} {ps : List Ex} {no : Ex} (ho : o = 4 ∨ o = 5 ∨ o = 6) (hn : wf L no = true) (h : ∀ e ∈ ps, wf L e = true) : wf L (coll o ps no) = true := by
  rcases len_cases ps with h1 | ⟨x, h1⟩ | h1
  · rw [h1, coll_nil]; exact hn
  · rw [h1, coll_one]; exact h x (by rw [h1]; simp)
  · rw [coll_two h1, wf_mk]
    exact .inr ⟨by omega, rfl, .inr (.inl ⟨ho, h1⟩), h⟩
theorem flat_wf {L o : Int} {ks : List Ex} (h : ∀ k ∈ ks, wf L k = true) : ∀ e ∈ flat o ks, wf L e = true := fun e he => by
  obtain ⟨k, hk, hek⟩ := flat_mem.1 he
  exact flat1_wf (h k hk) e hek
theorem join_wf {L o : Int} {ks : List Ex} (ho : o = 4 ∨ o = 5 ∨ o = 6 ∨ ((o = 7 ∨ o = 8) ∧ ks.length = 1)) (h : ∀ k ∈ ks, wf L k = true) : wf L (join o ks) = true := by
  unfold join
  by_cases h4 : o = 4
  · rw [if_pos h4]
    unfold jUni
    split
    · exact wf_uni L
    · exact coll_wf (.inl rfl) (wf_emp L) fun e he => flat_wf h e (List.mem_filter.1 (ord_mem.1 he)).1
  rw [if_neg h4]
  by_cases h5 : o = 5
  · rw [if_pos h5]
    unfold jCat
    split
    · exact wf_emp L
    · exact coll_wf (.inr (.inl rfl)) (wf_unit L) fun e he => flat_wf h e (List.mem_filter.1 he).1
  rw [if_neg h5]
  by_cases h6 : o = 6
  · rw [if_pos h6]
    unfold jAnd
    split
    · exact wf_emp L
    · exact coll_wf (.inr (.inr rfl)) (wf_uni L) fun e he => flat_wf h e (List.mem_filter.1 (ord_mem.1 he)).1
  rw [if_neg h6]
  obtain ⟨h7, h1⟩ : (o = 7 ∨ o = 8) ∧ ks.length = 1 := by omega
  obtain ⟨k, rfl⟩ := List.length_eq_one_iff.1 h1
  have hk := h k List.mem_cons_self
  dsimp only
  by_cases h8 : o = 8
  · rw [if_pos h8]
    unfold jNot
    split
    · rename_i h9
      obtain ⟨x, hx⟩ := List.length_eq_one_iff.1 h9.2
      rw [hx]; exact wf_kids hk x (by rw [hx]; simp)
    · rw [wf_mk]
      exact .inr ⟨by decide, rfl, .inr (.inr ⟨.inr rfl, rfl⟩), h⟩
  · rw [if_neg h8, if_pos (by omega)]
    unfold jStar
    split
    · exact wf_unit L
    · split
      · exact hk
      · rw [wf_mk]
        exact .inr ⟨by decide, rfl, .inr (.inr ⟨.inl rfl, rfl⟩), h⟩
theorem simp_wf {L : Int} : ∀ e, wf L e = true → wf L (simp e) = true := by
  refine Ex.ind fun o l ks ih h => ?_
  by_cases hk : ks = []
  · subst hk; rw [simp_nil]; exact h
  · obtain ⟨ha, rfl⟩ := wf_arity h hk
    rw [simp_cons hk]
    refine join_wf (by rwa [List.length_map]) fun e he => ?_
    obtain ⟨k, hk, rfl⟩ := List.mem_map.1 he
    exact ih k hk (wf_kids h k hk)
theorem catP_wf {L : Int} : ∀ {bs ss : List Ex}, (∀ e ∈ bs, wf L e = true) → (∀ e ∈ ss, wf L e = true) → ∀ e ∈ catP bs ss, wf L e = true
  | [], _, _, _ => fun _ h => by cases h
  | b :: bs, ss, hb, hs => fun e he => by
    have ht : ∀ e ∈ ss.tail, wf L e = true := fun e h => hs e (List.mem_of_mem_tail h)
    rw [catP] at he
    rcases List.mem_cons.1 he with rfl | he
    · split
      · exact hb b List.mem_cons_self
      · exact join_wf (.inr (.inl rfl)) fun k hk => (List.mem_cons.1 hk).elim (fun e => e ▸ hb b List.mem_cons_self) (ht k)
    · exact catP_wf (fun e h => hb e (List.mem_cons_of_mem _ h)) ht e he
theorem dvC_wf {L : Int} {n : Bool} {x : Int} : ∀ {ks : List Ex}, (∀ k ∈ ks, wf L k = true) → (∀ k ∈ ks, wf L (dv n x k).by' = true ∧ wf L (dv n x k).self = true) → (∀ e ∈ (dvC n x ks).1, wf L e = true) ∧ ∀ e ∈ (dvC n x ks).2.1, wf L e = true
  | [], _, _ => by rw [dvC]; exact ⟨fun _ h => (by cases h), fun _ h => (by cases h)⟩
  | k :: ks, h, hd => by
    have hk := hd k List.mem_cons_self
    have ih := dvC_wf (fun y hy => h y (List.mem_cons_of_mem _ hy)) (fun y hy => hd y (List.mem_cons_of_mem _ hy))
    rw [dvC]
    dsimp only
    split
    · exact ⟨fun e he => (List.mem_cons.1 he).elim (fun q => q ▸ hk.1) (ih.1 e), fun e he => (List.mem_cons.1 he).elim (fun q => q ▸ hk.2) (ih.2 e)⟩
    · refine ⟨fun e he => by rw [List.mem_singleton] at he; rw [he]; exact hk.1, fun e he => (List.mem_cons.1 he).elim (fun q => q ▸ hk.2) fun he => ?_⟩
      obtain ⟨y, hy, rfl⟩ := List.mem_map.1 he
      have hw := h y (List.mem_cons_of_mem _ hy)
      cases n with
      | true => exact hw
      | false => exact simp_wf y hw
theorem dv_wf {L : Int} {n : Bool} {x : Int} : ∀ e, wf L e = true → wf L (dv n x e).by' = true ∧ wf L (dv n x e).self = true := by
  refine Ex.ind fun o l ks ih h => ?_
  have ih' : ∀ k ∈ ks, wf L (dv n x k).by' = true ∧ wf L (dv n x k).self = true := fun k hk => ih k hk (wf_kids h k hk)
  rw [dv]
  by_cases h2 : o = 2
  · rw [if_pos h2]; exact ⟨wf_emp L, wf_unit L⟩
  rw [if_neg h2]
  by_cases h3 : o = 3
  · rw [if_pos h3]
    subst h3
    refine ⟨?_, ?_⟩
    · show wf L (if l = x then unit else emp) = true
      split
      · exact wf_unit L
      · exact wf_emp L
    · rcases wf_mk.1 h with ⟨_, h5, h6⟩ | ⟨h5, _⟩
      · show wf L (.mk 3 l []) = true
        rw [wf_mk]; exact .inl ⟨rfl, rfl, h6⟩
      · exact absurd rfl h5
  rw [if_neg h3, dvL_map]
  have hne : ks ≠ [] ∨ o = 1 := by
    rcases wf_mk.1 h with ⟨h4, _⟩ | ⟨_, _, h4, _⟩
    · exact absurd h4 h3
    · rcases h4 with ⟨h4, _⟩ | ⟨_, h4⟩ | ⟨_, h4⟩
      · exact .inr (by omega)
      · exact .inl (fun e => by rw [e] at h4; simp at h4)
      · exact .inl (fun e => by rw [e] at h4; simp at h4)
  by_cases hb : o = 4 ∨ o = 6 ∨ o = 8
  · rw [if_pos hb]
    obtain ⟨ha, _⟩ := wf_arity h (hne.resolve_right (by omega))
    refine ⟨join_wf (by rw [List.length_map, List.length_map]; exact ha) fun e he => ?_, join_wf (by rw [List.length_map, List.length_map]; exact ha) fun e he => ?_⟩
    · obtain ⟨d, hd, rfl⟩ := List.mem_map.1 he
      obtain ⟨k, hk, rfl⟩ := List.mem_map.1 hd
      exact (ih' k hk).1
    · obtain ⟨d, hd, rfl⟩ := List.mem_map.1 he
      obtain ⟨k, hk, rfl⟩ := List.mem_map.1 hd
      exact (ih' k hk).2
  rw [if_neg hb]
  by_cases h7 : o = 7
  · rw [if_pos h7]
    obtain ⟨ha, _⟩ := wf_arity h (hne.resolve_right (by omega))
    obtain ⟨k, rfl⟩ := List.length_eq_one_iff.1 (show ks.length = 1 by omega)
    have hk := ih' k List.mem_cons_self
    have hs : wf L (join 7 [(dv n x k).self]) = true := join_wf (.inr (.inr (.inr ⟨.inl rfl, rfl⟩))) fun e he => by rw [List.mem_singleton] at he; rw [he]; exact hk.2
    exact ⟨join_wf (.inr (.inl rfl)) fun e he => (List.mem_cons.1 he).elim (fun q => q ▸ hk.1) (fun q => by rw [List.mem_singleton] at q; rw [q]; exact hs), hs⟩
  rw [if_neg h7]
  by_cases h5 : o = 5
  · rw [if_pos h5]
    obtain ⟨h1, h2'⟩ := dvC_wf (fun k hk => wf_kids h k hk) ih'
    exact ⟨join_wf (.inl rfl) (catP_wf h1 h2'), join_wf (.inr (.inl rfl)) h2'⟩
  rw [if_neg h5]
  exact ⟨wf_emp L, wf_emp L⟩
/-! size and depth -/
theorem szL_filter (p : Ex → Bool) (l : List Ex) : szL (l.filter p) ≤ szL l := by
  induction l with
  | nil => exact Nat.le_refl _
  | cons x l ih =>
    rw [List.filter_cons]
    split
    · rw [szL, szL]; omega
    · rw [szL]; omega
theorem szE_eq (e : Ex) : szE e = 1 + szL e.ks := by cases e; rw [szE]; rfl
theorem dpE_eq (e : Ex) : dpE e = 1 + dpL e.ks := by cases e; rw [dpE]; rfl
theorem szL_flat (o : Int) (ks : List Ex) : szL (flat o ks) ≤ szL ks := by
  induction ks with
  | nil => exact Nat.le_refl _
  | cons k ks ih =>
    rw [flat, szL_app, szL]
    have : szL (flat1 o k) ≤ szE k := by
      unfold flat1
      split
      · have := szE_eq k; omega
      · rw [szL, szL]; omega
    omega
theorem dpL_flat (o : Int) (ks : List Ex) : dpL (flat o ks) ≤ dpL ks := dpL_le.2 fun e he => by
  obtain ⟨k, hk, hek⟩ := flat_mem.1 he
  have h1 := dpL_mem hk
  unfold flat1 at hek
  split at hek
  · have := dpL_mem hek
    have := dpE_eq k; omega
  · rw [List.mem_singleton] at hek; rw [hek]; exact h1
theorem szL_insE (x : Ex) (l : List Ex) : szL (insE x l) = szE x + szL l := by
  induction l with
  | nil => simp [insE, szL]
  | cons y l ih =>
    rw [insE]
    split
    · rw [szL, ih, szL]; omega
    · rw [szL, szL]
theorem szL_srt (l : List Ex) : szL (srt l) = szL l := by
  induction l with
  | nil => rfl
  | cons x l ih => rw [srt, szL_insE, ih, szL]
theorem szL_cmptA : ∀ (l : List Ex) (a : Ex), szL (cmptA a l) ≤ szE a + szL l
  | [], a => by rw [cmptA, szL]; exact Nat.le_refl _
  | b :: l, a => by
    rw [cmptA]
    have h1 := szL_cmptA l a
    have h2 := szL_cmptA l b
    split
    · rw [szL]; omega
    · rw [szL, szL]; omega
theorem szL_cmpt (l : List Ex) : szL (cmpt l) ≤ szL l := by
  cases l with
  | nil => exact Nat.le_refl _
  | cons a l => rw [cmpt, szL]; exact szL_cmptA l a
theorem dpL_ord (l : List Ex) : dpL (cmpt (srt l)) ≤ dpL l := dpL_le.2 fun _ he => dpL_mem (ord_mem.1 he)
theorem dpL_filter (p : Ex → Bool) (l : List Ex) : dpL (l.filter p) ≤ dpL l := dpL_le.2 fun _ he => dpL_mem (List.mem_filter.1 he).1
theorem coll_sz (o : Int) (ps : List Ex) (no : Ex) : szE (coll o ps no) ≤ max (1 + szL ps) (szE no) ∧ dpE (coll o ps no) ≤ max (1 + dpL ps) (dpE no) := by
  rcases len_cases ps with h1 | ⟨x, h1⟩ | h1
  · rw [h1, coll_nil]; omega
  · rw [h1, coll_one, szL, szL, dpL, dpL]; omega
  · rw [coll_two h1, szE, dpE]; omega
theorem emp_sz : szE emp = 1 ∧ dpE emp = 1 := ⟨rfl, rfl⟩
theorem uni_sz : szE uni = 2 ∧ dpE uni = 2 := ⟨rfl, rfl⟩
theorem unit_sz : szE unit = 1 ∧ dpE unit = 1 := ⟨rfl, rfl⟩
theorem dpE_pos (e : Ex) : 0 < dpE e := by rw [dpE_eq]; omega
theorem isUni_sz {e : Ex} (h : isUni e = true) : 2 ≤ szE e ∧ 2 ≤ dpE e := by
  obtain ⟨_, k, h2, _⟩ := isUni_iff.1 h
  rw [szE_eq, dpE_eq, h2, szL, szL, dpL, dpL]
  have := szE_pos k
  have := dpE_pos k
  omega
theorem join_sz {o : Int} {ks : List Ex} (hk : ks ≠ []) (ho : o = 4 ∨ o = 5 ∨ o = 6 ∨ ((o = 7 ∨ o = 8) ∧ ks.length = 1)) : szE (join o ks) ≤ 1 + szL ks ∧ dpE (join o ks) ≤ 1 + dpL ks := by
  have hpos : 1 ≤ szL ks ∧ 1 ≤ dpL ks := by
    cases ks with
    | nil => exact absurd rfl hk
    | cons k ks => rw [szL, dpL]; have := szE_pos k; have := dpE_pos k; omega
  unfold join
  by_cases h4 : o = 4
  · rw [if_pos h4]
    unfold jUni
    split
    · rename_i h
      obtain ⟨k, hk, hu⟩ := List.any_eq_true.1 h
      have := isUni_sz hu
      have := szL_mem hk
      have := dpL_mem hk
      have := uni_sz; omega
    · have h1 := coll_sz 4 (cmpt (srt ((flat 4 ks).filter fun e => !isOp 1 e))) emp
      have h2 := szL_cmpt (srt ((flat 4 ks).filter fun e => !isOp 1 e))
      rw [szL_srt] at h2
      have h3 := szL_filter (fun e => !isOp 1 e) (flat 4 ks)
      have h5 := szL_flat 4 ks
      have h6 := dpL_ord ((flat 4 ks).filter fun e => !isOp 1 e)
      have h7 := dpL_filter (fun e => !isOp 1 e) (flat 4 ks)
      have h8 := dpL_flat 4 ks
      have := emp_sz
      omega
  rw [if_neg h4]
  by_cases h5 : o = 5
  · rw [if_pos h5]
    unfold jCat
    split
    · have := emp_sz; omega
    · have h1 := coll_sz 5 ((flat 5 ks).filter fun e => !isOp 2 e) unit
      have h3 := szL_filter (fun e => !isOp 2 e) (flat 5 ks)
      have h5 := szL_flat 5 ks
      have h7 := dpL_filter (fun e => !isOp 2 e) (flat 5 ks)
      have h8 := dpL_flat 5 ks
      have := unit_sz
      omega
  rw [if_neg h5]
  by_cases h6 : o = 6
  · rw [if_pos h6]
    unfold jAnd
    split
    · have := emp_sz; omega
    · have h1 := coll_sz 6 (cmpt (srt ((flat 6 ks).filter fun e => !isUni e))) uni
      have h2 := szL_cmpt (srt ((flat 6 ks).filter fun e => !isUni e))
      rw [szL_srt] at h2
      have h3 := szL_filter (fun e => !isUni e) (flat 6 ks)
      have h5 := szL_flat 6 ks
      have h6 := dpL_ord ((flat 6 ks).filter fun e => !isUni e)
      have h7 := dpL_filter (fun e => !isUni e) (flat 6 ks)
      have h8 := dpL_flat 6 ks
      have := uni_sz
      omega
  rw [if_neg h6]
  obtain ⟨h7, h1⟩ : (o = 7 ∨ o = 8) ∧ ks.length = 1 := by omega
  obtain ⟨k, rfl⟩ := List.length_eq_one_iff.1 h1
  rw [szL, szL, dpL, dpL] at hpos ⊢
  dsimp only
  by_cases h8 : o = 8
  · rw [if_pos h8]
    unfold jNot
    split
    · rename_i h9
      obtain ⟨x, hx⟩ := List.length_eq_one_iff.1 h9.2
      have h10 := szE_eq k
      have h11 := dpE_eq k
      rw [hx, szL, szL] at h10
      rw [hx, dpL, dpL] at h11
      rw [hx]
      show szE x ≤ _ ∧ dpE x ≤ _
      omega
    · rw [szE, dpE, szL, szL, dpL, dpL]; omega
  · rw [if_neg h8, if_pos (by omega)]
    unfold jStar
    split
    · have := unit_sz; omega
    · split
      · omega
      · rw [szE, dpE, szL, szL, dpL, dpL]; omega
theorem simp_sz {L : Int} : ∀ e, wf L e = true → szE (simp e) ≤ szE e ∧ dpE (simp e) ≤ dpE e := by
  refine Ex.ind fun o l ks ih h => ?_
  by_cases hk : ks = []
  · subst hk; rw [simp_nil]; omega
  · obtain ⟨ha, rfl⟩ := wf_arity h hk
    rw [simp_cons hk, szE, dpE]
    have h1 := join_sz (o := o) (ks := ks.map simp) (by simpa using hk) (by rwa [List.length_map])
    have key : ∀ (l : List Ex), (∀ k ∈ l, szE (simp k) ≤ szE k ∧ dpE (simp k) ≤ dpE k) → szL (l.map simp) ≤ szL l ∧ dpL (l.map simp) ≤ dpL l := by
      intro l
      induction l with
      | nil => intro _; exact ⟨Nat.le_refl _, Nat.le_refl _⟩
      | cons a l ih2 =>
        intro hh
        have := hh a List.mem_cons_self
        have := ih2 fun k hk => hh k (List.mem_cons_of_mem _ hk)
        rw [List.map_cons, szL, szL, dpL, dpL]; omega
    have := key ks fun k hk => ih k hk (wf_kids h k hk)
    omega
theorem simp_lim {L : Int} {e : Ex} (h : wf L e = true) (hl : inLim e = true) : inLim (simp e) = true := by
  have := simp_sz e h
  unfold inLim at hl ⊢
  rw [decide_eq_true_eq] at hl ⊢
  omega
theorem vdE_zero {L : Int} {e : Ex} : vdE L e = 0 ↔ (1 ≤ L ∧ L ≤ 6) ∧ inLim e = true ∧ wf L e = true := by
  unfold vdE
  by_cases h1 : L < 1 ∨ 6 < L
  · rw [if_pos h1]; exact ⟨fun h => (by cases h), fun h => by omega⟩
  · rw [if_neg h1]
    cases h2 : inLim e
    · rw [if_pos rfl]; exact ⟨fun h => (by cases h), fun h => by cases h.2.1⟩
    · rw [if_neg (by decide)]
      cases h3 : wf L e
      · rw [if_pos rfl]; exact ⟨fun h => (by cases h), fun h => by cases h.2.2⟩
      · rw [if_neg (by decide)]; exact ⟨fun _ => ⟨by omega, rfl, rfl⟩, fun _ => rfl⟩
theorem wf_more {L M : Int} (hLM : L ≤ M) : ∀ e, wf L e = true → wf M e = true := by
  refine Ex.ind fun o l ks ih h => ?_
  rw [wf_mk] at h ⊢
  rcases h with ⟨h1, h2, h3, h4⟩ | ⟨h1, h2, h3, h4⟩
  · exact .inl ⟨h1, h2, h3, by omega⟩
  · exact .inr ⟨h1, h2, h3, fun k hk => ih k hk (h4 k hk)⟩
end Go.Ex

namespace Go.Ex
open simp (simpL)
/-! sorting; normal forms are normal -/
def LeE (a b : Ex) : Prop := ¬ cmpE b a < 0
def LtE (a b : Ex) : Prop := cmpE a b < 0
theorem LtE.le {a b : Ex} (h : LtE a b) : LeE a b := fun k => by
  have := cmp_anti a b
  have h : cmpE a b < 0 := h
  omega
theorem LeE.anti {a b : Ex} (h : LeE a b) (k : LeE b a) : a = b := by
  rcases cmp_tri a b with h1 | h1 | h1
  · exact absurd h1 k
  · exact h1
  · exact absurd h1 h
theorem LeE.trans {a b c : Ex} (h : LeE a b) (k : LeE b c) : LeE a c := fun hc => by
  rcases cmp_tri a b with h1 | h1 | h1
  · exact k (cmp_trans c a b hc h1)
  · subst h1; exact k hc
  · exact h h1
theorem LeE.lt {a b : Ex} (h : LeE a b) (k : a ≠ b) : LtE a b := by
  rcases cmp_tri a b with h1 | h1 | h1
  · exact h1
  · exact absurd h1 k
  · exact absurd h1 h
theorem LeE.of_not {a b : Ex} (h : ¬ cmpE b a < 0) : LeE a b := h
theorem insE_sorted {x : Ex} {l : List Ex} (h : l.Pairwise LeE) : (insE x l).Pairwise LeE := by
  induction l with
  | nil => simp [insE]
  | cons y l ih =>
    obtain ⟨h1, h2⟩ := List.pairwise_cons.1 h
    rw [insE]
    split
    · rename_i hc
      refine List.pairwise_cons.2 ⟨fun z hz => ?_, ih h2⟩
      rcases insE_mem.1 hz with rfl | hz
      · exact LtE.le hc
      · exact h1 z hz
    · rename_i hc
      refine List.pairwise_cons.2 ⟨fun z hz => ?_, h⟩
      rcases List.mem_cons.1 hz with rfl | hz
      · exact hc
      · exact LeE.trans hc (h1 z hz)
theorem srt_sorted (l : List Ex) : (srt l).Pairwise LeE := by
  induction l with
  | nil => exact List.Pairwise.nil
  | cons x l ih => exact insE_sorted ih
theorem insE_perm (x : Ex) (l : List Ex) : (insE x l).Perm (x :: l) := by
  induction l with
  | nil => exact .refl _
  | cons y l ih =>
    rw [insE]
    split
    · exact (ih.cons y).trans (.swap _ _ _)
    · exact .refl _
theorem srt_perm (l : List Ex) : (srt l).Perm l := by
  induction l with
  | nil => exact .refl _
  | cons x l ih => exact (insE_perm x _).trans (ih.cons x)
theorem perm_sorted : ∀ {l m : List Ex}, l.Perm m → l.Pairwise LeE → m.Pairwise LeE → l = m
  | [], m, h, _, _ => (List.nil_perm.1 h).symm
  | a :: l, [], h, _, _ => by have := h.length_eq; simp at this
  | a :: l, b :: m, h, hl, hm => by
    obtain ⟨h1, h2⟩ := List.pairwise_cons.1 hl
    obtain ⟨k1, k2⟩ := List.pairwise_cons.1 hm
    have e : a = b := by
      rcases List.mem_cons.1 (h.mem_iff.1 (List.mem_cons_self (a := a) (l := l))) with e | e
      · exact e
      · rcases List.mem_cons.1 (h.mem_iff.2 (List.mem_cons_self (a := b) (l := m))) with e2 | e2
        · exact e2.symm
        · exact LeE.anti (h1 b e2) (k1 a e)
    subst e
    rw [perm_sorted (List.perm_cons a |>.1 h) h2 k2]
theorem srt_unique {l m : List Ex} (h : m.Perm l) (hm : m.Pairwise LeE) : m = srt l := perm_sorted (h.trans (srt_perm l).symm) hm (srt_sorted l)
theorem srt_id {l : List Ex} (h : l.Pairwise LtE) : srt l = l := (srt_unique (.refl l) (h.imp LtE.le)).symm
theorem cmptA_sorted : ∀ {l : List Ex} {a : Ex}, (a :: l).Pairwise LeE → (cmptA a l).Pairwise LtE
  | [], a, _ => by rw [cmptA]; exact List.pairwise_singleton _ _
  | b :: l, a, h => by
    obtain ⟨h1, h2⟩ := List.pairwise_cons.1 h
    obtain ⟨h3, h4⟩ := List.pairwise_cons.1 h2
    rw [cmptA]
    split
    · exact cmptA_sorted (List.pairwise_cons.2 ⟨fun z hz => h1 z (List.mem_cons_of_mem _ hz), h4⟩)
    · rename_i hc
      refine List.pairwise_cons.2 ⟨fun z hz => ?_, cmptA_sorted h2⟩
      have hab : LtE a b := (h1 b List.mem_cons_self).lt (fun e => hc (by rw [e]; exact cmp_self b))
      rcases cmptA_mem.1 hz with rfl | hz
      · exact hab
      · refine (h1 z (List.mem_cons_of_mem _ hz)).lt fun e => ?_
        subst e
        exact h3 a hz hab
theorem ord_sorted (l : List Ex) : (cmpt (srt l)).Pairwise LtE := by
  have h := srt_sorted l
  cases hs : srt l with
  | nil => exact List.Pairwise.nil
  | cons a m => rw [hs] at h; exact cmptA_sorted h
theorem cmptA_id : ∀ {l : List Ex} {a : Ex}, (a :: l).Pairwise LtE → cmptA a l = a :: l
  | [], a, _ => by rw [cmptA]
  | b :: l, a, h => by
    obtain ⟨h1, h2⟩ := List.pairwise_cons.1 h
    rw [cmptA, if_neg (fun e => ?_), cmptA_id h2]
    have h3 : cmpE a b < 0 := h1 b List.mem_cons_self
    have := cmp_anti a b
    omega
theorem ord_id {l : List Ex} (h : l.Pairwise LtE) : cmpt (srt l) = l := by
  rw [srt_id h]
  cases l with
  | nil => rfl
  | cons a l => exact cmptA_id h
/-- a node in normal form, its kids aside -/
def NfT (o l : Int) (ks : List Ex) : Prop :=
  ((o = 1 ∨ o = 2) ∧ l = 0 ∧ ks = []) ∨ (o = 3 ∧ ks = []) ∨ (o = 4 ∧ l = 0 ∧ 2 ≤ ks.length ∧ (∀ k ∈ ks, k.op ≠ 1 ∧ k.op ≠ 4 ∧ isUni k = false) ∧ ks.Pairwise LtE) ∨
  (o = 5 ∧ l = 0 ∧ 2 ≤ ks.length ∧ ∀ k ∈ ks, k.op ≠ 1 ∧ k.op ≠ 2 ∧ k.op ≠ 5) ∨ (o = 6 ∧ l = 0 ∧ 2 ≤ ks.length ∧ (∀ k ∈ ks, k.op ≠ 1 ∧ k.op ≠ 6 ∧ isUni k = false) ∧ ks.Pairwise LtE) ∨
  (o = 7 ∧ l = 0 ∧ ∃ k, ks = [k] ∧ k.op ≠ 1 ∧ k.op ≠ 2 ∧ k.op ≠ 7 ∧ isUni k = false) ∨ (o = 8 ∧ l = 0 ∧ ∃ k, ks = [k] ∧ ¬ (k.op = 8 ∧ k.ks.length = 1))
def nf : Ex → Prop
  | .mk o l ks => NfT o l ks ∧ nfs ks
where nfs : List Ex → Prop
  | [] => True
  | k :: ks => nf k ∧ nfs ks
open nf (nfs)
theorem nfs_all (ks : List Ex) : nfs ks ↔ ∀ k ∈ ks, nf k := by
  induction ks with
  | nil => rw [nfs]; exact ⟨fun _ _ h => (by cases h), fun _ => trivial⟩
  | cons k ks ih => rw [nfs, ih, List.forall_mem_cons]
theorem nf_mk {o l : Int} {ks : List Ex} : nf (.mk o l ks) ↔ NfT o l ks ∧ ∀ k ∈ ks, nf k := by rw [nf, nfs_all]
theorem nf_kids {e : Ex} (h : nf e) : ∀ k ∈ e.ks, nf k := by cases e; exact (nf_mk.1 h).2
theorem nf_emp : nf emp := nf_mk.2 ⟨.inl ⟨.inl rfl, rfl, rfl⟩, fun _ h => by cases h⟩
theorem nf_unit : nf unit := nf_mk.2 ⟨.inl ⟨.inr rfl, rfl, rfl⟩, fun _ h => by cases h⟩
theorem nf_uni : nf uni := nf_mk.2 ⟨.inr (.inr (.inr (.inr (.inr (.inr ⟨rfl, rfl, emp, rfl, by decide⟩))))), fun k h => by rw [List.mem_singleton] at h; rw [h]; exact nf_emp⟩
theorem nf4 {e : Ex} (h : nf e) (ho : e.op = 4) : ∀ k ∈ e.ks, k.op ≠ 1 ∧ k.op ≠ 4 ∧ isUni k = false := by
  cases e with
  | mk o l ks =>
    have ho : o = 4 := ho
    rcases (nf_mk.1 h).1 with h1 | h1 | h1 | h1 | h1 | h1 | h1
    all_goals first | exact h1.2.2.2.1 | (exact absurd h1.1 (by omega))
theorem nf5 {e : Ex} (h : nf e) (ho : e.op = 5) : ∀ k ∈ e.ks, k.op ≠ 1 ∧ k.op ≠ 2 ∧ k.op ≠ 5 := by
  cases e with
  | mk o l ks =>
    have ho : o = 5 := ho
    rcases (nf_mk.1 h).1 with h1 | h1 | h1 | h1 | h1 | h1 | h1
    all_goals first | exact h1.2.2.2 | (exact absurd h1.1 (by omega))
theorem nf6 {e : Ex} (h : nf e) (ho : e.op = 6) : ∀ k ∈ e.ks, k.op ≠ 1 ∧ k.op ≠ 6 ∧ isUni k = false := by
  cases e with
  | mk o l ks =>
    have ho : o = 6 := ho
    rcases (nf_mk.1 h).1 with h1 | h1 | h1 | h1 | h1 | h1 | h1
    all_goals first | exact h1.2.2.2.1 | (exact absurd h1.1 (by omega))
theorem flat_nf {o : Int} {ks : List Ex} (h : ∀ k ∈ ks, nf k) : ∀ e ∈ flat o ks, nf e := fun e he => by
  obtain ⟨k, hk, hek⟩ := flat_mem.1 he
  unfold flat1 at hek
  split at hek
  · exact nf_kids (h k hk) e hek
  · rw [List.mem_singleton] at hek; rw [hek]; exact h k hk
theorem any_false {p : Ex → Bool} {ks : List Ex} (h : ¬ ks.any p = true) : ∀ k ∈ ks, p k = false := fun k hk => by
  cases e : p k with
  | false => rfl
  | true => exact absurd (List.any_eq_true.2 ⟨k, hk, e⟩) h
theorem coll_nf {o : Int} {ps : List Ex} {no : Ex} (hn : nf no) (h : ∀ e ∈ ps, nf e) (ht : 2 ≤ ps.length → NfT o 0 ps) : nf (coll o ps no) := by
  rcases len_cases ps with h1 | ⟨x, h1⟩ | h1
  · rw [h1, coll_nil]; exact hn
  · rw [h1, coll_one]; exact h x (by rw [h1]; simp)
  · rw [coll_two h1]; exact nf_mk.2 ⟨ht h1, h⟩
theorem join_nf {o : Int} {ks : List Ex} (ho : o = 4 ∨ o = 5 ∨ o = 6 ∨ ((o = 7 ∨ o = 8) ∧ ks.length = 1)) (h : ∀ k ∈ ks, nf k) : nf (join o ks) := by
  unfold join
  by_cases h4 : o = 4
  · rw [if_pos h4]
    unfold jUni
    split
    · exact nf_uni
    · rename_i hu
      refine coll_nf nf_emp (fun e he => flat_nf h e (List.mem_filter.1 (ord_mem.1 he)).1) fun h2 => .inr (.inr (.inl ⟨rfl, rfl, h2, fun e he => ?_, ord_sorted _⟩))
      obtain ⟨h5, h6⟩ := List.mem_filter.1 (ord_mem.1 he)
      have h1 : e.op ≠ 1 := fun e1 => by rw [isOp_iff.2 e1] at h6; cases h6
      obtain ⟨k, hk, hek⟩ := flat_mem.1 h5
      unfold flat1 at hek
      split at hek
      · rename_i hk4
        exact ⟨h1, (nf4 (h k hk) hk4 e hek).2⟩
      · rename_i hk4
        rw [List.mem_singleton] at hek; subst hek
        exact ⟨h1, hk4, any_false hu e hk⟩
  rw [if_neg h4]
  by_cases h5 : o = 5
  · rw [if_pos h5]
    unfold jCat
    split
    · exact nf_emp
    · rename_i hu
      refine coll_nf nf_unit (fun e he => flat_nf h e (List.mem_filter.1 he).1) fun h2 => .inr (.inr (.inr (.inl ⟨rfl, rfl, h2, fun e he => ?_⟩)))
      obtain ⟨h5, h6⟩ := List.mem_filter.1 he
      have h1 : e.op ≠ 2 := fun e1 => by rw [isOp_iff.2 e1] at h6; cases h6
      obtain ⟨k, hk, hek⟩ := flat_mem.1 h5
      unfold flat1 at hek
      split at hek
      · rename_i hk4
        exact nf5 (h k hk) hk4 e hek
      · rename_i hk4
        rw [List.mem_singleton] at hek; subst hek
        refine ⟨fun e1 => ?_, h1, hk4⟩
        have := any_false hu e hk
        rw [isOp_iff.2 e1] at this; cases this
  rw [if_neg h5]
  by_cases h6 : o = 6
  · rw [if_pos h6]
    unfold jAnd
    split
    · exact nf_emp
    · rename_i hu
      refine coll_nf nf_uni (fun e he => flat_nf h e (List.mem_filter.1 (ord_mem.1 he)).1) fun h2 => .inr (.inr (.inr (.inr (.inl ⟨rfl, rfl, h2, fun e he => ?_, ord_sorted _⟩))))
      obtain ⟨h5, h6⟩ := List.mem_filter.1 (ord_mem.1 he)
      have h1 : isUni e = false := by simpa using h6
      obtain ⟨k, hk, hek⟩ := flat_mem.1 h5
      unfold flat1 at hek
      split at hek
      · rename_i hk4
        exact nf6 (h k hk) hk4 e hek
      · rename_i hk4
        rw [List.mem_singleton] at hek; subst hek
        refine ⟨fun e1 => ?_, hk4, h1⟩
        have := any_false hu e hk
        rw [isOp_iff.2 e1] at this; cases this
  rw [if_neg h6]
  obtain ⟨h7, h1⟩ : (o = 7 ∨ o = 8) ∧ ks.length = 1 := by omega
  obtain ⟨k, rfl⟩ := List.length_eq_one_iff.1 h1
  have hk := h k List.mem_cons_self
  dsimp only
  by_cases h8 : o = 8
  · rw [if_pos h8]
    unfold jNot
    split
    · rename_i h9
      obtain ⟨x, hx⟩ := List.length_eq_one_iff.1 h9.2
      rw [hx]; exact nf_kids hk x (by rw [hx]; simp)
    · rename_i h9
      exact nf_mk.2 ⟨.inr (.inr (.inr (.inr (.inr (.inr ⟨rfl, rfl, k, rfl, h9⟩))))), h⟩
  · rw [if_neg h8, if_pos (by omega)]
    unfold jStar
    split
    · exact nf_unit
    · rename_i h9
      split
      · exact hk
      · rename_i h10
        refine nf_mk.2 ⟨.inr (.inr (.inr (.inr (.inr (.inl ⟨rfl, rfl, k, rfl, fun e => h9 (.inl e), fun e => h9 (.inr e), fun e => h10 (.inl e), ?_⟩))))), h⟩
        cases e : isUni k with
        | false => rfl
        | true => exact absurd (.inr e) h10
theorem simp_nf {L : Int} : ∀ e, wf L e = true → nf (simp e) := by
  refine Ex.ind fun o l ks ih h => ?_
  by_cases hk : ks = []
  · subst hk
    rw [simp_nil]
    refine nf_mk.2 ⟨?_, fun _ h => by cases h⟩
    rcases wf_mk.1 h with ⟨h1, _⟩ | ⟨_, h1, h2, _⟩
    · exact .inr (.inl ⟨h1, rfl⟩)
    · rcases h2 with ⟨h2, _⟩ | ⟨_, h2⟩ | ⟨_, h2⟩
      · exact .inl ⟨h2, h1, rfl⟩
      · simp at h2
      · simp at h2
  · obtain ⟨ha, rfl⟩ := wf_arity h hk
    rw [simp_cons hk]
    refine join_nf (by rwa [List.length_map]) fun e he => ?_
    obtain ⟨k, hk, rfl⟩ := List.mem_map.1 he
    exact ih k hk (wf_kids h k hk)
theorem flat_id {o : Int} {ks : List Ex} (h : ∀ k ∈ ks, k.op ≠ o) : flat o ks = ks := by
  induction ks with
  | nil => rfl
  | cons k ks ih => rw [flat, flat1, if_neg (h k List.mem_cons_self), ih fun x hx => h x (List.mem_cons_of_mem _ hx)]; rfl
theorem any_no {p : Ex → Bool} {ks : List Ex} (h : ∀ k ∈ ks, p k = false) : ¬ ks.any p = true := fun hh => by
  obtain ⟨k, hk, e⟩ := List.any_eq_true.1 hh
  rw [h k hk] at e; cases e
theorem isOp_no {o : Int} {e : Ex} (h : e.op ≠ o) : isOp o e = false := by rw [isOp, decide_eq_false h]
theorem filt_id {p : Ex → Bool} {ks : List Ex} (h : ∀ k ∈ ks, p k = false) : (ks.filter fun e => !p e) = ks := List.filter_eq_self.2 fun k hk => by rw [h k hk]; rfl
theorem join_fix {o : Int} {l : Int} {ks : List Ex} (h : NfT o l ks) (hk : ks ≠ []) : join o ks = .mk o l ks := by
  rcases h with ⟨_, _, h1⟩ | ⟨_, h1⟩ | ⟨rfl, rfl, h2, h3, h4⟩ | ⟨rfl, rfl, h2, h3⟩ | ⟨rfl, rfl, h2, h3, h4⟩ | ⟨rfl, rfl, k, rfl, h1, h2, h3, h4⟩ | ⟨rfl, rfl, k, rfl, h1⟩
  · exact absurd h1 hk
  · exact absurd h1 hk
  · show (if (4 : Int) = 4 then jUni ks else _) = _
    rw [if_pos rfl, jUni, if_neg (any_no fun k hk => (h3 k hk).2.2), flat_id fun k hk => (h3 k hk).2.1, filt_id fun k hk => isOp_no (h3 k hk).1, ord_id h4, coll_two h2]
  · show (if (5 : Int) = 4 then jUni ks else if (5 : Int) = 5 then jCat ks else _) = _
    rw [if_neg (by decide), if_pos rfl, jCat, if_neg (any_no fun k hk => isOp_no (h3 k hk).1), flat_id fun k hk => (h3 k hk).2.2, filt_id fun k hk => isOp_no (h3 k hk).2.1, coll_two h2]
  · show (if (6 : Int) = 4 then jUni ks else if (6 : Int) = 5 then jCat ks else if (6 : Int) = 6 then jAnd ks else _) = _
    rw [if_neg (by decide), if_neg (by decide), if_pos rfl, jAnd, if_neg (any_no fun k hk => isOp_no (h3 k hk).1), flat_id fun k hk => (h3 k hk).2.1, filt_id fun k hk => (h3 k hk).2.2, ord_id h4, coll_two h2]
  · show jStar k = _
    rw [jStar, if_neg (fun h => h.elim h1 h2), if_neg (fun h => h.elim h3 (fun e => by rw [h4] at e; cases e))]
  · show jNot k = _
    rw [jNot, if_neg h1]
/-- what is normal stays -/
theorem nf_fix : ∀ e, nf e → simp e = e := by
  refine Ex.ind fun o l ks ih h => ?_
  by_cases hk : ks = []
  · subst hk; rw [simp_nil]
  · obtain ⟨h1, h2⟩ := nf_mk.1 h
    have e : ks.map simp = ks := by
      rw [← List.map_id ks, List.map_map]
      exact List.map_congr_left fun k hk => ih k hk (h2 k hk)
    rw [simp_cons hk, e, join_fix h1 hk]
theorem simp_simp {L : Int} {e : Ex} (h : wf L e = true) : simp (simp e) = simp e := nf_fix _ (simp_nf e h)
end Go.Ex

namespace Go.Ex
open szE (szL)
open wf (wfL)
/-! texts of expressions, and how they read -/
abbrev Tx := List UInt8
def lev (o : Int) : Nat := if o = 4 then 1 else if o = 6 then 2 else if o = 5 then 3 else if o = 8 then 4 else if o = 7 then 5 else 6
def par (p : Bool) (t : Tx) : Tx := if p then t else 40 :: (t ++ [41])
def fmtE : Ex → Tx
  | .mk o l ks => if o = 1 then [48] else if o = 2 then [49] else if o = 3 then [UInt8.ofNat (97 + l.toNat)] else if o = 4 then fmtK [124] 2 ks else if o = 6 then fmtK [38] 3 ks else if o = 5 then fmtK [] 4 ks else if o = 8 then 33 :: fmtK [] 4 ks else if o = 7 then fmtK [] 5 ks ++ [42] else []
where
  fmtK (sep : Tx) (least : Nat) : List Ex → Tx
    | [] => []
    | k :: ks => par (decide (least ≤ lev k.op)) (fmtE k) ++ fmtR sep least ks
  fmtR (sep : Tx) (least : Nat) : List Ex → Tx
    | [] => []
    | k :: ks => sep ++ par (decide (least ≤ lev k.op)) (fmtE k) ++ fmtR sep least ks
open fmtE (fmtK fmtR)
/-- the text of e where a part of class c is asked -/
def rnd (c : Nat) (e : Ex) : Tx := par (decide (c + 1 ≤ lev e.op)) (fmtE e)
theorem fmtK_cons (sep : Tx) (c : Nat) (k : Ex) (ks : List Ex) : fmtK sep (c + 1) (k :: ks) = rnd c k ++ fmtR sep (c + 1) ks := by rw [fmtK]; rfl
theorem fmtR_cons (sep : Tx) (c : Nat) (k : Ex) (ks : List Ex) : fmtR sep (c + 1) (k :: ks) = sep ++ (rnd c k ++ fmtR sep (c + 1) ks) := by rw [fmtR, List.append_assoc]; rfl
/-! a parser -/
def skip : Tx → Tx
  | [] => []
  | b :: l => if b = 32 then skip l else b :: l
def pMany (part : Tx → Option (Ex × Tx)) (go : Tx → Option Tx) : Nat → Tx → Option (List Ex × Tx)
  | 0, _ => none
  | n + 1, l => match part l with
    | none => none
    | some (e, l1) => match go (skip l1) with
      | none => some ([e], skip l1)
      | some l2 => match pMany part go n l2 with
        | none => none
        | some (es, l3) => some (e :: es, l3)
def sepG (s : UInt8) : Tx → Option Tx
  | [] => none
  | b :: l => if b = s then some l else none
def isLet (L : Nat) (b : UInt8) : Bool := decide (97 ≤ b.toNat) && decide (b.toNat - 97 < L)
def begG (L : Nat) : Tx → Option Tx
  | [] => none
  | b :: l => if b = 33 ∨ b = 40 ∨ b = 48 ∨ b = 49 ∨ isLet L b = true then some (b :: l) else none
def nodeE (o : Int) (ps : List Ex) : Ex := match ps with
  | [e] => e
  | ps => .mk o 0 ps
def stars : Nat → Ex → Tx → Option (Ex × Tx)
  | 0, _, _ => none
  | n + 1, e, l => match skip l with
    | [] => some (e, [])
    | b :: l' => if b = 42 then stars n (.mk 7 0 [e]) l' else some (e, b :: l')
def pP (L : Nat) : Nat → Nat → Tx → Option (Ex × Tx)
  | 0, _, _ => none
  | n + 1, c, l =>
    if c = 0 then (pMany (pP L n 1) (sepG 124) n l).map fun r => (nodeE 4 r.1, r.2)
    else if c = 1 then (pMany (pP L n 2) (sepG 38) n l).map fun r => (nodeE 6 r.1, r.2)
    else if c = 2 then (pMany (pP L n 3) (begG L) n l).map fun r => (nodeE 5 r.1, r.2)
    else if c = 3 then match skip l with
      | [] => pP L n 4 []
      | b :: l' => if b = 33 then (pP L n 3 l').map fun r => (.mk 8 0 [r.1], r.2) else pP L n 4 (b :: l')
    else if c = 4 then match pP L n 5 l with
      | none => none
      | some (e, l') => stars n e l'
    else match skip l with
      | [] => none
      | b :: l' => if b = 48 then some (emp, l') else if b = 49 then some (unit, l') else if isLet L b = true then some (.mk 3 ((b.toNat - 97 : Nat) : Int) [], l') else if b = 40 then match pP L n 0 l' with
          | none => none
          | some (e, l2) => match skip l2 with
            | [] => none
            | b2 :: l3 => if b2 = 41 then some (e, l3) else none
        else none
/-! what is written reads as it was -/
def OKr (c : Nat) (rest : Tx) : Prop := match rest with
  | [] => True
  | b :: _ => if c = 0 then b = 41 else if c = 1 then b = 41 ∨ b = 124 else if c = 2 then b = 41 ∨ b = 124 ∨ b = 38 else if c ≤ 4 then b ≠ 42 ∧ b ≠ 32 else True
def Beg (L : Nat) (b : UInt8) : Prop := b = 33 ∨ b = 40 ∨ b = 48 ∨ b = 49 ∨ isLet L b = true
theorem let_ne {L : Nat} {b : UInt8} (h : isLet L b = true) (hL : L ≤ 6) : 97 ≤ b.toNat ∧ b.toNat < 103 := by
  unfold isLet at h
  simp only [Bool.and_eq_true, decide_eq_true_eq] at h
  omega
theorem Beg.ne {L : Nat} {b : UInt8} (h : Beg L b) (hL : L ≤ 6) : b ≠ 32 ∧ b ≠ 41 ∧ b ≠ 42 ∧ b ≠ 124 ∧ b ≠ 38 := by
  rcases h with rfl | rfl | rfl | rfl | h
  · decide
  · decide
  · decide
  · decide
  · have := let_ne h hL
    refine ⟨?_, ?_, ?_, ?_, ?_⟩ <;> (rintro rfl; revert this; decide)
theorem skip_ne {b : UInt8} {l : Tx} (h : b ≠ 32) : skip (b :: l) = b :: l := by rw [skip, if_neg h]
theorem skip_ok {c : Nat} {rest : Tx} (h : OKr c rest) (hc : c ≤ 4) : skip rest = rest := by
  cases rest with
  | nil => rfl
  | cons b l =>
    refine skip_ne ?_
    unfold OKr at h
    dsimp only at h
    rintro rfl
    split at h
    · exact absurd h (by decide)
    · split at h
      · exact absurd h (by decide)
      · split at h
        · exact absurd h (by decide)
        · exact h.2 rfl
theorem OKr.up {c d : Nat} {rest : Tx} (h : OKr c rest) (hcd : c ≤ d) : OKr d rest := by
  cases rest with
  | nil => trivial
  | cons b l =>
    unfold OKr at h ⊢
    dsimp only at h ⊢
    have h1 : ∀ {p : Prop}, (b = 41 → p) → (b = 124 → p) → (b = 38 → p) → ((b ≠ 42 ∧ b ≠ 32) → p) → (c ≤ 4 → p) := fun a1 a2 a3 a4 hc => by
      split at h
      · exact a1 h
      · split at h
        · exact h.elim a1 a2
        · split at h
          · exact h.elim a1 (fun h => h.elim a2 a3)
          · exact a4 h
    by_cases hd0 : d = 0
    · rw [if_pos hd0]; rw [if_pos (by omega)] at h; exact h
    rw [if_neg hd0]
    by_cases hd1 : d = 1
    · rw [if_pos hd1]
      by_cases hc : c = 0
      · rw [if_pos hc] at h; exact .inl h
      · rw [if_neg hc, if_pos (by omega)] at h; exact h
    rw [if_neg hd1]
    by_cases hd2 : d = 2
    · rw [if_pos hd2]
      by_cases hc : c = 0
      · rw [if_pos hc] at h; exact .inl h
      · rw [if_neg hc] at h
        by_cases hc : c = 1
        · rw [if_pos hc] at h; exact h.elim .inl (fun h => .inr (.inl h))
        · rw [if_neg hc, if_pos (by omega)] at h; exact h
    rw [if_neg hd2]
    by_cases hd4 : d ≤ 4
    · rw [if_pos hd4]
      refine h1 ?_ ?_ ?_ id (by omega)
      · rintro rfl; decide
      · rintro rfl; decide
      · rintro rfl; decide
    · rw [if_neg hd4]; trivial
theorem par_t (t : Tx) : par true t = t := rfl
theorem par_f (t : Tx) : par false t = 40 :: (t ++ [41]) := rfl
theorem rnd_t {c : Nat} {e : Ex} (h : c + 1 ≤ lev e.op) : rnd c e = fmtE e := by rw [rnd, decide_eq_true h]; rfl
theorem rnd_f {c : Nat} {e : Ex} (h : ¬ c + 1 ≤ lev e.op) : rnd c e = 40 :: (fmtE e ++ [41]) := by rw [rnd, decide_eq_false h]; rfl
theorem lev_le (o : Int) : 1 ≤ lev o ∧ lev o ≤ 6 := by unfold lev; constructor <;> (repeat' split) <;> omega
theorem u8l {l : Int} {L : Nat} (h : 0 ≤ l ∧ l < L) (hL : L ≤ 6) : (UInt8.ofNat (97 + l.toNat)).toNat = 97 + l.toNat := by
  rw [UInt8.toNat_ofNat', Nat.mod_eq_of_lt (by omega)]
/-- a text's first letter -/
theorem fmt_head {L : Nat} (hL : L ≤ 6) : ∀ e, wf L e = true → ∃ b t, fmtE e = b :: t ∧ Beg L b ∧ (5 ≤ lev e.op → b ≠ 33) := by
  refine Ex.ind fun o l ks ih h => ?_
  have hk : ∀ c k, k ∈ ks → ∃ b t, rnd c k = b :: t ∧ Beg L b ∧ (4 ≤ c → b ≠ 33) := fun c k hk => by
    by_cases hc : c + 1 ≤ lev k.op
    · obtain ⟨b, t, e1, e2, e3⟩ := ih k hk (wf_kids h k hk)
      exact ⟨b, t, by rw [rnd_t hc, e1], e2, fun h4 => e3 (by omega)⟩
    · exact ⟨40, _, by rw [rnd_f hc], .inr (.inl rfl), fun _ => by decide⟩
  have hK : ∀ c sep, ks ≠ [] → ∃ b t, fmtK sep (c + 1) ks = b :: t ∧ Beg L b ∧ (4 ≤ c → b ≠ 33) := fun c sep hne => by
    cases ks with
    | nil => exact absurd rfl hne
    | cons k ks =>
      obtain ⟨b, t, e1, e2⟩ := hk c k List.mem_cons_self
      exact ⟨b, t ++ fmtR sep (c + 1) ks, by rw [fmtK_cons, e1]; rfl, e2⟩
  rw [fmtE]
  rcases wf_mk.1 h with ⟨rfl, rfl, h1, h2⟩ | ⟨h3, rfl, h4, _⟩
  · rw [if_neg (by decide), if_neg (by decide), if_pos rfl]
    refine ⟨_, _, rfl, .inr (.inr (.inr (.inr ?_))), fun _ => ?_⟩
    · unfold isLet
      rw [u8l ⟨h1, h2⟩ hL, Bool.and_eq_true, decide_eq_true_eq, decide_eq_true_eq]; omega
    · intro e
      have := congrArg UInt8.toNat e
      rw [u8l ⟨h1, h2⟩ hL] at this
      rw [show (33 : UInt8).toNat = 33 from rfl] at this
      omega
  · rcases h4 with ⟨h4, rfl⟩ | ⟨h4, h5⟩ | ⟨h4, h5⟩
    · rcases h4 with rfl | rfl
      · rw [if_pos rfl]; exact ⟨48, [], rfl, .inr (.inr (.inl rfl)), fun _ => by decide⟩
      · rw [if_neg (by decide), if_pos rfl]; exact ⟨49, [], rfl, .inr (.inr (.inr (.inl rfl))), fun _ => by decide⟩
    · have hne : ks ≠ [] := fun e => by rw [e] at h5; simp at h5
      rcases h4 with rfl | rfl | rfl
      · rw [if_neg (by decide), if_neg (by decide), if_neg (by decide), if_pos rfl]
        obtain ⟨b, t, e1, e2, _⟩ := hK 1 [124] hne
        exact ⟨b, t, e1, e2, fun h => absurd h (by show ¬ 5 ≤ lev 4; decide)⟩
      · rw [if_neg (by decide), if_neg (by decide), if_neg (by decide), if_neg (by decide), if_neg (by decide), if_pos rfl]
        obtain ⟨b, t, e1, e2, _⟩ := hK 3 [] hne
        exact ⟨b, t, e1, e2, fun h => absurd h (by show ¬ 5 ≤ lev 5; decide)⟩
      · rw [if_neg (by decide), if_neg (by decide), if_neg (by decide), if_neg (by decide), if_pos rfl]
        obtain ⟨b, t, e1, e2, _⟩ := hK 2 [38] hne
        exact ⟨b, t, e1, e2, fun h => absurd h (by show ¬ 5 ≤ lev 6; decide)⟩
    · have hne : ks ≠ [] := fun e => by rw [e] at h5; simp at h5
      rcases h4 with rfl | rfl
      · rw [if_neg (by decide), if_neg (by decide), if_neg (by decide), if_neg (by decide), if_neg (by decide), if_neg (by decide), if_neg (by decide), if_pos rfl]
        obtain ⟨b, t, e1, e2, e3⟩ := hK 4 [] hne
        exact ⟨b, t ++ [42], by rw [e1]; rfl, e2, fun _ => e3 (by omega)⟩
      · rw [if_neg (by decide), if_neg (by decide), if_neg (by decide), if_neg (by decide), if_neg (by decide), if_neg (by decide), if_pos rfl]
        exact ⟨33, _, rfl, .inl rfl, fun h => absurd h (by show ¬ 5 ≤ lev 8; decide)⟩
theorem rnd_head {L : Nat} (hL : L ≤ 6) {e : Ex} (h : wf L e = true) (c : Nat) : ∃ b t, rnd c e = b :: t ∧ Beg L b ∧ (4 ≤ c → b ≠ 33) := by
  by_cases hc : c + 1 ≤ lev e.op
  · obtain ⟨b, t, e1, e2, e3⟩ := fmt_head hL e h
    exact ⟨b, t, by rw [rnd_t hc, e1], e2, fun h4 => e3 (by omega)⟩
  · exact ⟨40, _, by rw [rnd_f hc], .inr (.inl rfl), fun _ => by decide⟩
end Go.Ex

namespace Go.Ex
open szE (szL)
open wf (wfL)
open fmtE (fmtK fmtR)
/-! what is written reads as it was -/
def starN : Nat → Ex → Ex
  | 0, e => e
  | j + 1, e => starN j (.mk 7 0 [e])
theorem stars_ok : ∀ {j n : Nat} {e : Ex} {rest : Tx}, OKr 4 rest → j + 1 ≤ n → stars n e (List.replicate j 42 ++ rest) = some (starN j e, rest)
  | 0, n + 1, e, rest, hr, _ => by
    rw [List.replicate_zero, List.nil_append, stars, skip_ok hr (Nat.le_refl _)]
    cases rest with
    | nil => rfl
    | cons b l =>
      have h : b ≠ 42 ∧ b ≠ 32 := hr
      dsimp only
      rw [if_neg h.1]; rfl
  | j + 1, n + 1, e, rest, hr, hn => by
    rw [List.replicate_succ, List.cons_append, stars, skip_ne (by decide)]
    dsimp only
    rw [if_pos rfl]
    exact stars_ok hr (by omega)
theorem many_ok {part : Tx → Option (Ex × Tx)} {go : Tx → Option Tx} {sep : Tx} {c : Nat} {rest : Tx} (hr : OKr c rest) (hs : skip rest = rest) (hg2 : go rest = none) : ∀ {ks : List Ex} {n : Nat}, ks ≠ [] → ks.length ≤ n →
    (∀ k ∈ ks, ∀ r, OKr c r → part (rnd c k ++ r) = some (k, r)) → (∀ k ∈ ks, ∀ r, OKr c (sep ++ (rnd c k ++ r)) ∧ go (skip (sep ++ (rnd c k ++ r))) = some (rnd c k ++ r)) → pMany part go n (fmtK sep (c + 1) ks ++ rest) = some (ks, rest)
  | [], _, h, _, _, _ => absurd rfl h
  | k :: ks, 0, _, h, _, _ => absurd h (by simp)
  | [k], n + 1, _, _, hp, _ => by
    rw [fmtK_cons, fmtR, List.append_nil, pMany, hp k List.mem_cons_self rest hr]
    dsimp only
    rw [hs, hg2]
  | k :: k2 :: ks, n + 1, _, hn, hp, hg => by
    have h2 := hg k2 (List.mem_cons_of_mem _ List.mem_cons_self) (fmtR sep (c + 1) ks ++ rest)
    have ih := many_ok hr hs hg2 (ks := k2 :: ks) (n := n) (by simp) (by simpa using hn) (fun x hx => hp x (List.mem_cons_of_mem _ hx)) (fun x hx => hg x (List.mem_cons_of_mem _ hx))
    rw [fmtK_cons, List.append_assoc] at ih
    rw [fmtK_cons, fmtR_cons, List.append_assoc, List.append_assoc, List.append_assoc, pMany, hp k List.mem_cons_self _ h2.1]
    dsimp only
    rw [h2.2]
    dsimp only
    rw [ih]
theorem OKr_beg {L : Nat} (hL : L ≤ 6) {b : UInt8} {t : Tx} (h : Beg L b) : OKr 3 (b :: t) ∧ OKr 4 (b :: t) := by
  obtain ⟨h1, h2, h3, h4, h5⟩ := h.ne hL
  exact ⟨⟨h3, h1⟩, ⟨h3, h1⟩⟩
theorem begG_some {L : Nat} {b : UInt8} {t : Tx} (h : Beg L b) : begG L (b :: t) = some (b :: t) := by
  have h : b = 33 ∨ b = 40 ∨ b = 48 ∨ b = 49 ∨ isLet L b = true := h
  rw [begG, if_pos h]
theorem begG_none {L : Nat} (hL : L ≤ 6) {rest : Tx} (h : OKr 2 rest) : begG L rest = none := by
  cases rest with
  | nil => rfl
  | cons b l =>
    have h : b = 41 ∨ b = 124 ∨ b = 38 := h
    rw [begG, if_neg (fun hb => ?_)]
    obtain ⟨_, h2, _, h4, h5⟩ := Beg.ne hb hL
    rcases h with h | h | h
    · exact h2 h
    · exact h4 h
    · exact h5 h
theorem sepG_none {s : UInt8} {rest : Tx} (h : ∀ b l, rest = b :: l → b ≠ s) : sepG s rest = none := by
  cases rest with
  | nil => rfl
  | cons b l => rw [sepG, if_neg (h b l rfl)]
theorem sepG_some (s : UInt8) (l : Tx) : sepG s (s :: l) = some l := by rw [sepG, if_pos rfl]
theorem sep0 {rest : Tx} (h : OKr 0 rest) : sepG 124 rest = none := sepG_none fun b l e => by
  subst e
  have h : b = 41 := h
  subst h; decide
theorem sep1 {rest : Tx} (h : OKr 1 rest) : sepG 38 rest = none := sepG_none fun b l e => by
  subst e
  have h : b = 41 ∨ b = 124 := h
  rcases h with rfl | rfl <;> decide
theorem OK124 (t : Tx) : OKr 1 (124 :: t) := show (124 : UInt8) = 41 ∨ (124 : UInt8) = 124 from .inr rfl
theorem OK38 (t : Tx) : OKr 2 (38 :: t) := show (38 : UInt8) = 41 ∨ (38 : UInt8) = 124 ∨ (38 : UInt8) = 38 from .inr (.inr rfl)
/-- class c by class c + 1 -/
theorem dele {L : Nat} (hL : L ≤ 6) {c m n : Nat} {e : Ex} {t rest : Tx} (hc : c ≤ 2) (h : ∀ n rest, OKr (c + 1) rest → m ≤ n → pP L n (c + 1) (t ++ rest) = some (e, rest)) (hr : OKr c rest) (hn : m + 2 ≤ n) : pP L n c (t ++ rest) = some (e, rest) := by
  obtain ⟨n, rfl⟩ : ∃ k, n = k + 2 := ⟨n - 2, by omega⟩
  have hp := h (n + 1) rest (hr.up (by omega)) (by omega)
  have hs := skip_ok hr (by omega)
  rw [pP]
  have key : ∀ (go : Tx → Option Tx), go rest = none → pMany (pP L (n + 1) (c + 1)) go (n + 1) (t ++ rest) = some ([e], rest) := fun go hg => by
    rw [pMany, hp]
    dsimp only
    rw [hs, hg]
  by_cases h0 : c = 0
  · subst h0
    rw [if_pos rfl, key _ (sep0 hr)]; rfl
  rw [if_neg h0]
  by_cases h1 : c = 1
  · subst h1
    rw [if_pos rfl, key _ (sep1 hr)]; rfl
  rw [if_neg h1]
  obtain rfl : c = 2 := by omega
  rw [if_pos rfl, key _ (begG_none hL hr)]; rfl
/-- class 3 by class 4 -/
theorem dele3 {L : Nat} {m n : Nat} {e : Ex} {t rest : Tx} {b : UInt8} {t' : Tx} (ht : t = b :: t') (hb : b ≠ 33 ∧ b ≠ 32) (h : ∀ n rest, OKr 4 rest → m ≤ n → pP L n 4 (t ++ rest) = some (e, rest)) (hr : OKr 3 rest) (hn : m + 1 ≤ n) : pP L n 3 (t ++ rest) = some (e, rest) := by
  obtain ⟨n, rfl⟩ : ∃ k, n = k + 1 := ⟨n - 1, by omega⟩
  have := h n rest (hr.up (by omega)) (by omega)
  subst ht
  rw [List.cons_append] at this ⊢
  rw [pP, if_neg (by decide), if_neg (by decide), if_neg (by decide), if_pos rfl, skip_ne hb.2]
  dsimp only
  rw [if_neg hb.1]
  exact this
/-- from an atom to its stars -/
theorem atomS {L : Nat} {m n j : Nat} {e : Ex} {t rest : Tx} (h : ∀ n rest, m ≤ n → pP L n 5 (t ++ rest) = some (e, rest)) (hr : OKr 4 rest) (hn : m + 2 + j ≤ n) : pP L n 4 (t ++ (List.replicate j 42 ++ rest)) = some (starN j e, rest) := by
  obtain ⟨n, rfl⟩ : ∃ k, n = k + 1 := ⟨n - 1, by omega⟩
  rw [pP, if_neg (by decide), if_neg (by decide), if_neg (by decide), if_neg (by decide), if_pos rfl, h n _ (by omega)]
  dsimp only
  exact stars_ok hr (by omega)
/-- in parentheses -/
theorem wrapA {L : Nat} (hL : L ≤ 6) {m n : Nat} {e : Ex} {t rest : Tx} (h : ∀ n rest, OKr 0 rest → m ≤ n → pP L n 0 (t ++ rest) = some (e, rest)) (hn : m + 1 ≤ n) : pP L n 5 ((40 :: (t ++ [41])) ++ rest) = some (e, rest) := by
  obtain ⟨n, rfl⟩ : ∃ k, n = k + 1 := ⟨n - 1, by omega⟩
  have h1 := h n (41 :: rest) rfl (by omega)
  rw [List.cons_append, pP, if_neg (by decide), if_neg (by decide), if_neg (by decide), if_neg (by decide), if_neg (by decide), skip_ne (by decide)]
  dsimp only
  rw [if_neg (by decide), if_neg (by decide), if_neg (fun h => by have := let_ne h hL; revert this; decide), if_pos rfl, List.append_assoc, List.singleton_append, h1]
  dsimp only
  rw [skip_ne (by decide)]
  dsimp only
  rw [if_pos rfl]
/-- both contracts for e -/
structure Rds (L : Nat) (e : Ex) : Prop where
  all : ∀ c n rest, c ≤ 5 → c ≠ 4 → OKr c rest → 14 * szE e ≤ n → pP L n c (rnd c e ++ rest) = some (e, rest)
  st : ∀ n j rest, OKr 4 rest → 14 * szE e + j ≤ n → pP L n 4 (rnd 4 e ++ (List.replicate j 42 ++ rest)) = some (starN j e, rest)
theorem lens_szL : ∀ ks : List Ex, ks.length ≤ szL ks
  | [] => Nat.le_refl _
  | k :: ks => by
    rw [szL, List.length_cons]
    have := lens_szL ks
    have := szE_pos k
    omega
/-- what is left once the own class is done: t is the text of e, of class C -/
theorem Rds.of {L : Nat} (hL : L ≤ 6) {e : Ex} {t : Tx} (ht : fmtE e = t) {C : Nat} (hC : lev e.op = C + 1) (hC3 : C ≤ 3) (h : ∀ n rest, OKr C rest → 14 * szE e - 13 ≤ n → pP L n C (t ++ rest) = some (e, rest)) : Rds L e := by
  have hz := szE_pos e
  -- down to 0
  have D : ∀ d, d ≤ C → ∀ n rest, OKr (C - d) rest → 14 * szE e - 13 + 2 * d ≤ n → pP L n (C - d) (t ++ rest) = some (e, rest) := by
    intro d
    induction d with
    | zero => intro _ n rest hr hn; exact h n rest hr (by omega)
    | succ d ih =>
      intro hd n rest hr hn
      refine dele hL (m := 14 * szE e - 13 + 2 * d) (by omega) (fun n rest hr hn => ?_) hr (by omega)
      rw [show C - (d + 1) + 1 = C - d by omega] at hr ⊢
      exact ih (by omega) n rest hr hn
  have D0 : ∀ n rest, OKr 0 rest → 14 * szE e - 7 ≤ n → pP L n 0 (t ++ rest) = some (e, rest) := fun n rest hr hn => by
    have := D C (Nat.le_refl _) n rest (by rw [Nat.sub_self]; exact hr) (by omega)
    rwa [Nat.sub_self] at this
  have W5 : ∀ n rest, 14 * szE e - 6 ≤ n → pP L n 5 ((40 :: (t ++ [41])) ++ rest) = some (e, rest) := fun n rest hn => wrapA hL D0 (by omega)
  have W4 : ∀ n j rest, OKr 4 rest → 14 * szE e - 4 + j ≤ n → pP L n 4 ((40 :: (t ++ [41])) ++ (List.replicate j 42 ++ rest)) = some (starN j e, rest) := fun n j rest hr hn => atomS W5 hr (by omega)
  have W3 : ∀ n rest, OKr 3 rest → 14 * szE e - 3 ≤ n → pP L n 3 ((40 :: (t ++ [41])) ++ rest) = some (e, rest) := fun n rest hr hn => by
    refine dele3 rfl ⟨by decide, by decide⟩ (m := 14 * szE e - 4) (fun n rest hr hn => ?_) hr (by omega)
    exact W4 n 0 rest hr (by omega)
  have W2 : ∀ n rest, OKr 2 rest → 14 * szE e - 1 ≤ n → pP L n 2 ((40 :: (t ++ [41])) ++ rest) = some (e, rest) := fun n rest hr hn => dele hL (Nat.le_refl _) W3 hr (by omega)
  refine ⟨fun c n rest hc5 hc4 hr hn => ?_, fun n j rest hr hn => ?_⟩
  · by_cases hc : c + 1 ≤ lev e.op
    · rw [rnd_t hc, ht]
      have := D (C - c) (by omega) n rest (by rw [show C - (C - c) = c by omega]; exact hr) (by omega)
      rwa [show C - (C - c) = c by omega] at this
    · rw [rnd_f hc, ht]
      by_cases h5 : c = 5
      · subst h5; exact W5 n rest (by omega)
      by_cases h3 : c = 3
      · subst h3; exact W3 n rest hr (by omega)
      by_cases h2 : c = 2
      · subst h2; exact W2 n rest hr (by omega)
      · -- c = 1, lev 1
        obtain rfl : c = 1 := by have := lev_le e.op; omega
        have W1 : ∀ n rest, OKr 1 rest → 14 * szE e ≤ n → pP L n 1 ((40 :: (t ++ [41])) ++ rest) = some (e, rest) := fun n rest hr hn => by
          refine dele hL (m := 14 * szE e - 2) (by decide) (fun n rest hr hn => ?_) hr (by omega)
          refine dele hL (m := 14 * szE e - 4) (by decide) (fun n rest hr hn => ?_) hr (by omega)
          refine dele3 rfl ⟨by decide, by decide⟩ (m := 14 * szE e - 5) (fun n rest hr hn => ?_) hr (by omega)
          exact atomS (m := 14 * szE e - 7) (j := 0) (fun n rest hn => wrapA hL (m := 14 * szE e - 8) (fun n rest hr hn => by
            have := D C (Nat.le_refl _) n rest (by rw [Nat.sub_self]; exact hr) (by have := lev_le e.op; omega)
            rwa [Nat.sub_self] at this) (by omega)) hr (by omega)
        exact W1 n rest hr hn
  · rw [rnd_f (by omega), ht]
    exact W4 n j rest hr (by omega)
/-- every expression reads as it was written -/
theorem reads {L : Nat} (hL : L ≤ 6) : ∀ e, wf L e = true → Rds L e := by
  refine Ex.ind fun o l ks ih h => ?_
  have ih' : ∀ k ∈ ks, Rds L k := fun k hk => ih k hk (wf_kids h k hk)
  have hh := wf_kids h
  have hsz : ∀ k ∈ ks, szE k + 1 ≤ szE (.mk o l ks) := fun k hk => by
    rw [szE]; have := szL_mem hk; omega
  have hlen : ks.length + 1 ≤ szE (.mk o l ks) := by rw [szE]; have := lens_szL ks; omega
  have hhd : ∀ c k, k ∈ ks → ∀ r, ∃ b t, rnd c k ++ r = b :: t ∧ Beg L b ∧ (4 ≤ c → b ≠ 33) := fun c k hk r => by
    obtain ⟨b, t, e1, e2⟩ := rnd_head hL (hh k hk) c
    exact ⟨b, t ++ r, by rw [e1]; rfl, e2⟩
  have atom : ∀ t, fmtE (.mk o l ks) = t → lev o = 6 → (∃ b t', t = b :: t' ∧ b ≠ 33 ∧ b ≠ 32) → (∀ n rest, 1 ≤ n → pP L n 5 (t ++ rest) = some (.mk o l ks, rest)) → Rds L (.mk o l ks) := fun t ht h6 ⟨b, t', e1, e2⟩ h5 => by
    have hz := szE_pos (.mk o l ks)
    have h6 : lev (Ex.mk o l ks).op = 6 := h6
    have S4 : ∀ n j rest, OKr 4 rest → 3 + j ≤ n → pP L n 4 (t ++ (List.replicate j 42 ++ rest)) = some (starN j (.mk o l ks), rest) := fun n j rest hr hn => atomS h5 hr (by omega)
    have S3 : ∀ n rest, OKr 3 rest → 4 ≤ n → pP L n 3 (t ++ rest) = some (.mk o l ks, rest) := fun n rest hr hn => dele3 e1 e2 (m := 3) (fun n rest hr hn => S4 n 0 rest hr (by omega)) hr (by omega)
    have S2 : ∀ n rest, OKr 2 rest → 6 ≤ n → pP L n 2 (t ++ rest) = some (.mk o l ks, rest) := fun n rest hr hn => dele hL (Nat.le_refl _) S3 hr (by omega)
    have S1 : ∀ n rest, OKr 1 rest → 8 ≤ n → pP L n 1 (t ++ rest) = some (.mk o l ks, rest) := fun n rest hr hn => dele hL (by decide) S2 hr (by omega)
    have S0 : ∀ n rest, OKr 0 rest → 10 ≤ n → pP L n 0 (t ++ rest) = some (.mk o l ks, rest) := fun n rest hr hn => dele hL (by decide) S1 hr (by omega)
    refine ⟨fun c n rest hc5 hc4 hr hn => ?_, fun n j rest hr hn => ?_⟩
    · rw [rnd_t (by omega), ht]
      by_cases h5' : c = 5
      · subst h5'; exact h5 n rest (by omega)
      by_cases h3 : c = 3
      · subst h3; exact S3 n rest hr (by omega)
      by_cases h2 : c = 2
      · subst h2; exact S2 n rest hr (by omega)
      by_cases h1 : c = 1
      · subst h1; exact S1 n rest hr (by omega)
      obtain rfl : c = 0 := by omega
      exact S0 n rest hr (by omega)
    · rw [rnd_t (by omega), ht]
      exact S4 n j rest hr (by omega)
  have at5 : ∀ (b : UInt8) (e : Ex), b ≠ 32 → (∀ n rest, (if b = 48 then some (emp, rest) else if b = 49 then some (unit, rest) else if isLet L b = true then some (Ex.mk 3 ((b.toNat - 97 : Nat) : Int) [], rest) else if b = 40 then match pP L n 0 rest with
          | none => none
          | some (e, l2) => match skip l2 with
            | [] => none
            | b2 :: l3 => if b2 = 41 then some (e, l3) else none
        else none) = some (e, rest)) → ∀ n rest, 1 ≤ n → pP L n 5 ([b] ++ rest) = some (e, rest) := fun b e hb he n rest hn => by
    obtain ⟨n, rfl⟩ : ∃ k, n = k + 1 := ⟨n - 1, by omega⟩
    rw [List.singleton_append, pP, if_neg (by decide), if_neg (by decide), if_neg (by decide), if_neg (by decide), if_neg (by decide), skip_ne hb]
    exact he n rest
  rcases wf_mk.1 h with ⟨rfl, rfl, h1, h2⟩ | ⟨h3, rfl, h4, _⟩
  · have hu := u8l ⟨h1, h2⟩ hL
    have ne : ∀ x : UInt8, x.toNat < 97 → UInt8.ofNat (97 + l.toNat) ≠ x := fun x hx e => by
      have := congrArg UInt8.toNat e
      rw [hu] at this; omega
    refine atom [UInt8.ofNat (97 + l.toNat)] (by rw [fmtE, if_neg (by decide), if_neg (by decide), if_pos rfl]) rfl ⟨_, _, rfl, ne 33 (by decide), ne 32 (by decide)⟩ (at5 _ _ (ne 32 (by decide)) fun n rest => ?_)
    rw [if_neg (ne 48 (by decide)), if_neg (ne 49 (by decide)), if_pos (by unfold isLet; rw [hu, Bool.and_eq_true, decide_eq_true_eq, decide_eq_true_eq]; omega), hu]
    rw [show ((97 + l.toNat - 97 : Nat) : Int) = l by omega]
  · rcases h4 with ⟨h4, rfl⟩ | ⟨h4, h5⟩ | ⟨h4, h5⟩
    · rcases h4 with rfl | rfl
      · exact atom [48] (by rw [fmtE, if_pos rfl]) rfl ⟨_, _, rfl, by decide, by decide⟩ (at5 _ _ (by decide) fun n rest => by rw [if_pos rfl]; rfl)
      · exact atom [49] (by rw [fmtE, if_neg (by decide), if_pos rfl]) rfl ⟨_, _, rfl, by decide, by decide⟩ (at5 _ _ (by decide) fun n rest => by rw [if_neg (by decide), if_pos rfl]; rfl)
    · have hne : ks ≠ [] := fun e => by rw [e] at h5; simp at h5
      have hnode : ∀ o', nodeE o' ks = .mk o' 0 ks := fun o' => by
        match ks, h5 with
        | _ :: _ :: _, _ => rfl
      rcases h4 with rfl | rfl | rfl
      · refine Rds.of hL (C := 0) (t := fmtK [124] 2 ks) (by rw [fmtE, if_neg (by decide), if_neg (by decide), if_neg (by decide), if_pos rfl]) rfl (by decide) fun n rest hr hn => ?_
        obtain ⟨n, rfl⟩ : ∃ k, n = k + 1 := ⟨n - 1, by omega⟩
        rw [pP, if_pos rfl, many_ok (c := 1) (hr.up (by decide)) (skip_ok hr (by decide)) (sep0 hr) hne (by omega)
          (fun k hk r hr => (ih' k hk).all 1 n r (by decide) (by decide) hr (by have := hsz k hk; omega)) (fun k hk r => ⟨OK124 _, by rw [List.singleton_append, skip_ne (by decide), sepG_some]⟩)]
        show some (nodeE 4 ks, rest) = _
        rw [hnode]
      · refine Rds.of hL (C := 2) (t := fmtK [] 4 ks) (by rw [fmtE, if_neg (by decide), if_neg (by decide), if_neg (by decide), if_neg (by decide), if_neg (by decide), if_pos rfl]) rfl (by decide) fun n rest hr hn => ?_
        obtain ⟨n, rfl⟩ : ∃ k, n = k + 1 := ⟨n - 1, by omega⟩
        rw [pP, if_neg (by decide), if_neg (by decide), if_pos rfl, many_ok (c := 3) (hr.up (by decide)) (skip_ok hr (by decide)) (begG_none hL hr) hne (by omega)
          (fun k hk r hr => (ih' k hk).all 3 n r (by decide) (by decide) hr (by have := hsz k hk; omega)) (fun k hk r => by
            obtain ⟨b, t, e1, e2, _⟩ := hhd 3 k hk r
            rw [List.nil_append, e1, skip_ne (e2.ne hL).1, begG_some e2]
            exact ⟨(OKr_beg hL e2).1, rfl⟩)]
        show some (nodeE 5 ks, rest) = _
        rw [hnode]
      · refine Rds.of hL (C := 1) (t := fmtK [38] 3 ks) (by rw [fmtE, if_neg (by decide), if_neg (by decide), if_neg (by decide), if_neg (by decide), if_pos rfl]) rfl (by decide) fun n rest hr hn => ?_
        obtain ⟨n, rfl⟩ : ∃ k, n = k + 1 := ⟨n - 1, by omega⟩
        rw [pP, if_neg (by decide), if_pos rfl, many_ok (c := 2) (hr.up (by decide)) (skip_ok hr (by decide)) (sep1 hr) hne (by omega)
          (fun k hk r hr => (ih' k hk).all 2 n r (by decide) (by decide) hr (by have := hsz k hk; omega)) (fun k hk r => ⟨OK38 _, by rw [List.singleton_append, skip_ne (by decide), sepG_some]⟩)]
        show some (nodeE 6 ks, rest) = _
        rw [hnode]
    · obtain ⟨k, rfl⟩ := List.length_eq_one_iff.1 h5
      have hk := ih' k List.mem_cons_self
      have hkz := hsz k List.mem_cons_self
      rcases h4 with rfl | rfl
      · -- a star
        have hf : fmtE (.mk 7 0 [k]) = rnd 4 k ++ [42] := by
          rw [fmtE, if_neg (by decide), if_neg (by decide), if_neg (by decide), if_neg (by decide), if_neg (by decide), if_neg (by decide), if_neg (by decide), if_pos rfl, fmtK_cons, fmtR, List.append_nil]
        have hl : lev (Ex.mk 7 0 [k]).op = 5 := rfl
        obtain ⟨b, t', e1, e2, e3⟩ := hhd 4 k List.mem_cons_self [42]
        have S4 : ∀ n j rest, OKr 4 rest → 14 * szE (.mk 7 0 [k]) - 13 + j ≤ n → pP L n 4 ((rnd 4 k ++ [42]) ++ (List.replicate j 42 ++ rest)) = some (starN j (.mk 7 0 [k]), rest) := fun n j rest hr hn => by
          rw [List.append_assoc, List.singleton_append, ← List.cons_append, ← List.replicate_succ]
          exact hk.st n (j + 1) rest hr (by omega)
        have S3 : ∀ n rest, OKr 3 rest → 14 * szE (.mk 7 0 [k]) - 12 ≤ n → pP L n 3 ((rnd 4 k ++ [42]) ++ rest) = some (.mk 7 0 [k], rest) := fun n rest hr hn => dele3 e1 ⟨e3 (by decide), (e2.ne hL).1⟩ (m := 14 * szE (.mk 7 0 [k]) - 13) (fun n rest hr hn => S4 n 0 rest hr (by omega)) hr (by omega)
        have S2 : ∀ n rest, OKr 2 rest → 14 * szE (.mk 7 0 [k]) - 10 ≤ n → pP L n 2 ((rnd 4 k ++ [42]) ++ rest) = some (.mk 7 0 [k], rest) := fun n rest hr hn => dele hL (Nat.le_refl _) S3 hr (by omega)
        have S1 : ∀ n rest, OKr 1 rest → 14 * szE (.mk 7 0 [k]) - 8 ≤ n → pP L n 1 ((rnd 4 k ++ [42]) ++ rest) = some (.mk 7 0 [k], rest) := fun n rest hr hn => dele hL (by decide) S2 hr (by omega)
        have S0 : ∀ n rest, OKr 0 rest → 14 * szE (.mk 7 0 [k]) - 6 ≤ n → pP L n 0 ((rnd 4 k ++ [42]) ++ rest) = some (.mk 7 0 [k], rest) := fun n rest hr hn => dele hL (by decide) S1 hr (by omega)
        refine ⟨fun c n rest hc5 hc4 hr hn => ?_, fun n j rest hr hn => ?_⟩
        · by_cases h5' : c = 5
          · subst h5'
            rw [rnd_f (by rw [hl]; decide), hf]
            exact wrapA hL S0 (by omega)
          rw [rnd_t (by omega), hf]
          by_cases h3 : c = 3
          · subst h3; exact S3 n rest hr (by omega)
          by_cases h2 : c = 2
          · subst h2; exact S2 n rest hr (by omega)
          by_cases h1 : c = 1
          · subst h1; exact S1 n rest hr (by omega)
          obtain rfl : c = 0 := by omega
          exact S0 n rest hr (by omega)
        · rw [rnd_t (by omega), hf]
          exact S4 n j rest hr (by omega)
      · -- a complement
        refine Rds.of hL (C := 3) (t := 33 :: rnd 3 k) (by rw [fmtE, if_neg (by decide), if_neg (by decide), if_neg (by decide), if_neg (by decide), if_neg (by decide), if_neg (by decide), if_pos rfl, fmtK_cons, fmtR, List.append_nil]) rfl (by decide) fun n rest hr hn => ?_
        obtain ⟨n, rfl⟩ : ∃ k, n = k + 1 := ⟨n - 1, by omega⟩
        rw [List.cons_append, pP, if_neg (by decide), if_neg (by decide), if_neg (by decide), if_pos rfl, skip_ne (by decide)]
        dsimp only
        rw [if_pos rfl, hk.all 3 n rest (by decide) (by decide) hr (by omega)]
        rfl
/-- what parseText finds in the text of e -/
theorem parse_fmt {L : Nat} (hL : L ≤ 6) {e : Ex} (h : wf L e = true) : pP L (14 * szE e) 0 (fmtE e) = some (e, []) := by
  have := (reads hL e h).all 0 (14 * szE e) [] (by decide) (by decide) trivial (Nat.le_refl _)
  rw [rnd_t (by have := lev_le e.op; omega), List.append_nil] at this
  exact this
theorem fmt_inj {L : Nat} (hL : L ≤ 6) {e f : Ex} (he : wf L e = true) (hf : wf L f = true) (h : fmtE e = fmtE f) : e = f := by
  have h1 := (reads hL e he).all 0 (14 * szE e + 14 * szE f) [] (by decide) (by decide) trivial (by omega)
  have h2 := (reads hL f hf).all 0 (14 * szE e + 14 * szE f) [] (by decide) (by decide) trivial (by omega)
  rw [rnd_t (by have := lev_le e.op; omega), List.append_nil] at h1
  rw [rnd_t (by have := lev_le f.op; omega), List.append_nil, ← h, h1] at h2
  exact congrArg Prod.fst (Option.some.inj h2)
end Go.Ex

namespace Go.Ex
open szE (szL)
open dpE (dpL)
open dv (dvL dvC)
open wf (wfL)
/-! a derivative, from the left; its size -/
theorem dvC_snoc (n : Bool) (x : Int) (k : Ex) : ∀ l : List Ex, dvC n x (l ++ [k]) = if (dvC n x l).2.2 = true then ((dvC n x l).1 ++ [(dv n x k).by'], (dvC n x l).2.1 ++ [(dv n x k).self], (dv n x k).nl) else ((dvC n x l).1, (dvC n x l).2.1 ++ [if n = true then k else simp k], false) := by
  intro l
  induction l with
  | nil =>
    rw [List.nil_append, dvC, dvC]
    cases h : (dv n x k).nl <;> simp [dvC]
  | cons y l ih =>
    rw [List.cons_append, dvC, dvC]
    cases h : (dv n x y).nl
    · simp
    · simp only [if_true]
      rw [ih]
      split <;> simp
theorem dvC_len (n : Bool) (x : Int) : ∀ l : List Ex, (dvC n x l).2.1.length = l.length ∧ (dvC n x l).1.length ≤ l.length := by
  intro l
  induction l with
  | nil => rw [dvC]; exact ⟨rfl, Nat.le_refl _⟩
  | cons y l ih =>
    rw [dvC]
    cases h : (dv n x y).nl
    · simp
    · simp only [if_true, List.length_cons]; omega
theorem catP_len : ∀ (bs ss : List Ex), (catP bs ss).length = bs.length := by
  intro bs
  induction bs with
  | nil => intro ss; rfl
  | cons b bs ih => intro ss; rw [catP, List.length_cons, ih, List.length_cons]
theorem catP_get : ∀ (bs ss : List Ex) (i : Nat) (z : Ex), i < bs.length → (catP bs ss).getD i z = if (bs.getD i z).op = 1 then bs.getD i z else join 5 (bs.getD i z :: ss.drop (i + 1)) := by
  intro bs
  induction bs with
  | nil => intro ss i z h; cases h
  | cons b bs ih =>
    intro ss i z h
    rw [catP]
    cases i with
    | zero => simp [List.getD]
    | succ i =>
      have := ih ss.tail i z (by simpa using h)
      rw [List.getD_cons_succ, this, List.getD_cons_succ]
      simp [List.drop_tail]
theorem cube {a b c : Nat} (h : a + b ≤ c) : 2 * a ^ 3 + 2 * b ^ 3 ≤ 2 * c ^ 3 := by
  have h1 : (a + b) ^ 3 ≤ c ^ 3 := Nat.pow_le_pow_left h 3
  have h2 : (a + b) ^ 3 = a ^ 3 + b ^ 3 + 3 * (a * a * b) + 3 * (a * b * b) := by
    simp only [Nat.pow_succ, Nat.pow_zero, Nat.one_mul, Nat.add_mul, Nat.mul_add]
    simp only [Nat.mul_comm, Nat.mul_left_comm]
    omega
  omega
theorem szL_cubes {f : Ex → Ex} : ∀ {ks : List Ex}, (∀ k ∈ ks, szE (f k) ≤ 2 * szE k ^ 3) → szL (ks.map f) ≤ 2 * szL ks ^ 3 := by
  intro ks
  induction ks with
  | nil => intro _; exact Nat.zero_le _
  | cons k ks ih =>
    intro h
    rw [List.map_cons, szL, szL]
    have h1 := h k List.mem_cons_self
    have h2 := ih fun x hx => h x (List.mem_cons_of_mem _ hx)
    have h3 := cube (Nat.le_refl (szE k + szL ks))
    omega
theorem szL_mono {f : Ex → Ex} : ∀ {ks : List Ex}, (∀ k ∈ ks, szE (f k) ≤ szE k) → szL (ks.map f) ≤ szL ks := by
  intro ks
  induction ks with
  | nil => intro _; exact Nat.le_refl _
  | cons k ks ih =>
    intro h
    rw [List.map_cons, szL, szL]
    have h1 := h k List.mem_cons_self
    have h2 := ih fun x hx => h x (List.mem_cons_of_mem _ hx)
    omega
theorem cub1 {s t : Nat} (h : 1 + t ≤ s) : 1 + 2 * t ^ 3 ≤ 2 * s ^ 3 := by
  have := cube (a := 1) h
  simp only [Nat.one_pow] at this
  omega
theorem dvC_sz {n : Bool} {x : Int} {L : Int} : ∀ {ks : List Ex}, (∀ k ∈ ks, wf L k = true) → (∀ k ∈ ks, szE (dv n x k).by' ≤ 2 * szE k ^ 3 ∧ szE (dv n x k).self ≤ szE k) → szL (dvC n x ks).1 ≤ 2 * szL ks ^ 3 ∧ szL (dvC n x ks).2.1 ≤ szL ks := by
  intro ks
  induction ks with
  | nil => intro _ _; rw [dvC]; exact ⟨Nat.zero_le _, Nat.le_refl _⟩
  | cons k ks ih =>
    intro hw h
    obtain ⟨h1, h2⟩ := h k List.mem_cons_self
    obtain ⟨h3, h4⟩ := ih (fun y hy => hw y (List.mem_cons_of_mem _ hy)) fun y hy => h y (List.mem_cons_of_mem _ hy)
    rw [dvC]
    have h5 := cube (Nat.le_refl (szE k + szL ks))
    have h6 : szL (ks.map fun k => if n = true then k else simp k) ≤ szL ks := szL_mono fun y hy => by
      split
      · exact Nat.le_refl _
      · exact (simp_sz y (hw y (List.mem_cons_of_mem _ hy))).1
    cases hn : (dv n x k).nl
    · simp only [Bool.false_eq_true, if_false, szL]
      omega
    · simp only [if_true, szL]
      omega
theorem szL_tail (l : List Ex) : szL l.tail ≤ szL l := by
  cases l with
  | nil => exact Nat.le_refl _
  | cons x l => rw [List.tail_cons, szL]; omega
theorem catP_sz : ∀ (bs ss : List Ex), szL (catP bs ss) ≤ szL bs + bs.length * (1 + szL ss) := by
  intro bs
  induction bs with
  | nil => intro ss; exact Nat.zero_le _
  | cons b bs ih =>
    intro ss
    have h1 := ih ss.tail
    have h2 := szL_tail ss
    have h3 : bs.length * (1 + szL ss.tail) ≤ bs.length * (1 + szL ss) := Nat.mul_le_mul_left _ (by omega)
    rw [catP, szL, szL, List.length_cons, Nat.add_mul]
    have h4 : szE (if b.op = 1 then b else join 5 (b :: ss.tail)) ≤ szE b + (1 + szL ss) := by
      split
      · omega
      · have := (join_sz (o := 5) (ks := b :: ss.tail) (by simp) (by omega)).1
        rw [szL] at this
        omega
    omega
theorem dv_sz {L : Int} {n : Bool} {x : Int} : ∀ e, wf L e = true → szE (dv n x e).by' ≤ 2 * szE e ^ 3 ∧ szE (dv n x e).self ≤ szE e := by
  refine Ex.ind fun o l ks ih => fun hw => ?_
  have hk : ∀ k ∈ ks, wf L k = true := wf_kids hw
  have ihk : ∀ k ∈ ks, szE (dv n x k).by' ≤ 2 * szE k ^ 3 ∧ szE (dv n x k).self ≤ szE k := fun k hkm => ih k hkm (hk k hkm)
  have hm := wf_mk.1 hw
  have e1 : szE (.mk o l ks) = 1 + szL ks := by rw [szE]
  have hpos : 1 ≤ 2 * szE (.mk o l ks) ^ 3 := by
    have := cub1 (s := szE (.mk o l ks)) (t := 0) (by rw [e1]; omega)
    omega
  rw [dv]
  split
  · exact ⟨hpos, szE_pos _⟩
  · split
    · refine ⟨?_, szE_pos _⟩
      split <;> exact hpos
    · rename_i h2 h3
      split
      · rename_i h
        have ha := wf_arity hw
        have hne : ks ≠ [] := by
          intro h0
          subst h0
          rcases hm with ⟨h, _⟩ | ⟨_, _, (⟨h, _⟩ | ⟨_, h⟩ | ⟨_, h⟩), _⟩
          · exact h3 h
          · omega
          · simp at h
          · simp at h
        obtain ⟨hop, _⟩ := ha hne
        have hj : ∀ f : Dr → Ex, szE (join o ((dvL n x ks).map f)) ≤ 1 + szL ((dvL n x ks).map f) := fun f => (join_sz (by rw [dvL_map]; simpa using hne) (by rw [dvL_map]; simpa using hop)).1
        have h1 := hj (·.by')
        have h4 := hj (·.self)
        have h5 : szL ((dvL n x ks).map (·.by')) ≤ 2 * szL ks ^ 3 := by rw [dvL_map, List.map_map]; exact szL_cubes fun k hkm => (ihk k hkm).1
        have h6 : szL ((dvL n x ks).map (·.self)) ≤ szL ks := by rw [dvL_map, List.map_map]; exact szL_mono fun k hkm => (ihk k hkm).2
        have h7 := cub1 (s := szE (.mk o l ks)) (t := szL ks) (by rw [e1]; exact Nat.le_refl _)
        show szE (join o ((dvL n x ks).map (·.by'))) ≤ _ ∧ szE (join o ((dvL n x ks).map (·.self))) ≤ _
        rw [e1] at h7 ⊢
        omega
      · split
        · rename_i h7
          have h8 : ∃ k, ks = [k] := by
            rcases hm with ⟨h, _⟩ | ⟨_, _, (⟨h, _⟩ | ⟨h, _⟩ | ⟨_, h⟩), _⟩
            · omega
            · omega
            · omega
            · exact List.length_eq_one_iff.1 h
          obtain ⟨k, rfl⟩ := h8
          obtain ⟨a, b⟩ := ihk k List.mem_cons_self
          rw [dvL]
          have s1 := (join_sz (o := 7) (ks := [(dv n x k).self]) (by simp) (by simp)).1
          have s2 := (join_sz (o := 5) (ks := [(dv n x k).by', join 7 [(dv n x k).self]]) (by simp) (by omega)).1
          simp only [szL, Nat.add_zero] at s1 s2 e1 ⊢
          rw [e1]
          refine ⟨?_, by omega⟩
          have h9 := cub1 (s := 1 + szE k) (t := szE k) (Nat.le_refl _)
          have h10 : szE k ≤ szE k ^ 3 := Nat.le_self_pow (by decide) _
          have h11 : 2 * (1 + szE k) ^ 3 = 2 + 6 * szE k + 6 * (szE k * szE k) + 2 * szE k ^ 3 := by
            simp only [Nat.pow_succ, Nat.pow_zero, Nat.one_mul, Nat.add_mul, Nat.mul_add, Nat.mul_one]
            omega
          omega
        · split
          · rename_i h5
            obtain ⟨c1, c2⟩ := dvC_sz hk ihk
            have hl := dvC_len n x ks
            have hks : 2 ≤ ks.length := by
              rcases hm with ⟨h, _⟩ | ⟨_, _, (⟨h, _⟩ | ⟨_, h⟩ | ⟨h, _⟩), _⟩
              · omega
              · omega
              · exact h
              · omega
            have hs := catP_sz (dvC n x ks).1 (dvC n x ks).2.1
            have hne : (dvC n x ks).1 ≠ [] := by
              cases ks with
              | nil => simp at hks
              | cons k ks => rw [dvC]; split <;> simp
            have j1 := (join_sz (o := 4) (ks := catP (dvC n x ks).1 (dvC n x ks).2.1) (by intro h0; have := congrArg List.length h0; rw [catP_len] at this; exact hne (List.eq_nil_of_length_eq_zero this)) (by omega)).1
            have j2 := (join_sz (o := 5) (ks := (dvC n x ks).2.1) (by intro h0; have := congrArg List.length h0; rw [hl.1, List.length_nil] at this; omega) (by omega)).1
            have hlen := lens_szL ks
            have hm1 : (dvC n x ks).1.length * (1 + szL (dvC n x ks).2.1) ≤ szL ks * (1 + szL ks) := Nat.mul_le_mul (by omega) (by omega)
            show szE (join 4 (catP (dvC n x ks).1 (dvC n x ks).2.1)) ≤ _ ∧ szE (join 5 (dvC n x ks).2.1) ≤ _
            rw [e1]
            refine ⟨?_, by omega⟩
            have h11 : 2 * (1 + szL ks) ^ 3 = 2 + 6 * szL ks + 6 * (szL ks * szL ks) + 2 * szL ks ^ 3 := by
              simp only [Nat.pow_succ, Nat.pow_zero, Nat.one_mul, Nat.add_mul, Nat.mul_add, Nat.mul_one]
              omega
            have hm2 : szL ks * (1 + szL ks) = szL ks + szL ks * szL ks := by rw [Nat.mul_add, Nat.mul_one]
            omega
          · exact ⟨hpos, szE_pos _⟩
end Go.Ex

namespace Go.Ex
open Go Go.Am
/-! derivatives by words -/
theorem simp_vd {e : Ex} (h : vdE 6 e = 0) : vdE 6 (simp e) = 0 := by
  obtain ⟨h1, h2, h3⟩ := vdE_zero.1 h
  exact vdE_zero.2 ⟨h1, simp_lim h3 h2, simp_wf e h3⟩
theorem vd_sz {e : Ex} (h : vdE 6 e = 0) : szE e ≤ 400 ∧ wf 6 e = true := by
  obtain ⟨_, h2, h3⟩ := vdE_zero.1 h
  refine ⟨?_, h3⟩
  rw [inLim, decide_eq_true_eq] at h2
  exact h2.1
end Go.Ex

namespace Go.Ex
open Go Go.Am Go.Eng
/-! the automaton of derivatives, as it is built -/
instance instDecEx : DecidableEq Ex := fun a b => decidable_of_iff (cmpE a b = 0) (cmp_zero a b)
def dF (e : Ex) (x : Nat) : Ex := (dv true (x : Int) e).by'
abbrev dS (s : Ex) (k : Nat) : List Ex := bfs dF 2 s k
/-- what step k looks at -/
def dT (s : Ex) (k : Nat) : Ex := dF ((dS s k).getD (k / 2) s) (k % 2)
/-- step k meets a limit -/
def BadS (s : Ex) (k : Nat) : Prop := ¬ vdE 6 (dT s k) = 0 ∨ (dT s k ∉ dS s k ∧ (dS s k).length = 512)
/-- the computation has come to step K without meeting a limit -/
structure DrI (s : Ex) (K : Nat) : Prop where
  ok : vdE 6 s = 0
  going : Going dF 2 s K
  good : ∀ k, k < K → ¬ BadS s k
theorem DrI.start {s : Ex} (h : vdE 6 s = 0) : DrI s 0 := ⟨h, Going.zero, fun k hk => by omega⟩
theorem DrI.less {s : Ex} {K k : Nat} (h : DrI s K) (hk : k ≤ K) : DrI s k := ⟨h.ok, fun j hj => h.going j (by omega), fun j hj => h.good j (by omega)⟩
theorem DrI.succ {s : Ex} {K : Nat} (h : DrI s K) (hk : K / 2 < (dS s K).length) (hg : ¬ BadS s K) : DrI s (K + 1) := ⟨h.ok, h.going.succ hk, fun k hk' => by
  rcases Nat.lt_or_ge k K with h1 | h1
  · exact h.good k h1
  · obtain rfl : k = K := by omega
    exact hg⟩
theorem dS_succ (s : Ex) (k : Nat) : dS s (k + 1) = if dT s k ∈ dS s k then dS s k else dS s k ++ [dT s k] := rfl
theorem DrI.len {s : Ex} : ∀ {K : Nat}, DrI s K → (dS s K).length ≤ 512
  | 0, _ => by show 1 ≤ 512; omega
  | K + 1, h => by
    have h1 := (h.less (Nat.le_succ K)).len
    rw [dS_succ]
    split
    · exact h1
    · rename_i hm
      rw [List.length_append, List.length_singleton]
      have : ¬ (dS s K).length = 512 := fun hl => h.good K (Nat.lt_succ_self K) (.inr ⟨hm, hl⟩)
      omega
theorem DrI.all {s : Ex} : ∀ {K : Nat}, DrI s K → ∀ e ∈ dS s K, vdE 6 e = 0
  | 0, h, e, he => by
    have : e ∈ [s] := he
    rw [List.mem_singleton] at this; rw [this]; exact h.ok
  | K + 1, h, e, he => by
    rw [dS_succ] at he
    split at he
    · exact (h.less (Nat.le_succ K)).all e he
    · rcases List.mem_append.1 he with he | he
      · exact (h.less (Nat.le_succ K)).all e he
      · rw [List.mem_singleton] at he
        rw [he]
        exact Classical.byContradiction fun hh => h.good K (Nat.lt_succ_self K) (.inl hh)
theorem DrI.wf {s : Ex} {K : Nat} (h : DrI s K) : ∀ e ∈ dS s K, wf 6 e = true := fun e he => (vd_sz (h.all e he)).2
/-- the computation ends in one way alone -/
theorem DrI.not_bad {s : Ex} {K k : Nat} (h : DrI s K) (hd : Done dF 2 s K) (hk : k / 2 < (dS s k).length) (hg : Going dF 2 s k) : ¬ BadS s k := fun hb => by
  rcases Nat.lt_or_ge k K with h1 | h1
  · exact h.good k h1 hb
  · have h2 : ∀ j, dS s (K + j) = dS s K ∨ ∃ i, i < K + j ∧ K ≤ i ∧ ¬ i / 2 < (dS s i).length := by
      intro j
      induction j with
      | zero => exact .inl rfl
      | succ j ih =>
        rcases ih with ih | ⟨i, h3, h4, h5⟩
        · right
          refine ⟨K + j, by omega, by omega, ?_⟩
          rw [ih]
          have := hd.all
          have e1 : (bfs dF 2 s K).length = (dS s K).length := rfl
          omega
        · exact .inr ⟨i, by omega, h4, h5⟩
    have h6 := h2 (k - K)
    rw [show K + (k - K) = k by omega] at h6
    rcases h6 with h6 | ⟨i, h3, h4, h5⟩
    · rw [h6] at hk
      have := hd.all
      have e1 : (bfs dF 2 s K).length = (dS s K).length := rfl
      omega
    · exact h5 (hg i h3)
/-! numbers by texts -/
theorem fmt6 {e f : Ex} (he : wf 6 e = true) (hf : wf 6 f = true) (h : fmtE e = fmtE f) : e = f := fmt_inj (L := 6) (Nat.le_refl _) he hf h
theorem fmt_mem {l : List Ex} (hl : ∀ e ∈ l, wf 6 e = true) {t : Ex} (ht : wf 6 t = true) : fmtE t ∈ l.map fmtE ↔ t ∈ l := by
  rw [List.mem_map]
  constructor
  · rintro ⟨e, he, h⟩
    rw [← fmt6 (hl e he) ht h]; exact he
  · exact fun h => ⟨t, h, rfl⟩
theorem fmt_idx {l : List Ex} (hl : ∀ e ∈ l, wf 6 e = true) {t : Ex} (ht : wf 6 t = true) (h : t ∈ l) : ∀ i, ixA (fmtE t) i (l.map fmtE) = some (i + l.idxOf t) := by
  induction l with
  | nil => cases h
  | cons e l ih =>
    intro i
    rw [List.map_cons, ixA, List.idxOf_cons]
    by_cases he : t = e
    · subst he; simp
    · rw [if_neg (fun hh => he (fmt6 ht (hl e List.mem_cons_self) hh)), ih (fun f hf => hl f (List.mem_cons_of_mem _ hf)) ((List.mem_cons.1 h).resolve_left he)]
      have : (e == t) = false := by simpa using fun h => he h.symm
      rw [this]
      simp only [cond_false, Option.some.injEq]; omega
theorem fmt_in {l : List Ex} (hl : ∀ e ∈ l, wf 6 e = true) {t : Ex} (ht : wf 6 t = true) (h : t ∈ l) : ixA (fmtE t) 0 (l.map fmtE) = some (l.idxOf t) := by
  rw [fmt_idx hl ht h, Nat.zero_add]
theorem fmt_out {l : List Ex} (hl : ∀ e ∈ l, wf 6 e = true) {t : Ex} (ht : wf 6 t = true) (h : t ∉ l) : ixA (fmtE t) 0 (l.map fmtE) = none := ixA_out _ _ _ fun hh => h ((fmt_mem hl ht).1 hh)
/-! what Build answers -/
def BuildR (e : Ex) (d : Da) (er : Int) : Prop :=
  (¬ vdE 2 e = 0 ∧ er = vdE 2 e) ∨ (vdE 2 e = 0 ∧ ((er = 0 ∧ ∃ K, DrI (simp e) K ∧ Done dF 2 (simp e) K ∧ d = autoD dF 2 (simp e) K hasU) ∨ (er = 3 ∧ ∃ k, DrI (simp e) k ∧ k / 2 < (dS (simp e) k).length ∧ BadS (simp e) k)))
theorem vd26 {e : Ex} (h : vdE 2 e = 0) : vdE 6 e = 0 := by
  obtain ⟨_, h2, h3⟩ := vdE_zero.1 h
  exact vdE_zero.2 ⟨by omega, h2, wf_more (by omega) e h3⟩
theorem BuildR.err {e : Ex} {d : Da} {er : Int} (h : BuildR e d er) (he : vdE 2 e = 0) : er = 0 ∨ er = 3 := by
  rcases h with ⟨h, _⟩ | ⟨_, ⟨h, _⟩ | ⟨h, _⟩⟩
  · exact absurd he h
  · exact .inl h
  · exact .inr h
theorem done_eq {s : Ex} {K K' : Nat} (h : Done dF 2 s K) (h' : Done dF 2 s K') : K = K' := by
  have key : ∀ {K K' : Nat}, Done dF 2 s K → Done dF 2 s K' → ¬ K < K' := fun {K K'} h h' hlt => by
    have h1 := h'.going K hlt
    have h2 := h.all
    omega
  have h1 := key h h'
  have h2 := key h' h
  omega
theorem BuildR.same {e f : Ex} {d d' : Da} {er er' : Int} (h : BuildR e d er) (h' : BuildR f d' er') (he : vdE 2 e = 0) (hf : vdE 2 f = 0) (hs : simp e = simp f) : er = er' ∧ (er = 0 → d = d') := by
  rcases h with ⟨h, _⟩ | ⟨_, h⟩
  · exact absurd he h
  rcases h' with ⟨h', _⟩ | ⟨_, h'⟩
  · exact absurd hf h'
  rw [hs] at h
  rcases h with ⟨h1, K, h2, h3, h4⟩ | ⟨h1, k, h2, h3, h4⟩
  · rcases h' with ⟨h1', K', h2', h3', h4'⟩ | ⟨h1', k', h2', h3', h4'⟩
    · refine ⟨by rw [h1, h1'], fun _ => ?_⟩
      rw [h4, h4', done_eq h3 h3']
    · exact absurd h4' (h2.not_bad h3 h3' h2'.going)
  · rcases h' with ⟨h1', K', h2', h3', h4'⟩ | ⟨h1', k', h2', h3', h4'⟩
    · exact absurd h4 (h2'.not_bad h3' h3 h2.going)
    · exact ⟨by rw [h1, h1'], fun h0 => by rw [h1] at h0; exact absurd h0 (by decide)⟩
/-! languages -/
def dSys : Sy Ex := ⟨dF, hasU⟩
theorem dF_wf {L : Int} {e : Ex} (h : wf L e = true) (x : Nat) : wf L (dF e x) = true := (dv_wf e h).1
theorem dF_lang {L : Int} {e : Ex} (h : wf L e = true) (x : Nat) (w : List Nat) : lang (dF e x) w ↔ lang e (x :: w) := (dv_ok (n := true) (x := x) e h).by' w
theorem dSys_acc {L : Int} : ∀ (w : List Nat) (e : Ex), wf L e = true → (dSys.acc e w = true ↔ lang e w)
  | [], e, h => hasU_lang e h
  | x :: w, e, h => by
    show dSys.acc (dF e x) w = true ↔ _
    rw [dSys_acc w (dF e x) (dF_wf h x), dF_lang h]
theorem BuildR.lang {e : Ex} {d : Da} {er : Int} (h : BuildR e d er) (h0 : er = 0) : d.Ok ∧ d.n ≤ 512 ∧ d.L = 2 ∧ vdE 2 e = 0 ∧ Eqv 2 d.sy d.s dSys (simp e) ∧ ∀ w, d.sy.acc d.s w = true → InW 2 w → Go.Ex.lang e w := by
  rcases h with ⟨h, h1⟩ | ⟨hv, ⟨_, K, h2, h3, h4⟩ | ⟨h1, _⟩⟩
  · rw [h0] at h1; exact absurd h1.symm h
  · have h5 := autoD_eqv h3 hasU (bfs_pos (f := dF) (L := 2) (s := simp e) K)
    rw [bfs_head] at h5
    have hw := (vd_sz (vd26 hv)).2
    subst h4
    refine ⟨autoD_ok h3 hasU, by rw [autoD_n]; exact h2.len, rfl, hv, h5, fun w hw1 hw2 => ?_⟩
    have h6 := h5 w hw2
    have hw1' : (autoD dF 2 (simp e) K hasU).sy.acc 0 w = true := hw1
    rw [hw1'] at h6
    rw [← simp_lang e hw, ← dSys_acc w (simp e) (simp_wf e hw)]
    exact h6.symm
  · rw [h0] at h1; exact absurd h1 (by decide)
end Go.Ex

namespace Go.Ex
open Go Go.Am
theorem vd_wf2 {L : Int} {e : Ex} (h : vdE L e = 0) : wf L e = true := (vdE_zero.1 h).2.2
theorem simp_vd2 {L : Int} {e : Ex} (h : vdE L e = 0) : vdE L (simp e) = 0 := by
  obtain ⟨h1, h2, h3⟩ := vdE_zero.1 h
  exact vdE_zero.2 ⟨h1, simp_lim h3 h2, simp_wf e h3⟩
/-- the language of an automaton of derivatives -/
theorem BuildR.acc {e : Ex} {d : Da} (h : BuildR e d 0) {w : List Nat} (hw : InW 2 w) : d.sy.acc d.s w = true ↔ Go.Ex.lang e w := by
  obtain ⟨_, _, _, hv, h5, _⟩ := h.lang rfl
  have hwf := vd_wf2 hv
  rw [h5 w hw, dSys_acc w (simp e) (simp_wf e hwf), simp_lang e hwf]
end Go.Ex

namespace Go.Ex
open Go Go.Am
/-! the known example: (ab)* -/
def abS : Ex := .mk 7 0 [.mk 5 0 [.mk 3 0 [], .mk 3 1 []]]
theorem ab_vd : vdE 2 abS = 0 := by decide
theorem ab_simp : simp abS = abS := by decide
theorem ab_list : dS abS 6 = [abS, .mk 5 0 [.mk 3 1 [], abS], emp] := by decide
def badB (s : Ex) (k : Nat) : Bool := !decide (vdE 6 (dT s k) = 0) || decide (dT s k ∉ dS s k ∧ (dS s k).length = 512)
theorem badB_iff {s : Ex} {k : Nat} (h : badB s k = false) : ¬ BadS s k := by
  rw [badB, Bool.or_eq_false_iff, decide_eq_false_iff_not, Bool.not_eq_false', decide_eq_true_eq] at h
  rintro (h1 | h1)
  · exact h1 h.1
  · exact h.2 h1
theorem ab_good : ∀ k, k < 6 → badB abS k = false := by decide
theorem ab_going : ∀ k, k < 6 → k / 2 < (dS abS k).length := by decide
theorem ab_dr : DrI abS 6 := ⟨by decide, ab_going, fun k hk => badB_iff (ab_good k hk)⟩
theorem ab_done : Done dF 2 abS 6 := ⟨by decide, ab_going, by show 6 = (dS abS 6).length * 2; rw [ab_list]; rfl⟩
theorem ab_red : ∀ a ∈ dS abS 6, ∀ b ∈ dS abS 6, dSys.acc a [] = dSys.acc b [] → dSys.acc a [1] = dSys.acc b [1] → a = b := by rw [ab_list]; decide
theorem ab_known {d : Da} {er : Int} (h : BuildR abS d er) : er = 0 ∧ ∀ m, IsMin d.L d.sy d.s m → m.n = 3 := by
  rcases h with ⟨h, _⟩ | ⟨_, h⟩
  · exact absurd ab_vd h
  rw [ab_simp] at h
  rcases h with ⟨h1, K, h2, h3, h4⟩ | ⟨h1, k, h2, h3, h4⟩
  · refine ⟨h1, fun m hm => ?_⟩
    have hK := done_eq h3 ab_done
    subst hK
    subst h4
    have h5 : IsMin 2 (⟨dF, hasU⟩ : Sy Ex) abS (autoD dF 2 abS 6 hasU) := IsMin.of_done h3 hasU fun a b ha hb he => ab_red a ha b hb (he [] (InW.nil 2)) (he [1] (InW.cons (by decide) (InW.nil 2)))
    have h6 := hm.unique h5 (h5.eqv)
    rw [h6, autoD_n]
    show (dS abS 6).length = 3
    rw [ab_list]; rfl
  · exact absurd h4 (ab_dr.not_bad ab_done h3 h2.going)
end Go.Ex

namespace Go.Am
open Go Go.Eng
open Go.Tl (bo mayL Wd okW okB)

/-! tables of numbers, filled entry by entry -/
def tabI (n : Nat) (g : Nat → Int) : List Int := (List.range n).map g
theorem tabI_len (n : Nat) (g : Nat → Int) : (tabI n g).length = n := by simp [tabI]
theorem tabI_get {n : Nat} {g : Nat → Int} {q : Nat} (hq : q < n) : (tabI n g).getD q 0 = g q := by
  unfold tabI; simp [List.getD_eq_getElem?_getD, hq]
theorem tabI_rep (n : Nat) (x : Int) : List.replicate n x = tabI n fun _ => x := by
  refine List.ext_getElem (by simp [tabI]) fun i h1 h2 => by simp [tabI]
theorem tabI_congr {n : Nat} {g h : Nat → Int} (e : ∀ q, q < n → g q = h q) : tabI n g = tabI n h := List.map_congr_left fun q hq => e q (List.mem_range.1 hq)
theorem tabI_set {n i : Nat} {g h : Nat → Int} {v : Int} (hv : h i = v) (ho : ∀ q, q < n → q ≠ i → h q = g q) : ((tabI n g).map zz).set i (zz v) = (tabI n h).map zz := by
  subst hv
  refine List.ext_getElem (by simp [tabI]) fun q h1 h2 => ?_
  rw [List.getElem_set]
  simp only [tabI, List.getElem_map, List.getElem_range]
  split
  · rename_i e; subst e; rfl
  · rename_i e
    rw [ho q (by simpa [tabI] using h2) (fun e' => e e'.symm)]
theorem tabI_zz (n : Nat) (x : Int) : List.replicate n (zz x) = (tabI n fun _ => x).map zz := by rw [← tabI_rep, List.map_replicate]
/-- the place of each state among those that are met -/
def plc (sts : List Nat) (i : Nat) (q : Nat) : Int := if q ∈ sts.take i then ((sts.idxOf q : Nat) : Int) else -1
theorem plc_put {sts : List Nat} (hd : sts.Nodup) {i n : Nat} (hi : i < sts.length) : ((tabI n (plc sts i)).map zz).set (sts.getD i 0) (zz (i : Int)) = (tabI n (plc sts (i + 1))).map zz := by
  refine tabI_set ?_ fun q _ hq => ?_
  · unfold plc
    rw [if_pos (by rw [take_snoc sts 0 hi]; simp), idxOf_getD hd hi]
  · unfold plc
    rw [take_snoc sts 0 hi]
    congr 1
    rw [List.mem_append, List.mem_singleton]
    exact propext ⟨fun h => h.resolve_right hq, .inl⟩
theorem plc_zero (sts : List Nat) (n : Nat) : tabI n (plc sts 0) = tabI n fun _ => -1 := tabI_congr fun q _ => by simp [plc]
theorem plc_rng (sts : List Nat) (i q : Nat) : -1 ≤ plc sts i q ∧ plc sts i q < sts.length := by
  unfold plc
  split
  · rename_i h
    have := List.idxOf_lt_length_of_mem (List.mem_of_mem_take h)
    omega
  · omega

/-! the first split: final states -/
def c0 (d : Da) (i q : Nat) : Nat := if q < i ∧ d.fi q ≠ d.fi 0 then 1 else 0
def cn0 (d : Da) (i : Nat) : Nat := if (List.range i).any (fun q => d.fi q != d.fi 0) then 2 else 1
theorem cn0_s (d : Da) (i : Nat) : cn0 d (i + 1) = if d.fi i ≠ d.fi 0 then 2 else cn0 d i := by
  unfold cn0
  rw [List.range_succ, List.any_append]
  by_cases h : d.fi i = d.fi 0
  · simp [h]
  · have : (d.fi i != d.fi 0) = true := by simpa using h
    simp [h, this]
def lab0 (d : Da) : List Nat := (List.range d.n).map (c0 d d.n)
theorem lab0_get {d : Da} {q : Nat} (hq : q < d.n) : (lab0 d).getD q 0 = if d.fi q ≠ d.fi 0 then 1 else 0 := by
  unfold lab0 c0; simp [List.getD_eq_getElem?_getD, hq]
theorem lab0_len (d : Da) : (lab0 d).length = d.n := by simp [lab0]
theorem lab0_top {d : Da} {i : Nat} (hi : i ≤ d.n) (h0 : 0 < i) : topL ((lab0 d).take i) = cn0 d i := by
  induction i with
  | zero => omega
  | succ i ih =>
    rw [topL_take _ (by rw [lab0_len]; omega), lab0_get (by omega), cn0_s]
    rcases Nat.eq_zero_or_pos i with h | h
    · subst h; simp [topL, cn0]
    · rw [ih (by omega) h]
      have : cn0 d i = 1 ∨ cn0 d i = 2 := by unfold cn0; split <;> simp
      split <;> omega
theorem lab0_fo (d : Da) : FO (lab0 d) := by
  intro q hq
  rw [lab0_len] at hq
  rw [lab0_get hq]
  rcases Nat.eq_zero_or_pos q with h | h
  · subst h; simp
  · rw [lab0_top (by omega) h]
    have : cn0 d q = 1 ∨ cn0 d q = 2 := by unfold cn0; split <;> simp
    split <;> omega
theorem lab0_coarse (d : Da) : Coarse d (lab0 d) := by
  refine ⟨lab0_len d, lab0_fo d, fun p q hp hq he => ?_, fun p q hp hq he => ?_⟩
  · rw [lab0_get hp, lab0_get hq, show d.fi p = d.fi q from he.fin]
  · rw [lab0_get hp, lab0_get hq] at he
    cases h1 : d.fi p <;> cases h2 : d.fi q <;> cases h3 : d.fi 0 <;> simp [h1, h2, h3] at he <;> rfl

/-! keys of seven numbers -/
abbrev LN (n : Nat) := {l : List Int // l.length = n}
abbrev kf (n : Nat) (x : LN n) : Value := aggZ .i64 x.1
theorem MapKey.ln {P : Program} {k e : TypeId} {n : Nat} (ht : P.underlying k = some (.array n e)) (he : P.underlying e = some (.int .i64)) (hsz : sizeB P e = some 1) : MapKey P k (kf n) :=
  MapKey.arr ht he hsz (fun x => x.1) (fun x => x.2) (fun _ _ h => Subtype.ext h)
/-- the signature of q, as far as x letters -/
def sgP (d : Da) (c : List Nat) (q x : Nat) (y : Nat) : Int := if y = 0 then ((c.getD q 0 : Nat) : Int) else if y ≤ x then ((c.getD (d.to q (y - 1)) 0 : Nat) : Int) else 0
theorem sgP_zero (d : Da) (c : List Nat) (q x : Nat) : sgP d c q x 0 = ((c.getD q 0 : Nat) : Int) := by rw [sgP, if_pos rfl]
theorem sgP_succ (d : Da) (c : List Nat) (q x y : Nat) : sgP d c q x (y + 1) = if y < x then ((c.getD (d.to q y) 0 : Nat) : Int) else 0 := by
  rw [sgP, if_neg (Nat.succ_ne_zero y), Nat.add_sub_cancel]
  by_cases h : y < x
  · rw [if_pos h, if_pos (by omega)]
  · rw [if_neg h, if_neg (by omega)]
def sg (d : Da) (c : List Nat) (q : Nat) : LN 7 := ⟨tabI 7 (sgP d c q d.L), tabI_len _ _⟩
theorem sg_iff {d : Da} {c : List Nat} (hL : d.L ≤ 6) {p q : Nat} : sg d c p = sg d c q ↔ c.getD p 0 = c.getD q 0 ∧ ∀ x, x < d.L → c.getD (d.to p x) 0 = c.getD (d.to q x) 0 := by
  constructor
  · intro h
    have h := congrArg (·.1) h
    have key : ∀ y, y < 7 → sgP d c p d.L y = sgP d c q d.L y := fun y hy => by
      have := congrArg (fun l => l.getD y 0) h
      simp only [sg] at this
      rwa [tabI_get hy, tabI_get hy] at this
    refine ⟨?_, fun x hx => ?_⟩
    · have := key 0 (by decide)
      rw [sgP_zero, sgP_zero] at this
      omega
    · have := key (x + 1) (by omega)
      rw [sgP_succ, sgP_succ, if_pos hx, if_pos hx] at this
      omega
  · intro ⟨h1, h2⟩
    apply Subtype.ext
    refine tabI_congr fun y hy => ?_
    unfold sgP
    by_cases h0 : y = 0
    · rw [if_pos h0, if_pos h0, h1]
    · rw [if_neg h0, if_neg h0]
      by_cases h3 : y ≤ d.L
      · rw [if_pos h3, if_pos h3, h2 (y - 1) (by omega)]
      · rw [if_neg h3, if_neg h3]
def sgs (d : Da) (c : List Nat) (q : Nat) : List (LN 7) := (List.range q).map (sg d c)
theorem sgs_s (d : Da) (c : List Nat) (q : Nat) : sgs d c (q + 1) = sgs d c q ++ [sg d c q] := by simp [sgs, List.range_succ]
theorem sgs_len (d : Da) (c : List Nat) (q : Nat) : (sgs d c q).length = q := by simp [sgs]
theorem sgs_get {d : Da} {c : List Nat} {n q : Nat} (hq : q < n) (z : LN 7) : (sgs d c n).getD q z = sg d c q := by
  unfold sgs; simp [List.getD_eq_getElem?_getD, hq]
theorem ded_addN {κ : Type} [DecidableEq κ] (ks : List κ) (k : κ) : ded (ks ++ [k]) = (addN (ded ks) k).1 := by rw [ded_snoc, addN]; split <;> rfl
/-- one round of refinement -/
theorem round_coarse {d : Da} {c : List Nat} (hd : d.Ok) (hL : d.L ≤ 6) (h : Coarse d c) : Coarse d (lab (sgs d c d.n)) := by
  refine h.split (c' := lab (sgs d c d.n)) (sg d c) (fun p q hp hq he => ?_) (by rw [lab_len, sgs_len]) (lab_fo _) (fun p q hp hq => ?_)
  · rw [sg_iff hL]
    exact ⟨h.co p q hp hq he, fun x hx => h.step hd hx p q hp hq he⟩
  · rw [lab_iff _ (sg d c 0) (by rw [sgs_len]; exact hp) (by rw [sgs_len]; exact hq), sgs_get hp, sgs_get hq]
    exact ⟨fun e => ⟨((sg_iff hL).1 e).1, e⟩, fun e => e.2⟩
theorem round_iff {d : Da} {c : List Nat} (hL : d.L ≤ 6) {p q : Nat} (hp : p < d.n) (hq : q < d.n) : (lab (sgs d c d.n)).getD p 0 = (lab (sgs d c d.n)).getD q 0 ↔ c.getD p 0 = c.getD q 0 ∧ ∀ x, x < d.L → c.getD (d.to p x) 0 = c.getD (d.to q x) 0 := by
  rw [lab_iff _ (sg d c 0) (by rw [sgs_len]; exact hp) (by rw [sgs_len]; exact hq), sgs_get hp, sgs_get hq, sg_iff hL]
theorem round_le {d : Da} {c : List Nat} (hL : d.L ≤ 6) (h : Coarse d c) : topL c ≤ topL (lab (sgs d c d.n)) := by
  refine fo_le h.fo (lab_fo _) (by rw [h.len, lab_len, sgs_len]) fun p q hp hq e => ?_
  rw [h.len] at hp hq
  exact ((round_iff hL hp hq).1 e).1
theorem round_done {d : Da} {c : List Nat} (hd : d.Ok) (hL : d.L ≤ 6) (h : Coarse d c) (ht : topL (lab (sgs d c d.n)) = topL c) : lab (sgs d c d.n) = c ∧ Cls d c := by
  have e : lab (sgs d c d.n) = c := by
    refine fo_same h.fo (lab_fo _) (by rw [h.len, lab_len, sgs_len]) (fun p q hp hq e => ?_) (Nat.le_of_eq ht)
    rw [h.len] at hp hq
    exact ((round_iff hL hp hq).1 e).1
  refine ⟨e, h.cls hd fun p q hp hq hpq => ?_⟩
  have := (round_iff (c := c) hL hp hq).1 (by rw [e]; exact hpq)
  exact this.2
theorem fo_top_n {d : Da} {c : List Nat} (h : Coarse d c) : topL c ≤ d.n := by
  have := fo_top_le h.fo (Nat.le_refl c.length)
  rw [List.take_length, h.len] at this
  exact this
/-- labels written one by one -/
def labP {κ : Type} [DecidableEq κ] (ks : List κ) (n : Nat) : List Nat := lab ks ++ List.replicate (n - ks.length) 0
theorem labP_len {κ : Type} [DecidableEq κ] {ks : List κ} {n : Nat} (h : ks.length ≤ n) : (labP ks n).length = n := by simp [labP, lab_len]; omega
theorem labP_put {κ : Type} [DecidableEq κ] {ks : List κ} {n q : Nat} {k : κ} (hq : ks.length = q) (hn : q < n) {v : Nat} (hv : v = (addN (ded ks) k).2) : ((labP ks n).map zn).set q (zn v) = (labP (ks ++ [k]) n).map zn := by
  subst hq
  have e1 : labP (ks ++ [k]) n = lab ks ++ v :: List.replicate (n - (ks.length + 1)) 0 := by
    unfold labP
    rw [lab_snoc, List.length_append, List.length_singleton, List.append_assoc, List.singleton_append]
    congr 2
    rw [hv, addN_idx, ded_addN]
  have e2 : labP ks n = lab ks ++ 0 :: List.replicate (n - (ks.length + 1)) 0 := by
    unfold labP
    congr 1
    rw [show n - ks.length = (n - (ks.length + 1)) + 1 by omega, List.replicate_succ]
  rw [e1, e2, List.map_append, List.map_append, List.set_append_right _ _ (by simp [lab_len]), List.length_map, lab_len, Nat.sub_self, List.map_cons, List.map_cons, List.set_cons_zero]
theorem labP_nil {κ : Type} [DecidableEq κ] (n : Nat) : (labP ([] : List κ) n).map zn = List.replicate n (zn 0) := by simp [labP, lab]
theorem labP_full {κ : Type} [DecidableEq κ] {ks : List κ} {n : Nat} (h : ks.length = n) : labP ks n = lab ks := by simp [labP, h]
end Go.Am
theorem Go.Eng.Stays.ext {X : List Nat} {w w1 : Go.World} {R : Go.World → Prop} (h : Go.Eng.Stays X w R) (he : Go.Eng.Ext X w w1) : Go.Eng.Stays X w1 R := fun w2 h2 => h w2 (he.trans h2)
namespace Go.Am
open Go Go.Eng
theorem c0_put {d : Da} {n i : Nat} (h : d.fi i ≠ d.fi 0) : ((tabI n fun q => ((c0 d i q : Nat) : Int)).map zz).set i (zz 1) = (tabI n fun q => ((c0 d (i + 1) q : Nat) : Int)).map zz := by
  refine tabI_set ?_ fun q _ hq => ?_
  · show ((c0 d (i + 1) i : Nat) : Int) = 1
    rw [c0, if_pos ⟨Nat.lt_succ_self i, h⟩]; rfl
  · show ((c0 d (i + 1) q : Nat) : Int) = ((c0 d i q : Nat) : Int)
    unfold c0
    have : (q < i + 1 ∧ d.fi q ≠ d.fi 0) ↔ (q < i ∧ d.fi q ≠ d.fi 0) := ⟨fun ⟨a, b⟩ => ⟨by omega, b⟩, fun ⟨a, b⟩ => ⟨by omega, b⟩⟩
    simp only [this]
theorem c0_keep {d : Da} {n i : Nat} (h : d.fi i = d.fi 0) : (tabI n fun q => ((c0 d i q : Nat) : Int)) = tabI n fun q => ((c0 d (i + 1) q : Nat) : Int) := by
  refine tabI_congr fun q _ => ?_
  unfold c0
  have : (q < i + 1 ∧ d.fi q ≠ d.fi 0) ↔ (q < i ∧ d.fi q ≠ d.fi 0) := ⟨fun ⟨a, b⟩ => ⟨by rcases Nat.lt_or_ge q i with h1 | h1; exact h1; obtain rfl : q = i := (by omega); exact absurd h b, b⟩, fun ⟨a, b⟩ => ⟨by omega, b⟩⟩
  simp only [this]
theorem c0_start (d : Da) (n : Nat) : List.replicate n (zz 0) = (tabI n fun q => ((c0 d 0 q : Nat) : Int)).map zz := by
  rw [tabI_zz]; congr 1
theorem c0_end (d : Da) : (tabI d.n fun q => ((c0 d d.n q : Nat) : Int)).map zz = (lab0 d).map zn := by simp [tabI, lab0]
theorem cn0_end {d : Da} (h : 0 < d.n) : cn0 d d.n = topL (lab0 d) := by
  have := lab0_top (d := d) (Nat.le_refl _) h
  rw [← this, show (lab0 d).take d.n = lab0 d from List.take_of_length_le (by rw [lab0_len]; exact Nat.le_refl _)]
theorem sg_put {d : Da} {c : List Nat} {q x : Nat} : ((tabI 7 (sgP d c q x)).map zz).set (x + 1) (zn (c.getD (d.to q x) 0)) = (tabI 7 (sgP d c q (x + 1))).map zz := by
  refine tabI_set ?_ fun y _ hy => ?_
  · rw [sgP_succ, if_pos (Nat.lt_succ_self x)]
  · cases y with
    | zero => rw [sgP_zero, sgP_zero]
    | succ y =>
      rw [sgP_succ, sgP_succ]
      by_cases h : y < x
      · rw [if_pos h, if_pos (by omega)]
      · rw [if_neg h, if_neg (by omega)]
theorem ix_in {κ : Type} [DecidableEq κ] {l : List κ} {x : κ} (h : ¬ ixA x 0 l = none) : (addN l x).1 = l ∧ (ixA x 0 l).getD 0 = (addN l x).2 := by
  have hm : x ∈ l := Classical.byContradiction fun hh => h (ixA_out l x 0 hh)
  rw [addN_in hm, ixA_idx l x 0 hm, Nat.zero_add]
  exact ⟨rfl, rfl⟩
end Go.Am
theorem Go.Am.Da.Ok.pos_n {d : Go.Am.Da} (h : d.Ok) : 0 < d.n := Nat.lt_of_le_of_lt (Nat.zero_le _) h.st

namespace Go.Am
open Go Go.Eng
open Go.Tl (bo mayL Wd okW okB)

/-! from the reachable part and its classes to the minimal automaton -/
theorem is2_ok {D D2 : Dv} {K : Nat} (hv : D.Ok) (hK : Done D.da.to D.da.L D.da.s K) (hIs : D2.Is (autoD D.da.to D.da.L D.da.s K D.da.fi)) : D2.Ok := by
  have h1 := hv.may
  have h2 := hv.n
  refine hIs.ok (autoD_ok hK _) (by show 1 ≤ D.L.toNat ∧ D.L.toNat ≤ 6; omega) ?_
  rw [autoD_n]
  exact Nat.le_trans (bfs_len hv.daOk hv.pos K) h2
theorem is2_eqv {D : Dv} {K : Nat} (hK : Done D.da.to D.da.L D.da.s K) : Eqv D.da.L (autoD D.da.to D.da.L D.da.s K D.da.fi).sy (autoD D.da.to D.da.L D.da.s K D.da.fi).s D.da.sy D.da.s := by
  have := autoD_eqv hK D.da.fi (bfs_pos K)
  rwa [bfs_head] at this
def castL (l : List Nat) : List Int := l.map fun n : Nat => (n : Int)
theorem quo_is {d : Da} {c : List Nat} {D3 : Dv} (hL : D3.L = (d.L : Int)) (hs : D3.s = 0) (hf : D3.fin = (reps c d.n).map d.fi) (hr : D3.rs.map (·.xs) = (reps c d.n).map fun q => castL (qrow d c q)) : D3.Is (quo d c 0) := by
  refine ⟨hL, hs, hf, ?_⟩
  rw [hr]
  unfold quo
  rw [List.map_map]; rfl
theorem cls_start {d : Da} {c : List Nat} (h : Cls d c) (hd : d.Ok) (hs : d.s = 0) : c.getD d.s 0 = 0 := by
  have h1 := h.fo 0 (by rw [h.len]; exact hd.pos_n)
  rw [hs]
  simpa [topL] using h1
theorem min_chain {D D2 D3 D4 : Dv} {K K2 : Nat} {c : List Nat} (hv : D.Ok) (hK : Done D.da.to D.da.L D.da.s K) (hIs : D2.Is (autoD D.da.to D.da.L D.da.s K D.da.fi)) (hc : Cls D2.da c) (h3 : D3.Is (quo D2.da c 0))
    (hK2 : Done D3.da.to D3.da.L D3.da.s K2) (h4 : D4.Is (autoD D3.da.to D3.da.L D3.da.s K2 D3.da.fi)) : D4.Ok ∧ IsMin D.da.L D.da.sy D.da.s D4.da := by
  have hv2 := is2_ok hv hK hIs
  have e2 := hIs.da
  have e3 := h3.da
  have hs0 := cls_start hc hv2.daOk (by rw [e2]; rfl)
  have h3ok : D3.Ok := by
    have hm := hv2.may
    have h1 : (quo D2.da c 0).Ok := quo_ok hv2.daOk hc (by
      have := topL_all c (p := D2.da.s) (by rw [hc.len]; exact hv2.daOk.st)
      rw [hs0] at this; exact this)
    refine h3.ok h1 (by show 1 ≤ D2.L.toNat ∧ D2.L.toNat ≤ 6; omega) ?_
    rw [quo_n hc]
    have h5 := fo_top_le hc.fo (Nat.le_refl c.length)
    rw [List.take_length] at h5
    have h6 := hv2.n
    have h7 : c.length = D2.fin.length := hc.len
    omega
  refine ⟨is2_ok h3ok hK2 h4, ?_⟩
  rw [h4.da]
  rw [e3] at hK2 ⊢
  have := quo_min hv2.daOk hc (s := 0) hs0.symm hK2
  rw [e2] at this ⊢
  exact this.congr (is2_eqv hK)
theorem reps_s {c : List Nat} {q : Nat} (h : c.getD q 0 < topL (c.take q)) : reps c (q + 1) = reps c q := by rw [reps, if_pos h]
theorem reps_n {c : List Nat} {q : Nat} (h : ¬ c.getD q 0 < topL (c.take q)) : reps c (q + 1) = reps c q ++ [q] := by rw [reps, if_neg h]
theorem qrow_end (d : Da) (c : List Nat) (q : Nat) : tabI d.L (fun y => if y < d.L then ((c.getD (d.to q y) 0 : Nat) : Int) else 0) = castL (qrow d c q) := by
  unfold qrow castL
  rw [List.map_map]
  exact tabI_congr fun y hy => by rw [if_pos hy]; rfl
theorem qrow_put {d : Da} {c : List Nat} {q x : Nat} : ((tabI d.L (fun y => if y < x then ((c.getD (d.to q y) 0 : Nat) : Int) else 0)).map zz).set x (zn (c.getD (d.to q x) 0)) = (tabI d.L (fun y => if y < x + 1 then ((c.getD (d.to q y) 0 : Nat) : Int) else 0)).map zz := by
  refine tabI_set (if_pos (Nat.lt_succ_self x)) fun y _ hy => ?_
  show (if y < x + 1 then _ else _) = if y < x then _ else _
  by_cases h : y < x
  · rw [if_pos h, if_pos (by omega)]
  · rw [if_neg h, if_neg (by omega)]
theorem qrow_zero (d : Da) (c : List Nat) (q : Nat) : List.replicate d.L (zz 0) = (tabI d.L (fun y => if y < 0 then ((c.getD (d.to q y) 0 : Nat) : Int) else 0)).map zz := by
  rw [tabI_zz]; congr 1
theorem qrow_len (d : Da) (c : List Nat) (q : Nat) : (castL (qrow d c q)).length = d.L := by simp [castL, qrow]
end Go.Am

namespace Go.Am
open Go Go.Eng
open Go.Tl (bo mayL Wd okW okB)

/-! equality of automata, as the reference tests it -/
def sameD (D E : Dv) : Bool := decide (D.L = E.L ∧ D.s = E.s ∧ D.fin = E.fin ∧ D.rs.map (·.xs) = E.rs.map (·.xs))
theorem sameD_t {D E : Dv} (h1 : D.L = E.L) (h2 : D.s = E.s) (h3 : D.fin.length = E.fin.length) (h4 : ∀ q, q < D.fin.length → D.fin.getD q false = E.fin.getD q false) (h5 : D.rs.length = E.rs.length) (h6 : ∀ q, q < D.rs.length → (D.rs.getD q rw0).xs = (E.rs.getD q rw0).xs) : sameD D E = true := by
  unfold sameD
  rw [decide_eq_true_eq]
  refine ⟨h1, h2, list_ext_getD false h3 h4, ?_⟩
  refine list_ext_getD [] (by simp [h5]) fun q hq => ?_
  rw [List.length_map] at hq
  have := h6 q hq
  simp only [List.getD_eq_getElem?_getD, List.getElem?_map, List.getElem?_eq_getElem hq, List.getElem?_eq_getElem (show q < E.rs.length by omega), Option.map_some, Option.getD_some] at this ⊢
  exact this
theorem sameD_f {D E : Dv} (h : ¬ (D.L = E.L ∧ D.s = E.s ∧ D.fin = E.fin ∧ D.rs.map (·.xs) = E.rs.map (·.xs))) : sameD D E = false := decide_eq_false h
theorem sameD_row {D E : Dv} {q : Nat} (h : (D.rs.getD q rw0).xs ≠ (E.rs.getD q rw0).xs) : sameD D E = false := sameD_f fun ⟨_, _, _, h4⟩ => h (by
  have := congrArg (fun l => l.getD q []) h4
  simp only [List.getD_eq_getElem?_getD, List.getElem?_map] at this ⊢
  cases h1 : D.rs[q]? <;> cases h2 : E.rs[q]? <;> simp [h1, h2] at this ⊢
  all_goals first | exact this | exact this.symm)
theorem sameD_da {D E : Dv} (hD : D.Ok) (hE : E.Ok) : sameD D E = true ↔ D.da = E.da := by
  unfold sameD
  rw [decide_eq_true_eq]
  constructor
  · intro ⟨h1, h2, h3, h4⟩
    have h5 : D.da.nx = E.da.nx := by
      have := congrArg (List.map (List.map Int.toNat)) h4
      rw [List.map_map, List.map_map] at this
      exact this
    unfold Dv.da at h5 ⊢
    rw [h1, h2, h3]
    simp only at h5
    rw [h5]
  · intro h
    have i1 := hD.is
    have i2 := hE.is
    rw [h] at i1
    exact ⟨i1.L.trans i2.L.symm, i1.s.trans i2.s.symm, i1.fin.trans i2.fin.symm, i1.rs.trans i2.rs.symm⟩

/-! pairs of labels as one number -/
def toL (d : Da) (p : List Nat) (x k : Nat) : List Nat := (List.range k).map fun q => p.getD (d.to q x) 0
end Go.Am

namespace Go.Rel
open Go Go.Eng

abbrev W64 := BitVec 64
/-! identity -/
/-! closure -/
end Go.Rel

namespace Go.Am
open Go Go.Eng
open Go.Tl (bo mayL Wd okW okB)

/-! an automaton read backwards -/
theorem InW.rev {L : Nat} {w : List Nat} (h : InW L w) : InW L w.reverse := fun x hx => h x (List.mem_reverse.1 hx)
structure Rev {α : Type} (d : Da) (T : Sy α) (A0 : α) (mem : α → Nat → Bool) : Prop where
  step : ∀ A x p, x < d.L → p < d.n → mem (T.f A x) p = mem A (d.to p x)
  fin : ∀ A, T.fin A = mem A d.s
  start : ∀ p, p < d.n → mem A0 p = d.fi p
section
variable {α : Type} {d : Da} {T : Sy α} {A0 : α} {mem : α → Nat → Bool} (h : Rev d T A0 mem) (hd : d.Ok)
include h hd
theorem Rev.run {w : List Nat} (hw : InW d.L w) (A : α) {p : Nat} (hp : p < d.n) : mem (T.run A w) p = mem A (d.sy.run p w.reverse) := by
  induction w generalizing A p with
  | nil => rfl
  | cons x w ih =>
    have h1 : T.run A (x :: w) = T.run (T.f A x) w := rfl
    rw [h1, ih hw.tail (T.f A x) hp, List.reverse_cons, Sy.run_app, h.step A x _ hw.head (hd.run_lt hw.tail.rev hp)]
    rfl
theorem Rev.acc {w : List Nat} (hw : InW d.L w) : T.acc A0 w = d.sy.acc d.s w.reverse := by
  unfold Sy.acc
  rw [h.fin, h.run hd hw A0 hd.st, h.start _ (hd.run_lt hw.rev hd.st)]
  rfl
end
/-! sets of at most 64 states as words of bits -/
/-- edges -/
structure Ed where
  fr : Int
  lt : Int
  to : Int
deriving DecidableEq
end Go.Am

namespace Go.Rel
open Go Go.Eng

def tz (s : W64) : Nat := Lib.ctz 64 s.toNat

theorem s_form {s : W64} (h : s ≠ 0#64) : ∃ m, s.toNat = 2 ^ tz s * (2 * m + 1) ∧ tz s < 64 := by
  have h0 : s.toNat ≠ 0 := fun e => h (BitVec.eq_of_toNat_eq (by simpa using e))
  have := Lib.ctzFrom_spec 64 s.toNat (by omega) s.isLt
  unfold tz Lib.ctz
  rw [if_neg h0]
  exact this

/-! the walk of TrailingZeros64 -/
def tzIdx (s : W64) : Nat := (((s &&& -s) * 285870213051353865#64) >>> 58).toNat

theorem tzIdx_spec {s : W64} (h : s ≠ 0#64) : tzIdx s < 64 ∧ Lib.deBruijn64tab.getD (tzIdx s) 0 = tz s := by
  obtain ⟨m, hm, hk⟩ := s_form h
  have h0 : s.toNat ≠ 0 := fun e => h (BitVec.eq_of_toNat_eq (by simpa using e))
  have hlow : s.toNat &&& (18446744073709551616 - s.toNat) = 2 ^ tz s := by
    have := Lib.and_neg 64 (tz s) m (by rw [← hm]; exact s.isLt)
    rw [← hm] at this
    exact this
  have e : (s &&& -s).toNat = 2 ^ tz s := by
    rw [BitVec.toNat_and, BitVec.toNat_neg, ← hlow]
    congr 1
    have := s.isLt
    rw [Nat.mod_eq_of_lt (by omega)]
  have hi : tzIdx s = 2 ^ tz s * 285870213051353865 % 18446744073709551616 / 288230376151711744 := by
    unfold tzIdx
    rw [BitVec.toNat_ushiftRight, BitVec.toNat_mul, e, Nat.shiftRight_eq_div_pow]
    rfl
  rw [hi]
  exact Lib.deBruijn64_at _ hk

theorem tab_get {s : W64} (h : s ≠ 0#64) (f : Nat → Value) : (Lib.deBruijn64tab.map f)[tzIdx s]? = some (f (tz s)) := by
  obtain ⟨h1, h2⟩ := tzIdx_spec h
  have hl : tzIdx s < Lib.deBruijn64tab.length := by
    have : Lib.deBruijn64tab.length = 64 := by decide
    omega
  rw [getMap f _ 0 hl, h2]

theorem tz_lt {s : W64} (h : s ≠ 0#64) : tz s < 64 := (s_form h).choose_spec.2
/-! images -/
end Go.Rel

namespace Go.Rel
open Go Go.Eng

def tabV : List Value := Lib.deBruijn64tab.map (fun (n : Nat) => Value.int .u8 (n : Int))
def Tab (w : World) : Prop := Rd w (some ⟨0, 0, none⟩) tabV

theorem tz_bound {s : W64} (h : s ≠ 0#64) : 0 ≤ (((((s &&& -s) * 285870213051353865#64) >>> 58).toNat : Nat) : Int) ∧ (((((s &&& -s) * 285870213051353865#64) >>> 58).toNat : Nat) : Int) < (64 : Nat) := by
  have := (tzIdx_spec h).1
  unfold tzIdx at this
  omega
theorem tz_load {s : W64} (h : s ≠ 0#64) : tabV[Int.toNat (((((s &&& -s) * 285870213051353865#64) >>> 58).toNat : Nat) : Int)]? = some (.int .u8 (tz s : Int)) := by
  rw [Int.toNat_natCast]
  have := tab_get h (fun n : Nat => Value.int .u8 (n : Int))
  unfold tzIdx at this
  exact this

/-! two relations on the same points -/
/-! the converse -/
end Go.Rel

