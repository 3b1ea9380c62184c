/-
  Plain facts, without a program. No condition.
-/
import Derived.Test.YtamolakhpcofhaaEng
set_option linter.unusedSimpArgs false
namespace Go.Tl
open Go Go.Eng

structure Tm where
  op : Int
  lt : Int
  a : Int
  b : Int
deriving DecidableEq
abbrev tv (x : Tm) : List Value := [.int .i64 x.op, .int .i64 x.lt, .int .i64 x.a, .int .i64 x.b]
def t0 : Tm := ⟨0, 0, 0, 0⟩
/-! fields -/
def fl (op : Int) : Bool := decide (op = 2)
def fa (op : Int) : Bool := decide (4 ≤ op ∧ op ≤ 8)
def fb (op : Int) : Bool := decide (op = 5 ∨ op = 6 ∨ op = 8)
def fk (op : Int) : Bool := decide (1 ≤ op ∧ op ≤ 8)
def vf (v n : Int) (need : Bool) : Bool := if need then decide (0 ≤ v ∧ v < n) else decide (v = 0)
def okF (x : Tm) (i : Nat) (letters : Int) : Bool := fk x.op && vf x.lt letters (fl x.op) && vf x.a (i : Int) (fa x.op) && vf x.b (i : Int) (fb x.op)
def okL (xs : List Tm) (letters : Int) : Bool := (List.range xs.length).all fun j => okF (xs.getD j t0) j letters
def mayL (l : Int) : Bool := decide (1 ≤ l ∧ l ≤ 6)
/-- the error of a list of formulas -/
def vdF (xs : List Tm) (root letters : Int) : Int :=
  if mayL letters = false then 1 else if 200000 < xs.length then 3 else if okL xs letters = false then 22 else if root < 0 ∨ (xs.length : Int) ≤ root then 22 else 0

theorem okL_ok {xs : List Tm} {letters : Int} (h : ∀ j, j < xs.length → okF (xs.getD j t0) j letters = true) : okL xs letters = true := by
  unfold okL
  rw [List.all_eq_true]
  exact fun j hj => h j (List.mem_range.1 hj)
theorem okL_get {xs : List Tm} {letters : Int} (h : okL xs letters = true) {j : Nat} (hj : j < xs.length) : okF (xs.getD j t0) j letters = true := by
  unfold okL at h
  rw [List.all_eq_true] at h
  exact h j (List.mem_range.2 hj)

theorem ret_b {p q : Bool} (h : p = q) : Ending.returned (.bool p) = Ending.returned (.bool q) := by rw [h]
theorem vf_t (v n : Int) : vf v n true = decide (0 ≤ v ∧ v < n) := rfl
theorem vf_f (v n : Int) : vf v n false = decide (v = 0) := rfl
theorem vd_may {xs : List Tm} {root letters : Int} (h : letters < 1 ∨ 6 < letters) : vdF xs root letters = 1 := by
  rw [vdF, if_pos]; rw [mayL, decide_eq_false_iff_not]; omega
theorem may_in {letters : Int} (h1 : ¬ letters < 1) (h2 : ¬ 6 < letters) : mayL letters = true := by rw [mayL, decide_eq_true_eq]; omega
/-! words -/
abbrev Wd := List UInt8
def okB (letters : Int) (b : UInt8) : Bool := decide (97 ≤ (b.toNat : Int) ∧ (b.toNat : Int) - 97 < letters)
def okW (l : Wd) (letters : Int) : Bool := mayL letters && (decide (l.length ≤ 2048) && l.all (okB letters))
theorem u8_lt (b : UInt8) : (b.toNat : Int) < 256 := by have := b.toNat_lt; omega
theorem all_get {α : Type} {p : α → Bool} {d : α} {l : List α} (h : ∀ j, j < l.length → p (l.getD j d) = true) : l.all p = true := by
  rw [List.all_eq_true]
  intro x hx
  obtain ⟨j, hj, rfl⟩ := List.mem_iff_getElem.1 hx
  have := h j hj
  simpa [List.getD, hj] using this
theorem get_all {α : Type} {p : α → Bool} {d : α} {l : List α} (h : l.all p = true) {j : Nat} (hj : j < l.length) : p (l.getD j d) = true := by
  rw [List.all_eq_true] at h
  exact h _ (by simp [List.getD, hj])
theorem get_bad {α : Type} {p : α → Bool} {d : α} {l : List α} {j : Nat} (hj : j < l.length) (h : p (l.getD j d) = false) : l.all p = false := by
  cases hb : l.all p with
  | false => rfl
  | true => rw [get_all hb hj] at h; cases h
theorem okW_may {l : Wd} {letters : Int} (h : letters < 1 ∨ 6 < letters) : okW l letters = false := by
  have : mayL letters = false := by rw [mayL, decide_eq_false_iff_not]; omega
  rw [okW, this]; rfl
theorem okW_long {l : Wd} {letters : Int} (h : 2048 < l.length) : okW l letters = false := by
  have : decide (l.length ≤ 2048) = false := by rw [decide_eq_false_iff_not]; omega
  rw [okW, this]; simp
theorem okW_bad {l : Wd} {letters : Int} {j : Nat} (hj : j < l.length) (h : okB letters (l.getD j 0) = false) : okW l letters = false := by
  rw [okW, get_bad hj h]; simp
theorem okW_ok {l : Wd} {letters : Int} (h : mayL letters = true) (hl : ¬ 2048 < l.length) (hb : ∀ j, j < l.length → okB letters (l.getD j 0) = true) : okW l letters = true := by
  have : decide (l.length ≤ 2048) = true := by rw [decide_eq_true_eq]; omega
  rw [okW, h, this, all_get hb]; rfl
end Go.Tl

namespace Go.Tp
open Go Go.Eng

abbrev zi (n : Int) : Value := .int .i64 n
section
variable {H : Type} {enc : TypeId × Value → H} {P : Program} {W : World} {held : Bool} {spare : Nat → Bool}
open Go.ChangeShapes Go.WideShapes Go.ChangeAt Go.RowKit
theorem flat_single (xs : List Int) : xs.flatMap (fun n => [zi n]) = xs.map zi := by
  induction xs with
  | nil => rfl
  | cons x r ih => rw [List.flatMap_cons, ih]; rfl
/-- A slice of ints that came in. -/
theorem open_zs {r : Reach} {b0 : Nat} {t e : TypeId} {v : Value} {d : DataW H} {ps : List MemPlace} (ht : P.underlying t = some (.slice e)) (he : P.underlying e = some (.int .i64)) (hc : P.cellsOf e = 1) (hval : Value.okWide P W r b0 t v)
    (h : DataW.Trod enc P W 0 spare held t v d ps) : ∃ (a : Option Addr) (xs : List Int) (cp : Nat), v = .slice a xs.length cp ∧ Rd W a (xs.map zi) ∧ xs.length ≤ cp := by
  obtain ⟨a, xs, cp, h1, h2, _, h4⟩ := open_flat (f := fun n => [zi n]) (k := 1) (fun _ => rfl) ht hc (fun n cs y h => by obtain ⟨m, h2, _⟩ := DataW.trod_int he h; exact ⟨m, h2⟩) hval h
  exact ⟨a, xs, cp, h1, (flat_single xs) ▸ h2, h4⟩
end
/-! the tape of numbers -/
theorem mod_rng {x n : Int} (hn : 1 ≤ n) : -n < x.tmod n ∧ x.tmod n < n := ⟨Int.lt_tmod_of_pos x (by omega), Int.tmod_lt_of_pos x (by omega)⟩
end Go.Tp
namespace Go.Tl
open Go Go.Eng
/-! words -/
theorem okW_of {l : Wd} {letters : Int} (h1 : mayL letters = true) (h2 : l.length ≤ 2048) (h3 : l.all (okB letters) = true) : okW l letters = true := by
  simp [okW, h1, h2, h3]
theorem okB_of {letters r : Int} (h : 0 ≤ r ∧ r < letters) (h' : letters ≤ 6) : okB letters (UInt8.ofNat (97 + r).toNat) = true := by
  rw [okB, decide_eq_true_eq]
  have : (UInt8.ofNat (97 + r).toNat).toNat = (97 + r).toNat := by
    rw [UInt8.toNat_ofNat']; omega
  omega
theorem bv_of {r : Int} (h : 0 ≤ r ∧ r < 100) : Value.int .u8 (97 + r) = bv (UInt8.ofNat (97 + r).toNat) := by
  have : (UInt8.ofNat (97 + r).toNat).toNat = (97 + r).toNat := by rw [UInt8.toNat_ofNat']; omega
  rw [bv, this]
  congr 1
  omega
end Go.Tl

namespace Go.Am

/-! deterministic systems, their exploration in breadth-first order, canonical automata -/
structure Da where
  L : Nat
  s : Nat
  fin : List Bool
  nx : List (List Nat)
abbrev Da.n (d : Da) : Nat := d.fin.length
def Da.to (d : Da) (q x : Nat) : Nat := (d.nx.getD q []).getD x 0
def Da.fi (d : Da) (q : Nat) : Bool := d.fin.getD q false
structure Da.Ok (d : Da) : Prop where
  len : d.nx.length = d.fin.length
  st : d.s < d.fin.length
  row : ∀ q, q < d.fin.length → (d.nx.getD q []).length = d.L
  lt : ∀ q x, q < d.fin.length → x < d.L → d.to q x < d.fin.length
abbrev InW (L : Nat) (w : List Nat) : Prop := ∀ x ∈ w, x < L
theorem InW.nil (L : Nat) : InW L [] := fun _ h => by cases h
theorem InW.cons {L x : Nat} {w : List Nat} (hx : x < L) (hw : InW L w) : InW L (x :: w) := fun y hy => by
  rcases List.mem_cons.1 hy with rfl | h
  · exact hx
  · exact hw y h
theorem InW.head {L x : Nat} {w : List Nat} (h : InW L (x :: w)) : x < L := h x List.mem_cons_self
theorem InW.tail {L x : Nat} {w : List Nat} (h : InW L (x :: w)) : InW L w := fun y hy => h y (List.mem_cons_of_mem _ hy)
theorem InW.app {L : Nat} {v w : List Nat} (hv : InW L v) (hw : InW L w) : InW L (v ++ w) := fun y hy => by
  rcases List.mem_append.1 hy with h | h
  · exact hv y h
  · exact hw y h

/-- a system: what a letter does, and which states are final -/
structure Sy (α : Type) where
  f : α → Nat → α
  fin : α → Bool
def Sy.run {α : Type} (S : Sy α) : α → List Nat → α
  | q, [] => q
  | q, x :: w => S.run (S.f q x) w
def Sy.acc {α : Type} (S : Sy α) (q : α) (w : List Nat) : Bool := S.fin (S.run q w)
theorem Sy.run_app {α : Type} (S : Sy α) (q : α) (v w : List Nat) : S.run q (v ++ w) = S.run (S.run q v) w := by
  induction v generalizing q with
  | nil => rfl
  | cons x v ih => exact ih _
def Da.sy (d : Da) : Sy Nat := ⟨d.to, d.fi⟩
/-- the same words of letters less than L -/
def Eqv {α β : Type} (L : Nat) (S : Sy α) (p : α) (T : Sy β) (q : β) : Prop := ∀ w, InW L w → S.acc p w = T.acc q w
theorem Eqv.symm {α β : Type} {L : Nat} {S : Sy α} {p : α} {T : Sy β} {q : β} (h : Eqv L S p T q) : Eqv L T q S p := fun w hw => (h w hw).symm
theorem Eqv.run {α β : Type} {L : Nat} {S : Sy α} {p : α} {T : Sy β} {q : β} (h : Eqv L S p T q) {v : List Nat} (hv : InW L v) : Eqv L S (S.run p v) T (T.run q v) := fun w hw => by
  have := h (v ++ w) (hv.app hw)
  unfold Sy.acc at this ⊢
  rwa [S.run_app, T.run_app] at this
/-! canonical order -/
theorem list_ext_getD {α : Type} {l m : List α} (z : α) (hl : l.length = m.length) (h : ∀ i, i < l.length → l.getD i z = m.getD i z) : l = m := by
  apply List.ext_getElem hl
  intro i h1 h2
  have := h i h1
  simpa [List.getD_eq_getElem?_getD, h1, h2] using this

end Go.Am

namespace Go.Am

/-! exploration in breadth-first order -/
section
variable {α : Type} [DecidableEq α] (f : α → Nat → α) (L : Nat) (s : α)
def bfs : Nat → List α
  | 0 => [s]
  | k + 1 => if f ((bfs k).getD (k / L) s) (k % L) ∈ bfs k then bfs k else bfs k ++ [f ((bfs k).getD (k / L) s) (k % L)]
variable {f L s}
theorem bfs_succ (k : Nat) : ∃ t, bfs f L s (k + 1) = bfs f L s k ++ t ∧ t.length ≤ 1 := by
  rw [bfs]
  split
  · exact ⟨[], by simp, by simp⟩
  · exact ⟨_, rfl, by simp⟩
theorem bfs_pre (k j : Nat) : ∃ t, bfs f L s (k + j) = bfs f L s k ++ t := by
  induction j with
  | zero => exact ⟨[], by simp⟩
  | succ j ih =>
    obtain ⟨t, ht⟩ := ih
    obtain ⟨u, hu, _⟩ := bfs_succ (f := f) (L := L) (s := s) (k + j)
    exact ⟨t ++ u, by rw [← Nat.add_assoc, hu, ht, List.append_assoc]⟩
theorem bfs_get {k m i : Nat} (h : k ≤ m) (hi : i < (bfs f L s k).length) (z : α) : (bfs f L s m).getD i z = (bfs f L s k).getD i z := by
  obtain ⟨t, ht⟩ := bfs_pre (f := f) (L := L) (s := s) k (m - k)
  rw [show k + (m - k) = m by omega] at ht
  rw [ht, List.getD_eq_getElem?_getD, List.getD_eq_getElem?_getD, List.getElem?_append_left hi]
/-- what step k meets is there from then on -/
theorem bfs_hit {k m : Nat} (h : k < m) (hk : k / L < (bfs f L s k).length) : f ((bfs f L s m).getD (k / L) s) (k % L) ∈ bfs f L s m := by
  rw [bfs_get (Nat.le_of_lt h) hk]
  have h1 : f ((bfs f L s k).getD (k / L) s) (k % L) ∈ bfs f L s (k + 1) := by
    rw [bfs]; split
    · assumption
    · simp
  obtain ⟨t, ht⟩ := bfs_pre (f := f) (L := L) (s := s) (k + 1) (m - (k + 1))
  rw [show k + 1 + (m - (k + 1)) = m by omega] at ht
  rw [ht]; exact List.mem_append_left _ h1
variable (f L s) in
/-- the exploration has come to step K and goes on as long as there are states -/
def Going (K : Nat) : Prop := ∀ k, k < K → k / L < (bfs f L s k).length
variable (f L s) in
structure Done (K : Nat) : Prop where
  pos : 0 < L
  going : Going f L s K
  all : K = (bfs f L s K).length * L
section
variable {K : Nat}
theorem Done.closed (h : Done f L s K) {i x : Nat} (hi : i < (bfs f L s K).length) (hx : x < L) : f ((bfs f L s K).getD i s) x ∈ bfs f L s K := by
  have hk : i * L + x < K := by
    rw [h.all]
    have : (i + 1) * L ≤ (bfs f L s K).length * L := Nat.mul_le_mul_right _ hi
    rw [Nat.add_mul] at this; omega
  have e1 : (i * L + x) / L = i := by rw [Nat.mul_comm, Nat.mul_add_div h.pos, Nat.div_eq_of_lt hx, Nat.add_zero]
  have e2 : (i * L + x) % L = x := by rw [Nat.mul_comm, Nat.mul_add_mod, Nat.mod_eq_of_lt hx]
  have := bfs_hit hk (h.going _ hk)
  rwa [e1, e2] at this
variable (f L s K) in
theorem getD_idxOf {l : List α} {a : α} (h : a ∈ l) (z : α) : l.getD (l.idxOf a) z = a := by
  have h1 := List.idxOf_lt_length_of_mem h
  rw [List.getD_eq_getElem?_getD, List.getElem?_eq_getElem h1, Option.getD_some]
  exact List.getElem_idxOf h1
theorem idxOf_getD {l : List α} (hd : l.Nodup) {i : Nat} (hi : i < l.length) (z : α) : l.idxOf (l.getD i z) = i := by
  rw [List.getD_eq_getElem?_getD, List.getElem?_eq_getElem hi, Option.getD_some]
  exact hd.idxOf_getElem _ hi
theorem idxOf_in {l m : List α} {a : α} (h : a ∈ l) : (l ++ m).idxOf a = l.idxOf a := by rw [List.idxOf_append, if_pos h]
theorem idxOf_out {l m : List α} {a : α} (h : a ∉ l) : (l ++ m).idxOf a = l.length + m.idxOf a := by rw [List.idxOf_append, if_neg h, Nat.add_comm]
end
end

/-! the reachable part of an automaton -/
theorem nodup_lt_len {l : List Nat} (hd : l.Nodup) {n : Nat} (h : ∀ q ∈ l, q < n) : l.length ≤ n := by
  have : l.length ≤ (List.range n).length := hd.length_le_of_subset fun q hq => List.mem_range.2 (h q hq)
  simpa using this
end Go.Am

namespace Go.Am

/-! labels in the order of their first places -/
def topL (l : List Nat) : Nat := l.foldl (fun m x => max m (x + 1)) 0
theorem topL_snoc (l : List Nat) (x : Nat) : topL (l ++ [x]) = max (topL l) (x + 1) := by simp [topL]
theorem take_snoc {α : Type} (l : List α) (z : α) {q : Nat} (hq : q < l.length) : l.take (q + 1) = l.take q ++ [l.getD q z] := by
  rw [List.take_add_one, List.getElem?_eq_getElem hq, List.getD_eq_getElem?_getD, List.getElem?_eq_getElem hq]; rfl
theorem topL_take (c : List Nat) {q : Nat} (hq : q < c.length) : topL (c.take (q + 1)) = max (topL (c.take q)) (c.getD q 0 + 1) := by rw [take_snoc c 0 hq, topL_snoc]
theorem topL_mono (c : List Nat) {p q : Nat} (h : p ≤ q) (hq : q ≤ c.length) : topL (c.take p) ≤ topL (c.take q) := by
  induction q with
  | zero => obtain rfl : p = 0 := by omega
            exact Nat.le_refl _
  | succ q ih =>
    rcases Nat.lt_or_ge p (q + 1) with h1 | h1
    · have := ih (by omega) (by omega)
      rw [topL_take c (by omega)]; omega
    · obtain rfl : p = q + 1 := by omega
      exact Nat.le_refl _
theorem topL_lt (c : List Nat) {p q : Nat} (h : p < q) (hq : q ≤ c.length) : c.getD p 0 < topL (c.take q) := by
  have h1 := topL_mono c (p := p + 1) (q := q) h hq
  rw [topL_take c (by omega)] at h1
  omega
theorem topL_all (c : List Nat) {p : Nat} (h : p < c.length) : c.getD p 0 < topL c := by
  have := topL_lt c h (Nat.le_refl _)
  rwa [List.take_length] at this
abbrev FO (c : List Nat) : Prop := ∀ q, q < c.length → c.getD q 0 ≤ topL (c.take q)
theorem fo_occurs {c : List Nat} (h : FO c) {q v : Nat} (hq : q ≤ c.length) (hv : v < topL (c.take q)) : ∃ p, p < q ∧ c.getD p 0 = v := by
  induction q with
  | zero => simp [topL] at hv
  | succ q ih =>
    rw [topL_take c (by omega)] at hv
    rcases Nat.lt_or_ge v (topL (c.take q)) with h1 | h1
    · obtain ⟨p, hp, he⟩ := ih (by omega) h1
      exact ⟨p, by omega, he⟩
    · have := h q (by omega)
      exact ⟨q, by omega, by omega⟩
theorem fo_top_le {c : List Nat} (h : FO c) {q : Nat} (hq : q ≤ c.length) : topL (c.take q) ≤ q := by
  induction q with
  | zero => simp [topL]
  | succ q ih =>
    have h1 := ih (by omega)
    have h2 := h q (by omega)
    rw [topL_take c (by omega)]; omega
section
variable {c c' : List Nat} (hc : FO c) (hc' : FO c') (hl : c.length = c'.length) (hr : ∀ p q, p < c.length → q < c.length → c'.getD p 0 = c'.getD q 0 → c.getD p 0 = c.getD q 0)
include hc' hl hr
theorem fo_new {q : Nat} (hq : q < c.length) (hn : c.getD q 0 = topL (c.take q)) : c'.getD q 0 = topL (c'.take q) := by
  have h1 := hc' q (by omega)
  rcases Nat.lt_or_ge (c'.getD q 0) (topL (c'.take q)) with h2 | h2
  · obtain ⟨p, hp, he⟩ := fo_occurs hc' (q := q) (by omega) h2
    have h3 := hr p q (by omega) hq he
    have h4 := topL_lt c hp (Nat.le_of_lt hq)
    omega
  · omega
include hc
theorem fo_diff {p q : Nat} (h : p ≤ q) (hq : q ≤ c.length) : topL (c.take q) + topL (c'.take p) ≤ topL (c'.take q) + topL (c.take p) := by
  induction q with
  | zero => obtain rfl : p = 0 := by omega
            omega
  | succ q ih =>
    rcases Nat.lt_or_ge p (q + 1) with h1 | h1
    · have ih := ih (by omega) (by omega)
      rw [topL_take c (by omega), topL_take c' (by omega)]
      have h2 := hc q (by omega)
      rcases Nat.lt_or_ge (c.getD q 0) (topL (c.take q)) with h3 | h3
      · omega
      · have := fo_new hc' hl hr (q := q) (by omega) (by omega)
        omega
    · obtain rfl : p = q + 1 := by omega
      omega
theorem fo_le : topL c ≤ topL c' := by
  have := fo_diff hc hc' hl hr (Nat.zero_le c.length) (Nat.le_refl _)
  rw [List.take_length, hl, List.take_length] at this
  simp [topL] at this ⊢
  omega
/-- a refinement with as many labels is no other -/
theorem fo_same (ht : topL c' ≤ topL c) : c' = c := by
  have heq : ∀ q, q ≤ c.length → topL (c.take q) = topL (c'.take q) := fun q hq => by
    have h1 := fo_diff hc hc' hl hr (Nat.zero_le q) hq
    have h2 := fo_diff hc hc' hl hr hq (Nat.le_refl _)
    rw [List.take_length, show c'.take c.length = c' by rw [hl, List.take_length]] at h2
    have h0 : topL (c.take 0) = topL (c'.take 0) := rfl
    omega
  refine list_ext_getD 0 hl.symm fun q hq => ?_
  rw [← hl] at hq
  induction q using Nat.strongRecOn with
  | _ q ih =>
    have h1 := heq q (by omega)
    have h2 := heq (q + 1) (by omega)
    rw [topL_take c (by omega), topL_take c' (by omega)] at h2
    have h3 := hc q (by omega)
    have h4 := hc' q (by omega)
    rcases Nat.lt_or_ge (c'.getD q 0) (topL (c'.take q)) with h5 | h5
    · obtain ⟨p, hp, he⟩ := fo_occurs hc' (q := q) (by omega) h5
      rw [← he, ih p hp (by omega)]
      exact hr p q (by omega) hq he
    · omega
end

/-! labels of keys -/
section
variable {κ : Type} [DecidableEq κ]
def ded (ks : List κ) : List κ := ks.foldl (fun a k => if k ∈ a then a else a ++ [k]) []
theorem ded_snoc (ks : List κ) (k : κ) : ded (ks ++ [k]) = if k ∈ ded ks then ded ks else ded ks ++ [k] := by unfold ded; rw [List.foldl_append]; rfl
omit [DecidableEq κ] in
theorem snoc_ind {p : List κ → Prop} (h0 : p []) (hs : ∀ l x, p l → p (l ++ [x])) (l : List κ) : p l := by
  have : ∀ n (l : List κ), l.length = n → p l := by
    intro n
    induction n with
    | zero => intro l hl; rw [List.length_eq_zero_iff.1 hl]; exact h0
    | succ n ih =>
      intro l hl
      have hne : l ≠ [] := by intro e; subst e; simp at hl
      have := List.dropLast_concat_getLast hne
      rw [← this]
      exact hs _ _ (ih _ (by simp; omega))
  exact this _ l rfl
theorem mem_ded {ks : List κ} {k : κ} : k ∈ ded ks ↔ k ∈ ks := by
  induction ks using snoc_ind with
  | h0 => simp [ded]
  | hs l x ih =>
    rw [ded_snoc]
    split
    · rename_i h
      rw [ih, List.mem_append, List.mem_singleton]
      exact ⟨.inl, fun h' => h'.elim id (fun e => e ▸ ih.1 (e ▸ h))⟩
    · rw [List.mem_append, List.mem_append, ih]
def lab (ks : List κ) : List Nat := ks.map fun k => (ded ks).idxOf k
theorem lab_len (ks : List κ) : (lab ks).length = ks.length := by simp [lab]
theorem idx_keep {ks : List κ} {k x : κ} (h : k ∈ ded ks) : (ded (ks ++ [x])).idxOf k = (ded ks).idxOf k := by
  rw [ded_snoc]
  split
  · rfl
  · rw [idxOf_in h]
theorem lab_snoc (ks : List κ) (k : κ) : lab (ks ++ [k]) = lab ks ++ [(ded (ks ++ [k])).idxOf k] := by
  unfold lab
  rw [List.map_append]
  congr 1
  exact List.map_congr_left fun a ha => idx_keep (mem_ded.2 ha)
theorem idx_new {ks : List κ} {k : κ} (h : k ∉ ded ks) : (ded (ks ++ [k])).idxOf k = (ded ks).length := by
  rw [ded_snoc, if_neg h, idxOf_out h, List.idxOf_cons_self, Nat.add_zero]
theorem lab_top (ks : List κ) : topL (lab ks) = (ded ks).length := by
  induction ks using snoc_ind with
  | h0 => rfl
  | hs l x ih =>
    rw [lab_snoc, topL_snoc, ih]
    by_cases h : x ∈ ded l
    · rw [idx_keep h, ded_snoc, if_pos h]
      have := List.idxOf_lt_length_of_mem h
      omega
    · rw [idx_new h, ded_snoc, if_neg h, List.length_append, List.length_singleton]; omega
theorem lab_fo (ks : List κ) : FO (lab ks) := by
  induction ks using snoc_ind with
  | h0 => intro q hq; simp [lab] at hq
  | hs l x ih =>
    intro q hq
    rw [lab_len, List.length_append, List.length_singleton] at hq
    rw [lab_snoc]
    rcases Nat.lt_or_ge q l.length with h | h
    · rw [List.getD_eq_getElem?_getD, List.getElem?_append_left (by rw [lab_len]; exact h), ← List.getD_eq_getElem?_getD, List.take_append_of_le_length (by rw [lab_len]; omega)]
      exact ih q (by rw [lab_len]; exact h)
    · obtain rfl : q = l.length := by omega
      rw [List.getD_eq_getElem?_getD, List.getElem?_append_right (by rw [lab_len]; exact Nat.le_refl _), lab_len, Nat.sub_self, List.take_append_of_le_length (by rw [lab_len]; exact Nat.le_refl _), List.take_of_length_le (by rw [lab_len]; exact Nat.le_refl _), lab_top]
      by_cases h2 : x ∈ ded l
      · have := List.idxOf_lt_length_of_mem h2
        simp [idx_keep h2]; omega
      · simp [idx_new h2]
theorem lab_iff (ks : List κ) (z : κ) {p q : Nat} (hp : p < ks.length) (hq : q < ks.length) : (lab ks).getD p 0 = (lab ks).getD q 0 ↔ ks.getD p z = ks.getD q z := by
  have hg : ∀ i, i < ks.length → (lab ks).getD i 0 = (ded ks).idxOf (ks.getD i z) := fun i hi => by
    unfold lab
    simp only [List.getD_eq_getElem?_getD, List.getElem?_map, List.getElem?_eq_getElem hi, Option.map_some, Option.getD_some]
  have hm : ∀ i, i < ks.length → ks.getD i z ∈ ded ks := fun i hi => by
    rw [List.getD_eq_getElem?_getD, List.getElem?_eq_getElem hi, Option.getD_some, mem_ded]; exact List.getElem_mem hi
  rw [hg p hp, hg q hq]
  refine ⟨fun h => ?_, fun h => by rw [h]⟩
  have := getD_idxOf (hm p hp) z
  rw [h, getD_idxOf (hm q hq) z] at this
  exact this.symm
end

/-! partitions of the states -/
section
variable {d : Da} {c c' : List Nat}
/-! the quotient -/
def reps (c : List Nat) : Nat → List Nat
  | 0 => []
  | q + 1 => if c.getD q 0 < topL (c.take q) then reps c q else reps c q ++ [q]
theorem reps_len (h : FO c) {q : Nat} (hq : q ≤ c.length) : (reps c q).length = topL (c.take q) := by
  induction q with
  | zero => rfl
  | succ q ih =>
    have h1 := ih (by omega)
    have h2 := h q (by omega)
    rw [reps, topL_take c (by omega)]
    split
    · rw [h1]; omega
    · rw [List.length_append, h1, List.length_singleton]; omega
theorem reps_get (h : FO c) {q i : Nat} (hq : q ≤ c.length) (hi : i < topL (c.take q)) : (reps c q).getD i 0 < q ∧ c.getD ((reps c q).getD i 0) 0 = i := by
  induction q with
  | zero => simp [topL] at hi
  | succ q ih =>
    have h2 := h q (by omega)
    have hl := reps_len h (q := q) (by omega)
    rw [topL_take c (by omega)] at hi
    rw [reps]
    split
    · obtain ⟨h3, h4⟩ := ih (by omega) (by omega)
      exact ⟨by omega, h4⟩
    · rcases Nat.lt_or_ge i (topL (c.take q)) with h3 | h3
      · obtain ⟨h4, h5⟩ := ih (by omega) h3
        rw [List.getD_eq_getElem?_getD, List.getElem?_append_left (by omega), ← List.getD_eq_getElem?_getD]
        exact ⟨by omega, h5⟩
      · obtain rfl : i = (reps c q).length := by omega
        rw [List.getD_eq_getElem?_getD, List.getElem?_append_right (Nat.le_refl _), Nat.sub_self]
        refine ⟨Nat.lt_succ_self q, ?_⟩
        show c.getD q 0 = _
        omega
end
/-! sizes -/
end Go.Am

namespace Go.Tl
open Go Go.Eng

/-! values of formulas -/
abbrev bo (b : Bool) : Value := .bool b
def gt (v : List Bool) (i : Int) : Bool := v.getD i.toNat false
/-- the value of formula number i, where v are those before it, bf those behind the first letter -/
def evV (x : Tm) (letter : Int) (bf v : List Bool) (i : Nat) : Bool :=
  if x.op = 1 then true else if x.op = 2 then decide (letter = x.lt) else if x.op = 3 then decide (letter = -1) else if x.op = 4 then !gt v x.a
  else if x.op = 5 then gt v x.a && gt v x.b else if x.op = 6 then gt v x.a || gt v x.b else if x.op = 7 then !decide (letter = -1) && gt bf x.a
  else gt v x.b || (!decide (letter = -1) && gt v x.a && bf.getD i false)
def evL (xs : List Tm) (letter : Int) (bf : List Bool) (v : List Bool) : Nat → List Bool
  | 0 => v
  | k + 1 => (evL xs letter bf v k).set k (evV (xs.getD k t0) letter bf (evL xs letter bf v k) k)
theorem evL_len (xs : List Tm) (letter : Int) (bf v : List Bool) (k : Nat) : (evL xs letter bf v k).length = v.length := by
  induction k with
  | zero => rfl
  | succ k ih => rw [evL, List.length_set, ih]

/-- what a valid formula says of its fields -/
theorem ok_op {x : Tm} {i : Nat} {letters : Int} (h : okF x i letters = true) : 1 ≤ x.op ∧ x.op ≤ 8 := by
  simp only [okF, Bool.and_eq_true, fk, decide_eq_true_eq] at h
  exact h.1.1.1
theorem ok_a {x : Tm} {i : Nat} {letters : Int} (h : okF x i letters = true) (ha : 4 ≤ x.op) : 0 ≤ x.a ∧ x.a < i := by
  have ho := ok_op h
  simp only [okF, Bool.and_eq_true] at h
  have h1 := h.1.2
  rw [show fa x.op = true by rw [fa, decide_eq_true_eq]; omega, vf_t, decide_eq_true_eq] at h1
  exact h1
theorem ok_b {x : Tm} {i : Nat} {letters : Int} (h : okF x i letters = true) (hb : x.op = 5 ∨ x.op = 6 ∨ x.op = 8) : 0 ≤ x.b ∧ x.b < i := by
  simp only [okF, Bool.and_eq_true] at h
  have h1 := h.2
  rw [show fb x.op = true by rw [fb, decide_eq_true_eq]; exact hb, vf_t, decide_eq_true_eq] at h1
  exact h1
end Go.Tl

namespace Go.Am
open Go Go.Eng
open Go.Tl (bo mayL)

/-! automata in memory -/
structure Dv where
  L : Int
  s : Int
  fa : Option Addr
  fc : Nat
  fin : List Bool
  na : Option Addr
  nc : Nat
  rs : List Rw
def Dv.da (D : Dv) : Da := ⟨D.L.toNat, D.s.toNat, D.fin, D.rs.map fun r => r.xs.map Int.toNat⟩
/-- a valid automaton -/
structure Dv.Ok (D : Dv) : Prop where
  may : 1 ≤ D.L ∧ D.L ≤ 6
  n : D.fin.length ≤ 30000
  len : D.rs.length = D.fin.length
  st : 0 ≤ D.s ∧ D.s < D.fin.length
  row : ∀ q, q < D.fin.length → ((D.rs.getD q rw0).xs.length : Int) = D.L ∧ ∀ x ∈ (D.rs.getD q rw0).xs, 0 ≤ x ∧ x < D.fin.length
theorem getD_map_toNat (l : List Int) (i : Nat) : (l.map Int.toNat).getD i 0 = (l.getD i 0).toNat := by
  simp only [List.getD_eq_getElem?_getD, List.getElem?_map]
  cases l[i]? <;> rfl
theorem Dv.nx_getD (D : Dv) (q : Nat) : D.da.nx.getD q [] = ((D.rs.getD q rw0).xs.map Int.toNat) := by
  unfold Dv.da
  simp only [List.getD_eq_getElem?_getD, List.getElem?_map]
  cases D.rs[q]? <;> rfl
theorem Dv.to_eq (D : Dv) (q x : Nat) : D.da.to q x = ((D.rs.getD q rw0).xs.getD x 0).toNat := by
  unfold Da.to
  rw [Dv.nx_getD, getD_map_toNat]
section
variable {D : Dv} (h : D.Ok)
include h
theorem Dv.Ok.mem {q x : Nat} (hq : q < D.fin.length) (hx : (x : Int) < D.L) : 0 ≤ (D.rs.getD q rw0).xs.getD x 0 ∧ (D.rs.getD q rw0).xs.getD x 0 < D.fin.length := by
  obtain ⟨h1, h2⟩ := h.row q hq
  have hx : x < (D.rs.getD q rw0).xs.length := by omega
  refine h2 _ ?_
  rw [List.getD_eq_getElem?_getD (l := (D.rs.getD q rw0).xs), List.getElem?_eq_getElem hx, Option.getD_some]
  exact List.getElem_mem hx
theorem Dv.Ok.to {q x : Nat} (hq : q < D.fin.length) (hx : (x : Int) < D.L) : (D.rs.getD q rw0).xs.getD x 0 = ((D.da.to q x : Nat) : Int) := by
  have := h.mem hq hx
  rw [Dv.to_eq]; omega
theorem Dv.Ok.s_eq : D.s = ((D.da.s : Nat) : Int) := by have := h.st; show D.s = (D.s.toNat : Int); omega
theorem Dv.Ok.L_eq : D.L = ((D.da.L : Nat) : Int) := by have := h.may; show D.L = (D.L.toNat : Int); omega
theorem Dv.Ok.pos : 0 < D.da.L := by have := h.may; show 0 < D.L.toNat; omega
end
/-- the automaton in memory is this -/
structure Dv.Is (D : Dv) (d : Da) : Prop where
  L : D.L = (d.L : Int)
  s : D.s = (d.s : Int)
  fin : D.fin = d.fin
  rs : D.rs.map (·.xs) = d.nx.map fun l => l.map fun n : Nat => (n : Int)
theorem map_toNat_cast (l : List Nat) : (l.map fun n : Nat => (n : Int)).map Int.toNat = l := by
  rw [List.map_map]
  have : (Int.toNat ∘ fun n : Nat => (n : Int)) = id := by funext n; simp
  rw [this, List.map_id]
theorem Dv.Is.da {D : Dv} {d : Da} (h : D.Is d) : D.da = d := by
  have e : D.rs.map (fun r => r.xs.map Int.toNat) = d.nx := by
    have h1 := congrArg (List.map (List.map Int.toNat)) h.rs
    rw [List.map_map, List.map_map] at h1
    have e2 : (List.map Int.toNat ∘ fun l : List Nat => l.map fun n : Nat => (n : Int)) = id := by funext l; exact map_toNat_cast l
    rw [e2, List.map_id] at h1
    exact h1
  unfold Dv.da
  rw [h.L, h.s, h.fin, e]
  cases d
  simp
theorem Dv.Ok.is {D : Dv} (h : D.Ok) : D.Is D.da := by
  refine ⟨h.L_eq, h.s_eq, rfl, ?_⟩
  unfold Dv.da
  rw [List.map_map]
  refine List.map_congr_left fun r hr => ?_
  obtain ⟨q, hq, rfl⟩ := List.mem_iff_getElem.1 hr
  have h1 := (h.row q (by rw [← h.len]; exact hq)).2
  rw [List.getD_eq_getElem?_getD, List.getElem?_eq_getElem hq, Option.getD_some] at h1
  show _ = ((D.rs[q].xs.map Int.toNat).map fun n : Nat => (n : Int))
  rw [List.map_map]
  conv => lhs; rw [← List.map_id D.rs[q].xs]
  refine List.map_congr_left fun x hx => ?_
  have := h1 x hx
  show x = ((x.toNat : Nat) : Int)
  omega
end Go.Am
namespace Go.Am
open Go Go.Eng
theorem getDm {α : Type} {l : List α} {i : Nat} {d : α} (h : i < l.length) : l.getD i d ∈ l := by
  rw [List.getD_eq_getElem?_getD, List.getElem?_eq_getElem h, Option.getD_some]; exact List.getElem_mem h
end Go.Am

namespace Go.Tl
open Go Go.Eng

/-! the part that a formula needs -/
def stp (xs : List Tm) (i : Nat) (r : List Bool) : List Bool :=
  if r.getD i false then
    (if fb (xs.getD i t0).op then (if fa (xs.getD i t0).op then r.set (xs.getD i t0).a.toNat true else r).set (xs.getD i t0).b.toNat true else (if fa (xs.getD i t0).op then r.set (xs.getD i t0).a.toNat true else r))
  else r
def rcD (xs : List Tm) : Nat → List Bool → List Bool
  | 0, r => r
  | i + 1, r => rcD xs i (stp xs i r)
def rcF (xs : List Tm) (root : Nat) : List Bool := rcD xs (root + 1) ((List.replicate (root + 1) false).set root true)
theorem stp_len (xs : List Tm) (i : Nat) (r : List Bool) : (stp xs i r).length = r.length := by
  unfold stp
  split
  · split <;> split <;> simp
  · rfl
def rn (x : Tm) (num : List Nat) : Tm := ⟨x.op, x.lt, if fa x.op then ((num.getD x.a.toNat 0 : Nat) : Int) else x.a, if fb x.op then ((num.getD x.b.toNat 0 : Nat) : Int) else x.b⟩
def cuS (xs : List Tm) (R : List Bool) (n : Nat) : Nat → List Nat × List Tm
  | 0 => (List.replicate n 0, [])
  | i + 1 => if R.getD i false then ((cuS xs R n i).1.set i (cuS xs R n i).2.length, (cuS xs R n i).2 ++ [rn (xs.getD i t0) (cuS xs R n i).1]) else cuS xs R n i
theorem cuS_hit {xs : List Tm} {R : List Bool} {n i : Nat} (h : R.getD i false = true) : cuS xs R n (i + 1) = ((cuS xs R n i).1.set i (cuS xs R n i).2.length, (cuS xs R n i).2 ++ [rn (xs.getD i t0) (cuS xs R n i).1]) := by rw [cuS, if_pos h]
theorem cuS_miss {xs : List Tm} {R : List Bool} {n i : Nat} (h : R.getD i false = false) : cuS xs R n (i + 1) = cuS xs R n i := by rw [cuS, if_neg (by rw [h]; decide)]
theorem cuS_len (xs : List Tm) (R : List Bool) (n i : Nat) : (cuS xs R n i).1.length = n := by
  induction i with
  | zero => simp [cuS]
  | succ i ih => rw [cuS]; split <;> simp [ih]
def cutL (xs : List Tm) (root : Nat) : List Tm := (cuS xs (rcF xs root) (root + 1) (root + 1)).2
theorem fa_op {op : Int} (h : fa op = true) : 4 ≤ op := by rw [fa, decide_eq_true_eq] at h; omega
theorem fb_op {op : Int} (h : fb op = true) : op = 5 ∨ op = 6 ∨ op = 8 := by rw [fb, decide_eq_true_eq] at h; exact h
end Go.Tl

namespace Go.Tl
open Go Go.Eng

theorem gset {α : Type} (l : List α) (i j : Nat) (x d : α) : (l.set i x).getD j d = if i = j ∧ i < l.length then x else l.getD j d := by
  simp only [List.getD_eq_getElem?_getD, List.getElem?_set]
  by_cases h : i = j
  · subst h
    by_cases hi : i < l.length
    · simp [hi]
    · simp [hi]
  · simp [h]

theorem evV_congr {x : Tm} {letter : Int} {bf bf' v v' : List Bool} {i : Nat} (hok : okF x i 6 = true) (hv : ∀ j, j < i → v.getD j false = v'.getD j false) (hb : letter ≠ -1 → ∀ j, j ≤ i → bf.getD j false = bf'.getD j false) :
    evV x letter bf v i = evV x letter bf' v' i := by
  have ho := ok_op hok
  have ga : 4 ≤ x.op → gt v x.a = gt v' x.a := fun h => by have := ok_a hok h; exact hv _ (by omega)
  have gb : (x.op = 5 ∨ x.op = 6 ∨ x.op = 8) → gt v x.b = gt v' x.b := fun h => by have := ok_b hok h; exact hv _ (by omega)
  unfold evV
  by_cases h1 : x.op = 1
  · rw [if_pos h1, if_pos h1]
  rw [if_neg h1, if_neg h1]
  by_cases h2 : x.op = 2
  · rw [if_pos h2, if_pos h2]
  rw [if_neg h2, if_neg h2]
  by_cases h3 : x.op = 3
  · rw [if_pos h3, if_pos h3]
  rw [if_neg h3, if_neg h3, ga (by omega)]
  by_cases h4 : x.op = 4
  · rw [if_pos h4, if_pos h4]
  rw [if_neg h4, if_neg h4]
  by_cases h5 : x.op = 5
  · rw [if_pos h5, if_pos h5, gb (by omega)]
  rw [if_neg h5, if_neg h5]
  by_cases h6 : x.op = 6
  · rw [if_pos h6, if_pos h6, gb (by omega)]
  rw [if_neg h6, if_neg h6]
  have hgb : letter ≠ -1 → gt bf x.a = gt bf' x.a := fun hl => by have := ok_a hok (by omega); exact hb hl _ (by omega)
  by_cases h7 : x.op = 7
  · rw [if_pos h7, if_pos h7]
    by_cases hl : letter = -1
    · simp [hl]
    · rw [hgb hl]
  rw [if_neg h7, if_neg h7, gb (by omega)]
  by_cases hl : letter = -1
  · simp [hl]
  · rw [hb hl i (Nat.le_refl i)]

theorem evL_keep (xs : List Tm) (letter : Int) (bf v : List Bool) {j k m : Nat} (hjk : j < k) (hkm : k ≤ m) : (evL xs letter bf v m).getD j false = (evL xs letter bf v k).getD j false := by
  induction m with
  | zero => have : k = 0 := by omega
            omega
  | succ m ih =>
    by_cases h : k = m + 1
    · subst h; rfl
    · rw [evL, gset, if_neg (by omega), ih (by omega)]
/-- each value of the list in terms of the whole list -/
theorem evL_at {xs : List Tm} {letter : Int} {bf v : List Bool} (hok : okL xs 6 = true) (hv : v.length = xs.length) {j : Nat} (hj : j < xs.length) :
    (evL xs letter bf v xs.length).getD j false = evV (xs.getD j t0) letter bf (evL xs letter bf v xs.length) j := by
  rw [evL_keep xs letter bf v (j := j) (k := j + 1) (by omega) (by omega), evL, gset, if_pos ⟨rfl, by rw [evL_len]; omega⟩]
  refine evV_congr (okL_get hok hj) (fun i hi => ?_) (fun _ _ _ => rfl)
  by_cases h : i < j
  · exact (evL_keep xs letter bf v h (by omega)).symm
  · omega
/-! the part: reached -/
theorem stp_ge {xs : List Tm} {r : List Bool} {i j : Nat} (hok : okF (xs.getD i t0) i 6 = true) (hj : i ≤ j) : (stp xs i r).getD j false = r.getD j false := by
  unfold stp
  split
  · have ha : fa (xs.getD i t0).op = true → (xs.getD i t0).a.toNat < i := fun h => by have := ok_a hok (fa_op h); omega
    have hb : fb (xs.getD i t0).op = true → (xs.getD i t0).b.toNat < i := fun h => by have := ok_b hok (fb_op h); omega
    by_cases h1 : fb (xs.getD i t0).op = true
    · rw [if_pos h1, gset, if_neg (by have := hb h1; omega)]
      by_cases h2 : fa (xs.getD i t0).op = true
      · rw [if_pos h2, gset, if_neg (by have := ha h2; omega)]
      · rw [if_neg h2]
    · rw [if_neg h1]
      by_cases h2 : fa (xs.getD i t0).op = true
      · rw [if_pos h2, gset, if_neg (by have := ha h2; omega)]
      · rw [if_neg h2]
  · rfl
theorem gset_true {r : List Bool} {i j : Nat} (h : r.getD j false = true) : (r.set i true).getD j false = true := by rw [gset]; split <;> simp [-List.getD_eq_getElem?_getD, h]
theorem stp_mono {xs : List Tm} {r : List Bool} {i j : Nat} (h : r.getD j false = true) : (stp xs i r).getD j false = true := by
  unfold stp
  split
  · split <;> split <;> first | exact gset_true (gset_true h) | exact gset_true h | exact h
  · exact h
theorem rcD_mono {xs : List Tm} {m j : Nat} {r : List Bool} (h : r.getD j false = true) : (rcD xs m r).getD j false = true := by
  induction m generalizing r with
  | zero => exact h
  | succ i ih => exact ih (stp_mono h)
theorem rcD_ge {xs : List Tm} {m j : Nat} {r : List Bool} (hok : okL xs 6 = true) (hm : m ≤ xs.length) (hj : m ≤ j + 1) : (rcD xs m r).getD j false = r.getD j false := by
  induction m generalizing r with
  | zero => rfl
  | succ i ih => rw [rcD, ih (by omega) (by omega), stp_ge (okL_get hok (by omega)) (by omega)]
theorem rcD_closed {xs : List Tm} {m i : Nat} {r : List Bool} (hok : okL xs 6 = true) (hm : m ≤ xs.length) (hr : m ≤ r.length) (hi : i < m) (h : (rcD xs m r).getD i false = true) :
    (fa (xs.getD i t0).op = true → (rcD xs m r).getD (xs.getD i t0).a.toNat false = true) ∧ (fb (xs.getD i t0).op = true → (rcD xs m r).getD (xs.getD i t0).b.toNat false = true) := by
  induction m generalizing r with
  | zero => omega
  | succ k ih =>
    by_cases he : i < k
    · exact ih (by omega) (by rw [stp_len]; omega) he h
    · obtain rfl : i = k := by omega
      have hoki := okL_get hok (j := i) (by omega)
      rw [rcD_ge hok hm (by omega)] at h
      refine ⟨fun h1 => ?_, fun h1 => ?_⟩
      · have := ok_a hoki (fa_op h1)
        refine rcD_mono (m := i) ?_
        rw [stp, if_pos h, h1]
        split
        · exact gset_true (by rw [if_pos rfl, gset, if_pos ⟨rfl, by omega⟩])
        · rw [if_pos rfl, gset, if_pos ⟨rfl, by omega⟩]
      · have := ok_b hoki (fb_op h1)
        refine rcD_mono (m := i) ?_
        rw [stp, if_pos h, if_pos h1, gset, if_pos ⟨rfl, by split <;> (try rw [List.length_set]) <;> omega⟩]
end Go.Tl

namespace Go.Tl
open Go Go.Eng

structure Num (xs : List Tm) (R : List Bool) (num : List Nat) (sh : List Tm) (i : Nat) : Prop where
  lt : ∀ j, j < i → R.getD j false = true → num.getD j 0 < sh.length
  at_ : ∀ j, j < i → R.getD j false = true → sh.getD (num.getD j 0) t0 = rn (xs.getD j t0) num
  mono : ∀ a j, a < j → j < i → R.getD a false = true → R.getD j false = true → num.getD a 0 < num.getD j 0
  sur : ∀ q, q < sh.length → ∃ j, j < i ∧ R.getD j false = true ∧ num.getD j 0 = q

theorem rn_congr {x : Tm} {num num' : List Nat} {j : Nat} (hok : okF x j 6 = true) (h : ∀ a, a < j → num.getD a 0 = num'.getD a 0) : rn x num = rn x num' := by
  unfold rn
  have ha : fa x.op = true → num.getD x.a.toNat 0 = num'.getD x.a.toNat 0 := fun hf => by have := ok_a hok (fa_op hf); exact h _ (by omega)
  have hb : fb x.op = true → num.getD x.b.toNat 0 = num'.getD x.b.toNat 0 := fun hf => by have := ok_b hok (fb_op hf); exact h _ (by omega)
  congr 1
  · by_cases hf : fa x.op = true
    · rw [if_pos hf, if_pos hf, ha hf]
    · rw [if_neg hf, if_neg hf]
  · by_cases hf : fb x.op = true
    · rw [if_pos hf, if_pos hf, hb hf]
    · rw [if_neg hf, if_neg hf]

theorem num_inv {xs : List Tm} {R : List Bool} {n : Nat} (hok : okL xs 6 = true) (hn : n ≤ xs.length) (i : Nat) (hi : i ≤ n) : Num xs R (cuS xs R n i).1 (cuS xs R n i).2 i := by
  induction i with
  | zero => exact ⟨by omega, by omega, by omega, by simp [cuS]⟩
  | succ i ih =>
    obtain ⟨h1, h2, h3, h4⟩ := ih (by omega)
    have hlen := cuS_len xs R n i
    cases hR : R.getD i false with
    | false =>
      rw [cuS_miss hR]
      have hne : ∀ j, j < i + 1 → R.getD j false = true → j < i := fun j hj hr => by
        by_cases e : j = i
        · subst e; rw [hR] at hr; cases hr
        · omega
      exact ⟨fun j hj hr => h1 j (hne j hj hr) hr, fun j hj hr => h2 j (hne j hj hr) hr, fun a j ha hj hra hrj => h3 a j ha (hne j hj hrj) hra hrj,
        fun q hq => by obtain ⟨j, hj, hr, e⟩ := h4 q hq; exact ⟨j, by omega, hr, e⟩⟩
    | true =>
      rw [cuS_hit hR]
      dsimp only
      generalize (cuS xs R n i).1 = num at h1 h2 h3 h4 hlen ⊢
      generalize (cuS xs R n i).2 = sh at h1 h2 h3 h4 ⊢
      have g : ∀ j, j < i → (num.set i sh.length).getD j 0 = num.getD j 0 := fun j hj => by rw [gset, if_neg (by omega)]
      have gi : (num.set i sh.length).getD i 0 = sh.length := by rw [gset, if_pos ⟨rfl, by omega⟩]
      have app : ∀ y q, q < sh.length → (sh ++ [y]).getD q t0 = sh.getD q t0 := fun y q hq => by simp only [List.getD_eq_getElem?_getD]; rw [List.getElem?_append_left hq]
      have app2 : ∀ y, (sh ++ [y]).getD sh.length t0 = y := fun y => by simp
      refine ⟨fun j hj hr => ?_, fun j hj hr => ?_, fun a j ha hj hra hrj => ?_, fun q hq => ?_⟩
      · rw [List.length_append, List.length_singleton]
        by_cases e : j = i
        · subst e; rw [gi]; omega
        · rw [g j (by omega)]; have := h1 j (by omega) hr; omega
      · by_cases e : j = i
        · subst e
          rw [gi, app2]
          exact rn_congr (okL_get hok (by omega)) (fun a ha => (g a ha).symm)
        · rw [g j (by omega), app _ _ (h1 j (by omega) hr), h2 j (by omega) hr]
          exact rn_congr (okL_get hok (by omega)) (fun a ha => (g a (by omega)).symm)
      · by_cases e : j = i
        · subst e; rw [gi, g a ha]; exact h1 a ha hra
        · rw [g j (by omega), g a (by omega)]; exact h3 a j ha (by omega) hra hrj
      · rw [List.length_append, List.length_singleton] at hq
        by_cases e : q = sh.length
        · exact ⟨i, by omega, hR, by rw [gi, e]⟩
        · obtain ⟨j, hj, hr, e⟩ := h4 q (by omega)
          exact ⟨j, by omega, hr, by rw [g j hj]; exact e⟩

theorem rcF_root (xs : List Tm) (root : Nat) : (rcF xs root).getD root false = true := by
  rw [rcF]; exact rcD_mono (by rw [gset, if_pos ⟨rfl, by simp⟩])
abbrev numF (xs : List Tm) (root : Nat) : List Nat := (cuS xs (rcF xs root) (root + 1) (root + 1)).1
theorem num_root (xs : List Tm) (root : Nat) : (numF xs root).getD root 0 + 1 = (cutL xs root).length := by
  have hR := rcF_root xs root
  have hlen := cuS_len xs (rcF xs root) (root + 1) root
  rw [numF, cutL, cuS_hit hR]
  dsimp only
  rw [gset, if_pos ⟨rfl, by omega⟩, List.length_append, List.length_singleton]
section
variable {xs : List Tm} {root : Nat} (hok : okL xs 6 = true) (hroot : root < xs.length)
include hok hroot
theorem rcF_closed {i : Nat} (hi : i ≤ root) (h : (rcF xs root).getD i false = true) :
    (fa (xs.getD i t0).op = true → (rcF xs root).getD (xs.getD i t0).a.toNat false = true) ∧ (fb (xs.getD i t0).op = true → (rcF xs root).getD (xs.getD i t0).b.toNat false = true) :=
  rcD_closed hok (by omega) (by simp) (by omega) h

theorem num_full : Num xs (rcF xs root) (numF xs root) (cutL xs root) (root + 1) := num_inv hok (by omega) _ (Nat.le_refl _)
theorem cut_ok : okL (cutL xs root) 6 = true := by
  have N := num_full hok hroot
  refine okL_ok fun q hq => ?_
  obtain ⟨j, hj, hr, rfl⟩ := N.sur q hq
  rw [N.at_ j hj hr]
  have hokj := okL_get hok (j := j) (by omega)
  obtain ⟨ca, cb⟩ := rcF_closed hok hroot (i := j) (by omega) hr
  have ka : fa (xs.getD j t0).op = true → (numF xs root).getD (xs.getD j t0).a.toNat 0 < (numF xs root).getD j 0 := fun h => by
    have := ok_a hokj (fa_op h); exact N.mono _ j (by omega) hj (ca h) hr
  have kb : fb (xs.getD j t0).op = true → (numF xs root).getD (xs.getD j t0).b.toNat 0 < (numF xs root).getD j 0 := fun h => by
    have := ok_b hokj (fb_op h); exact N.mono _ j (by omega) hj (cb h) hr
  simp only [okF, Bool.and_eq_true] at hokj ⊢
  obtain ⟨⟨⟨o1, o2⟩, o3⟩, o4⟩ := hokj
  refine ⟨⟨⟨o1, o2⟩, ?_⟩, ?_⟩
  · show vf (rn (xs.getD j t0) (numF xs root)).a _ (fa (xs.getD j t0).op) = true
    simp only [rn]
    by_cases h : fa (xs.getD j t0).op = true
    · rw [if_pos h, h, vf_t, decide_eq_true_eq]; have := ka h; omega
    · rw [if_neg h]; have h := Bool.eq_false_iff.2 h; rw [h, vf_f] at o3 ⊢; exact o3
  · show vf (rn (xs.getD j t0) (numF xs root)).b _ (fb (xs.getD j t0).op) = true
    simp only [rn]
    by_cases h : fb (xs.getD j t0).op = true
    · rw [if_pos h, h, vf_t, decide_eq_true_eq]; have := kb h; omega
    · rw [if_neg h]; have h := Bool.eq_false_iff.2 h; rw [h, vf_f] at o4 ⊢; exact o4
theorem cut_val {letter : Int} {bf bf' v v' : List Bool} (hv : v.length = xs.length) (hv' : v'.length = (cutL xs root).length)
    (hb : letter ≠ -1 → ∀ j, j ≤ root → (rcF xs root).getD j false = true → bf'.getD ((numF xs root).getD j 0) false = bf.getD j false) (j : Nat) (hj : j ≤ root) (hr : (rcF xs root).getD j false = true) :
    (evL (cutL xs root) letter bf' v' (cutL xs root).length).getD ((numF xs root).getD j 0) false = (evL xs letter bf v xs.length).getD j false := by
  have N := num_full hok hroot
  induction j using Nat.strongRecOn with
  | _ j ih =>
    rw [evL_at hok hv (by omega), evL_at (cut_ok hok hroot) hv' (N.lt j (by omega) hr), N.at_ j (by omega) hr]
    have hokj := okL_get hok (j := j) (by omega)
    obtain ⟨ca, cb⟩ := rcF_closed hok hroot (i := j) (by omega) hr
    have ho := ok_op hokj
    generalize evL (cutL xs root) letter bf' v' (cutL xs root).length = V' at ih ⊢
    generalize evL xs letter bf v xs.length = V at ih ⊢
    have ga : fa (xs.getD j t0).op = true → gt V' (rn (xs.getD j t0) (numF xs root)).a = gt V (xs.getD j t0).a := fun h => by
      have := ok_a hokj (fa_op h)
      have e := ih (xs.getD j t0).a.toNat (by omega) (by omega) (ca h)
      simp only [gt, rn, if_pos h, Int.toNat_natCast]; exact e
    have gb : fb (xs.getD j t0).op = true → gt V' (rn (xs.getD j t0) (numF xs root)).b = gt V (xs.getD j t0).b := fun h => by
      have := ok_b hokj (fb_op h)
      have e := ih (xs.getD j t0).b.toNat (by omega) (by omega) (cb h)
      simp only [gt, rn, if_pos h, Int.toNat_natCast]; exact e
    have gn : letter ≠ -1 → fa (xs.getD j t0).op = true → gt bf' (rn (xs.getD j t0) (numF xs root)).a = gt bf (xs.getD j t0).a := fun hl h => by
      have := ok_a hokj (fa_op h)
      have e := hb hl (xs.getD j t0).a.toNat (by omega) (ca h)
      simp only [gt, rn, if_pos h, Int.toNat_natCast]; exact e
    have gu : letter ≠ -1 → bf'.getD ((numF xs root).getD j 0) false = bf.getD j false := fun hl => hb hl j hj hr
    have e1 : (rn (xs.getD j t0) (numF xs root)).op = (xs.getD j t0).op := rfl
    have e2 : (rn (xs.getD j t0) (numF xs root)).lt = (xs.getD j t0).lt := rfl
    have fA : 4 ≤ (xs.getD j t0).op → fa (xs.getD j t0).op = true := fun h => by rw [fa, decide_eq_true_eq]; omega
    have fB : (xs.getD j t0).op = 5 ∨ (xs.getD j t0).op = 6 ∨ (xs.getD j t0).op = 8 → fb (xs.getD j t0).op = true := fun h => by rw [fb, decide_eq_true_eq]; exact h
    unfold evV
    rw [e1, e2]
    by_cases h1 : (xs.getD j t0).op = 1
    · rw [if_pos h1, if_pos h1]
    rw [if_neg h1, if_neg h1]
    by_cases h2 : (xs.getD j t0).op = 2
    · rw [if_pos h2, if_pos h2]
    rw [if_neg h2, if_neg h2]
    by_cases h3 : (xs.getD j t0).op = 3
    · rw [if_pos h3, if_pos h3]
    rw [if_neg h3, if_neg h3, ga (fA (by omega))]
    by_cases h4 : (xs.getD j t0).op = 4
    · rw [if_pos h4, if_pos h4]
    rw [if_neg h4, if_neg h4]
    by_cases h5 : (xs.getD j t0).op = 5
    · rw [if_pos h5, if_pos h5, gb (fB (by omega))]
    rw [if_neg h5, if_neg h5]
    by_cases h6 : (xs.getD j t0).op = 6
    · rw [if_pos h6, if_pos h6, gb (fB (by omega))]
    rw [if_neg h6, if_neg h6]
    by_cases h7 : (xs.getD j t0).op = 7
    · rw [if_pos h7, if_pos h7]
      by_cases hl : letter = -1
      · simp [hl]
      · rw [gn hl (fA (by omega))]
    rw [if_neg h7, if_neg h7, gb (fB (by omega))]
    by_cases hl : letter = -1
    · simp [hl]
    · rw [gu hl]
end
end Go.Tl

namespace Go.Tl
open Go Go.Eng

theorem okW_len {l : Wd} {k : Int} (h : okW l k = true) : l.length ≤ 2048 := by
  simp only [okW, Bool.and_eq_true, decide_eq_true_eq] at h
  exact h.2.1
theorem okW_get {l : Wd} {k : Int} (h : okW l k = true) {j : Nat} (hj : j < l.length) : 97 ≤ ((l.getD j 0).toNat : Int) ∧ ((l.getD j 0).toNat : Int) < 97 + k := by
  simp only [okW, Bool.and_eq_true] at h
  have := get_all (d := 0) h.2.2 hj
  rw [okB, decide_eq_true_eq] at this
  omega
end Go.Tl

namespace Go.Am
open Go Go.Eng
open Go.Tl (bo mayL Wd okW okB)

/-! rows of an automaton that is being explored -/
section
variable {α : Type} [DecidableEq α]
def addN (l : List α) (x : α) : List α × Nat := if x ∈ l then (l, l.idxOf x) else (l ++ [x], l.length)
theorem ixA_idx (l : List α) (x : α) (i : Nat) (h : x ∈ l) : ixA x i l = some (i + l.idxOf x) := by
  induction l generalizing i with
  | nil => cases h
  | cons y r ih =>
    rw [ixA, List.idxOf_cons]
    by_cases e : x = y
    · subst e; simp
    · rw [if_neg e, ih (i + 1) ((List.mem_cons.1 h).resolve_left e)]
      have : (y == x) = false := by simpa using fun h => e h.symm
      rw [this]
      simp only [cond_false, Option.some.injEq]; omega
theorem ixA_out (l : List α) (x : α) (i : Nat) (h : x ∉ l) : ixA x i l = none := by
  induction l generalizing i with
  | nil => rfl
  | cons y r ih =>
    rw [List.mem_cons, not_or] at h
    rw [ixA, if_neg h.1, ih (i + 1) h.2]
theorem addN_in {l : List α} {x : α} (h : x ∈ l) : addN l x = (l, l.idxOf x) := by rw [addN, if_pos h]
theorem addN_out {l : List α} {x : α} (h : x ∉ l) : addN l x = (l ++ [x], l.length) := by rw [addN, if_neg h]
theorem addN_idx (l : List α) (x : α) : (addN l x).2 = (addN l x).1.idxOf x := by
  unfold addN
  split
  · rfl
  · rename_i h; rw [idxOf_out h, List.idxOf_cons_self, Nat.add_zero]
theorem addN_mem (l : List α) (x : α) : x ∈ (addN l x).1 := by
  unfold addN
  split
  · assumption
  · simp
theorem addN_pre (l : List α) (x : α) : ∃ t, (addN l x).1 = l ++ t := by
  unfold addN
  split
  · exact ⟨[], by simp⟩
  · exact ⟨[x], rfl⟩
variable (f : α → Nat → α) (L : Nat) (s : α)
variable {f L s}
end
/-- words as lists of letters -/
def wl (ws : Wd) : List Nat := ws.map fun b => b.toNat - 97
theorem wl_len (ws : Wd) : (wl ws).length = ws.length := by simp [wl]
theorem okW_byte {ws : Wd} {L : Int} (h : okW ws L = true) {j : Nat} (hj : j < ws.length) : 97 ≤ (ws.getD j 0).toNat ∧ ((ws.getD j 0).toNat : Int) < 97 + L := by
  have := Tl.okW_get h hj
  omega
end Go.Am
namespace Go.Am
open Go Go.Eng
open Go.Tl (bo mayL Wd okW okB)
theorem InW.take {L : Nat} {w : List Nat} (h : InW L w) (j : Nat) : InW L (w.take j) := fun x hx => h x (List.mem_of_mem_take hx)
theorem Da.Ok.run_lt {d : Da} (h : d.Ok) {w : List Nat} (hw : InW d.L w) {q : Nat} (hq : q < d.n) : d.sy.run q w < d.n := by
  induction w generalizing q with
  | nil => exact hq
  | cons x w ih => exact ih hw.tail (h.lt q x hq hw.head)
end Go.Am
namespace Go.Sq
open Go Go.Eng Go.Am
open Go.Tl (Wd bo)
/-! sequential functions: plain, and in memory -/
/-- rows of things of one cell -/
structure Rx (α : Type) where
  a : Option Addr
  cp : Nat
  xs : List α
def rx0 {α : Type} : Rx α := ⟨none, 0, []⟩
abbrev rxv {α : Type} (r : Rx α) : Value := .slice r.a r.xs.length r.cp
def rxs {α : Type} (f : α → Value) (rs : List (Rx α)) (w : World) : Prop := ∀ r ∈ rs, Rd w r.a (r.xs.map f)
section
variable {α : Type} {f : α → Value}
theorem gsetX (d : List (Rx α)) (i j : Nat) (x : Rx α) : (d.set i x).getD j rx0 = if i = j ∧ i < d.length then x else d.getD j rx0 := by
  simp only [List.getD_eq_getElem?_getD, List.getElem?_set]
  by_cases h : i = j
  · subst h
    by_cases h2 : i < d.length <;> simp [h2]
  · simp [h]
theorem rx_getD (rs : List (Rx α)) (q : Nat) : (rs.map (·.xs)).getD q [] = (rs.getD q rx0).xs := by
  simp only [List.getD_eq_getElem?_getD, List.getElem?_map]
  cases rs[q]? <;> rfl
end
def oi : Option Nat → Int
  | none => -1
  | some n => n
def io (z : Int) : Option Nat := if z < 0 then none else some z.toNat
theorem oi_io {z : Int} (h : -1 ≤ z) : oi (io z) = z := by
  unfold io
  split
  · show (-1 : Int) = z; omega
  · show (z.toNat : Int) = z; omega
theorem io_oi (o : Option Nat) : io (oi o) = o := by
  cases o with
  | none => rfl
  | some n =>
    show (if (n : Int) < 0 then none else some ((n : Int).toNat)) = some n
    rw [if_neg (by omega), Int.toNat_natCast]
theorem oi_neg {o : Option Nat} : oi o = -1 ↔ o = none := by
  cases o with
  | none => exact ⟨fun _ => rfl, fun _ => rfl⟩
  | some n => exact ⟨fun h => by have h : (n : Int) = -1 := h; omega, fun h => by cases h⟩
theorem oi_some {o : Option Nat} (h : oi o ≠ -1) : ∃ n, o = some n := by
  cases o with
  | none => exact absurd rfl h
  | some n => exact ⟨n, rfl⟩
theorem oi_inj {o p : Option Nat} (h : oi o = oi p) : o = p := by rw [← io_oi o, h, io_oi]
abbrev zo (o : Option Nat) : Value := .int .i64 (oi o)

/-- a function as plain data -/
structure Sq where
  L : Nat
  s : Nat
  init : Wd
  en : List Bool
  fi : List Wd
  nx : List (List (Option Nat))
  ou : List (List Wd)
deriving DecidableEq
def Sq.to (d : Sq) (q x : Nat) : Option Nat := (d.nx.getD q []).getD x none
def Sq.o (d : Sq) (q x : Nat) : Wd := (d.ou.getD q []).getD x []
def Sq.e (d : Sq) (q : Nat) : Bool := d.en.getD q false
def Sq.f (d : Sq) (q : Nat) : Wd := d.fi.getD q []
abbrev Sq.n (d : Sq) : Nat := d.nx.length
/-- a text of at most M bytes a to z -/
def okT (M : Nat) (s : Wd) : Prop := s.length ≤ M ∧ ∀ b ∈ s, 97 ≤ b.toNat ∧ b.toNat ≤ 122
theorem okT.nil (M : Nat) : okT M [] := ⟨Nat.zero_le _, fun _ h => by cases h⟩
theorem okT.mono {M N : Nat} {s : Wd} (h : okT M s) (hl : M ≤ N) : okT N s := ⟨Nat.le_trans h.1 hl, h.2⟩
theorem okT.app {M N : Nat} {s t : Wd} (h : okT M s) (k : okT N t) : okT (M + N) (s ++ t) := ⟨by rw [List.length_append]; have := h.1; have := k.1; omega, fun b hb => by
  rcases List.mem_append.1 hb with h1 | h1
  · exact h.2 b h1
  · exact k.2 b h1⟩
structure Sq.Ok (M : Nat) (d : Sq) : Prop where
  may : 1 ≤ d.L ∧ d.L ≤ 6
  n5 : d.n ≤ 512
  st : d.s < d.n
  len : d.ou.length = d.n ∧ d.en.length = d.n ∧ d.fi.length = d.n
  row : ∀ q, q < d.n → (d.nx.getD q []).length = d.L ∧ (d.ou.getD q []).length = d.L
  lt : ∀ q x r, q < d.n → x < d.L → d.to q x = some r → r < d.n
  no : ∀ q x, q < d.n → x < d.L → d.to q x = none → d.o q x = []
  nf : ∀ q, q < d.n → d.e q = false → d.f q = []
  ti : okT M d.init
  to' : ∀ q x, q < d.n → x < d.L → okT M (d.o q x)
  tf : ∀ q, q < d.n → okT M (d.f q)
theorem Sq.Ok.mono {M N : Nat} {d : Sq} (h : d.Ok M) (hl : M ≤ N) : d.Ok N :=
  ⟨h.may, h.n5, h.st, h.len, h.row, h.lt, h.no, h.nf, h.ti.mono hl, fun q x hq hx => (h.to' q x hq hx).mono hl, fun q hq => (h.tf q hq).mono hl⟩

/-- in memory -/
structure Sv where
  L : Nat
  s : Nat
  init : Wd
  na : Option Addr
  nc : Nat
  rs : List (Rx (Option Nat))
  oa : Option Addr
  oc : Nat
  os : List (Rx Wd)
  ea : Option Addr
  ec : Nat
  en : List Bool
  fa : Option Addr
  fc : Nat
  fi : List Wd
abbrev svc (S : Sv) : List Value := [zn S.L, zn S.s, sv S.init, .slice S.na S.rs.length S.nc, .slice S.oa S.os.length S.oc, .slice S.ea S.en.length S.ec, .slice S.fa S.fi.length S.fc]
abbrev svv (S : Sv) : Value := .agg (svc S).toArray
structure svm (S : Sv) (w : World) : Prop where
  n : Rd w S.na (S.rs.map rxv)
  r : rxs zo S.rs w
  o : Rd w S.oa (S.os.map rxv)
  u : rxs sv S.os w
  e : Rd w S.ea (S.en.map bo)
  f : Rd w S.fa (S.fi.map sv)
def Sv.sq (S : Sv) : Sq := ⟨S.L, S.s, S.init, S.en, S.fi, S.rs.map (·.xs), S.os.map (·.xs)⟩
theorem Sv.n_eq (S : Sv) : S.sq.n = S.rs.length := List.length_map ..
theorem Sv.to_eq (S : Sv) (q x : Nat) : S.sq.to q x = (S.rs.getD q rx0).xs.getD x none := by
  show ((S.rs.map (·.xs)).getD q []).getD x none = _
  rw [rx_getD]
theorem Sv.o_eq (S : Sv) (q x : Nat) : S.sq.o q x = (S.os.getD q rx0).xs.getD x [] := by
  show ((S.os.map (·.xs)).getD q []).getD x [] = _
  rw [rx_getD]
section
variable {M : Nat} {S : Sv} (h : S.sq.Ok M)
include h
theorem Sq.Ok.rlen {q : Nat} (hq : q < S.rs.length) : (S.rs.getD q rx0).xs.length = S.L := by
  have := (h.row q (by rw [S.n_eq]; exact hq)).1
  rwa [show S.sq.nx = S.rs.map (·.xs) from rfl, rx_getD] at this
theorem Sq.Ok.olen {q : Nat} (hq : q < S.rs.length) : (S.os.getD q rx0).xs.length = S.L := by
  have := (h.row q (by rw [S.n_eq]; exact hq)).2
  rwa [show S.sq.ou = S.os.map (·.xs) from rfl, rx_getD] at this
theorem Sq.Ok.lens : S.os.length = S.rs.length ∧ S.en.length = S.rs.length ∧ S.fi.length = S.rs.length := by
  have := h.len
  rw [S.n_eq] at this
  exact ⟨by have := this.1; rwa [show S.sq.ou = S.os.map (·.xs) from rfl, List.length_map] at this, this.2⟩
theorem Sq.Ok.bnd : 1 ≤ S.L ∧ S.L ≤ 6 ∧ S.rs.length ≤ 512 ∧ S.s < S.rs.length := by
  have h1 := h.may
  have h2 := h.n5
  have h3 := h.st
  rw [S.n_eq] at h2 h3
  exact ⟨h1.1, h1.2, h2, h3⟩
end
end Go.Sq
namespace Go.Sq
open Go Go.Eng Go.Am
theorem oi_ge (o : Option Nat) : -1 ≤ oi o := by
  cases o with
  | none => exact Int.le_refl _
  | some n => show (-1 : Int) ≤ (n : Int); omega
theorem oi_lt {M : Nat} {S : Sv} (h : S.sq.Ok M) {q x : Nat} (hq : q < S.rs.length) (hx : x < S.L) : oi (S.sq.to q x) < S.rs.length := by
  cases e : S.sq.to q x with
  | none => show (-1 : Int) < _; omega
  | some r =>
    have := h.lt q x r (by rw [S.n_eq]; exact hq) hx e
    rw [S.n_eq] at this
    show (r : Int) < _; omega
end Go.Sq

namespace Go.Am
/-! exploration in breadth-first order, where some steps are not -/
section
variable {α : Type} [DecidableEq α]
def addO (l : List α) : Option α → List α
  | none => l
  | some a => if a ∈ l then l else l ++ [a]
theorem addO_pre (l : List α) (o : Option α) : ∃ t, addO l o = l ++ t ∧ t.length ≤ 1 := by
  cases o with
  | none => exact ⟨[], by simp [addO], by simp⟩
  | some a =>
    show ∃ t, (if a ∈ l then l else l ++ [a]) = _ ∧ _
    split
    · exact ⟨[], by simp, by simp⟩
    · exact ⟨[a], rfl, by simp⟩
theorem addO_mem {l : List α} {o : Option α} {b : α} : b ∈ addO l o ↔ b ∈ l ∨ o = some b := by
  cases o with
  | none => simp [addO]
  | some a =>
    show b ∈ (if a ∈ l then l else l ++ [a]) ↔ _
    split
    · rename_i h
      constructor
      · exact .inl
      · rintro (h1 | h1)
        · exact h1
        · cases h1; exact h
    · rw [List.mem_append, List.mem_singleton]
      constructor
      · rintro (h1 | rfl)
        · exact .inl h1
        · exact .inr rfl
      · rintro (h1 | h1)
        · exact .inl h1
        · cases h1; exact .inr rfl
theorem addO_nodup {l : List α} (h : l.Nodup) (o : Option α) : (addO l o).Nodup := by
  cases o with
  | none => exact h
  | some a =>
    show (if a ∈ l then l else l ++ [a]).Nodup
    split
    · exact h
    · rename_i hn
      rw [List.nodup_append]
      exact ⟨h, by simp, fun a ha b hb => by rw [List.mem_singleton] at hb; subst hb; intro e; subst e; exact hn ha⟩
variable (st : α → Nat → Option α) (L : Nat) (s : α)
def bfsP : Nat → List α
  | 0 => [s]
  | k + 1 => addO (bfsP k) ((bfsP k)[k / L]?.bind fun a => st a (k % L))
variable {st L s}
theorem bfsP_succ (k : Nat) : ∃ t, bfsP st L s (k + 1) = bfsP st L s k ++ t ∧ t.length ≤ 1 := addO_pre _ _
theorem bfsP_pre (k j : Nat) : ∃ t, bfsP st L s (k + j) = bfsP st L s k ++ t := by
  induction j with
  | zero => exact ⟨[], by simp⟩
  | succ j ih =>
    obtain ⟨t, ht⟩ := ih
    obtain ⟨u, hu, _⟩ := bfsP_succ (st := st) (L := L) (s := s) (k + j)
    exact ⟨t ++ u, by rw [← Nat.add_assoc, hu, ht, List.append_assoc]⟩
theorem bfsP_le {k m : Nat} (h : k ≤ m) : (bfsP st L s k).length ≤ (bfsP st L s m).length := by
  obtain ⟨t, ht⟩ := bfsP_pre (st := st) (L := L) (s := s) k (m - k)
  rw [show k + (m - k) = m by omega] at ht
  rw [ht, List.length_append]; omega
theorem bfsP_pos (k : Nat) : 0 < (bfsP st L s k).length := bfsP_le (st := st) (L := L) (s := s) (Nat.zero_le k)
theorem bfsP_get? {k m i : Nat} (h : k ≤ m) (hi : i < (bfsP st L s k).length) : (bfsP st L s m)[i]? = (bfsP st L s k)[i]? := by
  obtain ⟨t, ht⟩ := bfsP_pre (st := st) (L := L) (s := s) k (m - k)
  rw [show k + (m - k) = m by omega] at ht
  rw [ht, List.getElem?_append_left hi]
theorem bfsP_get {k m i : Nat} (h : k ≤ m) (hi : i < (bfsP st L s k).length) (z : α) : (bfsP st L s m).getD i z = (bfsP st L s k).getD i z := by
  rw [List.getD_eq_getElem?_getD, List.getD_eq_getElem?_getD, bfsP_get? h hi]
theorem bfsP_nodup (k : Nat) : (bfsP st L s k).Nodup := by
  induction k with
  | zero => simp [bfsP]
  | succ k ih => exact addO_nodup ih _
theorem bfsP_head (k : Nat) (z : α) : (bfsP st L s k).getD 0 z = s := by
  rw [bfsP_get (Nat.zero_le k) (by simp [bfsP])]; rfl
theorem bfsP_sub {k m : Nat} (h : k ≤ m) {a : α} (ha : a ∈ bfsP st L s k) : a ∈ bfsP st L s m := by
  obtain ⟨t, ht⟩ := bfsP_pre (st := st) (L := L) (s := s) k (m - k)
  rw [show k + (m - k) = m by omega] at ht
  rw [ht]; exact List.mem_append_left _ ha
theorem bfsP_all {p : α → Prop} (hs : p s) (hf : ∀ a x b, p a → x < L → st a x = some b → p b) (hL : 0 < L) (k : Nat) : ∀ a ∈ bfsP st L s k, p a := by
  induction k with
  | zero => intro a ha; rw [bfsP, List.mem_singleton] at ha; subst ha; exact hs
  | succ k ih =>
    intro b hb
    rcases addO_mem.1 hb with h | h
    · exact ih b h
    · obtain ⟨a, ha, hab⟩ := Option.bind_eq_some_iff.1 h
      exact hf a _ b (ih a (List.mem_of_getElem? ha)) (Nat.mod_lt _ hL) hab
/-- the step number i * L + x -/
theorem bfsP_add {i x : Nat} (hx : x < L) : bfsP st L s (i * L + x + 1) = addO (bfsP st L s (i * L + x)) ((bfsP st L s (i * L + x))[i]?.bind fun a => st a x) := by
  rw [bfsP]
  have h1 : (i * L + x) / L = i := by rw [Nat.mul_comm, Nat.mul_add_div (by omega), Nat.div_eq_of_lt hx]; omega
  have h2 : (i * L + x) % L = x := by rw [Nat.mul_comm, Nat.mul_add_mod, Nat.mod_eq_of_lt hx]
  rw [h1, h2]
theorem bfsP_addx {i x : Nat} (hx : x < L) (hi : i < (bfsP st L s (i * L)).length) : bfsP st L s (i * L + x + 1) = addO (bfsP st L s (i * L + x)) (st ((bfsP st L s (i * L)).getD i s) x) := by
  rw [bfsP_add hx, bfsP_get? (Nat.le_add_right _ _) hi, List.getD_eq_getElem?_getD, List.getElem?_eq_getElem hi]
  rfl
theorem bfsP_hit {i x m : Nat} (hx : x < L) (hm : i * L + x < m) {a b : α} (ha : (bfsP st L s (i * L + x))[i]? = some a) (hb : st a x = some b) : b ∈ bfsP st L s m := by
  refine bfsP_sub (k := i * L + x + 1) hm ?_
  rw [bfsP_add hx, ha]
  exact addO_mem.2 (.inr hb)
/-- all is explored -/
structure DoneP (K : Nat) : Prop where
  pos : 0 < L
  all : (bfsP st L s K).length * L ≤ K
  got : ∀ i, i < (bfsP st L s K).length → i < (bfsP st L s (i * L)).length
theorem DoneP.closed {K : Nat} (h : DoneP (st := st) (L := L) (s := s) K) {a b : α} {x : Nat} (ha : a ∈ bfsP st L s K) (hx : x < L) (hb : st a x = some b) : b ∈ bfsP st L s K := by
  obtain ⟨i, hi, rfl⟩ := List.mem_iff_getElem.1 ha
  have h1 := h.got i hi
  have h2 : i * L + x < K := by
    have := Nat.mul_le_mul_right L (show i + 1 ≤ _ from hi)
    rw [Nat.add_mul] at this
    have := h.all
    omega
  refine bfsP_hit hx h2 (a := (bfsP st L s K)[i]) ?_ hb
  rw [bfsP_get? (Nat.le_add_right _ _) h1, ← bfsP_get? (m := K) (by omega) h1]
  exact List.getElem?_eq_getElem hi
theorem DoneP.stay {K : Nat} (h : DoneP (st := st) (L := L) (s := s) K) (j : Nat) : bfsP st L s (K + j) = bfsP st L s K := by
  induction j with
  | zero => rfl
  | succ j ih =>
    show addO (bfsP st L s (K + j)) ((bfsP st L s (K + j))[(K + j) / L]?.bind fun a => st a ((K + j) % L)) = _
    rw [ih]
    have hnone : (bfsP st L s K)[(K + j) / L]? = none := by
      rw [List.getElem?_eq_none]
      rw [Nat.le_div_iff_mul_le h.pos]
      have := h.all
      omega
    rw [hnone]
    rfl
theorem DoneP.same {K K' : Nat} (h : DoneP (st := st) (L := L) (s := s) K) (h' : DoneP (st := st) (L := L) (s := s) K') : bfsP st L s K = bfsP st L s K' := by
  rcases Nat.le_total K K' with h1 | h1
  · rw [← h.stay (K' - K), show K + (K' - K) = K' by omega]
  · rw [← h'.stay (K - K'), show K' + (K - K') = K by omega]
/-- the rows before have been met -/
def GoingP (i : Nat) : Prop := ∀ j, j < i → j < (bfsP st L s (j * L)).length
theorem GoingP.zero : GoingP (st := st) (L := L) (s := s) 0 := fun _ h => by omega
theorem GoingP.next {i : Nat} (h : GoingP (st := st) (L := L) (s := s) i) (hi : i < (bfsP st L s (i * L)).length) : GoingP (st := st) (L := L) (s := s) (i + 1) := fun j hj => by
  rcases Nat.lt_or_ge j i with h1 | h1
  · exact h j h1
  · obtain rfl : j = i := by omega
    exact hi
theorem DoneP.of {i : Nat} (hL : 0 < L) (h : GoingP (st := st) (L := L) (s := s) i) (hi : (bfsP st L s (i * L)).length ≤ i) : DoneP (st := st) (L := L) (s := s) (i * L) :=
  ⟨hL, Nat.mul_le_mul_right L hi, fun j hj => h j (by omega)⟩
end
/-- two explorations that go alike -/
inductive All2 {α β : Type} (R : α → β → Prop) : List α → List β → Prop
  | nil : All2 R [] []
  | cons {a : α} {b : β} {l : List α} {m : List β} : R a b → All2 R l m → All2 R (a :: l) (b :: m)
theorem All2.length {α β : Type} {R : α → β → Prop} {l : List α} {m : List β} (h : All2 R l m) : l.length = m.length := by
  induction h with
  | nil => rfl
  | cons _ _ ih => simp [ih]
theorem All2.get {α β : Type} {R : α → β → Prop} {l : List α} {m : List β} (h : All2 R l m) : ∀ (i : Nat) (a : α), l[i]? = some a → ∃ b : β, m[i]? = some b ∧ R a b := by
  induction h with
  | nil => intro i a h; cases h
  | cons hr _ ih =>
    intro i a h
    cases i with
    | zero => cases h; exact ⟨_, rfl, hr⟩
    | succ i => exact ih i a h
theorem All2.getR {α β : Type} {R : α → β → Prop} {l : List α} {m : List β} (h : All2 R l m) {i : Nat} (hi : i < l.length) (z : α) (y : β) : R (l.getD i z) (m.getD i y) := by
  obtain ⟨b, hb, hr⟩ := h.get i l[i] (List.getElem?_eq_getElem hi)
  rw [List.getD_eq_getElem?_getD, List.getElem?_eq_getElem hi, List.getD_eq_getElem?_getD, hb]
  exact hr
theorem All2.snoc {α β : Type} {R : α → β → Prop} {l : List α} {m : List β} (h : All2 R l m) {a : α} {b : β} (hr : R a b) : All2 R (l ++ [a]) (m ++ [b]) := by
  induction h with
  | nil => exact .cons hr .nil
  | cons h1 _ ih => exact .cons h1 ih
theorem All2.mem {α β : Type} {R : α → β → Prop} {l : List α} {m : List β} (h : All2 R l m) {a : α} (ha : a ∈ l) : ∃ b ∈ m, R a b := by
  induction h with
  | nil => cases ha
  | cons h1 _ ih =>
    rcases List.mem_cons.1 ha with rfl | ha
    · exact ⟨_, List.mem_cons_self, h1⟩
    · obtain ⟨b, hb, hr⟩ := ih ha
      exact ⟨b, List.mem_cons_of_mem _ hb, hr⟩
theorem All2.mem' {α β : Type} {R : α → β → Prop} {l : List α} {m : List β} (h : All2 R l m) {b : β} (hb : b ∈ m) : ∃ a ∈ l, R a b := by
  induction h with
  | nil => cases hb
  | cons h1 _ ih =>
    rcases List.mem_cons.1 hb with rfl | hb
    · exact ⟨_, List.mem_cons_self, h1⟩
    · obtain ⟨a, ha, hr⟩ := ih hb
      exact ⟨a, List.mem_cons_of_mem _ ha, hr⟩
/-- what two explorations meet, step by step, when R is a one to one relation that the steps keep -/
theorem bfsP_rel {α β : Type} [DecidableEq α] [DecidableEq β] {st : α → Nat → Option α} {st' : β → Nat → Option β} {L : Nat} {s : α} {s' : β} {R : α → β → Prop} (hL : 0 < L) (h0 : R s s')
    (h1 : ∀ a a' b b', R a b → R a' b' → (a = a' ↔ b = b'))
    (hs : ∀ a b x, R a b → x < L → (st a x = none ∧ st' b x = none) ∨ ∃ a' b', st a x = some a' ∧ st' b x = some b' ∧ R a' b') (k : Nat) : All2 R (bfsP st L s k) (bfsP st' L s' k) := by
  induction k with
  | zero => exact .cons h0 .nil
  | succ k ih =>
    rw [bfsP, bfsP]
    cases h : (bfsP st L s k)[k / L]? with
    | none =>
      have : (bfsP st' L s' k)[k / L]? = none := by rw [List.getElem?_eq_none_iff] at h ⊢; rw [← ih.length]; exact h
      rw [this]
      exact ih
    | some a =>
      obtain ⟨b, hb, hr⟩ := ih.get _ _ h
      rw [hb]
      show All2 R (addO _ (st a (k % L))) (addO _ (st' b (k % L)))
      rcases hs a b (k % L) hr (Nat.mod_lt _ hL) with ⟨e1, e2⟩ | ⟨a', b', e1, e2, hr'⟩
      · rw [e1, e2]; exact ih
      · rw [e1, e2]
        show All2 R (if a' ∈ bfsP st L s k then _ else _) (if b' ∈ bfsP st' L s' k then _ else _)
        have hm : a' ∈ bfsP st L s k ↔ b' ∈ bfsP st' L s' k := by
          constructor
          · intro ha
            obtain ⟨c, hc, hr2⟩ := ih.mem ha
            rwa [(h1 _ _ _ _ hr' hr2).1 rfl]
          · intro hb'
            obtain ⟨c, hc, hr2⟩ := ih.mem' hb'
            rwa [(h1 _ _ _ _ hr' hr2).2 rfl]
        by_cases hin : a' ∈ bfsP st L s k
        · rw [if_pos hin, if_pos (hm.1 hin)]; exact ih
        · rw [if_neg hin, if_neg (fun h => hin (hm.2 h))]; exact ih.snoc hr'
theorem DoneP.rel {α β : Type} [DecidableEq α] [DecidableEq β] {st : α → Nat → Option α} {st' : β → Nat → Option β} {L : Nat} {s : α} {s' : β} {R : α → β → Prop} {K : Nat} (h : ∀ k, All2 R (bfsP st L s k) (bfsP st' L s' k)) (hd : DoneP (st := st) (L := L) (s := s) K) : DoneP (st := st') (L := L) (s := s') K :=
  ⟨hd.pos, by rw [← (h K).length]; exact hd.all, fun i hi => by rw [← (h _).length]; exact hd.got i (by rw [(h K).length]; exact hi)⟩
end Go.Am

namespace Go.Sq
open Go Go.Eng Go.Am
open Go.Tl (Wd bo)
/-! values, the part that values need -/
structure Tr (α : Type) where
  to : α → Nat → Option α
  ou : α → Nat → Wd
  en : α → Bool
  fi : α → Wd
def Tr.val {α : Type} (T : Tr α) : α → List Nat → Option Wd
  | q, [] => if T.en q then some (T.fi q) else none
  | q, x :: w => match T.to q x with
    | none => none
    | some r => (T.val r w).map (T.ou q x ++ ·)
def Sq.tr (d : Sq) : Tr Nat := ⟨d.to, d.o, d.e, d.f⟩
def Sq.value (d : Sq) (w : List Nat) : Option Wd := (d.tr.val d.s w).map (d.init ++ ·)
section
variable {α : Type} (T : Tr α) (L : Nat)
theorem Tr.val_none {q : α} {x : Nat} {w : List Nat} (h : T.to q x = none) : T.val q (x :: w) = none := by rw [Tr.val, h]
theorem Tr.val_some {q r : α} {x : Nat} {w : List Nat} (h : T.to q x = some r) : T.val q (x :: w) = (T.val r w).map (T.ou q x ++ ·) := by rw [Tr.val, h]
/-- some word leads from q to a state with End -/
def Tr.Co (q : α) : Prop := ∃ w, InW L w ∧ (T.val q w).isSome = true
noncomputable def Tr.co (q : α) : Bool := @decide (T.Co L q) (Classical.propDecidable _)
variable {T L}
theorem Tr.co_t {q : α} : T.co L q = true ↔ T.Co L q := by unfold Tr.co; exact @decide_eq_true_iff _ (Classical.propDecidable _)
theorem Tr.co_f {q : α} : T.co L q = false ↔ ¬ T.Co L q := by unfold Tr.co; exact @decide_eq_false_iff_not _ (Classical.propDecidable _)
theorem Tr.co_none {q : α} (h : T.co L q = false) {w : List Nat} (hw : InW L w) : T.val q w = none := by
  cases e : T.val q w with
  | none => rfl
  | some v => exact absurd ⟨w, hw, by rw [e]; rfl⟩ (Tr.co_f.1 h)
theorem Tr.co_en {q : α} (h : T.en q = true) : T.co L q = true := Tr.co_t.2 ⟨[], InW.nil L, by rw [Tr.val, if_pos h]; rfl⟩
theorem Tr.co_to {q r : α} {x : Nat} (hx : x < L) (h : T.to q x = some r) (hr : T.co L r = true) : T.co L q = true := by
  obtain ⟨w, hw, hs⟩ := Tr.co_t.1 hr
  refine Tr.co_t.2 ⟨x :: w, InW.cons hx hw, ?_⟩
  rw [T.val_some h]
  cases e : T.val r w with
  | none => rw [e] at hs; cases hs
  | some v => rfl
variable (T L)
/-- the steps to states from which values come -/
noncomputable def Tr.stC (a : α) (x : Nat) : Option α := (T.to a x).bind fun b => if T.co L b then some b else none
variable {T L}
theorem Tr.stC_some {a b : α} {x : Nat} (h : T.stC L a x = some b) : T.to a x = some b ∧ T.co L b = true := by
  obtain ⟨c, h1, h2⟩ := Option.bind_eq_some_iff.1 h
  split at h2
  · rename_i hc; cases h2; exact ⟨h1, hc⟩
  · cases h2
theorem Tr.stC_of {a b : α} {x : Nat} (h : T.to a x = some b) (hc : T.co L b = true) : T.stC L a x = some b := by
  rw [Tr.stC, h, Option.bind_some, if_pos hc]
theorem Tr.stC_none {a : α} {x : Nat} (h : T.stC L a x = none) : T.to a x = none ∨ ∃ b, T.to a x = some b ∧ T.co L b = false := by
  cases e : T.to a x with
  | none => exact .inl rfl
  | some b =>
    right
    refine ⟨b, rfl, ?_⟩
    cases hc : T.co L b with
    | false => rfl
    | true => rw [Tr.stC_of e hc] at h; cases h
variable [DecidableEq α]
noncomputable def trimT (T : Tr α) (L : Nat) (init : Wd) (l : List α) : Sq :=
  ⟨L, 0, init, l.map T.en, l.map T.fi, l.map fun a => (List.range L).map fun x => (T.stC L a x).map fun b => l.idxOf b, l.map fun a => (List.range L).map fun x => if (T.stC L a x).isSome then T.ou a x else []⟩
end
def emptyQ (L : Nat) : Sq := ⟨L, 0, [], [false], [[]], [List.replicate L none], [List.replicate L []]⟩
/-- Trim: d is what the values from s need -/
def IsTrim {α : Type} [DecidableEq α] (T : Tr α) (L : Nat) (s : α) (init : Wd) (d : Sq) : Prop :=
  (T.co L s = false ∧ d = emptyQ L) ∨ (T.co L s = true ∧ ∃ K, DoneP (st := T.stC L) (L := L) (s := s) K ∧ d = trimT T L init (bfsP (T.stC L) L s K))
section
variable {α : Type} [DecidableEq α] {T : Tr α} {L : Nat} {init : Wd} {l : List α}
theorem getD_map {β γ : Type} (f : β → γ) (l : List β) (z : γ) (y : β) {i : Nat} (h : i < l.length) : (l.map f).getD i z = f (l.getD i y) := by
  rw [List.getD_eq_getElem?_getD, List.getElem?_map, List.getD_eq_getElem?_getD, List.getElem?_eq_getElem h]; rfl
theorem getD_rng {γ : Type} (f : Nat → γ) (n : Nat) (z : γ) {i : Nat} (h : i < n) : ((List.range n).map f).getD i z = f i := by
  rw [getD_map f _ z 0 (by simpa using h), List.getD_eq_getElem?_getD, List.getElem?_range h]; rfl
theorem trimT_to (z : α) {i x : Nat} (hi : i < l.length) (hx : x < L) : (trimT T L init l).to i x = (T.stC L (l.getD i z) x).map fun b => l.idxOf b := by
  show ((l.map _).getD i []).getD x none = _
  rw [getD_map _ l [] z hi, getD_rng _ _ _ hx]
theorem trimT_o (z : α) {i x : Nat} (hi : i < l.length) (hx : x < L) : (trimT T L init l).o i x = if (T.stC L (l.getD i z) x).isSome then T.ou (l.getD i z) x else [] := by
  show ((l.map _).getD i []).getD x [] = _
  rw [getD_map _ l [] z hi, getD_rng _ _ _ hx]
theorem trimT_e (z : α) {i : Nat} (hi : i < l.length) : (trimT T L init l).e i = T.en (l.getD i z) := getD_map _ l false z hi
theorem trimT_f (z : α) {i : Nat} (hi : i < l.length) : (trimT T L init l).f i = T.fi (l.getD i z) := getD_map _ l [] z hi
theorem trimT_n : (trimT T L init l).n = l.length := List.length_map ..
/-- the values stay -/
theorem trimT_val (z : α) (hcl : ∀ a x b, a ∈ l → x < L → T.stC L a x = some b → b ∈ l) {w : List Nat} (hw : InW L w) : ∀ {i : Nat}, i < l.length → (trimT T L init l).tr.val i w = T.val (l.getD i z) w := by
  induction w with
  | nil =>
    intro i hi
    show (if (trimT T L init l).e i then some ((trimT T L init l).f i) else none) = _
    rw [trimT_e z hi, trimT_f z hi]
    rfl
  | cons x w ih =>
    intro i hi
    have hx : x < L := hw.head
    have ha : l.getD i z ∈ l := by rw [List.getD_eq_getElem?_getD, List.getElem?_eq_getElem hi]; exact List.getElem_mem hi
    cases e : T.stC L (l.getD i z) x with
    | none =>
      rw [Tr.val_none (trimT T L init l).tr (by show (trimT T L init l).to i x = none; rw [trimT_to z hi hx, e]; rfl)]
      rcases Tr.stC_none e with h1 | ⟨b, h1, h2⟩
      · rw [T.val_none h1]
      · rw [T.val_some h1, Tr.co_none h2 hw.tail]; rfl
    | some b =>
      have hb := hcl _ x b ha hx e
      rw [Tr.val_some (trimT T L init l).tr (r := l.idxOf b) (by show (trimT T L init l).to i x = _; rw [trimT_to z hi hx, e]; rfl), T.val_some (Tr.stC_some e).1, ih hw.tail (List.idxOf_lt_length_of_mem hb), getD_idxOf hb]
      have : (trimT T L init l).tr.ou i x = T.ou (l.getD i z) x := by
        show (trimT T L init l).o i x = _
        rw [trimT_o z hi hx, e]; rfl
      rw [this]
end
theorem emptyQ_val (L : Nat) {w : List Nat} (hw : InW L w) : (emptyQ L).tr.val 0 w = none := by
  cases w with
  | nil => rfl
  | cons x w =>
    refine Tr.val_none _ ?_
    show (List.replicate L (none : Option Nat)).getD x none = none
    rw [List.getD_eq_getElem?_getD, List.getElem?_replicate, if_pos hw.head]; rfl
theorem IsTrim.value {α : Type} [DecidableEq α] {T : Tr α} {L : Nat} {s : α} {init : Wd} {d : Sq} (h : IsTrim T L s init d) {w : List Nat} (hw : InW L w) : d.value w = (T.val s w).map (init ++ ·) := by
  rcases h with ⟨h1, rfl⟩ | ⟨h1, K, hK, rfl⟩
  · rw [Sq.value, Tr.co_none h1 hw]
    show Option.map _ ((emptyQ L).tr.val 0 w) = _
    rw [emptyQ_val L hw]; rfl
  · show Option.map _ ((trimT T L init _).tr.val 0 w) = _
    rw [trimT_val s (fun a x b ha hx hb => hK.closed ha hx hb) hw (bfsP_pos K), bfsP_head]
    rfl
theorem IsTrim.L_eq {α : Type} [DecidableEq α] {T : Tr α} {L : Nat} {s : α} {init : Wd} {d : Sq} (h : IsTrim T L s init d) : d.L = L := by
  rcases h with ⟨_, rfl⟩ | ⟨_, K, _, rfl⟩ <;> rfl

/-- all states are met in order, and values come from each -/
structure Sq.Trimmed (d : Sq) : Prop where
  st : d.s = 0
  bf : ∃ K, DoneP (st := d.to) (L := d.L) (s := 0) K ∧ bfsP d.to d.L 0 K = List.range d.n
  co : ∀ q, q < d.n → d.tr.co d.L q = true
/-- lengths fit -/
structure Sq.Fit (d : Sq) : Prop where
  len : d.ou.length = d.n ∧ d.en.length = d.n ∧ d.fi.length = d.n
  row : ∀ q, q < d.n → (d.nx.getD q []).length = d.L ∧ (d.ou.getD q []).length = d.L
  lt : ∀ q x r, q < d.n → x < d.L → d.to q x = some r → r < d.n
  no : ∀ q x, q < d.n → x < d.L → d.to q x = none → d.o q x = []
theorem Sq.Ok.fit {M : Nat} {d : Sq} (h : d.Ok M) : d.Fit := ⟨h.len, h.row, h.lt, h.no⟩
theorem ext_rows {α : Type} {l m : List (List α)} {n L : Nat} (hl : l.length = n) (hm : m.length = n) (hlr : ∀ q, q < n → (l.getD q []).length = L) (hmr : ∀ q, q < n → (m.getD q []).length = L) (z : α) (h : ∀ q x, q < n → x < L → (l.getD q []).getD x z = (m.getD q []).getD x z) : l = m := by
  refine list_ext_getD [] (by omega) fun i hi => ?_
  refine list_ext_getD z (by rw [hlr i (by omega), hmr i (by omega)]) fun j hj => ?_
  exact h i j (by omega) (by rw [← hlr i (by omega)]; exact hj)
/-- two functions of the same size are the same when all parts are -/
theorem Sq.ext' {d e : Sq} (hd : d.Fit) (he : e.Fit) (hL : d.L = e.L) (hs : d.s = e.s) (hi : d.init = e.init) (hn : d.n = e.n) (h1 : ∀ q x, q < d.n → x < d.L → d.to q x = e.to q x) (h2 : ∀ q x, q < d.n → x < d.L → d.o q x = e.o q x) (h3 : ∀ q, q < d.n → d.e q = e.e q) (h4 : ∀ q, q < d.n → d.f q = e.f q) : d = e := by
  have hn' : ∀ q, q < d.n → q < e.n := fun q hq => hn ▸ hq
  have g1 : d.nx = e.nx := ext_rows rfl hn.symm (fun q hq => (hd.row q hq).1) (fun q hq => by rw [(he.row q (hn' q hq)).1, hL]) none h1
  have g2 : d.ou = e.ou := ext_rows hd.len.1 (by rw [he.len.1, hn]) (fun q hq => (hd.row q hq).2) (fun q hq => by rw [(he.row q (hn' q hq)).2, hL]) [] h2
  have g3 : d.en = e.en := list_ext_getD false (by rw [hd.len.2.1, he.len.2.1, hn]) fun i hi => h3 i (by rw [← hd.len.2.1]; exact hi)
  have g4 : d.fi = e.fi := list_ext_getD [] (by rw [hd.len.2.2, he.len.2.2, hn]) fun i hi => h4 i (by rw [← hd.len.2.2]; exact hi)
  cases d; cases e
  simp only at hL hs hi g1 g2 g3 g4
  subst hL hs hi g1 g2 g3 g4
  rfl
section
variable {α : Type} [DecidableEq α] {T : Tr α} {L : Nat} {s : α} {init : Wd}
theorem trimT_fit {l : List α} (hcl : ∀ a x b, a ∈ l → x < L → T.stC L a x = some b → b ∈ l) : (trimT T L init l).Fit := by
  have hmem : ∀ i, i < l.length → ∀ z, l.getD i z ∈ l := fun i hi z => by rw [List.getD_eq_getElem?_getD, List.getElem?_eq_getElem hi]; exact List.getElem_mem hi
  refine ⟨by show (l.map _).length = (l.map _).length ∧ (l.map _).length = (l.map _).length ∧ (l.map _).length = (l.map _).length; simp, fun q hq => ?_, fun q x r hq hx hr => ?_, fun q x hq hx hn => ?_⟩
  · rw [trimT_n] at hq
    have hz := l[q]
    constructor
    · show ((l.map _).getD q []).length = L
      rw [getD_map _ l [] hz hq]; simp
    · show ((l.map _).getD q []).length = L
      rw [getD_map _ l [] hz hq]; simp
  · rw [trimT_n] at hq ⊢
    have hz := l[q]
    rw [trimT_to hz hq (show x < L from hx)] at hr
    cases e : T.stC L (l.getD q hz) x with
    | none => rw [e] at hr; cases hr
    | some b => rw [e] at hr; cases hr; exact List.idxOf_lt_length_of_mem (hcl _ x b (hmem q hq hz) hx e)
  · rw [trimT_n] at hq
    have hz := l[q]
    rw [trimT_to hz hq (show x < L from hx)] at hn
    rw [trimT_o hz hq (show x < L from hx)]
    cases e : T.stC L (l.getD q hz) x with
    | none => rfl
    | some b => rw [e] at hn; cases hn
theorem idx_range (n : Nat) {i : Nat} (h : i < n) : (List.range n).idxOf i = i := by
  have h1 := idxOf_getD (l := List.range n) List.nodup_range (i := i) (by simpa using h) 0
  rwa [List.getD_eq_getElem?_getD, List.getElem?_range h] at h1
/-- what Trim returns is trimmed -/
theorem trimT_trimmed (hs : T.co L s = true) {K : Nat} (hK : DoneP (st := T.stC L) (L := L) (s := s) K) : (trimT T L init (bfsP (T.stC L) L s K)).Trimmed := by
  have hcl : ∀ a x b, a ∈ bfsP (T.stC L) L s K → x < L → T.stC L a x = some b → b ∈ bfsP (T.stC L) L s K := fun a x b ha hx hb => hK.closed ha hx hb
  have hco : ∀ a ∈ bfsP (T.stC L) L s K, T.co L a = true := bfsP_all (p := fun a => T.co L a = true) hs (fun a x b _ _ hb => (Tr.stC_some hb).2) hK.pos K
  generalize hd : trimT T L init (bfsP (T.stC L) L s K) = d
  have hdL : d.L = L := by rw [← hd]; rfl
  have hdn : d.n = (bfsP (T.stC L) L s K).length := by rw [← hd]; exact trimT_n
  have hmem : ∀ i, i < (bfsP (T.stC L) L s K).length → (bfsP (T.stC L) L s K).getD i s ∈ bfsP (T.stC L) L s K := fun i hi => by rw [List.getD_eq_getElem?_getD, List.getElem?_eq_getElem hi]; exact List.getElem_mem hi
  have hrel : ∀ k, All2 (fun a i => i < (bfsP (T.stC L) L s K).length ∧ (bfsP (T.stC L) L s K).getD i s = a) (bfsP (T.stC L) L s k) (bfsP d.to L 0 k) := fun k => by
    refine bfsP_rel hK.pos ⟨bfsP_pos K, bfsP_head K s⟩ (fun a a' i i' h1 h2 => ?_) (fun a i x h hx => ?_) k
    · constructor
      · intro e
        have h3 := idxOf_getD (bfsP_nodup (st := T.stC L) (L := L) (s := s) K) h1.1 s
        have h4 := idxOf_getD (bfsP_nodup (st := T.stC L) (L := L) (s := s) K) h2.1 s
        rw [h1.2] at h3; rw [h2.2] at h4
        rw [← h3, ← h4, e]
      · intro e; subst e; rw [← h1.2, ← h2.2]
    · have ht : d.to i x = (T.stC L ((bfsP (T.stC L) L s K).getD i s) x).map fun b => (bfsP (T.stC L) L s K).idxOf b := by rw [← hd]; exact trimT_to s h.1 hx
      rw [h.2] at ht
      cases e : T.stC L a x with
      | none => left; exact ⟨rfl, by rw [ht, e]; rfl⟩
      | some b =>
        right
        have hb := hcl a x b (by rw [← h.2]; exact hmem i h.1) hx e
        exact ⟨b, (bfsP (T.stC L) L s K).idxOf b, rfl, by rw [ht, e]; rfl, List.idxOf_lt_length_of_mem hb, getD_idxOf hb s⟩
  refine ⟨by rw [← hd]; rfl, ⟨K, ?_, ?_⟩, fun q hq => ?_⟩
  · rw [hdL]; exact hK.rel hrel
  · rw [hdL, hdn]
    have h1 := hrel K
    refine list_ext_getD 0 (by rw [← h1.length]; simp) fun i hi => ?_
    have hi' : i < (bfsP (T.stC L) L s K).length := by rw [h1.length]; exact hi
    have h2 := h1.getR hi' s 0
    have h3 := idxOf_getD (bfsP_nodup (st := T.stC L) (L := L) (s := s) K) h2.1 s
    rw [h2.2, idxOf_getD (bfsP_nodup K) hi' s] at h3
    rw [← h3, List.getD_eq_getElem?_getD, List.getElem?_range hi']
    rfl
  · rw [hdn] at hq
    obtain ⟨w, hw, hv⟩ := Tr.co_t.1 (hco _ (hmem q hq))
    rw [hdL]
    refine Tr.co_t.2 ⟨w, hw, ?_⟩
    rw [← hd, trimT_val s hcl hw hq]
    exact hv
end
/-- trimming a trimmed one changes nothing -/
theorem Sq.Trimmed.again {d e : Sq} (hf : d.Fit) (ht : d.Trimmed) (hn : 0 < d.n) (h : IsTrim d.tr d.L d.s d.init e) : e = d := by
  have hst := ht.st
  obtain ⟨K, hK, hr⟩ := ht.bf
  rcases h with ⟨h1, _⟩ | ⟨h1, K', hK', rfl⟩
  · rw [ht.co _ (by rw [hst]; exact hn)] at h1; cases h1
  · have hrel : ∀ k, All2 (fun a b => a = b ∧ a < d.n) (bfsP d.to d.L 0 k) (bfsP (d.tr.stC d.L) d.L d.s k) := fun k => by
      refine bfsP_rel hK.pos ⟨hst.symm, hn⟩ (fun a a' b b' h1 h2 => by rw [h1.1, h2.1]) (fun a b x h hx => ?_) k
      obtain ⟨rfl, ha⟩ := h
      cases e : d.to a x with
      | none => left; exact ⟨rfl, by rw [Tr.stC, show d.tr.to a x = none from e]; rfl⟩
      | some r => right; exact ⟨r, r, rfl, Tr.stC_of e (ht.co r (hf.lt a x r ha hx e)), rfl, hf.lt a x r ha hx e⟩
    have hl : bfsP (d.tr.stC d.L) d.L d.s K' = List.range d.n := by
      rw [hK'.same (hK.rel hrel), ← hr]
      have h2 := hrel K
      refine list_ext_getD 0 h2.length.symm fun i hi => ?_
      exact (h2.getR (by rw [h2.length]; exact hi) 0 0).1.symm
    rw [hl]
    have hcl : ∀ a x b, a ∈ List.range d.n → x < d.L → d.tr.stC d.L a x = some b → b ∈ List.range d.n := fun a x b ha hx hb => List.mem_range.2 (hf.lt a x b (List.mem_range.1 ha) hx (Tr.stC_some hb).1)
    have hg : ∀ i, i < d.n → (List.range d.n).getD i 0 = i := fun i hi => by rw [List.getD_eq_getElem?_getD, List.getElem?_range hi]; rfl
    have hl' : ∀ i, i < d.n → i < (List.range d.n).length := fun i hi => by simpa using hi
    have hnn : (trimT d.tr d.L d.init (List.range d.n)).n = d.n := by rw [trimT_n]; simp
    refine Sq.ext' (trimT_fit hcl) hf rfl hst.symm rfl hnn (fun q x hq hx => ?_) (fun q x hq hx => ?_) (fun q hq => ?_) fun q hq => ?_
    · rw [hnn] at hq
      replace hx : x < d.L := hx
      rw [trimT_to 0 (hl' q hq) hx, hg q hq]
      cases e : d.to q x with
      | none => rw [Tr.stC, show d.tr.to q x = none from e]; rfl
      | some r =>
        have hlt := hf.lt q x r hq hx e
        rw [Tr.stC_of (show d.tr.to q x = some r from e) (ht.co r hlt)]
        show some ((List.range d.n).idxOf r) = some r
        rw [idx_range _ hlt]
    · rw [hnn] at hq
      replace hx : x < d.L := hx
      rw [trimT_o 0 (hl' q hq) hx, hg q hq]
      cases e : d.to q x with
      | none => rw [Tr.stC, show d.tr.to q x = none from e, hf.no q x hq hx e]; rfl
      | some r => rw [Tr.stC_of (show d.tr.to q x = some r from e) (ht.co r (hf.lt q x r hq hx e))]; rfl
    · rw [hnn] at hq
      rw [trimT_e 0 (hl' q hq), hg q hq]; rfl
    · rw [hnn] at hq
      rw [trimT_f 0 (hl' q hq), hg q hq]; rfl
end Go.Sq

namespace Go.Sq
open Go Go.Eng Go.Am
open Go.Tl (Wd bo)
/-! what all values begin with; normal forms -/
def cm : Wd → Wd → Wd
  | a :: s, b :: t => if a = b then a :: cm s t else []
  | _, _ => []
theorem cm_l (s t : Wd) : cm s t <+: s := by
  induction s generalizing t with
  | nil => cases t <;> simp [cm]
  | cons a s ih =>
    cases t with
    | nil => simp [cm]
    | cons b t =>
      rw [cm]
      split
      · exact List.cons_prefix_cons.2 ⟨rfl, ih t⟩
      · exact List.nil_prefix
theorem cm_r (s t : Wd) : cm s t <+: t := by
  induction s generalizing t with
  | nil => cases t <;> simp [cm]
  | cons a s ih =>
    cases t with
    | nil => simp [cm]
    | cons b t =>
      rw [cm]
      split
      · rename_i h; subst h; exact List.cons_prefix_cons.2 ⟨rfl, ih t⟩
      · exact List.nil_prefix
theorem cm_top {p s t : Wd} (h : p <+: s) (k : p <+: t) : p <+: cm s t := by
  induction p generalizing s t with
  | nil => exact List.nil_prefix
  | cons c p ih =>
    cases s with
    | nil => simp at h
    | cons a s =>
      cases t with
      | nil => simp at k
      | cons b t =>
        obtain ⟨rfl, h2⟩ := List.cons_prefix_cons.1 h
        obtain ⟨rfl, k2⟩ := List.cons_prefix_cons.1 k
        rw [cm, if_pos rfl]
        exact List.cons_prefix_cons.2 ⟨rfl, ih h2 k2⟩
theorem pre_len {s t u : Wd} (h : s <+: u) (k : t <+: u) (hl : s.length ≤ t.length) : s <+: t := List.prefix_of_prefix_length_le h k hl
theorem pre_anti {s t : Wd} (h : s <+: t) (k : t <+: s) : s = t := h.eq_of_length (Nat.le_antisymm h.length_le k.length_le)
section
variable {α : Type} (T : Tr α) (L : Nat)
/-- every value from q begins with p -/
def Tr.Pre (q : α) (p : Wd) : Prop := ∀ w v, InW L w → T.val q w = some v → p <+: v
structure Tr.Lcp (q : α) (p : Wd) : Prop where
  pre : T.Pre L q p
  top : ∀ p', T.Pre L q p' → p' <+: p
variable {T L}
theorem Tr.Lcp.unique {q : α} {p p' : Wd} (h : T.Lcp L q p) (k : T.Lcp L q p') : p = p' := pre_anti (k.top _ h.pre) (h.top _ k.pre)
theorem Tr.up_fi {q : α} {p : Wd} (he : T.en q = true) (h : T.Pre L q p) : p <+: T.fi q := h [] _ (InW.nil L) (by rw [Tr.val, if_pos he])
theorem Tr.up_to {q r : α} {x : Nat} {p R : Wd} (hx : x < L) (ht : T.to q x = some r) (hc : T.co L r = true) (h : T.Pre L q p) (hR : ∀ p', T.Pre L r p' → p' <+: R) : p <+: T.ou q x ++ R := by
  obtain ⟨w, hw, hv⟩ := Tr.co_t.1 hc
  obtain ⟨v, hv⟩ := Option.isSome_iff_exists.1 hv
  have h1 : p <+: T.ou q x ++ v := h (x :: w) _ (InW.cons hx hw) (by rw [T.val_some ht, hv]; rfl)
  rcases Nat.le_total p.length (T.ou q x).length with hl | hl
  · exact (pre_len h1 (List.prefix_append _ _) hl).trans (List.prefix_append _ _)
  · obtain ⟨t, rfl⟩ := pre_len (List.prefix_append _ _) h1 hl
    refine (List.prefix_append_right_inj _).2 (hR t fun w' v' hw' hv' => ?_)
    exact (List.prefix_append_right_inj _).1 (h (x :: w') _ (InW.cons hx hw') (by rw [T.val_some ht, hv']; rfl))
/-- what fits everywhere is a common beginning -/
theorem Tr.pre_fix {Q : α → Prop} {P : α → Wd} (hQ : ∀ q x r, Q q → x < L → T.to q x = some r → Q r) (hf : ∀ q, Q q → T.en q = true → P q <+: T.fi q) (ht : ∀ q x r, Q q → x < L → T.to q x = some r → P q <+: T.ou q x ++ P r) : ∀ q, Q q → T.Pre L q (P q) := by
  intro q hq w
  induction w generalizing q with
  | nil =>
    intro v _ hv
    rw [Tr.val] at hv
    split at hv
    · rename_i he; cases hv; exact hf q hq he
    · cases hv
  | cons x w ih =>
    intro v hw hv
    cases e : T.to q x with
    | none => rw [T.val_none e] at hv; cases hv
    | some r =>
      rw [T.val_some e] at hv
      obtain ⟨u, hu, rfl⟩ := Option.map_eq_some_iff.1 hv
      exact (ht q x r hq hw.head e).trans ((List.prefix_append_right_inj _).2 (ih r (hQ q x r hq hw.head e) u hw.tail hu))
end
/-- the form that writes early -/
def normD (d : Sq) (P : List Wd) : Sq :=
  ⟨d.L, d.s, d.init ++ P.getD d.s [], d.en, (List.range d.n).map fun q => if d.e q then (d.f q).drop (P.getD q []).length else d.f q, d.nx,
    (List.range d.n).map fun q => (List.range d.L).map fun x => match d.to q x with
      | none => d.o q x
      | some r => (d.o q x ++ P.getD r []).drop (P.getD q []).length⟩
theorem normD_f {d : Sq} {P : List Wd} {q : Nat} (hq : q < d.n) : (normD d P).f q = if d.e q then (d.f q).drop (P.getD q []).length else d.f q := getD_rng _ _ _ hq
theorem normD_o {d : Sq} {P : List Wd} {q x : Nat} (hq : q < d.n) (hx : x < d.L) : (normD d P).o q x = match d.to q x with
      | none => d.o q x
      | some r => (d.o q x ++ P.getD r []).drop (P.getD q []).length := by
  show ((List.map _ _).getD q []).getD x [] = _
  rw [getD_rng _ _ _ hq, getD_rng _ _ _ hx]
def Sq.Normal (d : Sq) : Prop := ∀ q, q < d.n → d.tr.Lcp d.L q []
structure Sq.Pf (d : Sq) (P : List Wd) : Prop where
  len : P.length = d.n
  lcp : ∀ q, q < d.n → d.tr.Lcp d.L q (P.getD q [])
theorem Sq.Pf.unique {d : Sq} {P P' : List Wd} (h : d.Pf P) (k : d.Pf P') : P = P' :=
  list_ext_getD [] (by rw [h.len, k.len]) fun i hi => (h.lcp i (by rw [← h.len]; exact hi)).unique (k.lcp i (by rw [← h.len]; exact hi))
section
variable {d : Sq} {P : List Wd} (hf : d.Fit) (ht : d.Trimmed) (hP : d.Pf P)
include hf ht hP
theorem normD_step {q x r : Nat} (hq : q < d.n) (hx : x < d.L) (h : d.to q x = some r) : P.getD q [] <+: d.o q x ++ P.getD r [] :=
  Tr.up_to (T := d.tr) hx h (ht.co r (hf.lt q x r hq hx h)) (hP.lcp q hq).pre (hP.lcp r (hf.lt q x r hq hx h)).top
theorem normD_val {w : List Nat} (hw : InW d.L w) : ∀ {q : Nat}, q < d.n → d.tr.val q w = ((normD d P).tr.val q w).map (P.getD q [] ++ ·) := by
  induction w with
  | nil =>
    intro q hq
    show (if d.e q then some (d.f q) else none) = Option.map _ (if d.e q then some ((normD d P).f q) else none)
    cases he : d.e q with
    | false => rfl
    | true =>
      rw [normD_f hq, he]
      obtain ⟨t, ht⟩ := Tr.up_fi (T := d.tr) he (hP.lcp q hq).pre
      have ht : P.getD q [] ++ t = d.f q := ht
      rw [if_pos rfl, if_pos rfl, if_pos rfl, ← ht]
      simp
  | cons x w ih =>
    intro q hq
    have hx := hw.head
    cases e : d.to q x with
    | none => rw [d.tr.val_none e, (normD d P).tr.val_none e]; rfl
    | some r =>
      rw [d.tr.val_some e, (normD d P).tr.val_some e, ih hw.tail (hf.lt q x r hq hx e)]
      have ho : (normD d P).tr.ou q x = (d.o q x ++ P.getD r []).drop (P.getD q []).length := by
        show (normD d P).o q x = _
        rw [normD_o hq hx, e]
      rw [ho, Option.map_map, Option.map_map]
      congr 1
      funext v
      obtain ⟨t, h1⟩ := normD_step hf ht hP hq hx e
      show d.o q x ++ (P.getD r [] ++ v) = P.getD q [] ++ ((d.o q x ++ P.getD r []).drop (P.getD q []).length ++ v)
      rw [← List.append_assoc, ← List.append_assoc, ← h1]
      simp
theorem normD_value (hs : d.s < d.n) {w : List Nat} (hw : InW d.L w) : (normD d P).value w = d.value w := by
  show Option.map _ ((normD d P).tr.val d.s w) = Option.map _ (d.tr.val d.s w)
  rw [normD_val hf ht hP hw hs, Option.map_map]
  congr 1
  funext v
  show d.init ++ P.getD d.s [] ++ v = d.init ++ (P.getD d.s [] ++ v)
  rw [List.append_assoc]
theorem normD_normal : (normD d P).Normal := fun q hq => by
  replace hq : q < d.n := hq
  refine ⟨fun w v _ _ => List.nil_prefix, fun p' h => ?_⟩
  have h1 : d.tr.Pre d.L q (P.getD q [] ++ p') := fun w v hw hv => by
    rw [normD_val hf ht hP hw hq] at hv
    obtain ⟨u, hu, rfl⟩ := Option.map_eq_some_iff.1 hv
    exact (List.prefix_append_right_inj _).2 (h w u hw hu)
  have h2 := (hP.lcp q hq).top _ h1
  have := h2.length_le
  rw [List.length_append] at this
  rw [List.eq_nil_of_length_eq_zero (show p'.length = 0 by omega)]
  exact List.prefix_rfl
omit ht hP in
theorem normD_fit (P : List Wd) : (normD d P).Fit := by
  refine ⟨⟨?_, hf.len.2.1, ?_⟩, fun q hq => ⟨(hf.row q hq).1, ?_⟩, hf.lt, fun q x hq hx hn => ?_⟩
  · show (List.map _ _).length = d.n; simp
  · show (List.map _ _).length = d.n; simp
  · show ((List.map _ _).getD q []).length = d.L
    rw [getD_rng _ _ _ (show q < d.n from hq)]; simp
  · rw [normD_o (show q < d.n from hq) (show x < d.L from hx)]
    have hn : d.to q x = none := hn
    rw [hn]
    exact hf.no q x hq hx hn
theorem normD_trimmed : (normD d P).Trimmed := by
  refine ⟨ht.st, ht.bf, fun q hq => ?_⟩
  obtain ⟨w, hw, hv⟩ := Tr.co_t.1 (ht.co q hq)
  refine Tr.co_t.2 ⟨w, hw, ?_⟩
  rw [normD_val hf ht hP hw hq] at hv
  cases e : (normD d P).tr.val q w with
  | none => rw [e] at hv; cases hv
  | some v => rfl
end
/-- Normal -/
def IsNorm (f d : Sq) : Prop := ∃ g, IsTrim f.tr f.L f.s f.init g ∧ ((f.tr.co f.L f.s = false ∧ d = g) ∨ (f.tr.co f.L f.s = true ∧ ∃ P, g.Pf P ∧ d = normD g P))
structure Sq.Nf (d : Sq) : Prop where
  fit : d.Fit
  tr : d.Trimmed
  pos : 0 < d.n
  nor : d.Normal
theorem IsTrim.good {f g : Sq} (h : IsTrim f.tr f.L f.s f.init g) (hc : f.tr.co f.L f.s = true) : g.Fit ∧ g.Trimmed ∧ 0 < g.n ∧ g.L = f.L := by
  rcases h with ⟨h1, _⟩ | ⟨h1, K, hK, rfl⟩
  · rw [h1] at hc; cases hc
  · exact ⟨trimT_fit fun a x b ha hx hb => hK.closed ha hx hb, trimT_trimmed h1 hK, by rw [trimT_n]; exact bfsP_pos K, rfl⟩
theorem IsNorm.nf {f d : Sq} (h : IsNorm f d) : d = emptyQ f.L ∨ (f.tr.co f.L f.s = true ∧ d.L = f.L ∧ d.Nf) := by
  obtain ⟨g, h1, ⟨h2, rfl⟩ | ⟨h2, P, hP, rfl⟩⟩ := h
  · rcases h1 with ⟨_, rfl⟩ | ⟨h3, _⟩
    · exact .inl rfl
    · rw [h2] at h3; cases h3
  · obtain ⟨g1, g2, g3, g4⟩ := h1.good h2
    exact .inr ⟨h2, g4, normD_fit g1 P, normD_trimmed g1 g2 hP, g3, normD_normal g1 g2 hP⟩
theorem IsNorm.value {f d : Sq} (h : IsNorm f d) {w : List Nat} (hw : InW f.L w) : d.value w = f.value w := by
  obtain ⟨g, h1, ⟨h2, rfl⟩ | ⟨h2, P, hP, rfl⟩⟩ := h
  · exact h1.value hw
  · obtain ⟨g1, g2, g3, g4⟩ := h1.good h2
    rw [normD_value g1 g2 hP (by rw [g2.st]; exact g3) (by rw [g4]; exact hw)]
    exact h1.value hw
end Go.Sq

namespace Go.Sq
open Go Go.Eng Go.Am
open Go.Tl (Wd bo)
/-! equal values, minimal functions -/
def Eqs {α β : Type} (L : Nat) (T : Tr α) (p : α) (U : Tr β) (q : β) : Prop := ∀ w, InW L w → T.val p w = U.val q w
theorem Eqs.symm {α β : Type} {L : Nat} {T : Tr α} {p : α} {U : Tr β} {q : β} (h : Eqs L T p U q) : Eqs L U q T p := fun w hw => (h w hw).symm
theorem Eqs.trans {α β γ : Type} {L : Nat} {T : Tr α} {p : α} {U : Tr β} {q : β} {V : Tr γ} {r : γ} (h : Eqs L T p U q) (k : Eqs L U q V r) : Eqs L T p V r := fun w hw => (h w hw).trans (k w hw)
section
variable {α β : Type} {L : Nat} {T : Tr α} {p : α} {U : Tr β} {q : β}
theorem Eqs.co (h : Eqs L T p U q) (hc : T.co L p = true) : U.co L q = true := by
  obtain ⟨w, hw, hv⟩ := Tr.co_t.1 hc
  exact Tr.co_t.2 ⟨w, hw, by rw [← h w hw]; exact hv⟩
theorem Eqs.en (h : Eqs L T p U q) : T.en p = U.en q := by
  have := h [] (InW.nil L)
  rw [Tr.val, Tr.val] at this
  cases h1 : T.en p <;> cases h2 : U.en q <;> simp [h1, h2] at this <;> rfl
theorem Eqs.fi (h : Eqs L T p U q) (he : T.en p = true) : T.fi p = U.fi q := by
  have h2 := h.en
  have := h [] (InW.nil L)
  rw [Tr.val, Tr.val, ← h2, he] at this
  simpa using this
theorem Eqs.to_some (h : Eqs L T p U q) {x : Nat} {p' : α} (hx : x < L) (hp : T.to p x = some p') (hc : T.co L p' = true) : ∃ q', U.to q x = some q' ∧ U.co L q' = true := by
  obtain ⟨w, hw, hv⟩ := Tr.co_t.1 hc
  have h1 := h (x :: w) (InW.cons hx hw)
  rw [T.val_some hp] at h1
  cases e : U.to q x with
  | none =>
    rw [U.val_none e] at h1
    obtain ⟨v, hv⟩ := Option.isSome_iff_exists.1 hv
    rw [hv] at h1; cases h1
  | some q' =>
    refine ⟨q', rfl, Tr.co_t.2 ⟨w, hw, ?_⟩⟩
    rw [U.val_some e] at h1
    obtain ⟨v, hv⟩ := Option.isSome_iff_exists.1 hv
    rw [hv] at h1
    cases e2 : U.val q' w with
    | none => rw [e2] at h1; cases h1
    | some u => rfl
/-- two sets of values, one behind A and one behind B, that are the same, and begin with nothing in common: A is B -/
theorem same_init {A B : Wd} (hc : T.co L p = true) (h : ∀ w, InW L w → (T.val p w).map (A ++ ·) = (U.val q w).map (B ++ ·)) (hp : T.Lcp L p []) (hq : U.Lcp L q []) : A = B ∧ Eqs L T p U q := by
  have key : ∀ {α β : Type} {T : Tr α} {p : α} {U : Tr β} {q : β} {A B : Wd}, T.co L p = true → (∀ w, InW L w → (T.val p w).map (A ++ ·) = (U.val q w).map (B ++ ·)) → T.Lcp L p [] → A.length ≤ B.length → A = B := by
    intro α β T p U q A B hc h hp hl
    obtain ⟨w, hw, hv⟩ := Tr.co_t.1 hc
    obtain ⟨v, hv⟩ := Option.isSome_iff_exists.1 hv
    have h1 := h w hw
    rw [hv] at h1
    cases e : U.val q w with
    | none => rw [e] at h1; cases h1
    | some u =>
      rw [e] at h1
      have h1 : A ++ v = B ++ u := Option.some.inj h1
      obtain ⟨t, rfl⟩ := pre_len (List.prefix_append A v) (h1 ▸ List.prefix_append B u) hl
      have h2 : T.Pre L p t := fun w' v' hw' hv' => by
        have h3 := h w' hw'
        rw [hv'] at h3
        cases e' : U.val q w' with
        | none => rw [e'] at h3; cases h3
        | some u' =>
          rw [e'] at h3
          have h3 : A ++ v' = A ++ t ++ u' := Option.some.inj h3
          rw [List.append_assoc] at h3
          rw [List.append_cancel_left h3]
          exact List.prefix_append _ _
      have h4 := (hp.top _ h2).length_le
      rw [List.eq_nil_of_length_eq_zero (show t.length = 0 by simpa using h4), List.append_nil]
  have hc' : U.co L q = true := by
    obtain ⟨w, hw, hv⟩ := Tr.co_t.1 hc
    refine Tr.co_t.2 ⟨w, hw, ?_⟩
    have h1 := h w hw
    obtain ⟨v, hv⟩ := Option.isSome_iff_exists.1 hv
    rw [hv] at h1
    cases e : U.val q w with
    | none => rw [e] at h1; cases h1
    | some u => rfl
  have hAB : A = B := by
    rcases Nat.le_total A.length B.length with hl | hl
    · exact key hc h hp hl
    · exact (key hc' (fun w hw => (h w hw).symm) hq hl).symm
  subst hAB
  refine ⟨rfl, fun w hw => ?_⟩
  have h1 := h w hw
  cases e : T.val p w with
  | none =>
    cases e' : U.val q w with
    | none => rfl
    | some u => rw [e, e'] at h1; cases h1
  | some v =>
    cases e' : U.val q w with
    | none => rw [e, e'] at h1; cases h1
    | some u =>
      rw [e, e'] at h1
      rw [List.append_cancel_left (Option.some.inj h1)]
theorem Eqs.step (h : Eqs L T p U q) {x : Nat} {p' : α} {q' : β} (hx : x < L) (hp : T.to p x = some p') (hq : U.to q x = some q') (hc : T.co L p' = true) (np : T.Lcp L p' []) (nq : U.Lcp L q' []) : T.ou p x = U.ou q x ∧ Eqs L T p' U q' :=
  same_init hc (fun w hw => by rw [← T.val_some hp, ← U.val_some hq]; exact h _ (InW.cons hx hw)) np nq
end
/-- states that part alike -/
theorem Eqs.of_bis {α β : Type} {L : Nat} {T : Tr α} {U : Tr β} (R : α → β → Prop) (he : ∀ p q, R p q → T.en p = U.en q ∧ (T.en p = true → T.fi p = U.fi q)) (hs : ∀ p q x, R p q → x < L → (T.to p x = none ∧ U.to q x = none) ∨ ∃ p' q', T.to p x = some p' ∧ U.to q x = some q' ∧ T.ou p x = U.ou q x ∧ R p' q') {p : α} {q : β} (h : R p q) : Eqs L T p U q := by
  intro w
  induction w generalizing p q with
  | nil =>
    intro _
    rw [Tr.val, Tr.val, ← (he p q h).1]
    split
    · rename_i h1; rw [(he p q h).2 h1]
    · rfl
  | cons x w ih =>
    intro hw
    rcases hs p q x h hw.head with ⟨e1, e2⟩ | ⟨p', q', e1, e2, e3, h'⟩
    · rw [T.val_none e1, U.val_none e2]
    · rw [T.val_some e1, U.val_some e2, e3, ih h' hw.tail]
def Sq.Reduced (d : Sq) : Prop := ∀ p q, p < d.n → q < d.n → Eqs d.L d.tr p d.tr q → p = q
/-- normal forms in which no two states are equal, with the same values, are the same -/
theorem Nf_unique {d e : Sq} (hd : d.Nf) (he : e.Nf) (rd : d.Reduced) (re : e.Reduced) (hL : d.L = e.L) (hv : ∀ w, InW d.L w → d.value w = e.value w) (fd : ∀ q, q < d.n → d.e q = false → d.f q = []) (fe : ∀ q, q < e.n → e.e q = false → e.f q = []) : d = e := by
  obtain ⟨hi, h0⟩ : d.init = e.init ∧ Eqs d.L d.tr 0 e.tr 0 := by
    have hv' : ∀ w, InW d.L w → (d.tr.val 0 w).map (d.init ++ ·) = (e.tr.val 0 w).map (e.init ++ ·) := fun w hw => by
      have := hv w hw
      rwa [Sq.value, Sq.value, hd.tr.st, he.tr.st] at this
    exact same_init (hd.tr.co 0 hd.pos) hv' (hd.nor 0 hd.pos) (by rw [hL]; exact he.nor 0 he.pos)
  have coe : ∀ q, q < e.n → e.tr.co d.L q = true := fun q hq => by rw [hL]; exact he.tr.co q hq
  have lce : ∀ q, q < e.n → e.tr.Lcp d.L q [] := fun q hq => by rw [hL]; exact he.nor q hq
  have step : ∀ p q x, p < d.n → q < e.n → Eqs d.L d.tr p e.tr q → x < d.L → (d.to p x = none ∧ e.to q x = none) ∨ ∃ p' q', d.to p x = some p' ∧ e.to q x = some q' ∧ d.o p x = e.o q x ∧ p' < d.n ∧ q' < e.n ∧ Eqs d.L d.tr p' e.tr q' := fun p q x hp hq hE hx => by
    cases e1 : d.to p x with
    | none =>
      cases e2 : e.to q x with
      | none => exact .inl ⟨rfl, rfl⟩
      | some q' =>
        have hq' := he.fit.lt q x q' hq (by omega) e2
        obtain ⟨p', h1, _⟩ := hE.symm.to_some hx e2 (coe q' hq')
        have h1 : d.to p x = some p' := h1
        rw [e1] at h1; cases h1
    | some p' =>
      have hp' := hd.fit.lt p x p' hp hx e1
      obtain ⟨q', h1, _⟩ := hE.to_some hx e1 (hd.tr.co p' hp')
      have e2 : e.to q x = some q' := h1
      have hq' := he.fit.lt q x q' hq (by omega) e2
      obtain ⟨h2, h3⟩ := hE.step hx e1 e2 (hd.tr.co p' hp') (hd.nor p' hp') (lce q' hq')
      exact .inr ⟨p', q', rfl, e2, h2, hp', hq', h3⟩
  obtain ⟨K, hK, hKr⟩ := hd.tr.bf
  have hrel : ∀ k, All2 (fun p q => p < d.n ∧ q < e.n ∧ Eqs d.L d.tr p e.tr q) (bfsP d.to d.L 0 k) (bfsP e.to d.L 0 k) := fun k => by
    refine bfsP_rel hK.pos ⟨hd.pos, he.pos, h0⟩ (fun a a' b b' h1 h2 => ?_) (fun a b x h hx => ?_) k
    · constructor
      · intro e1; subst e1
        exact re b b' h1.2.1 h2.2.1 (by rw [← hL]; exact h1.2.2.symm.trans h2.2.2)
      · intro e1; subst e1
        exact rd a a' h1.1 h2.1 (h1.2.2.trans h2.2.2.symm)
    · rcases step a b x h.1 h.2.1 h.2.2 hx with h1 | ⟨p', q', h1, h2, _, h3⟩
      · exact .inl h1
      · exact .inr ⟨p', q', h1, h2, h3⟩
  obtain ⟨K', hK', hKr'⟩ := he.tr.bf
  rw [← hL] at hK' hKr'
  have h1 := hrel K
  rw [hKr, (hK.rel hrel).same hK', hKr'] at h1
  have hn : d.n = e.n := by have := h1.length; simpa using this
  have hE : ∀ q, q < d.n → Eqs d.L d.tr q e.tr q := fun q hq => by
    have h2 := h1.getR (i := q) (by simpa using hq) 0 0
    rw [List.getD_eq_getElem?_getD, List.getElem?_range hq, List.getD_eq_getElem?_getD, List.getElem?_range (by rw [← hn]; exact hq)] at h2
    exact h2.2.2
  have hn' : ∀ q, q < d.n → q < e.n := fun q hq => hn ▸ hq
  have hlow : ∀ q x p' q', q < d.n → x < d.L → d.to q x = some p' → e.to q x = some q' → p' = q' := fun q x p' q' hq hx e1 e2 => by
    rcases step q q x hq (hn' q hq) (hE q hq) hx with ⟨h2, _⟩ | ⟨p2, q2, h2, h3, _, h4, h5, h6⟩
    · rw [e1] at h2; cases h2
    · rw [e1] at h2; rw [e2] at h3; cases h2; cases h3
      exact rd p' q' h4 (by rw [hn]; exact h5) (h6.trans (by have := (hE q' (by rw [hn]; exact h5)).symm; exact this))
  refine Sq.ext' hd.fit he.fit hL (by rw [hd.tr.st, he.tr.st]) hi hn (fun q x hq hx => ?_) (fun q x hq hx => ?_) (fun q hq => (hE q hq).en) fun q hq => ?_
  · rcases step q q x hq (hn' q hq) (hE q hq) hx with ⟨h2, h3⟩ | ⟨p2, q2, h2, h3, _⟩
    · rw [h2, h3]
    · rw [h2, h3, hlow q x p2 q2 hq hx h2 h3]
  · rcases step q q x hq (hn' q hq) (hE q hq) hx with ⟨h2, h3⟩ | ⟨p2, q2, h2, h3, h4, _⟩
    · rw [hd.fit.no q x hq hx h2, he.fit.no q x (hn' q hq) (by omega) h3]
    · exact h4
  · cases h2 : d.e q with
    | true => exact (hE q hq).fi h2
    | false =>
      have h3 : e.e q = false := by rw [← h2]; exact (hE q hq).en.symm
      rw [fd q hq h2, fe q (hn' q hq) h3]
/-- the minimal function with the values V -/
structure IsMinQ (L : Nat) (V : List Nat → Option Wd) (d : Sq) : Prop where
  L_eq : d.L = L
  val : ∀ w, InW L w → d.value w = V w
  shape : d = emptyQ L ∨ (d.Nf ∧ d.Reduced ∧ ∀ q, q < d.n → d.e q = false → d.f q = [])
theorem IsMinQ.unique {L : Nat} {V : List Nat → Option Wd} {d e : Sq} (h : IsMinQ L V d) (k : IsMinQ L V e) : d = e := by
  have hne : ∀ {d e : Sq}, IsMinQ L V d → IsMinQ L V e → d = emptyQ L → e.Nf → False := by
    intro d e h k hd he
    obtain ⟨w, hw, hv⟩ := Tr.co_t.1 (he.tr.co 0 he.pos)
    have hw : InW L w := k.L_eq ▸ hw
    have h1 := h.val w hw
    rw [← k.val w hw, hd] at h1
    rw [show (emptyQ L).value w = none from by show Option.map _ ((emptyQ L).tr.val 0 w) = none; rw [emptyQ_val L hw]; rfl, Sq.value, he.tr.st] at h1
    cases e2 : e.tr.val 0 w with
    | none => rw [e2] at hv; cases hv
    | some v => rw [e2] at h1; cases h1
  rcases h.shape with h1 | ⟨h1, h2, h3⟩
  · rcases k.shape with k1 | ⟨k1, _, _⟩
    · rw [h1, k1]
    · exact (hne h k h1 k1).elim
  · rcases k.shape with k1 | ⟨k1, k2, k3⟩
    · exact (hne k h k1 h1).elim
    · exact Nf_unique h1 k1 h2 k2 (h.L_eq.trans k.L_eq.symm) (fun w hw => by have hw : InW L w := h.L_eq ▸ hw; rw [h.val w hw, k.val w hw]) h3 k3
theorem IsMinQ.congr {L : Nat} {V W : List Nat → Option Wd} {d : Sq} (h : IsMinQ L V d) (hV : ∀ w, InW L w → V w = W w) : IsMinQ L W d := ⟨h.L_eq, fun w hw => (h.val w hw).trans (hV w hw), h.shape⟩
theorem IsMinQ.iff {L : Nat} {V W : List Nat → Option Wd} {d e : Sq} (h : IsMinQ L V d) (k : IsMinQ L W e) : d = e ↔ ∀ w, InW L w → V w = W w := by
  constructor
  · intro e1 w hw; subst e1; rw [← h.val w hw, k.val w hw]
  · intro h1; exact (h.congr h1).unique k
end Go.Sq

namespace Go.Am
open Go Go.Eng
open Go.Tl (bo mayL Wd okW okB)

/-! tables of numbers, filled entry by entry -/
/-! the first split: final states -/
/-! keys of seven numbers -/
theorem ded_addN {κ : Type} [DecidableEq κ] (ks : List κ) (k : κ) : ded (ks ++ [k]) = (addN (ded ks) k).1 := by rw [ded_snoc, addN]; split <;> rfl
/-- labels written one by one -/
def labP {κ : Type} [DecidableEq κ] (ks : List κ) (n : Nat) : List Nat := lab ks ++ List.replicate (n - ks.length) 0
theorem labP_len {κ : Type} [DecidableEq κ] {ks : List κ} {n : Nat} (h : ks.length ≤ n) : (labP ks n).length = n := by simp [labP, lab_len]; omega
theorem labP_put {κ : Type} [DecidableEq κ] {ks : List κ} {n q : Nat} {k : κ} (hq : ks.length = q) (hn : q < n) {v : Nat} (hv : v = (addN (ded ks) k).2) : ((labP ks n).map zn).set q (zn v) = (labP (ks ++ [k]) n).map zn := by
  subst hq
  have e1 : labP (ks ++ [k]) n = lab ks ++ v :: List.replicate (n - (ks.length + 1)) 0 := by
    unfold labP
    rw [lab_snoc, List.length_append, List.length_singleton, List.append_assoc, List.singleton_append]
    congr 2
    rw [hv, addN_idx, ded_addN]
  have e2 : labP ks n = lab ks ++ 0 :: List.replicate (n - (ks.length + 1)) 0 := by
    unfold labP
    congr 1
    rw [show n - ks.length = (n - (ks.length + 1)) + 1 by omega, List.replicate_succ]
  rw [e1, e2, List.map_append, List.map_append, List.set_append_right _ _ (by simp [lab_len]), List.length_map, lab_len, Nat.sub_self, List.map_cons, List.map_cons, List.set_cons_zero]
theorem labP_nil {κ : Type} [DecidableEq κ] (n : Nat) : (labP ([] : List κ) n).map zn = List.replicate n (zn 0) := by simp [labP, lab]
theorem labP_full {κ : Type} [DecidableEq κ] {ks : List κ} {n : Nat} (h : ks.length = n) : labP ks n = lab ks := by simp [labP, h]
end Go.Am
namespace Go.Am
open Go Go.Eng
theorem ix_in {κ : Type} [DecidableEq κ] {l : List κ} {x : κ} (h : ¬ ixA x 0 l = none) : (addN l x).1 = l ∧ (ixA x 0 l).getD 0 = (addN l x).2 := by
  have hm : x ∈ l := Classical.byContradiction fun hh => h (ixA_out l x 0 hh)
  rw [addN_in hm, ixA_idx l x 0 hm, Nat.zero_add]
  exact ⟨rfl, rfl⟩
end Go.Am
namespace Go.Eng
theorem OpQ.toG {c : Cx} {E : Slots} {H : List Chunk} {o : Oper} {v : Value} (h : OpQ c o E H v) : OpG c o E H (fun _ : Unit => True) (fun _ => v) (fun _ => H) := fun a w hE hH K Q hK => by
  unfold Oper.wp
  rw [h a w hE hH]
  exact hK () w trivial hH
end Go.Eng

namespace Go.Am
open Go Go.Eng
open Go.Tl (bo mayL Wd okW okB)

/-! an automaton read backwards -/
theorem InW.rev {L : Nat} {w : List Nat} (h : InW L w) : InW L w.reverse := fun x hx => h x (List.mem_reverse.1 hx)
structure Rev {α : Type} (d : Da) (T : Sy α) (A0 : α) (mem : α → Nat → Bool) : Prop where
  step : ∀ A x p, x < d.L → p < d.n → mem (T.f A x) p = mem A (d.to p x)
  fin : ∀ A, T.fin A = mem A d.s
  start : ∀ p, p < d.n → mem A0 p = d.fi p
section
variable {α : Type} {d : Da} {T : Sy α} {A0 : α} {mem : α → Nat → Bool} (h : Rev d T A0 mem) (hd : d.Ok)
include h hd
theorem Rev.run {w : List Nat} (hw : InW d.L w) (A : α) {p : Nat} (hp : p < d.n) : mem (T.run A w) p = mem A (d.sy.run p w.reverse) := by
  induction w generalizing A p with
  | nil => rfl
  | cons x w ih =>
    have h1 : T.run A (x :: w) = T.run (T.f A x) w := rfl
    rw [h1, ih hw.tail (T.f A x) hp, List.reverse_cons, Sy.run_app, h.step A x _ hw.head (hd.run_lt hw.tail.rev hp)]
    rfl
theorem Rev.acc {w : List Nat} (hw : InW d.L w) : T.acc A0 w = d.sy.acc d.s w.reverse := by
  unfold Sy.acc
  rw [h.fin, h.run hd hw A0 hd.st, h.start _ (hd.run_lt hw.rev hd.st)]
  rfl
end
/-! sets of at most 64 states as words of bits -/
abbrev W64 := BitVec 64
/-- edges -/
structure Ed where
  fr : Int
  lt : Int
  to : Int
deriving DecidableEq
end Go.Am

namespace Go.Am
open Go Go.Eng
open Go.Tl (bo mayL)

/-! automata of edges, in memory -/
/-! one letter read -/
def stp (es : List Ed) (s : W64) (x : Nat) : W64 := es.foldl (fun a e => if e.lt = (x : Int) ∧ s.getLsbD e.fr.toNat = true then a ||| (1#64 <<< e.to.toNat) else a) 0#64
/-! edges in order -/
/-! an automaton's edges -/
/-! rows that grow by one place -/
end Go.Am

namespace Go.Am
open Go Go.Eng
open Go.Tl (bo mayL Wd okW okB Tm tv t0 okL vdF evL evL_len)

/-! rows of rows of bits -/
structure Bw where
  a : Option Addr
  cp : Nat
  xs : List Bool
/-! the vectors of a list of formulas, as a system that reads a word from its end -/
def v0 (xs : List Tm) : List Bool := evL xs (-1) [] (List.replicate xs.length false) xs.length
end Go.Am

namespace Go.Am
open Go Go.Eng
open Go.Tl (bo mayL Wd okW okB Tm tv t0 okL vdF evL evL_len evV gt)

/-! vectors packed into bytes -/
def pkP (ks : List Nat) (v : List Bool) : Nat → List B8
  | 0 => List.replicate ((ks.length + 7) / 8) 0#8
  | i + 1 => if v.getD (ks.getD i 0) false = true then (pkP ks v i).set (i / 8) ((pkP ks v i).getD (i / 8) 0#8 ||| (1#8 <<< (i % 8))) else pkP ks v i
def pk (ks : List Nat) (v : List Bool) : Wd := (pkP ks v ks.length).map UInt8.ofBitVec
/-! the places that matter -/
def kpB (xs : List Tm) (i j : Nat) : Bool := decide (j + 1 = xs.length) || (List.range i).any fun k => (decide ((xs.getD k t0).op = 7) && decide ((xs.getD k t0).a.toNat = j)) || (decide ((xs.getD k t0).op = 8) && decide (k = j))
def kps (xs : List Tm) : List Nat := (List.range xs.length).filter (kpB xs xs.length)
end Go.Am

namespace Go.Am
open Go Go.Eng
open Go.Tl (bo mayL Wd okW okB Tm tv t0 okL vdF evL evL_len evV gt cutL rcF numF rcF_root num_root num_full cut_ok cut_val)

theorem Done.mem {α : Type} [DecidableEq α] {f : α → Nat → α} {L : Nat} {s : α} {K : Nat} (h : Done f L s K) {a : α} (ha : a ∈ bfs f L s K) {x : Nat} (hx : x < L) : f a x ∈ bfs f L s K := by
  obtain ⟨i, hi, rfl⟩ := List.mem_iff_getElem.1 ha
  have := h.closed hi hx
  rwa [List.getD_eq_getElem?_getD, List.getElem?_eq_getElem hi, Option.getD_some] at this
theorem Done.run {α : Type} [DecidableEq α] {S : Sy α} {L : Nat} {s : α} {K : Nat} (h : Done S.f L s K) {w : List Nat} (hw : InW L w) : ∀ a, a ∈ bfs S.f L s K → S.run a w ∈ bfs S.f L s K := by
  induction w with
  | nil => intro a ha; exact ha
  | cons x w ih => intro a ha; exact ih hw.tail _ (h.mem ha hw.head)

/-! the system of packed vectors -/
def p0 (ys : List Tm) : Wd := pk (kps ys) (v0 ys)
section
variable {xs : List Tm} {root : Nat} (hok : okL xs 6 = true) (hroot : root < xs.length)
structure Cv (xs : List Tm) (root : Nat) (v v' : List Bool) : Prop where
  l : v.length = xs.length
  l' : v'.length = (cutL xs root).length
  at_ : ∀ j, j ≤ root → (rcF xs root).getD j false = true → v'.getD ((numF xs root).getD j 0) false = v.getD j false
include hok hroot
def Cp (xs : List Tm) (root : Nat) (v : List Bool) (s : Wd) : Prop := ∃ v', Cv xs root v v' ∧ s = pk (kps (cutL xs root)) v'
end
end Go.Am

namespace Go.Sq
open Go Go.Eng Go.Am
open Go.Tl (Wd bo)
/-! classes of equal states; the quotient -/
structure Sq.Same (g : Sq) (p q : Nat) : Prop where
  e : g.e p = g.e q
  f : g.f p = g.f q
  t : ∀ x, x < g.L → (g.to p x = none ↔ g.to q x = none)
  o : ∀ x, x < g.L → g.o p x = g.o q x
theorem Sq.Same.refl (g : Sq) (p : Nat) : g.Same p p := ⟨rfl, rfl, fun _ _ => Iff.rfl, fun _ _ => rfl⟩
/-- equal states part alike -/
structure Sq.Bis (g : Sq) : Prop where
  fit : g.Fit
  same : ∀ p q, p < g.n → q < g.n → Eqs g.L g.tr p g.tr q → g.Same p q
  step : ∀ p q x r r', p < g.n → q < g.n → x < g.L → Eqs g.L g.tr p g.tr q → g.to p x = some r → g.to q x = some r' → Eqs g.L g.tr r g.tr r'
  nf : ∀ q, q < g.n → g.e q = false → g.f q = []
theorem Sq.Nf.bis {g : Sq} (h : g.Nf) (hf : ∀ q, q < g.n → g.e q = false → g.f q = []) : g.Bis := by
  refine ⟨h.fit, fun p q hp hq hE => ?_, fun p q x r r' hp hq hx hE e1 e2 => ?_, hf⟩
  · have key : ∀ p q x r, p < g.n → q < g.n → Eqs g.L g.tr p g.tr q → x < g.L → g.to p x = some r → ∃ r', g.to q x = some r' ∧ g.o p x = g.o q x := fun p q x r hp hq hE hx e1 => by
      obtain ⟨r', e2, _⟩ := hE.to_some hx e1 (h.tr.co r (h.fit.lt p x r hp hx e1))
      have hr := h.fit.lt p x r hp hx e1
      have hr' := h.fit.lt q x r' hq hx e2
      exact ⟨r', e2, (hE.step hx e1 e2 (h.tr.co r hr) (h.nor r hr) (h.nor r' hr')).1⟩
    refine ⟨hE.en, ?_, fun x hx => ⟨fun e1 => ?_, fun e1 => ?_⟩, fun x hx => ?_⟩
    · cases he : g.e p with
      | true => exact hE.fi he
      | false => rw [hf p hp he, hf q hq (by rw [← he]; exact hE.en.symm)]
    · cases e2 : g.to q x with
      | none => rfl
      | some r' => obtain ⟨r, h1, _⟩ := key q p x r' hq hp hE.symm hx e2; rw [e1] at h1; cases h1
    · cases e2 : g.to p x with
      | none => rfl
      | some r' => obtain ⟨r, h1, _⟩ := key p q x r' hp hq hE hx e2; rw [e1] at h1; cases h1
    · cases e1 : g.to p x with
      | some r => exact (key p q x r hp hq hE hx e1).choose_spec.2
      | none =>
        cases e2 : g.to q x with
        | none => rw [h.fit.no p x hp hx e1, h.fit.no q x hq hx e2]
        | some r' => obtain ⟨r, h1, _⟩ := key q p x r' hq hp hE.symm hx e2; rw [e1] at h1; cases h1
  · have hr := h.fit.lt p x r hp hx e1
    have hr' := h.fit.lt q x r' hq hx e2
    exact (hE.step hx e1 e2 (h.tr.co r hr) (h.nor r hr) (h.nor r' hr')).2
theorem emptyQ_to (L : Nat) {q x : Nat} : (emptyQ L).to q x = none := by
  show ([List.replicate L (none : Option Nat)].getD q []).getD x none = none
  cases q with
  | zero =>
    show (List.replicate L (none : Option Nat)).getD x none = none
    rw [List.getD_eq_getElem?_getD, List.getElem?_replicate]
    split <;> rfl
  | succ q => rfl
theorem emptyQ_o (L : Nat) {q x : Nat} : (emptyQ L).o q x = [] := by
  show ([List.replicate L ([] : Wd)].getD q []).getD x [] = []
  cases q with
  | zero =>
    show (List.replicate L ([] : Wd)).getD x [] = []
    rw [List.getD_eq_getElem?_getD, List.getElem?_replicate]
    split <;> rfl
  | succ q => rfl
theorem emptyQ_fit (L : Nat) : (emptyQ L).Fit := by
  refine ⟨⟨rfl, rfl, rfl⟩, fun q hq => ?_, fun q x r _ _ h => ?_, fun q x _ _ _ => emptyQ_o L⟩
  · obtain rfl : q = 0 := Nat.lt_one_iff.1 hq
    exact ⟨List.length_replicate, List.length_replicate⟩
  · rw [emptyQ_to] at h; cases h
theorem emptyQ_bis (L : Nat) : (emptyQ L).Bis := by
  refine ⟨emptyQ_fit L, fun p q hp hq _ => ?_, fun p q x r r' _ _ _ _ e1 _ => ?_, fun q hq _ => ?_⟩
  · obtain rfl : p = 0 := Nat.lt_one_iff.1 hp
    obtain rfl : q = 0 := Nat.lt_one_iff.1 hq
    exact .refl _ _
  · rw [emptyQ_to] at e1; cases e1
  · obtain rfl : q = 0 := Nat.lt_one_iff.1 hq
    rfl
def mkq (g : Sq) (c : List Nat) (x q : Nat) : Nat := match g.to q x with
  | none => 0
  | some r => 1 + c.getD r 0
structure CoarseQ (g : Sq) (c : List Nat) : Prop where
  len : c.length = g.n
  fo : FO c
  co : ∀ p q, p < g.n → q < g.n → Eqs g.L g.tr p g.tr q → c.getD p 0 = c.getD q 0
  tx : ∀ p q, p < g.n → q < g.n → c.getD p 0 = c.getD q 0 → g.Same p q
structure ClsQ (g : Sq) (c : List Nat) : Prop where
  len : c.length = g.n
  fo : FO c
  iff : ∀ p q, p < g.n → q < g.n → (c.getD p 0 = c.getD q 0 ↔ Eqs g.L g.tr p g.tr q)
theorem CoarseQ.cls {g : Sq} {c : List Nat} (hb : g.Bis) (h : CoarseQ g c) (hs : ∀ p q, p < g.n → q < g.n → c.getD p 0 = c.getD q 0 → ∀ x, x < g.L → mkq g c x p = mkq g c x q) : ClsQ g c := by
  refine ⟨h.len, h.fo, fun p q hp hq => ⟨fun he => ?_, h.co p q hp hq⟩⟩
  refine Eqs.of_bis (fun p q => p < g.n ∧ q < g.n ∧ c.getD p 0 = c.getD q 0) (fun p q ⟨hp, hq, he⟩ => ⟨(h.tx p q hp hq he).e, fun _ => (h.tx p q hp hq he).f⟩) (fun p q x ⟨hp, hq, he⟩ hx => ?_) ⟨hp, hq, he⟩
  have h1 := h.tx p q hp hq he
  cases e1 : g.to p x with
  | none => exact .inl ⟨e1, (h1.t x hx).1 e1⟩
  | some r =>
    cases e2 : g.to q x with
    | none => rw [(h1.t x hx).2 e2] at e1; cases e1
    | some r' =>
      refine .inr ⟨r, r', e1, e2, h1.o x hx, hb.fit.lt p x r hp hx e1, hb.fit.lt q x r' hq hx e2, ?_⟩
      have := hs p q hp hq he x hx
      unfold mkq at this
      rw [e1, e2] at this
      have : 1 + c.getD r 0 = 1 + c.getD r' 0 := this
      omega
/-- a function whose states stand for states of g, of which no two are equal -/
structure Quo {β : Type} (U : Tr β) (B : β → Prop) (h : β → Nat) (g : Sq) : Prop where
  lt : ∀ b, B b → h b < g.n
  en : ∀ b, B b → U.en b = g.e (h b)
  fi : ∀ b, B b → U.fi b = g.f (h b)
  to : ∀ b x, B b → x < g.L → (U.to b x = none ∧ g.to (h b) x = none) ∨ ∃ b' r, U.to b x = some b' ∧ g.to (h b) x = some r ∧ B b' ∧ Eqs g.L g.tr r g.tr (h b')
  ou : ∀ b x, B b → x < g.L → U.ou b x = g.o (h b) x
  inj : ∀ b b', B b → B b' → Eqs g.L g.tr (h b) g.tr (h b') → b = b'
section
variable {β : Type} {U : Tr β} {B : β → Prop} {h : β → Nat} {g : Sq} (hQ : Quo U B h g)
include hQ
theorem Quo.eqs {b : β} (hb : B b) : Eqs g.L U b g.tr (h b) := by
  intro w
  induction w generalizing b with
  | nil => intro _; rw [Tr.val, Tr.val, hQ.en b hb, hQ.fi b hb]; rfl
  | cons x w ih =>
    intro hw
    rcases hQ.to b x hb hw.head with ⟨e1, e2⟩ | ⟨b', r, e1, e2, hb', hE⟩
    · rw [U.val_none e1, g.tr.val_none e2]
    · rw [U.val_some e1, g.tr.val_some e2, ih hb' hw.tail, hE w hw.tail, hQ.ou b x hb hw.head]; rfl
theorem Quo.min [DecidableEq β] (hg : (g = emptyQ g.L ∨ g.Nf) ∧ ∀ q, q < g.n → g.e q = false → g.f q = []) {b0 : β} (hb0 : B b0) (h0 : Eqs g.L g.tr g.s g.tr (h b0)) {d : Sq} (hd : IsTrim U g.L b0 g.init d) : IsMinQ g.L g.value d := by
  have hE0 : Eqs g.L U b0 g.tr g.s := (hQ.eqs hb0).trans h0.symm
  refine ⟨hd.L_eq, fun w hw => by rw [hd.value hw, hE0 w hw]; rfl, ?_⟩
  rcases hd with ⟨h1, rfl⟩ | ⟨h1, K, hK, rfl⟩
  · exact .inl rfl
  · right
    have hnf : g.Nf := by
      rcases hg.1 with hg1 | hg1
      · obtain ⟨w, hw, hv⟩ := Tr.co_t.1 (hE0.co h1)
        rw [hg1] at hv
        rw [show (emptyQ g.L).tr.val (emptyQ g.L).s w = none from emptyQ_val g.L hw] at hv; cases hv
      · exact hg1
    have hcl : ∀ a x b, a ∈ bfsP (U.stC g.L) g.L b0 K → x < g.L → U.stC g.L a x = some b → b ∈ bfsP (U.stC g.L) g.L b0 K := fun a x b ha hx hb => hK.closed ha hx hb
    have hB : ∀ a ∈ bfsP (U.stC g.L) g.L b0 K, B a := bfsP_all (p := B) hb0 (fun a x b ha hx hs => by
      rcases hQ.to a x ha hx with ⟨e1, _⟩ | ⟨b', r, e1, _, hb', _⟩
      · rw [(Tr.stC_some hs).1] at e1; cases e1
      · rw [(Tr.stC_some hs).1] at e1; cases e1; exact hb') hK.pos K
    have hmem : ∀ i, i < (bfsP (U.stC g.L) g.L b0 K).length → (bfsP (U.stC g.L) g.L b0 K).getD i b0 ∈ bfsP (U.stC g.L) g.L b0 K := fun i hi => by rw [List.getD_eq_getElem?_getD, List.getElem?_eq_getElem hi]; exact List.getElem_mem hi
    have hv : ∀ i, i < (bfsP (U.stC g.L) g.L b0 K).length → Eqs g.L (trimT U g.L g.init (bfsP (U.stC g.L) g.L b0 K)).tr i g.tr (h ((bfsP (U.stC g.L) g.L b0 K).getD i b0)) := fun i hi w hw => by
      rw [trimT_val b0 hcl hw hi]
      exact hQ.eqs (hB _ (hmem i hi)) w hw
    refine ⟨⟨trimT_fit hcl, trimT_trimmed h1 hK, by rw [trimT_n]; exact bfsP_pos K, fun i hi => ?_⟩, fun i j hi hj hE => ?_, fun q hq he => ?_⟩
    · rw [trimT_n] at hi
      have h2 := hnf.nor _ (hQ.lt _ (hB _ (hmem i hi)))
      exact ⟨fun w v _ _ => List.nil_prefix, fun p' hp => h2.top p' fun w v hw hv' => hp w v hw (by rw [hv i hi w hw]; exact hv')⟩
    · rw [trimT_n] at hi hj
      have h2 := hQ.inj _ _ (hB _ (hmem i hi)) (hB _ (hmem j hj)) ((hv i hi).symm.trans (Eqs.trans hE (hv j hj)))
      have h3 := idxOf_getD (bfsP_nodup (st := U.stC g.L) (L := g.L) (s := b0) K) hi b0
      have h4 := idxOf_getD (bfsP_nodup (st := U.stC g.L) (L := g.L) (s := b0) K) hj b0
      rw [← h3, ← h4, h2]
    · rw [trimT_n] at hq
      rw [trimT_e b0 hq, hQ.en _ (hB _ (hmem q hq))] at he
      rw [trimT_f b0 hq, hQ.fi _ (hB _ (hmem q hq))]
      exact hg.2 _ (hQ.lt _ (hB _ (hmem q hq))) he
end
section
variable {g : Sq} {c : List Nat} (hc : ClsQ g c)
include hc
theorem repsQ_len : (reps c g.n).length = topL c := by
  have hq : g.n ≤ c.length := Nat.le_of_eq hc.len.symm
  rw [reps_len hc.fo hq, ← hc.len, List.take_length]
theorem repsQ_get {i : Nat} (hi : i < topL c) : (reps c g.n).getD i 0 < g.n ∧ c.getD ((reps c g.n).getD i 0) 0 = i := by
  have hq : g.n ≤ c.length := Nat.le_of_eq hc.len.symm
  exact reps_get hc.fo hq (by rw [← hc.len, List.take_length]; exact hi)
/-- every state redirected to the first of its class -/
def redT (g : Sq) (c : List Nat) : Tr Nat := ⟨fun q x => (g.to q x).map fun r => (reps c g.n).getD (c.getD r 0) 0, g.o, g.e, g.f⟩
theorem redT_quo (hb : g.Bis) : Quo (redT g c) (fun q => q < g.n ∧ (reps c g.n).getD (c.getD q 0) 0 = q) (fun q => q) g := by
  have hin : ∀ r, r < g.n → (reps c g.n).getD (c.getD r 0) 0 < g.n ∧ c.getD ((reps c g.n).getD (c.getD r 0) 0) 0 = c.getD r 0 := fun r hr => repsQ_get hc (topL_all c (by rw [hc.len]; exact hr))
  refine ⟨fun q hq => hq.1, fun _ _ => rfl, fun _ _ => rfl, fun q x hq hx => ?_, fun _ _ _ _ => rfl, fun p q hp hq hE => ?_⟩
  · show (((g.to q x).map _ = none) ∧ _) ∨ _
    cases e : g.to q x with
    | none => exact .inl ⟨rfl, rfl⟩
    | some r =>
      have hr := hb.fit.lt q x r hq.1 hx e
      refine .inr ⟨(reps c g.n).getD (c.getD r 0) 0, r, by show (g.to q x).map _ = _; rw [e]; rfl, rfl, ⟨(hin r hr).1, by rw [(hin r hr).2]⟩, (hc.iff r _ hr (hin r hr).1).1 (hin r hr).2.symm⟩
  · have := (hc.iff p q hp.1 hq.1).2 hE
    rw [← hp.2, ← hq.2, this]
theorem redT_min (hb : g.Bis) (hg : g = emptyQ g.L ∨ g.Nf) (hs : g.s < g.n) {d : Sq} (hd : IsTrim (redT g c) g.L ((reps c g.n).getD (c.getD g.s 0) 0) g.init d) : IsMinQ g.L g.value d := by
  have h1 := repsQ_get hc (topL_all c (p := g.s) (by rw [hc.len]; exact hs))
  exact (redT_quo hc hb).min ⟨hg, hb.nf⟩ ⟨h1.1, by rw [h1.2]⟩ ((hc.iff _ _ hs h1.1).1 h1.2.symm) hd
end
/-- Minimal -/
def IsMini (f d : Sq) : Prop := IsMinQ f.L f.value d
end Go.Sq

namespace Go.Sq
open Go Go.Eng Go.Am
open Go.Tl (Wd bo)
/-! what finishes and trim do, plain -/
theorem rep_put {α : Type} {a b : α} {L x : Nat} (h : x < L) : (List.replicate x a ++ List.replicate (L - x) b).set x a = List.replicate (x + 1) a ++ List.replicate (L - (x + 1)) b := by
  rw [List.set_append_right _ _ (by rw [List.length_replicate]; exact Nat.le_refl _), List.length_replicate, Nat.sub_self, show L - x = (L - (x + 1)) + 1 by omega, List.replicate_succ, List.set_cons_zero, show List.replicate (x + 1) a = List.replicate x a ++ [a] from List.replicate_succ', List.append_assoc]
  rfl
/-- pairs of a state and a letter, in order, before (Q, X) -/
def prs (L Q X : Nat) : List (Nat × Nat) := ((List.range Q).flatMap fun q => (List.range L).map fun x => (q, x)) ++ (List.range X).map fun x => (Q, x)
theorem prs_s (L Q X : Nat) : prs L Q (X + 1) = prs L Q X ++ [(Q, X)] := by simp [prs, List.range_succ]
theorem prs_row (L Q : Nat) : prs L Q L = prs L (Q + 1) 0 := by simp [prs, List.range_succ]
theorem prs_zero (L : Nat) : prs L 0 0 = [] := by simp [prs]
theorem prs_mem {L Q : Nat} {p : Nat × Nat} : p ∈ prs L Q 0 ↔ p.1 < Q ∧ p.2 < L := by
  obtain ⟨q, x⟩ := p
  simp [prs]
/-- what leads to r -/
def bef (d : Sq) (Q X r : Nat) : List (Nat × Nat) := (prs d.L Q X).filter fun p => decide (d.to p.1 p.2 = some r)
theorem bef_s (d : Sq) (Q X r : Nat) : bef d Q (X + 1) r = bef d Q X r ++ if d.to Q X = some r then [(Q, X)] else [] := by
  unfold bef
  rw [prs_s, List.filter_append]
  congr 1
  by_cases h : d.to Q X = some r <;> simp [h]
theorem bef_row (d : Sq) (Q r : Nat) : bef d Q d.L r = bef d (Q + 1) 0 r := by unfold bef; rw [prs_row]
theorem bef_zero (d : Sq) (r : Nat) : bef d 0 0 r = [] := by unfold bef; rw [prs_zero]; rfl
theorem bef_mem {d : Sq} {r : Nat} {p : Nat × Nat} : p ∈ bef d d.n 0 r ↔ (p.1 < d.n ∧ p.2 < d.L) ∧ d.to p.1 p.2 = some r := by
  unfold bef
  rw [List.mem_filter, prs_mem, decide_eq_true_eq]
theorem prs_len (L Q X : Nat) : (prs L Q X).length = Q * L + X := by
  induction X with
  | zero =>
    induction Q with
    | zero => simp [prs]
    | succ Q ih =>
      rw [← prs_row]
      have : ∀ X, (prs L Q X).length = Q * L + X := fun X => by
        induction X with
        | zero => exact ih
        | succ X ih2 => rw [prs_s, List.length_append, ih2]; rfl
      rw [this, Nat.add_mul]; omega
  | succ X ih => rw [prs_s, List.length_append, ih]; rfl
theorem bef_len (d : Sq) (Q X r : Nat) : (bef d Q X r).length ≤ Q * d.L + X := by
  unfold bef
  exact Nat.le_trans (List.length_filter_le _ _) (Nat.le_of_eq (prs_len _ _ _))
structure Bf (d : Sq) (Q X : Nat) (rs : List (Rx (Nat × Nat))) : Prop where
  len : rs.length = d.n
  at_ : ∀ r, r < d.n → (rs.getD r rx0).xs = bef d Q X r
theorem Bf.start (d : Sq) : Bf d 0 0 (List.replicate d.n rx0) := ⟨by simp, fun r hr => by
  rw [bef_zero, List.getD_eq_getElem?_getD, List.getElem?_replicate, if_pos hr]; rfl⟩
theorem Bf.row {d : Sq} {Q : Nat} {rs : List (Rx (Nat × Nat))} (h : Bf d Q d.L rs) : Bf d (Q + 1) 0 rs := ⟨h.len, fun r hr => by rw [h.at_ r hr, bef_row]⟩
theorem Bf.keep {d : Sq} {Q X : Nat} {rs : List (Rx (Nat × Nat))} (h : Bf d Q X rs) (hn : d.to Q X = none) : Bf d Q (X + 1) rs := ⟨h.len, fun r hr => by rw [h.at_ r hr, bef_s, hn]; simp⟩
theorem Bf.put {d : Sq} {Q X r0 : Nat} {rs : List (Rx (Nat × Nat))} (h : Bf d Q X rs) (hn : d.to Q X = some r0) (hr0 : r0 < d.n) {x : Rx (Nat × Nat)} (hx : x.xs = (rs.getD r0 rx0).xs ++ [(Q, X)]) : Bf d Q (X + 1) (rs.set r0 x) := ⟨by rw [List.length_set, h.len], fun r hr => by
  rw [gsetX, bef_s, hn, h.len]
  by_cases e : r0 = r
  · subst e
    rw [if_pos ⟨rfl, hr0⟩, hx, h.at_ _ hr0, if_pos rfl]
  · rw [if_neg (fun h => e h.1), h.at_ r hr, if_neg (fun h => e (Option.some.inj h)), List.append_nil]⟩
/-- which of n states are in a list -/
def eL (n : Nat) (Q : List Nat) : List Bool := (List.range n).map fun q => decide (q ∈ Q)
theorem eL_len (n : Nat) (Q : List Nat) : (eL n Q).length = n := by simp [eL]
theorem eL_get {n q : Nat} {Q : List Nat} (h : q < n) : (eL n Q).getD q false = decide (q ∈ Q) := getD_rng _ _ _ h
theorem eL_put {n q : Nat} {Q : List Nat} : ((eL n Q).map bo).set q (.bool true) = (eL n (Q ++ [q])).map bo := by
  rw [show (Value.bool true) = bo true from rfl, ← List.map_set]
  congr 1
  refine list_ext_getD false (by rw [List.length_set, eL_len, eL_len]) fun i hi => ?_
  rw [List.length_set, eL_len] at hi
  rw [eL_get hi, List.getD_eq_getElem?_getD, List.getElem?_set]
  by_cases e : q = i
  · subst e; simp [eL_len, hi]
  · rw [if_neg e, ← List.getD_eq_getElem?_getD, eL_get hi]
    simp only [List.mem_append, List.mem_singleton]
    rw [decide_eq_decide]
    exact ⟨fun h => .inl h, fun h => h.resolve_right fun h => e h.symm⟩
structure FinI (d : Sq) (Q F : List Nat) (i : Nat) : Prop where
  nd : Q.Nodup
  lt : ∀ q ∈ Q, q < d.n
  co : ∀ q ∈ Q, d.tr.co d.L q = true
  en : ∀ q, q < d.n → d.e q = true → q ∈ Q
  fl : F.length = d.n
  fst : ∀ q ∈ Q, d.e q = false → ∃ r, F.getD q 0 < d.L ∧ d.to q (F.getD q 0) = some r ∧ r ∈ Q ∧ Q.idxOf r < Q.idxOf q
  done : ∀ j, j < i → ∀ q a, q < d.n → a < d.L → d.to q a = some (Q.getD j 0) → q ∈ Q
  il : i ≤ Q.length
theorem FinI.le {d : Sq} {Q F : List Nat} {i : Nat} (h : FinI d Q F i) : Q.length ≤ d.n := nodup_lt_len h.nd h.lt
/-- the queue at first -/
theorem FinI.start {d : Sq} {F : List Nat} (hF : F.length = d.n) : FinI d ((List.range d.n).filter d.e) F 0 := by
  refine ⟨List.Pairwise.filter _ List.nodup_range, fun q hq => List.mem_range.1 (List.mem_filter.1 hq).1, fun q hq => Tr.co_en (T := d.tr) (List.mem_filter.1 hq).2, fun q hq he => List.mem_filter.2 ⟨List.mem_range.2 hq, he⟩, hF, fun q hq he => ?_, fun j hj => by omega, Nat.zero_le _⟩
  rw [(List.mem_filter.1 hq).2] at he; cases he
/-- a state more -/
theorem FinI.put {d : Sq} {Q F : List Nat} {i q a : Nat} (h : FinI d Q F i) (hi : i < Q.length) (hq : q ∉ Q) (hp : (q, a) ∈ bef d d.n 0 (Q.getD i 0)) : FinI d (Q ++ [q]) (F.set q a) i := by
  obtain ⟨⟨hqn, ha⟩, ht⟩ := bef_mem.1 hp
  dsimp only at hqn ha ht
  have hr : Q.getD i 0 ∈ Q := getDm hi
  have hfq : ∀ p, p ∈ Q → (F.set q a).getD p 0 = F.getD p 0 := fun p hp => by
    rw [List.getD_eq_getElem?_getD, List.getElem?_set, if_neg (fun e : q = p => hq (by rw [e]; exact hp)), ← List.getD_eq_getElem?_getD]
  refine ⟨?_, fun p hp => ?_, fun p hp => ?_, fun p hp he => List.mem_append_left _ (h.en p hp he), by rw [List.length_set, h.fl], fun p hp he => ?_, fun j hj p b hp hb hto => List.mem_append_left _ (h.done j hj p b hp hb ?_), by rw [List.length_append]; have := h.il; omega⟩
  · rw [List.nodup_append]
    exact ⟨h.nd, by simp, fun x hx y hy => by rw [List.mem_singleton] at hy; subst hy; intro e; subst e; exact hq hx⟩
  · rcases List.mem_append.1 hp with h1 | h1
    · exact h.lt p h1
    · rw [List.mem_singleton] at h1; subst h1; exact hqn
  · rcases List.mem_append.1 hp with h1 | h1
    · exact h.co p h1
    · rw [List.mem_singleton] at h1; subst h1; exact Tr.co_to (T := d.tr) ha ht (h.co _ hr)
  · rcases List.mem_append.1 hp with h1 | h1
    · obtain ⟨r, e1, e2, e3, e4⟩ := h.fst p h1 he
      rw [hfq p h1]
      exact ⟨r, e1, e2, List.mem_append_left _ e3, by rw [idxOf_in e3, idxOf_in h1]; exact e4⟩
    · rw [List.mem_singleton] at h1; subst h1
      have hfp : (F.set p a).getD p 0 = a := by rw [List.getD_eq_getElem?_getD, List.getElem?_set, if_pos rfl, if_pos (by rw [h.fl]; exact hqn)]; rfl
      rw [hfp]
      refine ⟨_, ha, ht, List.mem_append_left _ hr, ?_⟩
      rw [idxOf_in hr, idxOf_out hq]
      have := List.idxOf_lt_length_of_mem hr
      omega
  · rw [List.getD_eq_getElem?_getD, List.getElem?_append_left (by have := h.il; omega), ← List.getD_eq_getElem?_getD] at hto
    exact hto
/-- a state done -/
theorem FinI.next {d : Sq} {Q F : List Nat} {i : Nat} (h : FinI d Q F i) (hi : i < Q.length) (hc : ∀ p ∈ bef d d.n 0 (Q.getD i 0), p.1 ∈ Q) : FinI d Q F (i + 1) :=
  ⟨h.nd, h.lt, h.co, h.en, h.fl, h.fst, fun j hj q a hq ha ht => by
    rcases Nat.lt_or_ge j i with h1 | h1
    · exact h.done j h1 q a hq ha ht
    · obtain rfl : j = i := by omega
      exact hc (q, a) (bef_mem.2 ⟨⟨hq, ha⟩, ht⟩), hi⟩
theorem FinI.all {d : Sq} {Q F : List Nat} {i : Nat} (hf : d.Fit) (h : FinI d Q F i) (hi : Q.length ≤ i) {q : Nat} (hq : q < d.n) : q ∈ Q ↔ d.tr.co d.L q = true := by
  refine ⟨h.co q, fun hc => ?_⟩
  obtain ⟨w, hw, hv⟩ := Tr.co_t.1 hc
  induction w generalizing q with
  | nil =>
    refine h.en q hq ?_
    rw [Tr.val] at hv
    by_cases he : d.tr.en q = true
    · exact he
    · rw [if_neg he] at hv; cases hv
  | cons x w ih =>
    cases e : d.to q x with
    | none => rw [d.tr.val_none e] at hv; cases hv
    | some r =>
      rw [d.tr.val_some e] at hv
      have hv' : (d.tr.val r w).isSome = true := by
        cases e2 : d.tr.val r w with
        | none => rw [e2] at hv; cases hv
        | some v => rfl
      have hr := hf.lt q x r hq hw.head e
      have hm := ih hr (Tr.co_t.2 ⟨w, hw.tail, hv'⟩) hw.tail hv'
      obtain ⟨j, hj, rfl⟩ := List.mem_iff_getElem.1 hm
      exact h.done j (by omega) q x hq hw.head (by rw [e, List.getD_eq_getElem?_getD, List.getElem?_eq_getElem hj]; rfl)
/-- which states values come from -/
noncomputable def coL (d : Sq) : List Bool := (List.range d.n).map (d.tr.co d.L)
theorem coL_len (d : Sq) : (coL d).length = d.n := by simp [coL]
theorem coL_get {d : Sq} {q : Nat} (h : q < d.n) : (coL d).getD q false = d.tr.co d.L q := getD_rng _ _ _ h
theorem FinI.eL {d : Sq} {Q F : List Nat} {i : Nat} (hf : d.Fit) (h : FinI d Q F i) (hi : Q.length ≤ i) : Sq.eL d.n Q = coL d := by
  refine List.map_congr_left fun q hq => ?_
  have := h.all hf hi (List.mem_range.1 hq)
  cases hc : d.tr.co d.L q with
  | true => rw [decide_eq_true (this.2 hc)]
  | false => rw [decide_eq_false (fun hm => by rw [this.1 hm] at hc; cases hc)]
/-- the letters that lead on -/
structure FirstsI (d : Sq) (F : List Nat) (δ : Nat → Nat) : Prop where
  len : F.length = d.n
  on : ∀ q, q < d.n → d.tr.co d.L q = true → d.e q = false → ∃ r, F.getD q 0 < d.L ∧ d.to q (F.getD q 0) = some r ∧ d.tr.co d.L r = true ∧ δ r < δ q
  lt : ∀ q, q < d.n → δ q ≤ d.n
theorem FinI.firsts {d : Sq} {Q F : List Nat} {i : Nat} (hf : d.Fit) (h : FinI d Q F i) (hi : Q.length ≤ i) : FirstsI d F (fun q => Q.idxOf q) :=
  ⟨h.fl, fun q hq hc he => by
    obtain ⟨r, e1, e2, e3, e4⟩ := h.fst q ((h.all hf hi hq).2 hc) he
    exact ⟨r, e1, e2, h.co r e3, e4⟩, fun q _ => Nat.le_trans List.idxOf_le_length h.le⟩
/-! trim -/
/-- the numbers of the states met -/
def nmL (n : Nat) (l : List Nat) : List (Option Nat) := (List.range n).map fun q => if q ∈ l then some (l.idxOf q) else none
theorem nmL_len (n : Nat) (l : List Nat) : (nmL n l).length = n := by simp [nmL]
theorem nmL_get {n q : Nat} {l : List Nat} (h : q < n) : (nmL n l).getD q none = if q ∈ l then some (l.idxOf q) else none := getD_rng _ _ _ h
theorem nmL_put {n q : Nat} {l : List Nat} (hn : q ∉ l) : ((nmL n l).map zo).set q (zo (some l.length)) = (nmL n (l ++ [q])).map zo := by
  rw [← List.map_set]
  congr 1
  refine list_ext_getD none (by rw [List.length_set, nmL_len, nmL_len]) fun i hi => ?_
  rw [List.length_set, nmL_len] at hi
  rw [nmL_get hi, List.getD_eq_getElem?_getD, List.getElem?_set]
  by_cases e : q = i
  · subst e
    rw [if_pos rfl, if_pos (by rw [nmL_len]; exact hi), if_pos (by simp), idxOf_out hn]
    simp
  · rw [if_neg e, ← List.getD_eq_getElem?_getD, nmL_get hi]
    by_cases h : i ∈ l
    · rw [if_pos h, if_pos (List.mem_append_left _ h), idxOf_in h]
    · rw [if_neg h, if_neg (by rw [List.mem_append, List.mem_singleton]; rintro (h1 | h1); exact h h1; exact e h1.symm)]
theorem nmL_one {n q : Nat} (h : q < n) : ((List.replicate n (none : Option Nat)).map zo).set q (zo (some 0)) = (nmL n [q]).map zo := by
  rw [← List.map_set]
  congr 1
  refine list_ext_getD none (by rw [List.length_set, nmL_len, List.length_replicate]) fun i hi => ?_
  rw [List.length_set, List.length_replicate] at hi
  rw [nmL_get hi, List.getD_eq_getElem?_getD, List.getElem?_set]
  by_cases e : q = i
  · subst e; simp [h]
  · rw [if_neg e, if_neg (by rw [List.mem_singleton]; exact fun h => e h.symm), List.getElem?_replicate, if_pos hi]; rfl
/-- a row of the trimmed function, its first x entries -/
noncomputable def trN (d : Sq) (l : List Nat) (q x : Nat) : List (Option Nat) := (List.range d.L).map fun y => if y < x then (d.tr.stC d.L q y).map fun b => l.idxOf b else none
noncomputable def trO (d : Sq) (q x : Nat) : List Wd := (List.range d.L).map fun y => if y < x then (if (d.tr.stC d.L q y).isSome then d.o q y else []) else []
theorem trN_len (d : Sq) (l : List Nat) (q x : Nat) : (trN d l q x).length = d.L := by simp [trN]
theorem trO_len (d : Sq) (q x : Nat) : (trO d q x).length = d.L := by simp [trO]
theorem trN_zero (d : Sq) (l : List Nat) (q : Nat) : trN d l q 0 = List.replicate d.L none := by
  refine list_ext_getD none (by simp [trN]) fun i hi => ?_
  rw [trN_len] at hi
  rw [trN, getD_rng _ _ _ hi, if_neg (by omega), List.getD_eq_getElem?_getD, List.getElem?_replicate, if_pos hi]; rfl
theorem trO_zero (d : Sq) (q : Nat) : trO d q 0 = List.replicate d.L [] := by
  refine list_ext_getD [] (by simp [trO]) fun i hi => ?_
  rw [trO_len] at hi
  rw [trO, getD_rng _ _ _ hi, if_neg (by omega), List.getD_eq_getElem?_getD, List.getElem?_replicate, if_pos hi]; rfl
theorem rng_put {γ : Type} (f g : Nat → γ) {n x : Nat} {v : γ} (hv : g x = v) (h : ∀ y, y < n → y ≠ x → f y = g y) : ((List.range n).map f).set x v = (List.range n).map g := by
  refine List.ext_getElem (by simp) fun i h1 h2 => ?_
  have hi : i < n := by simpa using h2
  rw [List.getElem_set]
  split
  · rename_i e; subst e; simp [hv]
  · rename_i e; simp [h i hi (fun e' => e e'.symm)]
theorem rng_keep {γ : Type} (f g : Nat → γ) {n : Nat} (h : ∀ y, y < n → f y = g y) : (List.range n).map f = (List.range n).map g := List.map_congr_left fun y hy => h y (List.mem_range.1 hy)
theorem trN_put {d : Sq} {l : List Nat} {q x b : Nat} (hb : d.tr.stC d.L q x = some b) : ((trN d l q x).map zo).set x (zo (some (l.idxOf b))) = (trN d l q (x + 1)).map zo := by
  rw [← List.map_set, trN, rng_put _ (fun y => if y < x + 1 then (d.tr.stC d.L q y).map fun b => l.idxOf b else none) (by rw [if_pos (by omega), hb]; rfl) fun y hy hne => ?_]
  · rfl
  · by_cases h : y < x
    · simp [h, show y < x + 1 by omega]
    · simp [h, show ¬ y < x + 1 by omega]
theorem trO_put {d : Sq} {q x b : Nat} (hb : d.tr.stC d.L q x = some b) : ((trO d q x).map sv).set x (sv (d.o q x)) = (trO d q (x + 1)).map sv := by
  rw [← List.map_set, trO, rng_put _ (fun y => if y < x + 1 then (if (d.tr.stC d.L q y).isSome then d.o q y else []) else []) (by rw [if_pos (by omega), hb]; rfl) fun y hy hne => ?_]
  · rfl
  · by_cases h : y < x
    · simp [h, show y < x + 1 by omega]
    · simp [h, show ¬ y < x + 1 by omega]
theorem trN_keep {d : Sq} {l : List Nat} {q x : Nat} (hb : d.tr.stC d.L q x = none) : trN d l q x = trN d l q (x + 1) := rng_keep _ _ fun y _ => by
  by_cases h : y < x
  · simp [h, show y < x + 1 by omega]
  · by_cases h2 : y = x
    · subst h2; simp [hb]
    · simp [h, show ¬ y < x + 1 by omega]
theorem trO_keep {d : Sq} {q x : Nat} (hb : d.tr.stC d.L q x = none) : trO d q x = trO d q (x + 1) := rng_keep _ _ fun y _ => by
  by_cases h : y < x
  · simp [h, show y < x + 1 by omega]
  · by_cases h2 : y = x
    · subst h2; simp [hb]
    · simp [h, show ¬ y < x + 1 by omega]
theorem trN_full (d : Sq) (l : List Nat) (q : Nat) : trN d l q d.L = (List.range d.L).map fun x => (d.tr.stC d.L q x).map fun b => l.idxOf b := rng_keep _ _ fun _ hy => if_pos hy
theorem trO_full (d : Sq) (q : Nat) : trO d q d.L = (List.range d.L).map fun x => if (d.tr.stC d.L q x).isSome then d.o q x else [] := rng_keep _ _ fun _ hy => if_pos hy
end Go.Sq
namespace Go.Sq
open Go Go.Eng Go.Am
open Go.Tl (Wd bo)
theorem filt_t {e : Nat → Bool} {q : Nat} (h : e q = true) : (List.range (q + 1)).filter e = (List.range q).filter e ++ [q] := by rw [List.range_succ, List.filter_append]; simp [h]
theorem filt_f {e : Nat → Bool} {q : Nat} (h : e q = false) : (List.range (q + 1)).filter e = (List.range q).filter e := by rw [List.range_succ, List.filter_append]; simp [h]
theorem eL_nil (n : Nat) : (eL n []).map bo = List.replicate n (.bool false) := by
  rw [show (Value.bool false) = bo false from rfl, ← List.map_replicate]
  congr 1
  refine list_ext_getD false (by rw [eL_len, List.length_replicate]) fun i hi => ?_
  rw [eL_len] at hi
  rw [eL_get hi, List.getD_eq_getElem?_getD, List.getElem?_replicate, if_pos hi]
  simp
end Go.Sq
namespace Go.Sq
theorem getD_app {α : Type} {l m : List α} {i : Nat} {z : α} (h : i < l.length) : (l ++ m).getD i z = l.getD i z := by
  rw [List.getD_eq_getElem?_getD, List.getElem?_append_left h, ← List.getD_eq_getElem?_getD]
end Go.Sq
namespace Go.Sq
open Go Go.Eng Go.Am
open Go.Tl (Wd bo)
theorem nmL_none {n q : Nat} {l : List Nat} (h : q < n) (hn : oi ((nmL n l).getD q none) = -1) : q ∉ l := fun hm => by
  rw [nmL_get h, if_pos hm] at hn
  have hn : ((l.idxOf q : Nat) : Int) = -1 := hn
  omega
theorem nmL_some {n q : Nat} {l : List Nat} (h : q < n) (hn : ¬ oi ((nmL n l).getD q none) = -1) : q ∈ l := by
  rw [nmL_get h] at hn
  by_cases hm : q ∈ l
  · exact hm
  · rw [if_neg hm] at hn; exact absurd rfl hn
theorem addO_in {α : Type} [DecidableEq α] {l : List α} {a : α} (h : a ∈ l) : addO l (some a) = l := if_pos h
theorem addO_out {α : Type} [DecidableEq α] {l : List α} {a : α} (h : a ∉ l) : addO l (some a) = l ++ [a] := if_neg h
theorem bfsC_lt {d : Sq} (hf : d.Fit) {s : Nat} (hs : s < d.n) (hL : 0 < d.L) (k : Nat) : ∀ q ∈ bfsP (d.tr.stC d.L) d.L s k, q < d.n :=
  bfsP_all (p := fun q => q < d.n) hs (fun a x b ha hx hb => hf.lt a x b ha hx (Tr.stC_some hb).1) hL k
theorem bfsC_len {d : Sq} (hf : d.Fit) {s : Nat} (hs : s < d.n) (hL : 0 < d.L) (k : Nat) : (bfsP (d.tr.stC d.L) d.L s k).length ≤ d.n :=
  nodup_lt_len (bfsP_nodup k) (bfsC_lt hf hs hL k)
/-- the rows of the trimmed function, the first j -/
structure TrI (d : Sq) (l : List Nat) (j : Nat) (rs : List (Rx (Option Nat))) (os : List (Rx Wd)) (es : List Bool) (fs : List Wd) : Prop where
  jl : j ≤ l.length
  rl : rs.length = j
  ol : os.length = j
  el : es.length = j
  fl : fs.length = j
  rx : rs.map (·.xs) = (l.take j).map fun a => trN d l a d.L
  ox : os.map (·.xs) = (l.take j).map fun a => trO d a d.L
  ex : es = (l.take j).map d.e
  fx : fs = (l.take j).map d.f
theorem TrI.start (d : Sq) (l : List Nat) : TrI d l 0 [] [] [] [] := ⟨Nat.zero_le _, rfl, rfl, rfl, rfl, rfl, rfl, rfl, rfl⟩
theorem TrI.next {d : Sq} {l : List Nat} {j : Nat} {rs : List (Rx (Option Nat))} {os : List (Rx Wd)} {es : List Bool} {fs : List Wd} (h : TrI d l j rs os es fs) (hj : j < l.length) {r : Rx (Option Nat)} {o : Rx Wd} (hr : r.xs = trN d l (l.getD j 0) d.L) (ho : o.xs = trO d (l.getD j 0) d.L) :
    TrI d l (j + 1) (rs ++ [r]) (os ++ [o]) (es ++ [d.e (l.getD j 0)]) (fs ++ [d.f (l.getD j 0)]) := by
  have ht := take_snoc l 0 hj
  refine ⟨hj, by simp [h.rl], by simp [h.ol], by simp [h.el], by simp [h.fl], ?_, ?_, ?_, ?_⟩
  · rw [ht, List.map_append, List.map_append, h.rx, List.map_singleton, List.map_singleton, hr]
  · rw [ht, List.map_append, List.map_append, h.ox, List.map_singleton, List.map_singleton, ho]
  · rw [ht, List.map_append, ← h.ex, List.map_singleton]
  · rw [ht, List.map_append, ← h.fx, List.map_singleton]
theorem TrI.done {d : Sq} {l : List Nat} {j : Nat} {rs : List (Rx (Option Nat))} {os : List (Rx Wd)} {es : List Bool} {fs : List Wd} (h : TrI d l j rs os es fs) (hj : l.length ≤ j) : (⟨d.L, 0, d.init, es, fs, rs.map (·.xs), os.map (·.xs)⟩ : Sq) = trimT d.tr d.L d.init l := by
  rw [h.rx, h.ox, h.ex, h.fx, List.take_of_length_le hj]
  unfold trimT
  congr 1
  · exact List.map_congr_left fun a _ => trN_full d l a
  · exact List.map_congr_left fun a _ => trO_full d a
theorem Sv.trI_done {S : Sv} {l : List Nat} {j : Nat} {rs : List (Rx (Option Nat))} {os : List (Rx Wd)} {es : List Bool} {fs : List Wd} (h : TrI S.sq l j rs os es fs) (hj : l.length ≤ j) (na oa ea fa : Option Addr) (nc oc ec fc : Nat) : (⟨S.L, 0, S.init, na, nc, rs, oa, oc, os, ea, ec, es, fa, fc, fs⟩ : Sv).sq = trimT S.sq.tr S.L S.init l := h.done hj
end Go.Sq

namespace Go.Sq
open Go Go.Eng Go.Am
open Go.Tl (Wd bo okW okB)
/-! a walk along a word -/
section
variable {α : Type} (T : Tr α)
def Tr.run : α → List Nat → Option (α × Wd)
  | q, [] => some (q, [])
  | q, x :: w => match T.to q x with
    | none => none
    | some r => (Tr.run r w).map fun p => (p.1, T.ou q x ++ p.2)
variable {T}
theorem Tr.run_none {q : α} {x : Nat} {w : List Nat} (h : T.to q x = none) : T.run q (x :: w) = none := by rw [Tr.run, h]
theorem Tr.run_some {q r : α} {x : Nat} {w : List Nat} (h : T.to q x = some r) : T.run q (x :: w) = (T.run r w).map fun p => (p.1, T.ou q x ++ p.2) := by rw [Tr.run, h]
theorem Tr.run_app (q : α) (v w : List Nat) : T.run q (v ++ w) = (T.run q v).bind fun p => (T.run p.1 w).map fun r => (r.1, p.2 ++ r.2) := by
  induction v generalizing q with
  | nil =>
    show T.run q w = (T.run q w).map fun r => (r.1, [] ++ r.2)
    cases T.run q w <;> rfl
  | cons x v ih =>
    show T.run q (x :: (v ++ w)) = _
    cases e : T.to q x with
    | none => rw [T.run_none e, T.run_none e]; rfl
    | some r =>
      rw [T.run_some e, T.run_some e, ih]
      cases T.run r v with
      | none => rfl
      | some p =>
        show Option.map _ ((T.run p.1 w).map _) = (T.run p.1 w).map _
        cases T.run p.1 w with
        | none => rfl
        | some p2 => show some (p2.1, T.ou q x ++ (p.2 ++ p2.2)) = some (p2.1, T.ou q x ++ p.2 ++ p2.2); rw [List.append_assoc]
theorem Tr.val_run (q : α) (w : List Nat) : T.val q w = (T.run q w).bind fun p => if T.en p.1 then some (p.2 ++ T.fi p.1) else none := by
  induction w generalizing q with
  | nil => rfl
  | cons x w ih =>
    cases e : T.to q x with
    | none => rw [T.val_none e, T.run_none e]; rfl
    | some r =>
      rw [T.val_some e, T.run_some e, ih]
      cases T.run r w with
      | none => rfl
      | some p =>
        show Option.map _ (if T.en p.1 then some (p.2 ++ T.fi p.1) else none) = if T.en p.1 then some (T.ou q x ++ p.2 ++ T.fi p.1) else none
        split
        · rw [List.append_assoc]; rfl
        · rfl
theorem Tr.val_app (q : α) (v w : List Nat) : T.val q (v ++ w) = (T.run q v).bind fun p => (T.val p.1 w).map (p.2 ++ ·) := by
  rw [Tr.val_run, Tr.run_app]
  cases T.run q v with
  | none => rfl
  | some p =>
    show ((T.run p.1 w).map _).bind _ = (T.val p.1 w).map _
    rw [Tr.val_run]
    cases T.run p.1 w with
    | none => rfl
    | some r =>
      show (if T.en r.1 then some (p.2 ++ r.2 ++ T.fi r.1) else none) = Option.map _ (if T.en r.1 then some (r.2 ++ T.fi r.1) else none)
      split
      · rw [List.append_assoc]; rfl
      · rfl
theorem Tr.run_snoc {q p : α} {w : List Nat} {x : Nat} {l : Wd} (h : T.run q w = some (p, l)) : T.run q (w ++ [x]) = (T.to p x).map fun r => (r, l ++ T.ou p x) := by
  rw [Tr.run_app, h]
  show (T.run p [x]).map _ = _
  cases e : T.to p x with
  | none => rw [T.run_none e]; rfl
  | some r => rw [T.run_some e]; simp [Tr.run]
end
theorem wl_take_s {ws : Wd} {k : Nat} (hk : k < ws.length) : (wl ws).take (k + 1) = (wl ws).take k ++ [(ws.getD k 0).toNat - 97] := by
  rw [take_snoc _ 0 (by rw [wl_len]; exact hk)]
  congr 2
  exact getD_map _ _ _ _ hk
theorem wl_split {ws : Wd} {k : Nat} (hk : k < ws.length) : wl ws = (wl ws).take k ++ ((ws.getD k 0).toNat - 97) :: (wl ws).drop (k + 1) := by
  have h1 : (wl ws).drop k = ((ws.getD k 0).toNat - 97) :: (wl ws).drop (k + 1) := by
    rw [List.drop_eq_getElem_cons (by rw [wl_len]; exact hk)]
    congr 1
    have := getD_map (fun b : UInt8 => b.toNat - 97) ws 0 0 hk
    rw [← this, List.getD_eq_getElem?_getD]
    show _ = ((wl ws)[k]?).getD 0
    rw [List.getElem?_eq_getElem (by rw [wl_len]; exact hk)]
    rfl
  rw [← h1, List.take_append_drop]
/-- what Apply returns for a value -/
def apv : Option Wd → Wd × Bool
  | none => ([], false)
  | some v => (v, true)
section
variable {d : Sq} {ws : Wd}
theorem value_dead {k q : Nat} {l : Wd} (hk : k < ws.length) (h : d.tr.run d.s ((wl ws).take k) = some (q, l)) (hn : d.to q ((ws.getD k 0).toNat - 97) = none) : d.value (wl ws) = none := by
  rw [Sq.value, wl_split hk, Tr.val_app, h]
  show Option.map _ ((d.tr.val q (_ :: _)).map _) = none
  rw [d.tr.val_none hn]; rfl
theorem value_end {q : Nat} {l : Wd} (h : d.tr.run d.s ((wl ws).take ws.length) = some (q, l)) : d.value (wl ws) = if d.e q then some (d.init ++ l ++ d.f q) else none := by
  rw [List.take_of_length_le (Nat.le_of_eq (wl_len ws))] at h
  rw [Sq.value, Tr.val_run, h]
  show Option.map _ (if d.e q then some (l ++ d.f q) else none) = _
  split
  · rw [List.append_assoc]; rfl
  · rfl
theorem run_step {k q r : Nat} {l : Wd} (hk : k < ws.length) (h : d.tr.run d.s ((wl ws).take k) = some (q, l)) (hn : d.to q ((ws.getD k 0).toNat - 97) = some r) : d.tr.run d.s ((wl ws).take (k + 1)) = some (r, l ++ d.o q ((ws.getD k 0).toNat - 97)) := by
  rw [wl_take_s hk, Tr.run_snoc h, show d.tr.to q _ = some r from hn]; rfl
end
end Go.Sq

namespace Go.Sq
open Go Go.Eng Go.Am
open Go.Tl (Wd bo okW okB)
/-! longest common prefixes, plain -/
theorem cm_le {s t : Wd} {k : Nat} : k ≤ (cm s t).length ↔ k ≤ s.length ∧ k ≤ t.length ∧ s.take k = t.take k := by
  constructor
  · intro h
    have h1 := cm_l s t
    have h2 := cm_r s t
    have pt : ∀ {p u : Wd}, p <+: u → k ≤ p.length → u.take k = p.take k := fun hp hl => by
      obtain ⟨r, rfl⟩ := hp
      exact List.take_append_of_le_length hl
    have e1 := pt h1 h
    have e2 := pt h2 h
    exact ⟨Nat.le_trans h h1.length_le, Nat.le_trans h h2.length_le, by rw [e1, e2]⟩
  · rintro ⟨h1, h2, h3⟩
    have := (cm_top (List.take_prefix k s) (h3 ▸ List.take_prefix k t)).length_le
    rwa [List.length_take, Nat.min_eq_left h1] at this
theorem cm_len {s t : Wd} {k : Nat} (h1 : k ≤ s.length) (h2 : k ≤ t.length) (h3 : s.take k = t.take k) (h4 : ¬ (k + 1 ≤ s.length ∧ k + 1 ≤ t.length ∧ s.take (k + 1) = t.take (k + 1))) : (cm s t).length = k := by
  have a := cm_le.2 ⟨h1, h2, h3⟩
  have b : ¬ k + 1 ≤ (cm s t).length := fun h => h4 (cm_le.1 h)
  omega
theorem mid_eq {s t : Wd} {l m : Nat} (hlm : l ≤ m) (h : s.take l = t.take l) : ((s.take m).drop l == (t.take m).drop l) = true ↔ s.take m = t.take m := by
  rw [beq_iff_eq]
  constructor
  · intro h2
    rw [← List.take_append_drop l (s.take m), ← List.take_append_drop l (t.take m), h2, List.take_take, List.take_take, Nat.min_eq_left hlm, h]
  · intro h2; rw [h2]
theorem cm_app_1 {s u v : Wd} (h : (cm s u).length < u.length ∨ (cm s u).length = s.length) : (cm s (u ++ v)).length = (cm s u).length := by
  have hs := (cm_l s u).length_le
  have hu := (cm_r s u).length_le
  have h3 := (cm_le.1 (Nat.le_refl (cm s u).length)).2.2
  refine cm_len hs (by rw [List.length_append]; omega) (by rw [List.take_append_of_le_length hu]; exact h3) fun ⟨h5, _, h7⟩ => ?_
  rcases h with h | h
  · rw [List.take_append_of_le_length (by omega)] at h7
    have := cm_le.2 ⟨h5, by omega, h7⟩
    omega
  · omega
theorem cm_app_2 {s u v : Wd} (h : ¬ (cm s u).length < u.length) : (cm s u).length + (cm (s.drop (cm s u).length) v).length = (cm s (u ++ v)).length := by
  have hu := (cm_r s u).length_le
  have e : (cm s u).length = u.length := by omega
  have hus : u <+: s := by
    have : cm s u = u := (cm_r s u).eq_of_length e
    rw [← this]; exact cm_l s u
  obtain ⟨r, rfl⟩ := hus
  rw [e, List.drop_left]
  have key : cm (u ++ r) (u ++ v) = u ++ cm r v := by
    clear h hu e
    induction u with
    | nil => rfl
    | cons a u ih => show cm (a :: (u ++ r)) (a :: (u ++ v)) = _; rw [cm, if_pos rfl, ih]; rfl
  rw [key, List.length_append]
theorem tail_1 {u v : Wd} {n : Nat} (h : n ≤ u.length) : u.drop n ++ v = (u ++ v).drop n := (List.drop_append_of_le_length h).symm
theorem tail_2 {u v : Wd} {n : Nat} (h : u.length ≤ n) : v.drop (n - u.length) = (u ++ v).drop n := by
  rw [show n = u.length + (n - u.length) by omega, List.drop_append]
  simp
end Go.Sq
namespace Go.Sq
theorem tdiv2 (n : Nat) : ((n : Int)).tdiv 2 = ((n / 2 : Nat) : Int) := by
  rw [Int.tdiv_eq_ediv_of_nonneg (by omega)]; rfl
end Go.Sq

namespace Go.Sq
open Go Go.Eng Go.Am
open Go.Tl (Wd bo okW okB)
/-! prefixes: the worklist, plain -/
abbrev Ist := List Wd × List Bool × Bool
def imp1 (d : Sq) (q x : Nat) (st : Ist) : Ist :=
  match d.to q x with
  | none => st
  | some r =>
    if st.2.1.getD r false = false then st
    else if st.2.1.getD q false = false then (st.1.set q (d.o q x ++ st.1.getD r []), st.2.1.set q true, true)
    else if (cm (st.1.getD q []) (d.o q x ++ st.1.getD r [])).length < (st.1.getD q []).length then (st.1.set q ((st.1.getD q []).take (cm (st.1.getD q []) (d.o q x ++ st.1.getD r [])).length), st.2.1, true)
    else st
def impL (d : Sq) (q : Nat) (st : Ist) : Nat → Ist
  | 0 => st
  | x + 1 => imp1 d q x (impL d q st x)
theorem gset' {α : Type} (l : List α) (i j : Nat) (x z : α) : (l.set i x).getD j z = if i = j ∧ i < l.length then x else l.getD j z := by
  simp only [List.getD_eq_getElem?_getD, List.getElem?_set]
  by_cases h : i = j
  · subst h
    by_cases h2 : i < l.length <;> simp [h2]
  · simp [h]
theorem cm_take (s t : Wd) : s.take (cm s t).length = cm s t := by
  obtain ⟨r, hr⟩ := cm_l s t
  conv => lhs; arg 2; rw [← hr]
  exact List.take_left
/-- what improve has done with the letters before x -/
structure ImpI (d : Sq) (q : Nat) (P : List Wd) (K : List Bool) (x : Nat) (st : Ist) : Prop where
  pl : st.1.length = P.length
  kl : st.2.1.length = K.length
  other : ∀ r, r ≠ q → st.1.getD r [] = P.getD r [] ∧ st.2.1.getD r false = K.getD r false
  keep : K.getD q false = true → st.2.1.getD q false = true ∧ st.1.getD q [] <+: P.getD q []
  un : st.2.2 = false → st.1 = P ∧ st.2.1 = K ∧ ∀ y r, y < x → d.to q y = some r → K.getD r false = true → K.getD q false = true ∧ P.getD q [] <+: d.o q y ++ P.getD r []
  ch : st.2.2 = true → st.2.1.getD q false = true ∧ ∀ y r, y < x → r ≠ q → d.to q y = some r → K.getD r false = true → st.1.getD q [] <+: d.o q y ++ P.getD r []
  up : (∀ r, r < d.n → K.getD r false = true → ∀ p', d.tr.Pre d.L r p' → p' <+: P.getD r []) → st.2.1.getD q false = true → ∀ p', d.tr.Pre d.L q p' → p' <+: st.1.getD q []
  lt : st.2.2 = true → K.getD q false = true → (st.1.getD q []).length < (P.getD q []).length
  nw : K.getD q false = false → st.2.1.getD q false = true → ∃ r y, r < d.n ∧ y < d.L ∧ K.getD r false = true ∧ (st.1.getD q []).length ≤ (d.o q y).length + (P.getD r []).length
theorem ImpI.start {d : Sq} {q : Nat} (hq : q < d.n) (P : List Wd) (K : List Bool) : ImpI d q P K 0 (P, K, false) :=
  ⟨rfl, rfl, fun _ _ => ⟨rfl, rfl⟩, fun h => ⟨h, List.prefix_rfl⟩, fun _ => ⟨rfl, rfl, fun y r hy => by omega⟩, fun h => Bool.noConfusion h, fun h1 h2 => h1 q hq h2, fun h => Bool.noConfusion h, fun h1 h2 => by
    rw [h1] at h2; cases h2⟩
section
variable {d : Sq} {q : Nat} {P : List Wd} {K : List Bool} {x : Nat} {st : Ist}
theorem ImpI.none (h : ImpI d q P K x st) (hn : d.to q x = none) : ImpI d q P K (x + 1) st :=
  ⟨h.pl, h.kl, h.other, h.keep, fun hc => ⟨(h.un hc).1, (h.un hc).2.1, fun y r hy ht hk => by
      rcases Nat.lt_or_ge y x with h1 | h1
      · exact (h.un hc).2.2 y r h1 ht hk
      · obtain rfl : y = x := by omega
        rw [hn] at ht; cases ht⟩,
    fun hc => ⟨(h.ch hc).1, fun y r hy hr ht hk => by
      rcases Nat.lt_or_ge y x with h1 | h1
      · exact (h.ch hc).2 y r h1 hr ht hk
      · obtain rfl : y = x := by omega
        rw [hn] at ht; cases ht⟩, h.up, h.lt, h.nw⟩
theorem ImpI.skip (h : ImpI d q P K x st) {r : Nat} (hn : d.to q x = some r) (hk : st.2.1.getD r false = false) : ImpI d q P K (x + 1) st :=
  ⟨h.pl, h.kl, h.other, h.keep, fun hc => ⟨(h.un hc).1, (h.un hc).2.1, fun y r' hy ht hk' => by
      rcases Nat.lt_or_ge y x with h1 | h1
      · exact (h.un hc).2.2 y r' h1 ht hk'
      · obtain rfl : y = x := by omega
        rw [hn] at ht; cases ht
        rw [(h.un hc).2.1, hk'] at hk; cases hk⟩,
    fun hc => ⟨(h.ch hc).1, fun y r' hy hr ht hk' => by
      rcases Nat.lt_or_ge y x with h1 | h1
      · exact (h.ch hc).2 y r' h1 hr ht hk'
      · obtain rfl : y = x := by omega
        rw [hn] at ht; cases ht
        rw [(h.other r hr).2, hk'] at hk; cases hk⟩, h.up, h.lt, h.nw⟩
/-- the first time that q is known -/
theorem ImpI.first (h : ImpI d q P K x st) (hq : q < d.n) (hx : x < d.L) (hPl : P.length = d.n) (hKl : K.length = d.n) {r : Nat} (hn : d.to q x = some r) (hr : r < d.n) (hco : d.tr.co d.L r = true) (hk : st.2.1.getD r false = true) (hkq : st.2.1.getD q false = false) :
    ImpI d q P K (x + 1) (st.1.set q (d.o q x ++ st.1.getD r []), st.2.1.set q true, true) := by
  have hrq : r ≠ q := fun e => by subst e; rw [hk] at hkq; cases hkq
  have hKq : K.getD q false = false := by
    cases e : K.getD q false with
    | false => rfl
    | true => rw [(h.keep e).1] at hkq; cases hkq
  have hc : st.2.2 = false := by
    cases e : st.2.2 with
    | false => rfl
    | true => rw [(h.ch e).1] at hkq; cases hkq
  obtain ⟨e1, e2, e3⟩ := h.un hc
  have hPr : st.1.getD r [] = P.getD r [] := (h.other r hrq).1
  have hKr : K.getD r false = true := by rw [← (h.other r hrq).2]; exact hk
  have hgq : (st.1.set q (d.o q x ++ st.1.getD r [])).getD q [] = d.o q x ++ P.getD r [] := by rw [gset', if_pos ⟨rfl, by rw [h.pl, hPl]; exact hq⟩, hPr]
  have hgk : (st.2.1.set q true).getD q false = true := by rw [gset', if_pos ⟨rfl, by rw [h.kl, hKl]; exact hq⟩]
  refine ⟨by rw [List.length_set]; exact h.pl, by rw [List.length_set]; exact h.kl, fun p hp => ?_, fun h1 => (by rw [hKq] at h1; cases h1), fun h1 => Bool.noConfusion h1, fun _ => ⟨hgk, fun y p hy hpq ht hkp => ?_⟩, fun h1 _ p' hp' => ?_, fun _ h1 => (by rw [hKq] at h1; cases h1), fun _ _ => ⟨r, x, hr, hx, hKr, by dsimp only; rw [hgq, List.length_append]; exact Nat.le_refl _⟩⟩
  · rw [gset', if_neg (fun h => hp h.1.symm), gset', if_neg (fun h => hp h.1.symm)]
    exact h.other p hp
  · rcases Nat.lt_or_ge y x with h1 | h1
    · rw [(e3 y p h1 ht hkp).1] at hKq; cases hKq
    · obtain rfl : y = x := by omega
      rw [hn] at ht; cases ht
      dsimp only
      rw [hgq]; exact List.prefix_rfl
  · dsimp only
    rw [hgq]
    exact Tr.up_to (T := d.tr) hx hn hco hp' (h1 r hr hKr)
/-- q is known: what it has in common with o P(r) -/
theorem ImpI.cut (h : ImpI d q P K x st) (hq : q < d.n) (hx : x < d.L) (hPl : P.length = d.n) {r : Nat} (hn : d.to q x = some r) (hr : r < d.n) (hco : d.tr.co d.L r = true) (hk : st.2.1.getD r false = true) (hkq : st.2.1.getD q false = true)
    (hl : (cm (st.1.getD q []) (d.o q x ++ st.1.getD r [])).length < (st.1.getD q []).length) :
    ImpI d q P K (x + 1) (st.1.set q ((st.1.getD q []).take (cm (st.1.getD q []) (d.o q x ++ st.1.getD r [])).length), st.2.1, true) := by
  rw [cm_take]
  have hgq : (st.1.set q (cm (st.1.getD q []) (d.o q x ++ st.1.getD r []))).getD q [] = cm (st.1.getD q []) (d.o q x ++ st.1.getD r []) := by rw [gset', if_pos ⟨rfl, by rw [h.pl, hPl]; exact hq⟩]
  refine ⟨by rw [List.length_set]; exact h.pl, h.kl, fun p hp => ?_, fun h1 => ⟨hkq, ?_⟩, fun h1 => Bool.noConfusion h1, fun _ => ⟨hkq, fun y p hy hpq ht hkp => ?_⟩, fun h1 _ p' hp' => ?_, fun _ h1 => ?_, fun h1 h2 => ?_⟩
  · rw [gset', if_neg (fun h => hp h.1.symm)]
    exact h.other p hp
  · dsimp only
    rw [hgq]
    exact (cm_l _ _).trans (h.keep h1).2
  · dsimp only
    rw [hgq]
    rcases Nat.lt_or_ge y x with h1 | h1
    · cases hc : st.2.2 with
      | true => exact (cm_l _ _).trans ((h.ch hc).2 y p h1 hpq ht hkp)
      | false =>
        rw [(h.un hc).1]
        exact (cm_l _ _).trans ((h.un hc).2.2 y p h1 ht hkp).2
    · obtain rfl : y = x := by omega
      rw [hn] at ht; cases ht
      rw [← (h.other _ hpq).1]
      exact cm_r _ _
  · dsimp only
    rw [hgq]
    refine cm_top (h.up h1 hkq p' hp') ?_
    by_cases e : r = q
    · subst e
      exact Tr.up_to (T := d.tr) hx hn hco hp' fun p'' hp'' => h.up h1 hkq p'' hp''
    · rw [(h.other r e).1]
      exact Tr.up_to (T := d.tr) hx hn hco hp' (h1 r hr (by rw [← (h.other r e).2]; exact hk))
  · dsimp only
    rw [hgq]
    have := (h.keep h1).2.length_le
    omega
  · dsimp only
    rw [hgq]
    obtain ⟨r', y, e1, e2, e3, e4⟩ := h.nw h1 hkq
    exact ⟨r', y, e1, e2, e3, by omega⟩
/-- q is known, and fits -/
theorem ImpI.fits (h : ImpI d q P K x st) {r : Nat} (hn : d.to q x = some r) (hkq : st.2.1.getD q false = true)
    (hl : ¬ (cm (st.1.getD q []) (d.o q x ++ st.1.getD r [])).length < (st.1.getD q []).length) : ImpI d q P K (x + 1) st := by
  have hfit : st.1.getD q [] <+: d.o q x ++ st.1.getD r [] := by
    have h1 := (cm_l (st.1.getD q []) (d.o q x ++ st.1.getD r [])).eq_of_length (Nat.le_antisymm (cm_l _ _).length_le (by omega))
    rw [← h1]
    have h2 := cm_r (st.1.getD q []) (d.o q x ++ st.1.getD r [])
    rw [h1] at h2 ⊢
    exact h2
  refine ⟨h.pl, h.kl, h.other, h.keep, fun hc => ⟨(h.un hc).1, (h.un hc).2.1, fun y r' hy ht hk' => ?_⟩, fun hc => ⟨(h.ch hc).1, fun y r' hy hr ht hk' => ?_⟩, h.up, h.lt, h.nw⟩
  · rcases Nat.lt_or_ge y x with h1 | h1
    · exact (h.un hc).2.2 y r' h1 ht hk'
    · obtain rfl : y = x := by omega
      rw [hn] at ht; cases ht
      rw [(h.un hc).1] at hfit
      rw [(h.un hc).2.1] at hkq
      exact ⟨hkq, hfit⟩
  · rcases Nat.lt_or_ge y x with h1 | h1
    · exact (h.ch hc).2 y r' h1 hr ht hk'
    · obtain rfl : y = x := by omega
      rw [hn] at ht; cases ht
      rw [← (h.other _ hr).1]; exact hfit
end
theorem impL_ok {d : Sq} {q : Nat} {P : List Wd} {K : List Bool} (hf : d.Fit) (hall : ∀ r, r < d.n → d.tr.co d.L r = true) (hq : q < d.n) (hPl : P.length = d.n) (hKl : K.length = d.n) : ∀ x, x ≤ d.L → ImpI d q P K x (impL d q (P, K, false) x) := by
  intro x
  induction x with
  | zero => intro _; exact ImpI.start hq P K
  | succ x ih =>
    intro hx
    have h := ih (by omega)
    show ImpI d q P K (x + 1) (imp1 d q x _)
    generalize impL d q (P, K, false) x = st at h ⊢
    unfold imp1
    cases hn : d.to q x with
    | none => exact h.none hn
    | some r =>
      have hr := hf.lt q x r hq (by omega) hn
      dsimp only
      split
      · rename_i hk; exact h.skip hn hk
      · rename_i hk
        have hk : st.2.1.getD r false = true := by simpa using hk
        split
        · rename_i hkq; exact h.first hq (by omega) hPl hKl hn hr (hall r hr) hk hkq
        · rename_i hkq
          have hkq : st.2.1.getD q false = true := by simpa using hkq
          split
          · rename_i hl; exact h.cut hq (by omega) hPl hn hr (hall r hr) hk hkq hl
          · rename_i hl; exact h.fits hn hkq hl
end Go.Sq

namespace Go.Sq
open Go Go.Eng Go.Am
open Go.Tl (Wd bo okW okB)
/-! the worklist's invariant -/
def sumR (n : Nat) (f : Nat → Nat) : Nat := ((List.range n).map f).sum
theorem sumR_s (n : Nat) (f : Nat → Nat) : sumR (n + 1) f = sumR n f + f n := by simp [sumR, List.range_succ]
theorem sumR_le {n : Nat} {f g : Nat → Nat} (h : ∀ r, r < n → f r ≤ g r) : sumR n f ≤ sumR n g := by
  induction n with
  | zero => exact Nat.le_refl _
  | succ n ih => rw [sumR_s, sumR_s]; have := h n (by omega); have := ih fun r hr => h r (by omega); omega
theorem sumR_lt {n q : Nat} {f g : Nat → Nat} (h : ∀ r, r < n → f r ≤ g r) (hq : q < n) (hl : f q < g q) : sumR n f < sumR n g := by
  induction n with
  | zero => omega
  | succ n ih =>
    rw [sumR_s, sumR_s]
    rcases Nat.lt_or_ge q n with h1 | h1
    · have := ih (fun r hr => h r (by omega)) h1
      have := h n (by omega)
      omega
    · obtain rfl : q = n := by omega
      have := sumR_le (n := q) fun r hr => h r (show r < q + 1 by omega)
      omega
theorem sumR_const (n c : Nat) {f : Nat → Nat} (h : ∀ r, r < n → f r ≤ c) : sumR n f ≤ n * c := by
  induction n with
  | zero => simp [sumR]
  | succ n ih => rw [sumR_s, Nat.add_mul]; have := ih fun r hr => h r (by omega); have := h n (by omega); omega
def kc (n : Nat) (K : List Bool) : Nat := sumR n fun q => if K.getD q false then 1 else 0
theorem kc_le (n : Nat) (K : List Bool) : kc n K ≤ n := by
  have := sumR_const n 1 (f := fun q => if K.getD q false then 1 else 0) fun r _ => by split <;> omega
  unfold kc; omega
def msP (d : Sq) (M : Nat) (P : List Wd) (K : List Bool) : Nat := sumR d.n fun q => if K.getD q false then (P.getD q []).length else M * d.n + 1
def befS (d : Sq) (r : Nat) : List Nat := (bef d d.n 0 r).map (·.1)
theorem befS_mem {d : Sq} {r q : Nat} : q ∈ befS d r ↔ q < d.n ∧ ∃ x, x < d.L ∧ d.to q x = some r := by
  unfold befS
  rw [List.mem_map]
  constructor
  · rintro ⟨p, hp, rfl⟩
    have := bef_mem.1 hp
    exact ⟨this.1.1, p.2, this.1.2, this.2⟩
  · rintro ⟨h1, x, h2, h3⟩
    exact ⟨(q, x), bef_mem.2 ⟨⟨h1, h2⟩, h3⟩, rfl⟩
structure PfI (d : Sq) (M : Nat) (P : List Wd) (K W : List Bool) (Qu : List Nat) (i r : Nat) (rem : List Nat) : Prop where
  pl : P.length = d.n
  kl : K.length = d.n
  wl : W.length = d.n
  ql : ∀ q ∈ Qu, q < d.n
  wq : ∀ q, q < d.n → W.getD q false = true → ∃ j, i ≤ j ∧ j < Qu.length ∧ Qu.getD j 0 = q
  up : ∀ q, q < d.n → K.getD q false = true → ∀ p', d.tr.Pre d.L q p' → p' <+: P.getD q []
  en : ∀ q, q < d.n → d.e q = true → K.getD q false = true ∧ P.getD q [] <+: d.f q
  fit : ∀ q x r', q < d.n → x < d.L → d.to q x = some r' → K.getD r' false = true → W.getD r' false = false → (K.getD q false = true ∧ P.getD q [] <+: d.o q x ++ P.getD r' []) ∨ (r' = r ∧ q ∈ rem)
  bd : ∀ q, q < d.n → K.getD q false = true → (P.getD q []).length ≤ M * kc d.n K
  il : i ≤ Qu.length
  uk : ∀ q, K.getD q false = false → P.getD q [] = []
  qm : Qu.length + msP d M P K ≤ d.n + d.n * (M * d.n + 1)
section
variable {d : Sq} {M : Nat} {P : List Wd} {K W : List Bool} {Qu : List Nat} {i r : Nat} {rem : List Nat}
theorem PfI.bd' (h : PfI d M P K W Qu i r rem) {q : Nat} (hq : q < d.n) (hk : K.getD q false = true) : (P.getD q []).length ≤ M * d.n :=
  Nat.le_trans (h.bd q hq hk) (Nat.mul_le_mul_left _ (kc_le _ _))
theorem PfI.pop (h : PfI d M P K W Qu i r []) (hi : i < Qu.length) : PfI d M P K (W.set (Qu.getD i 0) false) Qu (i + 1) (Qu.getD i 0) (befS d (Qu.getD i 0)) := by
  have hr : Qu.getD i 0 < d.n := h.ql _ (getDm hi)
  refine ⟨h.pl, h.kl, by rw [List.length_set]; exact h.wl, h.ql, fun q hq hw => ?_, h.up, h.en, fun q x r' hq hx ht hk hw => ?_, h.bd, hi, h.uk, h.qm⟩
  · rw [gset'] at hw
    split at hw
    · cases hw
    · rename_i hne
      obtain ⟨j, h1, h2, h3⟩ := h.wq q hq hw
      refine ⟨j, ?_, h2, h3⟩
      rcases Nat.lt_or_ge i j with h4 | h4
      · exact h4
      · obtain rfl : j = i := by omega
        exact absurd ⟨h3, by rw [h.wl]; exact hr⟩ hne
  · by_cases e : r' = Qu.getD i 0
    · exact .inr ⟨e, befS_mem.2 ⟨hq, x, hx, e ▸ ht⟩⟩
    · rw [gset', if_neg (fun h => e h.1.symm)] at hw
      rcases h.fit q x r' hq hx ht hk hw with h1 | ⟨_, h1⟩
      · exact .inl h1
      · cases h1
/-- one predecessor improved; W' and Qu': q waits if it has changed -/
theorem PfI.imp {q : Nat} {st : Ist} {W' : List Bool} {Qu' : List Nat} (hd : d.Ok M) (h : PfI d M P K W Qu i r (q :: rem)) (hq : q < d.n) (hst : ImpI d q P K d.L st) (hW : (st.2.2 = true ∧ W.getD q false = false ∧ W' = W.set q true ∧ Qu' = Qu ++ [q]) ∨ ((st.2.2 = false ∨ W.getD q false = true) ∧ W' = W ∧ Qu' = Qu)) :
    PfI d M st.1 st.2.1 W' Qu' i r rem ∧ msP d M st.1 st.2.1 ≤ msP d M P K ∧ Qu'.length + msP d M st.1 st.2.1 ≤ Qu.length + msP d M P K := by
  have hwo : ∀ p, p ≠ q → W'.getD p false = W.getD p false := fun p hp => by
    rcases hW with ⟨_, _, rfl, _⟩ | ⟨_, rfl, _⟩
    · rw [gset', if_neg (fun h => hp h.1.symm)]
    · rfl
  have hwq : st.2.2 = true → W'.getD q false = true := fun hc => by
    rcases hW with ⟨_, _, rfl, _⟩ | ⟨h1, rfl, _⟩
    · rw [gset', if_pos ⟨rfl, by rw [h.wl]; exact hq⟩]
    · rcases h1 with h1 | h1
      · rw [hc] at h1; cases h1
      · exact h1
  have hKmono : ∀ p, K.getD p false = true → st.2.1.getD p false = true := fun p hp => by
    by_cases e : p = q
    · subst e; exact (hst.keep hp).1
    · rw [(hst.other p e).2]; exact hp
  have hPle : ∀ p, p ≠ q → st.1.getD p [] = P.getD p [] := fun p hp => (hst.other p hp).1
  have hnewlen : K.getD q false = false → st.2.1.getD q false = true → (st.1.getD q []).length ≤ M + M * kc d.n K := fun h1 h2 => by
    obtain ⟨r', y, e1, e2, e3, e4⟩ := hst.nw h1 h2
    have := (hd.to' q y hq e2).1
    have := h.bd r' e1 e3
    omega
  have hkc : kc d.n K ≤ kc d.n st.2.1 := sumR_le fun p _ => by
    cases e : K.getD p false with
    | false => simp
    | true => rw [hKmono p e]; simp
  have hkc2 : K.getD q false = false → st.2.1.getD q false = true → kc d.n K + 1 ≤ kc d.n st.2.1 := fun h1 h2 => sumR_lt (q := q) (fun p _ => by
    cases e : K.getD p false with
    | false => simp
    | true => rw [hKmono p e]; simp) hq (by rw [h1, h2]; decide)
  have hms : msP d M st.1 st.2.1 ≤ msP d M P K ∧ (st.2.2 = true → msP d M st.1 st.2.1 < msP d M P K) := by
    have hle : ∀ p, p < d.n → (if st.2.1.getD p false then (st.1.getD p []).length else M * d.n + 1) ≤ (if K.getD p false then (P.getD p []).length else M * d.n + 1) := fun p hp => by
      by_cases e : p = q
      · subst e
        cases h1 : K.getD p false with
        | true => rw [(hst.keep h1).1]; simpa using (hst.keep h1).2.length_le
        | false =>
          cases h2 : st.2.1.getD p false with
          | false => simp
          | true =>
            have h3 := hnewlen h1 h2
            have h4 := hkc2 h1 h2
            have h5 := Nat.mul_le_mul_left M (Nat.le_trans h4 (kc_le d.n st.2.1))
            rw [Nat.mul_add, Nat.mul_one] at h5
            simp only [if_true, Bool.false_eq_true, if_false]
            omega
      · rw [(hst.other p e).2, hPle p e]; exact Nat.le_refl _
    refine ⟨sumR_le hle, fun hc => sumR_lt hle hq ?_⟩
    have h2 := (hst.ch hc).1
    rw [h2]
    cases h1 : K.getD q false with
    | true => simpa using hst.lt hc h1
    | false =>
      have h3 := hnewlen h1 h2
      have h4 := hkc2 h1 h2
      have h5 := Nat.mul_le_mul_left M (Nat.le_trans h4 (kc_le d.n st.2.1))
      rw [Nat.mul_add, Nat.mul_one] at h5
      simp only [if_true, Bool.false_eq_true, if_false]
      omega
  have hqm : Qu'.length + msP d M st.1 st.2.1 ≤ Qu.length + msP d M P K := by
    rcases hW with ⟨hc, _, _, rfl⟩ | ⟨_, _, rfl⟩
    · rw [List.length_append, List.length_singleton]
      have := hms.2 hc
      omega
    · have := hms.1
      omega
  refine ⟨?_, hms.1, hqm⟩
  refine ⟨by rw [hst.pl, h.pl], by rw [hst.kl, h.kl], ?_, ?_, fun p hp hw => ?_, fun p hp hk p' hp' => ?_, fun p hp he => ?_, fun p x r' hp hx ht hk hw => ?_, fun p hp hk => ?_, ?_, fun p hk => ?_, by have := h.qm; omega⟩
  · rcases hW with ⟨_, _, rfl, _⟩ | ⟨_, rfl, _⟩
    · rw [List.length_set]; exact h.wl
    · exact h.wl
  · rcases hW with ⟨_, _, _, rfl⟩ | ⟨_, _, rfl⟩
    · intro p hp
      rcases List.mem_append.1 hp with h1 | h1
      · exact h.ql p h1
      · rw [List.mem_singleton] at h1; subst h1; exact hq
    · exact h.ql
  · rcases hW with ⟨_, _, rfl, rfl⟩ | ⟨_, rfl, rfl⟩
    · by_cases e : p = q
      · subst e
        exact ⟨Qu.length, h.il, by simp, by rw [List.getD_eq_getElem?_getD]; simp⟩
      · rw [gset', if_neg (fun h => e h.1.symm)] at hw
        obtain ⟨j, h1, h2, h3⟩ := h.wq p hp hw
        exact ⟨j, h1, by rw [List.length_append]; omega, by rw [getD_app h2]; exact h3⟩
    · exact h.wq p hp hw
  · by_cases e : p = q
    · subst e; exact hst.up h.up hk p' hp'
    · rw [hPle p e]; exact h.up p hp (by rw [← (hst.other p e).2]; exact hk) p' hp'
  · obtain ⟨h1, h2⟩ := h.en p hp he
    by_cases e : p = q
    · subst e; exact ⟨(hst.keep h1).1, (hst.keep h1).2.trans h2⟩
    · rw [(hst.other p e).2, hPle p e]; exact ⟨h1, h2⟩
  · by_cases er : r' = q
    · subst er
      have hc : st.2.2 = false := by
        cases hc : st.2.2 with
        | false => rfl
        | true => rw [hwq hc] at hw; cases hw
      obtain ⟨e1, e2, e3⟩ := hst.un hc
      have hW2 : W'.getD r' false = W.getD r' false := by
        rcases hW with ⟨h1, _⟩ | ⟨_, rfl, _⟩
        · rw [hc] at h1; cases h1
        · rfl
      rw [e2] at hk
      rw [hW2] at hw
      rw [e1, e2]
      by_cases ep : p = r'
      · subst ep; exact .inl (e3 x _ hx ht hk)
      · rcases h.fit p x r' hp hx ht hk hw with h1 | ⟨h1, h2⟩
        · exact .inl h1
        · rcases List.mem_cons.1 h2 with h2 | h2
          · exact absurd h2 ep
          · exact .inr ⟨h1, h2⟩
    · have hk2 : K.getD r' false = true := by rw [← (hst.other r' er).2]; exact hk
      have hw2 : W.getD r' false = false := by rw [← hwo r' er]; exact hw
      rw [hPle r' er]
      by_cases ep : p = q
      · subst ep
        left
        cases hc : st.2.2 with
        | true => exact ⟨(hst.ch hc).1, (hst.ch hc).2 x r' hx er ht hk2⟩
        | false =>
          obtain ⟨e1, e2, e3⟩ := hst.un hc
          rw [e1, e2]; exact e3 x r' hx ht hk2
      · rw [(hst.other p ep).2, hPle p ep]
        rcases h.fit p x r' hp hx ht hk2 hw2 with h1 | ⟨h1, h2⟩
        · exact .inl h1
        · rcases List.mem_cons.1 h2 with h2 | h2
          · exact absurd h2 ep
          · exact .inr ⟨h1, h2⟩
  · have hM := Nat.mul_le_mul_left M hkc
    by_cases e : p = q
    · subst e
      cases h1 : K.getD p false with
      | true => have := (hst.keep h1).2.length_le; have := h.bd p hp h1; omega
      | false =>
        have h3 := hnewlen h1 hk
        have h5 := Nat.mul_le_mul_left M (hkc2 h1 hk)
        rw [Nat.mul_add, Nat.mul_one] at h5
        omega
    · rw [hPle p e]
      have := h.bd p hp (by rw [← (hst.other p e).2]; exact hk)
      omega
  · rcases hW with ⟨_, _, _, rfl⟩ | ⟨_, _, rfl⟩
    · rw [List.length_append]; have := h.il; omega
    · exact h.il
  · by_cases e : p = q
    · subst e
      have h1 : K.getD p false = false := by
        cases h1 : K.getD p false with
        | false => rfl
        | true => rw [(hst.keep h1).1] at hk; cases hk
      cases hc : st.2.2 with
      | true => rw [(hst.ch hc).1] at hk; cases hk
      | false => rw [(hst.un hc).1]; exact h.uk p h1
    · rw [hPle p e]; exact h.uk p (by rw [← (hst.other p e).2]; exact hk)
theorem PfI.any (h : PfI d M P K W Qu i r []) (r' : Nat) : PfI d M P K W Qu i r' [] :=
  ⟨h.pl, h.kl, h.wl, h.ql, h.wq, h.up, h.en, fun q x p hq hx ht hk hw => by
    exact .inl ((h.fit q x p hq hx ht hk hw).resolve_right (fun h1 => by cases h1.2)), h.bd, h.il, h.uk, h.qm⟩
theorem PfI.len (h : PfI d M P K W Qu i r rem) (q : Nat) : (P.getD q []).length ≤ M * d.n := by
  cases hk : K.getD q false with
  | false => rw [h.uk q hk]; exact Nat.zero_le _
  | true =>
    rcases Nat.lt_or_ge q d.n with h1 | h1
    · exact h.bd' h1 hk
    · rw [List.getD_eq_getElem?_getD, List.getElem?_eq_none (by rw [h.kl]; exact h1)] at hk; cases hk
theorem PfI.done (hd : d.Ok M) (hall : ∀ r, r < d.n → d.tr.co d.L r = true) (h : PfI d M P K W Qu i r []) (hi : Qu.length ≤ i) : d.Pf P := by
  have hw : ∀ q, q < d.n → W.getD q false = false := fun q hq => by
    cases e : W.getD q false with
    | false => rfl
    | true => obtain ⟨j, h1, h2, _⟩ := h.wq q hq e; omega
  have hfit : ∀ q x r', q < d.n → x < d.L → d.to q x = some r' → K.getD r' false = true → K.getD q false = true ∧ P.getD q [] <+: d.o q x ++ P.getD r' [] := fun q x r' hq hx ht hk => by
    rcases h.fit q x r' hq hx ht hk (hw r' (hd.lt q x r' hq hx ht)) with h1 | ⟨_, h1⟩
    · exact h1
    · cases h1
  have hK : ∀ q, q < d.n → K.getD q false = true := fun q hq => by
    obtain ⟨w, hw, hv⟩ := Tr.co_t.1 (hall q hq)
    clear hi
    induction w generalizing q with
    | nil =>
      rw [Tr.val] at hv
      by_cases he : d.tr.en q = true
      · exact (h.en q hq he).1
      · rw [if_neg he] at hv; cases hv
    | cons x w ih =>
      cases e : d.to q x with
      | none => rw [d.tr.val_none e] at hv; cases hv
      | some r' =>
        rw [d.tr.val_some e] at hv
        have hv' : (d.tr.val r' w).isSome = true := by
          cases e2 : d.tr.val r' w with
          | none => rw [e2] at hv; cases hv
          | some v => rfl
        exact (hfit q x r' hq hw.head e (ih r' (hd.lt q x r' hq hw.head e) hw.tail hv')).1
  refine ⟨h.pl, fun q hq => ⟨?_, h.up q hq (hK q hq)⟩⟩
  exact Tr.pre_fix (T := d.tr) (Q := fun q => q < d.n) (P := fun q => P.getD q []) (fun q x r' hq hx ht => hd.lt q x r' hq hx ht) (fun q hq he => (h.en q hq he).2) (fun q x r' hq hx ht => (hfit q x r' hq hx ht (hK r' (hd.lt q x r' hq hx ht))).2) q hq
end
end Go.Sq
namespace Go.Sq
open Go Go.Eng Go.Am
open Go.Tl (Wd bo okW okB)
theorem imp1_none {d : Sq} {q x : Nat} {st : Ist} (h : d.to q x = none) : imp1 d q x st = st := by unfold imp1; rw [h]
theorem imp1_skip {d : Sq} {q x r : Nat} {st : Ist} (h : d.to q x = some r) (hk : st.2.1.getD r false = false) : imp1 d q x st = st := by unfold imp1; rw [h]; exact if_pos hk
theorem imp1_first {d : Sq} {q x r : Nat} {st : Ist} (h : d.to q x = some r) (hk : st.2.1.getD r false = true) (hq : st.2.1.getD q false = false) : imp1 d q x st = (st.1.set q (d.o q x ++ st.1.getD r []), st.2.1.set q true, true) := by
  unfold imp1; rw [h]; dsimp only; rw [if_neg (by rw [hk]; decide), if_pos hq]
theorem imp1_cut {d : Sq} {q x r : Nat} {st : Ist} (h : d.to q x = some r) (hk : st.2.1.getD r false = true) (hq : st.2.1.getD q false = true) (hl : (cm (st.1.getD q []) (d.o q x ++ st.1.getD r [])).length < (st.1.getD q []).length) : imp1 d q x st = (st.1.set q ((st.1.getD q []).take (cm (st.1.getD q []) (d.o q x ++ st.1.getD r [])).length), st.2.1, true) := by
  unfold imp1; rw [h]; dsimp only; rw [if_neg (by rw [hk]; decide), if_neg (by rw [hq]; decide), if_pos hl]
theorem imp1_fits {d : Sq} {q x r : Nat} {st : Ist} (h : d.to q x = some r) (hk : st.2.1.getD r false = true) (hq : st.2.1.getD q false = true) (hl : ¬ (cm (st.1.getD q []) (d.o q x ++ st.1.getD r [])).length < (st.1.getD q []).length) : imp1 d q x st = st := by
  unfold imp1; rw [h]; dsimp only; rw [if_neg (by rw [hk]; decide), if_neg (by rw [hq]; decide), if_neg hl]
theorem imp_len {d : Sq} {q x B : Nat} {st : Ist} (ho : ∀ r, d.to q x = some r → (d.o q x).length ≤ 4096) (h : ∀ r, (st.1.getD r []).length ≤ B) (r : Nat) : ((imp1 d q x st).1.getD r []).length ≤ B + 4096 := by
  have hset : ∀ z : Wd, z.length ≤ B + 4096 → ((st.1.set q z).getD r []).length ≤ B + 4096 := fun z hz => by
    rw [gset']; split
    · exact hz
    · have := h r; omega
  unfold imp1
  split
  · have := h r; omega
  · rename_i r' e
    split
    · have := h r; omega
    · split
      · refine hset _ ?_
        rw [List.length_append]; have := ho r' e; have := h r'; omega
      · split
        · refine hset _ ?_
          rw [List.length_take]; have := h q; omega
        · have := h r; omega
theorem impL_len {d : Sq} {q B : Nat} {st : Ist} (ho : ∀ x r, d.to q x = some r → x < d.L → (d.o q x).length ≤ 4096) (h : ∀ r, (st.1.getD r []).length ≤ B) : ∀ x, x ≤ d.L → ∀ r, ((impL d q st x).1.getD r []).length ≤ B + 4096 * x := by
  intro x
  induction x with
  | zero => intro _ r; have := h r; show ((st.1).getD r []).length ≤ _; omega
  | succ x ih =>
    intro hx r
    exact Nat.le_trans (imp_len (d := d) (q := q) (x := x) (fun r' e => ho x r' e (by omega)) (ih (by omega)) r) (by rw [Nat.mul_succ]; exact Nat.le_of_eq (Nat.add_assoc _ _ _))
theorem imp1_lens {d : Sq} {q x : Nat} (st : Ist) : (imp1 d q x st).1.length = st.1.length ∧ (imp1 d q x st).2.1.length = st.2.1.length := by
  unfold imp1
  split
  · exact ⟨rfl, rfl⟩
  · split
    · exact ⟨rfl, rfl⟩
    · split
      · exact ⟨List.length_set, List.length_set⟩
      · split
        · exact ⟨List.length_set, rfl⟩
        · exact ⟨rfl, rfl⟩
theorem impL_lens {d : Sq} {q : Nat} {st : Ist} : ∀ x, (impL d q st x).1.length = st.1.length ∧ (impL d q st x).2.1.length = st.2.1.length := by
  intro x
  induction x with
  | zero => exact ⟨rfl, rfl⟩
  | succ x ih =>
    have := imp1_lens (d := d) (q := q) (x := x) (impL d q st x)
    exact ⟨this.1.trans ih.1, this.2.trans ih.2⟩
/-- rows of predecessors -/
structure Bg (d : Sq) (Q X : Nat) (rs : List (Rx Nat)) : Prop where
  len : rs.length = d.n
  at_ : ∀ r, r < d.n → (rs.getD r rx0).xs = (bef d Q X r).map (·.1)
theorem Bg.start (d : Sq) : Bg d 0 0 (List.replicate d.n rx0) := ⟨by simp, fun r hr => by
  rw [bef_zero, List.getD_eq_getElem?_getD, List.getElem?_replicate, if_pos hr]; rfl⟩
theorem Bg.row {d : Sq} {Q : Nat} {rs : List (Rx Nat)} (h : Bg d Q d.L rs) : Bg d (Q + 1) 0 rs := ⟨h.len, fun r hr => by rw [h.at_ r hr, bef_row]⟩
theorem Bg.keep {d : Sq} {Q X : Nat} {rs : List (Rx Nat)} (h : Bg d Q X rs) (hn : d.to Q X = none) : Bg d Q (X + 1) rs := ⟨h.len, fun r hr => by rw [h.at_ r hr, bef_s, hn]; simp⟩
theorem Bg.put {d : Sq} {Q X r0 : Nat} {rs : List (Rx Nat)} (h : Bg d Q X rs) (hn : d.to Q X = some r0) (hr0 : r0 < d.n) {x : Rx Nat} (hx : x.xs = (rs.getD r0 rx0).xs ++ [Q]) : Bg d Q (X + 1) (rs.set r0 x) := ⟨by rw [List.length_set, h.len], fun r hr => by
  rw [gsetX, bef_s, hn, h.len]
  by_cases e : r0 = r
  · subst e
    rw [if_pos ⟨rfl, hr0⟩, hx, h.at_ _ hr0, if_pos rfl, List.map_append]; rfl
  · rw [if_neg (fun h => e h.1), h.at_ r hr, if_neg (fun h => e (Option.some.inj h)), List.append_nil]⟩
/-- P, known at first: the states with End before i -/
def pfP (d : Sq) (i : Nat) : List Wd := (List.range d.n).map fun q => if q < i ∧ d.e q = true then d.f q else []
def pfK (d : Sq) (i : Nat) : List Bool := (List.range d.n).map fun q => decide (q < i ∧ d.e q = true)
theorem pfP_len (d : Sq) (i : Nat) : (pfP d i).length = d.n := by simp [pfP]
theorem pfK_len (d : Sq) (i : Nat) : (pfK d i).length = d.n := by simp [pfK]
theorem pfP_zero (d : Sq) : pfP d 0 = List.replicate d.n [] := by
  refine list_ext_getD [] (by simp [pfP]) fun i hi => ?_
  rw [pfP_len] at hi
  rw [pfP, getD_rng _ _ _ hi, if_neg (by omega), List.getD_eq_getElem?_getD, List.getElem?_replicate, if_pos hi]; rfl
theorem pfK_zero (d : Sq) : pfK d 0 = List.replicate d.n false := by
  refine list_ext_getD false (by simp [pfK]) fun i hi => ?_
  rw [pfK_len] at hi
  rw [pfK, getD_rng _ _ _ hi, decide_eq_false (by omega), List.getD_eq_getElem?_getD, List.getElem?_replicate, if_pos hi]; rfl
theorem pfP_put {d : Sq} {i : Nat} (h : d.e i = true) : ((pfP d i).map sv).set i (sv (d.f i)) = (pfP d (i + 1)).map sv := by
  rw [← List.map_set, pfP, rng_put _ (fun q => if q < i + 1 ∧ d.e q = true then d.f q else []) (by rw [if_pos ⟨by omega, h⟩]) fun y _ hne => ?_]
  · rfl
  · by_cases h1 : y < i
    · simp [h1, show y < i + 1 by omega]
    · simp [h1, show ¬ y < i + 1 by omega]
theorem pfK_put {d : Sq} {i : Nat} (h : d.e i = true) : ((pfK d i).map bo).set i (.bool true) = (pfK d (i + 1)).map bo := by
  rw [show (Value.bool true) = bo true from rfl, ← List.map_set, pfK, rng_put _ (fun q => decide (q < i + 1 ∧ d.e q = true)) (decide_eq_true ⟨by omega, h⟩) fun y _ hne => ?_]
  · rfl
  · rw [decide_eq_decide]
    exact ⟨fun h => ⟨by omega, h.2⟩, fun h => ⟨by omega, h.2⟩⟩
theorem pfP_keep {d : Sq} {i : Nat} (h : d.e i = false) : pfP d i = pfP d (i + 1) := rng_keep _ _ fun y _ => by
  by_cases e : y = i
  · subst e; simp [h]
  · by_cases h1 : y < i
    · simp [h1, show y < i + 1 by omega]
    · simp [h1, show ¬ y < i + 1 by omega]
theorem pfK_keep {d : Sq} {i : Nat} (h : d.e i = false) : pfK d i = pfK d (i + 1) := rng_keep _ _ fun y _ => by
  rw [decide_eq_decide]
  refine ⟨fun h => ⟨by omega, h.2⟩, fun h2 => ⟨?_, h2.2⟩⟩
  rcases Nat.lt_or_ge y i with h1 | h1
  · exact h1
  · obtain rfl : y = i := by omega
    rw [h] at h2
    exact absurd h2.2 (by decide)
theorem PfI.start {d : Sq} {M : Nat} (hd : d.Ok M) (hL : 0 < d.n) (r : Nat) : PfI d M (pfP d d.n) (pfK d d.n) (pfK d d.n) ((List.range d.n).filter d.e) 0 r [] := by
  have hk : ∀ q, q < d.n → (pfK d d.n).getD q false = d.e q := fun q hq => by
    rw [pfK, getD_rng _ _ _ hq]; cases d.e q <;> simp [hq]
  have hp : ∀ q, q < d.n → d.e q = true → (pfP d d.n).getD q [] = d.f q := fun q hq he => by rw [pfP, getD_rng _ _ _ hq, if_pos ⟨hq, he⟩]
  have hql : ((List.range d.n).filter d.e).length ≤ d.n := by have := List.length_filter_le d.e (List.range d.n); rwa [List.length_range] at this
  refine ⟨pfP_len _ _, pfK_len _ _, pfK_len _ _, fun q hq => List.mem_range.1 (List.mem_filter.1 hq).1, fun q hq hw => ?_, fun q hq h p' hp' => ?_, fun q hq he => ?_, fun q x r' hq hx ht h1 h2 => ?_, fun q hq h => ?_, Nat.zero_le _, fun q h => ?_, ?_⟩
  · rw [hk q hq] at hw
    have hm : q ∈ (List.range d.n).filter d.e := List.mem_filter.2 ⟨List.mem_range.2 hq, hw⟩
    obtain ⟨j, hj, e⟩ := List.mem_iff_getElem.1 hm
    exact ⟨j, Nat.zero_le _, hj, by rw [List.getD_eq_getElem?_getD, List.getElem?_eq_getElem hj]; exact e⟩
  · rw [hk q hq] at h
    rw [hp q hq h]
    exact Tr.up_fi (T := d.tr) h hp'
  · rw [hk q hq, hp q hq he]; exact ⟨he, List.prefix_rfl⟩
  · rw [h1] at h2; cases h2
  · have he := h
    rw [hk q hq] at he
    rw [hp q hq he]
    have h1 := (hd.tf q hq).1
    have h2 : 0 < kc d.n (pfK d d.n) := by
      have := sumR_lt (n := d.n) (q := q) (f := fun _ => 0) (g := fun q => if (pfK d d.n).getD q false then 1 else 0) (fun _ _ => Nat.zero_le _) hq (by rw [h]; decide)
      unfold kc; omega
    exact Nat.le_trans h1 (Nat.le_mul_of_pos_right _ h2)
  · rcases Nat.lt_or_ge q d.n with h1 | h1
    · rw [hk q h1] at h
      rw [pfP, getD_rng _ _ _ h1, if_neg (by rw [h]; simp)]
    · rw [List.getD_eq_getElem?_getD, List.getElem?_eq_none (by rw [pfP_len]; exact h1)]; rfl
  · have : msP d M (pfP d d.n) (pfK d d.n) ≤ d.n * (M * d.n + 1) := sumR_const _ _ fun q hq => by
      rw [hk q hq]
      cases he : d.e q with
      | false => simp
      | true =>
        rw [hp q hq he]
        have h1 := (hd.tf q hq).1
        have := Nat.le_mul_of_pos_right M hL
        simp only [if_true]
        omega
    omega
end Go.Sq
namespace Go.Sq
theorem drop_s {α : Type} {l : List α} {k : Nat} {z : α} (hk : k < l.length) : l.drop k = l.getD k z :: l.drop (k + 1) := by
  rw [List.drop_eq_getElem_cons hk, List.getD_eq_getElem?_getD, List.getElem?_eq_getElem hk]; rfl
end Go.Sq

namespace Go.Sq
open Go Go.Eng Go.Am
open Go.Tl (Wd bo okW okB)
/-! short words, sizes; what Normal writes -/
theorem run_lt {d : Sq} (hf : d.Fit) {w : List Nat} : ∀ {q p : Nat} {l : Wd}, q < d.n → InW d.L w → d.tr.run q w = some (p, l) → p < d.n := by
  induction w with
  | nil => intro q p l hq _ h; cases h; exact hq
  | cons x w ih =>
    intro q p l hq hw h
    cases e : d.to q x with
    | none => rw [Tr.run_none (T := d.tr) e] at h; cases h
    | some r =>
      rw [Tr.run_some (T := d.tr) e] at h
      obtain ⟨⟨p', l'⟩, h1, h2⟩ := Option.map_eq_some_iff.1 h
      cases h2
      exact ih (hf.lt q x r hq hw.head e) hw.tail h1
theorem co_short {d : Sq} (hf : d.Fit) {q : Nat} (hq : q < d.n) (hc : d.tr.co d.L q = true) : ∃ w, InW d.L w ∧ (d.tr.val q w).isSome = true ∧ w.length < d.n := by
  have key : ∀ m w, w.length ≤ m → InW d.L w → (d.tr.val q w).isSome = true → ∃ w, InW d.L w ∧ (d.tr.val q w).isSome = true ∧ w.length < d.n := by
    intro m
    induction m with
    | zero =>
      intro w hl hw hv
      exact ⟨w, hw, hv, by omega⟩
    | succ m ih =>
      intro w hl hw hv
      rcases Nat.lt_or_ge w.length d.n with h1 | h1
      · exact ⟨w, hw, hv, h1⟩
      · -- some state is met twice
        have hrun : ∀ i, i ≤ w.length → ∃ p l, d.tr.run q (w.take i) = some (p, l) ∧ p < d.n := fun i hi => by
          have e := List.take_append_drop i w
          rw [← e, Tr.val_app] at hv
          cases e2 : d.tr.run q (w.take i) with
          | none => rw [e2] at hv; cases hv
          | some p => exact ⟨p.1, p.2, rfl, run_lt hf hq (hw.take i) e2⟩
        let st : Nat → Nat := fun i => ((d.tr.run q (w.take i)).map (·.1)).getD 0
        have hst : ∀ i, i ≤ w.length → st i < d.n := fun i hi => by
          obtain ⟨p, l, e, hp⟩ := hrun i hi
          show ((d.tr.run q (w.take i)).map (·.1)).getD 0 < d.n
          rw [e]; exact hp
        have hnd : ¬ ((List.range (d.n + 1)).map st).Nodup := fun hnd => by
          have := nodup_lt_len hnd (n := d.n) (fun p hp => by
            obtain ⟨i, hi, rfl⟩ := List.mem_map.1 hp
            exact hst i (by have := List.mem_range.1 hi; omega))
          rw [List.length_map, List.length_range] at this
          omega
        obtain ⟨i, j, hij, hj, he⟩ : ∃ i j, i < j ∧ j ≤ d.n ∧ st i = st j := Classical.byContradiction fun hcon => by
          apply hnd
          rw [List.nodup_iff_pairwise_ne, List.pairwise_iff_getElem]
          intro i j hi hj hij e
          simp only [List.length_map, List.length_range] at hi hj
          simp only [List.getElem_map, List.getElem_range] at e
          exact hcon ⟨i, j, hij, by omega, e⟩
        obtain ⟨p, l, e1, _⟩ := hrun i (by omega)
        obtain ⟨p', l', e2, _⟩ := hrun j (by omega)
        have hpp : p = p' := by
          have he : ((d.tr.run q (w.take i)).map (·.1)).getD 0 = ((d.tr.run q (w.take j)).map (·.1)).getD 0 := he
          rw [e1, e2] at he; exact he
        subst hpp
        refine ih (w.take i ++ w.drop j) ?_ ((hw.take i).app fun x hx => hw x (List.mem_of_mem_drop hx)) ?_
        · rw [List.length_append, List.length_take, List.length_drop]; omega
        · rw [Tr.val_app, e1]
          rw [← List.take_append_drop j w, Tr.val_app, e2] at hv
          show ((d.tr.val p (w.drop j)).map (l ++ ·)).isSome = true
          have hv : ((d.tr.val p (w.drop j)).map (l' ++ ·)).isSome = true := hv
          cases e3 : d.tr.val p (w.drop j) with
          | none => rw [e3] at hv; cases hv
          | some v => rfl
  obtain ⟨w, hw, hv⟩ := Tr.co_t.1 hc
  exact key w.length w (Nat.le_refl _) hw hv
theorem val_text {d : Sq} {M : Nat} (hd : d.Ok M) {w : List Nat} : ∀ {q : Nat} {v : Wd}, q < d.n → InW d.L w → d.tr.val q w = some v → okT ((w.length + 1) * M) v := by
  induction w with
  | nil =>
    intro q v hq _ h
    rw [Tr.val] at h
    split at h
    · cases h
      exact (hd.tf q hq).mono (by simp)
    · cases h
  | cons x w ih =>
    intro q v hq hw h
    cases e : d.to q x with
    | none => rw [d.tr.val_none e] at h; cases h
    | some r =>
      rw [d.tr.val_some e] at h
      obtain ⟨u, h1, rfl⟩ := Option.map_eq_some_iff.1 h
      have h2 := ih (hd.lt q x r hq hw.head e) hw.tail h1
      have h3 := (hd.to' q x hq hw.head).app h2
      refine h3.mono ?_
      rw [List.length_cons, Nat.add_mul (w.length + 1) 1 M]; omega
theorem Pf_text {d : Sq} {M : Nat} {P : List Wd} (hd : d.Ok M) (hall : ∀ r, r < d.n → d.tr.co d.L r = true) (hP : d.Pf P) {q : Nat} (hq : q < d.n) : okT (d.n * M) (P.getD q []) := by
  obtain ⟨w, hw, hv, hl⟩ := co_short hd.fit hq (hall q hq)
  obtain ⟨v, hv⟩ := Option.isSome_iff_exists.1 hv
  have h1 := (hP.lcp q hq).pre w v hw hv
  have h2 := val_text hd hq hw hv
  have h3 := Nat.mul_le_mul_right M (show w.length + 1 ≤ d.n from hl)
  exact ⟨by have := h1.length_le; have := h2.1; omega, fun b hb => h2.2 b (h1.subset hb)⟩
theorem okT.drop {M : Nat} {s : Wd} (h : okT M s) (k : Nat) : okT M (s.drop k) := ⟨by rw [List.length_drop]; have := h.1; omega, fun b hb => h.2 b (List.mem_of_mem_drop hb)⟩
theorem emptyQ_ok {L : Nat} (hL : 1 ≤ L ∧ L ≤ 6) (M : Nat) : (emptyQ L).Ok M := by
  have hf := emptyQ_fit L
  refine ⟨hL, by show 1 ≤ 512; decide, Nat.zero_lt_one, hf.len, hf.row, hf.lt, hf.no, (emptyQ_bis L).nf, okT.nil M, fun q x _ _ => by rw [emptyQ_o]; exact okT.nil M, fun q hq => ?_⟩
  obtain rfl : q = 0 := Nat.lt_one_iff.1 hq
  exact okT.nil M
theorem IsTrim.ok {f g : Sq} {M : Nat} (hf : f.Ok M) (h : IsTrim f.tr f.L f.s f.init g) : g.Ok M ∧ g.n ≤ f.n := by
  rcases h with ⟨_, rfl⟩ | ⟨hc, K, hK, rfl⟩
  · exact ⟨emptyQ_ok hf.may M, Nat.lt_of_le_of_lt (Nat.zero_le _) hf.st⟩
  · have hcl : ∀ a x b, a ∈ bfsP (f.tr.stC f.L) f.L f.s K → x < f.L → f.tr.stC f.L a x = some b → b ∈ bfsP (f.tr.stC f.L) f.L f.s K := fun a x b ha hx hb => hK.closed ha hx hb
    have hlt := bfsC_lt hf.fit hf.st (show 0 < f.L from hf.may.1) K
    have hfit := trimT_fit (init := f.init) hcl
    have hlen := bfsC_len hf.fit hf.st (show 0 < f.L from hf.may.1) K
    have hmem : ∀ i, i < (bfsP (f.tr.stC f.L) f.L f.s K).length → (bfsP (f.tr.stC f.L) f.L f.s K).getD i 0 < f.n := fun i hi => hlt _ (getDm hi)
    refine ⟨⟨hf.may, by rw [trimT_n]; exact Nat.le_trans hlen hf.n5, by rw [trimT_n]; exact bfsP_pos K, hfit.len, hfit.row, hfit.lt, hfit.no, fun q hq he => ?_, hf.ti, fun q x hq hx => ?_, fun q hq => ?_⟩, by rw [trimT_n]; exact hlen⟩
    · rw [trimT_n] at hq
      rw [trimT_e 0 hq] at he
      rw [trimT_f 0 hq]
      exact hf.nf _ (hmem q hq) he
    · rw [trimT_n] at hq
      rw [trimT_o 0 hq (show x < f.L from hx)]
      split
      · exact hf.to' _ x (hmem q hq) hx
      · exact okT.nil M
    · rw [trimT_n] at hq
      rw [trimT_f 0 hq]
      exact hf.tf _ (hmem q hq)
theorem normD_ok {d : Sq} {M : Nat} {P : List Wd} (hd : d.Ok M) (ht : d.Trimmed) (hP : d.Pf P) : (normD d P).Ok ((d.n + 1) * M) := by
  have hfit := normD_fit hd.fit P
  have hPt := fun q hq => Pf_text hd ht.co hP (q := q) hq
  have e1 : (d.n + 1) * M = M + d.n * M := by rw [Nat.add_mul, Nat.one_mul, Nat.add_comm]
  refine ⟨hd.may, hd.n5, hd.st, hfit.len, hfit.row, hfit.lt, hfit.no, fun q hq he => ?_, ?_, fun q x hq hx => ?_, fun q hq => ?_⟩
  · have he : d.e q = false := he
    rw [normD_f (show q < d.n from hq), he]
    exact hd.nf q hq he
  · rw [e1]; exact hd.ti.app (hPt _ hd.st)
  · replace hq : q < d.n := hq
    replace hx : x < d.L := hx
    rw [normD_o hq hx, e1]
    cases e : d.to q x with
    | none => exact (hd.to' q x hq hx).mono (Nat.le_add_right _ _)
    | some r => exact ((hd.to' q x hq hx).app (hPt r (hd.lt q x r hq hx e))).drop _
  · replace hq : q < d.n := hq
    rw [normD_f hq, e1]
    split
    · exact ((hd.tf q hq).drop _).mono (Nat.le_add_right _ _)
    · exact (hd.tf q hq).mono (Nat.le_add_right _ _)
/-- the rows of Out while Normal writes them -/
structure NoI (d : Sq) (P : List Wd) (q x : Nat) (os : List (Rx Wd)) : Prop where
  len : os.length = d.n
  rl : ∀ p, p < d.n → (os.getD p rx0).xs.length = d.L
  at_ : ∀ p y, p < d.n → y < d.L → (os.getD p rx0).xs.getD y [] = if p < q ∨ (p = q ∧ y < x) then (normD d P).o p y else d.o p y
section
variable {d : Sq} {P : List Wd} {q x : Nat} {os : List (Rx Wd)}
theorem NoI.old (h : NoI d P q x os) (hq : q < d.n) (hx : x < d.L) : (os.getD q rx0).xs.getD x [] = d.o q x := by rw [h.at_ q x hq hx, if_neg (by omega)]
theorem NoI.row (h : NoI d P q d.L os) : NoI d P (q + 1) 0 os := ⟨h.len, h.rl, fun p y hp hy => by
  rw [h.at_ p y hp hy]
  by_cases e : p < q ∨ (p = q ∧ y < d.L)
  · rw [if_pos e, if_pos (by omega)]
  · rw [if_neg e, if_neg (by omega)]⟩
theorem NoI.put (h : NoI d P q x os) (hq : q < d.n) {r : Rx Wd} (hr : r.xs = (os.getD q rx0).xs.set x ((normD d P).o q x)) : NoI d P q (x + 1) (os.set q r) := by
  refine ⟨by rw [List.length_set, h.len], fun p hp => ?_, fun p y hp hy => ?_⟩
  · rw [gsetX]
    split
    · rw [hr, List.length_set, h.rl q hq]
    · exact h.rl p hp
  · rw [gsetX, h.len]
    by_cases e : q = p
    · subst e
      rw [if_pos ⟨rfl, hq⟩, hr, gset', h.rl q hq]
      by_cases e2 : x = y
      · subst e2; rw [if_pos ⟨rfl, hy⟩, if_pos (by omega)]
      · rw [if_neg (fun h => e2 h.1), h.at_ q y hq hy]
        by_cases e3 : q < q ∨ (q = q ∧ y < x)
        · rw [if_pos e3, if_pos (by omega)]
        · rw [if_neg e3, if_neg (by omega)]
    · rw [if_neg (fun h => e h.1), h.at_ p y hp hy]
      by_cases e3 : p < q ∨ (p = q ∧ y < x)
      · rw [if_pos e3, if_pos (by omega)]
      · rw [if_neg e3, if_neg (by omega)]
theorem NoI.keep (h : NoI d P q x os) (hn : d.to q x = none) : NoI d P q (x + 1) os := ⟨h.len, h.rl, fun p y hp hy => by
  rw [h.at_ p y hp hy]
  by_cases e3 : p < q ∨ (p = q ∧ y < x)
  · rw [if_pos e3, if_pos (by omega)]
  · rw [if_neg e3]
    by_cases e : p = q ∧ y = x
    · obtain ⟨rfl, rfl⟩ := e
      rw [if_pos (by omega), normD_o hp hy, hn]
    · rw [if_neg (by omega)]⟩
theorem NoI.done (h : NoI d P d.n 0 os) : os.map (·.xs) = (normD d P).ou := by
  have e1 : ∀ p, p < d.n → ((normD d P).ou.getD p []).length = d.L := fun p hp => by
    show ((List.map _ _).getD p []).length = d.L
    rw [getD_rng _ _ _ hp]; simp
  refine ext_rows (n := d.n) (L := d.L) (by rw [List.length_map, h.len]) (by show (List.map _ _).length = _; simp) (fun q hq => by rw [rx_getD]; exact h.rl q hq) e1 [] fun q x hq hx => ?_
  rw [rx_getD, h.at_ q x hq hx, if_pos (.inl hq)]
  rfl
def noF (d : Sq) (P : List Wd) (q : Nat) : List Wd := (List.range d.n).map fun p => if p < q then (normD d P).f p else d.f p
theorem noF_len (d : Sq) (P : List Wd) (q : Nat) : (noF d P q).length = d.n := by simp [noF]
theorem noF_get {d : Sq} {P : List Wd} {q p : Nat} (hp : p < d.n) : (noF d P q).getD p [] = if p < q then (normD d P).f p else d.f p := getD_rng _ _ _ hp
theorem noF_zero {d : Sq} (hf : d.fi.length = d.n) (P : List Wd) : noF d P 0 = d.fi := by
  refine list_ext_getD [] (by rw [noF_len, hf]) fun i hi => ?_
  rw [noF_len] at hi
  rw [noF_get hi, if_neg (by omega)]; rfl
theorem noF_end (d : Sq) (P : List Wd) : noF d P d.n = (normD d P).fi := by
  refine list_ext_getD [] (by rw [noF_len]; show _ = (List.map _ _).length; simp) fun i hi => ?_
  rw [noF_len] at hi
  rw [noF_get hi, if_pos hi]; rfl
theorem noF_put {d : Sq} {P : List Wd} {q : Nat} : ((noF d P q).map sv).set q (sv ((normD d P).f q)) = (noF d P (q + 1)).map sv := by
  rw [← List.map_set, noF, rng_put _ (fun p => if p < q + 1 then (normD d P).f p else d.f p) (by rw [if_pos (by omega)]) fun y _ hne => ?_]
  · rfl
  · by_cases h1 : y < q
    · simp [h1, show y < q + 1 by omega]
    · simp [h1, show ¬ y < q + 1 by omega]
theorem noF_keep {d : Sq} {P : List Wd} {q : Nat} (h : d.e q = false) : noF d P q = noF d P (q + 1) := by
  refine List.map_congr_left fun y hy => ?_
  have hy := List.mem_range.1 hy
  by_cases h1 : y < q
  · simp [h1, show y < q + 1 by omega]
  · by_cases h2 : y = q
    · subst h2; simp [normD_f hy, h]
    · simp [h1, show ¬ y < q + 1 by omega]
end
end Go.Sq

namespace Go.Sq
open Go Go.Eng Go.Am
open Go.Tl (Wd bo okW okB)
/-! Normal, further -/
theorem NoI.start {M : Nat} {S : Sv} (h : S.sq.Ok M) (P : List Wd) : NoI S.sq P 0 0 S.os :=
  ⟨by rw [h.lens.1, S.n_eq], fun p hp => h.olen (by rw [← S.n_eq]; exact hp), fun p y _ _ => by rw [if_neg (by omega), S.o_eq]⟩
theorem IsTrim.co_eq {f g : Sq} (h : IsTrim f.tr f.L f.s f.init g) : g.tr.co g.L g.s = f.tr.co f.L f.s := by
  cases hc : f.tr.co f.L f.s with
  | true =>
    obtain ⟨_, h2, h3, _⟩ := h.good hc
    exact h2.co _ (by rw [h2.st]; exact h3)
  | false =>
    rcases h with ⟨_, rfl⟩ | ⟨h1, _⟩
    · cases e : (emptyQ f.L).tr.co (emptyQ f.L).L (emptyQ f.L).s with
      | false => rfl
      | true =>
        obtain ⟨w, hw, hv⟩ := Tr.co_t.1 e
        rw [show (emptyQ f.L).tr.val (emptyQ f.L).s w = none from emptyQ_val f.L hw] at hv; cases hv
    · rw [hc] at h1; cases h1
theorem Pf_le {d : Sq} {P : List Wd} (hP : d.Pf P) {q : Nat} (hq : q < d.n) (he : d.e q = true) : (P.getD q []).length ≤ (d.f q).length :=
  (Tr.up_fi (T := d.tr) he (hP.lcp q hq).pre).length_le
end Go.Sq
namespace Go.Sq
open Go Go.Eng Go.Am
/-- a row in place of another at the same place: the row of rows stays -/
theorem rxv_put {α : Type} {os : List (Rx α)} {q : Nat} {xs : List α} (h : xs.length = (os.getD q rx0).xs.length) : (os.set q ⟨(os.getD q rx0).a, (os.getD q rx0).cp, xs⟩).map rxv = os.map rxv := by
  refine list_ext_getD (.int .i64 0) (by simp) fun i hi => ?_
  simp only [List.length_map, List.length_set] at hi
  rw [getD_map _ _ _ rx0 (by simpa using hi), getD_map _ _ _ rx0 hi, gsetX]
  split
  · rename_i h2
    rw [← h2.1]
    simp only [rxv, h]
  · rfl
end Go.Sq

namespace Go.Sq
open Go Go.Eng Go.Am
open Go.Tl (Wd bo okW okB)
/-! what a state writes, as a text -/
theorem CoarseQ.top {g : Sq} {c : List Nat} (h : CoarseQ g c) : topL c ≤ g.n := by
  have := fo_top_le h.fo (Nat.le_refl c.length)
  rw [List.take_length, h.len] at this
  exact this
end Go.Sq


