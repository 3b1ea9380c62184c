/-
  Plain facts, without a program. No condition.
-/
import Derived.Test.YtmggcdegekbncabGreatDoorMod
import Derived.Test.YtmggcdegekbncabGreatDoorEng1
import Derived.Test.YtmggcdegekbncabGreatDoorEng
set_option linter.unusedSimpArgs false
namespace Go.Ex
open Go Go.Eng
/-! the parser, step by step -/
/-- the byte at the text's head, 0 at its end -/
def hd : Tx → UInt8
  | [] => 0
  | b :: _ => b
theorem hd_iff {s : UInt8} (hs : s ≠ 0) {t : Tx} : ((hd t).toNat : Int) = (s.toNat : Int) ↔ ∃ l, t = s :: l := by
  cases t with
  | nil =>
    refine ⟨fun h => ?_, fun ⟨l, h⟩ => by cases h⟩
    have h1 : (0 : UInt8).toNat = s.toNat := by have := h; simp only [hd] at this; omega
    exact absurd (UInt8.toNat_inj.1 h1).symm hs
  | cons b l =>
    refine ⟨fun h => ⟨l, ?_⟩, fun ⟨m, h⟩ => by cases h; rfl⟩
    have h1 : b.toNat = s.toNat := by simp only [hd] at h; omega
    rw [UInt8.toNat_inj.1 h1]
/-- the rest of a list of parts, behind its first part -/
def Mny (part : Tx → Option (Ex × Tx)) (go : Tx → Option Tx) (n : Nat) (l : Tx) (es : List Ex) (rest : Tx) : Prop := match go (skip l) with
  | none => es = [] ∧ rest = skip l
  | some l2 => pMany part go n l2 = some (es, rest)
section
variable {part : Tx → Option (Ex × Tx)} {go : Tx → Option Tx}
theorem pMany_some {n : Nat} {l : Tx} {es : List Ex} {rest : Tx} (h : pMany part go n l = some (es, rest)) : ∃ m e l1 es', n = m + 1 ∧ part l = some (e, l1) ∧ es = e :: es' ∧ Mny part go m l1 es' rest := by
  cases n with
  | zero => rw [pMany] at h; cases h
  | succ m =>
    rw [pMany] at h
    split at h
    · cases h
    · rename_i e l1 hp
      split at h
      · rename_i hg
        cases h
        exact ⟨m, e, l1, [], rfl, hp, rfl, by unfold Mny; rw [hg]; exact ⟨rfl, rfl⟩⟩
      · rename_i l2 hg
        split at h
        · cases h
        · rename_i es' l3 hm
          cases h
          exact ⟨m, e, l1, es', rfl, hp, rfl, by unfold Mny; rw [hg]; exact hm⟩
theorem Mny.stop {n : Nat} {l : Tx} {es : List Ex} {rest : Tx} (h : Mny part go n l es rest) (hg : go (skip l) = none) : es = [] ∧ rest = skip l := by unfold Mny at h; rw [hg] at h; exact h
theorem Mny.next {n : Nat} {l l2 : Tx} {es : List Ex} {rest : Tx} (h : Mny part go n l es rest) (hg : go (skip l) = some l2) : ∃ m e l1 es', n = m + 1 ∧ part l2 = some (e, l1) ∧ es = e :: es' ∧ Mny part go m l1 es' rest := by
  unfold Mny at h; rw [hg] at h; exact pMany_some h
end
theorem sepG_no {s : UInt8} {t : Tx} (h : ¬ ∃ l, t = s :: l) : sepG s t = none := by
  cases t with
  | nil => rfl
  | cons b l => rw [sepG, if_neg (fun e => h ⟨l, by rw [e]⟩)]
theorem sepG_yes (s : UInt8) (l : Tx) : sepG s (s :: l) = some l := by rw [sepG, if_pos rfl]
/-- does a part begin here -/
def begB (L : Nat) (b : UInt8) : Bool := decide (b = 33 ∨ b = 40 ∨ b = 48 ∨ b = 49 ∨ isLet L b = true)
theorem u8_eq {b c : UInt8} (h : (b.toNat : Int) = (c.toNat : Int)) : b = c := UInt8.toNat_inj.1 (by omega)
theorem begB_yes {L : Nat} {b : UInt8} (h : (b.toNat : Int) = 33 ∨ (b.toNat : Int) = 40 ∨ (b.toNat : Int) = 48 ∨ (b.toNat : Int) = 49) : begB L b = true := by
  unfold begB
  rw [decide_eq_true_eq]
  rcases h with h | h | h | h
  · exact .inl (u8_eq (c := 33) h)
  · exact .inr (.inl (u8_eq (c := 40) h))
  · exact .inr (.inr (.inl (u8_eq (c := 48) h)))
  · exact .inr (.inr (.inr (.inl (u8_eq (c := 49) h))))
theorem begB_let {L : Nat} {b : UInt8} (h1 : ¬ (b.toNat : Int) = 33) (h2 : ¬ (b.toNat : Int) = 40) (h3 : ¬ (b.toNat : Int) = 48) (h4 : ¬ (b.toNat : Int) = 49) : begB L b = isLet L b := by
  unfold begB
  have k1 : ¬ b = 33 := fun e => h1 (by rw [e]; rfl)
  have k2 : ¬ b = 40 := fun e => h2 (by rw [e]; rfl)
  have k3 : ¬ b = 48 := fun e => h3 (by rw [e]; rfl)
  have k4 : ¬ b = 49 := fun e => h4 (by rw [e]; rfl)
  simp [k1, k2, k3, k4]
theorem begG_hd (L : Nat) (t : Tx) : begG L t = if begB L (hd t) = true then some t else none := by
  cases t with
  | nil =>
    have h0 : begB L (hd []) = false := by
      unfold begB hd
      rw [decide_eq_false_iff_not]
      rintro (h | h | h | h | h)
      · revert h; decide
      · revert h; decide
      · revert h; decide
      · revert h; decide
      · unfold isLet at h; revert h; simp
    rw [h0]; rfl
  | cons b l =>
    rw [begG]
    by_cases h : b = 33 ∨ b = 40 ∨ b = 48 ∨ b = 49 ∨ isLet L b = true
    · rw [if_pos h, if_pos (by unfold begB hd; exact decide_eq_true h)]
    · rw [if_neg h, if_neg (by unfold begB hd; rw [decide_eq_false h]; simp)]
section
variable {L n : Nat} {l rest : Tx} {e : Ex}
theorem pP_0 (h : pP L n 0 l = some (e, rest)) : ∃ m es, n = m + 1 ∧ pMany (pP L m 1) (sepG 124) m l = some (es, rest) ∧ e = nodeE 4 es := by
  cases n with
  | zero => rw [pP] at h; cases h
  | succ m =>
    rw [pP, if_pos rfl, Option.map_eq_some_iff] at h
    obtain ⟨⟨es, r⟩, h1, h2⟩ := h
    cases h2
    exact ⟨m, es, rfl, h1, rfl⟩
theorem pP_1 (h : pP L n 1 l = some (e, rest)) : ∃ m es, n = m + 1 ∧ pMany (pP L m 2) (sepG 38) m l = some (es, rest) ∧ e = nodeE 6 es := by
  cases n with
  | zero => rw [pP] at h; cases h
  | succ m =>
    rw [pP, if_neg (by decide), if_pos rfl, Option.map_eq_some_iff] at h
    obtain ⟨⟨es, r⟩, h1, h2⟩ := h
    cases h2
    exact ⟨m, es, rfl, h1, rfl⟩
theorem pP_2 (h : pP L n 2 l = some (e, rest)) : ∃ m es, n = m + 1 ∧ pMany (pP L m 3) (begG L) m l = some (es, rest) ∧ e = nodeE 5 es := by
  cases n with
  | zero => rw [pP] at h; cases h
  | succ m =>
    rw [pP, if_neg (by decide), if_neg (by decide), if_pos rfl, Option.map_eq_some_iff] at h
    obtain ⟨⟨es, r⟩, h1, h2⟩ := h
    cases h2
    exact ⟨m, es, rfl, h1, rfl⟩
theorem pP_3 (h : pP L n 3 l = some (e, rest)) : ∃ m, n = m + 1 ∧ ((∃ l' e1, skip l = 33 :: l' ∧ pP L m 3 l' = some (e1, rest) ∧ e = .mk 8 0 [e1]) ∨ (¬ (∃ l', skip l = 33 :: l') ∧ pP L m 4 (skip l) = some (e, rest))) := by
  cases n with
  | zero => rw [pP] at h; cases h
  | succ m =>
    refine ⟨m, rfl, ?_⟩
    rw [pP, if_neg (by decide), if_neg (by decide), if_neg (by decide), if_pos rfl] at h
    split at h
    · rename_i hs
      exact .inr ⟨(fun ⟨l', e1⟩ => by rw [hs] at e1; cases e1), by rw [hs]; exact h⟩
    · rename_i b l' hs
      split at h
      · rename_i hb
        subst hb
        rw [Option.map_eq_some_iff] at h
        obtain ⟨⟨e1, r⟩, h1, h2⟩ := h
        cases h2
        exact .inl ⟨l', e1, hs, h1, rfl⟩
      · rename_i hb
        exact .inr ⟨(fun ⟨l2, e1⟩ => by rw [hs] at e1; cases e1; exact hb rfl), by rw [hs]; exact h⟩
theorem pP_4 (h : pP L n 4 l = some (e, rest)) : ∃ m e1 l1, n = m + 1 ∧ pP L m 5 l = some (e1, l1) ∧ stars m e1 l1 = some (e, rest) := by
  cases n with
  | zero => rw [pP] at h; cases h
  | succ m =>
    rw [pP, if_neg (by decide), if_neg (by decide), if_neg (by decide), if_neg (by decide), if_pos rfl] at h
    split at h
    · cases h
    · rename_i e1 l1 h1
      exact ⟨m, e1, l1, rfl, h1, h⟩
theorem stars_some {e' : Ex} (h : stars n e l = some (e', rest)) : ∃ m, n = m + 1 ∧ ((∃ l', skip l = 42 :: l' ∧ stars m (.mk 7 0 [e]) l' = some (e', rest)) ∨ (¬ (∃ l', skip l = 42 :: l') ∧ e' = e ∧ rest = skip l)) := by
  cases n with
  | zero => rw [stars] at h; cases h
  | succ m =>
    refine ⟨m, rfl, ?_⟩
    rw [stars] at h
    split at h
    · rename_i hs
      cases h
      exact .inr ⟨(fun ⟨l', e1⟩ => by rw [hs] at e1; cases e1), rfl, hs.symm⟩
    · rename_i b l' hs
      split at h
      · rename_i hb
        subst hb
        exact .inl ⟨l', hs, h⟩
      · rename_i hb
        cases h
        exact .inr ⟨(fun ⟨l2, e1⟩ => by rw [hs] at e1; cases e1; exact hb rfl), rfl, hs.symm⟩
/-- what an atom is, by its first byte -/
theorem pP_5 (h : pP L n 5 l = some (e, rest)) : ∃ m b l', n = m + 1 ∧ skip l = b :: l' ∧ ((b = 48 ∧ e = emp ∧ rest = l') ∨ (b = 49 ∧ e = unit ∧ rest = l') ∨ (b ≠ 48 ∧ b ≠ 49 ∧ isLet L b = true ∧ e = .mk 3 ((b.toNat - 97 : Nat) : Int) [] ∧ rest = l') ∨ (b ≠ 48 ∧ b ≠ 49 ∧ isLet L b = false ∧ b = 40 ∧ ∃ l2, pP L m 0 l' = some (e, l2) ∧ skip l2 = 41 :: rest)) := by
  cases n with
  | zero => rw [pP] at h; cases h
  | succ m =>
    rw [pP, if_neg (by decide), if_neg (by decide), if_neg (by decide), if_neg (by decide), if_neg (by decide)] at h
    split at h
    · cases h
    · rename_i b l' hs
      refine ⟨m, b, l', rfl, hs, ?_⟩
      split at h
      · rename_i hb; cases h; exact .inl ⟨hb, rfl, rfl⟩
      · rename_i h1
        split at h
        · rename_i hb; cases h; exact .inr (.inl ⟨hb, rfl, rfl⟩)
        · rename_i h2
          split at h
          · rename_i hb; cases h; exact .inr (.inr (.inl ⟨h1, h2, hb, rfl, rfl⟩))
          · rename_i h3
            split at h
            · rename_i hb
              split at h
              · cases h
              · rename_i e1 l2 hp
                split at h
                · cases h
                · rename_i b2 l3 hs2
                  split at h
                  · rename_i hb2
                    cases h
                    exact .inr (.inr (.inr ⟨h1, h2, by simpa using h3, hb, l2, hp, by rw [hs2, hb2]⟩))
                  · cases h
            · cases h
end
theorem isLet_dec (L : Nat) (b : UInt8) : isLet L b = decide (97 ≤ (b.toNat : Int) ∧ (b.toNat : Int) - 97 < L) := by
  unfold isLet
  rw [Bool.eq_iff_iff]
  simp only [Bool.and_eq_true, decide_eq_true_eq]
  omega
/-- what an atom is -/
def AtD (f0 : Tx → Option (Ex × Tx)) (b : UInt8) (l' : Tx) (e : Ex) (rest : Tx) : Prop := (b = 48 ∧ e = emp ∧ rest = l') ∨ (b = 49 ∧ e = unit ∧ rest = l') ∨ (b ≠ 48 ∧ b ≠ 49 ∧ isLet 2 b = true ∧ e = .mk 3 ((b.toNat - 97 : Nat) : Int) [] ∧ rest = l') ∨ (b ≠ 48 ∧ b ≠ 49 ∧ isLet 2 b = false ∧ b = 40 ∧ ∃ l2, f0 l' = some (e, l2) ∧ skip l2 = 41 :: rest)
section
variable {f0 : Tx → Option (Ex × Tx)} {b : UInt8} {l' rest : Tx} {e : Ex}
theorem AtD.at_48 (h : AtD f0 b l' e rest) (hb : (b.toNat : Int) = 48) : e = emp ∧ rest = l' := by
  have hb := u8_eq (c := 48) hb
  subst hb
  rcases h with ⟨_, h⟩ | ⟨h, _⟩ | ⟨h, _⟩ | ⟨h, _⟩
  · exact h
  · exact absurd h (by decide)
  · exact absurd rfl h
  · exact absurd rfl h
theorem AtD.at_49 (h : AtD f0 b l' e rest) (hb : (b.toNat : Int) = 49) : e = unit ∧ rest = l' := by
  have hb := u8_eq (c := 49) hb
  subst hb
  rcases h with ⟨h, _⟩ | ⟨_, h⟩ | ⟨_, h, _⟩ | ⟨_, h, _⟩
  · exact absurd h (by decide)
  · exact h
  · exact absurd rfl h
  · exact absurd rfl h
theorem AtD.at_let (h : AtD f0 b l' e rest) (h8 : ¬ (b.toNat : Int) = 48) (h9 : ¬ (b.toNat : Int) = 49) (hb : isLet 2 b = true) : e = .mk 3 ((b.toNat : Int) - 97) [] ∧ rest = l' ∧ 97 ≤ (b.toNat : Int) := by
  have hl := hb
  rw [isLet_dec, decide_eq_true_eq] at hl
  rcases h with ⟨h, _⟩ | ⟨h, _⟩ | ⟨_, _, _, h⟩ | ⟨_, _, h, _⟩
  · exact absurd (by rw [h]; rfl) h8
  · exact absurd (by rw [h]; rfl) h9
  · exact ⟨by rw [h.1, show ((b.toNat - 97 : Nat) : Int) = (b.toNat : Int) - 97 by omega], h.2, hl.1⟩
  · rw [hb] at h; cases h
theorem AtD.at_40 (h : AtD f0 b l' e rest) (h8 : ¬ (b.toNat : Int) = 48) (h9 : ¬ (b.toNat : Int) = 49) (hb : isLet 2 b = false) : (b.toNat : Int) = 40 ∧ ∃ l2, f0 l' = some (e, l2) ∧ skip l2 = 41 :: rest := by
  rcases h with ⟨h, _⟩ | ⟨h, _⟩ | ⟨_, _, h, _⟩ | ⟨_, _, _, h, h2⟩
  · exact absurd (by rw [h]; rfl) h8
  · exact absurd (by rw [h]; rfl) h9
  · rw [hb] at h; cases h
  · exact ⟨by rw [h]; rfl, h2⟩
end
theorem nodeE_two {o : Int} {es : List Ex} (h : es.length ≠ 1) : nodeE o es = .mk o 0 es := by
  match es, h with
  | [], _ => rfl
  | [_], h => exact absurd rfl h
  | _ :: _ :: _, _ => rfl
theorem drop_cons {ts : Tx} {k : Nat} (h : k < ts.length) : ts.drop k = ts.getD k 0 :: ts.drop (k + 1) := by
  rw [List.drop_eq_getElem_cons h, List.getD_eq_getElem?_getD, List.getElem?_eq_getElem h]; rfl
theorem drop_tail {ts l : Tx} {b : UInt8} {k : Nat} (h : ts.drop k = b :: l) : k < ts.length ∧ ts.drop (k + 1) = l := by
  have hk : k < ts.length := by
    rcases Nat.lt_or_ge k ts.length with h1 | h1
    · exact h1
    · rw [List.drop_of_length_le h1] at h; cases h
  rw [drop_cons hk] at h
  cases h
  exact ⟨hk, rfl⟩
theorem skip_sp {ts : Tx} {k : Nat} (hk : k < ts.length) (h : ((ts.getD k 0).toNat : Int) = 32) : skip (ts.drop k) = skip (ts.drop (k + 1)) := by
  rw [drop_cons hk, skip, if_pos (UInt8.toNat_inj.1 (by show _ = 32; omega))]
theorem skip_no {ts : Tx} {k : Nat} (hk : k < ts.length) (h : ¬ ((ts.getD k 0).toNat : Int) = 32) : skip (ts.drop k) = ts.drop k := by
  rw [drop_cons hk, skip, if_neg (fun e => h (by rw [e]; rfl))]
theorem skip_end {ts : Tx} {k : Nat} (hk : ts.length ≤ k) : skip (ts.drop k) = [] := by rw [List.drop_of_length_le hk]; rfl
theorem hd_drop {ts : Tx} {k : Nat} (hk : k < ts.length) : hd (ts.drop k) = ts.getD k 0 := by rw [drop_cons hk]; rfl
theorem lim2 {e : Ex} (h : vdE 2 e = 0) : wf 2 e = true ∧ szE e ≤ 400 ∧ inLim e = true := by
  obtain ⟨_, h2, h3⟩ := vdE_zero.1 h
  exact ⟨h3, (inLim_iff.1 h2).1, h2⟩
abbrev pkc (ts : Tx) (at' : Nat) : List Value := [sv ts, .int .i64 (at' : Int), .int .i64 2]
abbrev pk (T b : Nat) (ts : Tx) (at' : Nat) : Chunk := .row T 3 (vb b) 1 (pkc ts at')
/-- what the parser's method g does: it reads as f does -/
def PartC (P : Program) (T g b : Nat) (ts : Tx) (f : Tx → Option (Ex × Tx)) : Prop := ∀ (w : World) (k : Nat) (e : Ex) (rest : Tx), k ≤ ts.length → Pre [pk T b ts k] w → f (ts.drop k) = some (e, rest) →
  Calls P g #[.pointer (some ⟨b, 0, none⟩)] w fun r w' => ∃ i : Xv × List Nat × Nat, (toE i.1 = e ∧ i.2.2 ≤ ts.length ∧ ts.drop i.2.2 = rest) ∧ r = .returned (evv i.1) ∧ Post (blks [pk T b ts k]) [pk T b ts i.2.2, fx (AllM []) [i.1] i.2.1] w w'
end Go.Ex

