/-
  Plain facts, without a program. No condition.
-/
import Derived.Test.YtamolakhpcofhaaMod
set_option linter.unusedSimpArgs false
namespace Go.Sq
open Go Go.Eng Go.Am
open Go.Tl (Wd bo okW okB)
/-! short words, sizes; what Normal writes -/
theorem run_lt {d : Sq} (hf : d.Fit) {w : List Nat} : ∀ {q p : Nat} {l : Wd}, q < d.n → InW d.L w → d.tr.run q w = some (p, l) → p < d.n := by
  induction w with
  | nil => intro q p l hq _ h; cases h; exact hq
  | cons x w ih =>
    intro q p l hq hw h
    cases e : d.to q x with
    | none => rw [Tr.run_none (T := d.tr) e] at h; cases h
    | some r =>
      rw [Tr.run_some (T := d.tr) e] at h
      obtain ⟨⟨p', l'⟩, h1, h2⟩ := Option.map_eq_some_iff.1 h
      cases h2
      exact ih (hf.lt q x r hq hw.head e) hw.tail h1
theorem co_short {d : Sq} (hf : d.Fit) {q : Nat} (hq : q < d.n) (hc : d.tr.co d.L q = true) : ∃ w, InW d.L w ∧ (d.tr.val q w).isSome = true ∧ w.length < d.n := by
  have key : ∀ m w, w.length ≤ m → InW d.L w → (d.tr.val q w).isSome = true → ∃ w, InW d.L w ∧ (d.tr.val q w).isSome = true ∧ w.length < d.n := by
    intro m
    induction m with
    | zero =>
      intro w hl hw hv
      exact ⟨w, hw, hv, by omega⟩
    | succ m ih =>
      intro w hl hw hv
      rcases Nat.lt_or_ge w.length d.n with h1 | h1
      · exact ⟨w, hw, hv, h1⟩
      · -- some state is met twice
        have hrun : ∀ i, i ≤ w.length → ∃ p l, d.tr.run q (w.take i) = some (p, l) ∧ p < d.n := fun i hi => by
          have e := List.take_append_drop i w
          rw [← e, Tr.val_app] at hv
          cases e2 : d.tr.run q (w.take i) with
          | none => rw [e2] at hv; cases hv
          | some p => exact ⟨p.1, p.2, rfl, run_lt hf hq (hw.take i) e2⟩
        let st : Nat → Nat := fun i => ((d.tr.run q (w.take i)).map (·.1)).getD 0
        have hst : ∀ i, i ≤ w.length → st i < d.n := fun i hi => by
          obtain ⟨p, l, e, hp⟩ := hrun i hi
          show ((d.tr.run q (w.take i)).map (·.1)).getD 0 < d.n
          rw [e]; exact hp
        have hnd : ¬ ((List.range (d.n + 1)).map st).Nodup := fun hnd => by
          have := nodup_lt_len hnd (n := d.n) (fun p hp => by
            obtain ⟨i, hi, rfl⟩ := List.mem_map.1 hp
            exact hst i (by have := List.mem_range.1 hi; omega))
          rw [List.length_map, List.length_range] at this
          omega
        obtain ⟨i, j, hij, hj, he⟩ : ∃ i j, i < j ∧ j ≤ d.n ∧ st i = st j := Classical.byContradiction fun hcon => by
          apply hnd
          rw [List.nodup_iff_pairwise_ne, List.pairwise_iff_getElem]
          intro i j hi hj hij e
          simp only [List.length_map, List.length_range] at hi hj
          simp only [List.getElem_map, List.getElem_range] at e
          exact hcon ⟨i, j, hij, by omega, e⟩
        obtain ⟨p, l, e1, _⟩ := hrun i (by omega)
        obtain ⟨p', l', e2, _⟩ := hrun j (by omega)
        have hpp : p = p' := by
          have he : ((d.tr.run q (w.take i)).map (·.1)).getD 0 = ((d.tr.run q (w.take j)).map (·.1)).getD 0 := he
          rw [e1, e2] at he; exact he
        subst hpp
        refine ih (w.take i ++ w.drop j) ?_ ((hw.take i).app fun x hx => hw x (List.mem_of_mem_drop hx)) ?_
        · rw [List.length_append, List.length_take, List.length_drop]; omega
        · rw [Tr.val_app, e1]
          rw [← List.take_append_drop j w, Tr.val_app, e2] at hv
          show ((d.tr.val p (w.drop j)).map (l ++ ·)).isSome = true
          have hv : ((d.tr.val p (w.drop j)).map (l' ++ ·)).isSome = true := hv
          cases e3 : d.tr.val p (w.drop j) with
          | none => rw [e3] at hv; cases hv
          | some v => rfl
  obtain ⟨w, hw, hv⟩ := Tr.co_t.1 hc
  exact key w.length w (Nat.le_refl _) hw hv
theorem val_text {d : Sq} {M : Nat} (hd : d.Ok M) {w : List Nat} : ∀ {q : Nat} {v : Wd}, q < d.n → InW d.L w → d.tr.val q w = some v → okT ((w.length + 1) * M) v := by
  induction w with
  | nil =>
    intro q v hq _ h
    rw [Tr.val] at h
    split at h
    · cases h
      exact (hd.tf q hq).mono (by simp)
    · cases h
  | cons x w ih =>
    intro q v hq hw h
    cases e : d.to q x with
    | none => rw [d.tr.val_none e] at h; cases h
    | some r =>
      rw [d.tr.val_some e] at h
      obtain ⟨u, h1, rfl⟩ := Option.map_eq_some_iff.1 h
      have h2 := ih (hd.lt q x r hq hw.head e) hw.tail h1
      have h3 := (hd.to' q x hq hw.head).app h2
      refine h3.mono ?_
      rw [List.length_cons, Nat.add_mul (w.length + 1) 1 M]; omega
theorem Pf_text {d : Sq} {M : Nat} {P : List Wd} (hd : d.Ok M) (hall : ∀ r, r < d.n → d.tr.co d.L r = true) (hP : d.Pf P) {q : Nat} (hq : q < d.n) : okT (d.n * M) (P.getD q []) := by
  obtain ⟨w, hw, hv, hl⟩ := co_short hd.fit hq (hall q hq)
  obtain ⟨v, hv⟩ := Option.isSome_iff_exists.1 hv
  have h1 := (hP.lcp q hq).pre w v hw hv
  have h2 := val_text hd hq hw hv
  have h3 := Nat.mul_le_mul_right M (show w.length + 1 ≤ d.n from hl)
  exact ⟨by have := h1.length_le; have := h2.1; omega, fun b hb => h2.2 b (h1.subset hb)⟩
theorem okT.drop {M : Nat} {s : Wd} (h : okT M s) (k : Nat) : okT M (s.drop k) := ⟨by rw [List.length_drop]; have := h.1; omega, fun b hb => h.2 b (List.mem_of_mem_drop hb)⟩
theorem emptyQ_ok {L : Nat} (hL : 1 ≤ L ∧ L ≤ 6) (M : Nat) : (emptyQ L).Ok M := by
  have hf := emptyQ_fit L
  refine ⟨hL, by show 1 ≤ 512; decide, Nat.zero_lt_one, hf.len, hf.row, hf.lt, hf.no, (emptyQ_bis L).nf, okT.nil M, fun q x _ _ => by rw [emptyQ_o]; exact okT.nil M, fun q hq => ?_⟩
  obtain rfl : q = 0 := Nat.lt_one_iff.1 hq
  exact okT.nil M
theorem IsTrim.ok {f g : Sq} {M : Nat} (hf : f.Ok M) (h : IsTrim f.tr f.L f.s f.init g) : g.Ok M ∧ g.n ≤ f.n := by
  rcases h with ⟨_, rfl⟩ | ⟨hc, K, hK, rfl⟩
  · exact ⟨emptyQ_ok hf.may M, Nat.lt_of_le_of_lt (Nat.zero_le _) hf.st⟩
  · have hcl : ∀ a x b, a ∈ bfsP (f.tr.stC f.L) f.L f.s K → x < f.L → f.tr.stC f.L a x = some b → b ∈ bfsP (f.tr.stC f.L) f.L f.s K := fun a x b ha hx hb => hK.closed ha hx hb
    have hlt := bfsC_lt hf.fit hf.st (show 0 < f.L from hf.may.1) K
    have hfit := trimT_fit (init := f.init) hcl
    have hlen := bfsC_len hf.fit hf.st (show 0 < f.L from hf.may.1) K
    have hmem : ∀ i, i < (bfsP (f.tr.stC f.L) f.L f.s K).length → (bfsP (f.tr.stC f.L) f.L f.s K).getD i 0 < f.n := fun i hi => hlt _ (getDm hi)
    refine ⟨⟨hf.may, by rw [trimT_n]; exact Nat.le_trans hlen hf.n5, by rw [trimT_n]; exact bfsP_pos K, hfit.len, hfit.row, hfit.lt, hfit.no, fun q hq he => ?_, hf.ti, fun q x hq hx => ?_, fun q hq => ?_⟩, by rw [trimT_n]; exact hlen⟩
    · rw [trimT_n] at hq
      rw [trimT_e 0 hq] at he
      rw [trimT_f 0 hq]
      exact hf.nf _ (hmem q hq) he
    · rw [trimT_n] at hq
      rw [trimT_o 0 hq (show x < f.L from hx)]
      split
      · exact hf.to' _ x (hmem q hq) hx
      · exact okT.nil M
    · rw [trimT_n] at hq
      rw [trimT_f 0 hq]
      exact hf.tf _ (hmem q hq)
theorem normD_ok {d : Sq} {M : Nat} {P : List Wd} (hd : d.Ok M) (ht : d.Trimmed) (hP : d.Pf P) : (normD d P).Ok ((d.n + 1) * M) := by
  have hfit := normD_fit hd.fit P
  have hPt := fun q hq => Pf_text hd ht.co hP (q := q) hq
  have e1 : (d.n + 1) * M = M + d.n * M := by rw [Nat.add_mul, Nat.one_mul, Nat.add_comm]
  refine ⟨hd.may, hd.n5, hd.st, hfit.len, hfit.row, hfit.lt, hfit.no, fun q hq he => ?_, ?_, fun q x hq hx => ?_, fun q hq => ?_⟩
  · have he : d.e q = false := he
    rw [normD_f (show q < d.n from hq), he]
    exact hd.nf q hq he
  · rw [e1]; exact hd.ti.app (hPt _ hd.st)
  · replace hq : q < d.n := hq
    replace hx : x < d.L := hx
    rw [normD_o hq hx, e1]
    cases e : d.to q x with
    | none => exact (hd.to' q x hq hx).mono (Nat.le_add_right _ _)
    | some r => exact ((hd.to' q x hq hx).app (hPt r (hd.lt q x r hq hx e))).drop _
  · replace hq : q < d.n := hq
    rw [normD_f hq, e1]
    split
    · exact ((hd.tf q hq).drop _).mono (Nat.le_add_right _ _)
    · exact (hd.tf q hq).mono (Nat.le_add_right _ _)
/-- the rows of Out while Normal writes them -/
structure NoI (d : Sq) (P : List Wd) (q x : Nat) (os : List (Rx Wd)) : Prop where
  len : os.length = d.n
  rl : ∀ p, p < d.n → (os.getD p rx0).xs.length = d.L
  at_ : ∀ p y, p < d.n → y < d.L → (os.getD p rx0).xs.getD y [] = if p < q ∨ (p = q ∧ y < x) then (normD d P).o p y else d.o p y
section
variable {d : Sq} {P : List Wd} {q x : Nat} {os : List (Rx Wd)}
theorem NoI.old (h : NoI d P q x os) (hq : q < d.n) (hx : x < d.L) : (os.getD q rx0).xs.getD x [] = d.o q x := by rw [h.at_ q x hq hx, if_neg (by omega)]
theorem NoI.row (h : NoI d P q d.L os) : NoI d P (q + 1) 0 os := ⟨h.len, h.rl, fun p y hp hy => by
  rw [h.at_ p y hp hy]
  by_cases e : p < q ∨ (p = q ∧ y < d.L)
  · rw [if_pos e, if_pos (by omega)]
  · rw [if_neg e, if_neg (by omega)]⟩
theorem NoI.put (h : NoI d P q x os) (hq : q < d.n) {r : Rx Wd} (hr : r.xs = (os.getD q rx0).xs.set x ((normD d P).o q x)) : NoI d P q (x + 1) (os.set q r) := by
  refine ⟨by rw [List.length_set, h.len], fun p hp => ?_, fun p y hp hy => ?_⟩
  · rw [gsetX]
    split
    · rw [hr, List.length_set, h.rl q hq]
    · exact h.rl p hp
  · rw [gsetX, h.len]
    by_cases e : q = p
    · subst e
      rw [if_pos ⟨rfl, hq⟩, hr, gset', h.rl q hq]
      by_cases e2 : x = y
      · subst e2; rw [if_pos ⟨rfl, hy⟩, if_pos (by omega)]
      · rw [if_neg (fun h => e2 h.1), h.at_ q y hq hy]
        by_cases e3 : q < q ∨ (q = q ∧ y < x)
        · rw [if_pos e3, if_pos (by omega)]
        · rw [if_neg e3, if_neg (by omega)]
    · rw [if_neg (fun h => e h.1), h.at_ p y hp hy]
      by_cases e3 : p < q ∨ (p = q ∧ y < x)
      · rw [if_pos e3, if_pos (by omega)]
      · rw [if_neg e3, if_neg (by omega)]
theorem NoI.keep (h : NoI d P q x os) (hn : d.to q x = none) : NoI d P q (x + 1) os := ⟨h.len, h.rl, fun p y hp hy => by
  rw [h.at_ p y hp hy]
  by_cases e3 : p < q ∨ (p = q ∧ y < x)
  · rw [if_pos e3, if_pos (by omega)]
  · rw [if_neg e3]
    by_cases e : p = q ∧ y = x
    · obtain ⟨rfl, rfl⟩ := e
      rw [if_pos (by omega), normD_o hp hy, hn]
    · rw [if_neg (by omega)]⟩
theorem NoI.done (h : NoI d P d.n 0 os) : os.map (·.xs) = (normD d P).ou := by
  have e1 : ∀ p, p < d.n → ((normD d P).ou.getD p []).length = d.L := fun p hp => by
    show ((List.map _ _).getD p []).length = d.L
    rw [getD_rng _ _ _ hp]; simp
  refine ext_rows (n := d.n) (L := d.L) (by rw [List.length_map, h.len]) (by show (List.map _ _).length = _; simp) (fun q hq => by rw [rx_getD]; exact h.rl q hq) e1 [] fun q x hq hx => ?_
  rw [rx_getD, h.at_ q x hq hx, if_pos (.inl hq)]
  rfl
def noF (d : Sq) (P : List Wd) (q : Nat) : List Wd := (List.range d.n).map fun p => if p < q then (normD d P).f p else d.f p
theorem noF_len (d : Sq) (P : List Wd) (q : Nat) : (noF d P q).length = d.n := by simp [noF]
theorem noF_get {d : Sq} {P : List Wd} {q p : Nat} (hp : p < d.n) : (noF d P q).getD p [] = if p < q then (normD d P).f p else d.f p := getD_rng _ _ _ hp
theorem noF_zero {d : Sq} (hf : d.fi.length = d.n) (P : List Wd) : noF d P 0 = d.fi := by
  refine list_ext_getD [] (by rw [noF_len, hf]) fun i hi => ?_
  rw [noF_len] at hi
  rw [noF_get hi, if_neg (by omega)]; rfl
theorem noF_end (d : Sq) (P : List Wd) : noF d P d.n = (normD d P).fi := by
  refine list_ext_getD [] (by rw [noF_len]; show _ = (List.map _ _).length; simp) fun i hi => ?_
  rw [noF_len] at hi
  rw [noF_get hi, if_pos hi]; rfl
theorem noF_put {d : Sq} {P : List Wd} {q : Nat} : ((noF d P q).map sv).set q (sv ((normD d P).f q)) = (noF d P (q + 1)).map sv := by
  rw [← List.map_set, noF, rng_put _ (fun p => if p < q + 1 then (normD d P).f p else d.f p) (by rw [if_pos (by omega)]) fun y _ hne => ?_]
  · rfl
  · by_cases h1 : y < q
    · simp [h1, show y < q + 1 by omega]
    · simp [h1, show ¬ y < q + 1 by omega]
theorem noF_keep {d : Sq} {P : List Wd} {q : Nat} (h : d.e q = false) : noF d P q = noF d P (q + 1) := by
  refine List.map_congr_left fun y hy => ?_
  have hy := List.mem_range.1 hy
  by_cases h1 : y < q
  · simp [h1, show y < q + 1 by omega]
  · by_cases h2 : y = q
    · subst h2; simp [normD_f hy, h]
    · simp [h1, show ¬ y < q + 1 by omega]
end
end Go.Sq

namespace Go.Sq
open Go Go.Eng Go.Am
open Go.Tl (Wd bo okW okB)
/-! Normal, further -/
theorem NoI.start {M : Nat} {S : Sv} (h : S.sq.Ok M) (P : List Wd) : NoI S.sq P 0 0 S.os :=
  ⟨by rw [h.lens.1, S.n_eq], fun p hp => h.olen (by rw [← S.n_eq]; exact hp), fun p y _ _ => by rw [if_neg (by omega), S.o_eq]⟩
theorem IsTrim.co_eq {f g : Sq} (h : IsTrim f.tr f.L f.s f.init g) : g.tr.co g.L g.s = f.tr.co f.L f.s := by
  cases hc : f.tr.co f.L f.s with
  | true =>
    obtain ⟨_, h2, h3, _⟩ := h.good hc
    exact h2.co _ (by rw [h2.st]; exact h3)
  | false =>
    rcases h with ⟨_, rfl⟩ | ⟨h1, _⟩
    · cases e : (emptyQ f.L).tr.co (emptyQ f.L).L (emptyQ f.L).s with
      | false => rfl
      | true =>
        obtain ⟨w, hw, hv⟩ := Tr.co_t.1 e
        rw [show (emptyQ f.L).tr.val (emptyQ f.L).s w = none from emptyQ_val f.L hw] at hv; cases hv
    · rw [hc] at h1; cases h1
theorem Pf_le {d : Sq} {P : List Wd} (hP : d.Pf P) {q : Nat} (hq : q < d.n) (he : d.e q = true) : (P.getD q []).length ≤ (d.f q).length :=
  (Tr.up_fi (T := d.tr) he (hP.lcp q hq).pre).length_le
end Go.Sq
namespace Go.Sq
open Go Go.Eng Go.Am
/-- a row in place of another at the same place: the row of rows stays -/
theorem rxv_put {α : Type} {os : List (Rx α)} {q : Nat} {xs : List α} (h : xs.length = (os.getD q rx0).xs.length) : (os.set q ⟨(os.getD q rx0).a, (os.getD q rx0).cp, xs⟩).map rxv = os.map rxv := by
  refine list_ext_getD (.int .i64 0) (by simp) fun i hi => ?_
  simp only [List.length_map, List.length_set] at hi
  rw [getD_map _ _ _ rx0 (by simpa using hi), getD_map _ _ _ rx0 hi, gsetX]
  split
  · rename_i h2
    rw [← h2.1]
    simp only [rxv, h]
  · rfl
end Go.Sq

namespace Go.Sq
open Go Go.Eng Go.Am
open Go.Tl (Wd bo okW okB)
/-! what a state writes, as a text -/
theorem CoarseQ.top {g : Sq} {c : List Nat} (h : CoarseQ g c) : topL c ≤ g.n := by
  have := fo_top_le h.fo (Nat.le_refl c.length)
  rw [List.take_length, h.len] at this
  exact this
end Go.Sq
namespace Go.Sq
open Go Go.Eng Go.Am
open Go.Tl (Wd bo)
end Go.Sq

namespace Go.Tl
open Go Go.Eng

end Go.Tl

