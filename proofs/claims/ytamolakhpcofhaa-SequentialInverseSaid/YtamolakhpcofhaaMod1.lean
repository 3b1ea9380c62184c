/-
  Plain facts, without a program. No condition.
-/
import Derived.Test.YtamolakhpcofhaaModb
import Derived.Test.YtamolakhpcofhaaEng1
import Derived.Test.YtamolakhpcofhaaMod
set_option linter.unusedSimpArgs false
namespace Go.Sq
open Go Go.Eng Go.Am
open Go.Tl (Wd bo okW okB)
/-! the function of the classes, row by row -/
def pad {α : Type} (m : Nat) (z : α) (l : List α) : List α := l ++ List.replicate (m - l.length) z
theorem pad_put {α : Type} {m k : Nat} {z v : α} {l : List α} (hk : l.length = k) (h : k < m) : (pad m z l).set k v = pad m z (l ++ [v]) := by
  subst hk
  unfold pad
  rw [show m - l.length = (m - (l.length + 1)) + 1 by omega, List.replicate_succ, List.set_append_right _ _ (Nat.le_refl _), Nat.sub_self, List.set_cons_zero, List.length_append, List.length_singleton, List.append_assoc, List.singleton_append]
def nrow (g : Sq) (c : List Nat) (p : Nat) : List (Option Nat) := (List.range g.L).map fun x => (g.to p x).map fun r => c.getD r 0
def orw (g : Sq) (p : Nat) : List Wd := (List.range g.L).map fun x => g.o p x
structure MiI (g : Sq) (c : List Nat) (q : Nat) (rs : List (Rx (Option Nat))) (os : List (Rx Wd)) : Prop where
  rl : rs.length = topL c
  ol : os.length = topL c
  nx : rs.map (·.xs) = pad (topL c) [] ((reps c q).map (nrow g c))
  ou : os.map (·.xs) = pad (topL c) [] ((reps c q).map (orw g))
  old : ∀ k, k < topL (c.take q) → (rs.getD k rx0).a.isSome = true
  new : ∀ k, topL (c.take q) ≤ k → rs.getD k rx0 = rx0
section
variable {g : Sq} {c : List Nat} {q : Nat} {rs : List (Rx (Option Nat))} {os : List (Rx Wd)}
theorem reps_new (hnew : c.getD q 0 = topL (c.take q)) : reps c (q + 1) = reps c q ++ [q] := by rw [reps, if_neg (by omega)]
theorem top_new (hq : q < c.length) (hnew : c.getD q 0 = topL (c.take q)) : topL (c.take (q + 1)) = topL (c.take q) + 1 := by rw [topL_take c hq]; omega
theorem MiI.put (h : MiI g c q rs os) (hfo : FO c) (hq : q < c.length) (hnew : c.getD q 0 = topL (c.take q)) {R : Rx (Option Nat)} {O : Rx Wd} (ha : R.a.isSome = true) (hR : R.xs = nrow g c q) (hO : O.xs = orw g q) : MiI g c (q + 1) (rs.set (c.getD q 0) R) (os.set (c.getD q 0) O) := by
  have hk : c.getD q 0 < topL c := topL_all c hq
  have hl : (reps c q).length = c.getD q 0 := by rw [reps_len hfo (by omega), hnew]
  refine ⟨by rw [List.length_set]; exact h.rl, by rw [List.length_set]; exact h.ol, ?_, ?_, fun k hk2 => ?_, fun k hk2 => ?_⟩
  · rw [List.map_set, h.nx, reps_new hnew, List.map_append, hR, pad_put (by rw [List.length_map, hl]) hk]; rfl
  · rw [List.map_set, h.ou, reps_new hnew, List.map_append, hO, pad_put (by rw [List.length_map, hl]) hk]; rfl
  · rw [top_new hq hnew] at hk2
    rw [gsetX]
    split
    · exact ha
    · rename_i hne
      refine h.old k ?_
      have : k ≠ c.getD q 0 := fun e => hne ⟨e.symm, by rw [h.rl]; exact hk⟩
      omega
  · rw [top_new hq hnew] at hk2
    rw [gsetX, if_neg (by omega)]
    exact h.new k (by omega)
end
end Go.Sq

namespace Go.Sq
open Go Go.Eng Go.Am
open Go.Tl (Wd bo okW okB)
/-! comparing; dealt functions -/
theorem okT_of_okW {M : Nat} {l : Wd} {k : Int} (h : okW l k = true) (hk : k ≤ 6) (hl : l.length ≤ M) : okT M l := by
  refine ⟨hl, fun b hb => ?_⟩
  unfold okW at h
  simp only [Bool.and_eq_true, List.all_eq_true] at h
  have := h.2.2 b hb
  unfold okB at this
  simp only [Bool.and_eq_true, decide_eq_true_eq] at this
  omega
/-- bytes among so many letters -/
def okO (o : Int) (s : Wd) : Prop := ∀ b ∈ s, (b.toNat : Int) < 97 + o
theorem okO.nil (o : Int) : okO o [] := fun _ h => by cases h
theorem okO.app {o : Int} {s t : Wd} (h : okO o s) (k : okO o t) : okO o (s ++ t) := fun b hb => by
  rcases List.mem_append.1 hb with h1 | h1
  · exact h b h1
  · exact k b h1
theorem okO_of_okW {l : Wd} {k : Int} (h : okW l k = true) : okO k l := by
  intro b hb
  unfold okW at h
  simp only [Bool.and_eq_true, List.all_eq_true] at h
  have := h.2.2 b hb
  unfold okB at this
  simp only [Bool.and_eq_true, decide_eq_true_eq] at this
  omega
structure Sq.Over (u : Int) (d : Sq) : Prop where
  i : okO u d.init
  o : ∀ q x, q < d.n → x < d.L → okO u (d.o q x)
  f : ∀ q, q < d.n → okO u (d.f q)
/-- a row that is dealt letter by letter -/
structure RowI (o : Int) (n x : Nat) (xs : List (Option Nat)) (ws : List Wd) : Prop where
  xl : xs.length = x
  wl : ws.length = x
  lt : ∀ y r, xs.getD y none = some r → r < n
  no : ∀ y, y < x → xs.getD y none = none → ws.getD y [] = []
  to : ∀ y, okT 2 (ws.getD y [])
  ov : ∀ y, okO o (ws.getD y [])
theorem getD_snoc {α : Type} (l : List α) (v z : α) (y : Nat) : (l ++ [v]).getD y z = if y = l.length then v else l.getD y z := by
  rw [List.getD_eq_getElem?_getD, List.getD_eq_getElem?_getD]
  rcases Nat.lt_trichotomy y l.length with h | h | h
  · rw [if_neg (by omega), List.getElem?_append_left h]
  · rw [if_pos h, h, List.getElem?_append_right (Nat.le_refl _), Nat.sub_self]; rfl
  · rw [if_neg (by omega), List.getElem?_append_right (by omega), List.getElem?_eq_none (by omega : l.length ≤ y), List.getElem?_eq_none (by simp; omega)]
theorem RowI.start (o : Int) (n : Nat) : RowI o n 0 [] [] := ⟨rfl, rfl, fun y r h => by simp at h, fun y h => by omega, fun y => by simp [okT.nil], fun y => by simp [okO.nil]⟩
theorem RowI.snoc {o : Int} {n x : Nat} {xs : List (Option Nat)} {ws : List Wd} (h : RowI o n x xs ws) {t : Option Nat} {v : Wd} (ht : ∀ r, t = some r → r < n) (hn : t = none → v = []) (hv : okT 2 v ∧ okO o v) : RowI o n (x + 1) (xs ++ [t]) (ws ++ [v]) := by
  refine ⟨by rw [List.length_append, h.xl]; rfl, by rw [List.length_append, h.wl]; rfl, fun y r hy => ?_, fun y hy hx => ?_, fun y => ?_, fun y => ?_⟩
  · rw [getD_snoc] at hy
    split at hy
    · exact ht r hy
    · exact h.lt y r hy
  · rw [getD_snoc, h.xl] at hx
    rw [getD_snoc, h.wl]
    split
    · rename_i e; rw [if_pos e] at hx; exact hn hx
    · rename_i e; rw [if_neg e] at hx; exact h.no y (by omega) hx
  · rw [getD_snoc]
    split
    · exact hv.1
    · exact h.to y
  · rw [getD_snoc]
    split
    · exact hv.2
    · exact h.ov y
structure TqI (o : Int) (L n k : Nat) (rs : List (Rx (Option Nat))) (os : List (Rx Wd)) (es : List Bool) (fs : List Wd) : Prop where
  rl : rs.length = k
  ol : os.length = k
  el : es.length = k
  fl : fs.length = k
  row : ∀ q, q < k → RowI o n L (rs.getD q rx0).xs (os.getD q rx0).xs
  nf : ∀ q, q < k → es.getD q false = false → fs.getD q [] = []
  tf : ∀ q, okT 2 (fs.getD q [])
  fo : ∀ q, okO o (fs.getD q [])
theorem TqI.start (o : Int) (L n : Nat) : TqI o L n 0 [] [] [] [] := ⟨rfl, rfl, rfl, rfl, fun q h => by omega, fun q h => by omega, fun q => by simp [okT.nil], fun q => by simp [okO.nil]⟩
theorem TqI.snoc {u : Int} {L n k : Nat} {rs : List (Rx (Option Nat))} {os : List (Rx Wd)} {es : List Bool} {fs : List Wd} (h : TqI u L n k rs os es fs) {r : Rx (Option Nat)} {o : Rx Wd} {e : Bool} {v : Wd} (hr : RowI u n L r.xs o.xs) (hn : e = false → v = []) (hv : okT 2 v ∧ okO u v) : TqI u L n (k + 1) (rs ++ [r]) (os ++ [o]) (es ++ [e]) (fs ++ [v]) := by
  refine ⟨by rw [List.length_append, h.rl]; rfl, by rw [List.length_append, h.ol]; rfl, by rw [List.length_append, h.el]; rfl, by rw [List.length_append, h.fl]; rfl, fun q hq => ?_, fun q hq he => ?_, fun q => ?_, fun q => ?_⟩
  · rw [getD_snoc, getD_snoc, h.rl, h.ol]
    split
    · exact hr
    · exact h.row q (by omega)
  · rw [getD_snoc, h.el] at he
    rw [getD_snoc, h.fl]
    split
    · rename_i e2; rw [if_pos e2] at he; exact hn he
    · rename_i e2; rw [if_neg e2] at he; exact h.nf q (by omega) he
  · rw [getD_snoc]
    split
    · exact hv.1
    · exact h.tf q
  · rw [getD_snoc]
    split
    · exact hv.2
    · exact h.fo q
theorem TqI.over {u : Int} {S : Sv} (h : TqI u S.L S.rs.length S.rs.length S.rs S.os S.en S.fi) (hi : okO u S.init) : S.sq.Over u :=
  ⟨hi, fun q x hq hx => by
    rw [S.n_eq] at hq
    rw [S.o_eq]
    exact (h.row q hq).ov x, fun q hq => h.fo q⟩
theorem TqI.ok {u : Int} {S : Sv} (h : TqI u S.L S.rs.length S.rs.length S.rs S.os S.en S.fi) (hL : 1 ≤ S.L ∧ S.L ≤ 6) (hn : S.rs.length ≤ 512) (hs : S.s < S.rs.length) (hi : okT 2 S.init) : S.sq.Ok 2 := by
  have e := S.n_eq
  refine ⟨hL, by rw [e]; exact hn, by rw [e]; exact hs, ⟨?_, ?_, ?_⟩, fun q hq => ?_, fun q x r hq hx ht => ?_, fun q x hq hx ht => ?_, fun q hq he => ?_, hi, fun q x hq hx => ?_, fun q hq => ?_⟩
  · show (S.os.map _).length = _; rw [List.length_map, e, h.ol]
  · show S.en.length = _; rw [e, h.el]
  · show S.fi.length = _; rw [e, h.fl]
  all_goals rw [e] at hq
  · refine ⟨?_, ?_⟩
    · show ((S.rs.map (·.xs)).getD q []).length = S.L
      rw [rx_getD, (h.row q hq).xl]
    · show ((S.os.map (·.xs)).getD q []).length = S.L
      rw [rx_getD, (h.row q hq).wl]
  · rw [S.to_eq] at ht
    rw [e]
    exact (h.row q hq).lt x r ht
  · rw [S.to_eq] at ht
    rw [S.o_eq]
    exact (h.row q hq).no x hx ht
  · exact h.nf q hq he
  · rw [S.o_eq]
    exact (h.row q hq).to x
  · exact h.tf q
end Go.Sq
namespace Go.Sq
open Go Go.Eng Go.Am
open Go.Tl (Wd bo)
/-! the law of normal and minimal functions -/
def kn : Sq := ⟨1, 0, [], [true], [[98]], [[some 0]], [[[98]]]⟩
theorem kn_ok : kn.Ok 1 := by
  refine ⟨⟨Nat.le_refl _, by decide⟩, by decide, by decide, ⟨rfl, rfl, rfl⟩, fun q hq => ?_, fun q x r hq hx h => ?_, fun q x hq hx h => ?_, fun q hq h => ?_, okT.nil 1, fun q x hq hx => ?_, fun q hq => ?_⟩
  all_goals (obtain rfl : q = 0 := Nat.lt_one_iff.1 hq)
  · exact ⟨rfl, rfl⟩
  · obtain rfl : x = 0 := Nat.lt_one_iff.1 hx
    cases h; decide
  · obtain rfl : x = 0 := Nat.lt_one_iff.1 hx
    cases h
  · cases h
  · obtain rfl : x = 0 := Nat.lt_one_iff.1 hx
    exact ⟨by decide, fun b hb => by obtain rfl := List.mem_singleton.1 hb; decide⟩
  · exact ⟨by decide, fun b hb => by obtain rfl := List.mem_singleton.1 hb; decide⟩
theorem kn_step {x : Nat} {w : List Nat} (hx : x < 1) : kn.tr.val 0 (x :: w) = (kn.tr.val 0 w).map ([98] ++ ·) := by
  obtain rfl : x = 0 := by omega
  exact kn.tr.val_some rfl
theorem kn_val : ∀ {w : List Nat}, InW 1 w → ∃ t, kn.tr.val 0 w = some (98 :: t)
  | [], _ => ⟨[], rfl⟩
  | x :: w, h => by
    obtain ⟨t, e⟩ := kn_val h.tail
    exact ⟨98 :: t, by rw [kn_step h.head, e]; rfl⟩
theorem kn_pf {P : List Wd} (h : kn.Pf P) : P = [[98]] := by
  refine h.unique ⟨rfl, fun q hq => ?_⟩
  obtain rfl : q = 0 := Nat.lt_one_iff.1 hq
  refine ⟨fun w v hw hv => ?_, fun p' hp => hp [] _ (InW.nil 1) rfl⟩
  obtain ⟨t, e⟩ := kn_val hw
  rw [e] at hv
  cases hv
  exact ⟨t, rfl⟩
theorem kn_co : kn.tr.co 1 0 = true := Tr.co_t.2 ⟨[], InW.nil 1, rfl⟩
theorem kn_trim {g : Sq} (h : IsTrim kn.tr 1 0 [] g) : g = kn := by
  refine Sq.Trimmed.again kn_ok.fit ⟨rfl, ?_, fun q hq => ?_⟩ Nat.zero_lt_one h
  · have h0 : bfsP kn.to 1 0 (0 * 1) = [0] := rfl
    have h1 : bfsP kn.to 1 0 (1 * 1) = [0] := rfl
    exact ⟨1 * 1, DoneP.of (Nat.zero_lt_one) (GoingP.next GoingP.zero (by show 0 < (bfsP kn.to 1 0 (0 * 1)).length; rw [h0]; exact Nat.zero_lt_one)) (by show (bfsP kn.to 1 0 (1 * 1)).length ≤ 1; rw [h1]; exact Nat.le_refl _), h1⟩
  · obtain rfl : q = 0 := Nat.lt_one_iff.1 hq
    exact kn_co
theorem kn_norm {d : Sq} (h : IsNorm kn d) : d = ⟨1, 0, [98], [true], [[]], [[some 0]], [[[98]]]⟩ := by
  obtain ⟨g, h1, h2⟩ := h
  have hg := kn_trim h1
  subst hg
  rcases h2 with ⟨h2, _⟩ | ⟨_, P, hP, rfl⟩
  · rw [show kn.tr.co kn.L kn.s = true from kn_co] at h2; cases h2
  · rw [kn_pf hP]; rfl
end Go.Sq


namespace Go.Sq
open Go Go.Eng Go.Am
open Go.Tl (Wd bo)
/-! the domain of a function -/
theorem min_n {d m : Da} (hd : d.Ok) (h : IsMin d.L d.sy d.s m) : m.n ≤ d.n := by
  have := h.le (List.range d.n) (fun w hw => List.mem_range.2 (hd.run_lt hw hd.st))
  simpa using this
theorem coarse_top {d : Da} {c : List Nat} (h : Coarse d c) : topL c ≤ d.n := by
  have := fo_top_le h.fo (Nat.le_refl c.length)
  rwa [List.take_length, h.len] at this
end Go.Sq

namespace Go.Sq
open Go Go.Eng Go.Am
open Go.Tl (Wd bo okW)
/-! a system that is listed with all its steps -/
section
variable {α : Type} [DecidableEq α] {T : Tr α} {L : Nat} {init : Wd} {l : List α}
def listD (T : Tr α) (L : Nat) (init : Wd) (l : List α) : Sq :=
  ⟨L, 0, init, l.map T.en, l.map T.fi, l.map fun a => (List.range L).map fun x => (T.to a x).map fun b => l.idxOf b, l.map fun a => (List.range L).map fun x => if (T.to a x).isSome then T.ou a x else []⟩
theorem listD_to (z : α) {i x : Nat} (hi : i < l.length) (hx : x < L) : (listD T L init l).to i x = (T.to (l.getD i z) x).map fun b => l.idxOf b := by
  show ((l.map _).getD i []).getD x none = _
  rw [getD_map _ l [] z hi, getD_rng _ _ _ hx]
theorem listD_o (z : α) {i x : Nat} (hi : i < l.length) (hx : x < L) : (listD T L init l).o i x = if (T.to (l.getD i z) x).isSome then T.ou (l.getD i z) x else [] := by
  show ((l.map _).getD i []).getD x [] = _
  rw [getD_map _ l [] z hi, getD_rng _ _ _ hx]
theorem listD_e (z : α) {i : Nat} (hi : i < l.length) : (listD T L init l).e i = T.en (l.getD i z) := getD_map _ l false z hi
theorem listD_f (z : α) {i : Nat} (hi : i < l.length) : (listD T L init l).f i = T.fi (l.getD i z) := getD_map _ l [] z hi
theorem listD_val (z : α) (hcl : ∀ a x b, a ∈ l → x < L → T.to a x = some b → b ∈ l) {w : List Nat} (hw : InW L w) : ∀ {i : Nat}, i < l.length → (listD T L init l).tr.val i w = T.val (l.getD i z) w := by
  induction w with
  | nil =>
    intro i hi
    show (if (listD T L init l).e i then some ((listD T L init l).f i) else none) = _
    rw [listD_e z hi, listD_f z hi]
    rfl
  | cons x w ih =>
    intro i hi
    have hx : x < L := hw.head
    have ha : l.getD i z ∈ l := getDm hi
    cases e : T.to (l.getD i z) x with
    | none => rw [Tr.val_none (listD T L init l).tr (by show (listD T L init l).to i x = none; rw [listD_to z hi hx, e]; rfl), T.val_none e]
    | some b =>
      have hb := hcl _ x b ha hx e
      rw [Tr.val_some (listD T L init l).tr (r := l.idxOf b) (by show (listD T L init l).to i x = _; rw [listD_to z hi hx, e]; rfl), T.val_some e, ih hw.tail (List.idxOf_lt_length_of_mem hb), getD_idxOf hb]
      have : (listD T L init l).tr.ou i x = T.ou (l.getD i z) x := by
        show (listD T L init l).o i x = _
        rw [listD_o z hi hx, e]; rfl
      rw [this]
end
theorem IsTrim.over {u : Int} {M : Nat} {f g : Sq} (hf : f.Ok M) (ho : f.Over u) (h : IsTrim f.tr f.L f.s f.init g) : g.Over u := by
  rcases h with ⟨_, rfl⟩ | ⟨hc, K, hK, rfl⟩
  · refine ⟨okO.nil u, fun q x _ _ => ?_, fun q hq => ?_⟩
    · rw [emptyQ_o]; exact okO.nil u
    · obtain rfl : q = 0 := by have : q < 1 := hq; omega
      exact okO.nil u
  · have hlt := bfsC_lt hf.fit hf.st (show 0 < f.L from hf.may.1) K
    have hmem : ∀ i, i < (bfsP (f.tr.stC f.L) f.L f.s K).length → (bfsP (f.tr.stC f.L) f.L f.s K).getD i 0 < f.n := fun i hi => hlt _ (getDm hi)
    refine ⟨ho.i, fun q x hq hx => ?_, fun q hq => ?_⟩
    · rw [trimT_n] at hq
      rw [trimT_o 0 hq (show x < f.L from hx)]
      split
      · exact ho.o _ x (hmem q hq) hx
      · exact okO.nil u
    · rw [trimT_n] at hq
      rw [trimT_f 0 hq]
      exact ho.f _ (hmem q hq)
/-! runs -/
theorem wl_app (v w : Wd) : wl (v ++ w) = wl v ++ wl w := List.map_append
theorem wl_inO {M : Nat} {L : Nat} {w : Wd} (h : okT M w) (ho : okO L w) : InW L (wl w) := fun x hx => by
  obtain ⟨b, hb, rfl⟩ := List.mem_map.1 hx
  have h1 := h.2 b hb
  have h2 := ho b hb
  omega
theorem run_in {g : Sq} {M : Nat} (hg : g.Ok M) : ∀ {w : List Nat} {p : Nat} {r : Nat × Wd}, InW g.L w → p < g.n → g.tr.run p w = some r → r.1 < g.n ∧ okT (w.length * M) r.2 ∧ (∀ u, g.Over u → okO u r.2)
  | [], p, r, _, hp, h => by
    have h : some (p, []) = some r := h
    cases h
    exact ⟨hp, okT.nil _, fun u _ => okO.nil u⟩
  | x :: w, p, r, hw, hp, h => by
    cases e : g.tr.to p x with
    | none => rw [Tr.run_none e] at h; cases h
    | some t =>
      rw [Tr.run_some e] at h
      obtain ⟨r', h1, rfl⟩ := Option.map_eq_some_iff.1 h
      obtain ⟨a, b, c⟩ := run_in hg hw.tail (hg.lt p x t hp hw.head e) h1
      refine ⟨a, ?_, fun u hu => (hu.o p x hp hw.head).app (c u hu)⟩
      have := (hg.to' p x hp hw.head).app b
      rw [List.length_cons, Nat.add_mul, Nat.one_mul, Nat.add_comm]
      exact this
/-! composition -/
def cTr (f g : Sq) : Tr (Nat × Nat) := ⟨
  fun p x => (f.to p.1 x).bind fun s => (g.tr.run p.2 (wl (f.o p.1 x))).map fun r => (s, r.1),
  fun p x => ((g.tr.run p.2 (wl (f.o p.1 x))).map (·.2)).getD [],
  fun p => f.e p.1 && ((g.tr.run p.2 (wl (f.f p.1))).map fun r => g.e r.1).getD false,
  fun p => if f.e p.1 then ((g.tr.run p.2 (wl (f.f p.1))).map fun r => if g.e r.1 then r.2 ++ g.f r.1 else []).getD [] else []⟩
theorem cTr_val (f g : Sq) (w : List Nat) : ∀ q p, (cTr f g).val (q, p) w = (f.tr.val q w).bind fun v => g.tr.val p (wl v) := by
  induction w with
  | nil =>
    intro q p
    show (if (f.e q && ((g.tr.run p (wl (f.f q))).map fun r => g.e r.1).getD false) then some (if f.e q then ((g.tr.run p (wl (f.f q))).map fun r => if g.e r.1 then r.2 ++ g.f r.1 else []).getD [] else []) else none) = (if f.e q then some (f.f q) else none).bind _
    cases he : f.e q with
    | false => rfl
    | true =>
      show _ = g.tr.val p (wl (f.f q))
      rw [Tr.val_run]
      cases g.tr.run p (wl (f.f q)) with
      | none => rfl
      | some r =>
        show (if g.e r.1 then some (if g.e r.1 then r.2 ++ g.f r.1 else []) else none) = if g.e r.1 then some (r.2 ++ g.f r.1) else none
        cases g.e r.1 <;> rfl
  | cons x w ih =>
    intro q p
    cases e : f.to q x with
    | none =>
      rw [f.tr.val_none e, Tr.val_none]
      · rfl
      · show (f.to q x).bind _ = none
        rw [e]; rfl
    | some s =>
      rw [f.tr.val_some e]
      cases e2 : g.tr.run p (wl (f.o q x)) with
      | none =>
        rw [Tr.val_none]
        · cases f.tr.val s w with
          | none => rfl
          | some v =>
            show none = g.tr.val p (wl (f.o q x ++ v))
            rw [wl_app, Tr.val_app, e2]; rfl
        · show (f.to q x).bind _ = none
          rw [e, Option.bind_some, e2]; rfl
      | some r =>
        rw [Tr.val_some _ (show (cTr f g).to (q, p) x = some (s, r.1) by
          show (f.to q x).bind _ = _
          rw [e, Option.bind_some, e2]; rfl), ih, show (cTr f g).ou (q, p) x = r.2 by
            show ((g.tr.run p (wl (f.o q x))).map (·.2)).getD [] = _
            rw [e2]; rfl]
        cases f.tr.val s w with
        | none => rfl
        | some v =>
          show Option.map _ (g.tr.val r.1 (wl v)) = g.tr.val p (wl (f.o q x ++ v))
          rw [wl_app, Tr.val_app, e2]; rfl
/-- d is the composition of f and g -/
def IsComp (f g d : Sq) : Prop := match g.tr.run g.s (wl f.init) with
  | none => d = emptyQ f.L
  | some r => ∃ K, DoneP (st := (cTr f g).to) (L := f.L) (s := (f.s, r.1)) K ∧ IsTrim (listD (cTr f g) f.L (g.init ++ r.2) (bfsP (cTr f g).to f.L (f.s, r.1) K)).tr f.L 0 (g.init ++ r.2) d
theorem IsComp.value {f g d : Sq} (h : IsComp f g d) {w : List Nat} (hw : InW f.L w) : d.value w = (f.value w).bind fun v => g.value (wl v) := by
  unfold IsComp at h
  cases e1 : g.tr.run g.s (wl f.init) with
  | none =>
    rw [e1] at h
    have h : d = emptyQ f.L := h
    subst h
    rw [show (emptyQ f.L).value w = none by unfold Sq.value; rw [show (emptyQ f.L).s = 0 from rfl, emptyQ_val f.L hw]; rfl]
    unfold Sq.value
    cases f.tr.val f.s w with
    | none => rfl
    | some v =>
      show none = Option.map _ (g.tr.val g.s (wl (f.init ++ v)))
      rw [wl_app, Tr.val_app, e1]; rfl
  | some r =>
    rw [e1] at h
    obtain ⟨K, hK, h⟩ := h
    rw [h.value hw, listD_val (f.s, r.1) (fun a x b ha hx hb => hK.closed ha hx hb) hw (bfsP_pos K), bfsP_head, cTr_val]
    unfold Sq.value
    cases f.tr.val f.s w with
    | none => rfl
    | some v =>
      show Option.map _ (g.tr.val r.1 (wl v)) = Option.map _ (g.tr.val g.s (wl (f.init ++ v)))
      rw [wl_app, Tr.val_app, e1, Option.bind_some, Option.map_map]
      congr 1
      funext t
      show g.init ++ r.2 ++ t = g.init ++ (r.2 ++ t)
      rw [List.append_assoc]
/-- what a value is made of -/
theorem run_text {f : Sq} {M : Nat} (hf : f.Ok M) {w : List Nat} (hw : InW f.L w) {v : Wd} (h : f.value w = some v) : okT ((w.length + 2) * M) v ∧ ∀ u, f.Over u → okO u v := by
  unfold Sq.value at h
  obtain ⟨t, h1, rfl⟩ := Option.map_eq_some_iff.1 h
  rw [Tr.val_run] at h1
  obtain ⟨p, h2, h3⟩ := Option.bind_eq_some_iff.1 h1
  obtain ⟨a, b, c⟩ := run_in hf hw hf.st h2
  split at h3
  · cases h3
    refine ⟨?_, fun u hu => hu.i.app ((c u hu).app (hu.f _ a))⟩
    have := hf.ti.app (b.app (hf.tf _ a))
    refine this.mono (Nat.le_of_eq ?_)
    rw [Nat.add_mul]; omega
  · cases h3
theorem okW_text {v : Wd} {M : Nat} {u : Int} (hu : 1 ≤ u ∧ u ≤ 6) (h : okT M v) (hM : M ≤ 2048) (ho : okO u v) : okW v u = true := by
  refine Go.Tl.okW_of (by rw [Go.Tl.mayL, decide_eq_true_eq]; exact hu) (by have := h.1; omega) (List.all_eq_true.2 fun b hb => ?_)
  have h1 := h.2 b hb
  have h2 := ho b hb
  unfold Go.Tl.okB
  simp only [Bool.and_eq_true, decide_eq_true_eq]
  omega
end Go.Sq

namespace Go.Sq
open Go Go.Eng Go.Am
open Go.Tl (Wd bo okW)
/-! walks along a word from any state; the list of all outputs -/
def allW (S : Sv) (q : Nat) : List Wd := S.init :: S.fi ++ ((S.os.take q).map (·.xs)).flatten
theorem allW_s {S : Sv} {q : Nat} (hq : q < S.os.length) : allW S (q + 1) = allW S q ++ (S.os.getD q rx0).xs := by
  unfold allW
  rw [take_snoc _ rx0 hq, List.map_append, List.flatten_append]
  simp
theorem mem_getD {α : Type} {l : List α} {a : α} (h : a ∈ l) (z : α) : ∃ i, i < l.length ∧ l.getD i z = a := by
  obtain ⟨i, hi, rfl⟩ := List.mem_iff_getElem.1 h
  exact ⟨i, hi, by rw [List.getD_eq_getElem?_getD, List.getElem?_eq_getElem hi]; rfl⟩
theorem allW_ok {S : Sv} {M : Nat} {u : Int} (h : S.sq.Ok M) (ho : S.sq.Over u) (q : Nat) : ∀ s ∈ allW S q, okT M s ∧ okO u s := by
  intro s hs
  obtain ⟨hlo, hle, hlf⟩ := h.lens
  unfold allW at hs
  rcases List.mem_append.1 hs with hs | hs
  · rcases List.mem_cons.1 hs with rfl | hs
    · exact ⟨h.ti, ho.i⟩
    · obtain ⟨i, hi, rfl⟩ := mem_getD hs []
      exact ⟨h.tf i (by rw [S.n_eq]; omega), ho.f i (by rw [S.n_eq]; omega)⟩
  · obtain ⟨r, hr, hs⟩ := List.mem_flatten.1 hs
    obtain ⟨x, hx, rfl⟩ := List.mem_map.1 hr
    obtain ⟨i, hi, rfl⟩ := mem_getD (List.mem_of_mem_take hx) rx0
    obtain ⟨y, hy, rfl⟩ := mem_getD hs []
    have hl := h.olen (q := i) (by omega)
    have e := S.o_eq i y
    have h1 := h.to' i y (by rw [S.n_eq]; omega) (by show y < S.L; omega)
    have h2 := ho.o i y (by rw [S.n_eq]; omega) (by show y < S.L; omega)
    rw [e] at h1 h2
    exact ⟨h1, h2⟩
theorem allW_len {S : Sv} {M : Nat} (h : S.sq.Ok M) : ∀ {q : Nat}, q ≤ S.os.length → (allW S q).length ≤ 513 + 6 * q
  | 0, _ => by
    have h1 := h.bnd
    have h2 := h.lens
    unfold allW
    simp; omega
  | q + 1, hq => by
    have := allW_len h (q := q) (by omega)
    have h1 := h.olen (q := q) (by have := h.lens; omega)
    have h2 := h.bnd
    rw [allW_s (by omega), List.length_append]
    omega
end Go.Sq

namespace Go.Sq
open Go Go.Eng Go.Am
open Go.Tl (Wd bo okW)
/-! a system that is listed row by row, while the list grows -/
section
variable {α : Type} (st : α → Nat → Option α) (T : Tr α) (L : Nat)
/-- the output of a step -/
def ow (a : α) (x : Nat) : Wd := if (st a x).isSome then T.ou a x else []
/-- a row is done so far; l: the list -/
def EntA (l : List α) (o : Option α) (z : Option Nat) : Prop := match o with
  | none => z = none
  | some b => ∃ n, z = some n ∧ l[n]? = some b
theorem EntA.grow {l t : List α} {o : Option α} {z : Option Nat} (h : EntA l o z) : EntA (l ++ t) o z := by
  cases o with
  | none => exact h
  | some b =>
    obtain ⟨n, h1, h2⟩ := h
    refine ⟨n, h1, ?_⟩
    have hn : n < l.length := (List.getElem?_eq_some_iff.1 h2).1
    rw [List.getElem?_append_left hn]; exact h2
structure RowA (l : List α) (a : α) (x : Nat) (xs : List (Option Nat)) : Prop where
  len : xs.length = x
  ent : ∀ y, y < x → EntA l (st a y) (xs.getD y none)
structure RowP (l : List α) (a : α) (x : Nat) (xs : List (Option Nat)) : Prop where
  len : xs.length = L
  ent : ∀ y, y < x → EntA l (st a y) (xs.getD y none)
  non : ∀ y, x ≤ y → xs.getD y none = none
structure OutP (a : α) (x : Nat) (ws : List Wd) : Prop where
  len : ws.length = L
  ent : ∀ y, y < x → ws.getD y [] = ow st T a y
  non : ∀ y, x ≤ y → ws.getD y [] = []
variable {st T L}
theorem RowA.grow {l t : List α} {a : α} {x : Nat} {xs : List (Option Nat)} (h : RowA st l a x xs) : RowA st (l ++ t) a x xs := ⟨h.len, fun y hy => (h.ent y hy).grow⟩
theorem RowA.snoc {l : List α} {a : α} {x : Nat} {xs : List (Option Nat)} (h : RowA st l a x xs) {z : Option Nat} (hz : EntA l (st a x) z) : RowA st l a (x + 1) (xs ++ [z]) := ⟨by rw [List.length_append, h.len]; rfl, fun y hy => by
  rw [getD_snoc, h.len]
  split
  · rename_i e; rw [e]; exact hz
  · exact h.ent y (by omega)⟩
theorem RowP.grow {l t : List α} {a : α} {x : Nat} {xs : List (Option Nat)} (h : RowP st L l a x xs) : RowP st L (l ++ t) a x xs := ⟨h.len, fun y hy => (h.ent y hy).grow, h.non⟩
theorem getD_set' {β : Type} (l : List β) (i j : Nat) (v z : β) : (l.set i v).getD j z = if i = j ∧ i < l.length then v else l.getD j z := by
  simp only [List.getD_eq_getElem?_getD, List.getElem?_set]
  by_cases h : i = j
  · subst h
    by_cases h2 : i < l.length <;> simp [h2]
  · simp [h]
theorem RowP.put {l : List α} {a : α} {x : Nat} {xs : List (Option Nat)} (h : RowP st L l a x xs) (hx : x < L) {z : Option Nat} (hz : EntA l (st a x) z) : RowP st L l a (x + 1) (xs.set x z) := ⟨by rw [List.length_set]; exact h.len, fun y hy => by
  rw [getD_set']
  split
  · rename_i e; rw [← e.1]; exact hz
  · rename_i e
    refine h.ent y ?_
    rcases Nat.lt_or_ge y x with h1 | h1
    · exact h1
    · exact absurd ⟨by omega, by rw [h.len]; exact hx⟩ e, fun y hy => by
  rw [getD_set', if_neg (by omega)]; exact h.non y (by omega)⟩
theorem OutP.put {a : α} {x : Nat} {ws : List Wd} (h : OutP st T L a x ws) (hx : x < L) {b : α} (hb : st a x = some b) : OutP st T L a (x + 1) (ws.set x (T.ou a x)) := ⟨by rw [List.length_set]; exact h.len, fun y hy => by
  rw [getD_set']
  split
  · rename_i e; rw [← e.1, ow, hb]; rfl
  · rename_i e
    refine h.ent y ?_
    rcases Nat.lt_or_ge y x with h1 | h1
    · exact h1
    · exact absurd ⟨by omega, by rw [h.len]; exact hx⟩ e, fun y hy => by
  rw [getD_set', if_neg (by omega)]; exact h.non y (by omega)⟩
theorem getD_grow {β : Type} {l t : List β} {j : Nat} (h : j < l.length) (z : β) : (l ++ t).getD j z = l.getD j z := by
  rw [List.getD_eq_getElem?_getD, List.getElem?_append_left h, List.getD_eq_getElem?_getD]
end
/-! states that are reached, states from which values come -/
def Rch (d : Sq) (p : Nat) : Prop := ∃ w l, InW d.L w ∧ d.tr.run d.s w = some (p, l)
theorem Rch.start (d : Sq) : Rch d d.s := ⟨[], [], InW.nil _, rfl⟩
theorem Rch.next {d : Sq} {p x r : Nat} (h : Rch d p) (hx : x < d.L) (ht : d.to p x = some r) : Rch d r := by
  obtain ⟨w, l, h1, h2⟩ := h
  exact ⟨w ++ [x], l ++ d.o p x, h1.app (InW.cons hx (InW.nil _)), by rw [Tr.run_snoc h2, show d.tr.to p x = some r from ht]; rfl⟩
def cnt (B : List Bool) : Nat := (B.filter id).length
theorem cnt_set : ∀ {B : List Bool} {i : Nat}, i < B.length → B.getD i false = false → cnt (B.set i true) = cnt B + 1
  | [], i, h, _ => absurd h (Nat.not_lt_zero _)
  | b :: B, 0, _, h => by
    have h : b = false := h
    subst h
    show (List.filter id (true :: B)).length = (List.filter id (false :: B)).length + 1
    simp
  | b :: B, i + 1, h, h2 => by
    have ih := cnt_set (B := B) (i := i) (by simpa using h) h2
    unfold cnt at ih ⊢
    cases b
    · show (List.filter id (false :: B.set i true)).length = (List.filter id (false :: B)).length + 1
      simpa using ih
    · show (List.filter id (true :: B.set i true)).length = (List.filter id (true :: B)).length + 1
      simpa using ih
/-- a pass over the steps; c0: the number before -/
structure UsI (d : Sq) (c0 : Nat) (B : List Bool) (ch : Bool) (q x : Nat) : Prop where
  len : B.length = d.n
  sound : ∀ p, B.getD p false = true → d.tr.co d.L p = true
  ends : ∀ p, p < d.n → d.e p = true → B.getD p false = true
  cl : ch = false → ∀ p y r, p < q ∨ (p = q ∧ y < x) → y < d.L → d.to p y = some r → B.getD r false = true → B.getD p false = true
  up : c0 + (if ch then 1 else 0) ≤ cnt B + 1
theorem UsI.put {d : Sq} {c0 q x r : Nat} {B : List Bool} {ch : Bool} (h : UsI d c0 B ch q x) (hq : q < d.n) (hx : x < d.L) (ht : d.to q x = some r) (hr : B.getD r false = true) (hn : B.getD q false = false) : UsI d c0 (B.set q true) true q (x + 1) := by
  have hl : q < B.length := by rw [h.len]; exact hq
  refine ⟨by rw [List.length_set]; exact h.len, fun p hp => ?_, fun p hp he => ?_, (fun hc => by cases hc), ?_⟩
  · rw [getD_set'] at hp
    split at hp
    · rename_i e; rw [← e.1]; exact d.tr.co_to hx ht (h.sound r hr)
    · exact h.sound p hp
  · rw [getD_set']
    split
    · rfl
    · exact h.ends p hp he
  · rw [cnt_set hl hn]
    have := h.up
    split <;> split at this <;> omega
theorem Rch.bfs {d : Sq} (hL : 0 < d.L) (k : Nat) : ∀ a ∈ bfsP (d.tr.stC d.L) d.L d.s k, Rch d a :=
  bfsP_all (p := Rch d) (Rch.start d) (fun _ _ _ ha hx hb => ha.next hx (Tr.stC_some hb).1) hL k
/-- the states that are met -/
structure UrI (d : Sq) (M : List Bool) (l : List Nat) (i x : Nat) : Prop where
  len : M.length = d.n
  nd : l.Nodup
  mem : ∀ p, M.getD p false = true ↔ p ∈ l
  rch : ∀ p ∈ l, Rch d p
  st : d.s ∈ l
  lt : ∀ p ∈ l, p < d.n
  cl : ∀ j y r, (j < i ∨ (j = i ∧ y < x)) → j < l.length → y < d.L → d.to (l.getD j 0) y = some r → r ∈ l
theorem UrI.put {d : Sq} {M : List Bool} {l : List Nat} {i x r : Nat} (h : UrI d M l i x) (hi : i < l.length) (hx : x < d.L) (ht : d.to (l.getD i 0) x = some r) (hr : r < d.n) (hn : r ∉ l) : UrI d (M.set r true) (l ++ [r]) i (x + 1) := by
  refine ⟨by rw [List.length_set]; exact h.len, ?_, fun p => ?_, fun p hp => ?_, List.mem_append_left _ h.st, fun p hp => ?_, fun j y s hj hl hy ht2 => ?_⟩
  · rw [List.nodup_append]
    exact ⟨h.nd, by simp, fun a ha b hb => by rw [List.mem_singleton.1 hb]; intro e; rw [e] at ha; exact hn ha⟩
  · rw [getD_set', h.len, List.mem_append, List.mem_singleton]
    split
    · rename_i e; exact ⟨fun _ => .inr e.1.symm, fun _ => rfl⟩
    · rename_i e
      rw [h.mem p]
      exact ⟨.inl, fun h1 => h1.elim id fun h2 => absurd ⟨h2.symm, hr⟩ e⟩
  · rcases List.mem_append.1 hp with h1 | h1
    · exact h.rch p h1
    · rw [List.mem_singleton.1 h1]; exact (h.rch _ (getDm hi)).next hx ht
  · rcases List.mem_append.1 hp with h1 | h1
    · exact h.lt p h1
    · rw [List.mem_singleton.1 h1]; exact hr
  · have hjl : j < l.length := by omega
    rw [getD_grow hjl] at ht2
    by_cases e : j = i ∧ y = x
    · rw [e.1, e.2, ht] at ht2; cases ht2
      exact List.mem_append_right _ (List.mem_singleton.2 rfl)
    · exact List.mem_append_left _ (h.cl j y s (by omega) hjl hy ht2)
end Go.Sq

namespace Go.Sq
open Go Go.Eng Go.Am
open Go.Tl (Wd bo okW)
/-! pairs as keys; adding to the list of pairs -/
section
variable {α : Type} [DecidableEq α]
theorem addN_get (l : List α) (b : α) : (addN l b).1[(addN l b).2]? = some b := by
  have h := addN_mem l b
  rw [addN_idx]
  have h1 := List.idxOf_lt_length_of_mem h
  have := getD_idxOf h b
  rw [List.getD_eq_getElem?_getD, List.getElem?_eq_getElem h1] at this
  rw [List.getElem?_eq_getElem h1]
  exact congrArg some this
theorem EntA.add {l : List α} {b : α} : EntA (addN l b).1 (some b) (some (addN l b).2) := ⟨_, rfl, addN_get l b⟩
theorem RowP.add {st : α → Nat → Option α} {L x : Nat} {l : List α} {a : α} {xs : List (Option Nat)} (h : RowP st L l a x xs) (hx : x < L) {b : α} (hb : st a x = some b) : RowP st L (addN l b).1 a (x + 1) (xs.set x (some (addN l b).2)) := by
  obtain ⟨t, ht⟩ := addN_pre l b
  have h2 : RowP st L (addN l b).1 a x xs := by rw [ht]; exact h.grow
  exact h2.put hx (by rw [hb]; exact EntA.add)
theorem RowA.add {st : α → Nat → Option α} {x : Nat} {l : List α} {a : α} {xs : List (Option Nat)} (h : RowA st l a x xs) {b : α} (hb : st a x = some b) : RowA st (addN l b).1 a (x + 1) (xs ++ [some (addN l b).2]) := by
  obtain ⟨t, ht⟩ := addN_pre l b
  have h2 : RowA st (addN l b).1 a x xs := by rw [ht]; exact h.grow
  exact h2.snoc (by rw [hb]; exact EntA.add)
end
end Go.Sq
namespace Go.Sq
open Go Go.Eng Go.Am
open Go.Tl (Wd okW)
theorem val_okW {f : Sq} {M : Nat} {u : Int} (hf : f.Ok M) (ho : f.Over u) (hu : 1 ≤ u ∧ u ≤ 6) {w : List Nat} (hw : InW f.L w) (hl : (w.length + 2) * M ≤ 2048) : okW (apv (f.value w)).1 u = true := by
  cases e : f.value w with
  | none => exact okW_text hu (okT.nil 0) (by omega) (okO.nil u)
  | some v =>
    obtain ⟨h1, h2⟩ := run_text hf hw e
    exact okW_text hu h1 hl (h2 u ho)
end Go.Sq

namespace Go.Sq
open Go Go.Eng Go.Am
open Go.Tl (Wd bo okW)
/-! inverse images -/
/-- a language as a system -/
def langS (P : List Nat → Bool) : Sy (List Nat) := ⟨fun w x => w ++ [x], P⟩
theorem langS_acc (P : List Nat → Bool) (w : List Nat) : ∀ v, (langS P).acc v w = P (v ++ w) := by
  induction w with
  | nil => intro v; show P v = P (v ++ []); rw [List.append_nil]
  | cons x w ih =>
    intro v
    show (langS P).acc (v ++ [x]) w = _
    rw [ih, List.append_assoc]; rfl
theorem IsMin.lang {α : Type} {L : Nat} {S : Sy α} {s : α} {m : Da} (h : IsMin L S s m) {P : List Nat → Bool} (hP : ∀ w, InW L w → S.acc s w = P w) : IsMin L (langS P) [] m :=
  h.congr fun w hw => by rw [langS_acc]; exact hP w hw
theorem lang_acc {L : Nat} {P : List Nat → Bool} {m : Da} (h : IsMin L (langS P) [] m) {w : List Nat} (hw : InW L w) : m.sy.acc m.s w = P w := by
  rw [h.eqv w hw, langS_acc]; rfl
/-- the words of f whose value d accepts -/
def invP (f : Sq) (d : Da) (w : List Nat) : Bool := ((f.value w).map fun v => d.sy.acc d.s (wl v)).getD false
abbrev IsInv (f : Sq) (d m : Da) : Prop := IsMin f.L (langS (invP f d)) [] m
/-- states of f and of m as one number; -1 is dead -/
def ivf (f : Sq) (m : Da) : Int → Nat → Int := fun s x => if s = -1 then -1 else match f.to (s.toNat / m.n) x with
  | none => -1
  | some r => ((r * m.n + m.sy.run (s.toNat % m.n) (wl (f.o (s.toNat / m.n) x)) : Nat) : Int)
def ive (f : Sq) (m : Da) : Int → Bool := fun s => decide (s ≠ -1) && (f.e (s.toNat / m.n) && m.fi (m.sy.run (s.toNat % m.n) (wl (f.f (s.toNat / m.n)))))
theorem qp_div {q p n : Nat} (hp : p < n) : (q * n + p) / n = q := by
  rw [Nat.add_comm, Nat.add_mul_div_right _ _ (by omega), Nat.div_eq_of_lt hp, Nat.zero_add]
theorem qp_mod {q p n : Nat} (hp : p < n) : (q * n + p) % n = p := by
  rw [Nat.add_comm, Nat.add_mul_mod_self_right, Nat.mod_eq_of_lt hp]
theorem qp_tdiv {q p n : Nat} (hp : p < n) : Int.tdiv ((q * n + p : Nat) : Int) (n : Int) = (q : Int) := by
  rw [show Int.tdiv ((q * n + p : Nat) : Int) (n : Int) = (((q * n + p) / n : Nat) : Int) from rfl, qp_div hp]
theorem qp_tmod {q p n : Nat} (hp : p < n) : Int.tmod ((q * n + p : Nat) : Int) (n : Int) = (p : Int) := by
  rw [show Int.tmod ((q * n + p : Nat) : Int) (n : Int) = (((q * n + p) % n : Nat) : Int) from rfl, qp_mod hp]
section
variable {f : Sq} {m : Da} {q p x : Nat}
theorem ivf_none (hp : p < m.n) (h : f.to q x = none) : ivf f m ((q * m.n + p : Nat) : Int) x = -1 := by
  unfold ivf
  rw [if_neg (by omega), Int.toNat_natCast, qp_div hp, h]
theorem ivf_some (hp : p < m.n) {r : Nat} (h : f.to q x = some r) : ivf f m ((q * m.n + p : Nat) : Int) x = ((r * m.n + m.sy.run p (wl (f.o q x)) : Nat) : Int) := by
  unfold ivf
  rw [if_neg (by omega), Int.toNat_natCast, qp_div hp, qp_mod hp, h]
theorem ive_eq (hp : p < m.n) : ive f m ((q * m.n + p : Nat) : Int) = (f.e q && m.fi (m.sy.run p (wl (f.f q)))) := by
  unfold ive
  rw [show decide (((q * m.n + p : Nat) : Int) ≠ -1) = true from decide_eq_true (by omega), Bool.true_and, Int.toNat_natCast, qp_div hp, qp_mod hp]
end
theorem iv_dead (f : Sq) (m : Da) (w : List Nat) : (⟨ivf f m, ive f m⟩ : Sy Int).run (-1) w = -1 := by
  induction w with
  | nil => rfl
  | cons x w ih =>
    show (⟨ivf f m, ive f m⟩ : Sy Int).run (ivf f m (-1) x) w = -1
    rw [show ivf f m (-1) x = -1 from if_pos rfl]; exact ih
section
variable {f : Sq} {m : Da} {M : Nat} (hf : f.Ok M) (hm : m.Ok) (ho : f.Over m.L)
include hf hm ho
theorem iv_lt {q p x : Nat} (hq : q < f.n) (hp : p < m.n) (hx : x < f.L) : m.sy.run p (wl (f.o q x)) < m.n := hm.run_lt (wl_inO (hf.to' q x hq hx) (ho.o q x hq hx)) hp
theorem iv_ltI {p : Nat} (hp : p < m.n) : m.sy.run p (wl f.init) < m.n := hm.run_lt (wl_inO hf.ti ho.i) hp
theorem iv_ltF {q p : Nat} (hq : q < f.n) (hp : p < m.n) : m.sy.run p (wl (f.f q)) < m.n := hm.run_lt (wl_inO (hf.tf q hq) (ho.f q hq)) hp
theorem iv_acc (w : List Nat) : ∀ (q p : Nat), q < f.n → p < m.n → InW f.L w → (⟨ivf f m, ive f m⟩ : Sy Int).acc ((q * m.n + p : Nat) : Int) w = ((f.tr.val q w).map fun v => m.sy.acc p (wl v)).getD false := by
  induction w with
  | nil =>
    intro q p hq hp _
    show ive f m ((q * m.n + p : Nat) : Int) = (((if f.e q then some (f.f q) else none : Option Wd)).map fun v => m.sy.acc p (wl v)).getD false
    rw [ive_eq hp]
    cases f.e q <;> rfl
  | cons x w ih =>
    intro q p hq hp hw
    show (⟨ivf f m, ive f m⟩ : Sy Int).acc (ivf f m ((q * m.n + p : Nat) : Int) x) w = _
    cases e : f.to q x with
    | none =>
      rw [ivf_none hp e, f.tr.val_none e]
      show ive f m ((⟨ivf f m, ive f m⟩ : Sy Int).run (-1) w) = false
      rw [iv_dead]; rfl
    | some r =>
      rw [ivf_some hp e, ih r _ (hf.lt q x r hq hw.head e) (iv_lt hf hm ho hq hp hw.head) hw.tail, f.tr.val_some e]
      cases f.tr.val r w with
      | none => rfl
      | some v =>
        show m.sy.acc (m.sy.run p (wl (f.o q x))) (wl v) = m.sy.acc p (wl (f.o q x ++ v))
        rw [wl_app]
        show m.sy.fin _ = m.sy.fin _
        rw [Sy.run_app]
theorem iv_all (k : Nat) : ∀ s ∈ bfs (ivf f m) f.L ((f.s * m.n + m.sy.run m.s (wl f.init) : Nat) : Int) k, s = -1 ∨ ∃ q p, q < f.n ∧ p < m.n ∧ s = ((q * m.n + p : Nat) : Int) := by
  refine bfs_all (p := fun s : Int => s = -1 ∨ ∃ q p, q < f.n ∧ p < m.n ∧ s = ((q * m.n + p : Nat) : Int)) (.inr ⟨f.s, _, hf.st, iv_ltI hf hm ho hm.st, rfl⟩) (fun s x hs hx => ?_) (show 0 < f.L from hf.may.1) k
  rcases hs with rfl | ⟨q, p, hq, hp, rfl⟩
  · exact .inl (if_pos rfl)
  · cases e : f.to q x with
    | none => exact .inl (ivf_none hp e)
    | some r => exact .inr ⟨r, _, hf.lt q x r hq hx e, iv_lt hf hm ho hq hp hx, ivf_some hp e⟩
theorem iv_len (k : Nat) : (bfs (ivf f m) f.L ((f.s * m.n + m.sy.run m.s (wl f.init) : Nat) : Int) k).length ≤ f.n * m.n + 1 := by
  have : (bfs (ivf f m) f.L ((f.s * m.n + m.sy.run m.s (wl f.init) : Nat) : Int) k).length ≤ ((-1 : Int) :: (List.range (f.n * m.n)).map fun n : Nat => (n : Int)).length := (bfs_nodup k).length_le_of_subset fun s hs => by
    rcases iv_all hf hm ho k s hs with rfl | ⟨q, p, hq, hp, rfl⟩
    · exact List.mem_cons_self
    · refine List.mem_cons_of_mem _ (List.mem_map.2 ⟨q * m.n + p, List.mem_range.2 ?_, rfl⟩)
      have h1 : (q + 1) * m.n ≤ f.n * m.n := Nat.mul_le_mul_right _ hq
      rw [Nat.add_mul, Nat.one_mul] at h1
      omega
  simpa using this
end
theorem iv_start {f : Sq} {m : Da} {M : Nat} (hf : f.Ok M) (hm : m.Ok) (ho : f.Over m.L) {w : List Nat} (hw : InW f.L w) : (⟨ivf f m, ive f m⟩ : Sy Int).acc ((f.s * m.n + m.sy.run m.s (wl f.init) : Nat) : Int) w = invP f m w := by
  rw [iv_acc hf hm ho w f.s _ hf.st (iv_ltI hf hm ho hm.st) hw, invP, Sq.value]
  cases f.tr.val f.s w with
  | none => rfl
  | some v =>
    show m.sy.acc (m.sy.run m.s (wl f.init)) (wl v) = m.sy.acc m.s (wl (f.init ++ v))
    rw [wl_app]
    show m.sy.fin _ = m.sy.fin _
    rw [Sy.run_app]
theorem wl_val {f : Sq} {M : Nat} (hf : f.Ok M) {L : Nat} (ho : f.Over L) {w : List Nat} (hw : InW f.L w) {v : Wd} (h : f.value w = some v) : InW L (wl v) := by
  obtain ⟨h1, h2⟩ := run_text hf hw h
  exact wl_inO h1 (h2 L ho)
theorem invP_congr {f g : Sq} {d m : Da} {M : Nat} (hf : f.Ok M) (ho : f.Over d.L) (hv : ∀ w, InW f.L w → g.value w = f.value w) (hm : ∀ w, InW d.L w → m.sy.acc m.s w = d.sy.acc d.s w) {w : List Nat} (hw : InW f.L w) : invP g m w = invP f d w := by
  unfold invP
  rw [hv w hw]
  cases e : f.value w with
  | none => rfl
  | some v => exact hm _ (wl_val hf ho hw e)
/-- the program's answer -/
theorem iv_done {f g : Sq} {d m r : Da} {M : Nat} (hf : f.Ok M) (ho : f.Over d.L) (hg : g.Ok M) (hgo : g.Over d.L) (hgL : g.L = f.L) (hv : ∀ w, InW f.L w → g.value w = f.value w) (hmin : IsMin d.L d.sy d.s m) {K : Nat} (hK : Done (ivf g m) g.L ((g.s * m.n + m.sy.run m.s (wl g.init) : Nat) : Int) K)
    (hr : IsMin (autoD (ivf g m) g.L ((g.s * m.n + m.sy.run m.s (wl g.init) : Nat) : Int) K (ive g m)).L (autoD (ivf g m) g.L ((g.s * m.n + m.sy.run m.s (wl g.init) : Nat) : Int) K (ive g m)).sy (autoD (ivf g m) g.L ((g.s * m.n + m.sy.run m.s (wl g.init) : Nat) : Int) K (ive g m)).s r) : IsInv f d r := by
  have h2 : IsMin g.L (autoD (ivf g m) g.L ((g.s * m.n + m.sy.run m.s (wl g.init) : Nat) : Int) K (ive g m)).sy (autoD (ivf g m) g.L ((g.s * m.n + m.sy.run m.s (wl g.init) : Nat) : Int) K (ive g m)).s r := hr
  have h3 := IsMin.lang h2 (P := invP f d) fun w hw => by
    have h4 := autoD_eqv hK (ive g m) (bfs_pos (f := ivf g m) (L := g.L) (s := ((g.s * m.n + m.sy.run m.s (wl g.init) : Nat) : Int)) K) w hw
    rw [bfs_head] at h4
    have hw2 : InW f.L w := by rw [← hgL]; exact hw
    refine h4.trans ?_
    rw [iv_start hg hmin.ok (by rw [hmin.letters]; exact hgo) hw]
    exact invP_congr hf ho hv (fun v hv2 => hmin.eqv v hv2) hw2
  rw [hgL] at h3
  exact h3
end Go.Sq

namespace Go.Am
open Go Go.Eng
open Go.Tl (bo)
/-! an automaton that is dealt -/
structure DqI (L : Int) (n k : Nat) (fl : List Bool) (rs : List Rw) : Prop where
  fl : fl.length = k
  rl : rs.length = k
  row : ∀ q, q < k → ((rs.getD q rw0).xs.length : Int) = L ∧ ∀ x ∈ (rs.getD q rw0).xs, 0 ≤ x ∧ x < n
theorem DqI.start (L : Int) (n : Nat) : DqI L n 0 [] [] := ⟨rfl, rfl, fun q h => by omega⟩
theorem DqI.snoc {L : Int} {n k : Nat} {fl : List Bool} {rs : List Rw} (h : DqI L n k fl rs) (b : Bool) {r : Rw} (hl : (r.xs.length : Int) = L) (hr : ∀ x ∈ r.xs, 0 ≤ x ∧ x < n) : DqI L n (k + 1) (fl ++ [b]) (rs ++ [r]) :=
  ⟨by rw [List.length_append, h.fl]; rfl, by rw [List.length_append, h.rl]; rfl, fun q hq => by
    rw [Go.Sq.getD_snoc, h.rl]
    by_cases e : q = k
    · rw [if_pos e]; exact ⟨hl, hr⟩
    · rw [if_neg e]; exact h.row q (by omega)⟩
theorem mem_snoc {n : Nat} {xs : List Int} {v : Int} (h : ∀ x ∈ xs, 0 ≤ x ∧ x < (n : Int)) (hv : 0 ≤ v ∧ v < (n : Int)) : ∀ x ∈ xs ++ [v], 0 ≤ x ∧ x < (n : Int) := fun x hx => by
  rcases List.mem_append.1 hx with h1 | h1
  · exact h x h1
  · rw [List.mem_singleton.1 h1]; exact hv
end Go.Am

namespace Go.Sq
open Go Go.Eng Go.Am
open Go.Tl (Wd bo okW)
/-! the reference's system of an inverse image: pairs, or nothing -/
def q1 : Option (Nat × Nat) → Int
  | none => -1
  | some p => p.1
def q2 : Option (Nat × Nat) → Int
  | none => 0
  | some p => p.2
abbrev kqv (s : Option (Nat × Nat)) : List Value := [.int .i64 (q1 s), .int .i64 (q2 s)]
abbrev kq (s : Option (Nat × Nat)) : Value := .agg #[.int .i64 (q1 s), .int .i64 (q2 s)]
theorem kqv_len (s : Option (Nat × Nat)) : (kqv s).length = 2 := rfl
theorem kq_inj (s t : Option (Nat × Nat)) (h : [q1 s, q2 s] = [q1 t, q2 t]) : s = t := by
  simp only [List.cons.injEq, and_true] at h
  obtain ⟨h1, h2⟩ := h
  cases s with
  | none =>
    cases t with
    | none => rfl
    | some p => have h1 : (-1 : Int) = (p.1 : Int) := h1; omega
  | some p =>
    cases t with
    | none => have h1 : (p.1 : Int) = -1 := h1; omega
    | some r =>
      have h1 : (p.1 : Int) = r.1 := h1
      have h2 : (p.2 : Int) = r.2 := h2
      obtain ⟨a, b⟩ := p
      obtain ⟨c, d⟩ := r
      dsimp only at h1 h2
      rw [show a = c by omega, show b = d by omega]
theorem q1_pos {s : Option (Nat × Nat)} (h : q1 s ≥ 0) : ∃ p, s = some p := by
  cases s with
  | none => exact absurd h (by decide)
  | some p => exact ⟨p, rfl⟩
theorem q1_neg {s : Option (Nat × Nat)} (h : ¬ q1 s ≥ 0) : s = none := by
  cases s with
  | none => rfl
  | some p => exact absurd (show (p.1 : Int) ≥ 0 by omega) h
def rvf (f : Sq) (d : Da) : Option (Nat × Nat) → Nat → Option (Nat × Nat) := fun s x => s.bind fun p => (f.to p.1 x).map fun r => (r, d.sy.run p.2 (wl (f.o p.1 x)))
def rve (f : Sq) (d : Da) : Option (Nat × Nat) → Bool
  | none => false
  | some p => f.e p.1 && d.fi (d.sy.run p.2 (wl (f.f p.1)))
theorem rvf_none {f : Sq} {d : Da} {p : Nat × Nat} {x : Nat} (h : f.to p.1 x = none) : rvf f d (some p) x = none := by
  show (f.to p.1 x).map _ = none
  rw [h]; rfl
theorem rvf_some {f : Sq} {d : Da} {p : Nat × Nat} {x r : Nat} (h : f.to p.1 x = some r) : rvf f d (some p) x = some (r, d.sy.run p.2 (wl (f.o p.1 x))) := by
  show (f.to p.1 x).map _ = _
  rw [h]; rfl
theorem rv_dead (f : Sq) (d : Da) (w : List Nat) : (⟨rvf f d, rve f d⟩ : Sy (Option (Nat × Nat))).run none w = none := by
  induction w with
  | nil => rfl
  | cons x w ih => exact ih
theorem rv_acc (f : Sq) (d : Da) (w : List Nat) : ∀ q p, (⟨rvf f d, rve f d⟩ : Sy (Option (Nat × Nat))).acc (some (q, p)) w = ((f.tr.val q w).map fun v => d.sy.acc p (wl v)).getD false := by
  induction w with
  | nil =>
    intro q p
    show (f.e q && d.fi (d.sy.run p (wl (f.f q)))) = (((if f.e q then some (f.f q) else none : Option Wd)).map fun v => d.sy.acc p (wl v)).getD false
    cases f.e q <;> rfl
  | cons x w ih =>
    intro q p
    show (⟨rvf f d, rve f d⟩ : Sy (Option (Nat × Nat))).acc (rvf f d (some (q, p)) x) w = _
    cases e : f.to q x with
    | none =>
      rw [rvf_none (p := (q, p)) e, f.tr.val_none e]
      show rve f d ((⟨rvf f d, rve f d⟩ : Sy (Option (Nat × Nat))).run none w) = false
      rw [rv_dead]; rfl
    | some r =>
      rw [rvf_some (p := (q, p)) e, ih, f.tr.val_some e]
      cases f.tr.val r w with
      | none => rfl
      | some v =>
        show d.sy.acc (d.sy.run p (wl (f.o q x))) (wl v) = d.sy.acc p (wl (f.o q x ++ v))
        rw [wl_app]
        show d.sy.fin _ = d.sy.fin _
        rw [Sy.run_app]
theorem rv_start (f : Sq) (d : Da) (w : List Nat) : (⟨rvf f d, rve f d⟩ : Sy (Option (Nat × Nat))).acc (some (f.s, d.sy.run d.s (wl f.init))) w = invP f d w := by
  rw [rv_acc, invP, Sq.value]
  cases f.tr.val f.s w with
  | none => rfl
  | some v =>
    show d.sy.acc (d.sy.run d.s (wl f.init)) (wl v) = d.sy.acc d.s (wl (f.init ++ v))
    rw [wl_app]
    show d.sy.fin _ = d.sy.fin _
    rw [Sy.run_app]
section
variable {f : Sq} {d : Da} {M : Nat} (hf : f.Ok M) (hd : d.Ok) (ho : f.Over d.L)
include hf hd ho
theorem rv_all (k : Nat) : ∀ s ∈ bfs (rvf f d) f.L (some (f.s, d.sy.run d.s (wl f.init))) k, ∀ p, s = some p → p.1 < f.n ∧ p.2 < d.n := by
  refine bfs_all (p := fun s : Option (Nat × Nat) => ∀ p, s = some p → p.1 < f.n ∧ p.2 < d.n) (fun p hp => by cases hp; exact ⟨hf.st, iv_ltI hf hd ho hd.st⟩) (fun s x hs hx p hp => ?_) (show 0 < f.L from hf.may.1) k
  cases s with
  | none => cases hp
  | some t =>
    obtain ⟨ht1, ht2⟩ := hs t rfl
    cases e : f.to t.1 x with
    | none => rw [rvf_none e] at hp; cases hp
    | some r =>
      rw [rvf_some e] at hp
      cases hp
      exact ⟨hf.lt t.1 x r ht1 hx e, iv_lt hf hd ho ht1 ht2 hx⟩
theorem rv_len (k : Nat) : (bfs (rvf f d) f.L (some (f.s, d.sy.run d.s (wl f.init))) k).length ≤ f.n * d.n + 1 := by
  have : (bfs (rvf f d) f.L (some (f.s, d.sy.run d.s (wl f.init))) k).length ≤ ((none : Option (Nat × Nat)) :: (List.range f.n).flatMap fun q => (List.range d.n).map fun p => some (q, p)).length := (bfs_nodup k).length_le_of_subset fun s hs => by
    have h := rv_all hf hd ho k s hs
    cases s with
    | none => exact List.mem_cons_self
    | some t =>
      obtain ⟨h1, h2⟩ := h t rfl
      exact List.mem_cons_of_mem _ (List.mem_flatMap.2 ⟨t.1, List.mem_range.2 h1, List.mem_map.2 ⟨t.2, List.mem_range.2 h2, rfl⟩⟩)
  refine Nat.le_trans this (Nat.le_of_eq ?_)
  rw [List.length_cons, List.length_flatMap]
  simp only [List.length_map, List.length_range, List.map_const', List.sum_replicate_nat]
end
theorem rv_done {f : Sq} {d m : Da} {K : Nat} (hK : Done (rvf f d) f.L (some (f.s, d.sy.run d.s (wl f.init))) K) (hm : IsMin (autoD (rvf f d) f.L (some (f.s, d.sy.run d.s (wl f.init))) K (rve f d)).L (autoD (rvf f d) f.L (some (f.s, d.sy.run d.s (wl f.init))) K (rve f d)).sy (autoD (rvf f d) f.L (some (f.s, d.sy.run d.s (wl f.init))) K (rve f d)).s m) : IsInv f d m := by
  have h2 : IsMin f.L (autoD (rvf f d) f.L (some (f.s, d.sy.run d.s (wl f.init))) K (rve f d)).sy (autoD (rvf f d) f.L (some (f.s, d.sy.run d.s (wl f.init))) K (rve f d)).s m := hm
  exact IsMin.lang h2 fun w hw => by
    have h4 := autoD_eqv hK (rve f d) (bfs_pos (f := rvf f d) (L := f.L) (s := some (f.s, d.sy.run d.s (wl f.init))) K) w hw
    rw [bfs_head] at h4
    exact h4.trans (rv_start f d w)
end Go.Sq

