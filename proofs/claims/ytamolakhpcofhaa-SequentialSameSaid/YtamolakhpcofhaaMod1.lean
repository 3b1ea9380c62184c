/-
  Plain facts, without a program. No condition.
-/
import Derived.Test.YtamolakhpcofhaaMod
import Derived.Test.YtamolakhpcofhaaEng1
set_option linter.unusedSimpArgs false
namespace Go.Sq
open Go Go.Eng Go.Am
open Go.Tl (Wd bo okW okB)
/-! the function of the classes, row by row -/
def pad {α : Type} (m : Nat) (z : α) (l : List α) : List α := l ++ List.replicate (m - l.length) z
theorem pad_len {α : Type} {m : Nat} {z : α} {l : List α} (h : l.length ≤ m) : (pad m z l).length = m := by simp [pad]; omega
theorem pad_put {α : Type} {m k : Nat} {z v : α} {l : List α} (hk : l.length = k) (h : k < m) : (pad m z l).set k v = pad m z (l ++ [v]) := by
  subst hk
  unfold pad
  rw [show m - l.length = (m - (l.length + 1)) + 1 by omega, List.replicate_succ, List.set_append_right _ _ (Nat.le_refl _), Nat.sub_self, List.set_cons_zero, List.length_append, List.length_singleton, List.append_assoc, List.singleton_append]
theorem pad_full {α : Type} {m : Nat} {z : α} {l : List α} (h : l.length = m) : pad m z l = l := by simp [pad, h]
theorem pad_nil {α : Type} (m : Nat) (z : α) : pad m z [] = List.replicate m z := by simp [pad]
def nrow (g : Sq) (c : List Nat) (p : Nat) : List (Option Nat) := (List.range g.L).map fun x => (g.to p x).map fun r => c.getD r 0
def orw (g : Sq) (p : Nat) : List Wd := (List.range g.L).map fun x => g.o p x
theorem nrow_len (g : Sq) (c : List Nat) (p : Nat) : (nrow g c p).length = g.L := by simp [nrow]
theorem orw_len (g : Sq) (p : Nat) : (orw g p).length = g.L := by simp [orw]
/-- a row of Next while it is written -/
def qnL (g : Sq) (c : List Nat) (p x : Nat) : List (Option Nat) := (List.range g.L).map fun y => if y < x then (g.to p y).map fun r => c.getD r 0 else none
theorem qnL_zero (g : Sq) (c : List Nat) (p : Nat) : qnL g c p 0 = List.replicate g.L none := by
  refine List.ext_getElem (by simp [qnL]) fun i h1 h2 => ?_
  simp [qnL]
theorem qnL_end (g : Sq) (c : List Nat) (p : Nat) : qnL g c p g.L = nrow g c p := by
  refine List.map_congr_left fun y hy => ?_
  rw [if_pos (List.mem_range.1 hy)]
theorem qnL_len (g : Sq) (c : List Nat) (p x : Nat) : (qnL g c p x).length = g.L := by simp [qnL]
theorem qnL_put {g : Sq} {c : List Nat} {p x r : Nat} (h : g.to p x = some r) : ((qnL g c p x).map zo).set x (zn (c.getD r 0)) = (qnL g c p (x + 1)).map zo := by
  rw [show zn (c.getD r 0) = zo (some (c.getD r 0)) from rfl, ← List.map_set, qnL, rng_put _ (fun y => if y < x + 1 then (g.to p y).map fun r => c.getD r 0 else none) (by rw [if_pos (by omega), h]; rfl) fun y _ hne => ?_]
  · rfl
  · by_cases h1 : y < x
    · simp [h1, show y < x + 1 by omega]
    · simp [h1, show ¬ y < x + 1 by omega]
theorem qnL_keep {g : Sq} {c : List Nat} {p x : Nat} (h : g.to p x = none) : qnL g c p x = qnL g c p (x + 1) := by
  refine List.map_congr_left fun y _ => ?_
  by_cases h1 : y < x
  · simp [h1, show y < x + 1 by omega]
  · by_cases h2 : y = x
    · subst h2; simp [h]
    · simp [h1, show ¬ y < x + 1 by omega]
structure MiI (g : Sq) (c : List Nat) (q : Nat) (rs : List (Rx (Option Nat))) (os : List (Rx Wd)) : Prop where
  rl : rs.length = topL c
  ol : os.length = topL c
  nx : rs.map (·.xs) = pad (topL c) [] ((reps c q).map (nrow g c))
  ou : os.map (·.xs) = pad (topL c) [] ((reps c q).map (orw g))
  old : ∀ k, k < topL (c.take q) → (rs.getD k rx0).a.isSome = true
  new : ∀ k, topL (c.take q) ≤ k → rs.getD k rx0 = rx0
theorem getD_repx {α : Type} (n k : Nat) : (List.replicate n (rx0 : Rx α)).getD k rx0 = rx0 := by
  rw [List.getD_eq_getElem?_getD, List.getElem?_replicate]
  split <;> rfl
theorem MiI.start (g : Sq) (c : List Nat) : MiI g c 0 (List.replicate (topL c) rx0) (List.replicate (topL c) rx0) :=
  ⟨by simp, by simp, by rw [List.map_replicate]; exact (pad_nil _ _).symm, by rw [List.map_replicate]; exact (pad_nil _ _).symm, fun k h => by simp [topL] at h, fun k _ => getD_repx _ _⟩
section
variable {g : Sq} {c : List Nat} {q : Nat} {rs : List (Rx (Option Nat))} {os : List (Rx Wd)}
theorem reps_old (hold : c.getD q 0 < topL (c.take q)) : reps c (q + 1) = reps c q := by rw [reps, if_pos hold]
theorem reps_new (hnew : c.getD q 0 = topL (c.take q)) : reps c (q + 1) = reps c q ++ [q] := by rw [reps, if_neg (by omega)]
theorem top_old (hq : q < c.length) (hold : c.getD q 0 < topL (c.take q)) : topL (c.take (q + 1)) = topL (c.take q) := by rw [topL_take c hq]; omega
theorem top_new (hq : q < c.length) (hnew : c.getD q 0 = topL (c.take q)) : topL (c.take (q + 1)) = topL (c.take q) + 1 := by rw [topL_take c hq]; omega
theorem MiI.keep (h : MiI g c q rs os) (hq : q < c.length) (hold : c.getD q 0 < topL (c.take q)) : MiI g c (q + 1) rs os :=
  ⟨h.rl, h.ol, by rw [reps_old hold]; exact h.nx, by rw [reps_old hold]; exact h.ou, fun k hk => h.old k (by rw [top_old hq hold] at hk; exact hk), fun k hk => h.new k (by rw [top_old hq hold] at hk; exact hk)⟩
theorem MiI.put (h : MiI g c q rs os) (hfo : FO c) (hq : q < c.length) (hnew : c.getD q 0 = topL (c.take q)) {R : Rx (Option Nat)} {O : Rx Wd} (ha : R.a.isSome = true) (hR : R.xs = nrow g c q) (hO : O.xs = orw g q) : MiI g c (q + 1) (rs.set (c.getD q 0) R) (os.set (c.getD q 0) O) := by
  have hk : c.getD q 0 < topL c := topL_all c hq
  have hl : (reps c q).length = c.getD q 0 := by rw [reps_len hfo (by omega), hnew]
  refine ⟨by rw [List.length_set]; exact h.rl, by rw [List.length_set]; exact h.ol, ?_, ?_, fun k hk2 => ?_, fun k hk2 => ?_⟩
  · rw [List.map_set, h.nx, reps_new hnew, List.map_append, hR, pad_put (by rw [List.length_map, hl]) hk]; rfl
  · rw [List.map_set, h.ou, reps_new hnew, List.map_append, hO, pad_put (by rw [List.length_map, hl]) hk]; rfl
  · rw [top_new hq hnew] at hk2
    rw [gsetX]
    split
    · exact ha
    · rename_i hne
      refine h.old k ?_
      have : k ≠ c.getD q 0 := fun e => hne ⟨e.symm, by rw [h.rl]; exact hk⟩
      omega
  · rw [top_new hq hnew] at hk2
    rw [gsetX, if_neg (by omega)]
    exact h.new k (by omega)
end
def eP (g : Sq) (c : List Nat) (q : Nat) : List Bool := pad (topL c) false ((reps c q).map g.e)
def fP (g : Sq) (c : List Nat) (q : Nat) : List Wd := pad (topL c) [] ((reps c q).map g.f)
section
variable {g : Sq} {c : List Nat} {q : Nat}
theorem reps_le (hfo : FO c) (hq : q ≤ c.length) : (reps c q).length ≤ topL c := by
  rw [reps_len hfo hq]
  have := topL_mono c hq (Nat.le_refl _)
  rwa [List.take_length] at this
theorem eP_len (hfo : FO c) (hq : q ≤ c.length) : (eP g c q).length = topL c := pad_len (by rw [List.length_map]; exact reps_le hfo hq)
theorem fP_len (hfo : FO c) (hq : q ≤ c.length) : (fP g c q).length = topL c := pad_len (by rw [List.length_map]; exact reps_le hfo hq)
theorem eP_old (hold : c.getD q 0 < topL (c.take q)) : eP g c (q + 1) = eP g c q := by rw [eP, reps_old hold]; rfl
theorem fP_old (hold : c.getD q 0 < topL (c.take q)) : fP g c (q + 1) = fP g c q := by rw [fP, reps_old hold]; rfl
theorem eP_put (hfo : FO c) (hq : q < c.length) (hnew : c.getD q 0 = topL (c.take q)) : ((eP g c q).map bo).set (c.getD q 0) (.bool (g.e q)) = (eP g c (q + 1)).map bo := by
  have hl : (reps c q).length = c.getD q 0 := by rw [reps_len hfo (by omega), hnew]
  rw [show Value.bool (g.e q) = bo (g.e q) from rfl, ← List.map_set, eP, pad_put (by rw [List.length_map, hl]) (topL_all c hq), eP, reps_new hnew, List.map_append]; rfl
theorem fP_put (hfo : FO c) (hq : q < c.length) (hnew : c.getD q 0 = topL (c.take q)) : ((fP g c q).map sv).set (c.getD q 0) (sv (g.f q)) = (fP g c (q + 1)).map sv := by
  have hl : (reps c q).length = c.getD q 0 := by rw [reps_len hfo (by omega), hnew]
  rw [← List.map_set, fP, pad_put (by rw [List.length_map, hl]) (topL_all c hq), fP, reps_new hnew, List.map_append]; rfl
theorem eP_zero : (eP g c 0).map bo = List.replicate (topL c) (.bool false) := by
  rw [eP, show reps c 0 = [] from rfl, List.map_nil, pad_nil, List.map_replicate]
theorem fP_zero : (fP g c 0).map sv = List.replicate (topL c) (sv []) := by
  rw [fP, show reps c 0 = [] from rfl, List.map_nil, pad_nil, List.map_replicate]
theorem quo_done (hc : ClsQ g c) {rs : List (Rx (Option Nat))} {os : List (Rx Wd)} (h : MiI g c g.n rs os) : rs.map (·.xs) = (quoQ g c).nx ∧ os.map (·.xs) = (quoQ g c).ou ∧ eP g c g.n = (quoQ g c).en ∧ fP g c g.n = (quoQ g c).fi := by
  have hl := repsQ_len hc
  refine ⟨?_, ?_, ?_, ?_⟩
  · rw [h.nx, pad_full (by rw [List.length_map, hl])]; rfl
  · rw [h.ou, pad_full (by rw [List.length_map, hl])]; rfl
  · rw [eP, pad_full (by rw [List.length_map, hl])]; rfl
  · rw [fP, pad_full (by rw [List.length_map, hl])]; rfl
theorem quoQ_ok {M : Nat} (hc : ClsQ g c) (hg : g.Ok M) : (quoQ g c).Ok M := by
  have hl := repsQ_len hc
  have htop : topL c ≤ g.n := by
    have := fo_top_le hc.fo (Nat.le_refl c.length)
    rwa [List.take_length, hc.len] at this
  have hn : (quoQ g c).n = topL c := by show (List.map _ _).length = _; rw [List.length_map, hl]
  have hto : ∀ i x, i < topL c → x < g.L → (quoQ g c).to i x = (g.to ((reps c g.n).getD i 0) x).map fun r => c.getD r 0 := fun i x hi hx => by
    show ((List.map _ _).getD i []).getD x none = _
    rw [getD_map _ _ [] 0 (by rw [hl]; exact hi), getD_rng _ _ _ hx]
  have ho : ∀ i x, i < topL c → x < g.L → (quoQ g c).o i x = g.o ((reps c g.n).getD i 0) x := fun i x hi hx => by
    show ((List.map _ _).getD i []).getD x [] = _
    rw [getD_map _ _ [] 0 (by rw [hl]; exact hi), getD_rng _ _ _ hx]
  have he : ∀ i, i < topL c → (quoQ g c).e i = g.e ((reps c g.n).getD i 0) := fun i hi => getD_map _ _ _ _ (by rw [hl]; exact hi)
  have hf : ∀ i, i < topL c → (quoQ g c).f i = g.f ((reps c g.n).getD i 0) := fun i hi => getD_map _ _ _ _ (by rw [hl]; exact hi)
  have hr : ∀ i, i < topL c → (reps c g.n).getD i 0 < g.n := fun i hi => (repsQ_get hc hi).1
  refine ⟨hg.may, by rw [hn]; exact Nat.le_trans htop hg.n5, by rw [hn]; exact topL_all c (by rw [hc.len]; exact hg.st), ?_, fun q hq => ?_, fun q x r hq hx e => ?_, fun q x hq hx e => ?_, fun q hq e => ?_, hg.ti, fun q x hq hx => ?_, fun q hq => ?_⟩
  · rw [hn]
    refine ⟨?_, ?_, ?_⟩
    · show (List.map _ _).length = _; rw [List.length_map, hl]
    · show (List.map _ _).length = _; rw [List.length_map, hl]
    · show (List.map _ _).length = _; rw [List.length_map, hl]
  · rw [hn] at hq
    refine ⟨?_, ?_⟩
    · show ((List.map _ _).getD q []).length = g.L
      rw [getD_map _ _ [] 0 (by rw [hl]; exact hq)]; simp
    · show ((List.map _ _).getD q []).length = g.L
      rw [getD_map _ _ [] 0 (by rw [hl]; exact hq)]; simp
  · rw [hn] at hq ⊢
    rw [hto q x hq hx] at e
    obtain ⟨r', h1, rfl⟩ := Option.map_eq_some_iff.1 e
    exact topL_all c (by rw [hc.len]; exact hg.lt _ x r' (hr q hq) hx h1)
  · rw [hn] at hq
    rw [hto q x hq hx] at e
    rw [ho q x hq hx]
    exact hg.no _ x (hr q hq) hx (by cases h : g.to ((reps c g.n).getD q 0) x with
      | none => rfl
      | some r => rw [h] at e; cases e)
  · rw [hn] at hq
    rw [he q hq] at e
    rw [hf q hq]
    exact hg.nf _ (hr q hq) e
  · rw [hn] at hq
    rw [ho q x hq hx]
    exact hg.to' _ x (hr q hq) hx
  · rw [hn] at hq
    rw [hf q hq]
    exact hg.tf _ (hr q hq)
end
theorem IsNorm.bis {f d : Sq} {M : Nat} (h : IsNorm f d) (hd : d.Ok M) : d.Bis ∧ (d = emptyQ d.L ∨ d.Nf) ∧ d.L = f.L := by
  rcases h.nf with rfl | ⟨_, h1, h2⟩
  · exact ⟨emptyQ_bis _, .inl rfl, rfl⟩
  · exact ⟨h2.bis hd.nf, .inr h2, h1⟩
theorem IsNorm.mini {f d m : Sq} (h : IsNorm f d) (hL : d.L = f.L) (hm : IsMinQ d.L d.value m) : IsMini f m := by
  unfold IsMini
  rw [← hL]
  exact hm.congr fun w hw => h.value (by rw [← hL]; exact hw)
theorem orw_eq {M : Nat} {S : Sv} (h : S.sq.Ok M) {q : Nat} (hq : q < S.rs.length) : (S.os.getD q rx0).xs = orw S.sq q := by
  refine list_ext_getD [] (by rw [h.olen hq, orw_len]; rfl) fun x hx => ?_
  rw [h.olen hq] at hx
  show _ = (List.map _ _).getD x []
  rw [getD_rng _ _ _ (show x < S.sq.L from hx), S.o_eq]
end Go.Sq
namespace Go.Eng
open Go Go.Sq
section
variable {c : Cx} {w : World} {A : List Chunk} {α β : Type} {e e' : TypeId} {f : α → Value} {g : β → Value}
/-- a new row in place of another, in each of two families -/
theorem HOk.fam2set {rs : List (Rx α)} {os : List (Rx β)} {j : Nat} {r : Rx α} {o : Rx β} {k k' : Chunk} (h : HOk c (k :: k' :: (A ++ (fam e f rs ++ fam e' g os))) w) (hk : k = rch e f r) (hk' : k' = rch e' g o) (hj : j < rs.length) (hj' : j < os.length) : HOk c (A ++ (fam e f (rs.set j r) ++ fam e' g (os.set j o))) w := by
  subst hk hk'
  have h1 := (h.perm (List.Perm.swap _ _ _)).place (p := (rch e f r :: (A ++ fam e f rs)).length + j) (by simp only [List.length_cons, List.length_append, List.length_map]; omega)
  have e1 : rch e f r :: (A ++ (fam e f rs ++ fam e' g os)) = (rch e f r :: (A ++ fam e f rs)) ++ fam e' g os := by simp
  rw [e1, fam_set rfl] at h1
  have e2 : (rch e f r :: (A ++ fam e f rs)) ++ fam e' g (os.set j o) = rch e f r :: ((A ++ fam e f rs) ++ fam e' g (os.set j o)) := rfl
  rw [e2] at h1
  have h2 := h1.place (p := A.length + j) (by simp only [List.length_append, List.length_map]; omega)
  rw [List.set_append_left _ _ (by simp only [List.length_append, List.length_map]; omega), fam_set rfl, List.append_assoc] at h2
  exact h2
end
end Go.Eng

namespace Go.Sq
open Go Go.Eng Go.Am
open Go.Tl (Wd bo okW okB)
/-! comparing; dealt functions -/
theorem okT_of_okW {M : Nat} {l : Wd} {k : Int} (h : okW l k = true) (hk : k ≤ 6) (hl : l.length ≤ M) : okT M l := by
  refine ⟨hl, fun b hb => ?_⟩
  unfold okW at h
  simp only [Bool.and_eq_true, List.all_eq_true] at h
  have := h.2.2 b hb
  unfold okB at this
  simp only [Bool.and_eq_true, decide_eq_true_eq] at this
  omega
/-- bytes among so many letters -/
def okO (o : Int) (s : Wd) : Prop := ∀ b ∈ s, (b.toNat : Int) < 97 + o
theorem okO.nil (o : Int) : okO o [] := fun _ h => by cases h
theorem okO.app {o : Int} {s t : Wd} (h : okO o s) (k : okO o t) : okO o (s ++ t) := fun b hb => by
  rcases List.mem_append.1 hb with h1 | h1
  · exact h b h1
  · exact k b h1
theorem okO_of_okW {l : Wd} {k : Int} (h : okW l k = true) : okO k l := by
  intro b hb
  unfold okW at h
  simp only [Bool.and_eq_true, List.all_eq_true] at h
  have := h.2.2 b hb
  unfold okB at this
  simp only [Bool.and_eq_true, decide_eq_true_eq] at this
  omega
structure Sq.Over (u : Int) (d : Sq) : Prop where
  i : okO u d.init
  o : ∀ q x, q < d.n → x < d.L → okO u (d.o q x)
  f : ∀ q, q < d.n → okO u (d.f q)
/-- a row that is dealt letter by letter -/
structure RowI (o : Int) (n x : Nat) (xs : List (Option Nat)) (ws : List Wd) : Prop where
  xl : xs.length = x
  wl : ws.length = x
  lt : ∀ y r, xs.getD y none = some r → r < n
  no : ∀ y, y < x → xs.getD y none = none → ws.getD y [] = []
  to : ∀ y, okT 2 (ws.getD y [])
  ov : ∀ y, okO o (ws.getD y [])
theorem getD_snoc {α : Type} (l : List α) (v z : α) (y : Nat) : (l ++ [v]).getD y z = if y = l.length then v else l.getD y z := by
  rw [List.getD_eq_getElem?_getD, List.getD_eq_getElem?_getD]
  rcases Nat.lt_trichotomy y l.length with h | h | h
  · rw [if_neg (by omega), List.getElem?_append_left h]
  · rw [if_pos h, h, List.getElem?_append_right (Nat.le_refl _), Nat.sub_self]; rfl
  · rw [if_neg (by omega), List.getElem?_append_right (by omega), List.getElem?_eq_none (by omega : l.length ≤ y), List.getElem?_eq_none (by simp; omega)]
theorem RowI.start (o : Int) (n : Nat) : RowI o n 0 [] [] := ⟨rfl, rfl, fun y r h => by simp at h, fun y h => by omega, fun y => by simp [okT.nil], fun y => by simp [okO.nil]⟩
theorem RowI.snoc {o : Int} {n x : Nat} {xs : List (Option Nat)} {ws : List Wd} (h : RowI o n x xs ws) {t : Option Nat} {v : Wd} (ht : ∀ r, t = some r → r < n) (hn : t = none → v = []) (hv : okT 2 v ∧ okO o v) : RowI o n (x + 1) (xs ++ [t]) (ws ++ [v]) := by
  refine ⟨by rw [List.length_append, h.xl]; rfl, by rw [List.length_append, h.wl]; rfl, fun y r hy => ?_, fun y hy hx => ?_, fun y => ?_, fun y => ?_⟩
  · rw [getD_snoc] at hy
    split at hy
    · exact ht r hy
    · exact h.lt y r hy
  · rw [getD_snoc, h.xl] at hx
    rw [getD_snoc, h.wl]
    split
    · rename_i e; rw [if_pos e] at hx; exact hn hx
    · rename_i e; rw [if_neg e] at hx; exact h.no y (by omega) hx
  · rw [getD_snoc]
    split
    · exact hv.1
    · exact h.to y
  · rw [getD_snoc]
    split
    · exact hv.2
    · exact h.ov y
structure TqI (o : Int) (L n k : Nat) (rs : List (Rx (Option Nat))) (os : List (Rx Wd)) (es : List Bool) (fs : List Wd) : Prop where
  rl : rs.length = k
  ol : os.length = k
  el : es.length = k
  fl : fs.length = k
  row : ∀ q, q < k → RowI o n L (rs.getD q rx0).xs (os.getD q rx0).xs
  nf : ∀ q, q < k → es.getD q false = false → fs.getD q [] = []
  tf : ∀ q, okT 2 (fs.getD q [])
  fo : ∀ q, okO o (fs.getD q [])
theorem TqI.start (o : Int) (L n : Nat) : TqI o L n 0 [] [] [] [] := ⟨rfl, rfl, rfl, rfl, fun q h => by omega, fun q h => by omega, fun q => by simp [okT.nil], fun q => by simp [okO.nil]⟩
theorem TqI.snoc {u : Int} {L n k : Nat} {rs : List (Rx (Option Nat))} {os : List (Rx Wd)} {es : List Bool} {fs : List Wd} (h : TqI u L n k rs os es fs) {r : Rx (Option Nat)} {o : Rx Wd} {e : Bool} {v : Wd} (hr : RowI u n L r.xs o.xs) (hn : e = false → v = []) (hv : okT 2 v ∧ okO u v) : TqI u L n (k + 1) (rs ++ [r]) (os ++ [o]) (es ++ [e]) (fs ++ [v]) := by
  refine ⟨by rw [List.length_append, h.rl]; rfl, by rw [List.length_append, h.ol]; rfl, by rw [List.length_append, h.el]; rfl, by rw [List.length_append, h.fl]; rfl, fun q hq => ?_, fun q hq he => ?_, fun q => ?_, fun q => ?_⟩
  · rw [getD_snoc, getD_snoc, h.rl, h.ol]
    split
    · exact hr
    · exact h.row q (by omega)
  · rw [getD_snoc, h.el] at he
    rw [getD_snoc, h.fl]
    split
    · rename_i e2; rw [if_pos e2] at he; exact hn he
    · rename_i e2; rw [if_neg e2] at he; exact h.nf q (by omega) he
  · rw [getD_snoc]
    split
    · exact hv.1
    · exact h.tf q
  · rw [getD_snoc]
    split
    · exact hv.2
    · exact h.fo q
theorem TqI.over {u : Int} {S : Sv} (h : TqI u S.L S.rs.length S.rs.length S.rs S.os S.en S.fi) (hi : okO u S.init) : S.sq.Over u :=
  ⟨hi, fun q x hq hx => by
    rw [S.n_eq] at hq
    rw [S.o_eq]
    exact (h.row q hq).ov x, fun q hq => h.fo q⟩
theorem TqI.ok {u : Int} {S : Sv} (h : TqI u S.L S.rs.length S.rs.length S.rs S.os S.en S.fi) (hL : 1 ≤ S.L ∧ S.L ≤ 6) (hn : S.rs.length ≤ 512) (hs : S.s < S.rs.length) (hi : okT 2 S.init) : S.sq.Ok 2 := by
  have e := S.n_eq
  refine ⟨hL, by rw [e]; exact hn, by rw [e]; exact hs, ⟨?_, ?_, ?_⟩, fun q hq => ?_, fun q x r hq hx ht => ?_, fun q x hq hx ht => ?_, fun q hq he => ?_, hi, fun q x hq hx => ?_, fun q hq => ?_⟩
  · show (S.os.map _).length = _; rw [List.length_map, e, h.ol]
  · show S.en.length = _; rw [e, h.el]
  · show S.fi.length = _; rw [e, h.fl]
  all_goals rw [e] at hq
  · refine ⟨?_, ?_⟩
    · show ((S.rs.map (·.xs)).getD q []).length = S.L
      rw [rx_getD, (h.row q hq).xl]
    · show ((S.os.map (·.xs)).getD q []).length = S.L
      rw [rx_getD, (h.row q hq).wl]
  · rw [S.to_eq] at ht
    rw [e]
    exact (h.row q hq).lt x r ht
  · rw [S.to_eq] at ht
    rw [S.o_eq]
    exact (h.row q hq).no x hx ht
  · exact h.nf q hq he
  · rw [S.o_eq]
    exact (h.row q hq).to x
  · exact h.tf q
end Go.Sq
namespace Go.Sq
open Go Go.Eng Go.Am
open Go.Tl (Wd bo)
/-! the law of normal and minimal functions -/
theorem IsNorm.n_le {f d : Sq} {M : Nat} (hf : f.Ok M) (h : IsNorm f d) : d.n ≤ f.n := by
  obtain ⟨g, h1, h2⟩ := h
  have := (IsTrim.ok hf h1).2
  rcases h2 with ⟨_, rfl⟩ | ⟨_, P, _, rfl⟩
  · exact this
  · exact this
theorem quoQ_n {g : Sq} {c : List Nat} (hc : ClsQ g c) : (quoQ g c).n = topL c := by
  show (List.map _ _).length = _; rw [List.length_map, repsQ_len hc]
theorem IsMini.again {f m e : Sq} (h : IsMini f m) (k : IsMini m e) : e = m := by
  unfold IsMini at h k
  rw [h.L_eq] at k
  exact (k.congr fun w hw => h.val w hw).unique h
def kn : Sq := ⟨1, 0, [], [true], [[98]], [[some 0]], [[[98]]]⟩
theorem kn_ok : kn.Ok 1 := by
  refine ⟨⟨Nat.le_refl _, by decide⟩, by decide, by decide, ⟨rfl, rfl, rfl⟩, fun q hq => ?_, fun q x r hq hx h => ?_, fun q x hq hx h => ?_, fun q hq h => ?_, okT.nil 1, fun q x hq hx => ?_, fun q hq => ?_⟩
  all_goals (obtain rfl : q = 0 := Nat.lt_one_iff.1 hq)
  · exact ⟨rfl, rfl⟩
  · obtain rfl : x = 0 := Nat.lt_one_iff.1 hx
    cases h; decide
  · obtain rfl : x = 0 := Nat.lt_one_iff.1 hx
    cases h
  · cases h
  · obtain rfl : x = 0 := Nat.lt_one_iff.1 hx
    exact ⟨by decide, fun b hb => by obtain rfl := List.mem_singleton.1 hb; decide⟩
  · exact ⟨by decide, fun b hb => by obtain rfl := List.mem_singleton.1 hb; decide⟩
theorem kn_step {x : Nat} {w : List Nat} (hx : x < 1) : kn.tr.val 0 (x :: w) = (kn.tr.val 0 w).map ([98] ++ ·) := by
  obtain rfl : x = 0 := by omega
  exact kn.tr.val_some rfl
theorem kn_val : ∀ {w : List Nat}, InW 1 w → ∃ t, kn.tr.val 0 w = some (98 :: t)
  | [], _ => ⟨[], rfl⟩
  | x :: w, h => by
    obtain ⟨t, e⟩ := kn_val h.tail
    exact ⟨98 :: t, by rw [kn_step h.head, e]; rfl⟩
theorem kn_pf {P : List Wd} (h : kn.Pf P) : P = [[98]] := by
  refine h.unique ⟨rfl, fun q hq => ?_⟩
  obtain rfl : q = 0 := Nat.lt_one_iff.1 hq
  refine ⟨fun w v hw hv => ?_, fun p' hp => hp [] _ (InW.nil 1) rfl⟩
  obtain ⟨t, e⟩ := kn_val hw
  rw [e] at hv
  cases hv
  exact ⟨t, rfl⟩
theorem kn_co : kn.tr.co 1 0 = true := Tr.co_t.2 ⟨[], InW.nil 1, rfl⟩
theorem kn_trim {g : Sq} (h : IsTrim kn.tr 1 0 [] g) : g = kn := by
  refine Sq.Trimmed.again kn_ok.fit ⟨rfl, ?_, fun q hq => ?_⟩ Nat.zero_lt_one h
  · have h0 : bfsP kn.to 1 0 (0 * 1) = [0] := rfl
    have h1 : bfsP kn.to 1 0 (1 * 1) = [0] := rfl
    exact ⟨1 * 1, DoneP.of (Nat.zero_lt_one) (GoingP.next GoingP.zero (by show 0 < (bfsP kn.to 1 0 (0 * 1)).length; rw [h0]; exact Nat.zero_lt_one)) (by show (bfsP kn.to 1 0 (1 * 1)).length ≤ 1; rw [h1]; exact Nat.le_refl _), h1⟩
  · obtain rfl : q = 0 := Nat.lt_one_iff.1 hq
    exact kn_co
theorem kn_norm {d : Sq} (h : IsNorm kn d) : d = ⟨1, 0, [98], [true], [[]], [[some 0]], [[[98]]]⟩ := by
  obtain ⟨g, h1, h2⟩ := h
  have hg := kn_trim h1
  subst hg
  rcases h2 with ⟨h2, _⟩ | ⟨_, P, hP, rfl⟩
  · rw [show kn.tr.co kn.L kn.s = true from kn_co] at h2; cases h2
  · rw [kn_pf hP]; rfl
end Go.Sq

namespace Go.Sq
open Go Go.Eng Go.Am
open Go.Tl (Wd bo)
/-! the domain's system: -1 is dead -/
def dmf (d : Sq) : Int → Nat → Int := fun q x => if q = -1 then -1 else oi (d.to q.toNat x)
def dme (d : Sq) : Int → Bool := fun q => decide (q ≠ -1) && d.e q.toNat
theorem dm_dead (d : Sq) (w : List Nat) : (⟨dmf d, dme d⟩ : Sy Int).run (-1) w = -1 := by
  induction w with
  | nil => rfl
  | cons x w ih =>
    show (⟨dmf d, dme d⟩ : Sy Int).run (dmf d (-1) x) w = -1
    rw [show dmf d (-1) x = -1 from rfl]; exact ih
theorem dm_acc (d : Sq) (w : List Nat) : ∀ q : Nat, dme d ((⟨dmf d, dme d⟩ : Sy Int).run (q : Int) w) = (d.tr.val q w).isSome := by
  induction w with
  | nil =>
    intro q
    show (decide ((q : Int) ≠ -1) && d.e (q : Int).toNat) = (if d.tr.en q then some (d.tr.fi q) else none).isSome
    rw [show decide ((q : Int) ≠ -1) = true from decide_eq_true (by omega), Bool.true_and, Int.toNat_natCast]
    show d.e q = (if d.e q then some (d.f q) else none).isSome
    cases d.e q <;> rfl
  | cons x w ih =>
    intro q
    show dme d ((⟨dmf d, dme d⟩ : Sy Int).run (dmf d q x) w) = _
    have e : dmf d q x = oi (d.to q x) := by rw [dmf, if_neg (by omega), Int.toNat_natCast]
    rw [e]
    cases h : d.to q x with
    | none =>
      rw [show oi none = -1 from rfl, dm_dead, d.tr.val_none h]; rfl
    | some r =>
      rw [show oi (some r) = (r : Int) from rfl, ih r, d.tr.val_some h]
      cases d.tr.val r w <;> rfl
end Go.Sq

namespace Go.Sq
open Go Go.Eng Go.Am
open Go.Tl (Wd bo)
/-! the domain of a function -/
theorem dm_all {d : Sq} {M : Nat} (h : d.Ok M) (k : Nat) : ∀ q ∈ bfs (dmf d) d.L (d.s : Int) k, -1 ≤ q ∧ q < d.n := by
  refine bfs_all (p := fun q : Int => -1 ≤ q ∧ q < d.n) ⟨by omega, by have := h.st; omega⟩ (fun a x ha hx => ?_) (by have := h.may; omega) k
  show -1 ≤ dmf d a x ∧ dmf d a x < d.n
  unfold dmf
  split
  · omega
  · cases e : d.to a.toNat x with
    | none => show -1 ≤ (-1 : Int) ∧ (-1 : Int) < _; omega
    | some r =>
      have := h.lt a.toNat x r (by omega) hx e
      show -1 ≤ (r : Int) ∧ (r : Int) < _; omega
theorem dm_len {d : Sq} {M : Nat} (h : d.Ok M) (k : Nat) : (bfs (dmf d) d.L (d.s : Int) k).length ≤ d.n + 1 := by
  have : (bfs (dmf d) d.L (d.s : Int) k).length ≤ ((-1 : Int) :: (List.range d.n).map fun n : Nat => (n : Int)).length := (bfs_nodup k).length_le_of_subset fun q hq => by
    have := dm_all h k q hq
    rcases Int.lt_or_le q 0 with h1 | h1
    · rw [show q = -1 by omega]; exact List.mem_cons_self
    · refine List.mem_cons_of_mem _ (List.mem_map.2 ⟨q.toNat, List.mem_range.2 (by omega), ?_⟩)
      show (q.toNat : Int) = q; omega
  simpa using this
theorem min_n {d m : Da} (hd : d.Ok) (h : IsMin d.L d.sy d.s m) : m.n ≤ d.n := by
  have := h.le (List.range d.n) (fun w hw => List.mem_range.2 (hd.run_lt hw hd.st))
  simpa using this
theorem coarse_top {d : Da} {c : List Nat} (h : Coarse d c) : topL c ≤ d.n := by
  have := fo_top_le h.fo (Nat.le_refl c.length)
  rwa [List.take_length, h.len] at this
/-- what an automaton of an explored system accepts -/
theorem done_acc {α : Type} [DecidableEq α] {f : α → Nat → α} {L : Nat} {s : α} {K : Nat} (h : Done f L s K) (fin : α → Bool) {m : Da} (hm : IsMin (autoD f L s K fin).L (autoD f L s K fin).sy (autoD f L s K fin).s m) {w : List Nat} (hw : InW L w) : m.sy.acc m.s w = fin ((⟨f, fin⟩ : Sy α).run s w) := by
  have h1 := hm.eqv w hw
  have h2 := autoD_eqv h fin (bfs_pos (f := f) (L := L) (s := s) K) w hw
  rw [bfs_head] at h2
  exact h1.trans h2
theorem dm_dom {f d : Sq} (ht : IsTrim f.tr f.L f.s f.init d) {K : Nat} (h : Done (dmf d) d.L (d.s : Int) K) {m : Da} (hm : IsMin (autoD (dmf d) d.L (d.s : Int) K (dme d)).L (autoD (dmf d) d.L (d.s : Int) K (dme d)).sy (autoD (dmf d) d.L (d.s : Int) K (dme d)).s m) {w : List Nat} (hw : InW f.L w) : m.sy.acc m.s w = (f.value w).isSome := by
  have hL := ht.L_eq
  rw [done_acc h (dme d) hm (by rw [hL]; exact hw), dm_acc, show (d.tr.val d.s w).isSome = (d.value w).isSome by unfold Sq.value; rw [Option.isSome_map], ht.value hw]
  unfold Sq.value; rfl
end Go.Sq
namespace Go.Sq
theorem apv_2 (o : Option Go.Tl.Wd) : (apv o).2 = o.isSome := by cases o <;> rfl
end Go.Sq

