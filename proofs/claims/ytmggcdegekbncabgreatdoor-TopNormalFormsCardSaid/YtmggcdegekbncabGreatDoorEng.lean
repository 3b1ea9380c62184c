/-
  The engine of the walks: slots as a list, memory as chunks, one lemma for each operation. No condition.
-/
import Derived.WalkKit
import GoSem.Core.View
import Derived.OrdersHeld
import Derived.Deep.Quiet
import Derived.StillTail
import Derived.Laws.Tables
import Derived.Great.BuildSlice
import Derived.OwnWalk
import Derived.Laws.IdiomStrings
import Derived.ProofKit
import Derived.OpenShut
import Derived.ShutString
import Derived.ChangeOld
import Derived.Below
import Derived.MapKept
import Derived.Laws.StructEq
import Derived.Laws.Concat
import Derived.Laws.Cover3
set_option linter.unusedSimpArgs false
namespace Go.Eng
open Go
/-! no run takes a draw back -/
theorem viewStore_drawn {p : Program} {w w' : World} {at_ : Addr} {u : TypeId} {k : Addr} {v : Value} {atomic : Bool} {l : List Addr} (h : w.viewStore p at_ u k v atomic = .ok (w', l)) : w'.drawn = w.drawn := by
  unfold World.viewStore at h
  simp only [bind, Except.bind, pure, Except.pure, throw, throwThe, MonadExceptOf.throw] at h
  repeat' split at h
  all_goals first | (cases h; done) | (cases h; rfl) | skip
  all_goals (injection h with h; injection h with h1 h2; rw [← h1])
theorem farStore_drawn {p : Program} {w w' : World} {a : Addr} {v : Value} {atomic : Bool} {l : List Addr} (h : w.farStore p a v atomic = .ok (w', l)) : w'.drawn = w.drawn := by
  unfold World.farStore at h
  split at h
  · split at h
    · rename_i hv
      cases h
      exact viewStore_drawn hv
    · cases h
  · cases h
theorem ask_drawn {α : Type} : ∀ (x : Ask α) (w : World), w.drawn ≤ (w.ask x).2.drawn
  | .done a, w => Nat.le_refl _
  | .ask what range k, w => by
    unfold World.ask
    dsimp only
    split
    · exact ask_drawn _ w
    · exact Nat.le_trans (Nat.le_succ _) (ask_drawn _ { w with drawn := w.drawn + 1 })
theorem sys_drawn (w : World) (c : Sys) : w.drawn ≤ (w.sys c).2.drawn := by
  unfold World.sys
  have := ask_drawn (Kernel.perform c w.os) w
  split
  · exact Nat.le_refl _
  · rename_i h
    rw [h] at this; exact this
theorem run_drawn {α : Type} {P : Program} (s : Sem α) : ∀ {w w' : World} {a : α}, s.run P w = .ok a w' → w.drawn ≤ w'.drawn := by
  induction s with
  | pure x => intro w w' a h; cases h; exact Nat.le_refl _
  | load m x k ih =>
    intro w w' a h
    unfold Sem.run at h
    split at h
    · exact ih _ h
    · split at h
      · exact ih _ h
      · cases h
  | store m x v k ih =>
    intro w w' a h
    have key : ∀ {w'' : World}, (match w.cell? x with
      | some _ => if w.frozen? x then Result.halt (.unsupported (.unsafePointer "a write to bytes that a string shares")) w else k.run P (w.setCell x v)
      | none => match w.farStore P x v (m == Mode.atomic) with
        | .ok (w, _) => k.run P w
        | .error h => .halt h w) = .ok a w'' → w.drawn ≤ w''.drawn := by
      intro w'' h
      split at h
      · split at h
        · cases h
        · exact ih (w := w.setCell x v) h
      · split at h
        · rename_i hf
          have := ih h
          rw [farStore_drawn hf] at this
          exact this
        · cases h
    cases v
    case agg => simp only [Sem.run] at h; cases h
    case tuple => simp only [Sem.run] at h; cases h
    all_goals (exact key h)
  | new o k ih =>
    intro w w' a h
    exact ih _ (w := { w with heap := w.heap.push o }) h
  | shape r k ih => intro w w' a h; exact ih _ h
  | freeze x n k ih =>
    intro w w' a h
    have := ih (w := w.freeze x n) h
    have e : (w.freeze x n).drawn = w.drawn := by unfold World.freeze; split <;> rfl
    rw [e] at this; exact this
  | frozen x k ih => intro w w' a h; exact ih _ h
  | getObj r k ih =>
    intro w w' a h
    unfold Sem.run at h
    split at h
    · cases h
    · exact ih _ h
    · cases h
  | setObj r o k ih =>
    intro w w' a h
    unfold Sem.run at h
    split at h
    · cases h
    · exact ih (w := { w with heap := w.heap.setIfInBounds r o }) h
    · cases h
  | choose q k ih =>
    intro w w' a h
    unfold Sem.run at h
    split at h
    · exact ih _ h
    · exact Nat.le_trans (Nat.le_succ _) (ih _ (w := { w with drawn := w.drawn + 1 }) h)
  | sys c k ih =>
    intro w w' a h
    exact Nat.le_trans (sys_drawn w c) (ih _ h)
  | program k ih => intro w w' a h; exact ih _ h
  | mark m k ih => intro w w' a h; exact ih h
  | halt h' => intro w w' a h; cases h
end Go.Eng

namespace Go.Eng
open Go

abbrev Slots := List (Nat × Value)

def look : Slots → Nat → Option Value
  | [], _ => none
  | (k, v) :: r, t => bif k == t then some v else look r t

def evE (E : Slots) : Operand → Option Value
  | .tmp t => look E t
  | .const v => some v
  | .global g => some (.pointer (some ⟨g, 0, none⟩))
  | .func f => some (.func (.func f) #[] #[])

structure Env (n : Nat) (E : Slots) (a : Act) : Prop where
  size : a.tmps.size = n
  defers : a.defers = []
  get : ∀ t v, look E t = some v → a.tmps.getD t undef = v

theorem Env.eval {n : Nat} {E : Slots} {a : Act} (h : Env n E a) {x : Operand} {v : Value} (hx : evE E x = some v) : a.eval x = v := by
  cases x with
  | tmp t => exact h.get t v hx
  | const u => exact Option.some.inj hx
  | global g => exact Option.some.inj hx
  | func f => exact Option.some.inj hx

theorem Env.put {n : Nat} {E : Slots} {a : Act} (h : Env n E a) {d : Nat} (hd : d < n) (v : Value) : Env n ((d, v) :: E) (a.put (some d) v) := by
  refine ⟨by simp [Act.put, h.size], h.defers, fun t u ht => ?_⟩
  simp only [look] at ht
  by_cases e : d = t
  · subst e
    simp at ht
    subst ht
    simp [Act.put, h.size, hd]
  · have : (d == t) = false := by simpa using e
    rw [this] at ht
    have := h.get t u ht
    simp only [Act.put]
    rw [← this]
    simp [Array.getD_eq_getD_getElem?, Array.getElem?_setIfInBounds_ne e]

/-- what L says E says -/
def Sub : Slots → Slots → Prop
  | [], _ => True
  | (t, v) :: r, E => look E t = some v ∧ Sub r E

theorem Sub.look {L E : Slots} (h : Sub L E) {t : Nat} {v : Value} (hl : look L t = some v) : look E t = some v := by
  induction L with
  | nil => simp [Eng.look] at hl
  | cons p r ih =>
    obtain ⟨k, u⟩ := p
    simp only [Eng.look] at hl
    by_cases e : k = t
    · subst e; simp at hl; subst hl; exact h.1
    · have : (k == t) = false := by simpa using e
      rw [this] at hl; exact ih h.2 hl

theorem Env.sub {n : Nat} {E L : Slots} {a : Act} (h : Env n E a) (hs : Sub L E) : Env n L a :=
  ⟨h.size, h.defers, fun t v hl => h.get t v (hs.look hl)⟩


/-! ### worlds -/

/-- Outside X what stood in w stands in w'. -/
structure Ext (X : List Nat) (w w' : World) : Prop where
  os : w'.os = w.os
  tape : w'.tape = w.tape
  output : w'.output = w.output
  size : w.heap.size ≤ w'.heap.size
  block : ∀ k, k < w.heap.size → k ∉ X → w'.heap[k]? = w.heap[k]?
  drawn : w.drawn ≤ w'.drawn

theorem Ext.refl (X : List Nat) (w : World) : Ext X w w := ⟨rfl, rfl, rfl, Nat.le_refl _, fun _ _ _ => rfl, Nat.le_refl _⟩

theorem Ext.trans {X : List Nat} {a b c : World} (h : Ext X a b) (k : Ext X b c) : Ext X a c :=
  ⟨k.os.trans h.os, k.tape.trans h.tape, k.output.trans h.output, Nat.le_trans h.size k.size,
    fun i hi hx => (k.block i (Nat.lt_of_lt_of_le hi h.size) hx).trans (h.block i hi hx), Nat.le_trans h.drawn k.drawn⟩

theorem Ext.mono {X Y : List Nat} {a b : World} (h : Ext X a b) (hs : ∀ x ∈ X, x ∈ Y) : Ext Y a b :=
  ⟨h.os, h.tape, h.output, h.size, fun i hi hx => h.block i hi (fun hm => hx (hs i hm)), h.drawn⟩

theorem Ext.of_nil {Y : List Nat} {a b : World} (h : Ext [] a b) : Ext Y a b := h.mono (fun _ h => by cases h)

theorem Ext.drew (X : List Nat) (w : World) (n : Nat) (hn : w.drawn ≤ n) : Ext X w { w with drawn := n } := ⟨rfl, rfl, rfl, Nat.le_refl _, fun _ _ _ => rfl, hn⟩

theorem Ext.below {w w' : World} (h : Ext [] w w') : RowKit.Below w.heap.size w w' :=
  ⟨h.os, h.tape, h.output, h.size, fun k hk => h.block k hk (by simp)⟩

theorem Ext.of_grown {w w' : World} {row : Option Nat} (hg : w.grownBy w' row) (X : List Nat) (hr : ∀ k, row = some k → k < w.heap.size → k ∈ X) (hd : w.drawn ≤ w'.drawn) : Ext X w w' :=
  ⟨hg.os, hg.tape, hg.output, hg.size, fun k hk hx => hg.block k hk (fun e => hx (hr k e.symm hk)), hd⟩

theorem Ext.cell {X : List Nat} {w w' : World} (h : Ext X w w') {p : Addr} {v : Value} (hc : w.cell? p = some v) (hx : p.block ∉ X) : w'.cell? p = some v :=
  (World.cell?_of_block (w := w) (h.block p.block (World.block_lt_of_cell? w p hc) hx)).trans hc

inductive Chunk where
  /-- the slice value v of len elements of type e (size cells each) owns the cells xs -/
  | row (e : TypeId) (size : Nat) (v : Value) (len : Nat) (xs : List Value)
  /-- block b is this -/
  | blk (b : Nat) (o : Obj)
  /-- what the blocks bs hold bears p out -/
  | frag (bs : List Nat) (p : World → Prop)

/-- the chunk's blocks -/
def Chunk.own : Chunk → Nat → Prop
  | .row _ _ v _ _, b => v.ownBlock = some b
  | .blk c _, b => c = b
  | .frag bs _, b => b ∈ bs

def Chunk.holds (w : World) : Chunk → Prop
  | .row e size v len xs => w.ownsRow 0 e size v len xs
  | .blk b o => w.heap[b]? = some o
  | .frag bs p => (∀ b ∈ bs, b < w.heap.size) ∧ ∀ w' : World, (∀ b ∈ bs, w'.heap[b]? = w.heap[b]?) → p w'

theorem Chunk.holds.lt {w : World} {k : Chunk} (h : k.holds w) {b : Nat} (hb : k.own b) : b < w.heap.size := by
  cases k with
  | row e size v len xs => exact (World.ownsRow.lt h b hb).2
  | blk c o =>
    simp only [Chunk.own] at hb
    subst hb
    exact (Array.getElem?_eq_some_iff.1 h).1
  | frag bs p => exact h.1 b hb

theorem Chunk.holds.of_block {w w' : World} {k : Chunk} (h : k.holds w) (hb : ∀ b, k.own b → w'.heap[b]? = w.heap[b]?) : k.holds w' := by
  cases k with
  | row e size v len xs =>
    refine ⟨h.1, ?_⟩
    rcases h.2 with hn | ⟨g, cap, cur, rfl, hbg, hgg, rest⟩
    · exact .inl hn
    · exact .inr ⟨g, cap, cur, rfl, hbg, (hb g rfl).trans hgg, rest⟩
  | blk c o => exact (hb c rfl).trans h
  | frag bs p =>
    refine ⟨fun b hm => ?_, fun w'' hw => h.2 w'' fun b hm => (hw b hm).trans (hb b hm)⟩
    have h1 := h.1 b hm
    have h2 := hb b hm
    rw [Array.getElem?_eq_getElem h1] at h2
    exact (Array.getElem?_eq_some_iff.1 h2).1

structure Cx where
  P : Program
  n : Nat
  X : List Nat
  w0 : World

def Apart (k l : Chunk) : Prop := ∀ b, k.own b → ¬ l.own b

structure HOk (c : Cx) (H : List Chunk) (w : World) : Prop where
  ext : Ext c.X c.w0 w
  holds : ∀ k ∈ H, k.holds w ∧ ∀ b, k.own b → c.w0.heap.size ≤ b ∨ b ∈ c.X
  apart : H.Pairwise Apart

theorem HOk.start (c : Cx) : HOk c [] c.w0 := ⟨Ext.refl _ _, (fun _ h => by cases h), List.Pairwise.nil⟩

theorem HOk.ext_nil {c : Cx} {H : List Chunk} {w w' : World} (h : HOk c H w) (he : Ext [] w w') : HOk c H w' :=
  ⟨h.ext.trans he.of_nil, fun k hk => ⟨(h.holds k hk).1.of_block (fun b hb => he.block b ((h.holds k hk).1.lt hb) (by simp)), (h.holds k hk).2⟩, h.apart⟩

theorem HOk.drawn {c : Cx} {H : List Chunk} {w : World} (h : HOk c H w) (n : Nat) (hn : w.drawn ≤ n) : HOk c H { w with drawn := n } := h.ext_nil (Ext.drew _ _ _ hn)

/-- A call (or an operation) has made a block more. -/
theorem HOk.add {c : Cx} {H : List Chunk} {w w' : World} (h : HOk c H w) (he : Ext [] w w') {k : Chunk} (hk : k.holds w') (hb : ∀ b, k.own b → w.heap.size ≤ b) : HOk c (k :: H) w' := by
  have h1 := h.ext_nil he
  refine ⟨h1.ext, fun l hl => ?_, List.Pairwise.cons (fun l hl b hb1 hb2 => ?_) h.apart⟩
  · rcases List.mem_cons.1 hl with rfl | hl
    · exact ⟨hk, fun b hb1 => .inl (Nat.le_trans h.ext.size (hb b hb1))⟩
    · exact h1.holds l hl
  · have := (h.holds l hl).1.lt hb2
    have := hb b hb1
    omega

theorem HOk.sublist {c : Cx} {H L : List Chunk} {w : World} (h : HOk c H w) (hs : L.Sublist H) : HOk c L w :=
  ⟨h.ext, fun l hl => h.holds l (hs.subset hl), h.apart.sublist hs⟩

/-- Block of chunk number i is written; all else stays. -/
theorem HOk.set {c : Cx} {H : List Chunk} {w w' : World} (h : HOk c H w) {i : Nat} {k k' : Chunk} (hi : H[i]? = some k) (hkb : ∀ b, k'.own b → k.own b ∨ w.heap.size ≤ b)
    (hk' : k'.holds w') (hos : w'.os = w.os) (htape : w'.tape = w.tape) (hout : w'.output = w.output) (hsize : w.heap.size ≤ w'.heap.size)
    (hblock : ∀ b, b < w.heap.size → ¬ k.own b → w'.heap[b]? = w.heap[b]?) (hdr : w.drawn ≤ w'.drawn) : HOk c (H.set i k') w' := by
  have hmem : k ∈ H := List.mem_of_getElem? hi
  have hlt : i < H.length := (List.getElem?_eq_some_iff.1 hi).1
  have hget : H[i] = k := (List.getElem?_eq_some_iff.1 hi).2
  refine ⟨?_, fun l hl => ?_, ?_⟩
  · refine ⟨hos.trans h.ext.os, htape.trans h.ext.tape, hout.trans h.ext.output, Nat.le_trans h.ext.size hsize, fun b hb hx => ?_, Nat.le_trans h.ext.drawn hdr⟩
    rw [hblock b (Nat.lt_of_lt_of_le hb h.ext.size) ?_]
    · exact h.ext.block b hb hx
    · intro e
      rcases (h.holds k hmem).2 b e with h1 | h1
      · omega
      · exact hx h1
  · rcases List.mem_or_eq_of_mem_set hl with hl | rfl
    · -- an old one: it may be k itself only if k is listed twice: then its block is the same: but apart
      by_cases hlk : ∃ j, j ≠ i ∧ H[j]? = some l
      · obtain ⟨j, hj, hjl⟩ := hlk
        have hap : Apart l k ∨ Apart k l := by
          have hjlt : j < H.length := (List.getElem?_eq_some_iff.1 hjl).1
          have hjg : H[j] = l := (List.getElem?_eq_some_iff.1 hjl).2
          rcases Nat.lt_or_gt_of_ne hj with h1 | h1
          · left; rw [← hjg, ← hget]; exact List.pairwise_iff_getElem.1 h.apart j i hjlt hlt h1
          · right; rw [← hjg, ← hget]; exact List.pairwise_iff_getElem.1 h.apart i j hlt hjlt h1
        have hne : ∀ b, l.own b → ¬ k.own b := fun b hb hb' => by
          rcases hap with hap | hap
          · exact hap b hb hb'
          · exact hap b hb' hb
        exact ⟨(h.holds l hl).1.of_block (fun b hb => hblock b ((h.holds l hl).1.lt hb) (hne b hb)), (h.holds l hl).2⟩
      · -- then l occurs in H only at i, so in H.set i k' only as k'
        have : l ∈ H.set i k' := by assumption
        obtain ⟨j, hjlt, hj⟩ := List.mem_iff_getElem.1 this
        rw [List.getElem_set] at hj
        split at hj
        · subst hj; exact ⟨hk', fun b hb => by
            rcases hkb b hb with h1 | h1
            · exact (h.holds k hmem).2 b h1
            · exact .inl (Nat.le_trans h.ext.size h1)⟩
        · rename_i hne
          exact absurd ⟨j, fun e => hne e.symm, by rw [← hj]; exact List.getElem?_eq_getElem (by simpa using hjlt)⟩ hlk
    · exact ⟨hk', fun b hb => by
        rcases hkb b hb with h1 | h1
        · exact (h.holds k hmem).2 b h1
        · exact .inl (Nat.le_trans h.ext.size h1)⟩
  · rw [List.pairwise_iff_getElem]
    intro a b ha hb hab
    simp only [List.length_set] at ha hb
    have base := List.pairwise_iff_getElem.1 h.apart a b ha hb hab
    simp only [List.getElem_set]
    split
    · rename_i e; subst e
      split
      · omega
      · intro x hx hx'
        rcases hkb x hx with h1 | h1
        · rw [hget] at base; exact base x h1 hx'
        · have := (h.holds H[b] (List.getElem_mem _)).1.lt hx'; omega
    · split
      · rename_i e; subst e
        intro x hx hx'
        rcases hkb x hx' with h1 | h1
        · rw [hget] at base; exact base x hx h1
        · have := (h.holds H[a] (List.getElem_mem _)).1.lt hx; omega
      · exact base

end Go.Eng

namespace Go.Eng
open Go

/-! ### operations in the text's order -/

/-- Is the operation wanted? (out of what the slots say) -/
def guardB (ops : Array Oper) (E : Slots) (o : Oper) : Option Bool :=
  match o.guard with
  | none => some true
  | some (j, want) =>
    match (ops[j]?).bind (·.dst) with
    | none => none
    | some d =>
      match look E d with
      | some (.bool b) => some (b == want)
      | some (.tuple _) => some false
      | _ => none

theorem wanted_of {n : Nat} {E : Slots} {a : Act} {ops : Array Oper} {o : Oper} {b : Bool} (h : Env n E a) (hg : guardB ops E o = some b) : Region.wanted o (yielded ops a.tmps) = b := by
  unfold guardB at hg
  unfold Region.wanted
  split at hg
  · rename_i e
    simp only [e]
    exact Option.some.inj hg
  · rename_i j want e
    simp only [e]
    split at hg
    · cases hg
    · rename_i d hd
      have key : ∀ v, look E d = some v → v ≠ undef → a.tmps[d]? = some v := by
        intro v hv hne
        have := h.get d v hv
        rw [Array.getD_eq_getD_getElem?] at this
        cases hx : a.tmps[d]? with
        | none => rw [hx] at this; exact absurd this.symm hne
        | some u => rw [hx] at this; simp at this; rw [this]
      split at hg
      · rename_i b' hl
        have h1 := key _ hl (by intro e; cases e)
        unfold yielded
        simp only [hd, Option.bind_some, h1]
        rw [← Option.some.inj hg]
        cases b' <;> cases want <;> rfl
      · rename_i vs hl
        have h1 := h.get d _ hl
        unfold yielded
        simp only [hd, Option.bind_some]
        rw [← Option.some.inj hg]
        rw [Array.getD_eq_getD_getElem?] at h1
        cases hx : a.tmps[d]? with
        | none => simp
        | some u => rw [hx] at h1; simp at h1; subst h1; simp
      · cases hg

def Wl (c : Cx) (ops : Array Oper) (Q : Exit → Act → World → Prop) (l : List Oper) (E : Slots) (H : List Chunk) : Prop :=
  ∀ a w, Env c.n E a → HOk c H w → wpList c.P ops Q l a w

def CT (c : Cx) (code : Code) (Q : Exit → Act → World → Prop) (E : Slots) (H : List Chunk) : Prop :=
  ∀ a w, Env c.n E a → HOk c H w → code.wp c.P Q a w

/-- The post at this exit. -/
def PX (c : Cx) (Q : Exit → Act → World → Prop) (x : Exit) (E : Slots) (H : List Chunk) : Prop :=
  ∀ a w, Env c.n E a → HOk c H w → Q x a w

/-- The operation yields v and leaves the world alone. -/
def OpQ (c : Cx) (o : Oper) (E : Slots) (H : List Chunk) (v : Value) : Prop :=
  ∀ a w, Env c.n E a → HOk c H w → (execOp a.eval o).run c.P w = .ok (.value v) w

/-- The operation yields V i and leaves a world in which H' i stands, for some i. -/
def OpG (c : Cx) (o : Oper) (E : Slots) (H : List Chunk) {ι : Type} (Φ : ι → Prop) (V : ι → Value) (H' : ι → List Chunk) : Prop :=
  ∀ a w, Env c.n E a → HOk c H w → ∀ (K : Act → World → Prop) (Q : Exit → Act → World → Prop),
    (∀ i w', Φ i → HOk c (H' i) w' → K (a.put o.dst (V i)) w') → o.wp c.P a w K Q

def putE (d : Option Nat) (v : Value) (E : Slots) : Slots :=
  match d with
  | some d => (d, v) :: E
  | none => E

def dstOk (n : Nat) : Option Nat → Bool
  | some d => decide (d < n)
  | none => true

theorem Env.putE {n : Nat} {E : Slots} {a : Act} (h : Env n E a) {d : Option Nat} (hd : dstOk n d = true) (v : Value) : Env n (putE d v E) (a.put d v) := by
  cases d with
  | none => exact h
  | some d => exact h.put (by simpa [dstOk] using hd) v

inductive HSub : List Chunk → List Chunk → Prop where
  | nil : HSub [] []
  | keep {k k' : Chunk} {L H : List Chunk} : k = k' → HSub L H → HSub (k :: L) (k' :: H)
  | drop {k : Chunk} {L H : List Chunk} : HSub L H → HSub L (k :: H)

theorem HSub.refl : ∀ H : List Chunk, HSub H H
  | [] => .nil
  | _ :: H => .keep rfl (HSub.refl H)

theorem HSub.sub {L H : List Chunk} (h : HSub L H) : L.Sublist H := by
  induction h with
  | nil => exact .refl _
  | keep e _ ih => subst e; exact ih.cons_cons _
  | drop _ ih => exact ih.cons _

theorem HSub.none : ∀ H : List Chunk, HSub [] H
  | [] => .nil
  | _ :: H => .drop (HSub.none H)

theorem row_eq {e : TypeId} {size n : Nat} {v : Value} {xs ys : List Value} (h : xs = ys) : Chunk.row e size v n xs = Chunk.row e size v n ys := by rw [h]

theorem lkV {E : Slots} {t : Nat} {p q : Value} (h : look E t = some p) (e : p = q) : look E t = some q := e ▸ h

section
variable {c : Cx} {ops : Array Oper} {Q : Exit → Act → World → Prop} {rest : List Oper} {o : Oper} {E : Slots} {H : List Chunk}

theorem Wl.nil (h : PX c Q .normal E H) : Wl c ops Q [] E H := h

theorem Wl.q {v : Value} (hg : guardB ops E o = some true) (hd : dstOk c.n o.dst = true) (hq : OpQ c o E H v) (h : Wl c ops Q rest (Eng.putE o.dst v E) H) : Wl c ops Q (o :: rest) E H := by
  intro a w hE hH
  unfold wpList
  rw [wanted_of hE hg]
  refine .inl ?_
  unfold Oper.wp
  rw [hq a w hE hH]
  exact h _ _ (hE.putE hd v) hH

theorem Wl.g {ι : Type} {Φ : ι → Prop} {V : ι → Value} {H' : ι → List Chunk} (hg : guardB ops E o = some true) (hd : dstOk c.n o.dst = true) (hq : OpG c o E H Φ V H')
    (h : ∀ i, Φ i → Wl c ops Q rest (Eng.putE o.dst (V i) E) (H' i)) : Wl c ops Q (o :: rest) E H := by
  intro a w hE hH
  unfold wpList
  rw [wanted_of hE hg]
  refine .inl ?_
  exact hq a w hE hH _ _ fun i w' hi hw' => h i hi _ _ (hE.putE hd _) hw'

theorem Wl.skip (hg : guardB ops E o = some false) (hd : dstOk c.n o.dst = true) (h : Wl c ops Q rest (Eng.putE o.dst undef E) H) : Wl c ops Q (o :: rest) E H := by
  intro a w hE hH
  unfold wpList
  rw [wanted_of hE hg]
  exact h _ _ (hE.putE hd _) hH

/-- part on what a slot says -/
theorem Wl.split {l : List Oper} (d : Nat) {b : Bool} (hd : look E d = some (.bool b)) (ht : b = true → Wl c ops Q l ((d, .bool true) :: E) H) (hf : b = false → Wl c ops Q l ((d, .bool false) :: E) H) : Wl c ops Q l E H := by
  have key : ∀ a, Env c.n E a → Env c.n ((d, .bool b) :: E) a := fun a hE => ⟨hE.size, hE.defers, fun t v hl => by
    simp only [look] at hl
    by_cases e : d = t
    · subst e; simp at hl; subst hl; exact hE.get d _ hd
    · have : (d == t) = false := by simpa using e
      rw [this] at hl; exact hE.get t v hl⟩
  intro a w hE hH
  cases b with
  | true => exact ht rfl a w (key a hE) hH
  | false => exact hf rfl a w (key a hE) hH

theorem Env.know {n : Nat} {a : Act} (hE : Env n E a) (d : Nat) {v v' : Value} (hd : look E d = some v) (hb : v = v') : Env n ((d, v') :: E) a := ⟨hE.size, hE.defers, fun t u hl => by
    subst hb
    simp only [look] at hl
    by_cases e : d = t
    · subst e; simp at hl; subst hl; exact hE.get d _ hd
    · have : (d == t) = false := by simpa using e
      rw [this] at hl; exact hE.get t u hl⟩

/-- what a slot says, said otherwise -/
theorem Wl.know {l : List Oper} (d : Nat) {v v' : Value} (hd : look E d = some v) (hb : v = v') (h : Wl c ops Q l ((d, v') :: E) H) : Wl c ops Q l E H :=
  fun a w hE hH => h a w (hE.know d hd hb) hH

/-- the memory, said otherwise -/
theorem Wl.mem {l : List Oper} {H' : List Chunk} (hH' : HSub H' H) (h : Wl c ops Q l E H') : Wl c ops Q l E H := fun a w hE hH => h a w hE (hH.sublist hH'.sub)
theorem CT.mem {x : Code} {H' : List Chunk} (hH' : HSub H' H) (h : CT c x Q E H') : CT c x Q E H := fun a w hE hH => h a w hE (hH.sublist hH'.sub)
theorem PX.mem {x : Exit} {H' : List Chunk} (hH' : HSub H' H) (h : PX c Q x E H') : PX c Q x E H := fun a w hE hH => h a w hE (hH.sublist hH'.sub)

/-- A region in the text's order. -/
theorem CT.region {id : Nat} {l : List Oper} (h : Wl c l.toArray Q l E H) : CT c (.region id l.toArray false) Q E H :=
  fun a w hE hH => wp_region_lit (h a w hE hH)

theorem CT.seq {x y : Code} (h : CT c x (Exit.then (y.wp c.P Q) Q) E H) : CT c (.seq x y) Q E H := fun a w hE hH => wp_seq (h a w hE hH)
theorem CT.block {id : Nat} {x : Code} (h : CT c x (Exit.inBlock id Q) E H) : CT c (.block id x) Q E H := fun a w hE hH => wp_block (h a w hE hH)
theorem CT.skip (h : PX c Q .normal E H) : CT c .skip Q E H := fun a w hE hH => wp_skip (h a w hE hH)
theorem CT.exit {id : Nat} (h : PX c Q (.exit id) E H) : CT c (.exit id) Q E H := fun a w hE hH => wp_exit (h a w hE hH)
theorem CT.ret (h : PX c Q .ret E H) : CT c .ret Q E H := fun a w hE hH => wp_ret (h a w hE hH)
theorem CT.cond {t : Operand} {x y : Code} {b : Bool} (hc : evE E t = some (.bool b)) (ht : b = true → CT c x Q E H) (hf : b = false → CT c y Q E H) : CT c (.cond t x y) Q E H :=
  fun a w hE hH => wp_cond_split (hE.eval hc) (fun hb => ht hb a w hE hH) (fun hb => hf hb a w hE hH)
theorem CT.condT {t : Operand} {x y : Code} (hc : evE E t = some (.bool true)) (ht : CT c x Q E H) : CT c (.cond t x y) Q E H :=
  fun a w hE hH => wp_cond_true (hE.eval hc) (ht a w hE hH)
theorem CT.condF {t : Operand} {x y : Code} (hc : evE E t = some (.bool false)) (hf : CT c y Q E H) : CT c (.cond t x y) Q E H :=
  fun a w hE hH => wp_cond_false (hE.eval hc) (hf a w hE hH)

/-- where a normal end goes -/
theorem PX.then_n {y : Code} (h : CT c y Q E H) : PX c (Exit.then (y.wp c.P Q) Q) .normal E H := h
theorem PX.then_x {K : Act → World → Prop} {id : Nat} (h : PX c Q (.exit id) E H) : PX c (Exit.then K Q) (.exit id) E H := h
theorem PX.then_r {K : Act → World → Prop} (h : PX c Q .ret E H) : PX c (Exit.then K Q) .ret E H := h
theorem PX.block_n {id : Nat} (h : PX c Q .normal E H) : PX c (Exit.inBlock id Q) .normal E H := h
theorem PX.block_r {id : Nat} (h : PX c Q .ret E H) : PX c (Exit.inBlock id Q) .ret E H := h
theorem PX.block_x {id : Nat} (h : PX c Q .normal E H) : PX c (Exit.inBlock id Q) (.exit id) E H := fun a w hE hH => by
  simp only [Exit.inBlock, if_true]; exact h a w hE hH
/-- A piece of code up to a join: whatever way it takes, it ends normally in one of the states (E' i, H' i). -/
theorem CT.cut {x y : Code} {ι : Type} {Φ : ι → Prop} {E' : ι → Slots} {H' : ι → List Chunk}
    (hx : ∀ K : Act → World → Prop, (∀ i, Φ i → ∀ a w, Env c.n (E' i) a → HOk c (H' i) w → K a w) → CT c x (Exit.then K Q) E H)
    (hy : ∀ i, Φ i → CT c y Q (E' i) (H' i)) : CT c (.seq x y) Q E H :=
  CT.seq (hx _ fun i hi a w hE hH => hy i hi a w hE hH)

theorem PX.cut {ι : Type} {Φ : ι → Prop} {E' : ι → Slots} {H' : ι → List Chunk} {K : Act → World → Prop} (hK : ∀ i, Φ i → ∀ a w, Env c.n (E' i) a → HOk c (H' i) w → K a w)
    (i : ι) (hi : Φ i) (hs : Sub (E' i) E) (hH' : HSub (H' i) H) : PX c (Exit.then K Q) .normal E H :=
  fun a w hE hH => hK i hi a w (hE.sub hs) (hH.sublist hH'.sub)

/-- the end of a loop's round -/
theorem PX.loop {ι : Type} {Φ : ι → Prop} {EI : ι → Slots} {HI : ι → List Chunk} {μ : ι → Nat} {m : Nat} {K : Act → World → Prop} (hK : ∀ j, Φ j → μ j < m → ∀ a w, Env c.n (EI j) a → HOk c (HI j) w → K a w)
    (j : ι) (hj : Φ j) (hlt : μ j < m) (hs : Sub (EI j) E) (hH' : HSub (HI j) H) : PX c (Exit.then K Q) .normal E H :=
  fun a w hE hH => hK j hj hlt a w (hE.sub hs) (hH.sublist hH'.sub)

/-- A loop: Φ i holds at each round's head, the slots say EI i, the memory HI i. -/
theorem CT.loop {x : Code} {ι : Type} (Φ : ι → Prop) (EI : ι → Slots) (HI : ι → List Chunk) (μ : ι → Nat) (i0 : ι) (h0 : Φ i0) (hs : Sub (EI i0) E) (hH0 : HSub (HI i0) H)
    (round : ∀ i, Φ i → ∀ K : Act → World → Prop, (∀ j, Φ j → μ j < μ i → ∀ a w, Env c.n (EI j) a → HOk c (HI j) w → K a w) → CT c x (Exit.then K Q) (EI i) (HI i)) :
    CT c (.loop x) Q E H := by
  intro a w hE hH b k cs
  have key : ∀ m i, μ i = m → Φ i → ∀ a w, Env c.n (EI i) a → HOk c (HI i) w →
      ∃ e a' w', Q e a' w' ∧ Arrives c.P (lone (b.at a (.code x :: .inLoop x :: k)) cs w) b k cs e a' w' := by
    intro m
    induction m using Nat.strongRecOn with
    | _ m ih =>
      intro i hm hi a w hE hH
      have hr := round i hi (fun a w => ∃ j, Φ j ∧ μ j < μ i ∧ Env c.n (EI j) a ∧ HOk c (HI j) w) (fun j hj hlt a w hE hH => ⟨j, hj, hlt, hE, hH⟩) a w hE hH
      obtain ⟨e, a₁, w₁, hq, harr⟩ := hr b (.inLoop x :: k) cs
      cases e with
      | normal =>
        obtain ⟨j, hj, hlt, hE1, hH1⟩ := hq
        obtain ⟨e₂, a₂, w₂, hq₂, harr₂⟩ := ih (μ j) (hm ▸ hlt) j rfl hj a₁ w₁ hE1 hH1
        exact ⟨e₂, a₂, w₂, hq₂, .of_steps (Steps.trans harr (.one step_inLoop)) harr₂⟩
      | exit id => exact ⟨_, a₁, w₁, hq, .pass (x := .inLoop x) rfl (fun _ _ => .inl (by simp)) harr⟩
      | goto l => exact ⟨_, a₁, w₁, hq, .pass (x := .inLoop x) rfl (fun _ _ => .inl (by simp)) harr⟩
      | ret => exact ⟨_, a₁, w₁, hq, .pass (x := .inLoop x) rfl (fun _ _ => .inl (by simp)) harr⟩
      | panic ch => exact ⟨_, a₁, w₁, hq, .pass (x := .inLoop x) rfl (fun _ _ => .inl (by simp)) harr⟩
      | outgrown => exact ⟨_, a₁, w₁, hq, .pass (x := .inLoop x) rfl (fun _ _ => .inl (by simp)) harr⟩
  obtain ⟨e, a', w', hq, harr⟩ := key _ i0 rfl h0 a w (hE.sub hs) (hH.sublist hH0.sub)
  exact ⟨e, a', w', hq, .of_steps (.one step_loop) harr⟩
end
end Go.Eng

namespace Go.Eng
open Go

/-- a Go uint64 -/
abbrev u (x : BitVec 64) : Value := .int .u64 (x.toNat : Int)

section
variable {c : Cx} {E : Slots} {H : List Chunk} {d : Option Nat} {ty : TypeId} {pos : String} {af : Array Edge} {g : Option (Nat × Bool)}

theorem OpQ.move {x : Operand} {v : Value} (hx : evE E x = some v) : OpQ c ⟨d, .move x, ty, pos, af, g⟩ E H v := fun a w hE _ => by
  have := hE.eval hx
  show Sem.run c.P (pure (Next.value (a.eval x))) w = _
  rw [this]; rfl

theorem OpQ.assign {x : Operand} {v : Value} (hx : evE E x = some v) : OpQ c ⟨d, .assign x, ty, pos, af, g⟩ E H v := fun a w hE _ => by
  have := hE.eval hx
  show Sem.run c.P (pure (Next.value (a.eval x))) w = _
  rw [this]; rfl

theorem OpQ.pickT {x y z : Operand} {v : Value} (hx : evE E x = some (.bool true)) (hy : evE E y = some v) : OpQ c ⟨d, .pick x y z, ty, pos, af, g⟩ E H v := fun a w hE _ => by
  have h1 := hE.eval hx
  have h2 := hE.eval hy
  simp [execOp, h1, h2, asBool]

theorem OpQ.pickF {x y z : Operand} {v : Value} (hx : evE E x = some (.bool false)) (hz : evE E z = some v) : OpQ c ⟨d, .pick x y z, ty, pos, af, g⟩ E H v := fun a w hE _ => by
  have h1 := hE.eval hx
  have h2 := hE.eval hz
  simp [execOp, h1, h2, asBool]

/-- A binary operation whose run is known. -/
theorem OpQ.bin {op : BinOp} {t t' : TypeId} {x y : Operand} {vx vy v : Value} (hx : evE E x = some vx) (hy : evE E y = some vy)
    (hr : ∀ w, ((do eqGuard op t x y vx vy; binOp op t vx vy) : Sem Value).run c.P w = .ok v w) : OpQ c ⟨d, .binOp op t x y t', ty, pos, af, g⟩ E H v := fun a w hE _ => by
  have h1 := hE.eval hx
  have h2 := hE.eval hy
  have h3 := hr w
  show Sem.run c.P (do let z ← (do eqGuard op t x y (a.eval x) (a.eval y); binOp op t (a.eval x) (a.eval y)); pure (Next.value z)) w = _
  rw [h1, h2, Sem.run_bind, h3]
  rfl

theorem wrap_i64 {m : Int} (h : -9223372036854775808 ≤ m ∧ m ≤ 9223372036854775807) : IntKind.i64.wrap m = m := by
  simp only [IntKind.wrap, IntKind.bits, IntKind.signed, Bool.true_and]
  split <;> rename_i hh <;> simp at hh <;> omega

theorem OpQ.add {t t' : TypeId} {x y : Operand} {m n : Int} (hx : evE E x = some (.int .i64 m)) (hy : evE E y = some (.int .i64 n))
    (hb : -9223372036854775808 ≤ m + n ∧ m + n ≤ 9223372036854775807) : OpQ c ⟨d, .binOp .add t x y t', ty, pos, af, g⟩ E H (.int .i64 (m + n)) :=
  OpQ.bin hx hy fun w => by show Result.ok (Value.int .i64 (IntKind.i64.wrap (m + n))) w = _; rw [wrap_i64 hb]

theorem OpQ.sub {t t' : TypeId} {x y : Operand} {m n : Int} (hx : evE E x = some (.int .i64 m)) (hy : evE E y = some (.int .i64 n))
    (hb : -9223372036854775808 ≤ m - n ∧ m - n ≤ 9223372036854775807) : OpQ c ⟨d, .binOp .sub t x y t', ty, pos, af, g⟩ E H (.int .i64 (m - n)) :=
  OpQ.bin hx hy fun w => by show Result.ok (Value.int .i64 (IntKind.i64.wrap (m - n))) w = _; rw [wrap_i64 hb]

/-- comparisons of two numbers of one kind -/
theorem OpQ.lss {t t' : TypeId} {x y : Operand} {k : IntKind} {m n : Int} (hx : evE E x = some (.int k m)) (hy : evE E y = some (.int k n)) :
    OpQ c ⟨d, .binOp .lss t x y t', ty, pos, af, g⟩ E H (.bool (decide (m < n))) := OpQ.bin hx hy fun w => by cases k <;> rfl
theorem OpQ.leq {t t' : TypeId} {x y : Operand} {k : IntKind} {m n : Int} (hx : evE E x = some (.int k m)) (hy : evE E y = some (.int k n)) :
    OpQ c ⟨d, .binOp .leq t x y t', ty, pos, af, g⟩ E H (.bool (decide (m ≤ n))) := OpQ.bin hx hy fun w => by cases k <;> rfl
theorem OpQ.gtr {t t' : TypeId} {x y : Operand} {k : IntKind} {m n : Int} (hx : evE E x = some (.int k m)) (hy : evE E y = some (.int k n)) :
    OpQ c ⟨d, .binOp .gtr t x y t', ty, pos, af, g⟩ E H (.bool (decide (n < m))) := OpQ.bin hx hy fun w => by cases k <;> rfl
theorem OpQ.geq {t t' : TypeId} {x y : Operand} {k : IntKind} {m n : Int} (hx : evE E x = some (.int k m)) (hy : evE E y = some (.int k n)) :
    OpQ c ⟨d, .binOp .geq t x y t', ty, pos, af, g⟩ E H (.bool (decide (n ≤ m))) := OpQ.bin hx hy fun w => by cases k <;> rfl
theorem OpQ.eql {t t' : TypeId} {x y : Operand} {k : IntKind} {m n : Int} (hx : evE E x = some (.int k m)) (hy : evE E y = some (.int k n)) :
    OpQ c ⟨d, .binOp .eql t x y t', ty, pos, af, g⟩ E H (.bool (decide (m = n))) := OpQ.bin hx hy fun w => by cases k <;> rfl
theorem OpQ.neq {t t' : TypeId} {x y : Operand} {k : IntKind} {m n : Int} (hx : evE E x = some (.int k m)) (hy : evE E y = some (.int k n)) :
    OpQ c ⟨d, .binOp .neq t x y t', ty, pos, af, g⟩ E H (.bool (!decide (m = n))) := OpQ.bin hx hy fun w => by cases k <;> rfl

theorem OpQ.neqB {t t' : TypeId} {x y : Operand} {p q : Bool} (ht : c.P.underlying t = some .bool) (hx : evE E x = some (.bool p)) (hy : evE E y = some (.bool q)) :
    OpQ c ⟨d, .binOp .neq t x y t', ty, pos, af, g⟩ E H (.bool (!(p == q))) := OpQ.bin hx hy fun w => by
  rw [Sem.run_bind, show (eqGuard .neq t x y (.bool p) (.bool q)).run c.P w = .ok () w from rfl]
  exact run_neq_bool w t p q ht

/-! uint64 -/
theorem wrap_u64 (r : BitVec 64) : IntKind.u64.wrap (r.toNat : Int) = (r.toNat : Int) := by
  have := r.isLt
  simp only [IntKind.wrap, IntKind.bits, IntKind.signed, Bool.false_and, Bool.false_eq_true, if_false]
  omega
theorem wrap_u64' (m : Int) : IntKind.u64.wrap m = ((BitVec.ofInt 64 m).toNat : Int) := by
  simp only [IntKind.wrap, IntKind.bits, IntKind.signed, Bool.false_and, Bool.false_eq_true, if_false, BitVec.toNat_ofInt]
  omega
theorem ofInt_toNat (x : BitVec 64) : BitVec.ofInt 64 (x.toNat : Int) = x := by
  apply BitVec.eq_of_toNat_eq
  have := x.isLt
  simp only [BitVec.toNat_ofInt]
  omega

theorem OpQ.uand {t t' : TypeId} {x y : Operand} {p q : BitVec 64} (hx : evE E x = some (u p)) (hy : evE E y = some (u q)) :
    OpQ c ⟨d, .binOp .and t x y t', ty, pos, af, g⟩ E H (u (p &&& q)) := OpQ.bin hx hy fun w => by
  show Result.ok (Value.int .u64 (IntKind.u64.wrap ((BitVec.ofInt 64 p.toNat &&& BitVec.ofInt 64 q.toNat).toNat : Int))) w = _
  rw [ofInt_toNat, ofInt_toNat, wrap_u64]
theorem OpQ.uor {t t' : TypeId} {x y : Operand} {p q : BitVec 64} (hx : evE E x = some (u p)) (hy : evE E y = some (u q)) :
    OpQ c ⟨d, .binOp .or t x y t', ty, pos, af, g⟩ E H (u (p ||| q)) := OpQ.bin hx hy fun w => by
  show Result.ok (Value.int .u64 (IntKind.u64.wrap ((BitVec.ofInt 64 p.toNat ||| BitVec.ofInt 64 q.toNat).toNat : Int))) w = _
  rw [ofInt_toNat, ofInt_toNat, wrap_u64]
theorem OpQ.usub {t t' : TypeId} {x y : Operand} {p q : BitVec 64} (hx : evE E x = some (u p)) (hy : evE E y = some (u q)) :
    OpQ c ⟨d, .binOp .sub t x y t', ty, pos, af, g⟩ E H (u (p - q)) := OpQ.bin hx hy fun w => by
  show Result.ok (Value.int .u64 (IntKind.u64.wrap ((p.toNat : Int) - q.toNat))) w = _
  have e : BitVec.ofInt 64 ((p.toNat : Int) - q.toNat) = p - q := by
    apply BitVec.eq_of_toNat_eq
    have := p.isLt; have := q.isLt
    simp only [BitVec.toNat_ofInt, BitVec.toNat_sub]
    omega
  rw [wrap_u64', e]

theorem OpQ.umul {t t' : TypeId} {x y : Operand} {p q : BitVec 64} (hx : evE E x = some (u p)) (hy : evE E y = some (u q)) :
    OpQ c ⟨d, .binOp .mul t x y t', ty, pos, af, g⟩ E H (u (p * q)) := OpQ.bin hx hy fun w => by
  show Result.ok (Value.int .u64 (IntKind.u64.wrap ((p.toNat : Int) * q.toNat))) w = _
  have e : BitVec.ofInt 64 ((p.toNat : Int) * q.toNat) = p * q := by
    apply BitVec.eq_of_toNat_eq
    rw [← Int.natCast_mul]
    simp only [BitVec.ofInt_natCast, BitVec.toNat_ofNat, BitVec.toNat_mul]
  rw [wrap_u64', e]
theorem OpQ.uneg {t : TypeId} {x : Operand} {p : BitVec 64} (hx : evE E x = some (u p)) : OpQ c ⟨d, .unOp .neg t x, ty, pos, af, g⟩ E H (u (-p)) := fun a w hE _ => by
  have h1 := hE.eval hx
  show Sem.run c.P (do let z ← Op.unary .neg (a.eval x); pure (Next.value z)) w = _
  rw [h1]
  show Result.ok (Next.value (Value.int .u64 (IntKind.u64.wrap (0 - (p.toNat : Int))))) w = _
  have e : BitVec.ofInt 64 (0 - (p.toNat : Int)) = -p := by
    apply BitVec.eq_of_toNat_eq
    have := p.isLt
    simp only [BitVec.toNat_ofInt, BitVec.toNat_neg]
    omega
  rw [wrap_u64', e]

/-- shifts: the count an int that is not negative -/
theorem OpQ.ushl {t t' : TypeId} {x y : Operand} {p : BitVec 64} {k : IntKind} {n : Int} (hx : evE E x = some (u p)) (hy : evE E y = some (.int k n)) (hn : 0 ≤ n) :
    OpQ c ⟨d, .binOp .shl t x y t', ty, pos, af, g⟩ E H (u (p <<< n.toNat)) := OpQ.bin hx hy fun w => by
  have e : ¬ n < 0 := by omega
  show (Op.shift .shl .u64 p.toNat k n).run c.P w = _
  simp only [Op.shift, e, if_false, IntKind.bits]
  show Result.ok (Value.int .u64 (IntKind.u64.wrap ((p.toNat : Int) * 2 ^ (min n.toNat 64)))) w = _
  rw [wrap_u64']
  congr 3
  apply congrArg
  apply BitVec.eq_of_toNat_eq
  simp only [BitVec.toNat_ofInt, BitVec.toNat_shiftLeft, Nat.shiftLeft_eq]
  rcases Nat.lt_or_ge n.toNat 64 with h | h
  · rw [Nat.min_eq_left (Nat.le_of_lt h)]
    have : ((p.toNat : Int) * 2 ^ n.toNat) = ((p.toNat * 2 ^ n.toNat : Nat) : Int) := by push_cast; rfl
    rw [this]
    norm_cast
  · rw [Nat.min_eq_right h]
    have h1 : p.toNat * 2 ^ n.toNat % 2 ^ 64 = 0 := by
      obtain ⟨m, hm⟩ := Nat.exists_eq_add_of_le h
      rw [hm, Nat.pow_add, Nat.mul_comm (2 ^ 64), ← Nat.mul_assoc]
      exact Nat.mul_mod_left _ _
    rw [h1]
    omega
theorem OpQ.ushr {t t' : TypeId} {x y : Operand} {p : BitVec 64} {k : IntKind} {n : Int} (hx : evE E x = some (u p)) (hy : evE E y = some (.int k n)) (hn : 0 ≤ n) :
    OpQ c ⟨d, .binOp .shr t x y t', ty, pos, af, g⟩ E H (u (p >>> n.toNat)) := OpQ.bin hx hy fun w => by
  have e : ¬ n < 0 := by omega
  show (Op.shift .shr .u64 p.toNat k n).run c.P w = _
  simp only [Op.shift, e, if_false, IntKind.bits]
  show Result.ok (Value.int .u64 ((p.toNat : Int).fdiv (2 ^ (min n.toNat 64)))) w = _
  have h0 : ((p.toNat : Int).fdiv (2 ^ (min n.toNat 64))) = ((p.toNat / 2 ^ (min n.toNat 64) : Nat) : Int) := by
    rw [Int.fdiv_eq_ediv_of_nonneg _ (Int.le_of_lt (Int.pow_pos (by decide)))]
    push_cast; rfl
  rw [h0]
  congr 3
  simp only [BitVec.toNat_ushiftRight, Nat.shiftRight_eq_div_pow]
  rcases Nat.lt_or_ge n.toNat 64 with h | h
  · rw [Nat.min_eq_left (Nat.le_of_lt h)]
  · rw [Nat.min_eq_right h]
    have h1 := p.isLt
    rw [Nat.div_eq_of_lt h1, Nat.div_eq_of_lt (Nat.lt_of_lt_of_le h1 (Nat.pow_le_pow_right (by decide) h))]

theorem OpQ.ushlN {t t' : TypeId} {x y : Operand} {p : BitVec 64} {k : IntKind} {n : Nat} (hx : evE E x = some (u p)) (hy : evE E y = some (.int k (n : Int))) :
    OpQ c ⟨d, .binOp .shl t x y t', ty, pos, af, g⟩ E H (u (p <<< n)) := OpQ.ushl hx hy (Int.natCast_nonneg n)
theorem OpQ.ushrN {t t' : TypeId} {x y : Operand} {p : BitVec 64} {k : IntKind} {n : Nat} (hx : evE E x = some (u p)) (hy : evE E y = some (.int k (n : Int))) :
    OpQ c ⟨d, .binOp .shr t x y t', ty, pos, af, g⟩ E H (u (p >>> n)) := OpQ.ushr hx hy (Int.natCast_nonneg n)

theorem beq_toNat (p q : BitVec 64) : ((p.toNat : Int) == (q.toNat : Int)) = (p == q) := by
  by_cases h : p = q
  · subst h; simp
  · have : ¬ (p.toNat : Int) = q.toNat := fun e => h (BitVec.eq_of_toNat_eq (by omega))
    rw [beq_eq_false_iff_ne.2 this, beq_eq_false_iff_ne.2 h]
theorem OpQ.ueql {t t' : TypeId} {x y : Operand} {p q : BitVec 64} (hx : evE E x = some (u p)) (hy : evE E y = some (u q)) :
    OpQ c ⟨d, .binOp .eql t x y t', ty, pos, af, g⟩ E H (.bool (p == q)) := OpQ.bin hx hy fun w => by
  show Result.ok (Value.bool ((p.toNat : Int) == (q.toNat : Int))) w = _
  rw [beq_toNat]
theorem OpQ.uneq {t t' : TypeId} {x y : Operand} {p q : BitVec 64} (hx : evE E x = some (u p)) (hy : evE E y = some (u q)) :
    OpQ c ⟨d, .binOp .neq t x y t', ty, pos, af, g⟩ E H (.bool (p != q)) := OpQ.bin hx hy fun w => by
  show Result.ok (Value.bool (!((p.toNat : Int) == (q.toNat : Int)))) w = _
  rw [beq_toNat]; rfl

theorem OpQ.not {t : TypeId} {x : Operand} {b : Bool} (hx : evE E x = some (.bool b)) : OpQ c ⟨d, .unOp .not t x, ty, pos, af, g⟩ E H (.bool (!b)) := fun a w hE _ => by
  have h1 := hE.eval hx
  show Sem.run c.P (do let z ← Op.unary .not (a.eval x); pure (Next.value z)) w = _
  rw [h1]; rfl
/-- a conversion of a number whose run is known -/
theorem OpQ.conv {s t : TypeId} {x : Operand} {vx v : Value} (hx : evE E x = some vx) (hr : ∀ w, (convert s t vx).run c.P w = .ok v w) : OpQ c ⟨d, .convert s t x, ty, pos, af, g⟩ E H v := fun a w hE _ => by
  have h1 := hE.eval hx
  show Sem.run c.P (do let z ← convert s t (a.eval x); pure (Next.value z)) w = _
  rw [h1, Sem.run_bind, hr w]; rfl

/-- len of a slice -/
theorem OpQ.len {t : TypeId} {x : Operand} {a : Option Addr} {n cp : Nat} {e : TypeId} (ht : c.P.underlying t = some (.slice e)) (hx : evE E x = some (.slice a n cp)) :
    OpQ c ⟨d, .call ⟨.builtin .len, #[x], #[t]⟩, ty, pos, af, g⟩ E H (.int .i64 (n : Int)) := fun a w hE _ => by
  have h1 := hE.eval hx
  simp [execOp, resolve, invoke, builtin, h1, Builtin.len_, run_underlying ht, goInt]

theorem OpQ.lenS {t : TypeId} {x : Operand} {s : ByteArray} (ht : c.P.underlying t = some .string) (hx : evE E x = some (.string s)) :
    OpQ c ⟨d, .call ⟨.builtin .len, #[x], #[t]⟩, ty, pos, af, g⟩ E H (.int .i64 (s.size : Int)) := fun a w hE _ => by
  have h1 := hE.eval hx
  simp [execOp, resolve, invoke, builtin, h1, Builtin.len_, run_underlying ht, goInt]

theorem OpQ.max {x y : Operand} {ts : Array TypeId} {k : IntKind} {m n : Int} (hx : evE E x = some (.int k m)) (hy : evE E y = some (.int k n)) :
    OpQ c ⟨d, .call ⟨.builtin .max, #[x, y], ts⟩, ty, pos, af, g⟩ E H (.int k (if n > m then n else m)) := fun a w hE _ => by
  have h1 := hE.eval hx
  have h2 := hE.eval hy
  simp [execOp, resolve, invoke, builtin, h1, h2, run_max_int2]

theorem OpQ.extract {x : Operand} {i : Nat} {vs : Array Value} {v : Value} (hx : evE E x = some (.tuple vs)) (hi : vs[i]? = some v) : OpQ c ⟨d, .extract x i, ty, pos, af, g⟩ E H v := fun a w hE _ => by
  have h1 := hE.eval hx
  show Sem.run c.P (do let z ← Instr.extract (a.eval x) i; pure (Next.value z)) w = _
  rw [h1]
  simp [Instr.extract, hi]
end
end Go.Eng

namespace Go.Eng
open Go

def ad (a : Option Addr) : Addr := a.getD ⟨0, 0, none⟩

/-- the cells at a are these -/
def Rd (w : World) (a : Option Addr) (vals : List Value) : Prop := ∀ j v, vals[j]? = some v → a.isSome = true ∧ w.cell? ((ad a).add j) = some v

theorem Rd.isSome {w : World} {a : Option Addr} {vals : List Value} (h : Rd w a vals) {j : Nat} (hj : j < vals.length) : a.isSome = true :=
  (h j vals[j] (List.getElem?_eq_getElem hj)).1

theorem add_block (p : Addr) (j : Nat) : (p.add j).block = p.block := by unfold Addr.add; split <;> rfl

theorem add_mk (b o j : Nat) : (⟨b, o, none⟩ : Addr).add j = ⟨b, o + j, none⟩ := by unfold Addr.add; split <;> simp_all

theorem add_add (p : Addr) (i j : Nat) : (p.add i).add j = p.add (i + j) := by
  unfold Addr.add
  by_cases hi : i = 0
  · subst hi; simp
  · by_cases hj : j = 0
    · subst hj; simp
    · simp [hi, hj, Nat.add_assoc]

theorem Rd.ext {X : List Nat} {w w' : World} {a : Option Addr} {vals : List Value} (h : Rd w a vals) (he : Ext X w w') (hx : ∀ p, a = some p → p.block ∉ X) : Rd w' a vals := by
  intro j v hv
  obtain ⟨h1, h2⟩ := h j v hv
  refine ⟨h1, he.cell h2 ?_⟩
  rw [add_block]
  obtain ⟨p, hp⟩ := Option.isSome_iff_exists.1 h1
  subst hp
  exact hx p rfl

theorem Rd.ext_nil {w w' : World} {a : Option Addr} {vals : List Value} (h : Rd w a vals) (he : Ext [] w w') : Rd w' a vals := h.ext he (fun _ _ h => by cases h)

theorem Rd.nil (w : World) (a : Option Addr) : Rd w a [] := fun _ _ h => by simp at h

theorem Rd.of_owns {w : World} {base : Nat} {e : TypeId} {size : Nat} {a : Option Addr} {n cp len : Nat} {xs : List Value} (h : w.ownsRow base e size (.slice a n cp) len xs) : Rd w a xs := by
  intro j v hv
  rcases h.2 with ⟨hs, h0⟩ | ⟨g, cap, cur, hs, hbg, hgg, hle, hcm, hsz, htake⟩
  · subst h0
    have := h.1
    simp at this
    subst this
    simp at hv
  · cases hs
    refine ⟨rfl, ?_⟩
    show w.cell? ((⟨g, 0, none⟩ : Addr).add j) = some v
    exact World.ownsRow.cells h rfl j v hv

inductive Has : List Chunk → Chunk → Prop where
  | here {k : Chunk} {H : List Chunk} : Has (k :: H) k
  | there {k l : Chunk} {H : List Chunk} : Has H k → Has (l :: H) k

theorem Has.mem {H : List Chunk} {k : Chunk} (h : Has H k) : k ∈ H := by
  induction h with
  | here => exact List.mem_cons_self
  | there _ ih => exact List.mem_cons_of_mem _ ih

/-- H' is H with k' in k's place. -/
inductive Upd : List Chunk → Chunk → Chunk → List Chunk → Prop where
  | here {k k' : Chunk} {H : List Chunk} : Upd (k :: H) k k' (k' :: H)
  | there {k k' l : Chunk} {H H' : List Chunk} : Upd H k k' H' → Upd (l :: H) k k' (l :: H')

theorem Upd.index {H H' : List Chunk} {k k' : Chunk} (h : Upd H k k' H') : ∃ i, H[i]? = some k ∧ H' = H.set i k' := by
  induction h with
  | here => exact ⟨0, rfl, rfl⟩
  | there _ ih => obtain ⟨i, h1, h2⟩ := ih; exact ⟨i + 1, by simpa using h1, by simp [h2]⟩

theorem HOk.upd {c : Cx} {H H' : List Chunk} {w w' : World} (h : HOk c H w) {k k' : Chunk} (hu : Upd H k k' H') (hkb : ∀ b, k'.own b → k.own b ∨ w.heap.size ≤ b)
    (hk' : k'.holds w') {row : Option Nat} (hg : w.grownBy w' row) (hr : ∀ b, row = some b → k.own b) (hdr : w.drawn ≤ w'.drawn) : HOk c H' w' := by
  obtain ⟨i, hi, rfl⟩ := hu.index
  exact h.set hi hkb hk' hg.os hg.tape hg.output hg.size (fun b hb hne => hg.block b hb (fun e => hne (hr b e.symm))) hdr

theorem HOk.rd {c : Cx} {H : List Chunk} {w : World} (h : HOk c H w) {e : TypeId} {size : Nat} {a : Option Addr} {n cp len : Nat} {xs : List Value} (hh : Has H (.row e size (.slice a n cp) len xs)) : Rd w a xs :=
  Rd.of_owns (h.holds _ hh.mem).1

theorem HOk.rd0 {c : Cx} {H : List Chunk} {w : World} (h : HOk c H w) {a : Option Addr} {vals : List Value} (hr : Rd c.w0 a vals) (hX : c.X = []) : Rd w a vals :=
  hr.ext h.ext (fun p _ hp => by rw [hX] at hp; cases hp)

def scalarB (P : Program) (t : TypeId) : Option Bool :=
  match P.underlying t with
  | some (.struct _) | some (.array _ _) => some false
  | some _ => some true
  | none => none

theorem run_isAgg_scalar {P : Program} {t : TypeId} (h : scalarB P t = some true) (w : World) : (isAgg t).run P w = .ok false w := by
  unfold scalarB at h
  split at h
  · cases h
  · cases h
  · rename_i d h1 h2 hd
    unfold isAgg
    simp only [Sem.run_bind, run_underlying hd, Result.andThen_ok]
    rfl
  · cases h

def sizeB (P : Program) (t : TypeId) : Option Nat := (P.info? t).map (·.size)

theorem run_sizeOf {P : Program} {t : TypeId} {n : Nat} (h : sizeB P t = some n) (w : World) : (sizeOf t).run P w = .ok n w := by
  unfold sizeB at h
  cases hi : P.info? t with
  | none => rw [hi] at h; cases h
  | some i =>
    rw [hi] at h
    simp at h
    subst h
    simp [sizeOf, typeInfo, hi]

section
variable {c : Cx} {E : Slots} {H : List Chunk} {d : Option Nat} {ty : TypeId} {pos : String} {af : Array Edge} {g : Option (Nat × Bool)}

theorem OpQ.index {t e : TypeId} {x i : Operand} {a : Option Addr} {n cp size : Nat} {m : Int} (ht : c.P.underlying t = some (.slice e)) (hz : sizeB c.P e = some size)
    (hx : evE E x = some (.slice a n cp)) (hi : evE E i = some (.int .i64 m)) (hm : 0 ≤ m ∧ m < n) (ha : a.isSome = true) :
    OpQ c ⟨d, .indexAddr t x i, ty, pos, af, g⟩ E H (.pointer (some ((ad a).add (m.toNat * size)))) := fun b w hE _ => by
  have h1 := hE.eval hx
  have h2 := hE.eval hi
  obtain ⟨p, rfl⟩ := Option.isSome_iff_exists.1 ha
  simp [execOp, h1, h2, Instr.indexAt, asIntOf, run_underlying ht, run_sizeOf hz, hm, ad]

theorem OpQ.index1 {t e : TypeId} {x i : Operand} {a : Option Addr} {n cp : Nat} {m : Int} (ht : c.P.underlying t = some (.slice e)) (hz : sizeB c.P e = some 1)
    (hx : evE E x = some (.slice a n cp)) (hi : evE E i = some (.int .i64 m)) (hm : 0 ≤ m ∧ m < n) (ha : a.isSome = true) :
    OpQ c ⟨d, .indexAddr t x i, ty, pos, af, g⟩ E H (.pointer (some ((ad a).add m.toNat))) := by
  have := OpQ.index (c := c) (E := E) (H := H) (d := d) (ty := ty) (pos := pos) (af := af) (g := g) ht hz hx hi hm ha
  simpa using this

/-- an element of an array variable, behind its address -/
theorem OpQ.indexArr {t e : TypeId} {x i : Operand} {p : Addr} {len size : Nat} {k : IntKind} {m : Int} (ht : c.P.underlying t = some (.array len e)) (hz : sizeB c.P e = some size)
    (hx : evE E x = some (.pointer (some p))) (hi : evE E i = some (.int k m)) (hm : 0 ≤ m ∧ m < len) :
    OpQ c ⟨d, .indexAddr t x i, ty, pos, af, g⟩ E H (.pointer (some (p.add (m.toNat * size)))) := fun b w hE _ => by
  have h1 := hE.eval hx
  have h2 := hE.eval hi
  simp [execOp, h1, h2, Instr.indexAt, Instr.sureAddr, asIntOf, run_underlying ht, run_sizeOf hz, hm]
theorem OpQ.indexArr1 {t e : TypeId} {x i : Operand} {p : Addr} {len : Nat} {k : IntKind} {m : Int} (ht : c.P.underlying t = some (.array len e)) (hz : sizeB c.P e = some 1)
    (hx : evE E x = some (.pointer (some p))) (hi : evE E i = some (.int k m)) (hm : 0 ≤ m ∧ m < len) :
    OpQ c ⟨d, .indexAddr t x i, ty, pos, af, g⟩ E H (.pointer (some (p.add m.toNat))) := by
  have := OpQ.indexArr (c := c) (E := E) (H := H) (d := d) (ty := ty) (pos := pos) (af := af) (g := g) ht hz hx hi hm
  simpa using this

/-- a load of one cell -/
theorem OpQ.load {t : TypeId} {x : Operand} {p : Addr} {v : Value} (hs : scalarB c.P t = some true) (hx : evE E x = some (.pointer (some p))) (hc : ∀ w, HOk c H w → w.cell? p = some v) :
    OpQ c ⟨d, .load t x, ty, pos, af, g⟩ E H v := fun b w hE hH => by
  have h1 := hE.eval hx
  have h2 := hc w hH
  show Sem.run c.P (do let z ← Instr.loadAt t (b.eval x); pure (Next.value z)) w = _
  rw [h1]
  unfold Instr.loadAt Instr.sureAddr loadVar
  simp [run_isAgg_scalar hs, h2]

theorem OpQ.loadRd {t : TypeId} {x : Operand} {a : Option Addr} {vals : List Value} {j : Nat} {v : Value} (hs : scalarB c.P t = some true) (hx : evE E x = some (.pointer (some ((ad a).add j))))
    (hX : c.X = []) (hr : Rd c.w0 a vals) (hv : vals[j]? = some v) : OpQ c ⟨d, .load t x, ty, pos, af, g⟩ E H v :=
  OpQ.load hs hx fun _ hH => ((hH.rd0 hr hX) j v hv).2

theorem OpQ.loadRow {t : TypeId} {x : Operand} {e : TypeId} {size n cp len : Nat} {a : Option Addr} {xs : List Value} {j : Nat} {v : Value} (hs : scalarB c.P t = some true) (hx : evE E x = some (.pointer (some ((ad a).add j))))
    (hh : Has H (.row e size (.slice a n cp) len xs)) (hv : xs[j]? = some v) : OpQ c ⟨d, .load t x, ty, pos, af, g⟩ E H v :=
  OpQ.load hs hx fun _ hH => ((hH.rd hh) j v hv).2

theorem owns_set {w : World} {base : Nat} {e : TypeId} {size n cp len : Nat} {a : Option Addr} {xs : List Value} (h : w.ownsRow base e size (.slice a n cp) len xs) {j : Nat} (hj : j < xs.length) (u : Value) :
    (w.setCell ((ad a).add j) u).ownsRow base e size (.slice a n cp) len (xs.set j u) ∧ w.grownBy (w.setCell ((ad a).add j) u) (Value.slice a n cp).ownBlock ∧
      (∃ v, w.cell? ((ad a).add j) = some v) ∧ w.frozen? ((ad a).add j) = false := by
  rcases h.2 with ⟨hs, h0⟩ | ⟨g, cap, cur, hs, hbg, hgg, hle, hcm, hsz, htake⟩
  · subst h0
    have := h.1
    simp at this
    subst this
    simp at hj
  · cases hs
    have hlen := h.1
    have hjc : j < cur.size := by
      have h1 : xs.length ≤ cur.size := by rw [← htake, List.length_take, Array.length_toList]; exact Nat.min_le_right _ _
      omega
    have had : (ad (some ⟨g, 0, none⟩)).add j = ⟨g, j, none⟩ := by show (⟨g, 0, none⟩ : Addr).add j = _; rw [add_mk]; simp
    rw [had]
    refine ⟨⟨by simpa using hlen, .inr ⟨g, cp, cur.setIfInBounds j u, rfl, hbg, ?_, hle, hcm, by simpa using hsz, ?_⟩⟩, ⟨rfl, rfl, rfl, by simp [World.setCell], ?_⟩, ?_, ?_⟩
    · simp [World.setCell, Array.getElem?_modify, hgg]
    · rw [Array.toList_setIfInBounds, List.take_set, htake]
    · intro k hk hne
      simp only [World.setCell, Array.getElem?_modify]
      rw [if_neg (fun e => hne (by rw [← e]; rfl))]
    · exact ⟨cur[j], by simp [World.cell?, hgg, hjc]⟩
    · simp [World.frozen?, hgg]

theorem run_storeVar1 {P : Program} {w : World} {t : TypeId} {p : Addr} {v y : Value} (hz : sizeB P t = some 1) (ho : v.oneCell' = true) (hc : w.cell? p = some y) (hf : w.frozen? p = false) :
    (storeVar t p v).run P w = .ok () (w.setCell p v) := by
  have hcells : v.cells = #[v] := by cases v <;> first | rfl | cases ho
  have hadd : p.add 0 = p := by simp [Addr.add]
  have hst : (storeCells p [v]).run P w = .ok () (w.setCell p v) := by
    cases v <;> first | (cases ho; done) | simp [storeCells, store, Sem.run, hadd, hc, hf]
  unfold storeVar
  simp only [Sem.run_bind, run_sizeOf hz, Result.andThen_ok, hcells]
  exact hst

/-- a store of one cell into a row of the call's own -/
theorem OpG.storeRow {t : TypeId} {x y : Operand} {e : TypeId} {size n cp len : Nat} {a : Option Addr} {xs : List Value} {j : Nat} {v : Value} {H' : List Chunk} (hz : sizeB c.P t = some 1)
    (hx : evE E x = some (.pointer (some ((ad a).add j)))) (hy : evE E y = some v) (ho : v.oneCell' = true)
    (hu : Upd H (.row e size (.slice a n cp) len xs) (.row e size (.slice a n cp) len (xs.set j v)) H') (hj : j < xs.length) :
    OpG c ⟨d, .store t x y, ty, pos, af, g⟩ E H (fun _ : Unit => True) (fun _ => undef) (fun _ => H') := fun b w hE hH K Q h => by
  have h1 := hE.eval hx
  have h2 := hE.eval hy
  obtain ⟨i, hi, _⟩ := hu.index
  have hown := (hH.holds _ (List.mem_of_getElem? hi)).1
  obtain ⟨r1, r2, ⟨y0, r3⟩, r4⟩ := owns_set hown hj v
  unfold Oper.wp
  have hrun : (execOp b.eval ⟨d, .store t x y, ty, pos, af, g⟩).run c.P w = .ok .skip (w.setCell ((ad a).add j) v) := by
    show Sem.run c.P (do Instr.storeAt t (b.eval x) (b.eval y); pure Next.skip) w = _
    rw [h1, h2]
    unfold Instr.storeAt Instr.sureAddr
    simp only [Sem.run_bind, Sem.run_pure, Result.andThen_ok, pure_bind, run_storeVar1 hz ho r3 r4]
  rw [hrun]
  exact h () _ trivial (hH.upd hu (fun b hb => .inl hb) r1 r2 (fun _ h => h) (run_drawn _ hrun))

theorem madeCells_one (z : Value) (n : Nat) (hz : z.oneCell' = true) : (madeCells z.cells (n * 1)).toList = List.replicate n z := by
  have hcells : z.cells = #[z] := by cases z <;> first | rfl | cases hz
  rw [hcells]
  apply List.ext_getElem
  · simp [madeCells]
  · intro i h1 h2
    simp [madeCells, Nat.mod_one]

/-- make([]T, n), a T of one cell -/
theorem OpG.make1 {t e : TypeId} {x y : Operand} {z : Value} {n bytes : Nat} {m : Int} (ht : c.P.underlying t = some (.slice e))
    (hi : (c.P.info? e).map (fun i => (i.zero, i.size, i.bytes)) = some (some z, 1, bytes)) (hz1 : z.oneCell' = true)
    (hx : evE E x = some (.int .i64 m)) (hy : evE E y = some (.int .i64 m)) (hm : m = (n : Int)) (hb : bytes * n ≤ 281474976710656) (h63 : n ≤ 9223372036854775807) :
    OpG c ⟨d, .makeSlice t x y, ty, pos, af, g⟩ E H (fun _ : Nat => True) (fun b => .slice (some ⟨b, 0, none⟩) n n) (fun b => .row e 1 (.slice (some ⟨b, 0, none⟩) n n) n (List.replicate n z) :: H) := fun b w hE hH K Q h => by
  have h1 := hE.eval hx
  have h2 := hE.eval hy
  subst hm
  obtain ⟨i, hi1, hi2, hi3, hi4⟩ := info_parts hi
  obtain ⟨w', hrun, r1, r2⟩ := run_make_full (P := c.P) w 0 t e i z 1 ht hi1 hi2 hi3 .i64 .i64 n (by rw [hi4]; exact hb) (by unfold maxLen; exact h63) (Nat.zero_le _)
  rw [madeCells_one z n hz1] at r1
  unfold Oper.wp
  have hrun' : (execOp b.eval ⟨d, .makeSlice t x y, ty, pos, af, g⟩).run c.P w = .ok (.value (.slice (some ⟨w.heap.size, 0, none⟩) n n)) w' := by
    show Sem.run c.P (do let z ← Instr.makeSlice t (b.eval x) (b.eval y); pure (Next.value z)) w = _
    rw [h1, h2, Sem.run_bind, hrun]; rfl
  rw [hrun']
  refine h w.heap.size w' trivial (hH.add (Ext.of_grown r2 [] (fun k hk _ => by cases hk) (run_drawn _ hrun')) r1 (fun b hb => ?_))
  simp [Chunk.own, Value.ownBlock] at hb
  omega

def isGo (P : Program) (f : FuncId) : Bool :=
  match P.funcs[f]? with
  | some fn => fn.body.isSome && fn.name != "runtime.NumGoroutine"
  | none => false

theorem run_callGo {P : Program} {f : FuncId} (h : isGo P f = true) (args : Array Value) (w : World) : (callFunc f args).run P w = .ok (.enter f args) w := by
  unfold isGo at h
  split at h
  · rename_i fn hf
    simp only [Bool.and_eq_true, bne_iff_ne, ne_eq] at h
    have hn : ¬ fn.body = none := by
      intro hb
      rw [hb] at h; cases h.1
    simp [callFunc, hf, h.2, hn]
  · cases h

def evArgs (E : Slots) : List Operand → Option (List Value)
  | [] => some []
  | x :: r => match evE E x, evArgs E r with
    | some v, some vs => some (v :: vs)
    | _, _ => none

theorem Env.args {n : Nat} {a : Act} (h : Env n E a) {xs : List Operand} {vs : List Value} (hx : evArgs E xs = some vs) : xs.map a.eval = vs := by
  induction xs generalizing vs with
  | nil => simp [evArgs] at hx; subst hx; rfl
  | cons x r ih =>
    simp only [evArgs] at hx
    split at hx
    · rename_i v vs' h1 h2
      cases hx
      simp [h.eval h1, ih h2]
    · cases hx

/-- A call of a Go function by its contract. -/
theorem OpG.call {f : FuncId} {xs : List Operand} {ts : Array TypeId} {args : List Value} {ι : Type} {Φ : ι → Prop} {V : ι → Value} {H' : ι → List Chunk} (hf : isGo c.P f = true) (hargs : evArgs E xs = some args)
    (hc : ∀ w, HOk c H w → Calls c.P f args.toArray w (fun e w' => ∃ i, Φ i ∧ e = .returned (V i) ∧ HOk c (H' i) w')) :
    OpG c ⟨d, .call ⟨.value (.func f), xs.toArray, ts⟩, ty, pos, af, g⟩ E H Φ V H' := fun b w hE hH K Q h => by
  have h1 := hE.args hargs
  have h2 := hc w hH
  unfold Oper.wp
  have hrun : (execOp b.eval ⟨d, .call ⟨.value (.func f), xs.toArray, ts⟩, ty, pos, af, g⟩).run c.P w = .ok (.enter f args.toArray) w := by
    show Sem.run c.P (do let z ← resolve b.eval ⟨.value (.func f), xs.toArray, ts⟩ ty; invoke z.target z.args) w = _
    simp only [resolve, List.map_toArray, h1]
    have h3 : Deferred.ofValue (b.eval (.func f)) args.toArray = pure { target := .fn (.func f) #[], args := args.toArray } := by
      simp [Deferred.ofValue, Act.eval]
    rw [h3]
    show Sem.run c.P (callFunc f (args.toArray ++ #[])) w = _
    rw [Array.append_empty, run_callGo hf]
  rw [hrun]
  refine h2.mono fun e w' ⟨i, hi, he, hH'⟩ => ?_
  subst he
  exact h i w' hi hH'

/-- A call that hands back one value and leaves what was there alone. -/
theorem OpG.callV {f : FuncId} {xs : List Operand} {ts : Array TypeId} {args : List Value} {v : Value} (hf : isGo c.P f = true) (hargs : evArgs E xs = some args)
    (hc : ∀ w, HOk c H w → Calls c.P f args.toArray w (fun e w' => e = .returned v ∧ Ext [] w w')) :
    OpG c ⟨d, .call ⟨.value (.func f), xs.toArray, ts⟩, ty, pos, af, g⟩ E H (fun _ : Unit => True) (fun _ => v) (fun _ => H) :=
  OpG.call hf hargs fun w hH => (hc w hH).mono fun _ _ ⟨he, hx⟩ => ⟨(), trivial, he, hH.ext_nil hx⟩

/-- A call that hands back a slice in new memory. -/
theorem owns_isSome {w : World} {base : Nat} {e : TypeId} {size n cp len : Nat} {a : Option Addr} {xs : List Value} (h : w.ownsRow base e size (.slice a n cp) len xs) (hn : len ≠ 0) : a.isSome = true := by
  rcases h.2 with ⟨_, h0⟩ | ⟨g, cap, cur, hs, _⟩
  · exact absurd h0 hn
  · cases hs; rfl

theorem OpG.callR {f : FuncId} {xs : List Operand} {ts : Array TypeId} {args : List Value} {e : TypeId} {size n : Nat} {vals : List Value} (hf : isGo c.P f = true) (hargs : evArgs E xs = some args)
    (hc : ∀ w, HOk c H w → Calls c.P f args.toArray w (fun r w' => ∃ a cp, r = .returned (.slice a n cp) ∧ Ext [] w w' ∧ w'.ownsRow w.heap.size e size (.slice a n cp) n vals)) :
    OpG c ⟨d, .call ⟨.value (.func f), xs.toArray, ts⟩, ty, pos, af, g⟩ E H (fun i : Option Addr × Nat => n ≠ 0 → i.1.isSome = true) (fun i => .slice i.1 n i.2) (fun i => .row e size (.slice i.1 n i.2) n vals :: H) :=
  OpG.call hf hargs fun w hH => (hc w hH).mono fun _ _ ⟨a, cp, he, hx, hown⟩ => ⟨(a, cp), fun h0 => owns_isSome hown h0, he,
    hH.add hx (show World.ownsRow _ 0 e size _ n vals from ⟨hown.1, hown.2.elim .inl (fun ⟨g, cap, cur, h1, _, h3⟩ => .inr ⟨g, cap, cur, h1, Nat.zero_le _, h3⟩)⟩) (fun b hb => (World.ownsRow.lt hown b hb).1)⟩
end

/-- The slots at the start of a call. -/
def argE : Nat → List Value → Slots
  | _, [] => []
  | k, v :: r => (k, v) :: argE (k + 1) r

theorem look_argE (k : Nat) (vs : List Value) (t : Nat) (v : Value) (h : look (argE k vs) t = some v) : k ≤ t ∧ vs[t - k]? = some v := by
  induction vs generalizing k with
  | nil => simp [argE, look] at h
  | cons x r ih =>
    simp only [argE, look] at h
    by_cases e : k = t
    · subst e; simp at h; subst h; simp
    · have : (k == t) = false := by simpa using e
      rw [this] at h
      obtain ⟨h1, h2⟩ := ih (k + 1) h
      refine ⟨by omega, ?_⟩
      rw [show t - k = (t - (k + 1)) + 1 by omega]
      simpa using h2

theorem enter {P : Program} {f : FuncId} {fn : Func} {code : Code} {args : List Value} {w : World} {R : Ending → World → Prop} (X : List Nat) (n : Nat) (hf : P.funcs[f]? = some fn) (hb : fn.body = some code) (hn : fn.ntmps = n) (hl : Nat.ble args.length n = true)
    (h : CT ⟨P, n, X, w⟩ code (bodyPost P fn R) (argE 0 args) []) : Calls P f args.toArray w R := by
  have hl := Nat.le_of_ble_eq_true hl
  refine calls_of_wp hf hb (h _ _ ⟨?_, rfl, fun t v ht => ?_⟩ (HOk.start _))
  · simp only [Array.size_append, List.size_toArray, Array.size_replicate, hn]; omega
  · obtain ⟨_, h2⟩ := look_argE 0 args t v ht
    rw [Nat.sub_zero] at h2
    have hlt := (List.getElem?_eq_some_iff.1 h2).1
    rw [Array.getD_eq_getD_getElem?, Array.getElem?_append_left (by simpa using hlt)]
    simp [h2]

/-- The end of the function, one result in a slot. -/
theorem PX.ret1 {c : Cx} {fn : Func} {R : Ending → World → Prop} {E : Slots} {H : List Chunk} {t : Nat} {v : Value} (hr : fn.results = #[.tmp t]) (hv : look E t = some v) (h : ∀ w, HOk c H w → R (.returned v) w) :
    PX c (bodyPost c.P fn R) .ret E H := fun a w hE hH => by
  refine bodyPost_ret (results_tmp hr _ _ _) hE.defers ?_
  rw [hE.get t v hv]
  exact h w hH
theorem PX.ret2 {c : Cx} {fn : Func} {R : Ending → World → Prop} {E : Slots} {H : List Chunk} {t t' : Nat} {v v' : Value} (hr : fn.results = #[.tmp t, .tmp t']) (hv : look E t = some v) (hv' : look E t' = some v') (h : ∀ w, HOk c H w → R (.returned (.tuple #[v, v'])) w) :
    PX c (bodyPost c.P fn R) .ret E H := fun a w hE hH => by
  refine bodyPost_ret (results_tmp2 hr _ _ _) hE.defers ?_
  rw [hE.get t v hv, hE.get t' v' hv']
  exact h w hH
end Go.Eng

namespace Go.Eng
open Go

class NoSlot (Q : Exit → Act → World → Prop) : Prop where
  panic : ∀ ch a d v w, Q (.panic ch) (a.put d v) w → Q (.panic ch) a w

theorem put_defers' (a : Act) (d : Option Nat) (v : Value) : (a.put d v).defers = a.defers := by cases d <;> rfl

instance (P : Program) (fn : Func) (R : Ending → World → Prop) : NoSlot (bodyPost P fn R) := ⟨fun ch a d v w h => by
  obtain ⟨h1, h2⟩ := h
  exact ⟨by rw [put_defers'] at h1; exact h1, h2⟩⟩
instance (K : Act → World → Prop) (Q : Exit → Act → World → Prop) [h : NoSlot Q] : NoSlot (Exit.then K Q) := ⟨fun ch a d v w hh => h.panic ch a d v w hh⟩
instance (id : Nat) (Q : Exit → Act → World → Prop) [h : NoSlot Q] : NoSlot (Exit.inBlock id Q) := ⟨fun ch a d v w hh => h.panic ch a d v w hh⟩

section
variable {P : Program} {ops : Array Oper} {Q : Exit → Act → World → Prop} {md : Region.Mode} {C : World → Prop} {n : Nat}

/-- Whatever order is picked from here on; behind each operation of the front (those before n) C holds. -/
def wpAnyC (P : Program) (md : Region.Mode) (ops : Array Oper) (Q : Exit → Act → World → Prop) (C : World → Prop) (n : Nat) : Nat → Array Bool → Act → World → Prop
  | 0, listed, a, w => Region.ready md ops listed = [] ∧ Q .normal a w
  | fuel + 1, listed, a, w =>
    (Region.ready md ops listed = [] → Q .normal a w) ∧
    ∀ i ∈ Region.ready md ops listed, wpOp P ops Q i (fun a' w' => (i < n → C w') ∧ wpAnyC P md ops Q C n fuel (listed.setIfInBounds i true) a' w') a w

theorem wpAny_of_C : ∀ (fuel : Nat) (listed : Array Bool) (a : Act) (w : World), wpAnyC P md ops Q C n fuel listed a w → wpAny P md ops Q fuel listed a w
  | 0, _, _, _, h => h
  | fuel + 1, _, _, _, h => ⟨h.1, fun i hi => wpOp_mono (fun a' w' h' => wpAny_of_C fuel _ a' w' h'.2) (h.2 i hi)⟩

def tailB (md : Region.Mode) (ops : Array Oper) (n : Nat) : Bool := decide (n = ops.size) || (decide (n < ops.size) && Region.sinkB md ops n && Region.chainB md ops n)

theorem front_only (ht : tailB md ops n = true) {listed : Array Bool} (inv : HeadInv md ops n listed) {i : Nat} (hi : i < n) (hun : listed.getD i true = false) {j : Nat} (hj : j ∈ Region.ready md ops listed) : j < n := by
  unfold tailB at ht
  simp only [Bool.or_eq_true, Bool.and_eq_true, decide_eq_true_eq] at ht
  rcases ht with ht | ⟨⟨hn, hs⟩, hc⟩
  · obtain ⟨_, oj, hoj, _⟩ := mem_ready.1 hj
    have := (Array.getElem?_eq_some_iff.1 hoj).1
    omega
  · rcases Nat.lt_or_ge j n with h | h
    · exact h
    · exact absurd hj (tail_waits hs hc hn inv _ i rfl hi hun j h)

theorem wpAnyC_first {i : Nat} {oi : Oper} {v : Value} (hi : ops[i]? = some oi) (hin : i < n) (ht : tailB md ops n = true) (hsel : ∀ (j : Nat) (o : Oper) cs b, ops[j]? = some o → o.op ≠ .select cs b)
    (hQ : ∀ c a w, Q (.panic c) (a.put oi.dst v) w → Q (.panic c) a w) :
    ∀ (fuel : Nat) (listed : Array Bool) (a : Act) (w : World), HeadInv md ops n listed →
      (∀ j oj, ops[j]? = some oj → j ≠ i → listed.getD j true = false → (∀ e ∈ oj.after, Region.binds md e = true → e.on ≠ i) → oi.apart ops oj = true) →
      i ∈ Region.ready md ops listed → YieldsIf P ops C oi v a → C w →
      wpAnyC P md ops Q C n fuel (listed.setIfInBounds i true) (a.put oi.dst v) w → wpAnyC P md ops Q C n (fuel + 1) listed a w := by
  intro fuel
  induction fuel with
  | zero =>
    intro listed a w inv _ hr hy hS H
    refine ⟨fun h => (by rw [h] at hr; cases hr), fun j hj => ?_⟩
    by_cases hji : j = i
    · subst hji; exact hy.wpOp hi hS ⟨fun _ => hS, H⟩
    · have := ready_mono hj hji
      rw [H.1] at this
      cases this
  | succ fuel ih =>
    intro listed a w inv hfree hr hy hS H
    refine ⟨fun h => (by rw [h] at hr; cases hr), fun j hj => ?_⟩
    by_cases hji : j = i
    · subst hji; exact hy.wpOp hi hS ⟨fun _ => hS, H⟩
    · have h1 := H.2 j (ready_mono hj hji)
      have hjn : j < n := front_only ht inv hin (mem_ready.1 hr).1 hj
      obtain ⟨hjun, oj, hoj, hall⟩ := mem_ready.1 hj
      have hnot : ∀ e ∈ oj.after, Region.binds md e = true → e.on ≠ i := fun e he hb heq => by
        have h1 := hall e he hb
        have h0 := (mem_ready.1 hr).1
        rw [heq] at h1
        rcases Nat.lt_or_ge i listed.size with h' | h'
        · simp [h'] at h0 h1; rw [h0] at h1; cases h1
        · simp [Array.getElem?_eq_none h'] at h1
      have h2 := wpOp_putIf hoj (hfree j oj hoj hji hjun hnot) (fun cs b => hsel i oi cs b hi) (fun cs b => hsel j oj cs b hoj) hQ hy h1
      have hfree' : ∀ k ok, ops[k]? = some ok → k ≠ i → (listed.setIfInBounds j true).getD k true = false →
          (∀ e ∈ ok.after, Region.binds md e = true → e.on ≠ i) → oi.apart ops ok = true := fun k ok hk hki hun hno => by
        refine hfree k ok hk hki ?_ hno
        by_cases hjk : j = k
        · subst hjk; exact hjun
        · rw [getD_set_ne true hjk] at hun; exact hun
      refine wpOp_mono (fun a' w' h3 => ⟨fun _ => h3.2.1 hjn, ih (listed.setIfInBounds j true) a' w' (inv.set hj hjn) hfree' (ready_mono hr (Ne.symm hji)) h3.1 (h3.2.1 hjn) ?_⟩) h2
      rw [Array.setIfInBounds_comm _ _ hji]
      exact h3.2.2

def stepB (ops : Array Oper) (n : Nat) (listed : Array Bool) (i : Nat) : Bool :=
  decide (i < n) && tailB .any ops n && Region.noSelect ops && Region.free .any ops listed i && (Region.ready .any ops listed).contains i
end

/-- The front of a region that draws its order. -/
def RA (c : Cx) (ops : Array Oper) (Q : Exit → Act → World → Prop) (n : Nat) (Hc : List Chunk) (fuel : Nat) (listed : Array Bool) (E : Slots) (H : List Chunk) : Prop :=
  HeadInv .any ops n listed → ∀ a w, Env c.n E a → HOk c H w → wpAnyC c.P .any ops Q (HOk c Hc) n fuel listed a w
/-- Its tail, in one forced order. -/
def RT (c : Cx) (ops : Array Oper) (Q : Exit → Act → World → Prop) (n : Nat) (Hc : List Chunk) (fuel : Nat) (listed : Array Bool) (E : Slots) (H : List Chunk) : Prop :=
  ∀ a w, Env c.n E a → HOk c H w → wpAnyC c.P .any ops Q (HOk c Hc) n fuel listed a w

section
variable {c : Cx} {ops : Array Oper} {Q : Exit → Act → World → Prop} {n fuel : Nat} {Hc : List Chunk} {listed : Array Bool} {E : Slots} {H : List Chunk} {o : Oper}

/-- Take quiet operation number i first. -/
theorem RA.q [hN : NoSlot Q] (i : Nat) {v : Value} (hb : stepB ops n listed i = true) (hi : ops[i]? = some o) (hg : guardB ops E o = some true) (hd : dstOk c.n o.dst = true) (hs : Hc.Sublist H)
    (hq : OpQ c o E Hc v) (h : RA c ops Q n Hc fuel (listed.setIfInBounds i true) (Eng.putE o.dst v E) H) : RA c ops Q n Hc (fuel + 1) listed E H := by
  intro inv a w hE hH
  simp only [stepB, Bool.and_eq_true, decide_eq_true_eq] at hb
  obtain ⟨⟨⟨⟨h1, h2⟩, h3⟩, h4⟩, h5⟩ := hb
  have hr : i ∈ Region.ready .any ops listed := by simpa using h5
  exact wpAnyC_first hi h1 h2 (Region.noSelect_spec h3) (fun ch a w => hN.panic ch a _ _ w) fuel listed a w inv (Region.free_spec hi h4) hr
    (.inl ⟨wanted_of hE hg, fun w hw => hq a w hE hw⟩) (hH.sublist hs) (h (inv.set hr h1) _ _ (hE.putE hd v) hH)

theorem RA.skip [hN : NoSlot Q] (i : Nat) (hb : stepB ops n listed i = true) (hi : ops[i]? = some o) (hg : guardB ops E o = some false) (hd : dstOk c.n o.dst = true) (hs : Hc.Sublist H)
    (h : RA c ops Q n Hc fuel (listed.setIfInBounds i true) (Eng.putE o.dst undef E) H) : RA c ops Q n Hc (fuel + 1) listed E H := by
  intro inv a w hE hH
  simp only [stepB, Bool.and_eq_true, decide_eq_true_eq] at hb
  obtain ⟨⟨⟨⟨h1, h2⟩, h3⟩, h4⟩, h5⟩ := hb
  have hr : i ∈ Region.ready .any ops listed := by simpa using h5
  exact wpAnyC_first hi h1 h2 (Region.noSelect_spec h3) (fun ch a w => hN.panic ch a _ _ w) fuel listed a w inv (Region.free_spec hi h4) hr
    (.inr ⟨wanted_of hE hg, rfl⟩) (hH.sublist hs) (h (inv.set hr h1) _ _ (hE.putE hd _) hH)

theorem RA.know (d : Nat) {v v' : Value} (hd : look E d = some v) (hb : v = v') (h : RA c ops Q n Hc fuel listed ((d, v') :: E) H) : RA c ops Q n Hc fuel listed E H :=
  fun inv a w hE hH => h inv a w (hE.know d hd hb) hH

theorem RA.split (d : Nat) {b : Bool} (hd : look E d = some (.bool b)) (ht : b = true → RA c ops Q n Hc fuel listed ((d, .bool true) :: E) H) (hf : b = false → RA c ops Q n Hc fuel listed ((d, .bool false) :: E) H) : RA c ops Q n Hc fuel listed E H := by
  have key : ∀ a, Env c.n E a → Env c.n ((d, .bool b) :: E) a := fun a hE => ⟨hE.size, hE.defers, fun t v hl => by
    simp only [look] at hl
    by_cases e : d = t
    · subst e; simp at hl; subst hl; exact hE.get d _ hd
    · have : (d == t) = false := by simpa using e
      rw [this] at hl; exact hE.get t v hl⟩
  intro inv a w hE hH
  cases b with
  | true => exact ht rfl inv a w (key a hE) hH
  | false => exact hf rfl inv a w (key a hE) hH

def oneB (ops : Array Oper) (listed : Array Bool) (i : Nat) : Bool := Region.ready .any ops listed == [i]

theorem wpOp_G {i : Nat} {ι : Type} {Φ : ι → Prop} {V : ι → Value} {H' : ι → List Chunk} (hi : ops[i]? = some o) (hg : guardB ops E o = some true) (hq : OpG c o E H Φ V H') {K : Act → World → Prop} {a : Act} {w : World} (hE : Env c.n E a) (hH : HOk c H w)
    (h : ∀ j w', Φ j → HOk c (H' j) w' → K (a.put o.dst (V j)) w') : wpOp c.P ops Q i K a w := by
  unfold wpOp
  simp only [hi, wanted_of hE hg, if_true]
  exact .inl (hq a w hE hH _ _ h)

/-- The only one that may come up, in the front. -/
theorem RA.f (i : Nat) {ι : Type} {Φ : ι → Prop} {V : ι → Value} {H' : ι → List Chunk} (hb : (oneB ops listed i && decide (i < n)) = true) (hi : ops[i]? = some o) (hg : guardB ops E o = some true) (hd : dstOk c.n o.dst = true)
    (hq : OpG c o E H Φ V H') (hs : ∀ j, Φ j → Hc.Sublist (H' j)) (h : ∀ j, Φ j → RA c ops Q n Hc fuel (listed.setIfInBounds i true) (Eng.putE o.dst (V j) E) (H' j)) : RA c ops Q n Hc (fuel + 1) listed E H := by
  intro inv a w hE hH
  simp only [Bool.and_eq_true, decide_eq_true_eq] at hb
  have hr : Region.ready .any ops listed = [i] := by have := hb.1; unfold oneB at this; simpa using this
  refine ⟨fun h0 => (by rw [hr] at h0; cases h0), fun j hj => ?_⟩
  have hmem := hj
  rw [hr] at hj
  obtain rfl := List.mem_singleton.1 hj
  exact wpOp_G hi hg hq hE hH fun k w' hk hw' => ⟨fun _ => hw'.sublist (hs k hk), h k hk (inv.set hmem hb.2) _ _ (hE.putE hd _) hw'⟩

theorem RA.tail (h : RT c ops Q n Hc fuel listed E H) : RA c ops Q n Hc fuel listed E H := fun _ => h

theorem RT.f (i : Nat) {ι : Type} {Φ : ι → Prop} {V : ι → Value} {H' : ι → List Chunk} (hb : (oneB ops listed i && decide (n ≤ i)) = true) (hi : ops[i]? = some o) (hg : guardB ops E o = some true) (hd : dstOk c.n o.dst = true)
    (hq : OpG c o E H Φ V H') (h : ∀ j, Φ j → RT c ops Q n Hc fuel (listed.setIfInBounds i true) (Eng.putE o.dst (V j) E) (H' j)) : RT c ops Q n Hc (fuel + 1) listed E H := by
  intro a w hE hH
  simp only [Bool.and_eq_true, decide_eq_true_eq] at hb
  have hr : Region.ready .any ops listed = [i] := by have := hb.1; unfold oneB at this; simpa using this
  refine ⟨fun h0 => (by rw [hr] at h0; cases h0), fun j hj => ?_⟩
  rw [hr] at hj
  obtain rfl := List.mem_singleton.1 hj
  exact wpOp_G hi hg hq hE hH fun k w' hk hw' => ⟨fun h0 => absurd hb.2 (by omega), h k hk _ _ (hE.putE hd _) hw'⟩

theorem RT.q (i : Nat) {v : Value} (hb : (oneB ops listed i && decide (n ≤ i)) = true) (hi : ops[i]? = some o) (hg : guardB ops E o = some true) (hd : dstOk c.n o.dst = true)
    (hq : OpQ c o E H v) (h : RT c ops Q n Hc fuel (listed.setIfInBounds i true) (Eng.putE o.dst v E) H) : RT c ops Q n Hc (fuel + 1) listed E H :=
  RT.f (Φ := fun _ : Unit => True) (V := fun _ => v) (H' := fun _ => H) i hb hi hg hd (fun a w hE hH K Q' hK => by
    unfold Oper.wp
    rw [hq a w hE hH]
    exact hK () w trivial hH) (fun _ _ => h)

theorem RT.done (hb : (Region.ready .any ops listed).isEmpty = true) (h : PX c Q .normal E H) : RT c ops Q n Hc fuel listed E H := fun a w hE hH => by
  have hr : Region.ready .any ops listed = [] := by simpa using hb
  cases fuel with
  | zero => exact ⟨hr, h a w hE hH⟩
  | succ f => exact ⟨fun _ => h a w hE hH, fun i hi => by rw [hr] at hi; cases hi⟩

/-- A region that draws its order: n: the length of its front. -/
theorem CT.draw {id : Nat} {l : List Oper} (n : Nat) (hm : c.P.follows .mixedOrders = true) (h : RA c l.toArray Q n H l.length (Array.replicate l.length false) E H) : CT c (.region id l.toArray true) Q E H := by
  intro a w hE hH
  refine wp_region_any hm (wpAny_of_C (C := HOk c H) (n := n) _ _ _ _ ?_)
  refine h ⟨by simp, fun j oj _ hl => ?_, fun t _ htlt => ?_⟩ a _ hE (hH.drawn _ (Nat.le_succ _))
  · rw [getD_replicate_false] at hl; cases hl
  · have : t < l.length := by simpa using htlt
    simp [this]
end
end Go.Eng

namespace Go.Eng
open Go

theorem conv_u8_i64 {P : Program} {s t : TypeId} (hs : P.underlying s = some (.int .u8)) (ht : P.underlying t = some (.int .i64)) (n : Int) (h : 0 ≤ n ∧ n < 256) (w : World) :
    (convert s t (.int .u8 n)).run P w = .ok (.int .i64 n) w := by
  simp [convert, run_underlying hs, run_underlying ht, Conv.intToInt, wrap_i64 (m := n) (by omega)]

theorem getMap {α : Type} (f : α → Value) (xs : List α) (d : α) {j : Nat} (h : j < xs.length) : (xs.map f)[j]? = some (f (xs.getD j d)) := by
  simp [List.getD, h]

/-- what fresh row a call hands back -/
def New (e : TypeId) (size : Nat) (w w' : World) (r : Ending) (n : Nat) (vals : List Value) : Prop :=
  ∃ a cp, r = .returned (.slice a n cp) ∧ Ext [] w w' ∧ w'.ownsRow w.heap.size e size (.slice a n cp) n vals

theorem owns_base {w : World} {b b' : Nat} {e : TypeId} {size n : Nat} {v : Value} {xs : List Value} (h : w.ownsRow b e size v n xs) (hb : ∀ k, v.ownBlock = some k → b' ≤ k) : w.ownsRow b' e size v n xs :=
  ⟨h.1, h.2.elim .inl (fun ⟨g, cap, cur, h1, _, h3⟩ => .inr ⟨g, cap, cur, h1, hb g (by rw [h1]; rfl), h3⟩)⟩

/-- a row at the end of a function whose X is empty is new -/
theorem HOk.new {c : Cx} {H : List Chunk} {w : World} (h : HOk c H w) (hX : c.X = []) {e : TypeId} {size n : Nat} {v : Value} {xs : List Value} (hh : Has H (.row e size v n xs)) : w.ownsRow c.w0.heap.size e size v n xs :=
  owns_base (h.holds _ hh.mem).1 (fun k hk => by
    rcases (h.holds _ hh.mem).2 k hk with h1 | h1
    · exact h1
    · rw [hX] at h1; cases h1)

theorem HOk.newRow {P : Program} {n0 : Nat} {w0 : World} {H : List Chunk} {w : World} (h : HOk ⟨P, n0, [], w0⟩ H w) {e : TypeId} {size n cp : Nat} {a : Option Addr} {xs : List Value} (hh : Has H (.row e size (.slice a n cp) n xs)) :
    New e size w0 w (.returned (.slice a n cp)) n xs := ⟨a, cp, rfl, h.ext, h.new rfl hh⟩

/-- a nil slice owns nothing: it may stand among the chunks -/
theorem HOk.nilrow {c : Cx} {H : List Chunk} {w : World} (h : HOk c H w) (e : TypeId) (size : Nat) : HOk c (.row e size (.slice none 0 0) 0 [] :: H) w :=
  h.add (Ext.refl _ _) (World.ownsRow_nil w 0 e size) (fun b hb => by cases hb)
theorem CT.nilrow {c : Cx} {x : Code} {Q : Exit → Act → World → Prop} {E : Slots} {H : List Chunk} (e : TypeId) (size : Nat) (h : CT c x Q E (.row e size (.slice none 0 0) 0 [] :: H)) : CT c x Q E H :=
  fun a w hE hH => h a w hE (hH.nilrow e size)
theorem run_append_owned_none' {P : Program} (w : World) (base : Nat) (t ty e : TypeId) (i : TypeInfo) (size : Nat) (ht : P.underlying t = some (.slice e)) (hi : P.info? e = some i)
    (v : Value) (n : Nat) (xs : List Value) (hown : w.ownsRow base e size v n xs) (cp : Nat) :
    (Builtin.append_ #[t, t] ty #[v, .slice none 0 cp]).run P w = .ok v w := by
  rcases hown.2 with ⟨rfl, rfl⟩ | ⟨g, cap, cur, rfl, _, _, hnc, _⟩
  · simp [Builtin.append_, run_underlying ht, sizeOf, typeInfo, hi, Builtin.lenOf, Builtin.firstCells]
  · simp [Builtin.append_, run_underlying ht, sizeOf, typeInfo, hi, Builtin.lenOf, Builtin.firstCells, hnc, storeCells]

theorem app_block {P : Program} (w : World) (t ty e : TypeId) (i : TypeInfo) (z : Value) (ht : P.underlying t = some (.slice e)) (hi : P.info? e = some i) (hz : i.zero = some z)
    (v : Value) (n : Nat) (xs : List Value) (hown : w.ownsRow 0 e i.size v n xs) (p : Addr) (m c : Nat) (news : List Value) (hl : news.length = m * i.size) (hnews : ∀ j u, news[j]? = some u → w.cell? (p.add j) = some u) (h1 : ∀ u ∈ news, u.oneCell' = true)
    (h63 : n + m ≤ maxLen) (hbytes : (n + m) * i.bytes ≤ 140737488355328) {v' : Value} {w' : World}
    (hr : (Builtin.append_ #[t, t] ty #[v, .slice (some p) m c]).run P w = .ok v' w') : ∀ k, v'.ownBlock = some k → v.ownBlock = some k ∨ w.heap.size ≤ k := by
  have hsmall : n + m ≤ 9223372036854775807 := by simp only [maxLen] at h63; omega
  rcases hown.2 with ⟨rfl, rfl⟩ | ⟨g, cap, cur, rfl, hbg, hg, hnc, hcm, hcs, htake⟩
  · by_cases hm : m = 0
    · subst hm
      have hn : news = [] := List.eq_nil_of_length_eq_zero (by simpa using hl)
      subst hn
      have : (Builtin.append_ #[t, t] ty #[.slice none 0 0, .slice (some p) 0 c]).run P w = .ok (.slice none 0 0) w := by
        simp [Builtin.append_, run_underlying ht, sizeOf, typeInfo, hi, Builtin.lenOf, Builtin.firstCells, loadCells, loadCellsFrom]
      rw [this] at hr
      cases hr
      intro k hk; cases hk
    · have h2 := run_append_nil (P := P) w t ty e i z ht hi hz p m c news hl hnews (by omega) (by omega) (by have hb := hbytes; simp only [Nat.zero_add] at hb; omega)
      rw [h2] at hr
      cases hr
      intro k hk
      simp [Value.ownBlock] at hk
      right; omega
  · by_cases hroom : n + m ≤ cap
    · have hfit : n * i.size + news.length ≤ cur.size := by rw [hl, hcs, ← Nat.add_mul]; exact Nat.mul_le_mul_right _ hroom
      have h2 := run_append_room (P := P) w t ty e i ht hi g n cap cur hg p m c news hl hnews h1 hroom hfit
      rw [h2] at hr
      cases hr
      intro k hk
      left; exact hk
    · have holds : ∀ j u, xs[j]? = some u → w.cell? ((⟨g, 0, none⟩ : Addr).add j) = some u := hown.cells (g := g) rfl
      have h2 := run_append_grow (P := P) w t ty e i z ht hi hz ⟨g, 0, none⟩ n cap xs hown.1 holds p m c news hl hnews (by omega) (by omega) (growslice_fits (by omega) hbytes)
      rw [h2] at hr
      cases hr
      intro k hk
      simp [Value.ownBlock] at hk
      right; omega

section
variable {c : Cx} {E : Slots} {H : List Chunk} {d : Option Nat} {ty : TypeId} {pos : String} {af : Array Edge} {g : Option (Nat × Bool)}

/-- append(s, x...): s a row of the call's own, x whatever reads as 'news' -/
theorem OpG.append {t e : TypeId} {x y : Operand} {z : Value} {size bytes n m cp cp' : Nat} {a a' : Option Addr} {xs news : List Value} (ht : c.P.underlying t = some (.slice e))
    (hi : (c.P.info? e).map (fun i => (i.zero, i.size, i.bytes)) = some (some z, size, bytes)) (hzs : z.cells.size = size) (hsz : 0 < size)
    (hx : evE E x = some (.slice a n cp)) (hy : evE E y = some (.slice a' m cp')) {p : Nat} (hp : H[p]? = some (.row e size (.slice a n cp) n xs))
    (hrd : ∀ w, HOk c H w → Rd w a' news) (hb : news.length = m * size ∧ (∀ v ∈ news, v.oneCell' = true) ∧ n + m ≤ 9223372036854775807 ∧ (n + m) * bytes ≤ 140737488355328) {nm : Nat} {all : List Value} (hnm : n + m = nm) (hall : xs ++ news = all)  :
    OpG c ⟨d, .call ⟨.builtin .append, #[x, y], #[t, t]⟩, ty, pos, af, g⟩ E H (fun i : Option Addr × Nat => nm ≠ 0 → i.1.isSome = true) (fun i => .slice i.1 nm i.2) (fun i => H.set p (.row e size (.slice i.1 nm i.2) nm all)) := fun b w hE hH K Q h => by
  subst hnm
  subst hall
  have h1 := hE.eval hx
  have h2 := hE.eval hy
  obtain ⟨hb1, hb2, hb3, hb4⟩ := hb
  obtain ⟨i, hi1, hi2, hi3, hi4⟩ := info_parts hi
  have hown : w.ownsRow 0 e size (.slice a n cp) n xs := (hH.holds _ (List.mem_of_getElem? hp)).1
  have fin : ∀ v' w', (execOp b.eval ⟨d, .call ⟨.builtin .append, #[x, y], #[t, t]⟩, ty, pos, af, g⟩).run c.P w = .ok (.value v') w' → w'.ownsRow 0 e size v' (n + m) (xs ++ news) → w.grownBy w' (Value.slice a n cp).ownBlock →
      (∀ k, v'.ownBlock = some k → (Value.slice a n cp).ownBlock = some k ∨ w.heap.size ≤ k) →
      Oper.wp c.P ⟨d, .call ⟨.builtin .append, #[x, y], #[t, t]⟩, ty, pos, af, g⟩ b w K Q := fun v' w' hrun hown' hg hnew => by
    obtain ⟨a1, c1, rfl⟩ : ∃ a1 c1, v' = .slice a1 (n + m) c1 := by
      rcases hown'.2 with ⟨h3, h4⟩ | ⟨g', cap, cur, h3, _⟩
      · exact ⟨none, 0, by rw [h3, h4]⟩
      · exact ⟨_, _, h3⟩
    unfold Oper.wp
    rw [hrun]
    exact h (a1, c1) w' (fun h0 => owns_isSome hown' h0) (hH.set hp hnew hown' hg.os hg.tape hg.output hg.size (fun b hb hne => hg.block b hb (fun e => hne e.symm)) (run_drawn _ hrun))
  cases a' with
  | none =>
    -- nothing is appended
    have hn : news = [] := by
      cases hne : news with
      | nil => rfl
      | cons u r => have := (hrd w hH) 0 u (by rw [hne]; rfl); simp at this
    subst hn
    have hm : m = 0 := by
      rcases Nat.eq_zero_or_pos m with h0 | h0
      · exact h0
      · have := Nat.mul_pos h0 hsz; simp at hb1; omega
    subst hm
    have hrun := run_append_owned_none' (P := c.P) w 0 t ty e i size ht hi1 _ n xs hown cp'
    refine fin (.slice a n cp) w ?_ (by simpa using hown) ⟨rfl, rfl, rfl, Nat.le_refl _, fun _ _ _ => rfl⟩ (fun k hk => .inl hk)
    simp [execOp, resolve, invoke, builtin, h1, h2, hrun]
  | some pa =>
    obtain ⟨v', w', hr, r1, r2, r3⟩ := run_append_own (P := c.P) w 0 t ty e i z size bytes ht hi1 hi2 hi3 hi4 hzs hsz _ n xs hown pa m cp' news hb1 (fun j u hu => ((hrd w hH) j u hu).2) hb2 (by unfold maxLen; exact hb3) hb4 (Nat.zero_le _)
    refine fin v' w' ?_ r1 r2 ?_
    · simp [execOp, resolve, invoke, builtin, h1, h2, hr]
    · subst hi3
      subst hi4
      exact app_block w t ty e i z ht hi1 hi2 _ n xs hown pa m cp' news hb1 (fun j u hu => ((hrd w hH) j u hu).2) hb2 (by unfold maxLen; exact hb3) hb4 hr

/-- a literal of a slice of cells of size 1 -/
theorem OpG.lit {t e : TypeId} {z : Value} {bytes n : Nat} {ps : List (Nat × Operand)} {vs : List Value} (ht : c.P.underlying t = some (.slice e)) (hi : (c.P.info? e).map (fun i => (i.zero, i.size, i.bytes)) = some (some z, 1, bytes)) (hz1 : z.oneCell' = true)
    (hn : n ≤ 16777216) (hfill : ∀ ρ : Operand → Value, (∀ x v, evE E x = some v → ρ x = v) → Instr.fill (fun i => some (i * 1, 1)) (Array.replicate n z) (ps.map fun p => (p.1, ρ p.2)) = some vs.toArray) (hl : vs.length = n) :
    OpG c ⟨d, .buildSlice t n ps.toArray, ty, pos, af, g⟩ E H (fun _ : Nat => True) (fun b => .slice (some ⟨b, 0, none⟩) n n) (fun b => .row e 1 (.slice (some ⟨b, 0, none⟩) n n) n vs :: H) := fun b w hE hH K Q h => by
  have hf := hfill b.eval (fun x v hx => hE.eval hx)
  obtain ⟨i, hi1, hi2, hi3, hi4⟩ := info_parts hi
  have hcells : z.cells = #[z] := by cases z <;> first | rfl | cases hz1
  have harr : ∀ zero : Array Value, (n ≠ 0 → zero = #[z]) → (Array.range (n * 1)).map (fun i => zero[i % zero.size]!) = Array.replicate n z := by
    intro zero hz
    by_cases h0 : n = 0
    · subst h0; simp
    · rw [hz h0]
      apply Array.ext
      · simp
      · intro j h1 h2
        simp [Nat.mod_one]
  unfold Oper.wp
  have hrun : (execOp b.eval ⟨d, .buildSlice t n ps.toArray, ty, pos, af, g⟩).run c.P w = .ok (.value (.slice (some ⟨w.heap.size, 0, none⟩) n n)) (w.alloc (.cells vs.toArray e)) := by
    show Sem.run c.P (do let z ← Instr.buildSlice t n (ps.toArray.map fun (i, x) => (i, b.eval x)); pure (Next.value z)) w = _
    have hle : ¬ (n * 1 > 2 ^ 24) := by omega
    have hz : (zeroValue e).run c.P w = .ok z w := by simp [zeroValue, typeInfo, hi1, hi2]
    have hps : (ps.toArray.map fun (i, x) => (i, b.eval x)).toList = ps.map fun p => (p.1, b.eval p.2) := by simp
    have hsz : (sizeOf e).run c.P w = .ok 1 w := by simp [sizeOf, typeInfo, hi1, hi3]
    unfold Instr.buildSlice
    simp only [Sem.run_bind, run_underlying ht, Result.andThen_ok, hsz, hle, if_false, hps]
    by_cases h0 : n * 1 = 0
    · simp only [h0, if_true, Sem.run_pure, Result.andThen_ok, Sem.run_bind]
      have := harr #[] (fun h1 => by omega)
      rw [h0] at this
      rw [this, hf]
      simp [newRow]
    · simp only [h0, if_false, Sem.run_pure, Result.andThen_ok, Sem.run_bind, hz, hcells]
      rw [harr #[z] (fun _ => rfl), hf]
      simp [newRow]
  rw [hrun]
  refine h w.heap.size _ trivial (hH.add (Ext.of_grown (World.grownBy_alloc w _ none) [] (fun k hk _ => by cases hk) (run_drawn _ hrun)) ?_ (fun b hb => ?_))
  · exact ⟨by simpa using hl, .inr ⟨w.heap.size, n, vs.toArray, rfl, Nat.zero_le _, heap_alloc_new w _, Nat.le_refl _, by unfold maxLen; omega, by simp [hl], by simp [← hl]⟩⟩
  · simp [Chunk.own, Value.ownBlock] at hb
    omega

theorem cells1 {v : Value} (h : v.oneCell' = true) : v.cells = #[v] := by cases v <;> first | rfl | cases h

theorem OpG.lit1 {t e : TypeId} {z : Value} {bytes : Nat} {x : Operand} {v : Value} (ht : c.P.underlying t = some (.slice e)) (hi : (c.P.info? e).map (fun i => (i.zero, i.size, i.bytes)) = some (some z, 1, bytes)) (hz1 : z.oneCell' = true)
    (hx : evE E x = some v) (hv : v.oneCell' = true) :
    OpG c ⟨d, .buildSlice t 1 #[(0, x)], ty, pos, af, g⟩ E H (fun _ : Nat => True) (fun b => .slice (some ⟨b, 0, none⟩) 1 1) (fun b => .row e 1 (.slice (some ⟨b, 0, none⟩) 1 1) 1 [v] :: H) :=
  OpG.lit (ps := [(0, x)]) (vs := [v]) ht hi hz1 (by omega) (fun ρ hρ => by
    have := hρ x v hx
    simp only [List.map_cons, List.map_nil, this, Instr.fill, cells1 hv]
    rfl) rfl

end
end Go.Eng

namespace Go.Eng
open Go

/-! structs -/
def isAggB (P : Program) (t : TypeId) : Option Bool :=
  match P.underlying t with
  | some (.struct _) | some (.array _ _) => some true
  | some _ => some false
  | none => none
theorem run_isAgg_agg {P : Program} {t : TypeId} (h : isAggB P t = some true) (w : World) : (isAgg t).run P w = .ok true w := by
  unfold isAggB at h
  split at h
  · rename_i fs hd; unfold isAgg; simp only [Sem.run_bind, run_underlying hd, Result.andThen_ok]; rfl
  · rename_i n e hd; unfold isAgg; simp only [Sem.run_bind, run_underlying hd, Result.andThen_ok]; rfl
  · cases h
  · cases h

/-- a struct's fields: offset, and size (none: an aggregate) -/
def fieldsB (P : Program) (t : TypeId) : Option (List (Nat × Option Nat)) :=
  match P.underlying t with
  | some (.struct fs) => fs.toList.mapM fun f => match scalarB P f.type with
    | some true => some (f.offset, none)
    | some false => (sizeB P f.type).map fun n => (f.offset, some n)
    | none => none
  | _ => none

theorem mapM_get {α β : Type} {f : α → Option β} : ∀ {l : List α} {r : List β}, l.mapM f = some r → ∀ {i : Nat} {y : β}, r[i]? = some y → ∃ x, l[i]? = some x ∧ f x = some y
  | [], r, h, i, y, hy => by simp at h; subst h; simp at hy
  | a :: l, r, h, i, y, hy => by
    rw [List.mapM_cons] at h
    cases ha : f a with
    | none => rw [ha] at h; cases h
    | some b =>
      rw [ha] at h
      cases hl : l.mapM f with
      | none => rw [hl] at h; cases h
      | some r' =>
        rw [hl] at h
        have h : b :: r' = r := by simpa using h
        subst h
        cases i with
        | zero => exact ⟨a, rfl, by simpa [ha] using hy⟩
        | succ i => exact mapM_get hl (i := i) (by simpa using hy)

theorem fieldsB_get {P : Program} {t : TypeId} {l : List (Nat × Option Nat)} (h : fieldsB P t = some l) {i : Nat} {y : Nat × Option Nat} (hy : l[i]? = some y) :
    ∃ fs f, P.underlying t = some (.struct fs) ∧ fs[i]? = some f ∧ f.offset = y.1 ∧ (match y.2 with | none => scalarB P f.type = some true | some n => isAggB P f.type = some true ∧ sizeB P f.type = some n) := by
  unfold fieldsB at h
  split at h
  · rename_i fs hu
    obtain ⟨f, hf, he⟩ := mapM_get h hy
    refine ⟨fs, f, hu, by simpa using hf, ?_⟩
    split at he
    · rename_i hs
      cases he
      exact ⟨rfl, hs⟩
    · rename_i hs
      cases hz : sizeB P f.type with
      | none => rw [hz] at he; cases he
      | some n =>
        rw [hz] at he
        cases he
        refine ⟨rfl, ?_, by first | exact hz | rfl⟩
        unfold scalarB at hs
        unfold isAggB
        split at hs
        · first | rfl | (rename_i hd; rw [hd])
        · first | rfl | (rename_i hd; rw [hd])
        · cases hs
        · cases hs
    · cases he
  · cases h

section
variable {c : Cx} {E : Slots} {H : List Chunk} {d : Option Nat} {ty : TypeId} {pos : String} {af : Array Edge} {g : Option (Nat × Bool)}

theorem OpQ.loadAgg {t : TypeId} {x : Operand} {p : Addr} {cs : List Value} (hs : isAggB c.P t = some true) (hz : sizeB c.P t = some cs.length) (hx : evE E x = some (.pointer (some p)))
    (hc : ∀ w, HOk c H w → ∀ j v, cs[j]? = some v → w.cell? (p.add j) = some v) : OpQ c ⟨d, .load t x, ty, pos, af, g⟩ E H (.agg cs.toArray) := fun b w hE hH => by
  have h1 := hE.eval hx
  have h2 := run_loadCells_list (P := c.P) w p cs (hc w hH)
  show Sem.run c.P (do let z ← Instr.loadAt t (b.eval x); pure (Next.value z)) w = _
  rw [h1]
  unfold Instr.loadAt Instr.sureAddr loadVar
  simp [run_isAgg_agg hs, run_sizeOf hz, h2]

/-- a field of a struct value, itself of one cell -/
theorem OpQ.field {t : TypeId} {x : Operand} {f off : Nat} {cs : Array Value} {v : Value} {l : List (Nat × Option Nat)} (hf : fieldsB c.P t = some l) (ho : l[f]? = some (off, none)) (hx : evE E x = some (.agg cs)) (hv : cs[off]? = some v) :
    OpQ c ⟨d, .field t x f, ty, pos, af, g⟩ E H v := fun b w hE _ => by
  have h1 := hE.eval hx
  obtain ⟨fs, fd, hu, hfd, hoff, hsc⟩ := fieldsB_get hf ho
  show Sem.run c.P (do let z ← Instr.field t (b.eval x) f; pure (Next.value z)) w = _
  rw [h1]
  unfold Instr.field
  simp only at hoff hsc
  simp [run_underlying hu, hfd, part, run_isAgg_scalar hsc, hoff, hv, asAgg]
def placesB (P : Program) (t : TypeId) : Option (Array Value × List (Nat × Nat)) :=
  match P.info? t, P.underlying t with
  | some it, some (.struct fields) =>
    match it.zero, fields.toList.mapM (fun f => (P.info? f.type).map fun i => (f.offset, i.size)) with
    | some z, some places => some (z.cells, places)
    | _, _ => none
  | _, _ => none
theorem built_of {P : Program} {t : TypeId} {z : Array Value} {places : List (Nat × Nat)} (h : placesB P t = some (z, places)) (parts : List (Nat × Value)) : P.built t parts = Instr.fill (places.toArray[·]?) z parts := by
  unfold placesB at h
  unfold Program.built
  split at h
  · rename_i it fields h1 h2
    rw [h1, h2]
    simp only
    split at h
    · rename_i z' pl h3 h4
      cases h
      rw [h3, h4]
    · cases h
  · cases h

def evParts (E : Slots) : List (Nat × Operand) → Option (List (Nat × Value))
  | [] => some []
  | (i, x) :: r => match evE E x, evParts E r with
    | some v, some vs => some ((i, v) :: vs)
    | _, _ => none
theorem Env.parts {n : Nat} {a : Act} (h : Env n E a) {xs : List (Nat × Operand)} {vs : List (Nat × Value)} (hx : evParts E xs = some vs) : xs.map (fun p => (p.1, a.eval p.2)) = vs := by
  induction xs generalizing vs with
  | nil => simp [evParts] at hx; subst hx; rfl
  | cons p r ih =>
    obtain ⟨i, x⟩ := p
    simp only [evParts] at hx
    split at hx
    · rename_i v vs' h1 h2
      cases hx
      simp [h.eval h1, ih h2]
    · cases hx

/-- a struct's literal -/
theorem OpQ.build {t : TypeId} {ps : List (Nat × Operand)} {vs : List (Nat × Value)} {z cells : Array Value} {places : List (Nat × Nat)} (hp : placesB c.P t = some (z, places)) (hx : evParts E ps = some vs) (hf : Instr.fill (places.toArray[·]?) z vs = some cells) :
    OpQ c ⟨d, .build t ps.toArray, ty, pos, af, g⟩ E H (.agg cells) := fun b w hE _ => by
  have h1 := hE.parts hx
  have h2 := run_build (P := c.P) w t vs.toArray cells (by rw [built_of hp]; exact hf)
  show Sem.run c.P (do let z ← Instr.build t (ps.toArray.map fun p => (p.1, b.eval p.2)); pure (Next.value z)) w = _
  rw [List.map_toArray, h1, Sem.run_bind, h2]
  rfl

/-- a byte of a string -/
theorem OpQ.indexS {t : TypeId} {x i : Operand} {s : ByteArray} {m : Int} {b : UInt8} (ht : c.P.underlying t = some .string) (hx : evE E x = some (.string s)) (hi : evE E i = some (.int .i64 m)) (h0 : 0 ≤ m) (hb : s[m.toNat]? = some b) :
    OpQ c ⟨d, .index t x i, ty, pos, af, g⟩ E H (.int .u8 (b.toNat : Int)) := fun a w hE _ => by
  have h1 := hE.eval hx
  have h2 := hE.eval hi
  show Sem.run c.P (do let z ← Instr.index t (a.eval x) (a.eval i); pure (Next.value z)) w = _
  rw [h1, h2]
  unfold Instr.index
  simp [asIntOf, run_underlying ht, h0, hb]
end

/-- cells of a list of structs of k cells each -/
theorem flat_len {α : Type} {f : α → List Value} {k : Nat} (hf : ∀ x, (f x).length = k) (xs : List α) : (xs.flatMap f).length = xs.length * k := by
  induction xs with
  | nil => simp
  | cons x r ih => rw [List.flatMap_cons, List.length_append, hf, ih, List.length_cons, Nat.succ_mul, Nat.add_comm]
theorem flat_get {α : Type} {f : α → List Value} {k : Nat} (hf : ∀ x, (f x).length = k) (xs : List α) (d : α) {j : Nat} (hj : j < xs.length) (r : Nat) (hr : r < k) : (xs.flatMap f)[j * k + r]? = (f (xs.getD j d))[r]? := by
  induction xs generalizing j with
  | nil => simp at hj
  | cons x t ih =>
    rw [List.flatMap_cons]
    cases j with
    | zero => rw [List.getElem?_append_left (by rw [hf]; omega)]; simp
    | succ j =>
      rw [List.getElem?_append_right (by rw [hf, Nat.succ_mul]; omega), hf, show (j + 1) * k + r - k = j * k + r by rw [Nat.succ_mul]; omega, ih (by simpa using hj)]
      simp
theorem flat_cells {α : Type} {f : α → List Value} {k : Nat} (hf : ∀ x, (f x).length = k) (xs : List α) (d : α) {j : Nat} (hj : j < xs.length) : ∀ i v, (f (xs.getD j d))[i]? = some v → (xs.flatMap f)[j * k + i]? = some v := by
  intro i v hv
  have := (List.getElem?_eq_some_iff.1 hv).1
  rw [flat_get hf xs d hj i (by rw [← hf (xs.getD j d)]; exact this)]
  exact hv
end Go.Eng

namespace Go.Eng
open Go

/-- a variable's place, said as a slice of one -/
abbrev vb (b : Nat) : Value := .slice (some ⟨b, 0, none⟩) 1 1

def fieldB (P : Program) (t : TypeId) (f : Nat) : Option Nat :=
  match P.underlying t with
  | some (.struct fs) => fs[f]?.bind fun fd => (sizeB P fd.type).bind fun n => if n = 0 then none else some fd.offset
  | _ => none

theorem HOk.perm {c : Cx} {H L : List Chunk} {w : World} (h : HOk c H w) (hp : H.Perm L) : HOk c L w :=
  ⟨h.ext, fun k hk => h.holds k (hp.mem_iff.2 hk), (hp.pairwise_iff (fun {_ _} hxy b hb hb' => hxy b hb' hb)).1 h.apart⟩

theorem owns_var {w : World} {base : Nat} {e : TypeId} {size b : Nat} {xs : List Value} (h : w.ownsRow base e size (vb b) 1 xs) :
    xs.length = size ∧ base ≤ b ∧ w.heap[b]? = some (.cells xs.toArray e (0, 0)) := by
  obtain ⟨h1, h2⟩ := h
  have h1 : xs.length = size := by simpa using h1
  rcases h2 with ⟨h2, _⟩ | ⟨g, cap, cur, hs, hb, hg, _, _, hsz, ht⟩
  · cases h2
  · cases hs
    have hsz : cur.size = size := by simpa using hsz
    have : cur = xs.toArray := by
      apply Array.ext'
      rw [← ht, Nat.one_mul, ← hsz, ← Array.length_toList, List.take_length]
    subst this
    exact ⟨h1, hb, hg⟩
theorem var_owns {w : World} {base : Nat} {e : TypeId} {size b : Nat} {xs : List Value} (hl : xs.length = size) (hb : base ≤ b) (h : w.heap[b]? = some (.cells xs.toArray e (0, 0))) : w.ownsRow base e size (vb b) 1 xs :=
  ⟨by simpa using hl, .inr ⟨b, 1, xs.toArray, rfl, hb, h, Nat.le_refl _, by unfold maxLen; omega, by simpa using hl, by simp [← hl]⟩⟩

section
variable {c : Cx} {E : Slots} {H : List Chunk} {d : Option Nat} {ty : TypeId} {pos : String} {af : Array Edge} {g : Option (Nat × Bool)}

theorem OpQ.fieldAddr {t : TypeId} {x : Operand} {f off : Nat} {p : Addr} (hf : fieldB c.P t f = some off) (hx : evE E x = some (.pointer (some p))) : OpQ c ⟨d, .fieldAddr t x f, ty, pos, af, g⟩ E H (.pointer (some (p.add off))) := fun b w hE _ => by
  have h1 := hE.eval hx
  unfold fieldB at hf
  split at hf
  · rename_i fs hu
    cases hfs : fs[f]? with
    | none => rw [hfs] at hf; cases hf
    | some fd =>
      rw [hfs] at hf
      simp only [Option.bind_some] at hf
      cases hz : sizeB c.P fd.type with
      | none => rw [hz] at hf; cases hf
      | some n =>
        rw [hz] at hf
        simp only [Option.bind_some] at hf
        split at hf
        · cases hf
        · rename_i hn
          cases hf
          show Sem.run c.P (do let z ← Instr.fieldAt t (b.eval x) f; pure (Next.value z)) w = _
          rw [h1]
          unfold Instr.fieldAt Instr.sureAddr fieldPlace
          simp [run_underlying hu, hfs, run_sizeOf hz, hn]
  · cases hf

/-- a new variable -/
theorem OpG.alloc {t : TypeId} {z : Value} {size bytes : Nat} {zs : List Value} (hi : (c.P.info? t).map (fun i => (i.zero, i.size, i.bytes)) = some (some z, size, bytes)) (hz : z.cells = zs.toArray) (hl : zs.length = size) :
    OpG c ⟨d, .alloc t, ty, pos, af, g⟩ E H (fun _ : Nat => True) (fun b => .pointer (some ⟨b, 0, none⟩)) (fun b => .row t size (vb b) 1 zs :: H) := fun b w _ hH K Q h => by
  obtain ⟨i, hi1, hi2, hi3, hi4⟩ := info_parts hi
  unfold Oper.wp
  have hrun : (execOp b.eval ⟨d, .alloc t, ty, pos, af, g⟩).run c.P w = .ok (.value (.pointer (some ⟨w.heap.size, 0, none⟩))) (w.alloc (.cells zs.toArray t)) := by
    show Sem.run c.P (do let z ← Instr.alloc t true (.tuple #[]); pure (Next.value z)) w = _
    simp [Instr.alloc, zeroValue, typeInfo, hi1, hi2, newVar, newRow, hz]
  rw [hrun]
  refine h w.heap.size _ trivial (hH.add (Ext.of_grown (World.grownBy_alloc w _ none) [] (fun k hk _ => by cases hk) (run_drawn _ hrun)) ?_ (fun b hb => ?_))
  · exact var_owns hl (Nat.zero_le _) (heap_alloc_new w _)
  · simp [Chunk.own, Value.ownBlock] at hb
    omega
theorem OpG.box {t : TypeId} {x : Operand} {v : Value} {size : Nat} {vs : List Value} (hx : evE E x = some v) (hz : v.cells = vs.toArray) (hl : vs.length = size) :
    OpG c ⟨d, .box t x, ty, pos, af, g⟩ E H (fun _ : Nat => True) (fun b => .pointer (some ⟨b, 0, none⟩)) (fun b => .row t size (vb b) 1 vs :: H) := fun b w hE hH K Q h => by
  have h1 := hE.eval hx
  unfold Oper.wp
  have hrun : (execOp b.eval ⟨d, .box t x, ty, pos, af, g⟩).run c.P w = .ok (.value (.pointer (some ⟨w.heap.size, 0, none⟩))) (w.alloc (.cells vs.toArray t)) := by
    show Sem.run c.P (do let z ← Instr.box t (b.eval x); pure (Next.value z)) w = _
    rw [h1]
    simp [Instr.box, newVar, newRow, hz]
  rw [hrun]
  refine h w.heap.size _ trivial (hH.add (Ext.of_grown (World.grownBy_alloc w _ none) [] (fun k hk _ => by cases hk) (run_drawn _ hrun)) ?_ (fun b hb => ?_))
  · exact var_owns hl (Nat.zero_le _) (heap_alloc_new w _)
  · simp [Chunk.own, Value.ownBlock] at hb
    omega

/-- a variable read whole -/
theorem OpQ.loadV {t e : TypeId} {x : Operand} {size b n : Nat} {xs : List Value} (hs : isAggB c.P t = some true) (hz : sizeB c.P t = some n) (hx : evE E x = some (.pointer (some ⟨b, 0, none⟩)))
    (hh : Has H (.row e size (vb b) 1 xs)) (hl : xs.length = n) : OpQ c ⟨d, .load t x, ty, pos, af, g⟩ E H (.agg xs.toArray) :=
  OpQ.loadAgg hs (by rw [hl]; exact hz) hx fun _ hH j v hj => ((hH.rd hh) j v hj).2
theorem OpQ.loadV1 {t e : TypeId} {x : Operand} {b : Nat} {v : Value} (hs : scalarB c.P t = some true) (hx : evE E x = some (.pointer (some ⟨b, 0, none⟩)))
    (hh : Has H (.row e 1 (vb b) 1 [v])) : OpQ c ⟨d, .load t x, ty, pos, af, g⟩ E H v :=
  OpQ.load hs hx fun _ hH => by have := ((hH.rd hh) 0 v rfl).2; simpa [ad, Addr.add] using this
/-- a field of it -/
theorem OpQ.loadF {t e : TypeId} {x : Operand} {size b j : Nat} {xs : List Value} {v : Value} (hs : scalarB c.P t = some true) (hx : evE E x = some (.pointer (some ((⟨b, 0, none⟩ : Addr).add j))))
    (hh : Has H (.row e size (vb b) 1 xs)) (hv : xs[j]? = some v) : OpQ c ⟨d, .load t x, ty, pos, af, g⟩ E H v :=
  OpQ.load hs hx fun _ hH => ((hH.rd hh) j v hv).2

theorem setRow_grown (w : World) (b : Nat) (cs : Array Value) : w.grownBy (w.setRow b cs) (some b) :=
  ⟨rfl, rfl, rfl, by simp [World.setRow], fun k _ hk => by
    have : ¬ b = k := fun e => hk (by rw [e])
    simp [World.setRow, Array.getElem?_modify, this]⟩

theorem OpG.storeV {t e : TypeId} {x y : Operand} {size b : Nat} {xs cs : List Value} {H' : List Chunk} (hz : sizeB c.P t = some size) (hx : evE E x = some (.pointer (some ⟨b, 0, none⟩))) (hy : evE E y = some (.agg cs.toArray))
    (hl : cs.length = size) (ho : cs.all (·.oneCell') = true) (hu : Upd H (.row e size (vb b) 1 xs) (.row e size (vb b) 1 cs) H') :
    OpG c ⟨d, .store t x y, ty, pos, af, g⟩ E H (fun _ : Unit => True) (fun _ => undef) (fun _ => H') := fun a w hE hH K Q h => by
  have h1 := hE.eval hx
  have h2 := hE.eval hy
  obtain ⟨i, hi, _⟩ := hu.index
  have hown := (hH.holds _ (List.mem_of_getElem? hi)).1
  obtain ⟨hxl, _, hg⟩ := owns_var hown
  have hst := run_storeVar_row (P := c.P) w b e t xs.toArray cs.toArray hg (by unfold sizeB at hz; rw [hz]; simp [hl]) (by simp [hxl, hl]) (by simpa using ho)
  unfold Oper.wp
  have hrun : (execOp a.eval ⟨d, .store t x y, ty, pos, af, g⟩).run c.P w = .ok .skip (w.setRow b cs.toArray) := by
    show Sem.run c.P (do Instr.storeAt t (a.eval x) (a.eval y); pure Next.skip) w = _
    rw [h1, h2]
    unfold Instr.storeAt Instr.sureAddr
    simp only [Sem.run_bind, Sem.run_pure, Result.andThen_ok, pure_bind, hst]
  rw [hrun]
  exact h () _ trivial (hH.upd hu (fun b hb => .inl hb) (var_owns hl (Nat.zero_le _) (setRow_heap w b xs.toArray _ e _ hg)) (setRow_grown w b _) (fun _ h => h) (run_drawn _ hrun))
theorem OpG.storeV1 {t e : TypeId} {x y : Operand} {b : Nat} {u v : Value} {H' : List Chunk} (hz : sizeB c.P t = some 1) (hx : evE E x = some (.pointer (some ⟨b, 0, none⟩))) (hy : evE E y = some v)
    (ho : v.oneCell' = true) (hu : Upd H (.row e 1 (vb b) 1 [u]) (.row e 1 (vb b) 1 [v]) H') :
    OpG c ⟨d, .store t x y, ty, pos, af, g⟩ E H (fun _ : Unit => True) (fun _ => undef) (fun _ => H') := fun a w hE hH K Q h => by
  have h1 := hE.eval hx
  have h2 := hE.eval hy
  obtain ⟨i, hi, _⟩ := hu.index
  have hown := (hH.holds _ (List.mem_of_getElem? hi)).1
  obtain ⟨hxl, _, hg⟩ := owns_var hown
  have hst := run_storeVar_one (P := c.P) w b e t u v hg (by unfold sizeB at hz; exact hz) ho
  unfold Oper.wp
  have hrun : (execOp a.eval ⟨d, .store t x y, ty, pos, af, g⟩).run c.P w = .ok .skip (w.setRow b #[v]) := by
    show Sem.run c.P (do Instr.storeAt t (a.eval x) (a.eval y); pure Next.skip) w = _
    rw [h1, h2]
    unfold Instr.storeAt Instr.sureAddr
    simp only [Sem.run_bind, Sem.run_pure, Result.andThen_ok, pure_bind, hst]
  rw [hrun]
  exact h () _ trivial (hH.upd hu (fun b hb => .inl hb) (var_owns rfl (Nat.zero_le _) (setRow_heap w b #[u] _ e _ hg)) (setRow_grown w b _) (fun _ h => h) (run_drawn _ hrun))

theorem splice_take {l cs : List Value} {j m : Nat} (h : j + cs.length ≤ m) (hm : m ≤ l.length) : (l.take j ++ cs ++ l.drop (j + cs.length)).take m = (l.take m).take j ++ cs ++ (l.take m).drop (j + cs.length) := by
  have e : (l.take j ++ cs).length = j + cs.length := by rw [List.length_append, List.length_take, Nat.min_eq_left (by omega)]
  rw [List.take_append, e, List.take_of_length_le (by omega), List.take_take, Nat.min_eq_left (by omega), List.drop_take]
/-- a struct stored into a row of the call's own -/
theorem OpG.storeAggRow {t : TypeId} {x y : Operand} {e : TypeId} {size n cp len : Nat} {a : Option Addr} {xs cs : List Value} {j : Nat} {H' : List Chunk} (hz : sizeB c.P t = some cs.length)
    (hx : evE E x = some (.pointer (some ((ad a).add j)))) (hy : evE E y = some (.agg cs.toArray)) (ho : cs.all (·.oneCell') = true) (hj : j + cs.length ≤ xs.length) (h0 : 0 < cs.length)
    (hu : Upd H (.row e size (.slice a n cp) len xs) (.row e size (.slice a n cp) len (xs.take j ++ cs ++ xs.drop (j + cs.length))) H') :
    OpG c ⟨d, .store t x y, ty, pos, af, g⟩ E H (fun _ : Unit => True) (fun _ => undef) (fun _ => H') := fun b w hE hH K Q h => by
  have h1 := hE.eval hx
  have h2 := hE.eval hy
  obtain ⟨i, hi, _⟩ := hu.index
  have hown := (hH.holds _ (List.mem_of_getElem? hi)).1
  rcases hown.2 with ⟨hs, hn⟩ | ⟨gb, cap, cur, hs, hbg, hgg, hle, hcm, hsz, htake⟩
  · subst hn
    have := hown.1
    simp at this
    subst this
    simp only [List.length_nil] at hj
    omega
  · cases hs
    have hlen := hown.1
    have hxc : xs.length ≤ cur.size := by rw [← htake, List.length_take, Array.length_toList]; exact Nat.min_le_right _ _
    have had : (ad (some ⟨gb, 0, none⟩)).add j = ⟨gb, j, none⟩ := by show (⟨gb, 0, none⟩ : Addr).add j = _; rw [add_mk]; simp
    rw [had] at h1
    have hst := run_storeCells_at (P := c.P) gb j e cs 0 cur w hgg (by omega) (fun v hv => (List.all_eq_true.1 ho) v hv)
    have hsv : (storeVar t ⟨gb, j, none⟩ (.agg cs.toArray)).run c.P w = .ok () (w.setRow gb (cur.toList.take j ++ cs ++ cur.toList.drop (j + cs.length)).toArray) := by
      unfold storeVar
      simp only [Sem.run_bind, run_sizeOf hz, Result.andThen_ok, Value.cells]
      simpa using hst
    have hrun : (execOp b.eval ⟨d, .store t x y, ty, pos, af, g⟩).run c.P w = .ok .skip (w.setRow gb (cur.toList.take j ++ cs ++ cur.toList.drop (j + cs.length)).toArray) := by
      show Sem.run c.P (do Instr.storeAt t (b.eval x) (b.eval y); pure Next.skip) w = _
      rw [h1, h2]
      unfold Instr.storeAt Instr.sureAddr
      simp only [Sem.run_bind, Sem.run_pure, Result.andThen_ok, pure_bind, hsv]
    unfold Oper.wp
    rw [hrun]
    refine h () _ trivial (hH.upd hu (fun b hb => .inl hb) ?_ (setRow_grown w gb _) (fun _ h => h) (run_drawn _ hrun))
    refine ⟨?_, .inr ⟨gb, cp, _, rfl, Nat.zero_le _, setRow_heap w gb cur _ e _ hgg, hle, hcm, ?_, ?_⟩⟩
    · simp only [List.length_append, List.length_take, List.length_drop]; omega
    · simp only [List.size_toArray, List.length_append, List.length_take, List.length_drop, Array.length_toList]; omega
    · have hlx := hown.1
      rw [← hlx, List.toList_toArray, splice_take (by omega) (by rw [Array.length_toList]; exact hxc), hlx, htake]

/-- a literal of a slice, its elements of any size -/
theorem OpG.litS {t e : TypeId} {z : Value} {size bytes n : Nat} {ps : List (Nat × Operand)} {pv : List (Nat × Value)} {vs : List Value} (ht : c.P.underlying t = some (.slice e)) (hi : (c.P.info? e).map (fun i => (i.zero, i.size, i.bytes)) = some (some z, size, bytes))
    (hx : evParts E ps = some pv) (hn : n * size ≤ 16777216 ∧ 0 < n * size) (hfill : Instr.fill (fun i => some (i * size, size)) ((Array.range (n * size)).map (z.cells[· % z.cells.size]!)) pv = some vs.toArray) (hl : vs.length = n * size) :
    OpG c ⟨d, .buildSlice t n ps.toArray, ty, pos, af, g⟩ E H (fun _ : Nat => True) (fun b => .slice (some ⟨b, 0, none⟩) n n) (fun b => .row e size (.slice (some ⟨b, 0, none⟩) n n) n vs :: H) := fun b w hE hH K Q h => by
  obtain ⟨i, hi1, hi2, hi3, hi4⟩ := info_parts hi
  have h1 := hE.parts hx
  have h2 := run_buildSlice (P := c.P) w t e n pv.toArray vs.toArray i z ht hi1 hi2 (by rw [hi3]; omega) (by rw [hi3]; omega) (by rw [hi3]; exact hfill)
  have hrun : (execOp b.eval ⟨d, .buildSlice t n ps.toArray, ty, pos, af, g⟩).run c.P w = .ok (.value (.slice (some ⟨w.heap.size, 0, none⟩) n n)) (w.alloc (.cells vs.toArray e)) := by
    show Sem.run c.P (do let z ← Instr.buildSlice t n (ps.toArray.map fun p => (p.1, b.eval p.2)); pure (Next.value z)) w = _
    rw [List.map_toArray, h1, Sem.run_bind, h2]
    rfl
  unfold Oper.wp
  rw [hrun]
  have hnl : n ≤ n * size := Nat.le_mul_of_pos_right n (Nat.pos_of_ne_zero (fun h0 => by rw [h0] at hn; omega))
  refine h w.heap.size _ trivial (hH.add (Ext.of_grown (World.grownBy_alloc w _ none) [] (fun k hk _ => by cases hk) (run_drawn _ hrun)) ?_ (fun b hb => ?_))
  · exact ⟨hl, .inr ⟨w.heap.size, n, vs.toArray, rfl, Nat.zero_le _, heap_alloc_new w _, Nat.le_refl _, by unfold maxLen; omega, by simp [hl], by simp [← hl]⟩⟩
  · simp [Chunk.own, Value.ownBlock] at hb
    omega

/-- x[lo:hi] of a slice -/
theorem OpQ.sliceTo {t e : TypeId} {x y : Operand} {a : Option Addr} {n cp size : Nat} {m : Int} (ht : c.P.underlying t = some (.slice e)) (hz : sizeB c.P e = some size) (hx : evE E x = some (.slice a n cp)) (hy : evE E y = some (.int .i64 m))
    (hm : 0 ≤ m ∧ m ≤ cp) : OpQ c ⟨d, .slice t x none (some y) none, ty, pos, af, g⟩ E H (.slice a m.toNat cp) := fun b w hE _ => by
  have h1 := hE.eval hx
  have h2 := hE.eval hy
  show Sem.run c.P (do let z ← Instr.sliceAt t (b.eval x) none (some (b.eval y)) none; pure (Next.value z)) w = _
  rw [h1, h2]
  have ha : a.map (·.add 0) = a := by cases a <;> simp [Addr.add]
  unfold Instr.sliceAt Instr.slice Instr.sliceBounds
  simp only [Sem.run_bind, run_underlying ht, Result.andThen_ok, Sem.run_pure, run_sliceBound _ .i64 m cp _ hm.1 hm.2, run_sizeOf hz, Nat.zero_mul, ha, Nat.sub_zero, ite_self, if_true]
theorem OpQ.sliceFrom {t e : TypeId} {x y : Operand} {a : Option Addr} {n cp size : Nat} {m : Int} (ht : c.P.underlying t = some (.slice e)) (hz : sizeB c.P e = some size) (hx : evE E x = some (.slice a n cp)) (hy : evE E y = some (.int .i64 m))
    (hm : 0 ≤ m ∧ m ≤ n) : OpQ c ⟨d, .slice t x (some y) none none, ty, pos, af, g⟩ E H (.slice (if cp = m.toNat then a else a.map (·.add (m.toNat * size))) (n - m.toNat) (cp - m.toNat)) := fun b w hE _ => by
  have h1 := hE.eval hx
  have h2 := hE.eval hy
  show Sem.run c.P (do let z ← Instr.sliceAt t (b.eval x) (some (b.eval y)) none none; pure (Next.value z)) w = _
  rw [h1, h2]
  unfold Instr.sliceAt Instr.slice Instr.sliceBounds
  simp only [Sem.run_bind, run_underlying ht, Result.andThen_ok, Sem.run_pure, run_sliceBound _ .i64 m n _ hm.1 hm.2, run_sizeOf hz]

/-! the ends of a function -/
theorem PX.end0 {fn : Func} {R : Ending → World → Prop} (hr : fn.results = #[]) (h : ∀ w, HOk c H w → R (.returned (.tuple #[])) w) : PX c (bodyPost c.P fn R) .normal E H := fun _ w hE hH =>
  bodyPost_end (results_none hr _ _ _) hE.defers (h w hH)
theorem run_cell {e T : TypeId} {t size b : Nat} {xs : List Value} {a : Act} {w : World} {fn : Func} (hr : fn.results = #[.cell t T]) (hE : Env c.n E a) (hH : HOk c H w) (hv : look E t = some (.pointer (some ⟨b, 0, none⟩))) (hh : Has H (.row e size (vb b) 1 xs))
    (hs : isAggB c.P T = some true) (hz : sizeB c.P T = some xs.length) : (results fn a.tmps).run c.P w = .ok (.agg xs.toArray) w := by
  have h2 := run_loadCells_list (P := c.P) w ⟨b, 0, none⟩ xs (fun j v hj => ((hH.rd hh) j v hj).2)
  have h3 : (loadVar T ⟨b, 0, none⟩).run c.P w = .ok (.agg xs.toArray) w := by
    unfold loadVar
    simp [run_isAgg_agg hs, run_sizeOf hz, h2]
  have h4 := hE.get t _ hv
  rw [Array.getD_eq_getD_getElem?] at h4
  unfold results
  simp only [hr]
  simp [h4, asAddr, h3]
theorem PX.retC {fn : Func} {R : Ending → World → Prop} {e T : TypeId} {t size b n : Nat} {xs : List Value} (hr : fn.results = #[.cell t T]) (hv : look E t = some (.pointer (some ⟨b, 0, none⟩))) (hh : Has H (.row e size (vb b) 1 xs))
    (hs : isAggB c.P T = some true) (hz : sizeB c.P T = some n) (hl : xs.length = n) (h : ∀ w, HOk c H w → R (.returned (.agg xs.toArray)) w) : PX c (bodyPost c.P fn R) .ret E H := fun _ w hE hH =>
  bodyPost_ret (run_cell hr hE hH hv hh hs (by rw [hl]; exact hz)) hE.defers (h w hH)
/-! calls that write a row of the caller's -/
end

end Go.Eng

namespace Go.Eng
open Go

/-- a string of these bytes -/
abbrev sv (l : List UInt8) : Value := .string ⟨l.toArray⟩
/-- a byte -/
abbrev bv (b : UInt8) : Value := .int .u8 (b.toNat : Int)

theorem conv_i64_u8 {P : Program} {s t : TypeId} (hs : P.underlying s = some (.int .i64)) (ht : P.underlying t = some (.int .u8)) (n : Int) (h : 0 ≤ n ∧ n < 256) (w : World) :
    (convert s t (.int .i64 n)).run P w = .ok (.int .u8 n) w := by
  have : IntKind.u8.wrap n = n := by
    simp only [IntKind.wrap, IntKind.bits, IntKind.signed, Bool.false_and, Bool.false_eq_true, if_false]; omega
  simp [convert, run_underlying hs, run_underlying ht, Conv.intToInt, this]

section
variable {c : Cx} {E : Slots} {H : List Chunk} {d : Option Nat} {ty : TypeId} {pos : String} {af : Array Edge} {g : Option (Nat × Bool)}

theorem OpQ.nilCheckP {x : Operand} {p : Addr} (hx : evE E x = some (.pointer (some p))) : OpQ c ⟨d, .nilCheck x, ty, pos, af, g⟩ E H (.pointer (some p)) := fun a w hE _ => by
  have h1 := hE.eval hx
  simp [execOp, h1]

theorem OpQ.lenSv {t : TypeId} {x : Operand} {l : List UInt8} (ht : c.P.underlying t = some .string) (hx : evE E x = some (sv l)) :
    OpQ c ⟨d, .call ⟨.builtin .len, #[x], #[t]⟩, ty, pos, af, g⟩ E H (.int .i64 (l.length : Int)) := OpQ.lenS ht hx
theorem OpQ.indexSv {t : TypeId} {x i : Operand} {l : List UInt8} {m : Int} (ht : c.P.underlying t = some .string) (hx : evE E x = some (sv l)) (hi : evE E i = some (.int .i64 m)) (hm : 0 ≤ m ∧ m < l.length) :
    OpQ c ⟨d, .index t x i, ty, pos, af, g⟩ E H (bv (l.getD m.toNat 0)) := by
  refine OpQ.indexS ht hx hi hm.1 ?_
  have hk : m.toNat < l.length := by omega
  show (⟨l.toArray⟩ : ByteArray)[m.toNat]? = _
  rw [getElem?_pos (⟨l.toArray⟩ : ByteArray) m.toNat hk]
  congr 1
  simp [List.getD, hk, ByteArray.getElem_eq_getElem_data]

theorem OpQ.indexSvN {t : TypeId} {x i : Operand} {l : List UInt8} {k : Nat} (ht : c.P.underlying t = some .string) (hx : evE E x = some (sv l)) (hi : evE E i = some (.int .i64 (k : Int))) (hm : k < l.length) :
    OpQ c ⟨d, .index t x i, ty, pos, af, g⟩ E H (bv (l.getD k 0)) := by
  have := OpQ.indexSv (c := c) (H := H) (d := d) (ty := ty) (pos := pos) (af := af) (g := g) ht hx hi ⟨Int.natCast_nonneg k, by omega⟩
  simpa using this

theorem wrap_u8 {m : Int} (h : 0 ≤ m ∧ m < 256) : IntKind.u8.wrap m = m := by
  simp only [IntKind.wrap, IntKind.bits, IntKind.signed, Bool.false_and, Bool.false_eq_true, if_false]; omega
theorem OpQ.sub8 {t t' : TypeId} {x y : Operand} {m n : Int} (hx : evE E x = some (.int .u8 m)) (hy : evE E y = some (.int .u8 n)) (hb : 0 ≤ m - n ∧ m - n < 256) :
    OpQ c ⟨d, .binOp .sub t x y t', ty, pos, af, g⟩ E H (.int .u8 (m - n)) :=
  OpQ.bin hx hy fun w => by show Result.ok (Value.int .u8 (IntKind.u8.wrap (m - n))) w = _; rw [wrap_u8 hb]
theorem OpQ.quo {t t' : TypeId} {x y : Operand} {m n : Int} (hx : evE E x = some (.int .i64 m)) (hy : evE E y = some (.int .i64 n)) (hn : n ≠ 0 ∧ -9223372036854775808 ≤ m.tdiv n ∧ m.tdiv n ≤ 9223372036854775807) :
    OpQ c ⟨d, .binOp .quo t x y t', ty, pos, af, g⟩ E H (.int .i64 (m.tdiv n)) :=
  OpQ.bin hx hy fun w => by
    show (Op.intDiv .quo .i64 m n).run c.P w = _
    simp [Op.intDiv, hn.1, wrap_i64 hn.2]

/-- loads out of whatever reads as vals -/
theorem OpQ.loadG {t : TypeId} {x : Operand} {a : Option Addr} {vals : List Value} {j : Nat} {v : Value} (hs : scalarB c.P t = some true) (hx : evE E x = some (.pointer (some ((ad a).add j))))
    (hr : ∀ w, HOk c H w → Rd w a vals) (hv : vals[j]? = some v) : OpQ c ⟨d, .load t x, ty, pos, af, g⟩ E H v :=
  OpQ.load hs hx fun w hH => ((hr w hH) j v hv).2
theorem OpQ.loadAggG {t : TypeId} {x : Operand} {a : Option Addr} {vals cs : List Value} {j : Nat} (hs : isAggB c.P t = some true) (hz : sizeB c.P t = some cs.length) (hx : evE E x = some (.pointer (some ((ad a).add j))))
    (hr : ∀ w, HOk c H w → Rd w a vals) (hv : ∀ i v, cs[i]? = some v → vals[j + i]? = some v) : OpQ c ⟨d, .load t x, ty, pos, af, g⟩ E H (.agg cs.toArray) :=
  OpQ.loadAgg hs hz hx fun w hH i v hi => by rw [add_add]; exact ((hr w hH) (j + i) v (hv i v hi)).2

/-- a call that hands back a new variable's place -/
def NewV (e : TypeId) (size : Nat) (w w' : World) (r : Ending) (xs : List Value) : Prop := ∃ b, r = .returned (.pointer (some ⟨b, 0, none⟩)) ∧ Ext [] w w' ∧ w'.ownsRow w.heap.size e size (vb b) 1 xs
theorem HOk.newVar {P : Program} {n0 : Nat} {w0 : World} {H : List Chunk} {w : World} (h : HOk ⟨P, n0, [], w0⟩ H w) {e : TypeId} {size b : Nat} {xs : List Value} (hh : Has H (.row e size (vb b) 1 xs)) :
    NewV e size w0 w (.returned (.pointer (some ⟨b, 0, none⟩))) xs := ⟨b, rfl, h.ext, h.new rfl hh⟩
/-- []T{x}, x a struct -/
theorem OpG.litS1 {t e : TypeId} {z : Value} {size bytes : Nat} {x : Operand} {cs : List Value} (ht : c.P.underlying t = some (.slice e)) (hi : (c.P.info? e).map (fun i => (i.zero, i.size, i.bytes)) = some (some z, size, bytes))
    (hx : evE E x = some (.agg cs.toArray)) (hn : size ≤ 16777216 ∧ 0 < size) (hl : cs.length = size) :
    OpG c ⟨d, .buildSlice t 1 #[(0, x)], ty, pos, af, g⟩ E H (fun _ : Nat => True) (fun b => .slice (some ⟨b, 0, none⟩) 1 1) (fun b => .row e size (vb b) 1 cs :: H) := by
  refine OpG.litS (ps := [(0, x)]) (pv := [(0, .agg cs.toArray)]) ht hi (by simp [evParts, hx]) (by omega) ?_ (by omega)
  have key : ∀ (n k : Nat) (l : List Value) (cur : Array Value), l.length + k = n → cur.size = n → (l.zipIdx k).foldl (fun (cs : Array Value) (p : Value × Nat) => cs.setIfInBounds (0 + p.2) p.1) cur = (cur.toList.take k ++ l).toArray := by
    intro n k l
    induction l generalizing k with
    | nil =>
      intro cur h1 h2
      simp at h1
      subst h1
      subst h2
      rw [← Array.length_toList, List.take_length, List.append_nil, Array.toArray_toList]
      rfl
    | cons v r ih =>
      intro cur h1 h2
      simp only [List.length_cons] at h1
      rw [List.zipIdx_cons, List.foldl_cons, ih (k + 1) _ (by omega) (by simpa using h2)]
      congr 1
      have hk : k < cur.toList.length := by simp; omega
      simp only [Nat.zero_add, Array.toList_setIfInBounds]
      rw [List.take_succ_eq_append_getElem (by simpa using hk), List.take_set_of_le (Nat.le_refl k)]
      simp
  have hsz : ((Array.range (1 * size)).map (z.cells[· % z.cells.size]!)).size = size := by simp
  generalize (Array.range (1 * size)).map (z.cells[· % z.cells.size]!) = cur at hsz ⊢
  have := key size 0 cs cur (by omega) hsz
  simp only [List.take_zero, List.nil_append] at this
  unfold Instr.fill
  have hcond : ¬ ((decide ((Value.agg cs.toArray).cells.size ≠ size) || decide (0 * size + (Value.agg cs.toArray).cells.size > cur.size)) = true) := by simp [Value.cells, hl, hsz]
  have hun : (if (decide ((Value.agg cs.toArray).cells.size ≠ size) || decide (0 * size + (Value.agg cs.toArray).cells.size > cur.size)) = true then none
    else some (Array.foldl (fun (cs : Array Value) (x : Value × Nat) => cs.setIfInBounds (0 + x.snd) x.fst) cur cs.toArray.zipIdx)) = some cs.toArray := by
    rw [if_neg hcond, ← Array.foldl_toList, Array.toList_zipIdx]
    exact congrArg some this
  simp only [Nat.zero_mul, Instr.fill] at hun ⊢
  exact hun
end

section
variable {c : Cx} {ops : Array Oper} {Q : Exit → Act → World → Prop} {n fuel : Nat} {Hc : List Chunk} {listed : Array Bool} {E : Slots} {H : List Chunk} {o o' : Oper}

def twoB (ops : Array Oper) (listed : Array Bool) (i j : Nat) : Bool := Region.ready .any ops listed == [i, j]
/-- Two that may come up, in the front: whichever comes. -/
theorem RA.two (i j : Nat) {ι κ : Type} {Φ : ι → Prop} {V : ι → Value} {H' : ι → List Chunk} {Ψ : κ → Prop} {U : κ → Value} {L' : κ → List Chunk} (hb : (twoB ops listed i j && decide (i < n) && decide (j < n)) = true)
    (hi : ops[i]? = some o) (hg : guardB ops E o = some true) (hd : dstOk c.n o.dst = true) (hq : OpG c o E H Φ V H') (hs : ∀ k, Φ k → Hc.Sublist (H' k))
    (hi' : ops[j]? = some o') (hg' : guardB ops E o' = some true) (hd' : dstOk c.n o'.dst = true) (hq' : OpG c o' E H Ψ U L') (hs' : ∀ k, Ψ k → Hc.Sublist (L' k))
    (h : ∀ k, Φ k → RA c ops Q n Hc fuel (listed.setIfInBounds i true) (Eng.putE o.dst (V k) E) (H' k))
    (h' : ∀ k, Ψ k → RA c ops Q n Hc fuel (listed.setIfInBounds j true) (Eng.putE o'.dst (U k) E) (L' k)) : RA c ops Q n Hc (fuel + 1) listed E H := by
  intro inv a w hE hH
  simp only [Bool.and_eq_true, decide_eq_true_eq] at hb
  have hr : Region.ready .any ops listed = [i, j] := by have := hb.1.1; unfold twoB at this; simpa using this
  refine ⟨fun h0 => (by rw [hr] at h0; cases h0), fun k hk => ?_⟩
  have hmem := hk
  rw [hr] at hk
  rcases List.mem_cons.1 hk with rfl | hk
  · exact wpOp_G hi hg hq hE hH fun m w' hm hw' => ⟨fun _ => hw'.sublist (hs m hm), h m hm (inv.set hmem hb.1.2) _ _ (hE.putE hd _) hw'⟩
  · obtain rfl := List.mem_singleton.1 hk
    exact wpOp_G hi' hg' hq' hE hH fun m w' hm hw' => ⟨fun _ => hw'.sublist (hs' m hm), h' m hm (inv.set hmem hb.2) _ _ (hE.putE hd' _) hw'⟩

theorem RT.perm {L : List Chunk} (hp : H.Perm L) (h : RT c ops Q n Hc fuel listed E L) : RT c ops Q n Hc fuel listed E H := fun a w hE hH => h a w hE (hH.perm hp)
end
end Go.Eng

namespace Go.Eng
open Go

/-- two chunks of a memory -/
inductive Two : List Chunk → Chunk → Chunk → Prop where
  | fst {k l : Chunk} {H : List Chunk} : Has H l → Two (k :: H) k l
  | snd {k l : Chunk} {H : List Chunk} : Has H l → Two (k :: H) l k
  | there {k l m : Chunk} {H : List Chunk} : Two H k l → Two (m :: H) k l
theorem OpQ.sliceToN {c : Cx} {E : Slots} {H : List Chunk} {d : Option Nat} {ty : TypeId} {pos : String} {af : Array Edge} {g : Option (Nat × Bool)} {t e : TypeId} {x y : Operand} {a : Option Addr} {n cp size : Nat} {m : Int} {k : Nat} (ht : c.P.underlying t = some (.slice e)) (hz : sizeB c.P e = some size)
    (hx : evE E x = some (.slice a n cp)) (hy : evE E y = some (.int .i64 m)) (hk : m = (k : Int)) (hm : k ≤ cp) : OpQ c ⟨d, .slice t x none (some y) none, ty, pos, af, g⟩ E H (.slice a k cp) := by
  subst hk
  have := OpQ.sliceTo (c := c) (H := H) (d := d) (ty := ty) (pos := pos) (af := af) (g := g) ht hz hx hy ⟨Int.natCast_nonneg k, by omega⟩
  simpa using this
theorem owns_cap {w : World} {base : Nat} {e : TypeId} {size n cp len : Nat} {a : Option Addr} {xs : List Value} (h : w.ownsRow base e size (.slice a n cp) len xs) : n ≤ cp := by
  rcases h.2 with ⟨hs, _⟩ | ⟨g, cap, cur, hs, _, _, hle, _⟩
  · cases hs; exact Nat.le_refl _
  · cases hs; exact hle
end Go.Eng

namespace Go.Eng
open Go

/-! ### contracts of calls that take chunks and hand back chunks -/
def Chunk.blocks : Chunk → List Nat
  | .row _ _ v _ _ => v.ownBlock.toList
  | .blk c _ => [c]
  | .frag bs _ => bs
theorem Chunk.own_iff {k : Chunk} {b : Nat} : k.own b ↔ b ∈ k.blocks := by
  cases k with
  | row e s v n xs => simp [Chunk.own, Chunk.blocks]
  | blk c o => simp [Chunk.own, Chunk.blocks, eq_comm]
  | frag bs p => simp [Chunk.own, Chunk.blocks]
abbrev blks (L : List Chunk) : List Nat := L.flatMap Chunk.blocks
theorem mem_blks {L : List Chunk} {b : Nat} : b ∈ blks L ↔ ∃ k ∈ L, k.own b := by
  simp only [blks, List.mem_flatMap]
  exact ⟨fun ⟨k, h1, h2⟩ => ⟨k, h1, Chunk.own_iff.2 h2⟩, fun ⟨k, h1, h2⟩ => ⟨k, h1, Chunk.own_iff.1 h2⟩⟩

/-- what a call leaves: outside X all as before; H stands, in X's blocks and new ones -/
structure Post (X : List Nat) (H : List Chunk) (w w' : World) : Prop where
  ext : Ext X w w'
  holds : ∀ k ∈ H, k.holds w' ∧ ∀ b, k.own b → w.heap.size ≤ b ∨ b ∈ X
  apart : H.Pairwise Apart
structure Pre (L : List Chunk) (w : World) : Prop where
  holds : ∀ k ∈ L, k.holds w
  apart : L.Pairwise Apart

theorem HOk.post {P : Program} {n : Nat} {X : List Nat} {w0 w : World} {H : List Chunk} (h : HOk ⟨P, n, X, w0⟩ H w) : Post X H w0 w := ⟨h.ext, h.holds, h.apart⟩
theorem Post.sub {X : List Nat} {w w' : World} {H L : List Chunk} (h : Post X H w w') (hs : HSub L H) : Post X L w w' :=
  ⟨h.ext, fun k hk => h.holds k (hs.sub.subset hk), h.apart.sublist hs.sub⟩
inductive Pick : List Chunk → Chunk → List Chunk → Prop where
  | here {k : Chunk} {H : List Chunk} : Pick (k :: H) k H
  | there {k l : Chunk} {H F : List Chunk} : Pick H k F → Pick (l :: H) k (l :: F)
theorem Pick.perm {H F : List Chunk} {k : Chunk} (h : Pick H k F) : H.Perm (k :: F) := by
  induction h with
  | here => exact .refl _
  | there _ ih => exact (ih.cons _).trans (.swap _ _ _)
/-- L taken out of H leaves F -/
inductive Take : List Chunk → List Chunk → List Chunk → Prop where
  | nil {H : List Chunk} : Take H [] H
  | cons {k : Chunk} {H G L F : List Chunk} : Pick H k G → Take G L F → Take H (k :: L) F
theorem Take.perm {H L F : List Chunk} (h : Take H L F) : H.Perm (L ++ F) := by
  induction h with
  | nil => exact .refl _
  | cons hp _ ih => exact hp.perm.trans (ih.cons _)
inductive App : List Chunk → List Chunk → List Chunk → Prop where
  | nil {F : List Chunk} : App [] F F
  | cons {k : Chunk} {L F G : List Chunk} : App L F G → App (k :: L) F (k :: G)
theorem App.eq {L F G : List Chunk} (h : App L F G) : G = L ++ F := by
  induction h with
  | nil => rfl
  | cons _ ih => rw [ih]; rfl

section
variable {c : Cx} {H L F H' G : List Chunk} {w w' : World}

theorem HOk.pre (h : HOk c H w) (ht : Take H L F) : Pre L w := by
  have h1 := h.perm ht.perm
  exact ⟨fun k hk => (h1.holds k (List.mem_append_left _ hk)).1, (List.pairwise_append.1 h1.apart).1⟩
theorem HOk.take (h : HOk c H w) (ht : Take H L F) : HOk c L w := (h.perm ht.perm).sublist (List.sublist_append_left _ _)
theorem HOk.up (h : HOk c H w) (ht : Take H L F) (he : Ext (blks L) w w') : Ext c.X c.w0 w' := by
  have h1 := h.perm ht.perm
  refine ⟨he.os.trans h.ext.os, he.tape.trans h.ext.tape, he.output.trans h.ext.output, Nat.le_trans h.ext.size he.size, fun b hb hx => ?_, Nat.le_trans h.ext.drawn he.drawn⟩
  rw [he.block b (Nat.lt_of_lt_of_le hb h.ext.size) ?_]
  · exact h.ext.block b hb hx
  · intro hm
    obtain ⟨k, hk, hkb⟩ := mem_blks.1 hm
    rcases (h1.holds k (List.mem_append_left _ hk)).2 b hkb with h2 | h2
    · omega
    · exact hx h2
theorem HOk.frame (h : HOk c H w) (ht : Take H L F) (he : Ext (blks L) w w') {k : Chunk} (hk : k ∈ F) : k.holds w' := by
  have h1 := h.perm ht.perm
  have h2 := (h1.holds k (List.mem_append_right _ hk)).1
  refine h2.of_block fun b hb => he.block b (h2.lt hb) fun hm => ?_
  obtain ⟨l, hl, hlb⟩ := mem_blks.1 hm
  exact (List.pairwise_append.1 h1.apart).2.2 l hl k hk b hlb hb
theorem HOk.callEnd (h : HOk c H w) (ht : Take H L F) (hp : Post (blks L) H' w w') (ha : App H' F G) : HOk c G w' := by
  have h1 := h.perm ht.perm
  rw [ha.eq]
  refine ⟨h.up ht hp.ext, fun k hk => ?_, List.pairwise_append.2 ⟨hp.apart, (List.pairwise_append.1 h1.apart).2.1, fun k hk l hl b hkb hlb => ?_⟩⟩
  · rcases List.mem_append.1 hk with hk | hk
    · refine ⟨(hp.holds k hk).1, fun b hb => ?_⟩
      rcases (hp.holds k hk).2 b hb with h2 | h2
      · exact .inl (Nat.le_trans h.ext.size h2)
      · obtain ⟨l, hl, hlb⟩ := mem_blks.1 h2
        exact (h1.holds l (List.mem_append_left _ hl)).2 b hlb
    · exact ⟨h.frame ht hp.ext hk, (h1.holds k (List.mem_append_right _ hk)).2⟩
  · have h2 := (h1.holds l (List.mem_append_right _ hl)).1.lt hlb
    rcases (hp.holds k hk).2 b hkb with h3 | h3
    · omega
    · obtain ⟨m, hm, hmb⟩ := mem_blks.1 h3
      exact (List.pairwise_append.1 h1.apart).2.2 m hm l hl b hmb hlb

/-! what holds at w and stays as long as X's blocks alone are written -/
def Stays (X : List Nat) (w : World) (R : World → Prop) : Prop := ∀ w', Ext X w w' → R w'
theorem Stays.now {X : List Nat} {R : World → Prop} (h : Stays X w R) : R w := h w (Ext.refl _ _)
theorem Stays.mono {X : List Nat} {R S : World → Prop} (h : Stays X w R) (hs : ∀ w, R w → S w) : Stays X w S := fun w' he => hs w' (h w' he)
theorem Stays.less {X Y : List Nat} {R : World → Prop} (h : Stays X w R) (hs : ∀ x ∈ Y, x ∈ X) : Stays Y w R := fun w' he => h w' (he.mono hs)
theorem Stays.nil {X : List Nat} {R : World → Prop} (h : Stays X w R) : Stays [] w R := h.less (fun _ h => by cases h)
theorem HOk.use {R : World → Prop} (h : HOk c H w) (hR : Stays c.X c.w0 R) : R w := hR w h.ext
theorem HOk.stays {R : World → Prop} (h : HOk c H w) (hR : Stays c.X c.w0 R) (ht : Take H L F) : Stays (blks L) w R := fun _ he => hR _ (h.up ht he)
theorem HOk.stays0 {R : World → Prop} (h : HOk c H w) (hR : Stays c.X c.w0 R) : Stays [] w R := h.stays hR .nil
theorem HOk.staysK (h : HOk c H w) (ht : Take H L F) {k : Chunk} (hk : Has F k) : Stays (blks L) w k.holds := fun _ he => h.frame ht he hk.mem
theorem HOk.staysK0 (h : HOk c H w) {k : Chunk} (hk : Has H k) : Stays [] w k.holds := h.staysK .nil hk
theorem Stays.rd {X : List Nat} {e : TypeId} {size n cp len : Nat} {a : Option Addr} {xs : List Value} (h : Stays X w (Chunk.row e size (.slice a n cp) len xs).holds) : Stays X w (fun w => Rd w a xs) := fun w' he => Rd.of_owns (h w' he)
theorem Rd.stays {a : Option Addr} {vals : List Value} (h : Rd w a vals) : Stays [] w (fun w => Rd w a vals) := fun _ he => h.ext_nil he
theorem Stays.frag {X : List Nat} {bs : List Nat} {p : World → Prop} (h : Stays X w (Chunk.frag bs p).holds) : Stays X w p := fun w' he => (h w' he).2 w' (fun _ _ => rfl)
theorem HOk.fragp {bs : List Nat} {p : World → Prop} (h : HOk c H w) (hh : Has H (.frag bs p)) : p w := (h.holds _ hh.mem).1.2 w (fun _ _ => rfl)

/-- chunks bound into one -/
theorem HOk.bind (h : HOk c H w) (ht : Take H L F) {p : World → Prop} (hp : ∀ w, (∀ k ∈ L, k.holds w) → p w) : HOk c (.frag (blks L) p :: F) w := by
  have h1 := h.perm ht.perm
  refine ⟨h.ext, fun k hk => ?_, List.Pairwise.cons (fun l hl b hb hlb => ?_) (List.pairwise_append.1 h1.apart).2.1⟩
  · rcases List.mem_cons.1 hk with rfl | hk
    · refine ⟨⟨fun b hb => ?_, fun w' hw => hp w' fun k hk => ?_⟩, fun b hb => ?_⟩
      · obtain ⟨k, hk, hkb⟩ := mem_blks.1 hb
        exact (h1.holds k (List.mem_append_left _ hk)).1.lt hkb
      · exact (h1.holds k (List.mem_append_left _ hk)).1.of_block fun b hb => hw b (mem_blks.2 ⟨k, hk, hb⟩)
      · obtain ⟨k, hk, hkb⟩ := mem_blks.1 hb
        exact (h1.holds k (List.mem_append_left _ hk)).2 b hkb
    · exact h1.holds k (List.mem_append_right _ hk)
  · obtain ⟨k, hk, hkb⟩ := mem_blks.1 (show b ∈ blks L from hb)
    exact (List.pairwise_append.1 h1.apart).2.2 k hk l hl b hkb hlb
/-- an empty one -/
theorem HOk.bind0 (h : HOk c H w) {p : World → Prop} (hp : ∀ w, p w) : HOk c (.frag [] p :: H) w := h.bind (L := []) .nil (fun w _ => hp w)
theorem HOk.weaken {bs : List Nat} {p q : World → Prop} (h : HOk c (.frag bs p :: H) w) (hp : ∀ w, p w → q w) : HOk c (.frag bs q :: H) w := by
  have := h.bind (L := [.frag bs p]) (F := H) (p := q) (.cons .here .nil) (fun w hk => hp w ((hk _ List.mem_cons_self).2 w (fun _ _ => rfl)))
  simpa [blks, Chunk.blocks] using this
end

/-! the memory seen otherwise -/
section
variable {c : Cx} {ops : Array Oper} {Q : Exit → Act → World → Prop} {n fuel : Nat} {Hc : List Chunk} {listed : Array Bool} {E : Slots} {H L : List Chunk}
theorem Wl.as {l : List Oper} (hm : ∀ w, HOk c H w → HOk c L w) (h : Wl c ops Q l E L) : Wl c ops Q l E H := fun a w hE hH => h a w hE (hm w hH)
theorem CT.as {x : Code} (hm : ∀ w, HOk c H w → HOk c L w) (h : CT c x Q E L) : CT c x Q E H := fun a w hE hH => h a w hE (hm w hH)
theorem PX.as {x : Exit} (hm : ∀ w, HOk c H w → HOk c L w) (h : PX c Q x E L) : PX c Q x E H := fun a w hE hH => h a w hE (hm w hH)
theorem RT.as (hm : ∀ w, HOk c H w → HOk c L w) (h : RT c ops Q n Hc fuel listed E L) : RT c ops Q n Hc fuel listed E H := fun a w hE hH => h a w hE (hm w hH)
theorem RA.as (hm : ∀ w, HOk c H w → HOk c L w) (h : RA c ops Q n Hc fuel listed E L) : RA c ops Q n Hc fuel listed E H := fun inv a w hE hH => h inv a w hE (hm w hH)
/-- a fact that the memory bears out, whatever the world: it may be used ahead -/
theorem Wl.fact {l : List Oper} {p : Prop} (hm : ∀ w, HOk c H w → p) (h : p → Wl c ops Q l E H) : Wl c ops Q l E H := fun a w hE hH => h (hm w hH) a w hE hH
theorem CT.fact {x : Code} {p : Prop} (hm : ∀ w, HOk c H w → p) (h : p → CT c x Q E H) : CT c x Q E H := fun a w hE hH => h (hm w hH) a w hE hH
end

section
variable {c : Cx} {E : Slots} {H : List Chunk} {d : Option Nat} {ty : TypeId} {pos : String} {af : Array Edge} {g : Option (Nat × Bool)}
theorem OpG.callX {f : FuncId} {xs : List Operand} {ts : Array TypeId} {args : List Value} {ι : Type} {Φ : ι → Prop} {V : ι → Value} {L F : List Chunk} {H' G : ι → List Chunk} (hf : isGo c.P f = true) (hargs : evArgs E xs = some args)
    (ht : Take H L F) (ha : ∀ i, App (H' i) F (G i))
    (hc : ∀ w, HOk c H w → Pre L w → Calls c.P f args.toArray w (fun e w' => ∃ i, Φ i ∧ e = .returned (V i) ∧ Post (blks L) (H' i) w w')) :
    OpG c ⟨d, .call ⟨.value (.func f), xs.toArray, ts⟩, ty, pos, af, g⟩ E H Φ V G :=
  OpG.call hf hargs fun w hH => (hc w hH (hH.pre ht)).mono fun _ _ ⟨i, hi, he, hp⟩ => ⟨i, hi, he, hH.callEnd ht hp (ha i)⟩
end

theorem enterX {P : Program} {f : FuncId} {fn : Func} {code : Code} {args : List Value} {w : World} {R : Ending → World → Prop} {L : List Chunk} (hpre : Pre L w) (n : Nat) (hf : P.funcs[f]? = some fn) (hb : fn.body = some code) (hn : fn.ntmps = n)
    (hl : Nat.ble args.length n = true) (h : CT ⟨P, n, blks L, w⟩ code (bodyPost P fn R) (argE 0 args) L) : Calls P f args.toArray w R := by
  have hl := Nat.le_of_ble_eq_true hl
  refine calls_of_wp hf hb (h _ _ ⟨?_, rfl, fun t v ht => ?_⟩ ⟨Ext.refl _ _, fun k hk => ⟨hpre.holds k hk, fun b hb => .inr (mem_blks.2 ⟨k, hk, hb⟩)⟩, hpre.apart⟩)
  · simp only [Array.size_append, List.size_toArray, Array.size_replicate, hn]; omega
  · obtain ⟨_, h2⟩ := look_argE 0 args t v ht
    rw [Nat.sub_zero] at h2
    have hlt := (List.getElem?_eq_some_iff.1 h2).1
    rw [Array.getD_eq_getD_getElem?, Array.getElem?_append_left (by simpa using hlt)]
    simp [h2]
end Go.Eng
theorem Go.Eng.Post.conv {X : List Nat} {w w' : Go.World} {H L : List Go.Eng.Chunk} (h : Go.Eng.Post X H w w') (hs : Go.Eng.HSub L H) : Go.Eng.Post X L w w' := h.sub hs
theorem Go.Eng.of_nd_t {p : Prop} [Decidable p] (h : (!decide p) = true) : ¬ p := by simpa using h
theorem Go.Eng.of_nd_f {p : Prop} [Decidable p] (h : (!decide p) = false) : p := by simpa using h

namespace Go.Eng
open Go Go.ChangeShapes Go.WideShapes Go.ChangeAt Go.RowKit

section
variable {H : Type} {enc : TypeId × Value → H} {P : Program} {W : World} {held : Bool} {spare : Nat → Bool}

theorem pick_list {α : Type} {p : Nat → α → Prop} : ∀ n : Nat, (∀ i, i < n → ∃ x, p i x) → ∃ l : List α, l.length = n ∧ ∀ i x, l[i]? = some x → p i x
  | 0, _ => ⟨[], rfl, fun i x h => by simp at h⟩
  | n + 1, h => by
    obtain ⟨l, hl, hp⟩ := pick_list n (fun i hi => h i (by omega))
    obtain ⟨x, hx⟩ := h n (by omega)
    refine ⟨l ++ [x], by simp [hl], fun i y hy => ?_⟩
    rw [List.getElem?_append] at hy
    split at hy
    · exact hp i y hy
    · have hi : i - l.length = 0 := by
        rcases Nat.eq_zero_or_pos (i - l.length) with h0 | h0
        · exact h0
        · rw [List.getElem?_eq_none (by simp; omega)] at hy; cases hy
      rw [hi] at hy
      have : i = n := by omega
      subst this
      simp at hy
      subst hy
      exact hx

end
end Go.Eng

namespace Go.Eng
open Go
section
variable {c : Cx} {E : Slots} {H : List Chunk} {d : Option Nat} {ty : TypeId} {pos : String} {af : Array Edge} {g : Option (Nat × Bool)}

/-- an array's literal -/
theorem OpQ.buildArr {t e : TypeId} {len size asize bytes : Nat} {ps : List (Nat × Operand)} {vs : List (Nat × Value)} {z : Value} {cells : Array Value} (ht : c.P.underlying t = some (.array len e)) (hz : sizeB c.P e = some size)
    (hi : (c.P.info? t).map (fun i => (i.zero, i.size, i.bytes)) = some (some z, asize, bytes)) (hx : evParts E ps = some vs) (hf : Instr.fill (fun i => some (i * size, size)) z.cells vs = some cells) :
    OpQ c ⟨d, .build t ps.toArray, ty, pos, af, g⟩ E H (.agg cells) := fun b w hE _ => by
  have h1 := hE.parts hx
  obtain ⟨i, hi1, hi2, hi3, hi4⟩ := info_parts hi
  show Sem.run c.P (do let z ← Instr.build t (ps.toArray.map fun p => (p.1, b.eval p.2)); pure (Next.value z)) w = _
  rw [List.map_toArray, h1]
  unfold Instr.build
  have hzv : (zeroValue t).run c.P w = .ok z w := by simp [zeroValue, typeInfo, hi1, hi2]
  simp only [Sem.run_bind, hzv, Result.andThen_ok, run_underlying ht, run_sizeOf hz, hf, Sem.run_pure]

/-- a field of an aggregate variable, itself an aggregate -/
theorem OpQ.loadFA {t e : TypeId} {x : Operand} {size b j : Nat} {xs cs : List Value} (hs : isAggB c.P t = some true) (hz : sizeB c.P t = some cs.length) (hx : evE E x = some (.pointer (some ((⟨b, 0, none⟩ : Addr).add j))))
    (hh : Has H (.row e size (vb b) 1 xs)) (hv : ∀ k v, cs[k]? = some v → xs[j + k]? = some v) : OpQ c ⟨d, .load t x, ty, pos, af, g⟩ E H (.agg cs.toArray) :=
  OpQ.loadAgg hs hz hx fun w hH k v hk => by rw [add_add]; exact ((hH.rd hh) (j + k) v (hv k v hk)).2

/-- what is read at an element -/
theorem Rd.at {w : World} {a : Option Addr} {vals cs : List Value} {i : Nat} (h : Rd w a vals) (hv : ∀ k v, cs[k]? = some v → vals[i + k]? = some v) : Rd w (some ((ad a).add i)) cs := fun j v hj =>
  ⟨rfl, by show w.cell? (((ad a).add i).add j) = some v; rw [add_add]; exact (h (i + j) v (hv j v hj)).2⟩

theorem add_ptr (b i j : Nat) : Value.pointer (some (((⟨b, 0, none⟩ : Addr).add i).add j)) = Value.pointer (some ((⟨b, 0, none⟩ : Addr).add (i + j))) := by rw [add_add]
theorem made_flat (zs : List Value) (n : Nat) (hz : 0 < zs.length) : (madeCells zs.toArray (n * zs.length)).toList = (List.replicate n zs).flatten := by
  apply List.ext_getElem?
  intro i
  simp only [madeCells]
  by_cases hi : i < n * zs.length
  · have h1 : i / zs.length < n := Nat.div_lt_of_lt_mul (by rw [Nat.mul_comm]; exact hi)
    have h2 : i % zs.length < zs.length := Nat.mod_lt _ hz
    have e : (List.replicate n zs).flatten = (List.replicate n ()).flatMap (fun _ => zs) := by
      clear hi h1 h2
      induction n with
      | zero => rfl
      | succ n ih => rw [List.replicate_succ, List.flatten_cons, ih, List.replicate_succ, List.flatMap_cons]
    have := flat_get (f := fun _ : Unit => zs) (k := zs.length) (fun _ => rfl) (List.replicate n ()) () (j := i / zs.length) (by simpa using h1) (i % zs.length) h2
    rw [Nat.mul_comm, Nat.div_add_mod] at this
    rw [e, this]
    simp [hi, h2]
  · have h3 : (List.replicate n zs).flatten.length = n * zs.length := by simp
    rw [List.getElem?_eq_none (by simpa using hi), List.getElem?_eq_none (by rw [h3]; omega)]
/-- make([]T, n), a T of any size -/
theorem OpG.makeN {t e : TypeId} {x y : Operand} {z : Value} {zs : List Value} {size n bytes : Nat} {m : Int} (ht : c.P.underlying t = some (.slice e))
    (hi : (c.P.info? e).map (fun i => (i.zero, i.size, i.bytes)) = some (some z, size, bytes)) (hz1 : z.cells = zs.toArray) (hz2 : zs.length = size) (h0 : 0 < size)
    (hx : evE E x = some (.int .i64 m)) (hy : evE E y = some (.int .i64 m)) (hm : m = (n : Int)) (hb : bytes * n ≤ 281474976710656) (h63 : n ≤ 9223372036854775807) :
    OpG c ⟨d, .makeSlice t x y, ty, pos, af, g⟩ E H (fun _ : Nat => True) (fun b => .slice (some ⟨b, 0, none⟩) n n) (fun b => .row e size (.slice (some ⟨b, 0, none⟩) n n) n (List.replicate n zs).flatten :: H) := fun b w hE hH K Q h => by
  have h1 := hE.eval hx
  have h2 := hE.eval hy
  subst hm
  obtain ⟨i, hi1, hi2, hi3, hi4⟩ := info_parts hi
  obtain ⟨w', hrun, r1, r2⟩ := run_make_full (P := c.P) w 0 t e i z size ht hi1 hi2 hi3 .i64 .i64 n (by rw [hi4]; exact hb) (by unfold maxLen; exact h63) (Nat.zero_le _)
  subst hz2
  rw [hz1, made_flat zs n h0] at r1
  unfold Oper.wp
  have hrun' : (execOp b.eval ⟨d, .makeSlice t x y, ty, pos, af, g⟩).run c.P w = .ok (.value (.slice (some ⟨w.heap.size, 0, none⟩) n n)) w' := by
    show Sem.run c.P (do let z ← Instr.makeSlice t (b.eval x) (b.eval y); pure (Next.value z)) w = _
    rw [h1, h2, Sem.run_bind, hrun]; rfl
  rw [hrun']
  refine h w.heap.size w' trivial (hH.add (Ext.of_grown r2 [] (fun k hk _ => by cases hk) (run_drawn _ hrun')) r1 (fun b hb => ?_))
  simp [Chunk.own, Value.ownBlock] at hb
  omega
/-- A region that draws its order, its quiet operations looking at a part of the memory alone. -/
theorem CT.draw' {Q : Exit → Act → World → Prop} {id : Nat} {l : List Oper} {Hc : List Chunk} (n : Nat) (hm : c.P.follows .mixedOrders = true) (h : RA c l.toArray Q n Hc l.length (Array.replicate l.length false) E H) : CT c (.region id l.toArray true) Q E H := by
  intro a w hE hH
  refine wp_region_any hm (wpAny_of_C (C := HOk c Hc) (n := n) _ _ _ _ ?_)
  refine h ⟨by simp, fun j oj _ hl => ?_, fun t _ htlt => ?_⟩ a _ hE (hH.drawn _ (Nat.le_succ _))
  · rw [getD_replicate_false] at hl; cases hl
  · have : t < l.length := by simpa using htlt
    simp [this]
end
end Go.Eng

namespace Go.Eng
open Go

/-! ### maps -/
def entsA {α : Type} (f : α → Value) : Nat → List (α × Value) → List MapEntry
  | _, [] => []
  | i, (x, v) :: r => ⟨f x, v, i⟩ :: entsA f (i + 1) r
def findA {α : Type} [DecidableEq α] (x : α) : Nat → List (α × Value) → Option (Nat × Value)
  | _, [] => none
  | i, (y, v) :: r => if x = y then some (i, v) else findA x (i + 1) r
def getA {α : Type} [DecidableEq α] (x : α) : List (α × Value) → Option Value
  | [] => none
  | (y, v) :: r => if x = y then some v else getA x r
theorem findA_snd {α : Type} [DecidableEq α] (x : α) (i : Nat) (l : List (α × Value)) : (findA x i l).map (·.2) = getA x l := by
  induction l generalizing i with
  | nil => rfl
  | cons p r ih =>
    obtain ⟨y, v⟩ := p
    rw [findA, getA]
    split
    · rfl
    · exact ih _
theorem findA_none {α : Type} [DecidableEq α] {x : α} {l : List (α × Value)} (h : getA x l = none) (i : Nat) : findA x i l = none := by
  have := findA_snd x i l
  rw [h] at this
  cases hf : findA x i l with
  | none => rfl
  | some p => rw [hf] at this; cases this
abbrev mapO {α : Type} (f : α → Value) (l : List (α × Value)) : Obj := .map (entsA f 0 l).toArray l.length
theorem entsA_len {α : Type} (f : α → Value) (i : Nat) (l : List (α × Value)) : (entsA f i l).length = l.length := by
  induction l generalizing i with
  | nil => rfl
  | cons p r ih => obtain ⟨x, v⟩ := p; rw [entsA, List.length_cons, ih]; rfl
theorem entsA_snoc {α : Type} (f : α → Value) (i : Nat) (l : List (α × Value)) (x : α) (v : Value) : entsA f i (l ++ [(x, v)]) = entsA f i l ++ [⟨f x, v, i + l.length⟩] := by
  induction l generalizing i with
  | nil => simp [entsA]
  | cons p r ih =>
    obtain ⟨y, u⟩ := p
    rw [List.cons_append, entsA, entsA, ih, List.cons_append]
    simp only [List.length_cons]
    rw [show i + 1 + r.length = i + (r.length + 1) by omega]

/-- keys of type k are the values f x -/
structure MapKey (P : Program) (k : TypeId) {α : Type} [DecidableEq α] (f : α → Value) : Prop where
  chk : ∀ (b : Bool) (x : α) (w : World), (Instr.checkKey b 10000 k (f x)).run P w = .ok () w
  find : ∀ (x : α) (l : List (α × Value)) (w : World), (Instr.findKey k (f x) (entsA f 0 l)).run P w = .ok (findA x 0 l) w

/-- keys that sameNow decides -/
theorem MapKey.now {P : Program} {k : TypeId} {α : Type} [DecidableEq α] {f : α → Value} {d : TypeDesc} (hk : P.underlying k = some d) (hs : ∀ x y, Instr.sameNow d (f x) (f y) = some (decide (x = y)))
    (hc : ∀ (b : Bool) (x : α) (w : World), (Instr.checkKey b 10000 k (f x)).run P w = .ok () w) : MapKey P k f := by
  refine ⟨hc, fun x l w => ?_⟩
  have key : ∀ (l : List (α × Value)) (i j : Nat), Instr.findNow d (f x) (entsA f i l) j = some (findA x j l) := by
    intro l
    induction l with
    | nil => intro i j; rfl
    | cons p r ih =>
      intro i j
      obtain ⟨y, v⟩ := p
      rw [entsA, Instr.findNow, findA, hs]
      by_cases h : x = y
      · simp [h]
      · simp [h, ih]
  unfold Instr.findKey
  simp only [Sem.run_bind, run_underlying hk, Result.andThen_ok, key]
  rfl
theorem MapKey.int {P : Program} {k : TypeId} {q : IntKind} (hk : P.underlying k = some (.int q)) : MapKey P k (fun n : Int => .int q n) :=
  MapKey.now hk (fun x y => by simp [Instr.sameNow]; rfl) (fun b x w => MapKept.run_checkKey hk (by trivial) b 9999)

/-- keys that == decides -/
theorem MapKey.asked {P : Program} {k : TypeId} {α : Type} [DecidableEq α] {f : α → Value} {d : TypeDesc} (hk : P.underlying k = some d) (hs : ∀ x y, Instr.sameNow d (f x) (f y) = none)
    (he : ∀ (x y : α) (w : World), (Op.equal k (f x) (f y)).run P w = .ok (decide (x = y)) w)
    (hc : ∀ (b : Bool) (x : α) (w : World), (Instr.checkKey b 10000 k (f x)).run P w = .ok () w) : MapKey P k f := by
  refine ⟨hc, fun x l w => ?_⟩
  have key : ∀ (l : List (α × Value)) (i j : Nat), (Instr.findAsking k (f x) (entsA f i l) j).run P w = .ok (findA x j l) w := by
    intro l
    induction l with
    | nil => intro i j; rfl
    | cons p r ih =>
      intro i j
      obtain ⟨y, v⟩ := p
      rw [entsA, Instr.findAsking, findA, Sem.run_bind, he, Result.andThen_ok]
      by_cases h : x = y
      · simp [h]
      · simp only [h, decide_false, Bool.false_eq_true, if_false]
        exact ih _ _
  unfold Instr.findKey
  simp only [Sem.run_bind, run_underlying hk, Result.andThen_ok]
  cases l with
  | nil => rfl
  | cons p r =>
    obtain ⟨y, v⟩ := p
    have : Instr.findNow d (f x) (entsA f 0 ((y, v) :: r)) 0 = none := by rw [entsA, Instr.findNow, hs]
    rw [this]
    exact key _ _ _

/-! structs of whole numbers -/
abbrev aggZ (q : IntKind) (l : List Int) : Value := .agg (l.map (.int q)).toArray
theorem forIn_yield {P : Program} {α : Type} (l : List α) (body : α → PUnit → Sem (ForInStep PUnit)) (w : World) (h : ∀ x ∈ l, (body x PUnit.unit).run P w = .ok (.yield PUnit.unit) w) : (forIn l PUnit.unit body).run P w = .ok PUnit.unit w := by
  induction l with
  | nil => rfl
  | cons x r ih =>
    rw [List.forIn_cons]
    simp only [Sem.run_bind, h x List.mem_cons_self, Result.andThen_ok]
    exact ih (fun y hy => h y (List.mem_cons_of_mem _ hy))
section
variable {c : Cx} {E : Slots} {H : List Chunk} {d : Option Nat} {ty : TypeId} {pos : String} {af : Array Edge} {g : Option (Nat × Bool)}
theorem run_lookup {P : Program} {t k e : TypeId} {α : Type} [DecidableEq α] {f : α → Value} (K : MapKey P k f) (ht : P.underlying t = some (.map k e)) {z : Value} {w : World} (hz : (zeroValue e).run P w = .ok z w) {b : Nat} {l : List (α × Value)} (hb : w.heap[b]? = some (mapO f l)) (x : α) (ok : Bool) :
    (Instr.lookup t (.map (some b)) (f x) ok).run P w = .ok (if ok then .tuple #[(getA x l).getD z, .bool (getA x l).isSome] else (getA x l).getD z) w := by
  unfold Instr.lookup
  simp only [Sem.run_bind, run_underlying ht, Result.andThen_ok, MapKept.run_getObj_map hb, Sem.run_pure, K.chk, List.toList_toArray, K.find]
  have hs := findA_snd x 0 l
  cases hf : findA x 0 l with
  | none =>
    rw [hf] at hs
    simp only [Sem.run_bind, hz, Result.andThen_ok, Sem.run_pure]
    rw [← hs]
    cases ok <;> rfl
  | some p =>
    obtain ⟨j, v⟩ := p
    rw [hf] at hs
    simp only [Sem.run_bind, Result.andThen_ok, Sem.run_pure]
    rw [← hs]
    cases ok <;> rfl
theorem OpQ.lookup {t k e : TypeId} {α : Type} [DecidableEq α] {f : α → Value} {z : Value} {size bytes b : Nat} {l : List (α × Value)} {x : α} {m i : Operand} {ok : Bool} {v : Value} (K : MapKey c.P k f) (ht : c.P.underlying t = some (.map k e))
    (hi : (c.P.info? e).map (fun i => (i.zero, i.size, i.bytes)) = some (some z, size, bytes)) (hm : evE E m = some (.map (some b))) (hx : evE E i = some (f x)) (hh : Has H (.blk b (mapO f l)))
    (hv : (if ok then .tuple #[(getA x l).getD z, .bool (getA x l).isSome] else (getA x l).getD z) = v) : OpQ c ⟨d, .lookup t m i ok, ty, pos, af, g⟩ E H v := fun a w hE hH => by
  have h1 := hE.eval hm
  have h2 := hE.eval hx
  obtain ⟨it, hi1, hi2, hi3, hi4⟩ := info_parts hi
  have hz : (zeroValue e).run c.P w = .ok z w := by simp [zeroValue, typeInfo, hi1, hi2]
  show Sem.run c.P (do let z ← Instr.lookup t (a.eval m) (a.eval i) ok; pure (Next.value z)) w = _
  rw [h1, h2, Sem.run_bind, run_lookup K ht hz (hH.holds _ hh.mem).1 x ok, hv]
  rfl
/-- a key that is not there yet is stored -/
theorem OpG.mapNew {t k e : TypeId} {α : Type} [DecidableEq α] {f : α → Value} {b : Nat} {l : List (α × Value)} {x : α} {m i y : Operand} {v : Value} {H' : List Chunk} (K : MapKey c.P k f) (ht : c.P.underlying t = some (.map k e))
    (hm : evE E m = some (.map (some b))) (hx : evE E i = some (f x)) (hy : evE E y = some v) (hn : getA x l = none) (hu : Upd H (.blk b (mapO f l)) (.blk b (mapO f (l ++ [(x, v)]))) H') :
    OpG c ⟨d, .mapUpdate t m i y, ty, pos, af, g⟩ E H (fun _ : Unit => True) (fun _ => undef) (fun _ => H') := fun a w hE hH Q R h => by
  have h1 := hE.eval hm
  have h2 := hE.eval hx
  have h3 := hE.eval hy
  obtain ⟨j, hj, _⟩ := hu.index
  have hb : w.heap[b]? = some (mapO f l) := (hH.holds _ (List.mem_of_getElem? hj)).1
  have hlt : b < w.heap.size := (Array.getElem?_eq_some_iff.1 hb).1
  have hobj : (Obj.map ((entsA f 0 l).toArray.push { key := f x, val := v, born := l.length }) (l.length + 1)) = mapO f (l ++ [(x, v)]) := by
    simp only [mapO, entsA_snoc, List.length_append, List.length_singleton, Nat.zero_add, List.push_toArray]
  have hrun : (execOp a.eval ⟨d, .mapUpdate t m i y, ty, pos, af, g⟩).run c.P w = .ok .skip { w with heap := w.heap.setIfInBounds b (mapO f (l ++ [(x, v)])) } := by
    show Sem.run c.P (do Instr.mapUpdate t (a.eval m) (a.eval i) (a.eval y); pure Next.skip) w = _
    rw [h1, h2, h3]
    unfold Instr.mapUpdate
    simp only [Sem.run_bind, run_underlying ht, Result.andThen_ok, MapKept.run_getObj_map hb, K.chk, List.toList_toArray, K.find, findA_none hn, MapKept.run_setObj_map _ hb, hobj, Sem.run_pure]
  unfold Oper.wp
  rw [hrun]
  refine h () _ trivial (hH.upd hu (fun b' hb' => .inl hb') ?_ (row := some b) ⟨rfl, rfl, rfl, by simp, fun k' _ hk' => ?_⟩ (fun b' hb' => by cases hb'; exact rfl) (run_drawn _ hrun))
  · show (w.heap.setIfInBounds b _)[b]? = _
    simp [hlt]
  · have : ¬ b = k' := fun e => hk' (by rw [e])
    simp [this]
/-- a new map -/
theorem OpG.makeMap {t : TypeId} {α : Type} {f : α → Value} : OpG c ⟨d, .makeMap t none, ty, pos, af, g⟩ E H (fun _ : Nat => True) (fun b => .map (some b)) (fun b => .blk b (mapO f []) :: H) := fun a w hE hH Q R h => by
  have hrun : (execOp a.eval ⟨d, .makeMap t none, ty, pos, af, g⟩).run c.P w = .ok (.value (.map (some w.heap.size))) (w.alloc (mapO f [])) := by
    show Sem.run c.P (do let z ← Instr.makeMap t none; pure (Next.value z)) w = _
    unfold Instr.makeMap
    simp only [Sem.run_bind, Sem.run_pure, Result.andThen_ok]
    rfl
  unfold Oper.wp
  rw [hrun]
  refine h w.heap.size _ trivial (hH.add (Ext.of_grown (World.grownBy_alloc w _ none) [] (fun k hk _ => by cases hk) (run_drawn _ hrun)) (heap_alloc_new w _) (fun b hb => ?_))
  simp [Chunk.own] at hb
  omega
end

/-! numbered items -/
def itA {α : Type} : Nat → List α → List (α × Value)
  | _, [] => []
  | i, x :: r => (x, .int .i64 (i : Int)) :: itA (i + 1) r
def ixA {α : Type} [DecidableEq α] (x : α) : Nat → List α → Option Nat
  | _, [] => none
  | i, y :: r => if x = y then some i else ixA x (i + 1) r
theorem getA_itA {α : Type} [DecidableEq α] (x : α) (i : Nat) (xs : List α) : getA x (itA i xs) = (ixA x i xs).map fun j => .int .i64 ((j : Nat) : Int) := by
  induction xs generalizing i with
  | nil => rfl
  | cons y r ih =>
    rw [itA, getA, ixA]
    split
    · rfl
    · exact ih _
theorem itA_snoc {α : Type} (i : Nat) (xs : List α) (x : α) : itA i (xs ++ [x]) = itA i xs ++ [(x, .int .i64 ((i + xs.length : Nat) : Int))] := by
  induction xs generalizing i with
  | nil => rfl
  | cons y r ih => rw [List.cons_append, itA, itA, ih, List.cons_append, List.length_cons, show i + 1 + r.length = i + (r.length + 1) by omega]
theorem ixA_none {α : Type} [DecidableEq α] {x : α} {i : Nat} {xs : List α} (h : ixA x i xs = none) : x ∉ xs := by
  induction xs generalizing i with
  | nil => simp
  | cons y r ih =>
    rw [ixA] at h
    split at h
    · cases h
    · rename_i e; rw [List.mem_cons, not_or]; exact ⟨e, ih h⟩
theorem ix_val {o : Option Nat} : (o.map fun j => Value.int .i64 ((j : Nat) : Int)).getD (.int .i64 0) = .int .i64 (((o.getD 0 : Nat)) : Int) := by cases o <;> rfl
theorem ix_is {o : Option Nat} : (o.map fun j => Value.int .i64 ((j : Nat) : Int)).isSome = o.isSome := by cases o <;> rfl
end Go.Eng

namespace Go.Eng
open Go
/-- x[k:] reads what is left -/
theorem Rd.from {w : World} {a : Option Addr} {vals : List Value} {cp k size : Nat} (h : Rd w a vals) (hl : vals.length ≤ cp * size) : Rd w (if cp = k then a else a.map (·.add (k * size))) (vals.drop (k * size)) := by
  intro j v hj
  rw [List.getElem?_drop] at hj
  split
  · rename_i e
    subst e
    have := (List.getElem?_eq_some_iff.1 hj).1
    omega
  · obtain ⟨h1, h2⟩ := h _ v hj
    obtain ⟨p, rfl⟩ := Option.isSome_iff_exists.1 h1
    refine ⟨rfl, ?_⟩
    show w.cell? ((p.add (k * size)).add j) = some v
    rw [add_add]
    exact h2
end Go.Eng

namespace Go.Eng
open Go

/-! ### values of functions -/
section
variable {c : Cx} {E : Slots} {H : List Chunk} {d : Option Nat} {ty : TypeId} {pos : String} {af : Array Edge} {g : Option (Nat × Bool)}
theorem OpQ.makeFunc {f : FuncId} {xs : List Operand} {vs : List Value} (hargs : evArgs E xs = some vs) : OpQ c ⟨d, .makeFunc (.func f) #[] xs.toArray, ty, pos, af, g⟩ E H (.func (.func f) #[] vs.toArray) := fun a w hE _ => by
  have h1 := hE.args hargs
  show Sem.run c.P (do let z ← Instr.makeFunc (.func f) (#[].map a.eval) (xs.toArray.map a.eval); pure (Next.value z)) w = _
  simp only [List.map_toArray, h1]
  rfl
/-- A call of a function's value. -/
theorem OpG.callF {f : FuncId} {x : Operand} {caps : List Value} {xs : List Operand} {ts : Array TypeId} {args : List Value} {ι : Type} {Φ : ι → Prop} {V : ι → Value} {H' : ι → List Chunk} (hx : evE E x = some (.func (.func f) #[] caps.toArray)) (hf : isGo c.P f = true) (hargs : evArgs E xs = some args)
    (hc : ∀ w, HOk c H w → Calls c.P f (args ++ caps).toArray w (fun e w' => ∃ i, Φ i ∧ e = .returned (V i) ∧ HOk c (H' i) w')) :
    OpG c ⟨d, .call ⟨.value x, xs.toArray, ts⟩, ty, pos, af, g⟩ E H Φ V H' := fun b w hE hH K Q h => by
  have h1 := hE.args hargs
  have h0 := hE.eval hx
  have h2 := hc w hH
  unfold Oper.wp
  have hrun : (execOp b.eval ⟨d, .call ⟨.value x, xs.toArray, ts⟩, ty, pos, af, g⟩).run c.P w = .ok (.enter f (args ++ caps).toArray) w := by
    show Sem.run c.P (do let z ← resolve b.eval ⟨.value x, xs.toArray, ts⟩ ty; invoke z.target z.args) w = _
    simp only [resolve, List.map_toArray, h1, h0]
    show Sem.run c.P (callFunc f ((#[] ++ args.toArray) ++ caps.toArray)) w = _
    rw [run_callGo hf]
    simp
  rw [hrun]
  refine h2.mono fun e w' ⟨i, hi, he, hH'⟩ => ?_
  subst he
  exact h i w' hi hH'
theorem OpG.callFV {f : FuncId} {x : Operand} {caps : List Value} {xs : List Operand} {ts : Array TypeId} {args : List Value} {v : Value} (hx : evE E x = some (.func (.func f) #[] caps.toArray)) (hf : isGo c.P f = true) (hargs : evArgs E xs = some args)
    (hc : ∀ w, HOk c H w → Calls c.P f (args ++ caps).toArray w (fun e w' => e = .returned v ∧ Ext [] w w')) :
    OpG c ⟨d, .call ⟨.value x, xs.toArray, ts⟩, ty, pos, af, g⟩ E H (fun _ : Unit => True) (fun _ => v) (fun _ => H) :=
  OpG.callF hx hf hargs fun w hH => (hc w hH).mono fun _ _ ⟨he, hx⟩ => ⟨(), trivial, he, hH.ext_nil hx⟩
end

/-! ### rows of numbers, rows of such rows -/
abbrev zn (n : Nat) : Value := .int .i64 (n : Int)
structure Rw where
  a : Option Addr
  cp : Nat
  xs : List Int
def rw0 : Rw := ⟨none, 0, []⟩
abbrev zz (n : Int) : Value := .int .i64 n
abbrev rv (r : Rw) : Value := .slice r.a r.xs.length r.cp
def rws (rs : List Rw) (w : World) : Prop := ∀ r ∈ rs, Rd w r.a (r.xs.map zz)
theorem rws_nil (w : World) : rws [] w := fun _ h => by cases h
theorem rws_snoc {rs : List Rw} {w : World} (h : rws rs w) {r : Rw} (hr : Rd w r.a (r.xs.map zz)) : rws (rs ++ [r]) w := fun s hs => by
  rcases List.mem_append.1 hs with h1 | h1
  · exact h s h1
  · rw [List.mem_singleton] at h1; subst h1; exact hr
end Go.Eng

namespace Go.Eng
open Go

/-! ### arrays of whole numbers, words: as keys of maps -/
theorem all_range_eqZ : ∀ (xs ys : List Int), xs.length = ys.length → ((List.range xs.length).all fun i => xs.getD i 0 == ys.getD i 0) = (xs == ys)
  | [], [], _ => rfl
  | x :: xs, y :: ys, h => by
    have ih := all_range_eqZ xs ys (by simpa using h)
    rw [List.length_cons, List.range_succ_eq_map, List.all_cons, List.all_map]
    simp only [List.getD_cons_zero, Function.comp_def, List.getD_cons_succ, ih]
    simp [List.cons_beq_cons]
  | [], _ :: _, h => by simp at h
  | _ :: _, [], h => by simp at h
section
variable {P : Program} (w : World) {t e : TypeId} {n : Nat} {q : IntKind} (ht : P.underlying t = some (.array n e)) (he : P.underlying e = some (.int q)) (hsz : sizeB P e = some 1)
include he in
theorem part_arr (xs : List Int) {i : Nat} (hi : i < xs.length) : (part e (xs.map (Value.int q)).toArray (i * 1)).run P w = .ok (.int q (xs.getD i 0)) w := by
  have hs : scalarB P e = some true := by unfold scalarB; rw [he]
  unfold part
  simp [run_isAgg_scalar hs, List.getD, List.getElem?_eq_getElem hi]
include ht he hsz in
theorem run_equalIn_ints (d : Nat) (xs ys : List Int) (hx : xs.length = n) (hy : ys.length = n) : (Op.equalIn (d + 2) t (aggZ q xs) (aggZ q ys)).run P w = .ok (decide (xs = ys)) w := by
  have e1 : decide (xs = ys) = ((List.range xs.length).all fun i => xs.getD i 0 == ys.getD i 0) := by
    rw [all_range_eqZ xs ys (hx.trans hy.symm), Bool.eq_iff_iff]; simp
  rw [e1, hx, List.range_eq_range', Op.equalIn]
  simp only [Sem.run_bind, run_underlying ht, Result.andThen_ok, run_sizeOf hsz, Std.Legacy.Range.forIn_eq_forIn_range', Std.Legacy.Range.size, Nat.sub_zero, Nat.add_sub_cancel, Nat.div_one]
  have hl : ∀ i ∈ List.range' 0 n 1, i < n := fun i hi => by simpa using (List.mem_range'_1.1 hi).2
  generalize List.range' 0 n 1 = l at hl ⊢
  induction l with
  | nil => simp
  | cons i l ih =>
    have hi : i < n := hl i (by simp)
    have px := part_arr (P := P) w he xs (i := i) (by omega)
    have py := part_arr (P := P) w he ys (i := i) (by omega)
    have pe := run_equalIn_int w d e q q (xs.getD i 0) (ys.getD i 0) he
    simp only [List.forIn_cons, Sem.run_bind, px, py, pe, Result.andThen_ok, List.all_cons]
    cases hb : (xs.getD i 0 == ys.getD i 0)
    · simp
    · simp only [Bool.not_true, Bool.false_eq_true, if_false, Sem.run_pure, Result.andThen_ok, Bool.true_and]
      exact ih fun j hj => hl j (by simp [hj])
include ht he hsz in
theorem run_checkKey_ints (b : Bool) (d : Nat) (xs : List Int) (hx : xs.length = n) : (Instr.checkKey b (d + 2) t (aggZ q xs)).run P w = .ok () w := by
  unfold Instr.checkKey
  simp only [Sem.run_bind, run_underlying ht, Result.andThen_ok, Std.Legacy.Range.forIn_eq_forIn_range', Std.Legacy.Range.size, Nat.sub_zero, Nat.add_sub_cancel, Nat.div_one]
  rw [forIn_yield (List.range' 0 n 1) _ w fun i hi => ?_]
  · rfl
  have hi : i < n := by simpa using (List.mem_range'_1.1 hi).2
  have p := part_arr (P := P) w he xs (i := i) (by omega)
  have p2 : (Instr.checkKey b (d + 1) e (.int q (xs.getD i 0))).run P w = .ok () w := MapKept.run_checkKey he (by trivial) b d
  simp only [Sem.run_bind, run_sizeOf hsz, Result.andThen_ok, p, p2, Sem.run_pure]
end
theorem MapKey.arr {P : Program} {k e : TypeId} {n : Nat} {q : IntKind} (ht : P.underlying k = some (.array n e)) (he : P.underlying e = some (.int q)) (hsz : sizeB P e = some 1) {α : Type} [DecidableEq α] (g : α → List Int) (hg : ∀ x, (g x).length = n) (hi : ∀ x y, g x = g y → x = y) : MapKey P k (fun x => aggZ q (g x)) := by
  refine MapKey.asked ht (fun x y => rfl) (fun x y w => ?_) (fun b x w => run_checkKey_ints w ht he hsz b 9998 (g x) (hg x))
  show (Op.equalIn Op.maxDepth k _ _).run P w = _
  obtain ⟨d, hd⟩ : ∃ d, Op.maxDepth = d + 2 := ⟨Op.maxDepth - 2, rfl⟩
  rw [hd, run_equalIn_ints w ht he hsz d _ _ (hg x) (hg y)]
  congr 1
  rw [decide_eq_decide]
  exact ⟨fun h => hi _ _ h, fun h => by rw [h]⟩
theorem MapKey.str {P : Program} {k : TypeId} (hk : P.underlying k = some .string) : MapKey P k sv := by
  refine MapKey.now hk (fun x y => ?_) (fun b x w => MapKept.run_checkKey hk (by trivial) b 9999)
  simp only [Instr.sameNow, Option.some.injEq]
  rw [Bool.eq_iff_iff]
  show ByteArray.beq _ _ = true ↔ _
  simp [ByteArray.beq]
/-! ### nil maps -/
section
variable {c : Cx} {E : Slots} {H : List Chunk} {d : Option Nat} {ty : TypeId} {pos : String} {af : Array Edge} {g : Option (Nat × Bool)}
theorem OpQ.lookupNil {t k e : TypeId} {α : Type} [DecidableEq α] {f : α → Value} {z : Value} {size bytes : Nat} {x : α} {m i : Operand} {ok : Bool} {v : Value} (K : MapKey c.P k f) (ht : c.P.underlying t = some (.map k e))
    (hi : (c.P.info? e).map (fun i => (i.zero, i.size, i.bytes)) = some (some z, size, bytes)) (hm : evE E m = some (.map none)) (hx : evE E i = some (f x))
    (hv : (if ok then .tuple #[z, .bool false] else z) = v) : OpQ c ⟨d, .lookup t m i ok, ty, pos, af, g⟩ E H v := fun a w hE _ => by
  have h1 := hE.eval hm
  have h2 := hE.eval hx
  obtain ⟨it, hi1, hi2, hi3, hi4⟩ := info_parts hi
  have hz : (zeroValue e).run c.P w = .ok z w := by simp [zeroValue, typeInfo, hi1, hi2]
  have hf : (Instr.findKey k (f x) []).run c.P w = .ok none w := K.find x [] w
  show Sem.run c.P (do let z ← Instr.lookup t (a.eval m) (a.eval i) ok; pure (Next.value z)) w = _
  rw [h1, h2]
  unfold Instr.lookup
  simp only [Sem.run_bind, run_underlying ht, Result.andThen_ok, Sem.run_pure, K.chk, hf, hz]
  cases ok
  · simp at hv; subst hv; rfl
  · simp at hv; subst hv; rfl
theorem OpQ.mapNil {t k e t' : TypeId} {x y : Operand} {m : Option Nat} (ht : c.P.underlying t = some (.map k e)) (hx : evE E x = some (.map m)) (hy : evE E y = some (.map none)) :
    OpQ c ⟨d, .binOp .eql t x y t', ty, pos, af, g⟩ E H (.bool m.isNone) := OpQ.bin hx hy fun w => by
  rw [Sem.run_bind, show (eqGuard .eql t x y (.map m) (.map none)).run c.P w = .ok () w from by cases m <;> rfl]
  show (binOp .eql t (.map m) (.map none)).run c.P w = _
  have := run_equal_map_nil (P := c.P) w t k e m ht
  show Sem.run c.P (do let b ← Op.equal t (.map m) (.map none); pure (Value.bool b)) w = _
  rw [Sem.run_bind, this]
  rfl
end
/-! ### results: a struct's variable first -/
section
variable {c : Cx} {E : Slots} {H : List Chunk}
theorem run_cell2 {e T : TypeId} {t u size b : Nat} {xs : List Value} {a : Act} {w : World} {fn : Func} {v : Value} (hr : fn.results = #[.cell t T, .tmp u]) (hE : Env c.n E a) (hH : HOk c H w) (hv : look E t = some (.pointer (some ⟨b, 0, none⟩))) (hu : look E u = some v) (hh : Has H (.row e size (vb b) 1 xs))
    (hs : isAggB c.P T = some true) (hz : sizeB c.P T = some xs.length) : (results fn a.tmps).run c.P w = .ok (.tuple #[.agg xs.toArray, v]) w := by
  have h2 := run_loadCells_list (P := c.P) w ⟨b, 0, none⟩ xs (fun j v hj => ((hH.rd hh) j v hj).2)
  have h3 : (loadVar T ⟨b, 0, none⟩).run c.P w = .ok (.agg xs.toArray) w := by
    unfold loadVar
    simp [run_isAgg_agg hs, run_sizeOf hz, h2]
  have h4 := hE.get t _ hv
  have h5 := hE.get u _ hu
  rw [Array.getD_eq_getD_getElem?] at h4 h5
  unfold results
  simp only [hr]
  simp [h4, h5, asAddr, h3]
theorem run_cell3 {e T : TypeId} {t u u' size b : Nat} {xs : List Value} {a : Act} {w : World} {fn : Func} {v v' : Value} (hr : fn.results = #[.cell t T, .tmp u, .tmp u']) (hE : Env c.n E a) (hH : HOk c H w) (hv : look E t = some (.pointer (some ⟨b, 0, none⟩))) (hu : look E u = some v) (hu' : look E u' = some v') (hh : Has H (.row e size (vb b) 1 xs))
    (hs : isAggB c.P T = some true) (hz : sizeB c.P T = some xs.length) : (results fn a.tmps).run c.P w = .ok (.tuple #[.agg xs.toArray, v, v']) w := by
  have h2 := run_loadCells_list (P := c.P) w ⟨b, 0, none⟩ xs (fun j v hj => ((hH.rd hh) j v hj).2)
  have h3 : (loadVar T ⟨b, 0, none⟩).run c.P w = .ok (.agg xs.toArray) w := by
    unfold loadVar
    simp [run_isAgg_agg hs, run_sizeOf hz, h2]
  have h4 := hE.get t _ hv
  have h5 := hE.get u _ hu
  have h6 := hE.get u' _ hu'
  rw [Array.getD_eq_getD_getElem?] at h4 h5 h6
  unfold results
  simp only [hr]
  simp [h4, h5, h6, asAddr, h3]
theorem PX.retC2 {fn : Func} {R : Ending → World → Prop} {e T : TypeId} {t u size b n : Nat} {xs : List Value} {v : Value} (hr : fn.results = #[.cell t T, .tmp u]) (hv : look E t = some (.pointer (some ⟨b, 0, none⟩))) (hu : look E u = some v) (hh : Has H (.row e size (vb b) 1 xs))
    (hs : isAggB c.P T = some true) (hz : sizeB c.P T = some n) (hl : xs.length = n) (h : ∀ w, HOk c H w → R (.returned (.tuple #[.agg xs.toArray, v])) w) : PX c (bodyPost c.P fn R) .ret E H := fun _ w hE hH =>
  bodyPost_ret (run_cell2 hr hE hH hv hu hh hs (by rw [hl]; exact hz)) hE.defers (h w hH)
theorem PX.retC3 {fn : Func} {R : Ending → World → Prop} {e T : TypeId} {t u u' size b n : Nat} {xs : List Value} {v v' : Value} (hr : fn.results = #[.cell t T, .tmp u, .tmp u']) (hv : look E t = some (.pointer (some ⟨b, 0, none⟩))) (hu : look E u = some v) (hu' : look E u' = some v') (hh : Has H (.row e size (vb b) 1 xs))
    (hs : isAggB c.P T = some true) (hz : sizeB c.P T = some n) (hl : xs.length = n) (h : ∀ w, HOk c H w → R (.returned (.tuple #[.agg xs.toArray, v, v'])) w) : PX c (bodyPost c.P fn R) .ret E H := fun _ w hE hH =>
  bodyPost_ret (run_cell3 hr hE hH hv hu hu' hh hs (by rw [hl]; exact hz)) hE.defers (h w hH)
end
end Go.Eng

namespace Go.Eng
open Go
section
variable {c : Cx} {E : Slots} {H : List Chunk} {d : Option Nat} {ty : TypeId} {pos : String} {af : Array Edge} {g : Option (Nat × Bool)}
theorem OpQ.imin {x y : Operand} {ts : Array TypeId} {k : IntKind} {m n : Int} (hx : evE E x = some (.int k m)) (hy : evE E y = some (.int k n)) :
    OpQ c ⟨d, .call ⟨.builtin .min, #[x, y], ts⟩, ty, pos, af, g⟩ E H (.int k (min m n)) := fun a w hE _ => by
  have h1 := hE.eval hx
  have h2 := hE.eval hy
  have e : (if n < m then n else m) = min m n := by rw [Int.min_def]; split <;> split <;> omega
  simp [execOp, resolve, invoke, builtin, h1, h2, run_min_int2, e]
end
end Go.Eng

namespace Go.Eng
open Go
section
variable {c : Cx} {E : Slots} {H : List Chunk} {d : Option Nat} {ty : TypeId} {pos : String} {af : Array Edge} {g : Option (Nat × Bool)}
theorem OpQ.lenMap {t k e : TypeId} {α : Type} {f : α → Value} {l : List (α × Value)} {x : Operand} {b : Nat} (ht : c.P.underlying t = some (.map k e)) (hx : evE E x = some (.map (some b))) (hh : Has H (.blk b (mapO f l))) :
    OpQ c ⟨d, .call ⟨.builtin .len, #[x], #[t]⟩, ty, pos, af, g⟩ E H (.int .i64 (l.length : Int)) := fun a w hE hH => by
  have h1 := hE.eval hx
  have hb : w.heap[b]? = some (mapO f l) := (hH.holds _ hh.mem).1
  have hl : (entsA f 0 l).length = l.length := entsA_len f 0 l
  simp [execOp, resolve, invoke, builtin, h1, Builtin.len_, run_underlying ht, goInt, MapKept.run_getObj_map hb, hl]
end
theorem itA_len {α : Type} (i : Nat) (l : List α) : (itA i l).length = l.length := by
  induction l generalizing i with
  | nil => rfl
  | cons x r ih => rw [itA, List.length_cons, ih, List.length_cons]
end Go.Eng

namespace Go.Eng
open Go
/-! structs of ints compared, empty literals, a literal of a map, the ends of a slice -/
section
variable {c : Cx} {E : Slots} {H : List Chunk} {d : Option Nat} {ty : TypeId} {pos : String} {af : Array Edge} {g : Option (Nat × Bool)}
/-- the address of the rest of a slice -/
def sfr (a : Option Addr) (cp k size : Nat) : Option Addr := if cp = k then a else a.map (·.add (k * size))
theorem OpQ.sliceFromN {t e : TypeId} {x y : Operand} {a : Option Addr} {n cp size : Nat} {m : Int} {k : Nat} (ht : c.P.underlying t = some (.slice e)) (hz : sizeB c.P e = some size)
    (hx : evE E x = some (.slice a n cp)) (hy : evE E y = some (.int .i64 m)) (hk : m = (k : Int)) (hm : k ≤ n) : OpQ c ⟨d, .slice t x (some y) none none, ty, pos, af, g⟩ E H (.slice (sfr a cp k size) (n - k) (cp - k)) := by
  subst hk
  exact OpQ.sliceFrom ht hz hx hy ⟨Int.natCast_nonneg k, by omega⟩
end
theorem Rd.fr {w : World} {a : Option Addr} {cp k size : Nat} {vals : List Value} (h : Rd w a vals) (hl : vals.length ≤ cp * size) : Rd w (sfr a cp k size) (vals.drop (k * size)) := Rd.from h hl
end Go.Eng

