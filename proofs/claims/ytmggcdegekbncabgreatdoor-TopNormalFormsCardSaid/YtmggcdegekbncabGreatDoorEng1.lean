/-
  The engine of the walks: slots as a list, memory as chunks, one lemma for each operation. No condition.
-/
import Derived.Test.YtmggcdegekbncabGreatDoorMod
import Derived.Laws.Strings
import Derived.Lib.AppendStr
import Derived.Lib.UnsafeStr
import Derived.Lib.Builder
import Derived.Laws.Externs
import Derived.Test.YtmggcdegekbncabGreatDoorEng
import Derived.Laws.CopyRow
import Derived.Laws.IdiomCopy
import Derived.Recover
import Derived.Lib.LaidTab
import Derived.Shelf.SlSortCmp.NoneTotal
import Derived.ChangeMaps5
set_option linter.unusedSimpArgs false
namespace Go.Eng
open Go Go.Sq
/-! families of rows: chunks rs.map (rch e f) behind the others -/
section
variable {c : Cx} {w : World} {A B : List Chunk}
theorem HOk.bindL {L F : List Chunk} (h : HOk c (L ++ F) w) {p : World → Prop} (hp : ∀ w, (∀ k ∈ L, k.holds w) → p w) : HOk c (.frag (blks L) p :: F) w := by
  refine ⟨h.ext, fun k hk => ?_, List.Pairwise.cons (fun k hk b hb hb' => ?_) (List.pairwise_append.1 h.apart).2.1⟩
  · rcases List.mem_cons.1 hk with rfl | hk
    · refine ⟨⟨fun b hb => ?_, fun w' hw' => hp w' fun l hl => ?_⟩, fun b hb => ?_⟩
      · obtain ⟨l, hl, hb⟩ := mem_blks.1 hb
        exact (h.holds l (List.mem_append_left _ hl)).1.lt hb
      · exact (h.holds l (List.mem_append_left _ hl)).1.of_block fun b hb => hw' b (mem_blks.2 ⟨l, hl, hb⟩)
      · obtain ⟨l, hl, hb⟩ := mem_blks.1 hb
        exact (h.holds l (List.mem_append_left _ hl)).2 b hb
    · exact h.holds k (List.mem_append_right _ hk)
  · obtain ⟨l, hl, hb⟩ := mem_blks.1 hb
    exact (List.pairwise_append.1 h.apart).2.2 l hl k hk b hb hb'
end
/-- a row of things of one cell -/
abbrev rch {α : Type} (e : TypeId) (f : α → Value) (r : Rx α) : Chunk := .row e 1 (rxv r) r.xs.length (r.xs.map f)
end Go.Eng
namespace Go.Eng
open Go Go.Sq
/-- a row of rows of numbers -/
def begM (b : Nat) (rs : List (Rx Nat)) (w : World) : Prop := Rd w (some ⟨b, 0, none⟩) (rs.map rxv) ∧ ∀ r ∈ rs, Rd w r.a (r.xs.map zn)
theorem HOk.begB {c : Cx} {w : World} {b n cp : Nat} {rs : List (Rx Nat)} {ts tp : TypeId} {A : List Chunk} (h : HOk c (.row ts 1 (.slice (some ⟨b, 0, none⟩) n cp) n (rs.map rxv) :: (A ++ rs.map (rch tp zn))) w) : HOk c (.frag (blks (.row ts 1 (.slice (some ⟨b, 0, none⟩) n cp) n (rs.map rxv) :: rs.map (rch tp zn))) (begM b rs) :: A) w := by
  refine (h.perm (List.Perm.cons _ List.perm_append_comm)).bindL (L := .row ts 1 (.slice (some ⟨b, 0, none⟩) n cp) n (rs.map rxv) :: rs.map (rch tp zn)) (F := A) fun w hk => ⟨Rd.of_owns (hk _ List.mem_cons_self), fun r hr => Rd.of_owns (hk (rch tp zn r) (List.mem_cons_of_mem _ (List.mem_map.2 ⟨r, hr, rfl⟩)))⟩
end Go.Eng

namespace Go.Eng
open Go Go.RowKit
/-! strings.Builder: append of a string, unsafe pointers, unsafe.String -/
theorem strCells_sv (l : List UInt8) : Lib.strCells ⟨l.toArray⟩ = l.map bv := by simp [Lib.strCells]
theorem grown_pos (w : World) {n old : Nat} (e : TypeId) (h : 0 < n) : grownCap w n old e ≠ 0 := by
  have := grownCap_ge w n old e
  omega
theorem run_appS {P : Program} (w : World) (t u ty e : TypeId) (i : TypeInfo) (ht : P.underlying t = some (.slice e)) (hu : P.underlying u = some .string) (hi : P.info? e = some i) (hz : i.zero = some (.int .u8 0))
    (hsize : i.size = 1) (hby : i.bytes = 1) (a : Option Addr) (n cp : Nat) (xs : List Value) (hown : w.ownsRow 0 e 1 (.slice a n cp) n xs) (hc : a.isSome = true → cp ≠ 0) (s : ByteArray) (hbytes : n + s.size ≤ 140737488355328) :
    ∃ a1 c1 w', (Builtin.append_ #[t, u] ty #[.slice a n cp, .string s]).run P w = .ok (.slice a1 (n + s.size) c1) w' ∧ w'.ownsRow 0 e 1 (.slice a1 (n + s.size) c1) (n + s.size) (xs ++ Lib.strCells s) ∧ w.grownBy w' (Value.slice a n cp).ownBlock ∧
      (∀ k, (Value.slice a1 (n + s.size) c1).ownBlock = some k → (Value.slice a n cp).ownBlock = some k ∨ w.heap.size ≤ k) ∧ (a1.isSome = true → c1 ≠ 0) := by
  have h63 : n + s.size ≤ maxLen := by unfold maxLen; omega
  obtain ⟨v', w', hr, h2, h3, _⟩ := Lib.run_append_own_string (P := P) w 0 t u ty e i ht hu hi hz hsize hby _ n xs hown s h63 hbytes (Nat.zero_le _)
  have key : ∃ a1 c1, v' = .slice a1 (n + s.size) c1 ∧ (∀ k, v'.ownBlock = some k → (Value.slice a n cp).ownBlock = some k ∨ w.heap.size ≤ k) ∧ (a1.isSome = true → c1 ≠ 0) := by
    rcases hown.2 with ⟨hv, hn⟩ | ⟨g, cap, cur, hv, hbg, hg, hnc, hcm, hcs, htake⟩
    · cases hv
      by_cases hm : s.size = 0
      · have hf := Lib.run_firstCells_string (P := P) w 1 s
        rw [hm] at hf
        have h4 : (Builtin.append_ #[t, u] ty #[.slice none 0 0, .string s]).run P w = .ok (.slice none 0 0) w := by
          simp [Builtin.append_, run_underlying ht, run_underlying hu, sizeOf, typeInfo, hi, hsize, Builtin.lenOf, hm, hf]
        rw [h4] at hr
        cases hr
        exact ⟨none, 0, by rw [hm], (fun k hk => by cases hk), (fun h => by cases h)⟩
      · have h4 := run_append_nil_string (P := P) w t u ty e i (.int .u8 0) ht hu hi hz s (by omega) (by omega) (by rw [hby]; omega)
        rw [h4] at hr
        cases hr
        exact ⟨_, _, by rw [Nat.zero_add], (fun k hk => by simp [Value.ownBlock] at hk; right; omega), fun _ => grown_pos w e (by omega)⟩
    · cases hv
      by_cases hroom : n + s.size ≤ cp
      · have h4 := Lib.run_append_room_string (P := P) w t u ty e i ht hu hi hsize g n cp cur hg s hroom (by omega)
        rw [h4] at hr
        cases hr
        exact ⟨_, _, rfl, fun k hk => .inl hk, fun _ => hc rfl⟩
      · have holds : ∀ j x, xs[j]? = some x → w.cell? ((⟨g, 0, none⟩ : Addr).add j) = some x := hown.cells (g := g) rfl
        have h4 := Lib.run_append_grow_string (P := P) w t u ty e i (.int .u8 0) ht hu hi hz ⟨g, 0, none⟩ n cp xs (by rw [hsize]; simpa using hown.1) holds s (by omega) (by omega) (by rw [hby]; exact growslice_fits (by omega) (by omega))
        rw [h4] at hr
        cases hr
        exact ⟨_, _, rfl, (fun k hk => by simp [Value.ownBlock] at hk; right; omega), fun _ => grown_pos w e (by omega)⟩
  obtain ⟨a1, c1, rfl, h4, h5⟩ := key
  exact ⟨a1, c1, w', hr, h2, h3, h4, h5⟩
section
variable {c : Cx} {E : Slots} {H : List Chunk} {d : Option Nat} {ty : TypeId} {pos : String} {af : Array Edge} {g : Option (Nat × Bool)}
theorem OpG.appendS {t st e : TypeId} {x y : Operand} {n cp : Nat} {a : Option Addr} {xs : List Value} {s : List UInt8} (ht : c.P.underlying t = some (.slice e)) (hst : c.P.underlying st = some .string)
    (hi : (c.P.info? e).map (fun i => (i.zero, i.size, i.bytes)) = some (some (.int .u8 0), 1, 1)) (hx : evE E x = some (.slice a n cp)) (hy : evE E y = some (sv s)) {p : Nat} (hp : H[p]? = some (.row e 1 (.slice a n cp) n xs))
    (hc : a.isSome = true → cp ≠ 0) (hb : n + s.length ≤ 140737488355328) {nm : Nat} {all : List Value} (hnm : n + s.length = nm) (hall : xs ++ s.map bv = all) :
    OpG c ⟨d, .call ⟨.builtin .append, #[x, y], #[t, st]⟩, ty, pos, af, g⟩ E H (fun i : Option Addr × Nat => i.1.isSome = true → i.2 ≠ 0) (fun i => .slice i.1 nm i.2) (fun i => H.set p (.row e 1 (.slice i.1 nm i.2) nm all)) := fun b w hE hH K Q h => by
  subst hnm
  subst hall
  have h1 := hE.eval hx
  have h2 := hE.eval hy
  obtain ⟨i, hi1, hi2, hi3, hi4⟩ := info_parts hi
  have hown : w.ownsRow 0 e 1 (.slice a n cp) n xs := (hH.holds _ (List.mem_of_getElem? hp)).1
  obtain ⟨a1, c1, w', hr, r1, r2, r3, r4⟩ := run_appS (P := c.P) w t st ty e i ht hst hi1 hi2 hi3 hi4 a n cp xs hown hc ⟨s.toArray⟩ (by simpa [ByteArray.size] using hb)
  have hsz : (⟨s.toArray⟩ : ByteArray).size = s.length := by simp [ByteArray.size]
  rw [hsz] at hr r1 r3
  rw [strCells_sv] at r1
  unfold Oper.wp
  have hrun : (execOp b.eval ⟨d, .call ⟨.builtin .append, #[x, y], #[t, st]⟩, ty, pos, af, g⟩).run c.P w = .ok (.value (.slice a1 (n + s.length) c1)) w' := by
    simp [execOp, resolve, invoke, builtin, h1, h2, hr]
  rw [hrun]
  exact h (a1, c1) w' r4 (hH.set hp r3 r1 r2.os r2.tape r2.output r2.size (fun b hb hne => r2.block b hb (fun e => hne e.symm)) (run_drawn _ hrun))
theorem OpQ.eqlPN {t te t' : TypeId} {x y : Operand} {a : Option Addr} (ht : c.P.underlying t = some (.pointer te)) (hx : evE E x = some (.pointer a)) (hy : evE E y = some (.pointer none)) :
    OpQ c ⟨d, .binOp .eql t x y t', ty, pos, af, g⟩ E H (.bool a.isNone) := OpQ.bin hx hy fun w => by
  rw [Sem.run_bind, show (eqGuard .eql t x y (.pointer a) (.pointer none)).run c.P w = .ok () w by rw [eqGuard_at_pointer]; rfl]
  have h : ∀ d : Nat, (Op.equalIn (d + 1) t (.pointer a) (.pointer none)).run c.P w = .ok a.isNone w := fun d => by
    cases a <;> simp [Op.equalIn, run_underlying ht]
  show (binOp .eql t (.pointer a) (.pointer none)).run c.P w = _
  simp only [binOp]
  simp [Op.equal, Op.maxDepth, h 9999]
theorem OpQ.neqPP {t te t' : TypeId} {j : TypeInfo} {x y : Operand} {a : Addr} (ht : c.P.underlying t = some (.pointer te)) (hj : c.P.info? te = some j) (hx : evE E x = some (.pointer (some a))) (hy : evE E y = some (.pointer (some a))) :
    OpQ c ⟨d, .binOp .neq t x y t', ty, pos, af, g⟩ E H (.bool false) := OpQ.bin hx hy fun w => by
  rw [Sem.run_bind, show (eqGuard .neq t x y (.pointer (some a)) (.pointer (some a))).run c.P w = .ok () w by rw [eqGuard_at_pointer]; rfl]
  exact Lib.run_neq_ptr_same w a ht hj
theorem OpQ.toUnsafe {s t te e : TypeId} {j : TypeInfo} {x : Operand} {b size : Nat} {xs : List Value} (hs : c.P.underlying s = some (.pointer te)) (ht : c.P.underlying t = some .unsafePointer) (hj : c.P.info? te = some j) (hz : j.size ≠ 0)
    (hx : evE E x = some (.pointer (some ⟨b, 0, none⟩))) (hh : Has H (.row e size (vb b) 1 xs)) (h0 : 0 < size) : OpQ c ⟨d, .convert s t x, ty, pos, af, g⟩ E H (.pointer (some ⟨b, 0, none⟩)) := fun a w hE hH => by
  obtain ⟨h1, _, h2⟩ := owns_var (hH.holds _ hh.mem).1
  have hsh : w.shape? b = some (e, xs.length) := by simp [World.shape?, h2]
  show Sem.run c.P (do let z ← convert s t (a.eval x); pure (Next.value z)) w = _
  rw [hE.eval hx, Sem.run_bind, Lib.run_to_unsafe w ⟨b, 0, none⟩ hs ht hj hz hsh (by show 0 < xs.length; omega)]
  rfl
theorem OpQ.fromUnsafe {s t te e : TypeId} {j : TypeInfo} {x : Operand} {b size : Nat} {xs : List Value} (hs : c.P.underlying s = some .unsafePointer) (ht : c.P.underlying t = some (.pointer te)) (hj : c.P.info? te = some j)
    (hx : evE E x = some (.pointer (some ⟨b, 0, none⟩))) (hh : Has H (.row e size (vb b) 1 xs)) (hl : liesAt c.P c.P.depth e (size / c.P.cellsOf e) 0 te 1 = true) : OpQ c ⟨d, .convert s t x, ty, pos, af, g⟩ E H (.pointer (some ⟨b, 0, none⟩)) := fun a w hE hH => by
  obtain ⟨h1, _, h2⟩ := owns_var (hH.holds _ hh.mem).1
  have hsh : w.shape? b = some (e, size) := by simp [World.shape?, h2, h1]
  show Sem.run c.P (do let z ← convert s t (a.eval x); pure (Next.value z)) w = _
  rw [hE.eval hx, Sem.run_bind, Lib.run_from_unsafe w ⟨b, 0, none⟩ hs ht hj hsh hl]
  rfl
theorem OpQ.noEsc {f : FuncId} {fn : Func} {x : Operand} {ts : Array TypeId} {v : Value} (hf : c.P.funcs[f]? = some fn) (hname : (fn.name == "runtime.NumGoroutine") = false) (hb : fn.body.isNone = true) (hn : (Extern.findNext fn).isNone = true) (he : Extern.find fn = some Extern.AbiNoEscape.same)
    (hx : evE E x = some v) : OpQ c ⟨d, .call ⟨.value (.func f), #[x], ts⟩, ty, pos, af, g⟩ E H v := fun a w hE _ => by
  have h1 := hE.eval hx
  have h2 : (callFunc f #[v]).run c.P w = .ok (.value v) w := by
    rw [run_callFunc_extern hf hname hb (by simpa using hn) he, Lib.run_noEscape]; rfl
  show Sem.run c.P (do let z ← resolve a.eval ⟨.value (.func f), #[x], ts⟩ ty; invoke z.target z.args) w = _
  simp only [resolve, List.map_toArray, List.map_cons, List.map_nil, h1]
  have h3 : Deferred.ofValue (a.eval (.func f)) #[v] = pure { target := .fn (.func f) #[], args := #[v] } := by simp [Deferred.ofValue, Act.eval]
  rw [h3]
  show Sem.run c.P (callFunc f (#[v] ++ #[])) w = _
  simpa using h2
theorem OpQ.sliceData {t : TypeId} {x : Operand} {a : Option Addr} {n cp : Nat} (hx : evE E x = some (.slice a n cp)) (hc : a.isSome = true → cp ≠ 0) : OpQ c ⟨d, .call ⟨.builtin .unsafeSliceData, #[x], #[t]⟩, ty, pos, af, g⟩ E H (.pointer a) := fun b w hE _ => by
  have h1 := hE.eval hx
  have h2 : (Builtin.unsafeSliceData_ #[t] ty #[.slice a n cp]).run c.P w = .ok (.pointer a) w := by
    cases a with
    | none => rfl
    | some p =>
      show Sem.run c.P (if cp ≠ 0 then pure (Value.pointer (some p)) else _) w = _
      rw [if_pos (hc rfl)]; rfl
  simp [execOp, resolve, invoke, builtin, h1, h2]
theorem OpG.unsafeString {pt it e : TypeId} {x y : Operand} {a : Option Addr} {cp : Nat} {l : List UInt8} (hpt : c.P.underlying pt = some (.pointer e)) (hce : c.P.cellsOf e = 1) (hx : evE E x = some (.pointer a)) (hy : evE E y = some (.int .i64 (l.length : Int)))
    {p : Nat} (hp : H[p]? = some (.row e 1 (.slice a l.length cp) l.length (l.map bv))) (hl : l.length ≤ 9223372036854775807) :
    OpG c ⟨d, .call ⟨.builtin .unsafeString, #[x, y], #[pt, it]⟩, ty, pos, af, g⟩ E H (fun _ : Unit => True) (fun _ => sv l) (fun _ => H.set p (.frag [] fun _ => True)) := fun b w hE hH K Q h => by
  have h1 := hE.eval hx
  have h2 := hE.eval hy
  have hown : w.ownsRow 0 e 1 (.slice a l.length cp) l.length (l.map bv) := (hH.holds _ (List.mem_of_getElem? hp)).1
  have fin : ∀ w', (Builtin.unsafeString_ #[pt, it] ty #[.pointer a, .int .i64 (l.length : Int)]).run c.P w = .ok (sv l) w' → w'.os = w.os → w'.tape = w.tape → w'.output = w.output → w.heap.size ≤ w'.heap.size →
      (∀ k, k < w.heap.size → ¬ (Value.slice a l.length cp).ownBlock = some k → w'.heap[k]? = w.heap[k]?) → Oper.wp c.P ⟨d, .call ⟨.builtin .unsafeString, #[x, y], #[pt, it]⟩, ty, pos, af, g⟩ b w K Q := fun w' hr e1 e2 e3 e4 e5 => by
    unfold Oper.wp
    have hrun : (execOp b.eval ⟨d, .call ⟨.builtin .unsafeString, #[x, y], #[pt, it]⟩, ty, pos, af, g⟩).run c.P w = .ok (.value (sv l)) w' := by
      simp [execOp, resolve, invoke, builtin, h1, h2, hr]
    rw [hrun]
    exact h () w' trivial (hH.set hp (fun b hb => by cases hb) ⟨(fun b hb => by cases hb), fun _ _ => trivial⟩ e1 e2 e3 e4 e5 (run_drawn _ hrun))
  by_cases h0 : l = []
  · subst h0
    exact fin w (Lib.run_unsafeString_none (P := c.P) w pt it ty a) rfl rfl rfl (Nat.le_refl _) fun _ _ _ => rfl
  · have hl0 : l.length ≠ 0 := by simpa using h0
    rcases hown.2 with ⟨hv, hz⟩ | ⟨g', cap, cur, hv, hbg, hg, hnc, hcm, hcs, htake⟩
    · exact absurd hz hl0
    · cases hv
      refine fin _ (Lib.run_unsafeString_row (P := c.P) w pt it ty e hpt hce g' cur.size (by simp [World.shape?, hg]) l h0 (by omega) hl fun j x hx => hown.cells (g := g') rfl j _ (by simp [hx])) ?_ ?_ ?_ ?_ ?_
      · simp [World.freeze, hl0]
      · simp [World.freeze, hl0]
      · simp [World.freeze, hl0]
      · simp [World.freeze, hl0]
      · intro k hk hne
        have hkg : g' ≠ k := fun e => hne (by rw [← e]; rfl)
        simp only [World.freeze, hl0, if_false]
        rw [Array.getElem?_modify, if_neg hkg]
end
end Go.Eng

namespace Go.Eng
open Go Go.Sq
/-- addresses are there -/
structure Nn (S : Sv) : Prop where
  n : 0 < S.rs.length → S.na.isSome = true
  o : 0 < S.os.length → S.oa.isSome = true
  e : 0 < S.en.length → S.ea.isSome = true
  f : 0 < S.fi.length → S.fa.isSome = true
  r : ∀ q, q < S.rs.length → 0 < (S.rs.getD q rx0).xs.length → (S.rs.getD q rx0).a.isSome = true
  u : ∀ q, q < S.os.length → 0 < (S.os.getD q rx0).xs.length → (S.os.getD q rx0).a.isSome = true
end Go.Eng

namespace Go.Eng
open Go
section
variable {c : Cx} {E : Slots} {H : List Chunk} {d : Option Nat} {ty : TypeId} {pos : String} {af : Array Edge} {g : Option (Nat × Bool)}
theorem HOk.cap {w : World} {p : Nat} {e : TypeId} {n cp : Nat} {a : Option Addr} {xs : List Value} (hH : HOk c H w) (hp : H[p]? = some (.row e 1 (.slice a n cp) n xs)) (h0 : 0 < n) : cp ≠ 0 := by
  have hown : w.ownsRow 0 e 1 (.slice a n cp) n xs := (hH.holds _ (List.mem_of_getElem? hp)).1
  rcases hown.2 with ⟨hv, hn⟩ | ⟨g, cap, cur, hv, hbg, hg, hnc, hcm, hcs, htake⟩
  · omega
  · cases hv; omega
end
end Go.Eng

namespace Go.Eng
open Go
/-! a region's operations that come in any order, each of which writes a place of its own -/
abbrev Pl := Option Addr × Nat
structure Itm where
  d : Nat
  p : Nat
  deps : List Nat
  V : (Nat → Pl) → Value
  X : (Nat → Pl) → Chunk
  Φ : (Nat → Pl) → Prop
def gup (g : Nat → Pl) (i : Nat) (pl : Pl) : Nat → Pl := fun k => if k = i then pl else g k
theorem gup_at (g : Nat → Pl) (i : Nat) (pl : Pl) : gup g i pl i = pl := by simp [gup]
def Ev (it : Nat → Itm) (E : Slots) (D : List Nat) (g : Nat → Pl) : Slots := D.map (fun i => ((it i).d, (it i).V g)) ++ E
def Mk (it : Nat → Itm) (H : List Chunk) (D : List Nat) (g : Nat → Pl) : List Chunk := D.foldr (fun i L => L.set (it i).p ((it i).X g)) H
section
variable {c : Cx} {ops : Array Oper} {Q : Exit → Act → World → Prop} {n fuel : Nat} {Hc : List Chunk} {listed : Array Bool} {E : Slots} {H : List Chunk} {o : Oper}
/-- what is asked of an operation of the set -/
def Good (c : Cx) (ops : Array Oper) (it : Nat → Itm) (is : List Nat) (E : Slots) (H : List Chunk) (i : Nat) : Prop :=
  ∀ D g, (∀ k ∈ D, k ∈ is ∧ k ≠ i) → (∀ k ∈ (it i).deps, k ∈ D) → (∀ k ∈ D, (it k).Φ g) → ∀ o, ops[i]? = some o →
    OpG c o (Ev it E D g) (Mk it H D g) (fun pl => (it i).Φ (gup g i pl)) (fun pl => (it i).V (gup g i pl)) (fun pl => (Mk it H D g).set (it i).p ((it i).X (gup g i pl)))
/-! what is good -/
theorem OpG.pl {ι κ : Type} {Φ : ι → Prop} {V : ι → Value} {H' : ι → List Chunk} {Φ' : κ → Prop} {V' : κ → Value} {L' : κ → List Chunk} (hq : OpG c o E H Φ V H') (enc : ι → κ) (hΦ : ∀ j, Φ j → Φ' (enc j)) (hV : ∀ j, V' (enc j) = V j) (hH : ∀ j w, HOk c (H' j) w → HOk c (L' (enc j)) w) :
    OpG c o E H Φ' V' L' := fun a w hE hO K R h => hq a w hE hO K R fun j w' hj hw => by
  have := h (enc j) w' (hΦ j hj) (hH j w' hw)
  rwa [hV] at this
section
variable {it : Nat → Itm} {is : List Nat} {i : Nat}
abbrev dmy : Chunk := .frag [] (fun _ => True)
abbrev Itm.none : Itm := ⟨0, 0, [], fun _ => undef, fun _ => Eng.dmy, fun _ => True⟩
abbrev Itm.own (d p k : Nat) (deps : List Nat) (V0 : Pl → Value) (X0 : Pl → Chunk) (Φ0 : Pl → Prop) : Itm := ⟨d, p, deps, fun g => V0 (g k), fun g => X0 (g k), fun g => Φ0 (g k)⟩
theorem Good.own {d p : Nat} {deps : List Nat} {V0 : Pl → Value} {X0 : Pl → Chunk} {Φ0 : Pl → Prop} (h : it i = Itm.own d p i deps V0 X0 Φ0) (hi : ops[i]? = some o)
    (hq : ∀ D g, (∀ k ∈ D, k ∈ is ∧ k ≠ i) → (∀ k ∈ deps, k ∈ D) → OpG c o (Ev it E D g) (Mk it H D g) Φ0 V0 (fun pl => (Mk it H D g).set p (X0 pl))) : Good c ops it is E H i := fun D g hD hd _ o' ho' => by
  rw [hi] at ho'
  cases ho'
  rw [h] at hd ⊢
  refine (hq D g hD hd).pl (fun pl => pl) (fun pl hp => ?_) (fun pl => ?_) fun pl w hw => ?_
  · show Φ0 (gup g i pl i); rw [gup_at]; exact hp
  · show V0 (gup g i pl i) = _; rw [gup_at]
  · show HOk c ((Mk it H D g).set p (X0 (gup g i pl i))) w
    rw [gup_at]; exact hw
end
end
end Go.Eng

namespace Go.Eng
open Go
section
variable {c : Cx} {E : Slots} {H : List Chunk} {d : Option Nat} {ty : TypeId} {pos : String} {af : Array Edge} {g : Option (Nat × Bool)}
/-- a sum of bytes that does not overflow -/
theorem OpQ.add8 {t t' : TypeId} {x y : Operand} {m n : Int} (hx : evE E x = some (.int .u8 m)) (hy : evE E y = some (.int .u8 n)) (hb : 0 ≤ m + n ∧ m + n < 256) :
    OpQ c ⟨d, .binOp .add t x y t', ty, pos, af, g⟩ E H (.int .u8 (m + n)) := OpQ.bin hx hy fun w => by
  have : IntKind.u8.wrap (m + n) = m + n := by
    simp only [IntKind.wrap, IntKind.bits, IntKind.signed, Bool.false_and, Bool.false_eq_true, if_false]; omega
  show Result.ok (Value.int .u8 (IntKind.u8.wrap (m + n))) w = _
  rw [this]
end
end Go.Eng

namespace Go.Ex
open Go Go.Eng
/-! expressions in memory -/
inductive Xv where
  | mk (op lt : Int) (a : Option Addr) (c : Nat) (ks : List Xv)
namespace Xv
def op : Xv → Int | .mk o _ _ _ _ => o
def lt : Xv → Int | .mk _ l _ _ _ => l
def a : Xv → Option Addr | .mk _ _ a _ _ => a
def c : Xv → Nat | .mk _ _ _ c _ => c
def ks : Xv → List Xv | .mk _ _ _ _ k => k
end Xv
def evc (v : Xv) : List Value := [.int .i64 v.op, .int .i64 v.lt, .slice v.a v.ks.length v.c]
theorem evc_len (v : Xv) : (evc v).length = 3 := rfl
abbrev evv (v : Xv) : Value := .agg #[.int .i64 v.op, .int .i64 v.lt, .slice v.a v.ks.length v.c]
def toE : Xv → Ex
  | .mk o l _ _ ks => .mk o l (toL ks)
where toL : List Xv → List Ex
  | [] => []
  | k :: ks => toE k :: toL ks
open toE (toL)
theorem toL_map (ks : List Xv) : toL ks = ks.map toE := by
  induction ks with
  | nil => simp [toL]
  | cons k ks ih => rw [toL, ih, List.map_cons]
theorem toE_eq (v : Xv) : toE v = .mk v.op v.lt (v.ks.map toE) := by cases v; rw [toE, toL_map]; rfl
theorem toE_op (v : Xv) : (toE v).op = v.op := by rw [toE_eq]; rfl
theorem toE_ks (v : Xv) : (toE v).ks = v.ks.map toE := by rw [toE_eq]; rfl
def evm : Xv → World → Prop
  | .mk _ _ a _ ks, w => Rd w a (ks.flatMap evc) ∧ evs ks w ∧ ks.length ≤ 9223372036854775807
where evs : List Xv → World → Prop
  | [], _ => True
  | k :: ks, w => evm k w ∧ evs ks w
open evm (evs)
theorem evs_all {ks : List Xv} {w : World} : evs ks w ↔ ∀ k ∈ ks, evm k w := by
  induction ks with
  | nil => rw [evs]; exact ⟨fun _ _ h => (by cases h), fun _ => trivial⟩
  | cons k ks ih => rw [evs, ih, List.forall_mem_cons]
theorem evm_iff {v : Xv} {w : World} : evm v w ↔ Rd w v.a (v.ks.flatMap evc) ∧ (∀ k ∈ v.ks, evm k w) ∧ v.ks.length ≤ 9223372036854775807 := by
  cases v; rw [evm, evs_all]; rfl
abbrev AllM (vs : List Xv) (w : World) : Prop := ∀ v ∈ vs, evm v w
/-- induction over trees in memory -/
theorem Xv.ind {p : Xv → Prop} (h : ∀ v, (∀ k ∈ v.ks, p k) → p v) (v : Xv) : p v := by
  have key : ∀ n v, szE (toE v) ≤ n → p v := by
    intro n
    induction n with
    | zero => intro v hv; have := szE_pos (toE v); omega
    | succ n ih =>
      intro v hv
      refine h v fun k hk => ih k ?_
      have h1 : toE k ∈ (toE v).ks := by rw [toE_ks]; exact List.mem_map.2 ⟨k, hk, rfl⟩
      have h2 := szL_mem h1
      have h3 := szE_eq (toE v)
      omega
  exact key _ v (Nat.le_refl _)
theorem evm_stays : ∀ v {w : World}, evm v w → Stays [] w (evm v) := by
  refine Xv.ind fun v ih w h w' he => ?_
  obtain ⟨h1, h2, h3⟩ := evm_iff.1 h
  exact evm_iff.2 ⟨h1.ext_nil he, fun k hk => ih k hk (h2 k hk) w' he, h3⟩
def ev0 : Xv := .mk 0 0 none 0 []
theorem ev0_m (w : World) : evm ev0 w := evm_iff.2 ⟨Rd.nil _ _, (fun _ h => by cases h), by decide⟩
/-- a leaf -/
abbrev lfv (o l : Int) : Xv := .mk o l none 0 []
theorem lfv_m (o l : Int) (w : World) : evm (lfv o l) w := evm_iff.2 ⟨Rd.nil _ _, (fun _ h => by cases h), by show 0 ≤ _; omega⟩
theorem lfv_e (o l : Int) : toE (lfv o l) = .mk o l [] := rfl
theorem kid_mem {v : Xv} {i : Nat} (h : i < v.ks.length) : v.ks.getD i ev0 ∈ v.ks := by
  rw [List.getD_eq_getElem?_getD, List.getElem?_eq_getElem h]; exact List.getElem_mem h
theorem toE_getD {ks : List Xv} {i : Nat} (h : i < ks.length) (z : Ex) : (ks.map toE).getD i z = toE (ks.getD i ev0) := by
  rw [List.getD_eq_getElem?_getD, List.getD_eq_getElem?_getD, List.getElem?_map, List.getElem?_eq_getElem h]; rfl
/-! what was built so far: one chunk, good as long as what came in stands -/
abbrev fx (A : World → Prop) (vs : List Xv) (bs : List Nat) : Chunk := .frag bs (fun w => A w → AllM vs w)
end Go.Ex
namespace Go.Eng
open Go Go.Ex
section
variable {c : Cx} {w : World} {A : World → Prop} {H : List Chunk}
/-- nothing is built yet -/
theorem HOk.fx0 (h : HOk c H w) {vs : List Xv} (hA : ∀ w, A w → AllM vs w) : HOk c (fx A vs [] :: H) w := h.bind0 hA
/-- less of it -/
theorem HOk.fxLess {vs us : List Xv} {bs : List Nat} (h : HOk c (fx A vs bs :: H) w) (hs : ∀ w, AllM vs w → AllM us w) : HOk c (fx A us bs :: H) w := h.weaken fun w hp ha => hs w (hp ha)
/-- a call's answer: it is good where its arguments (us, part of vs) are -/
theorem HOk.fxAdd {vs us rs : List Xv} {bs bs' : List Nat} (h : HOk c (fx (AllM us) rs bs' :: fx A vs bs :: H) w) (hu : ∀ w, AllM vs w → AllM us w) : HOk c (fx A (rs ++ vs) (blks [fx (AllM us) rs bs', fx A vs bs]) :: H) w := by
  refine h.bind (L := [fx (AllM us) rs bs', fx A vs bs]) (.cons .here (.cons .here .nil)) fun w hk ha v hv => ?_
  have h1 := (hk _ List.mem_cons_self).2 w (fun _ _ => rfl)
  have h2 := (hk _ (List.mem_cons_of_mem _ List.mem_cons_self)).2 w (fun _ _ => rfl) ha
  rcases List.mem_append.1 hv with hv | hv
  · exact h1 (hu w h2) v hv
  · exact h2 v hv
/-- a row of kids becomes a node -/
theorem HOk.fxNode {vs ks : List Xv} {bs : List Nat} {e : TypeId} {n cp : Nat} {a : Option Addr} {o l : Int} (h : HOk c (.row e 3 (.slice a n cp) n (ks.flatMap evc) :: fx A vs bs :: H) w) (hk : ∀ w, AllM vs w → AllM ks w) :
    HOk c (fx A (Xv.mk o l a cp ks :: vs) (blks [.row e 3 (.slice a n cp) n (ks.flatMap evc), fx A vs bs]) :: H) w := by
  refine h.bind (L := [.row e 3 (.slice a n cp) n (ks.flatMap evc), fx A vs bs]) (.cons .here (.cons .here .nil)) fun w hh ha v hv => ?_
  have h1 := Rd.of_owns (show World.ownsRow w 0 e 3 (.slice a n cp) n (ks.flatMap evc) from hh _ List.mem_cons_self)
  have h2 := (hh _ (List.mem_cons_of_mem _ List.mem_cons_self)).2 w (fun _ _ => rfl) ha
  rcases List.mem_cons.1 hv with rfl | hv
  · refine evm_iff.2 ⟨h1, hk w h2, ?_⟩
    have hl : ks.length ≤ 9223372036854775807 := by
      have h3 := (show World.ownsRow w 0 e 3 (.slice a n cp) n (ks.flatMap evc) from hh _ List.mem_cons_self)
      have h4 := h3.1
      rw [flat_len evc_len] at h4
      rcases h3.2 with ⟨_, h5⟩ | ⟨g, cap, cur, h5, _, _, h6, h7, _⟩
      · omega
      · unfold maxLen at h7; omega
    exact hl
  · exact h2 v hv
end
end Go.Eng
namespace Go.Eng
open Go Go.Ex
section
variable {c : Cx} {E : Slots} {H : List Chunk} {d : Option Nat} {ty : TypeId} {pos : String} {af : Array Edge} {g : Option (Nat × Bool)}
/-- a sum that may be too great -/
theorem OpQ.addw {t t' : TypeId} {x y : Operand} {m n : Int} (hx : evE E x = some (.int .i64 m)) (hy : evE E y = some (.int .i64 n)) :
    OpQ c ⟨d, .binOp .add t x y t', ty, pos, af, g⟩ E H (.int .i64 (IntKind.i64.wrap (m + n))) :=
  OpQ.bin hx hy fun _ => rfl
end
end Go.Eng
namespace Go.Ex
open Go Go.Eng
open szE (szL)
open dpE (dpL)
open wf (wfL)
/-! the first kids -/
def szT (ks : List Xv) (i : Nat) : Nat := szL ((ks.take i).map toE)
def dpT (ks : List Xv) (i : Nat) : Nat := dpL ((ks.take i).map toE)
theorem dpL_app (a b : List Ex) : dpL (a ++ b) = max (dpL a) (dpL b) := by
  induction a with
  | nil => rw [List.nil_append, dpL]; omega
  | cons x a ih => rw [List.cons_append, dpL, dpL, ih]; omega
theorem take_s {ks : List Xv} {i : Nat} (h : i < ks.length) : ks.take (i + 1) = ks.take i ++ [ks.getD i ev0] := by
  rw [List.take_add_one, List.getD_eq_getElem?_getD, List.getElem?_eq_getElem h]; rfl
theorem szT_s {ks : List Xv} {i : Nat} (h : i < ks.length) : szT ks (i + 1) = szT ks i + szE (toE (ks.getD i ev0)) := by
  rw [szT, take_s h, List.map_append, szL_app, List.map_singleton, szL, szL]; rfl
theorem dpT_s {ks : List Xv} {i : Nat} (h : i < ks.length) : dpT ks (i + 1) = max (dpT ks i) (dpE (toE (ks.getD i ev0))) := by
  rw [dpT, take_s h, List.map_append, dpL_app, List.map_singleton, dpL, dpL]
  rw [show dpT ks i = dpL ((ks.take i).map toE) from rfl]; omega
theorem szT_0 (ks : List Xv) : szT ks 0 = 0 := by rw [szT, List.take_zero]; rfl
theorem dpT_0 (ks : List Xv) : dpT ks 0 = 0 := by rw [dpT, List.take_zero]; rfl
theorem sz_full (v : Xv) : szE (toE v) = 1 + szT v.ks v.ks.length := by rw [szE_eq, toE_ks, szT, List.take_length]
theorem dp_full (v : Xv) : dpE (toE v) = 1 + dpT v.ks v.ks.length := by rw [dpE_eq, toE_ks, dpT, List.take_length]
theorem szT_le (ks : List Xv) {i j : Nat} (h : i ≤ j) (hj : j ≤ ks.length) : szT ks i ≤ szT ks j := by
  induction j with
  | zero => obtain rfl : i = 0 := by omega
            exact Nat.le_refl _
  | succ j ih =>
    rcases Nat.lt_or_ge i (j + 1) with h1 | h1
    · have := ih (by omega) (by omega)
      rw [szT_s (by omega)]; omega
    · obtain rfl : i = j + 1 := by omega
      exact Nat.le_refl _
theorem dpT_le (ks : List Xv) {i j : Nat} (h : i ≤ j) (hj : j ≤ ks.length) : dpT ks i ≤ dpT ks j := by
  induction j with
  | zero => obtain rfl : i = 0 := by omega
            exact Nat.le_refl _
  | succ j ih =>
    rcases Nat.lt_or_ge i (j + 1) with h1 | h1
    · have := ih (by omega) (by omega)
      rw [dpT_s (by omega)]; omega
    · obtain rfl : i = j + 1 := by omega
      exact Nat.le_refl _
theorem dp_le_sz : ∀ e, dpE e ≤ szE e := by
  refine Ex.ind fun o l ks ih => ?_
  rw [dpE, szE]
  have : dpL ks ≤ szL ks := dpL_le.2 fun k hk => Nat.le_trans (ih k hk) (szL_mem hk)
  omega
/-- what measure answers: n nodes (at most m + 1), the depth if it has counted them all -/
structure MeasR (v : Xv) (m : Nat) (i : Nat × Int) : Prop where
  le : 1 ≤ i.1 ∧ i.1 ≤ m + 1
  ok : i.1 ≤ m → i.1 = szE (toE v) ∧ i.2 = (dpE (toE v) : Int)
  no : m < i.1 → m < szE (toE v)
structure MeasI (v : Xv) (m k : Nat) (n : Nat) (dp : Int) : Prop where
  le : 1 ≤ n ∧ n ≤ m + 1
  ok : n ≤ m → n = 1 + szT v.ks k ∧ dp = (dpT v.ks k : Int)
  no : m < n → m < szE (toE v)
theorem MeasI.start (v : Xv) {m : Nat} (hm : 1 ≤ m) : MeasI v m 0 1 0 := ⟨⟨Nat.le_refl _, by omega⟩, fun _ => ⟨by rw [szT_0], by rw [dpT_0]; rfl⟩, fun h => absurd h (by omega)⟩
theorem MeasI.step {v : Xv} {m k n : Nat} {dp : Int} (h : MeasI v m k n dp) (hk : k < v.ks.length) (hn : n ≤ m) {i : Nat × Int} (hi : MeasR (v.ks.getD k ev0) m i) : MeasI v m (k + 1) (min (n + i.1) (m + 1)) (max dp i.2) := by
  obtain ⟨h1, h2⟩ := h.ok hn
  have hs := szT_s hk
  have hd := dpT_s hk
  have hf := sz_full v
  have hle := szT_le v.ks (show k + 1 ≤ v.ks.length by omega) (Nat.le_refl _)
  refine ⟨⟨by have := hi.le; omega, by omega⟩, fun hh => ?_, fun hh => ?_⟩
  · have hi1 : i.1 ≤ m := by omega
    obtain ⟨a, b⟩ := hi.ok hi1
    refine ⟨by omega, by rw [h2, b, hd]; omega⟩
  · by_cases hi1 : i.1 ≤ m
    · obtain ⟨a, b⟩ := hi.ok hi1
      omega
    · have := hi.no (by omega)
      omega
theorem MeasI.done {v : Xv} {m k n : Nat} {dp z : Int} (h : MeasI v m k n dp) (hk : k ≤ v.ks.length) (hkn : n ≤ m → v.ks.length ≤ k) (hz : n ≤ m → z = dp + 1) : MeasR v m (n, z) := by
  refine ⟨h.le, fun hh => ?_, h.no⟩
  obtain ⟨a, b⟩ := h.ok hh
  obtain rfl : k = v.ks.length := by have := hkn hh; omega
  exact ⟨by rw [sz_full]; exact a, by show z = _; rw [hz hh, b, dp_full]; omega⟩
/-- the first kids are well formed -/
def wfT (L : Int) (ks : List Xv) (i : Nat) : Bool := (ks.take i).all fun k => wf L (toE k)
theorem wfT_0 (L : Int) (ks : List Xv) : wfT L ks 0 = true := by rw [wfT, List.take_zero]; rfl
theorem wfT_s {L : Int} {ks : List Xv} {i : Nat} (h : i < ks.length) : wfT L ks (i + 1) = (wfT L ks i && wf L (toE (ks.getD i ev0))) := by
  rw [wfT, take_s h, List.all_append]
  show (wfT L ks i && ([ks.getD i ev0].all fun k => wf L (toE k))) = _
  simp
theorem wfT_n {L : Int} {ks : List Xv} {i : Nat} (h : wfT L ks i = false) : (ks.map toE).all (wf L) = false := by
  rw [List.all_map]
  unfold wfT at h
  rw [List.all_eq_false] at h ⊢
  obtain ⟨k, hk, e⟩ := h
  exact ⟨k, List.mem_of_mem_take hk, e⟩
theorem wfT_full {L : Int} (ks : List Xv) : (ks.map toE).all (wf L) = wfT L ks ks.length := by rw [wfT, List.take_length, List.all_map]; rfl
/-- what a node of its own says -/
def wfN (L o l : Int) (n : Nat) : Bool := if o = 3 then decide (n = 0) && (decide (0 ≤ l) && decide (l < L)) else decide (l = 0) && (if o = 1 ∨ o = 2 then decide (n = 0) else if o = 4 ∨ o = 5 ∨ o = 6 then decide (2 ≤ n) else if o = 7 ∨ o = 8 then decide (n = 1) else false)
theorem wf_toE (L : Int) (v : Xv) : wf L (toE v) = (wfN L v.op v.lt v.ks.length && wfT L v.ks v.ks.length) := by
  rw [toE_eq, wf, wfL_all, wfT_full, wfN, List.length_map]
  by_cases h : v.op = 3
  · rw [if_pos h, if_pos h]
    by_cases h0 : v.ks.length = 0
    · have : v.ks = [] := List.eq_nil_of_length_eq_zero h0
      rw [this, List.length_nil, wfT_0, Bool.and_true]
    · rw [decide_eq_false h0]; rfl
  · rw [if_neg h, if_neg h, Bool.and_assoc]
end Go.Ex
namespace Go.Ex
open Go Go.Eng
open wf (wfL)
theorem wfN_iff (L o l : Int) (n : Nat) : wfN L o l n = decide ((o = 3 ∧ n = 0 ∧ 0 ≤ l ∧ l < L) ∨ (o ≠ 3 ∧ l = 0 ∧ (((o = 1 ∨ o = 2) ∧ n = 0) ∨ ((o = 4 ∨ o = 5 ∨ o = 6) ∧ 2 ≤ n) ∨ ((o = 7 ∨ o = 8) ∧ n = 1)))) := by
  rw [Bool.eq_iff_iff, decide_eq_true_eq]
  unfold wfN
  by_cases h3 : o = 3
  · rw [if_pos h3]
    simp only [Bool.and_eq_true, decide_eq_true_eq]
    omega
  · rw [if_neg h3]
    simp only [Bool.and_eq_true, decide_eq_true_eq]
    by_cases h1 : o = 1 ∨ o = 2
    · rw [if_pos h1, decide_eq_true_eq]; omega
    · rw [if_neg h1]
      by_cases h4 : o = 4 ∨ o = 5 ∨ o = 6
      · rw [if_pos h4, decide_eq_true_eq]; omega
      · rw [if_neg h4]
        by_cases h7 : o = 7 ∨ o = 8
        · rw [if_pos h7, decide_eq_true_eq]; omega
        · rw [if_neg h7]
          constructor
          · rintro ⟨_, h⟩; cases h
          · omega
theorem wf_go {L : Int} {v : Xv} {k : Nat} (h : (wfN L v.op v.lt v.ks.length && wfT L v.ks k) = true) (hk : k < v.ks.length) : wf L (toE (v.ks.getD k ev0)) = (wfN L v.op v.lt v.ks.length && wfT L v.ks (k + 1)) := by
  rw [Bool.and_eq_true] at h
  rw [wfT_s hk, h.1, h.2]; simp
theorem wf_stop {L : Int} {v : Xv} {k : Nat} (h : (wfN L v.op v.lt v.ks.length && wfT L v.ks k) = false) : wf L (toE v) = false := by
  rw [wf_toE]
  rw [Bool.and_eq_false_iff] at h ⊢
  rcases h with h | h
  · exact .inl h
  · exact .inr (by rw [← wfT_full]; exact wfT_n h)
theorem wf_all {L : Int} {v : Xv} {k : Nat} (hk : k ≤ v.ks.length) (hk2 : v.ks.length ≤ k) : (wfN L v.op v.lt v.ks.length && wfT L v.ks k) = wf L (toE v) := by
  obtain rfl : k = v.ks.length := by omega
  rw [wf_toE]
theorem inLim_iff {e : Ex} : inLim e = true ↔ szE e ≤ 400 ∧ dpE e ≤ 40 := by rw [inLim, decide_eq_true_eq]
/-- fits -/
def fitB (v : Xv) (n d : Nat) : Bool := decide (szE (toE v) ≤ n ∧ dpE (toE v) ≤ d)
end Go.Ex
theorem Go.Ex.mayN {L : Int} (h : (!Go.Tl.mayL L) = false) : ¬ (L < 1 ∨ 6 < L) := by
  have h : Go.Tl.mayL L = true := by simpa using h
  rw [Go.Tl.mayL, decide_eq_true_eq] at h
  omega
theorem Go.Ex.mayY {L : Int} (h : (!Go.Tl.mayL L) = true) : L < 1 ∨ 6 < L := by
  have h : Go.Tl.mayL L = false := by simpa using h
  rw [Go.Tl.mayL, decide_eq_false_iff_not] at h
  omega
namespace Go.Ex
open Go Go.Eng
open wf (wfL)
open szE (szL)
open dpE (dpL)
theorem fit_zero {v : Xv} {n d : Nat} (h : d = 0 ∨ n = 0) : fitB v n d = false := by
  rw [fitB]
  refine decide_eq_false ?_
  have := szE_pos (toE v)
  have := dpE_pos (toE v)
  omega
theorem fit_no {v : Xv} {n d k : Nat} (hk : k < v.ks.length) (hd : 0 < d) (hs : szT v.ks k + 1 ≤ n) (h : fitB (v.ks.getD k ev0) (n - 1 - szT v.ks k) (d - 1) = false) : fitB v n d = false := by
  rw [fitB, decide_eq_false_iff_not] at h ⊢
  have h1 := szT_s hk
  have h2 := szT_le v.ks (show k + 1 ≤ v.ks.length by omega) (Nat.le_refl _)
  have h3 := sz_full v
  have h4 := dp_full v
  have h5 := dpT_s hk
  have h6 := dpT_le v.ks (show k + 1 ≤ v.ks.length by omega) (Nat.le_refl _)
  omega
theorem fit_yes {v : Xv} {n d k : Nat} (hk : k < v.ks.length) (hd : 0 < d) (hs : szT v.ks k + 1 ≤ n) (h : fitB (v.ks.getD k ev0) (n - 1 - szT v.ks k) (d - 1) = true) (hdp : dpT v.ks k + 1 ≤ d) : szT v.ks (k + 1) + 1 ≤ n ∧ dpT v.ks (k + 1) + 1 ≤ d := by
  rw [fitB, decide_eq_true_eq] at h
  have h1 := szT_s hk
  have h5 := dpT_s hk
  omega
theorem fit_done {v : Xv} {n d k : Nat} (hk : v.ks.length ≤ k) (hk2 : k ≤ v.ks.length) (hs : szT v.ks k + 1 ≤ n) (hdp : dpT v.ks k + 1 ≤ d) : fitB v n d = true := by
  obtain rfl : k = v.ks.length := by omega
  rw [fitB, decide_eq_true_eq]
  have h3 := sz_full v
  have h4 := dp_full v
  omega
theorem wf_op3 {L : Int} {v : Xv} (h : v.op = 3) : wf L (toE v) = decide (((v.ks.length : Nat) : Int) = 0 ∧ 0 ≤ v.lt ∧ v.lt < L) := by
  rw [wf_toE, wfN_iff, Bool.eq_iff_iff, Bool.and_eq_true, decide_eq_true_eq, decide_eq_true_eq]
  constructor
  · rintro ⟨h1, _⟩; omega
  · intro h1
    refine ⟨by omega, ?_⟩
    have : v.ks = [] := List.eq_nil_of_length_eq_zero (by omega)
    rw [this]; exact wfT_0 L []
theorem wfN_no {L : Int} {v : Xv} (h : wfN L v.op v.lt v.ks.length = false) : wf L (toE v) = false := by rw [wf_toE, h]; rfl
theorem wf_leaf {L : Int} {v : Xv} (h : v.op = 1 ∨ v.op = 2) (hl : v.lt = 0) : wf L (toE v) = decide (((v.ks.length : Nat) : Int) = 0) := by
  rw [wf_toE, wfN_iff, Bool.eq_iff_iff, Bool.and_eq_true, decide_eq_true_eq, decide_eq_true_eq]
  constructor
  · rintro ⟨h1, _⟩; omega
  · intro h1
    refine ⟨by omega, ?_⟩
    have : v.ks = [] := List.eq_nil_of_length_eq_zero (by omega)
    rw [this]; exact wfT_0 L []
theorem wfT_no {L : Int} {v : Xv} {k : Nat} (hk : k < v.ks.length) (h : wf L (toE (v.ks.getD k ev0)) = false) : wf L (toE v) = false := by
  have h1 : wfT L v.ks (k + 1) = false := by rw [wfT_s hk, h, Bool.and_false]
  rw [wf_toE, ← wfT_full, wfT_n h1, Bool.and_false]
theorem wfT_yes {L : Int} {v : Xv} {k : Nat} (hn : wfN L v.op v.lt v.ks.length = true) (hk : v.ks.length ≤ k) (hk2 : k ≤ v.ks.length) (h : wfT L v.ks k = true) : wf L (toE v) = true := by
  obtain rfl : k = v.ks.length := by omega
  rw [wf_toE, hn, h]; rfl
theorem fit_lim (v : Xv) : fitB v 400 40 = inLim (toE v) := rfl
theorem vdE_arg {L : Int} {e : Ex} (h : L < 1 ∨ 6 < L) : vdE L e = 1 := by rw [vdE, if_pos h]
theorem vdE_lim {L : Int} {e : Ex} (h : ¬ (L < 1 ∨ 6 < L)) (h1 : inLim e = false) : vdE L e = 3 := by rw [vdE, if_neg h, if_pos h1]
theorem vdE_wf {L : Int} {e : Ex} (h : ¬ (L < 1 ∨ 6 < L)) (h1 : inLim e = true) (h2 : wf L e = false) : vdE L e = 4 := by rw [vdE, if_neg h, if_neg (by simp [h1]), if_pos h2]
theorem vdE_ok {L : Int} {e : Ex} (h : ¬ (L < 1 ∨ 6 < L)) (h1 : inLim e = true) (h2 : wf L e = true) : vdE L e = 0 := by rw [vdE, if_neg h, if_neg (by simp [h1]), if_neg (by simp [h2])]
end Go.Ex

namespace Go.Ex
open Go Go.Eng
open hasU (hasAny hasAll)
open cmpE (cmpL)
/-! kids in memory -/
abbrev kin (a : Option Addr) (ks : List Xv) (w : World) : Prop := Rd w a (ks.flatMap evc) ∧ AllM ks w ∧ ks.length ≤ 9223372036854775807
theorem kin_of {v : Xv} {w : World} (h : evm v w) : kin v.a v.ks w := evm_iff.1 h
def ixf (p : Xv → Bool) (ks : List Xv) : Int := match ks.findIdx? p with
  | some i => (i : Int)
  | none => -1
theorem getD_get {ks : List Xv} {j : Nat} (h : j < ks.length) : ks.getD j ev0 = ks[j] := by rw [List.getD_eq_getElem?_getD, List.getElem?_eq_getElem h]; rfl
theorem ixf_some {p : Xv → Bool} {ks : List Xv} {k : Nat} (hk : k < ks.length) (hall : ∀ j, j < k → p (ks.getD j ev0) = false) (hp : p (ks.getD k ev0) = true) : ixf p ks = (k : Int) := by
  have : ks.findIdx? p = some k := by
    rw [List.findIdx?_eq_some_iff_getElem]
    refine ⟨hk, by rw [← getD_get hk]; exact hp, fun j hj => ?_⟩
    rw [← getD_get (show j < ks.length by omega), hall j hj]; decide
  rw [ixf, this]
theorem ixf_none {p : Xv → Bool} {ks : List Xv} (hall : ∀ j, j < ks.length → p (ks.getD j ev0) = false) : ixf p ks = -1 := by
  have : ks.findIdx? p = none := by
    rw [List.findIdx?_eq_none_iff]
    intro x hx
    obtain ⟨j, hj, rfl⟩ := List.getElem_of_mem hx
    rw [← getD_get hj]; exact hall j hj
  rw [ixf, this]
theorem ixf_any (p : Xv → Bool) (ks : List Xv) : decide (0 ≤ ixf p ks) = ks.any p := by
  rw [ixf, Bool.eq_iff_iff, decide_eq_true_eq, ← List.findIdx?_isSome]
  cases ks.findIdx? p with
  | none => simp
  | some i => simp
theorem isOp_toE (o : Int) (v : Xv) : isOp o (toE v) = decide (v.op = o) := by rw [isOp, toE_op]
theorem isUni_toE (v : Xv) : isUni (toE v) = (decide (v.op = 8) && (decide (v.ks.length = 1) && decide ((v.ks.getD 0 ev0).op = 1))) := by
  rw [isUni, toE_op, toE_ks]
  cases v.ks with
  | nil => rfl
  | cons k l =>
    cases l with
    | nil => simp [toE_op]
    | cons y l => simp
/-- all of the first kids -/
theorem all_take_s {p : Xv → Bool} {ks : List Xv} {k : Nat} (hk : k < ks.length) (h : ∀ j, j < k → p (ks.getD j ev0) = true) (hp : p (ks.getD k ev0) = true) : ∀ j, j < k + 1 → p (ks.getD j ev0) = true := fun j hj => by
  rcases Nat.lt_or_ge j k with h1 | h1
  · exact h j h1
  · obtain rfl : j = k := by omega
    exact hp
theorem all_of {p : Xv → Bool} {ks : List Xv} (h : ∀ j, j < ks.length → p (ks.getD j ev0) = true) : ks.all p = true := by
  rw [List.all_eq_true]
  intro x hx
  obtain ⟨j, hj, rfl⟩ := List.getElem_of_mem hx
  rw [← getD_get hj]; exact h j hj
theorem all_no {p : Xv → Bool} {ks : List Xv} {k : Nat} (hk : k < ks.length) (h : p (ks.getD k ev0) = false) : ks.all p = false := by
  rw [List.all_eq_false]
  exact ⟨ks[k], List.getElem_mem hk, by rw [← getD_get hk, h]; decide⟩
theorem hasU_mk (v : Xv) : hasU (toE v) = if v.op = 2 ∨ v.op = 7 then true else if v.op = 4 then v.ks.any (fun k => hasU (toE k)) else if v.op = 5 ∨ v.op = 6 then v.ks.all (fun k => hasU (toE k)) else if v.op = 8 then decide (v.ks.length = 1) && !(v.ks.any fun k => hasU (toE k)) else false := by
  rw [toE_eq, hasU, hasAny_eq, hasAll_eq, List.any_map, List.all_map, List.length_map]; rfl
/-- comparing kids -/
theorem cmpL_nil (m : List Xv) : cmpL (([] : List Xv).map toE) (m.map toE) = if 0 < m.length then -1 else 0 := by
  cases m with
  | nil => rfl
  | cons y m => rw [if_pos (by simp)]; rfl
theorem cmpL_drop {l m : List Xv} {i : Nat} (hi : i < l.length) (hm : i < m.length) : cmpL ((l.drop i).map toE) ((m.drop i).map toE) = if cmpE (toE (l.getD i ev0)) (toE (m.getD i ev0)) ≠ 0 then cmpE (toE (l.getD i ev0)) (toE (m.getD i ev0)) else cmpL ((l.drop (i + 1)).map toE) ((m.drop (i + 1)).map toE) := by
  rw [List.drop_eq_getElem_cons hi, List.drop_eq_getElem_cons hm, List.map_cons, List.map_cons, cmpL, getD_get hi, getD_get hm]
theorem cmpL_gt {l m : List Xv} {i : Nat} (hi : i < l.length) (hm : m.length ≤ i) : cmpL ((l.drop i).map toE) ((m.drop i).map toE) = 1 := by
  rw [List.drop_eq_getElem_cons hi, List.drop_eq_nil_of_le hm]; rfl
theorem cmpL_end {l m : List Xv} : cmpL ((l.drop l.length).map toE) ((m.drop l.length).map toE) = if l.length < m.length then -1 else 0 := by
  rw [List.drop_length, cmpL_nil, List.length_drop]
  by_cases h : l.length < m.length
  · rw [if_pos h, if_pos (by omega)]
  · rw [if_neg h, if_neg (by omega)]
theorem cmpE_toE (u v : Xv) : cmpE (toE u) (toE v) = if u.op ≠ v.op then cmpI u.op v.op else if u.lt ≠ v.lt then cmpI u.lt v.lt else cmpL (u.ks.map toE) (v.ks.map toE) := by
  rw [toE_eq u, toE_eq v, cmpE]
end Go.Ex
namespace Go.Eng
open Go Go.Ex
section
variable {c : Cx} {w : World} {H : List Chunk}
/-- a node with leaves, made at once -/
theorem HOk.fxLeaf {e : TypeId} {n cp : Nat} {a : Option Addr} {o l : Int} {ks : List Xv} {A : World → Prop} (h : HOk c (.row e 3 (.slice a n cp) n (ks.flatMap evc) :: H) w) (hk : ∀ w, AllM ks w) : HOk c (fx A [Xv.mk o l a cp ks] (blks [.row e 3 (.slice a n cp) n (ks.flatMap evc), fx A [] []]) :: H) w :=
  HOk.fxNode ((h.fx0 (A := A) (vs := []) (fun _ _ _ h => by cases h)).perm (.swap _ _ _)) (fun w _ => hk w)
end
end Go.Eng

namespace Go.Eng
open Go
/-- the first k of a row -/
theorem owns_less {w : World} {base : Nat} {e : TypeId} {size n cp k : Nat} {a : Option Addr} {xs : List Value} (h : w.ownsRow base e size (.slice a n cp) n xs) (hk : k ≤ n) : w.ownsRow base e size (.slice a k cp) k (xs.take (k * size)) := by
  have hl := h.1
  have hm : k * size ≤ n * size := Nat.mul_le_mul_right _ hk
  refine ⟨by rw [List.length_take, hl]; omega, ?_⟩
  rcases h.2 with ⟨h1, h2⟩ | ⟨g, cap, cur, hv, hb, hg, hnc, hcm, hcs, ht⟩
  · left
    cases h1
    exact ⟨by rw [show k = 0 by omega], by omega⟩
  · right
    cases hv
    exact ⟨g, cp, cur, rfl, hb, hg, by omega, hcm, hcs, by rw [← ht, List.take_take, Nat.min_eq_left hm]⟩
theorem ownB_len (a : Option Addr) (n m cp : Nat) : (Value.slice a n cp).ownBlock = (Value.slice a m cp).ownBlock := by cases a <;> rfl
section
variable {c : Cx} {E : Slots} {H : List Chunk} {d : Option Nat} {ty : TypeId} {pos : String} {af : Array Edge} {g : Option (Nat × Bool)}
/-- clear(x[k:]): the first k are left -/
theorem OpG.clear {t e : TypeId} {x : Operand} {z : Value} {size bytes n cp k : Nat} {a : Option Addr} {xs : List Value} {H' : List Chunk} (ht : c.P.underlying t = some (.slice e)) (hi : (c.P.info? e).map (fun i => (i.zero, i.size, i.bytes)) = some (some z, size, bytes))
    (hz : z.cells.size = size) (h1 : z.cells.toList.all (·.oneCell') = true) (hx : evE E x = some (.slice (sfr a cp k size) (n - k) (cp - k))) (hk : k ≤ n)
    (hu : Upd H (.row e size (.slice a n cp) n xs) (.row e size (.slice a k cp) k (xs.take (k * size))) H') :
    OpG c ⟨d, .call ⟨.builtin .clear, #[x], #[t]⟩, ty, pos, af, g⟩ E H (fun _ : Unit => True) (fun _ => .tuple #[]) (fun _ => H') := fun b w hE hH K Q h => by
  have hx1 := hE.eval hx
  obtain ⟨i, hi1, hi2, hi3, hi4⟩ := info_parts hi
  obtain ⟨p, hp, rfl⟩ := hu.index
  have hown : w.ownsRow 0 e size (.slice a n cp) n xs := (hH.holds _ (List.mem_of_getElem? hp)).1
  have hbk : ∀ b, (Value.slice a k cp).ownBlock = some b → (Value.slice a n cp).ownBlock = some b := fun b hb => (ownB_len a n k cp).trans hb
  have fin : ∀ w', (execOp b.eval ⟨d, .call ⟨.builtin .clear, #[x], #[t]⟩, ty, pos, af, g⟩).run c.P w = .ok (.value (.tuple #[])) w' → w'.ownsRow 0 e size (.slice a k cp) k (xs.take (k * size)) → w.grownBy w' (Value.slice a n cp).ownBlock →
      Oper.wp c.P ⟨d, .call ⟨.builtin .clear, #[x], #[t]⟩, ty, pos, af, g⟩ b w K Q := fun w' hrun hown' hg => by
    unfold Oper.wp
    rw [hrun]
    exact h () w' trivial (hH.set hp (fun b hb => .inl (hbk b hb)) hown' hg.os hg.tape hg.output hg.size (fun b hb hne => hg.block b hb (fun e => hne e.symm)) (run_drawn _ hrun))
  rcases Nat.eq_zero_or_pos (n - k) with h0 | h0
  · obtain rfl : k = n := by omega
    rw [Nat.sub_self] at hx1
    have hrun : ∀ a' cp', (Builtin.clear_ #[t] ty #[.slice a' 0 cp']).run c.P w = .ok (.tuple #[]) w := fun a' cp' => by
      unfold Builtin.clear_
      cases a' <;> simp [run_underlying ht]
    refine fin w ?_ (owns_less hown (Nat.le_refl _)) ⟨rfl, rfl, rfl, Nat.le_refl _, fun _ _ _ => rfl⟩
    simp [execOp, resolve, invoke, builtin, hx1, hrun]
  · rcases hown.2 with ⟨hv, h2⟩ | ⟨g', cap, cur, hv, hbg, hg, hnc, hcm, hcs, htake⟩
    · omega
    · cases hv
      have hs : sfr (some ⟨g', 0, none⟩) cp k size = some ⟨g', k * size, none⟩ := by
        unfold sfr
        rw [if_neg (by omega)]
        simp only [Option.map_some, add_mk, Nat.zero_add]
      rw [hs] at hx1
      have hcl : (Builtin.zeroCells z.cells (n - k)).size = (n - k) * size := by simp [Builtin.zeroCells, hz]
      have hone : ∀ v ∈ (Builtin.zeroCells z.cells (n - k)).toList, v.oneCell' = true := fun v hv => by
        simp only [Builtin.zeroCells, Array.toList_map, List.mem_map, Array.mem_toList_iff, Array.mem_range] at hv
        obtain ⟨j, hj, rfl⟩ := hv
        have hz0 : 0 < z.cells.size := Nat.pos_of_ne_zero (fun h0 => by rw [h0, Nat.mul_zero] at hj; omega)
        have hm : j % z.cells.size < z.cells.size := Nat.mod_lt _ hz0
        rw [getElem!_pos z.cells _ hm]
        exact (List.all_eq_true.1 h1) _ (by simp)
      have hlen := hown.1
      have hfit : k * size + (n - k) * size ≤ cur.size := by
        rw [hcs, ← Nat.add_mul]
        exact Nat.mul_le_mul_right _ (by omega)
      have hst := run_storeCells_at (P := c.P) g' (k * size) e (Builtin.zeroCells z.cells (n - k)).toList 0 cur w hg (by rw [Array.length_toList, hcl]; omega) hone
      have hst' : (storeCells ⟨g', k * size, none⟩ (Builtin.zeroCells z.cells (n - k)).toList).run c.P w = .ok () (w.setRow g' (cur.toList.take (k * size) ++ (Builtin.zeroCells z.cells (n - k)).toList ++ cur.toList.drop (k * size + (n - k) * size)).toArray) := by
        simpa [hcl] using hst
      have hzv : (zeroValue e).run c.P w = .ok z w := by simp [zeroValue, typeInfo, hi1, hi2]
      have hrun : (Builtin.clear_ #[t] ty #[.slice (some ⟨g', k * size, none⟩) (n - k) (cp - k)]).run c.P w = .ok (.tuple #[]) (w.setRow g' (cur.toList.take (k * size) ++ (Builtin.zeroCells z.cells (n - k)).toList ++ cur.toList.drop (k * size + (n - k) * size)).toArray) := by
        obtain ⟨m, hm⟩ : ∃ m, n - k = m + 1 := ⟨n - k - 1, by omega⟩
        rw [hm] at hst' ⊢
        simp [Builtin.clear_, run_underlying ht, hzv, hst']
      have hrun2 : (execOp b.eval ⟨d, .call ⟨.builtin .clear, #[x], #[t]⟩, ty, pos, af, g⟩).run c.P w = .ok (.value (.tuple #[])) (w.setRow g' (cur.toList.take (k * size) ++ (Builtin.zeroCells z.cells (n - k)).toList ++ cur.toList.drop (k * size + (n - k) * size)).toArray) := by
        simp only [execOp, resolve, invoke, builtin, hx1, hrun, List.map_toArray, List.map_cons, List.map_nil, Sem.run_bind, Sem.run_pure, Result.andThen_ok]
      refine fin _ hrun2 ?_ (setRow_grown w g' _)
      have hkn : k * size ≤ n * size := Nat.mul_le_mul_right _ hk
      refine ⟨by rw [List.length_take, hlen]; omega, .inr ⟨g', cp, _, rfl, Nat.zero_le _, setRow_heap w g' cur _ e _ hg, by omega, hcm, ?_, ?_⟩⟩
      · simp only [List.size_toArray, List.length_append, List.length_take, List.length_drop, Array.length_toList, hcl]
        omega
      · rw [List.toList_toArray, ← htake, List.take_take, Nat.min_eq_left hkn, List.append_assoc, List.take_append_of_le_length (by rw [List.length_take, Array.length_toList]; omega), List.take_take, Nat.min_self]
end
end Go.Eng

namespace Go.Ex
open Go Go.Eng
open szE (szL)
theorem evc_one (v : Xv) : ∀ x ∈ evc v, x.oneCell' = true := by
  intro x hx
  simp only [evc, List.mem_cons, List.not_mem_nil, or_false] at hx
  rcases hx with rfl | rfl | rfl <;> rfl
theorem evcs_one (ks : List Xv) : ∀ x ∈ ks.flatMap evc, x.oneCell' = true := by
  intro x hx
  obtain ⟨v, _, hv⟩ := List.mem_flatMap.1 hx
  exact evc_one v x hv
theorem evcs_len (ks : List Xv) : (ks.flatMap evc).length = ks.length * 3 := by rw [flat_len evc_len]
theorem evcs_take (ks : List Xv) (k : Nat) : (ks.flatMap evc).take (k * 3) = (ks.take k).flatMap evc := by
  induction k generalizing ks with
  | zero => simp
  | succ k ih =>
    cases ks with
    | nil => simp
    | cons v ks =>
      rw [List.flatMap_cons, List.take_succ_cons, List.flatMap_cons, List.take_append, evc_len, List.take_of_length_le (by rw [evc_len]; omega), show (k + 1) * 3 - 3 = k * 3 by omega, ih]
theorem evcs_drop (ks : List Xv) (k : Nat) : (ks.flatMap evc).drop (k * 3) = (ks.drop k).flatMap evc := by
  induction k generalizing ks with
  | zero => simp
  | succ k ih =>
    cases ks with
    | nil => simp
    | cons v ks =>
      rw [List.flatMap_cons, List.drop_succ_cons, List.drop_append, evc_len, List.drop_eq_nil_of_le (by rw [evc_len]; omega), List.nil_append, show (k + 1) * 3 - 3 = k * 3 by omega, ih]
/-- storing one kid -/
theorem evcs_set {ks : List Xv} {k : Nat} (hk : k < ks.length) (v : Xv) : (ks.flatMap evc).take (k * 3) ++ evc v ++ (ks.flatMap evc).drop (k * 3 + (evc v).length) = (ks.set k v).flatMap evc := by
  rw [evcs_take, show k * 3 + (evc v).length = (k + 1) * 3 by rw [evc_len]; omega, evcs_drop, ← List.flatMap_singleton evc v, ← List.flatMap_append, ← List.flatMap_append]
  congr 1
  rw [List.set_eq_take_append_cons_drop, if_pos hk, List.append_assoc]; rfl
theorem szL_len (l : List Ex) : l.length ≤ szL l := lens_szL l
/-! flatten -/
def fl1 (o : Int) (k : Xv) : List Xv := if k.op = o then k.ks else [k]
def flx (o : Int) (ks : List Xv) : List Xv := ks.flatMap (fl1 o)
theorem fl1_toE (o : Int) (k : Xv) : (fl1 o k).map toE = flat1 o (toE k) := by
  rw [fl1, flat1, toE_op, toE_ks]
  split <;> rfl
theorem flx_toE (o : Int) (ks : List Xv) : (flx o ks).map toE = flat o (ks.map toE) := by
  induction ks with
  | nil => rfl
  | cons k ks ih => rw [flx, List.flatMap_cons, List.map_append, fl1_toE, List.map_cons, flat]; exact congrArg _ ih
theorem flx_m {o : Int} {ks : List Xv} {w : World} (h : AllM ks w) : AllM (flx o ks) w := fun v hv => by
  obtain ⟨k, hk, h1⟩ := List.mem_flatMap.1 hv
  unfold fl1 at h1
  split at h1
  · exact (evm_iff.1 (h k hk)).2.1 v h1
  · rw [List.mem_singleton] at h1; rw [h1]; exact h k hk
theorem flx_len (o : Int) (ks : List Xv) : (flx o ks).length ≤ szL (ks.map toE) := by
  have h1 := szL_flat o (ks.map toE)
  have h2 := szL_len (flat o (ks.map toE))
  have h3 := congrArg List.length (flx_toE o ks)
  rw [List.length_map] at h3
  omega
theorem flx_take_s {o : Int} {ks : List Xv} {i : Nat} (h : i < ks.length) : flx o (ks.take (i + 1)) = flx o (ks.take i) ++ fl1 o (ks.getD i ev0) := by
  rw [take_s h, flx, List.flatMap_append, List.flatMap_singleton]; rfl
theorem flx_take_len {o : Int} {ks : List Xv} {i : Nat} (h : i < ks.length) : (flx o (ks.take i)).length + (fl1 o (ks.getD i ev0)).length ≤ szL (ks.map toE) := by
  have h1 := flx_len o (ks.take (i + 1))
  have h2 := szT_le ks (show i + 1 ≤ ks.length by omega) (Nat.le_refl _)
  unfold szT at h2
  rw [List.take_length] at h2
  rw [flx_take_s h, List.length_append] at h1
  omega
theorem fl1_yes {o : Int} {k : Xv} (h : k.op = o) : fl1 o k = k.ks := by rw [fl1, if_pos h]
theorem fl1_no {o : Int} {k : Xv} (h : ¬ k.op = o) : fl1 o k = [k] := by rw [fl1, if_neg h]
/-! keep what p does not hold of, in place -/
abbrev notp (p : Xv → Bool) (l : List Xv) : List Xv := l.filter fun x => !p x
theorem notp_take_s {p : Xv → Bool} {ks : List Xv} {i : Nat} (h : i < ks.length) : notp p (ks.take (i + 1)) = notp p (ks.take i) ++ (if p (ks.getD i ev0) = true then [] else [ks.getD i ev0]) := by
  rw [take_s h]
  show List.filter _ (_ ++ _) = _
  rw [List.filter_append, List.filter_cons, List.filter_nil]
  cases p (ks.getD i ev0) <;> rfl
structure DelI (p : Xv → Bool) (ks L : List Xv) (i j : Nat) : Prop where
  len : L.length = ks.length
  le : i ≤ j
  le2 : j ≤ ks.length
  kept : L.take i = notp p (ks.take j)
  rest : L.drop j = ks.drop j
theorem DelI.start {p : Xv → Bool} {ks : List Xv} {i : Nat} (hi : i < ks.length) (hall : ∀ j, j < i → p (ks.getD j ev0) = false) (hp : p (ks.getD i ev0) = true) : DelI p ks ks i (i + 1) := by
  refine ⟨rfl, by omega, by omega, ?_, rfl⟩
  rw [notp_take_s hi, if_pos hp, List.append_nil]
  symm
  refine List.filter_eq_self.2 fun x hx => ?_
  obtain ⟨j, hj, rfl⟩ := List.getElem_of_mem hx
  rw [List.length_take] at hj
  rw [List.getElem_take, ← getD_get (show j < ks.length by omega), hall j (by omega)]; rfl
theorem drop_at {L ks : List Xv} {j : Nat} (h : L.drop j = ks.drop j) : L.getD j ev0 = ks.getD j ev0 := by
  have := congrArg (fun l => l.getD 0 ev0) h
  simpa [List.getD_eq_getElem?_getD] using this
theorem DelI.skip {p : Xv → Bool} {ks L : List Xv} {i j : Nat} (h : DelI p ks L i j) (hj : j < ks.length) (hp : p (ks.getD j ev0) = true) : DelI p ks L i (j + 1) := by
  refine ⟨h.len, by have := h.le; omega, by omega, ?_, ?_⟩
  · rw [notp_take_s hj, if_pos hp, List.append_nil]; exact h.kept
  · rw [← List.drop_drop, h.rest, List.drop_drop]
theorem take_set_s {L : List Xv} {i : Nat} (h : i < L.length) (v : Xv) : (L.set i v).take (i + 1) = L.take i ++ [v] := by
  rw [List.take_add_one, List.take_set_of_le (Nat.le_refl _), List.getElem?_set_self h]; rfl
theorem DelI.keep {p : Xv → Bool} {ks L : List Xv} {i j : Nat} (h : DelI p ks L i j) (hj : j < ks.length) (hp : p (ks.getD j ev0) = false) : DelI p ks (L.set i (ks.getD j ev0)) (i + 1) (j + 1) := by
  have hle := h.le
  refine ⟨by rw [List.length_set]; exact h.len, by omega, by omega, ?_, ?_⟩
  · rw [notp_take_s hj, if_neg (by rw [hp]; simp), take_set_s (by rw [h.len]; omega), h.kept]
  · rw [List.drop_set_of_lt (by omega), ← List.drop_drop, h.rest, List.drop_drop]
theorem DelI.done {p : Xv → Bool} {ks L : List Xv} {i j : Nat} (h : DelI p ks L i j) (hj : ks.length ≤ j) : L.take i = notp p ks := by
  have := h.kept
  rwa [List.take_of_length_le hj] at this
theorem notp_toE {p : Xv → Bool} {q : Ex → Bool} (h : ∀ v, p v = q (toE v)) (ks : List Xv) : (notp p ks).map toE = (ks.map toE).filter fun e => !q e := by
  induction ks with
  | nil => rfl
  | cons k ks ih =>
    show (List.filter _ _).map _ = _
    rw [List.filter_cons, List.map_cons, List.filter_cons, h k]
    cases q (toE k)
    · exact congrArg (toE k :: ·) ih
    · exact ih
theorem notp_m {p : Xv → Bool} {ks : List Xv} {w : World} (h : AllM ks w) : AllM (notp p ks) w := fun v hv => h v (List.mem_filter.1 hv).1
theorem notp_len (p : Xv → Bool) (ks : List Xv) : (notp p ks).length ≤ ks.length := List.length_filter_le _ _
/-! one of equals, in place -/
def eqx (a b : Xv) : Bool := decide (cmpE (toE a) (toE b) = 0)
def kp (ks : List Xv) : Nat → List Xv
  | 0 => []
  | i + 1 => kp ks i ++ (if 0 < i ∧ eqx (ks.getD i ev0) (ks.getD (i - 1) ev0) = true then [] else [ks.getD i ev0])
theorem kp_first {ks : List Xv} {i : Nat} (hi : i ≤ ks.length) (h : ∀ j, 0 < j → j < i → eqx (ks.getD j ev0) (ks.getD (j - 1) ev0) = false) : kp ks i = ks.take i := by
  induction i with
  | zero => rfl
  | succ i ih =>
    rw [kp, ih (by omega) (fun j h1 h2 => h j h1 (by omega)), take_s (by omega), if_neg]
    rintro ⟨h1, h2⟩
    rw [h i h1 (by omega)] at h2; cases h2
structure CpI (ks L : List Xv) (i j : Nat) : Prop where
  len : L.length = ks.length
  pos : 0 < j
  le : i + 1 ≤ j
  le2 : j ≤ ks.length
  kept : L.take i = kp ks j
  rest : L.drop (j - 1) = ks.drop (j - 1)
theorem kp_skip {ks : List Xv} {j : Nat} (h0 : 0 < j) (h : eqx (ks.getD j ev0) (ks.getD (j - 1) ev0) = true) : kp ks (j + 1) = kp ks j := by rw [kp, if_pos ⟨h0, h⟩, List.append_nil]
theorem kp_keep {ks : List Xv} {j : Nat} (h : eqx (ks.getD j ev0) (ks.getD (j - 1) ev0) = false) : kp ks (j + 1) = kp ks j ++ [ks.getD j ev0] := by
  rw [kp, if_neg]
  rintro ⟨_, h2⟩
  rw [h] at h2; cases h2
theorem CpI.start {ks : List Xv} {i : Nat} (h0 : 0 < i) (hi : i < ks.length) (hall : ∀ j, 0 < j → j < i → eqx (ks.getD j ev0) (ks.getD (j - 1) ev0) = false) (h : eqx (ks.getD i ev0) (ks.getD (i - 1) ev0) = true) : CpI ks ks i (i + 1) :=
  ⟨rfl, by omega, by omega, by omega, by rw [kp_skip h0 h, kp_first (by omega) hall], rfl⟩
theorem CpI.skip {ks L : List Xv} {i j : Nat} (h : CpI ks L i j) (hj : j < ks.length) (he : eqx (ks.getD j ev0) (ks.getD (j - 1) ev0) = true) : CpI ks L i (j + 1) := by
  have := h.le; have h0 := h.pos
  refine ⟨h.len, by omega, by omega, by omega, by rw [kp_skip h0 he]; exact h.kept, ?_⟩
  have h1 := h.rest
  rw [show j + 1 - 1 = (j - 1) + 1 by omega, ← List.drop_drop, h1, List.drop_drop]
theorem CpI.keep {ks L : List Xv} {i j : Nat} (h : CpI ks L i j) (hj : j < ks.length) (he : eqx (ks.getD j ev0) (ks.getD (j - 1) ev0) = false) : CpI ks (L.set i (ks.getD j ev0)) (i + 1) (j + 1) := by
  have hle := h.le; have h0 := h.pos
  refine ⟨by rw [List.length_set]; exact h.len, by omega, by omega, by omega, ?_, ?_⟩
  · rw [kp_keep he, take_set_s (by rw [h.len]; omega), h.kept]
  · have h1 := h.rest
    rw [show j + 1 - 1 = (j - 1) + 1 by omega, List.drop_set_of_lt (by omega), ← List.drop_drop, h1, List.drop_drop]
theorem CpI.at {ks L : List Xv} {i j : Nat} (h : CpI ks L i j) : L.getD j ev0 = ks.getD j ev0 ∧ L.getD (j - 1) ev0 = ks.getD (j - 1) ev0 := by
  have h0 := h.pos
  refine ⟨drop_at ?_, drop_at h.rest⟩
  have h1 := h.rest
  rw [show j = (j - 1) + 1 by omega, ← List.drop_drop, h1, List.drop_drop]
theorem kp_mem {ks : List Xv} {v : Xv} : ∀ {i : Nat}, i ≤ ks.length → v ∈ kp ks i → v ∈ ks := by
  intro i
  induction i with
  | zero => intro _ h; cases h
  | succ i ih =>
    intro hi h
    rw [kp] at h
    rcases List.mem_append.1 h with h | h
    · exact ih (by omega) h
    · split at h
      · cases h
      · rw [List.mem_singleton] at h
        rw [h, getD_get (show i < ks.length by omega)]; exact List.getElem_mem _
theorem eqx_iff {a b : Xv} : eqx a b = true ↔ toE a = toE b := by rw [eqx, decide_eq_true_eq]; exact cmp_zero _ _
theorem kpA : ∀ (d : List Xv) (pre : List Xv) (a : Xv) (last : Xv), toE last = toE a →
    (kp (pre ++ last :: d) (pre.length + 1 + d.length)).map toE = ((kp (pre ++ last :: d) (pre.length + 1)).map toE) ++ (cmptA (toE a) (d.map toE)).tail ∧ (cmptA (toE a) (d.map toE)).head? = some (toE a) := by
  intro d
  induction d with
  | nil => intro pre a last _; simp [cmptA]
  | cons x d ih =>
    intro pre a last hl
    have e1 : pre ++ last :: x :: d = (pre ++ [last]) ++ x :: d := by simp
    have hx : (pre ++ last :: x :: d).getD (pre.length + 1) ev0 = x := by simp [List.getD_eq_getElem?_getD]
    have hp : (pre ++ last :: x :: d).getD (pre.length + 1 - 1) ev0 = last := by simp [List.getD_eq_getElem?_getD]
    have hn : pre.length + 1 + (x :: d).length = (pre ++ [last]).length + 1 + d.length := by simp; omega
    have hk : kp (pre ++ last :: x :: d) (pre.length + 1 + 1) = kp (pre ++ last :: x :: d) (pre.length + 1) ++ (if eqx x last = true then [] else [x]) := by
      rw [kp, hx, hp]
      congr 1
      by_cases h : eqx x last = true
      · rw [if_pos ⟨by omega, h⟩, if_pos h]
      · rw [if_neg (fun hh => h hh.2), if_neg h]
    rw [List.map_cons, cmptA]
    by_cases he : toE x = toE a
    · have h0 : cmpE (toE x) (toE a) = 0 := (cmp_zero _ _).2 he
      rw [if_pos h0]
      have := ih (pre ++ [last]) a x he
      refine ⟨?_, this.2⟩
      rw [hn]
      rw [e1] at hk ⊢
      rw [this.1]
      congr 1
      have hl2 : (pre ++ [last]).length + 1 = pre.length + 1 + 1 := by simp
      rw [hl2, hk, if_pos (eqx_iff.2 (he.trans hl.symm)), List.append_nil]
    · have h0 : ¬ cmpE (toE x) (toE a) = 0 := fun h => he ((cmp_zero _ _).1 h)
      rw [if_neg h0]
      have := ih (pre ++ [last]) x x rfl
      refine ⟨?_, rfl⟩
      rw [hn]
      rw [e1] at hk ⊢
      rw [this.1]
      have hl2 : (pre ++ [last]).length + 1 = pre.length + 1 + 1 := by simp
      rw [hl2, hk, if_neg (fun h => he ((eqx_iff.1 h).trans hl)), List.map_append, List.append_assoc, List.tail_cons]
      congr 1
      have h2 := this.2
      cases hc : cmptA (toE x) (d.map toE) with
      | nil => rw [hc] at h2; cases h2
      | cons y l => rw [hc] at h2; cases h2; rfl
theorem kp_toE (ks : List Xv) : (kp ks ks.length).map toE = cmpt (ks.map toE) := by
  cases ks with
  | nil => rfl
  | cons a d =>
    have h := kpA d [] a a rfl
    have h1 := h.1
    rw [List.map_cons, cmpt]
    have e : ([] : List Xv).length + 1 + d.length = (a :: d).length := by simp; omega
    rw [e, List.nil_append] at h1
    rw [h1]
    have h2 := h.2
    cases hc : cmptA (toE a) (d.map toE) with
    | nil => rw [hc] at h2; cases h2
    | cons y l => rw [hc] at h2; cases h2; rfl
end Go.Ex

namespace Go.Eng
open Go
theorem owns_max {w : World} {base : Nat} {e : TypeId} {size n cp len : Nat} {a : Option Addr} {xs : List Value} (h : w.ownsRow base e size (.slice a n cp) len xs) : len ≤ 9223372036854775807 := by
  rcases h.2 with ⟨_, h2⟩ | ⟨g, cap, cur, _, _, _, hnc, hcm, _⟩
  · omega
  · unfold maxLen at hcm; omega
end Go.Eng
namespace Go.Ex
open Go Go.Eng
end Go.Ex
namespace Go.Eng
open Go Go.Ex
/-- a row of kids in memory, as a list of kids -/
theorem HOk.kinS {c : Cx} {H : List Chunk} {w : World} (h : HOk c H w) {e : TypeId} {a : Option Addr} {n cp : Nat} {ks : List Xv} (hh : Has H (.row e 3 (.slice a n cp) n (ks.flatMap evc))) (hm : Stays [] w (AllM ks)) : Stays [] w (kin a ks) := by
  intro w' he
  have hown : World.ownsRow w' 0 e 3 (.slice a n cp) n (ks.flatMap evc) := h.staysK0 hh w' he
  have h1 := hown.1
  rw [evcs_len] at h1
  have h2 := owns_max hown
  exact ⟨Rd.of_owns hown, hm w' he, by omega⟩
end Go.Eng
namespace Go.Ex
open Go Go.Eng
theorem ixf_pos {p : Xv → Bool} {ks : List Xv} (h : ¬ ixf p ks = -1) : ∃ i, i < ks.length ∧ ixf p ks = (i : Int) ∧ (∀ j, j < i → p (ks.getD j ev0) = false) ∧ p (ks.getD i ev0) = true := by
  unfold ixf at h ⊢
  cases hf : ks.findIdx? p with
  | none => rw [hf] at h; exact absurd rfl h
  | some i =>
    rw [List.findIdx?_eq_some_iff_getElem] at hf
    obtain ⟨hi, h1, h2⟩ := hf
    refine ⟨i, hi, rfl, fun j hj => ?_, by rw [getD_get hi]; exact h1⟩
    rw [getD_get (show j < ks.length by omega)]
    simpa using h2 j hj
theorem notp_none {p : Xv → Bool} {ks : List Xv} (h : ixf p ks = -1) : notp p ks = ks := by
  refine List.filter_eq_self.2 fun x hx => ?_
  unfold ixf at h
  cases hf : ks.findIdx? p with
  | none =>
    rw [List.findIdx?_eq_none_iff] at hf
    rw [hf x hx]; rfl
  | some i => rw [hf] at h; exact absurd h (by show ¬ (i : Int) = -1; omega)
theorem DelI.at {p : Xv → Bool} {ks L : List Xv} {i j : Nat} (h : DelI p ks L i j) : L.getD j ev0 = ks.getD j ev0 := drop_at h.rest
theorem DelI.fin {p : Xv → Bool} {ks L : List Xv} {i j : Nat} (h : DelI p ks L i j) (hj : ks.length ≤ j) : (notp p ks).length = i := by
  rw [← h.done hj, List.length_take, h.len]
  have := h.le; have := h.le2
  omega
theorem CpI.fin {ks L : List Xv} {i j : Nat} (h : CpI ks L i j) (hj : ks.length ≤ j) : L.take i = kp ks ks.length ∧ (kp ks ks.length).length = i := by
  have h1 := h.le; have h2 := h.le2
  obtain rfl : j = ks.length := by omega
  refine ⟨h.kept, ?_⟩
  rw [← h.kept, List.length_take, h.len]
  omega
theorem drop_getD (L : List Xv) (k m : Nat) : (L.drop k).getD m ev0 = L.getD (k + m) ev0 := by rw [List.getD_eq_getElem?_getD, List.getD_eq_getElem?_getD, List.getElem?_drop]
theorem kp_all {ks : List Xv} (h : ∀ j, 0 < j → j < ks.length → eqx (ks.getD j ev0) (ks.getD (j - 1) ev0) = false) : kp ks ks.length = ks := by
  rw [kp_first (Nat.le_refl _) h, List.take_length]
theorem kp_short {ks : List Xv} (h : ks.length < 2) : kp ks ks.length = ks := kp_all fun j h1 h2 => by omega
theorem firsts_s {p : Nat → Bool} {k : Nat} (h : ∀ j, 0 < j → j < k → p j = false) (hk : p k = false) : ∀ j, 0 < j → j < k + 1 → p j = false := fun j h1 h2 => by
  rcases Nat.lt_or_ge j k with h3 | h3
  · exact h j h1 h3
  · obtain rfl : j = k := by omega
    exact hk
end Go.Ex

namespace Go.Eng
open Go Go.Ex
section
variable {c : Cx} {w : World} {A B : World → Prop} {H : List Chunk}
theorem HOk.fxUp {vs : List Xv} {bs : List Nat} (h : HOk c (fx A vs bs :: H) w) (hA : ∀ w, B w → A w) : HOk c (fx B vs bs :: H) w := h.weaken fun w hp hb => hp (hA w hb)
theorem HOk.fxAddA {vs us rs : List Xv} {bs bs' : List Nat} (h : HOk c (fx (AllM us) rs bs' :: fx A vs bs :: H) w) (hu : ∀ w, A w → AllM us w) : HOk c (fx A (rs ++ vs) (blks [fx (AllM us) rs bs', fx A vs bs]) :: H) w := by
  refine h.bind (L := [fx (AllM us) rs bs', fx A vs bs]) (.cons .here (.cons .here .nil)) fun w hk ha v hv => ?_
  have h1 := (hk _ List.mem_cons_self).2 w (fun _ _ => rfl)
  have h2 := (hk _ (List.mem_cons_of_mem _ List.mem_cons_self)).2 w (fun _ _ => rfl) ha
  rcases List.mem_append.1 hv with hv | hv
  · exact h1 (hu w ha) v hv
  · exact h2 v hv
/-- a row of kids, and what was made of it -/
theorem HOk.fxRow {e : TypeId} {n cp : Nat} {a : Option Addr} {us : List Xv} {v : Xv} (h : HOk c (.row e 3 (.slice a n cp) n (us.flatMap evc) :: H) w) (hu : ∀ w, A w → AllM us w) (hv : ∀ w, A w → kin a us w → evm v w) :
    HOk c (fx A [v] (blks [.row e 3 (.slice a n cp) n (us.flatMap evc)]) :: H) w := by
  refine h.bind (L := [.row e 3 (.slice a n cp) n (us.flatMap evc)]) (.cons .here .nil) fun w hh ha x hx => ?_
  have hown := (show World.ownsRow w 0 e 3 (.slice a n cp) n (us.flatMap evc) from hh _ List.mem_cons_self)
  have h1 := hown.1
  rw [evcs_len] at h1
  have h2 := owns_max hown
  rw [List.mem_singleton] at hx
  rw [hx]
  exact hv w ha ⟨Rd.of_owns hown, hu w ha, by omega⟩
theorem HOk.fxRow2 {e : TypeId} {n cp : Nat} {a : Option Addr} {us vs : List Xv} {bs : List Nat} {v : Xv} (h : HOk c (.row e 3 (.slice a n cp) n (us.flatMap evc) :: fx B vs bs :: H) w) (hB : ∀ w, A w → B w) (hu : ∀ w, A w → AllM vs w → AllM us w) (hv : ∀ w, A w → AllM vs w → kin a us w → evm v w) :
    HOk c (fx A [v] (blks [.row e 3 (.slice a n cp) n (us.flatMap evc), fx B vs bs]) :: H) w := by
  refine h.bind (L := [.row e 3 (.slice a n cp) n (us.flatMap evc), fx B vs bs]) (.cons .here (.cons .here .nil)) fun w hh ha x hx => ?_
  have hown := (show World.ownsRow w 0 e 3 (.slice a n cp) n (us.flatMap evc) from hh _ List.mem_cons_self)
  have hvs := (hh _ (List.mem_cons_of_mem _ List.mem_cons_self)).2 w (fun _ _ => rfl) (hB w ha)
  have h1 := hown.1
  rw [evcs_len] at h1
  have h2 := owns_max hown
  rw [List.mem_singleton] at hx
  rw [hx]
  exact hv w ha hvs ⟨Rd.of_owns hown, hu w ha hvs, by omega⟩
end
end Go.Eng
namespace Go.Ex
open Go Go.Eng
open szE (szL)
theorem AllM.nil (w : World) : AllM [] w := fun _ h => by cases h
theorem AllM.one {v : Xv} {w : World} : AllM [v] w ↔ evm v w := ⟨fun h => h v List.mem_cons_self, fun h x hx => by rw [List.mem_singleton] at hx; rw [hx]; exact h⟩
theorem any_isOp (o : Int) (ks : List Xv) : (ks.any fun k => isOp o (toE k)) = (ks.map toE).any (isOp o) := by rw [List.any_map]; rfl
theorem any_isUni (ks : List Xv) : (ks.any fun k => isUni (toE k)) = (ks.map toE).any isUni := by rw [List.any_map]; rfl
theorem join_4 {o : Int} {ks : List Ex} (h : o = 4) : join o ks = jUni ks := by delta join; rw [if_pos h]
theorem join_5 {o : Int} {ks : List Ex} (h4 : ¬ o = 4) (h : o = 5) : join o ks = jCat ks := by delta join; rw [if_neg h4, if_pos h]
theorem join_6 {o : Int} {ks : List Ex} (h4 : ¬ o = 4) (h5 : ¬ o = 5) (h : o = 6) : join o ks = jAnd ks := by delta join; rw [if_neg h4, if_neg h5, if_pos h]
theorem join_n {o : Int} {ks : List Ex} (h4 : ¬ o = 4) (h5 : ¬ o = 5) (h6 : ¬ o = 6) (h : ¬ ks.length = 1) : join o ks = zeroE := by
  delta join; rw [if_neg h4, if_neg h5, if_neg h6]
  match ks, h with
  | [], _ => rfl
  | _ :: _ :: _, _ => rfl
  | [_], h => exact absurd rfl h
theorem join_8 {o : Int} {k : Ex} (h : o = 8) : join o [k] = jNot k := by delta join; rw [if_neg (by omega), if_neg (by omega), if_neg (by omega)]; exact if_pos h
theorem join_7 {o : Int} {k : Ex} (h : o = 7) : join o [k] = jStar k := by delta join; rw [if_neg (by omega), if_neg (by omega), if_neg (by omega)]; show (if o = 8 then _ else _) = _; rw [if_neg (by omega), if_pos h]
theorem join_0 {o : Int} {k : Ex} (h4 : ¬ o = 4) (h5 : ¬ o = 5) (h6 : ¬ o = 6) (h7 : ¬ o = 7) (h8 : ¬ o = 8) : join o [k] = zeroE := by delta join; rw [if_neg h4, if_neg h5, if_neg h6]; show (if o = 8 then _ else _) = _; rw [if_neg h8, if_neg h7]
theorem repl_evc (n : Nat) : (List.replicate n (evc ev0)).flatten = (List.replicate n ev0).flatMap evc := by rw [List.flatMap_def, List.map_replicate]
theorem jNot_in {k : Xv} (h : k.op = 8) (h1 : k.ks.length = 1) : jNot (toE k) = toE (k.ks.getD 0 ev0) := by
  rw [jNot, toE_op, toE_ks, List.length_map, if_pos ⟨h, h1⟩]
  obtain ⟨x, hx⟩ := List.length_eq_one_iff.1 h1
  rw [hx]; rfl
theorem jNot_out {k : Xv} (h : ¬ (k.op = 8 ∧ k.ks.length = 1)) : jNot (toE k) = .mk 8 0 [toE k] := by
  rw [jNot, toE_op, toE_ks, List.length_map, if_neg h]
theorem jStar_u {k : Xv} (h : k.op = 1 ∨ k.op = 2) : jStar (toE k) = unit := by rw [jStar, toE_op, if_pos h]
theorem jStar_k {k : Xv} (h : ¬ (k.op = 1 ∨ k.op = 2)) (h1 : k.op = 7 ∨ isUni (toE k) = true) : jStar (toE k) = toE k := by rw [jStar, toE_op, if_neg h, if_pos h1]
theorem jStar_n {k : Xv} (h : ¬ (k.op = 1 ∨ k.op = 2)) (h1 : ¬ (k.op = 7 ∨ isUni (toE k) = true)) : jStar (toE k) = .mk 7 0 [toE k] := by rw [jStar, toE_op, if_neg h, if_neg h1]
end Go.Ex
namespace Go.Ex
open Go Go.Eng
open szE (szL)
open simp (simpL)
theorem map_of_at {L ks : List Xv} {f : Ex → Ex} (hl : L.length = ks.length) (h : ∀ j, j < ks.length → toE (L.getD j ev0) = f (toE (ks.getD j ev0))) : L.map toE = (ks.map toE).map f := by
  refine List.ext_getElem (by simp [hl]) fun j h1 h2 => ?_
  rw [List.length_map] at h1
  have h3 : j < ks.length := by omega
  have := h j h3
  rw [getD_get h1, getD_get h3] at this
  simpa using this
theorem simp_toE_nil {v : Xv} (h : v.ks.length = 0) : toE (lfv v.op v.lt) = simp (toE v) := by
  have h1 : v.ks = [] := List.eq_nil_of_length_eq_zero h
  rw [toE_eq v, h1]; exact (simp_nil _ _).symm
theorem simp_toE {v : Xv} {L : List Xv} (h : ¬ v.ks.length = 0) (hl : L.length = v.ks.length) (hj : ∀ j, j < v.ks.length → toE (L.getD j ev0) = simp (toE (v.ks.getD j ev0))) : join v.op (L.map toE) = simp (toE v) := by
  rw [map_of_at hl hj, toE_eq v, simp_cons]
  intro hh
  have := congrArg List.length hh
  rw [List.length_map] at this
  exact h this
theorem simpk_sz {l : Int} : ∀ {ks : List Ex}, (∀ k ∈ ks, wf l k = true) → szL (ks.map simp) ≤ szL ks := by
  intro ks
  induction ks with
  | nil => intro _; exact Nat.le_refl _
  | cons k ks ih =>
    intro h
    rw [List.map_cons, szL, szL]
    have h1 := (simp_sz k (h k List.mem_cons_self)).1
    have h2 := ih fun x hx => h x (List.mem_cons_of_mem _ hx)
    omega
theorem wf_kid {l : Int} {v : Xv} (h : wf l (toE v) = true) : ∀ k ∈ v.ks, wf l (toE k) = true := fun k hk => wf_kids h _ (by rw [toE_ks]; exact List.mem_map.2 ⟨k, hk, rfl⟩)
theorem kid_sz {v : Xv} {k : Xv} (hk : k ∈ v.ks) : szE (toE k) < szE (toE v) := by
  have h1 : toE k ∈ (toE v).ks := by rw [toE_ks]; exact List.mem_map.2 ⟨k, hk, rfl⟩
  have h2 := szL_mem h1
  have h3 := szE_eq (toE v)
  omega
theorem kids_sz (v : Xv) : szE (toE v) = 1 + szL (v.ks.map toE) := by rw [szE_eq, toE_ks]
theorem kids_len (v : Xv) : v.ks.length < szE (toE v) := by have := kids_sz v; have h := szL_len (v.ks.map toE); rw [List.length_map] at h; omega
theorem simp_res_sz {l : Int} {v : Xv} {L : List Xv} (hw : wf l (toE v) = true) (hl : L.length = v.ks.length) (hj : ∀ j, j < v.ks.length → toE (L.getD j ev0) = simp (toE (v.ks.getD j ev0))) : szL (L.map toE) < szE (toE v) := by
  rw [map_of_at hl hj, kids_sz]
  have := simpk_sz (l := l) (ks := v.ks.map toE) (fun k hk => by obtain ⟨x, hx, rfl⟩ := List.mem_map.1 hk; exact wf_kid hw x hx)
  omega
/-- one more of the kids -/
theorem at_s {L : List Xv} {k : Nat} {r : Xv} {p : Nat → Ex} (hk : k < L.length) (h : ∀ j, j < k → toE (L.getD j ev0) = p j) (hr : toE r = p k) : ∀ j, j < k + 1 → toE ((L.set k r).getD j ev0) = p j := fun j hj => by
  rw [List.getD_eq_getElem?_getD]
  rcases Nat.lt_or_ge j k with h1 | h1
  · rw [List.getElem?_set_ne (by omega), ← List.getD_eq_getElem?_getD]; exact h j h1
  · obtain rfl : j = k := by omega
    rw [List.getElem?_set_self hk]; exact hr
theorem set_m {L : List Xv} {k : Nat} {r : Xv} {w : World} (h : AllM ([r] ++ L) w) : AllM (L.set k r) w := fun v hv => by
  rcases List.mem_or_eq_of_mem_set hv with h1 | h1
  · exact h v (List.mem_cons_of_mem _ h1)
  · rw [h1]; exact h r List.mem_cons_self
end Go.Ex

namespace Go.Ex
open Go Go.Eng
open szE (szL)
open fmtE (fmtK fmtR)
theorem par_len (b : Bool) (t : Tx) : (par b t).length ≤ t.length + 2 := by
  cases b
  · rw [par_f]; simp
  · rw [par_t]; omega
theorem fmtR_len {sep : Tx} {c : Nat} (hs : sep.length ≤ 1) : ∀ {ks : List Ex}, (∀ k ∈ ks, (fmtE k).length + 3 ≤ 4 * szE k) → (fmtR sep c ks).length ≤ 4 * szL ks := by
  intro ks
  induction ks with
  | nil => intro _; rw [fmtR]; exact Nat.zero_le _
  | cons k ks ih =>
    intro h
    have h1 := ih fun x hx => h x (List.mem_cons_of_mem _ hx)
    have h2 := h k List.mem_cons_self
    have h3 := par_len (decide (c ≤ lev k.op)) (fmtE k)
    rw [fmtR, List.length_append, List.length_append, szL]
    omega
theorem fmtK_len {sep : Tx} {c : Nat} (hs : sep.length ≤ 1) {ks : List Ex} (h : ∀ k ∈ ks, (fmtE k).length + 3 ≤ 4 * szE k) : (fmtK sep c ks).length ≤ 4 * szL ks := by
  cases ks with
  | nil => rw [fmtK]; exact Nat.zero_le _
  | cons k ks =>
    have h1 := fmtR_len (c := c) hs fun x hx => h x (List.mem_cons_of_mem _ hx)
    have h2 := h k List.mem_cons_self
    have h3 := par_len (decide (c ≤ lev k.op)) (fmtE k)
    rw [fmtK, List.length_append, szL]
    omega
theorem fmt_len : ∀ e, (fmtE e).length + 3 ≤ 4 * szE e := by
  refine Ex.ind fun o l ks ih => ?_
  have e1 : ∀ (sep : Tx) (c : Nat), sep.length ≤ 1 → (fmtK sep c ks).length ≤ 4 * szL ks := fun sep c hs => fmtK_len hs ih
  have a1 := e1 [124] 2 (by decide)
  have a2 := e1 [38] 3 (by decide)
  have a3 := e1 [] 4 (by decide)
  have a4 := e1 [] 5 (by decide)
  rw [fmtE, szE]
  repeat' split
  all_goals first | omega | (simp only [List.length_cons, List.length_nil, List.length_append]; omega)
theorem fmtR_snoc (sep : Tx) (c : Nat) (ks : List Ex) (k : Ex) : fmtR sep c (ks ++ [k]) = fmtR sep c ks ++ (sep ++ par (decide (c ≤ lev k.op)) (fmtE k)) := by
  induction ks with
  | nil => rw [List.nil_append, fmtR]; simp [fmtR]
  | cons x ks ih => rw [List.cons_append, fmtR, fmtR, ih]; simp only [List.append_assoc]
theorem fmtK_snoc (sep : Tx) (c : Nat) (ks : List Ex) (k : Ex) : fmtK sep c (ks ++ [k]) = fmtK sep c ks ++ ((if ks.length = 0 then [] else sep) ++ par (decide (c ≤ lev k.op)) (fmtE k)) := by
  cases ks with
  | nil => rw [List.nil_append, fmtK, fmtK, fmtR, List.append_nil]; rfl
  | cons x ks => rw [List.cons_append, fmtK, fmtK, fmtR_snoc, List.append_assoc, if_neg (by simp)]
/-- the text of the first kids -/
def ktx (sep : Tx) (c : Nat) (ks : List Xv) (i : Nat) : Tx := fmtK sep c ((ks.take i).map toE)
theorem ktx_0 (sep : Tx) (c : Nat) (ks : List Xv) : ktx sep c ks 0 = [] := by rw [ktx, List.take_zero, List.map_nil, fmtK]
theorem ktx_s {sep : Tx} {c : Nat} {ks : List Xv} {i : Nat} (h : i < ks.length) : ktx sep c ks (i + 1) = ktx sep c ks i ++ ((if i = 0 then [] else sep) ++ par (decide (c ≤ lev (ks.getD i ev0).op)) (fmtE (toE (ks.getD i ev0)))) := by
  rw [ktx, take_s h, List.map_append, List.map_singleton, fmtK_snoc, toE_op, List.length_map, List.length_take, Nat.min_eq_left (by omega)]; rfl
theorem ktx_full (sep : Tx) (c : Nat) (ks : List Xv) : ktx sep c ks ks.length = fmtK sep c (ks.map toE) := by rw [ktx, List.take_length]
theorem ktx_len {sep : Tx} {c : Nat} {ks : List Xv} (hs : sep.length ≤ 1) (i : Nat) : (ktx sep c ks i).length ≤ 4 * szT ks i := fmtK_len hs fun k _ => fmt_len k
theorem szT_all (ks : List Xv) : szT ks ks.length = szL (ks.map toE) := by rw [szT, List.take_length]
theorem fmt_1 {v : Xv} (h : v.op = 1) : fmtE (toE v) = [48] := by rw [toE_eq, fmtE, if_pos h]
theorem fmt_2 {v : Xv} (h : v.op = 2) : fmtE (toE v) = [49] := by rw [toE_eq, fmtE, if_neg (by omega), if_pos h]
theorem fmt_3 {v : Xv} (h : v.op = 3) : fmtE (toE v) = [UInt8.ofNat (97 + v.lt.toNat)] := by rw [toE_eq, fmtE, if_neg (by omega), if_neg (by omega), if_pos h]
theorem fmt_4 {v : Xv} (h : v.op = 4) : fmtE (toE v) = fmtK [124] 2 (v.ks.map toE) := by rw [toE_eq, fmtE, if_neg (by omega), if_neg (by omega), if_neg (by omega), if_pos h]
theorem fmt_6 {v : Xv} (h : v.op = 6) : fmtE (toE v) = fmtK [38] 3 (v.ks.map toE) := by rw [toE_eq, fmtE, if_neg (by omega), if_neg (by omega), if_neg (by omega), if_neg (by omega), if_pos h]
theorem fmt_5 {v : Xv} (h : v.op = 5) : fmtE (toE v) = fmtK [] 4 (v.ks.map toE) := by rw [toE_eq, fmtE, if_neg (by omega), if_neg (by omega), if_neg (by omega), if_neg (by omega), if_neg (by omega), if_pos h]
theorem fmt_8 {v : Xv} (h : v.op = 8) : fmtE (toE v) = [33] ++ fmtK [] 4 (v.ks.map toE) := by rw [toE_eq, fmtE, if_neg (by omega), if_neg (by omega), if_neg (by omega), if_neg (by omega), if_neg (by omega), if_neg (by omega), if_pos h]; rfl
theorem fmt_7 {v : Xv} (h : v.op = 7) : fmtE (toE v) = fmtK [] 5 (v.ks.map toE) ++ [42] := by rw [toE_eq, fmtE, if_neg (by omega), if_neg (by omega), if_neg (by omega), if_neg (by omega), if_neg (by omega), if_neg (by omega), if_neg (by omega), if_pos h]
theorem fmt_0 {v : Xv} (h1 : ¬ v.op = 1) (h2 : ¬ v.op = 2) (h3 : ¬ v.op = 3) (h4 : ¬ v.op = 4) (h6 : ¬ v.op = 6) (h5 : ¬ v.op = 5) (h8 : ¬ v.op = 8) (h7 : ¬ v.op = 7) : fmtE (toE v) = [] := by rw [toE_eq, fmtE, if_neg h1, if_neg h2, if_neg h3, if_neg h4, if_neg h6, if_neg h5, if_neg h8, if_neg h7]
theorem wf_letter {L : Int} {v : Xv} (hw : wf L (toE v) = true) (h : v.op = 3) : 0 ≤ v.lt ∧ v.lt < L := by
  rw [wf_op3 h, decide_eq_true_eq] at hw
  exact hw.2
theorem lev_if (o : Int) : (if o = 4 then (1 : Int) else if o = 6 then 2 else if o = 5 then 3 else if o = 8 then 4 else if o = 7 then 5 else 6) = ((lev o : Nat) : Int) := by
  unfold lev
  repeat' split
  all_goals rfl
end Go.Ex

namespace Go.Ex
open Go Go.Eng
open szE (szL)
open dv (dvL dvC)
/-! derivatives in memory -/
abbrev drl (a b : Xv) (q : Bool) : List Value := [.int .i64 a.op, .int .i64 a.lt, .slice a.a a.ks.length a.c, .int .i64 b.op, .int .i64 b.lt, .slice b.a b.ks.length b.c, .bool q]
abbrev drv (a b : Xv) (q : Bool) : Value := .agg #[.int .i64 a.op, .int .i64 a.lt, .slice a.a a.ks.length a.c, .int .i64 b.op, .int .i64 b.lt, .slice b.a b.ks.length b.c, .bool q]
section
variable {n : Bool} {x : Int} {v : Xv}
theorem dv_2 (h : v.op = 2) : dv n x (toE v) = ⟨emp, unit, true⟩ := by rw [toE_eq, dv, if_pos h]
theorem dv_3 (h : v.op = 3) : dv n x (toE v) = ⟨if v.lt = x then unit else emp, .mk 3 v.lt [], false⟩ := by rw [toE_eq, dv, if_neg (by omega), if_pos h]
theorem dv_b (h : v.op = 4 ∨ v.op = 6 ∨ v.op = 8) : dv n x (toE v) = dBool v.op ((v.ks.map toE).map (dv n x)) := by rw [toE_eq, dv, if_neg (by omega), if_neg (by omega), if_pos h, dvL_map]
theorem dv_7 (h : v.op = 7) (h1 : v.ks.length = 1) : dv n x (toE v) = ⟨join 5 [(dv n x (toE (v.ks.getD 0 ev0))).by', join 7 [(dv n x (toE (v.ks.getD 0 ev0))).self]], join 7 [(dv n x (toE (v.ks.getD 0 ev0))).self], true⟩ := by
  obtain ⟨k, hk⟩ := List.length_eq_one_iff.1 h1
  rw [toE_eq, dv, if_neg (by omega), if_neg (by omega), if_neg (by omega), if_pos h, hk]
  rfl
theorem dv_5 (h : v.op = 5) : dv n x (toE v) = ⟨join 4 (catP (dvC n x (v.ks.map toE)).1 (dvC n x (v.ks.map toE)).2.1), join 5 (dvC n x (v.ks.map toE)).2.1, (dvC n x (v.ks.map toE)).2.2⟩ := by
  rw [toE_eq, dv, if_neg (by omega), if_neg (by omega), if_neg (by omega), if_neg (by omega), if_pos h]
theorem dv_0 (h2 : ¬ v.op = 2) (h3 : ¬ v.op = 3) (h4 : ¬ (v.op = 4 ∨ v.op = 6 ∨ v.op = 8)) (h7 : ¬ v.op = 7) (h5 : ¬ v.op = 5) : dv n x (toE v) = ⟨emp, emp, false⟩ := by
  rw [toE_eq, dv, if_neg h2, if_neg h3, if_neg h4, if_neg h7, if_neg h5]
end
theorem wf_one {L : Int} {v : Xv} (hw : wf L (toE v) = true) (h : v.op = 7 ∨ v.op = 8) : v.ks.length = 1 := by
  rw [wf_toE, Bool.and_eq_true, wfN_iff, decide_eq_true_eq] at hw
  omega
/-- the kids' derivatives, so far -/
def dks (n : Bool) (x : Int) (ks : List Xv) : List Dr := (ks.map toE).map (dv n x)
theorem dks_len (n : Bool) (x : Int) (ks : List Xv) : (dks n x ks).length = ks.length := by rw [dks, List.length_map, List.length_map]
def cntT (n : Bool) (x : Int) (ks : List Xv) (i : Nat) : Nat := cntN (dks n x (ks.take i))
theorem cntT_s {n : Bool} {x : Int} {ks : List Xv} {i : Nat} (h : i < ks.length) : cntT n x ks (i + 1) = cntT n x ks i + if (dv n x (toE (ks.getD i ev0))).nl = true then 1 else 0 := by
  rw [cntT, take_s h, dks, List.map_append, List.map_append, cntN, List.filter_append, List.length_append]
  congr 1
  show (List.filter (·.nl) [dv n x (toE (ks.getD i ev0))]).length = _
  generalize dv n x (toE (ks.getD i ev0)) = d
  obtain ⟨_, _, q⟩ := d
  cases q <;> rfl
theorem cntT_le (n : Bool) (x : Int) (ks : List Xv) (i : Nat) : cntT n x ks i ≤ i := by
  unfold cntT cntN
  refine Nat.le_trans (List.length_filter_le _ _) ?_
  rw [dks_len, List.length_take]; omega
theorem cntT_full (n : Bool) (x : Int) (ks : List Xv) : cntT n x ks ks.length = cntN (dks n x ks) := by rw [cntT, List.take_length]
theorem map_at {L ks : List Xv} {n : Bool} {x : Int} {f : Dr → Ex} (hl : L.length = ks.length) (h : ∀ j, j < ks.length → toE (L.getD j ev0) = f (dv n x (toE (ks.getD j ev0)))) : L.map toE = (dks n x ks).map f := by
  rw [map_of_at (f := fun e => f (dv n x e)) hl h, dks, List.map_map, List.map_map, List.map_map]; rfl
theorem dsz {n : Bool} {x : Int} {v : Xv} (hw : wf 6 (toE v) = true) (hz : szE (toE v) ≤ 400) : szE (dv n x (toE v)).by' ≤ 128000000 ∧ szE (dv n x (toE v)).self ≤ 400 := by
  obtain ⟨a, b⟩ := dv_sz (n := n) (x := x) (toE v) hw
  have : szE (toE v) ^ 3 ≤ 400 ^ 3 := Nat.pow_le_pow_left hz 3
  have h4 : (400 : Nat) ^ 3 = 64000000 := by decide
  omega
theorem dsz_by {n : Bool} {x : Int} {v : Xv} (hw : wf 6 (toE v) = true) (hz : szE (toE v) ≤ 400) : szL ((dks n x v.ks).map (·.by')) ≤ 128000000 := by
  have h1 : szL ((dks n x v.ks).map (·.by')) ≤ 2 * szL (v.ks.map toE) ^ 3 := by
    rw [dks, List.map_map]
    exact szL_cubes fun k hk => by
      obtain ⟨y, hy, rfl⟩ := List.mem_map.1 hk
      exact (dv_sz (toE y) (wf_kid hw y hy)).1
  have h2 := kids_sz v
  have : szL (v.ks.map toE) ^ 3 ≤ 400 ^ 3 := Nat.pow_le_pow_left (by omega) 3
  have h4 : (400 : Nat) ^ 3 = 64000000 := by decide
  omega
theorem dsz_self {n : Bool} {x : Int} {v : Xv} (hw : wf 6 (toE v) = true) (hz : szE (toE v) ≤ 400) : szL ((dks n x v.ks).map (·.self)) ≤ 400 := by
  have h1 : szL ((dks n x v.ks).map (·.self)) ≤ szL (v.ks.map toE) := by
    rw [dks, List.map_map]
    exact szL_mono fun k hk => by
      obtain ⟨y, hy, rfl⟩ := List.mem_map.1 hk
      exact (dv_sz (toE y) (wf_kid hw y hy)).2
  have h2 := kids_sz v
  omega
theorem AllM.app {a b : List Xv} {w : World} : AllM (a ++ b) w ↔ AllM a w ∧ AllM b w := ⟨fun h => ⟨fun v hv => h v (List.mem_append_left _ hv), fun v hv => h v (List.mem_append_right _ hv)⟩, fun h v hv => (List.mem_append.1 hv).elim (h.1 v) (h.2 v)⟩
theorem AllM.two {a b : Xv} {w : World} : AllM [a, b] w ↔ evm a w ∧ evm b w := ⟨fun h => ⟨h a List.mem_cons_self, h b (List.mem_cons_of_mem _ List.mem_cons_self)⟩, fun h v hv => by
  rcases List.mem_cons.1 hv with rfl | hv
  · exact h.1
  · rw [List.mem_singleton] at hv; rw [hv]; exact h.2⟩
theorem set_m2 {L : List Xv} {k : Nat} {r : Xv} {w : World} (h : AllM L w) (hr : evm r w) : AllM (L.set k r) w := fun v hv => by
  rcases List.mem_or_eq_of_mem_set hv with h1 | h1
  · exact h v h1
  · rw [h1]; exact hr
/-! concatenations -/
structure CatI (n : Bool) (x : Int) (ks B M : List Xv) (k : Nat) (q : Bool) : Prop where
  le : k ≤ ks.length
  len : M.length = ks.length
  by' : B.map toE = (dvC n x ((ks.take k).map toE)).1
  self : ∀ j, j < k → toE (M.getD j ev0) = (dvC n x ((ks.take k).map toE)).2.1.getD j emp
  nl : q = (dvC n x ((ks.take k).map toE)).2.2
theorem CatI.start (n : Bool) (x : Int) (ks : List Xv) : CatI n x ks [] (List.replicate ks.length ev0) 0 true := ⟨Nat.zero_le _, List.length_replicate, rfl, fun j hj => absurd hj (Nat.not_lt_zero j), rfl⟩
theorem CatI.blen {n : Bool} {x : Int} {ks B M : List Xv} {k : Nat} {q : Bool} (h : CatI n x ks B M k q) : B.length ≤ k := by
  have h1 := congrArg List.length h.by'
  have h2 := (dvC_len n x ((ks.take k).map toE)).2
  have := h.le
  rw [List.length_map] at h1
  rw [List.length_map, List.length_take] at h2
  omega
theorem CatI.slen {n : Bool} {x : Int} {ks B M : List Xv} {k : Nat} {q : Bool} (h : CatI n x ks B M k q) : (dvC n x ((ks.take k).map toE)).2.1.length = k := by
  have h2 := (dvC_len n x ((ks.take k).map toE)).1
  have := h.le
  rw [List.length_map, List.length_take] at h2
  omega
theorem getD_app_l {l m : List Ex} {j : Nat} {z : Ex} (h : j < l.length) : (l ++ m).getD j z = l.getD j z := by
  rw [List.getD_eq_getElem?_getD, List.getElem?_append_left h, ← List.getD_eq_getElem?_getD]
theorem getD_app_r {l : List Ex} {y z : Ex} {k : Nat} (h : l.length = k) : (l ++ [y]).getD k z = y := by
  subst h
  rw [List.getD_eq_getElem?_getD, List.getElem?_append_right (Nat.le_refl _), Nat.sub_self]; rfl
theorem CatI.stop {n : Bool} {x : Int} {ks B M : List Xv} {k : Nat} {q : Bool} (h : CatI n x ks B M k q) (hk : k < ks.length) (hq : q = false) {r : Xv} (hr : toE r = if n = true then toE (ks.getD k ev0) else simp (toE (ks.getD k ev0))) : CatI n x ks B (M.set k r) (k + 1) false := by
  have hs := h.slen
  have e : dvC n x ((ks.take (k + 1)).map toE) = ((dvC n x ((ks.take k).map toE)).1, (dvC n x ((ks.take k).map toE)).2.1 ++ [if n = true then toE (ks.getD k ev0) else simp (toE (ks.getD k ev0))], false) := by
    rw [take_s hk, List.map_append, List.map_singleton, dvC_snoc, if_neg (by rw [← h.nl, hq]; decide)]
  refine ⟨by omega, by rw [List.length_set]; exact h.len, by rw [e]; exact h.by', ?_, by rw [e]⟩
  rw [e]
  refine at_s (p := fun j => ((dvC n x ((ks.take k).map toE)).2.1 ++ [if n = true then toE (ks.getD k ev0) else simp (toE (ks.getD k ev0))]).getD j emp) (by rw [h.len]; exact hk) (fun j hj => ?_) ?_
  · show _ = List.getD _ j emp
    rw [h.self j hj, getD_app_l (by rw [hs]; exact hj)]
  · show _ = List.getD _ k emp
    rw [hr]
    exact (getD_app_r hs).symm
theorem CatI.go {n : Bool} {x : Int} {ks B M : List Xv} {k : Nat} {q : Bool} (h : CatI n x ks B M k q) (hk : k < ks.length) (hq : q = true) {b r : Xv} (hb : toE b = (dv n x (toE (ks.getD k ev0))).by') (hr : toE r = (dv n x (toE (ks.getD k ev0))).self) : CatI n x ks (B ++ [b]) (M.set k r) (k + 1) (dv n x (toE (ks.getD k ev0))).nl := by
  have hs := h.slen
  have e : dvC n x ((ks.take (k + 1)).map toE) = ((dvC n x ((ks.take k).map toE)).1 ++ [(dv n x (toE (ks.getD k ev0))).by'], (dvC n x ((ks.take k).map toE)).2.1 ++ [(dv n x (toE (ks.getD k ev0))).self], (dv n x (toE (ks.getD k ev0))).nl) := by
    rw [take_s hk, List.map_append, List.map_singleton, dvC_snoc, if_pos (by rw [← h.nl, hq])]
  refine ⟨by omega, by rw [List.length_set]; exact h.len, by rw [e, List.map_append, h.by', List.map_singleton, hb], ?_, by rw [e]⟩
  rw [e]
  refine at_s (p := fun j => ((dvC n x ((ks.take k).map toE)).2.1 ++ [(dv n x (toE (ks.getD k ev0))).self]).getD j emp) (by rw [h.len]; exact hk) (fun j hj => ?_) ?_
  · show _ = List.getD _ j emp
    rw [h.self j hj, getD_app_l (by rw [hs]; exact hj)]
  · show _ = List.getD _ k emp
    rw [hr]
    exact (getD_app_r hs).symm
theorem CatI.selfs {n : Bool} {x : Int} {ks B M : List Xv} {q : Bool} (h : CatI n x ks B M ks.length q) : M.map toE = (dvC n x (ks.map toE)).2.1 := by
  have hs := h.slen
  have h1 := h.self
  rw [List.take_length] at hs h1
  refine List.ext_getElem (by rw [List.length_map, h.len, hs]) fun j h2 h3 => ?_
  rw [List.length_map] at h2
  have h4 := h1 j (by rw [← h.len]; exact h2)
  rw [getD_get h2, List.getD_eq_getElem?_getD, List.getElem?_eq_getElem h3] at h4
  simpa using h4
/-- the parts -/
structure ParI (M : List Xv) (B Q : List Xv) (i : Nat) : Prop where
  len : Q.length = B.length
  at' : ∀ j, j < i → toE (Q.getD j ev0) = (catP (B.map toE) (M.map toE)).getD j emp
theorem ParI.start (M B : List Xv) : ParI M B (List.replicate B.length ev0) 0 := ⟨List.length_replicate, fun j hj => absurd hj (Nat.not_lt_zero j)⟩
theorem par_get {M B : List Xv} {i : Nat} (hi : i < B.length) : (catP (B.map toE) (M.map toE)).getD i emp = if (B.getD i ev0).op = 1 then toE (B.getD i ev0) else join 5 ((B.getD i ev0 :: M.drop (i + 1)).map toE) := by
  rw [catP_get _ _ _ _ (by rw [List.length_map]; exact hi), toE_getD hi, toE_op, List.map_cons, List.map_drop]
theorem ParI.one {M B Q : List Xv} {i : Nat} (h : ParI M B Q i) (hi : i < B.length) (h1 : (B.getD i ev0).op = 1) : ParI M B (Q.set i (B.getD i ev0)) (i + 1) := by
  refine ⟨by rw [List.length_set]; exact h.len, at_s (p := fun j => (catP (B.map toE) (M.map toE)).getD j emp) (by rw [h.len]; exact hi) h.at' ?_⟩
  show _ = List.getD _ i emp
  rw [par_get hi, if_pos h1]
theorem ParI.two {M B Q : List Xv} {i : Nat} (h : ParI M B Q i) (hi : i < B.length) (h1 : ¬ (B.getD i ev0).op = 1) {r : Xv} (hr : toE r = join 5 ((B.getD i ev0 :: M.drop (i + 1)).map toE)) : ParI M B (Q.set i r) (i + 1) := by
  refine ⟨by rw [List.length_set]; exact h.len, at_s (p := fun j => (catP (B.map toE) (M.map toE)).getD j emp) (by rw [h.len]; exact hi) h.at' ?_⟩
  show _ = List.getD _ i emp
  rw [par_get hi, if_neg h1, hr]
theorem ParI.done {M B Q : List Xv} (h : ParI M B Q B.length) : Q.map toE = catP (B.map toE) (M.map toE) := by
  refine List.ext_getElem (by rw [List.length_map, h.len, catP_len, List.length_map]) fun j h2 h3 => ?_
  rw [List.length_map] at h2
  have h4 := h.at' j (by rw [← h.len]; exact h2)
  rw [getD_get h2, List.getD_eq_getElem?_getD, List.getElem?_eq_getElem h3] at h4
  simpa using h4
end Go.Ex
namespace Go.Ex
open Go Go.Eng
theorem AllM.fst {a b : List Xv} {w : World} (h : AllM (a ++ b) w) : AllM a w := (AllM.app.1 h).1
theorem AllM.snd {a b : List Xv} {w : World} (h : AllM (a ++ b) w) : AllM b w := (AllM.app.1 h).2
theorem drl_by {a b : Xv} {q : Bool} {k : Nat} {u : Value} (h : (evc a)[k]? = some u) : (drl a b q)[0 + k]? = some u := by
  rw [Nat.zero_add]
  match k, h with
  | 0, h => exact h
  | 1, h => exact h
  | 2, h => exact h
theorem drl_self {a b : Xv} {q : Bool} {k : Nat} {u : Value} (h : (evc b)[k]? = some u) : (drl a b q)[3 + k]? = some u := by
  match k, h with
  | 0, h => exact h
  | 1, h => exact h
  | 2, h => exact h
end Go.Ex
namespace Go.Ex
section
variable {n : Bool} {x o : Int} {ks : List Xv}
theorem nl_4 (h : o = 4) : decide ((0 : Int) < ((cntT n x ks ks.length : Nat) : Int)) = (dBool o (dks n x ks)).nl := by
  rw [cntT_full]
  show _ = if o = 4 then _ else _
  rw [if_pos h, decide_eq_decide]
  omega
theorem nl_6 (h4 : ¬ o = 4) (h : o = 6) : decide (((cntT n x ks ks.length : Nat) : Int) = ((ks.length : Nat) : Int)) = (dBool o (dks n x ks)).nl := by
  rw [cntT_full]
  show _ = if o = 4 then _ else if o = 6 then _ else _
  rw [if_neg h4, if_pos h, decide_eq_decide, dks_len]
  omega
theorem nl_8 (h4 : ¬ o = 4) (h6 : ¬ o = 6) (h : o = 8) : decide (((cntT n x ks ks.length : Nat) : Int) = 0) = (dBool o (dks n x ks)).nl := by
  rw [cntT_full]
  show _ = if o = 4 then _ else if o = 6 then _ else if o = 8 then _ else _
  rw [if_neg h4, if_neg h6, if_pos h, decide_eq_decide]
  omega
theorem nl_0 (h4 : ¬ o = 4) (h6 : ¬ o = 6) (h : ¬ o = 8) : false = (dBool o (dks n x ks)).nl := by
  show _ = if o = 4 then _ else if o = 6 then _ else if o = 8 then _ else _
  rw [if_neg h4, if_neg h6, if_neg h]
end
end Go.Ex
namespace Go.Ex
open Go Go.Eng
open szE (szL)
open dv (dvL dvC)
theorem cat_sz {n : Bool} {x : Int} {v : Xv} {B M : List Xv} {q : Bool} (hw : wf 6 (toE v) = true) (hz : szE (toE v) ≤ 400) (h : CatI n x v.ks B M v.ks.length q) : szL (B.map toE) ≤ 128000000 ∧ szL (M.map toE) ≤ 400 := by
  have h1 := h.selfs
  have h2 := h.by'
  rw [List.take_length] at h2
  rw [h1, h2]
  have h3 := dvC_sz (n := n) (x := x) (L := 6) (ks := v.ks.map toE) (fun k hk => by obtain ⟨y, hy, rfl⟩ := List.mem_map.1 hk; exact wf_kid hw y hy) (fun k hk => by obtain ⟨y, hy, rfl⟩ := List.mem_map.1 hk; exact dv_sz _ (wf_kid hw y hy))
  have h4 := kids_sz v
  have : szL (v.ks.map toE) ^ 3 ≤ 400 ^ 3 := Nat.pow_le_pow_left (by omega) 3
  have h5 : (400 : Nat) ^ 3 = 64000000 := by decide
  omega
theorem szL_drop (l : List Ex) (i : Nat) : szL (l.drop i) ≤ szL l := by
  induction l generalizing i with
  | nil => rw [List.drop_nil]; exact Nat.le_refl _
  | cons x l ih =>
    cases i with
    | zero => exact Nat.le_refl _
    | succ i => rw [List.drop_succ_cons, szL]; have := ih i; omega
theorem tail_sz {B M : List Xv} {i : Nat} (hi : i < B.length) (hB : szL (B.map toE) ≤ 128000000) (hM : szL (M.map toE) ≤ 400) : szL ((B.getD i ev0 :: M.drop (i + 1)).map toE) ≤ 1000000000 := by
  have h1 : szE (toE (B.getD i ev0)) ≤ szL (B.map toE) := szL_mem (List.mem_map.2 ⟨_, by rw [getD_get hi]; exact List.getElem_mem _, rfl⟩)
  have h2 := szL_drop (M.map toE) (i + 1)
  rw [List.map_cons, szL, List.map_drop]
  omega
theorem parts_sz {B M Q : List Xv} (h : ParI M B Q B.length) (hl : B.length ≤ 400) (hB : szL (B.map toE) ≤ 128000000) (hM : szL (M.map toE) ≤ 400) : szL (Q.map toE) ≤ 1000000000 := by
  rw [h.done]
  have h1 := catP_sz (B.map toE) (M.map toE)
  rw [List.length_map] at h1
  have h2 : B.length * (1 + szL (M.map toE)) ≤ 400 * 401 := Nat.mul_le_mul hl (by omega)
  omega
theorem AllM.at {L : List Xv} {w : World} (h : AllM L w) {i : Nat} (hi : i < L.length) : evm (L.getD i ev0) w := h _ (by rw [getD_get hi]; exact List.getElem_mem _)
theorem AllM.drop {L : List Xv} {w : World} (h : AllM L w) (i : Nat) : AllM (L.drop i) w := fun v hv => h v (List.mem_of_mem_drop hv)
theorem AllM.cons {x : Xv} {L : List Xv} {w : World} (hx : evm x w) (h : AllM L w) : AllM (x :: L) w := fun v hv => by
  rcases List.mem_cons.1 hv with rfl | hv
  · exact hx
  · exact h v hv
end Go.Ex

namespace Go.Ex
open Go Go.Eng Go.Am
/-! the computation of an automaton of derivatives, in memory -/
def txk (v : Xv) : Tx := fmtE (toE v)
theorem txk_map (vs : List Xv) : vs.map txk = (vs.map toE).map fmtE := by rw [List.map_map]; rfl
theorem set_last (vs : List Xv) (u v : Xv) : (vs ++ [u]).set vs.length v = vs ++ [v] := by simp
/-- the state: i rows are done -/
structure DrM (s : Ex) (vs : List Xv) (rs : List Rw) (i : Nat) : Prop where
  dr : DrI s (i * 2)
  vs : vs.map toE = dS s (i * 2)
  rows : XRows dF 2 s (dS s (i * 2)) i (rs.map (·.xs))
/-- row i meets a limit -/
def BadE (s : Ex) (i : Nat) : Prop := ∃ k, (i * 2 ≤ k ∧ k < i * 2 + 2) ∧ DrI s k ∧ k / 2 < (dS s k).length ∧ BadS s k
theorem BadE.out {s : Ex} {i : Nat} (h : BadE s i) : ∃ k, DrI s k ∧ k / 2 < (dS s k).length ∧ BadS s k := by
  obtain ⟨k, _, h1⟩ := h; exact ⟨k, h1⟩
theorem len_of {vs : List Xv} {l : List Ex} (h : vs.map toE = l) : vs.length = l.length := by rw [← h, List.length_map]
theorem DrM.rl {s : Ex} {vs : List Xv} {rs : List Rw} {i : Nat} (h : DrM s vs rs i) : rs.length = i := by have := h.rows.len; rwa [List.length_map] at this
theorem DrM.vl {s : Ex} {vs : List Xv} {rs : List Rw} {i : Nat} (h : DrM s vs rs i) : vs.length ≤ 512 := by rw [len_of h.vs]; exact h.dr.len
theorem at_of {vs : List Xv} {l : List Ex} (h : vs.map toE = l) {i : Nat} (hi : i < vs.length) (z : Ex) : toE (vs.getD i ev0) = l.getD i z := by
  rw [← h, toE_getD hi]
theorem getD_memx {vs : List Xv} {i : Nat} (hi : i < vs.length) : vs.getD i ev0 ∈ vs := by
  rw [List.getD_eq_getElem?_getD, List.getElem?_eq_getElem hi]; exact List.getElem_mem hi
theorem DrM.start {s : Ex} {v : Xv} (h : vdE 6 s = 0) (hv : toE v = s) : DrM s [v] [] 0 := ⟨DrI.start h, by rw [Nat.zero_mul, ← hv]; rfl, XRows.start _⟩
theorem DrM.le {s : Ex} {vs : List Xv} {rs : List Rw} {i : Nat} (h : DrM s vs rs i) : i ≤ vs.length := by
  rcases Nat.eq_zero_or_pos i with h0 | h0
  · omega
  · have h1 := h.dr.going (i * 2 - 1) (by omega)
    rw [len_of h.vs]
    have h2 : (i * 2 - 1) / 2 = i - 1 := by omega
    rw [h2] at h1
    have h3 := bfs_le (f := dF) (L := 2) (s := s) (show i * 2 - 1 ≤ i * 2 by omega)
    show i ≤ (bfs dF 2 s (i * 2)).length
    omega
/-! one row more -/
section
variable {s : Ex} {vs : List Xv} {rs : List Rw} {i x : Nat}
theorem dT_row (hx : x < 2) (hi : i < (dS s (i * 2)).length) : dT s (i * 2 + x) = dF ((dS s (i * 2)).getD i s) x := by
  unfold dT
  rw [show (i * 2 + x) / 2 = i by omega, show (i * 2 + x) % 2 = x by omega, bfs_get (show i * 2 ≤ i * 2 + x by omega) hi]
theorem dr_in (h : DrI s (i * 2 + x)) (hx : x < 2) (hi : i < (dS s (i * 2)).length) (hm : dT s (i * 2 + x) ∈ dS s (i * 2 + x)) (hv : vdE 6 (dT s (i * 2 + x)) = 0) : DrI s (i * 2 + (x + 1)) ∧ dS s (i * 2 + (x + 1)) = dS s (i * 2 + x) := by
  refine ⟨h.succ ?_ ?_, ?_⟩
  · rw [show (i * 2 + x) / 2 = i by omega]; exact Nat.lt_of_lt_of_le hi (bfs_le (by omega))
  · rintro (hb | ⟨hb, _⟩)
    · exact hb hv
    · exact hb hm
  · show dS s (i * 2 + x + 1) = _
    rw [dS_succ, if_pos hm]
theorem dr_out (h : DrI s (i * 2 + x)) (hx : x < 2) (hi : i < (dS s (i * 2)).length) (hm : dT s (i * 2 + x) ∉ dS s (i * 2 + x)) (hv : vdE 6 (dT s (i * 2 + x)) = 0) (hl : ¬ (dS s (i * 2 + x)).length = 512) : DrI s (i * 2 + (x + 1)) ∧ dS s (i * 2 + (x + 1)) = dS s (i * 2 + x) ++ [dT s (i * 2 + x)] := by
  refine ⟨h.succ ?_ ?_, ?_⟩
  · rw [show (i * 2 + x) / 2 = i by omega]; exact Nat.lt_of_lt_of_le hi (bfs_le (by omega))
  · rintro (hb | ⟨_, hb⟩)
    · exact hb hv
    · exact hl hb
  · show dS s (i * 2 + x + 1) = _
    rw [dS_succ, if_neg hm]
theorem dr_bad (h : DrI s (i * 2 + x)) (hx : x < 2) (hi : i < (dS s (i * 2)).length) (hb : BadS s (i * 2 + x)) : BadE s i := ⟨_, ⟨by omega, by omega⟩, h, by rw [show (i * 2 + x) / 2 = i by omega]; exact Nat.lt_of_lt_of_le hi (bfs_le (by omega)), hb⟩
theorem DrM.next (h : DrM s vs rs i) (hi : i < (dS s (i * 2)).length) {us : List Xv} (hd : DrI s (i * 2 + 2)) (hu : us.map toE = dS s (i * 2 + 2)) {r : Rw} (hr : r.xs = rowP dF 2 (dS s (i * 2 + 2)) ((dS s (i * 2)).getD i s) 2) : DrM s us (rs ++ [r]) (i + 1) := by
  have e : (i + 1) * 2 = i * 2 + 2 := by omega
  refine ⟨by rw [e]; exact hd, by rw [e]; exact hu, ?_⟩
  have h1 := (h.rows.grow (by have := h.le; rw [len_of h.vs] at this; exact this) (bfs_pre (i * 2) 2)).snoc (fun y hy => by rw [bfs_get (show i * 2 ≤ i * 2 + 2 by omega) hi]; exact bfs_row_mem (Nat.le_refl _) hi y hy)
  rw [bfs_get (show i * 2 ≤ i * 2 + 2 by omega) hi] at h1
  rw [e, List.map_append, List.map_singleton, hr]
  exact h1
/-- the row's next cell -/
theorem dr_put {l m : List Ex} {a : Ex} (hp : ∃ t, m = l ++ t) (hm : ∀ y, y < x → dF a y ∈ l) {v : Nat} (hv : v = m.idxOf (dF a x)) : ((rowP dF 2 l a x).map zz).set x (.int .i64 ((v : Nat) : Int)) = (rowP dF 2 m a (x + 1)).map zz := rowP_put hp hm (by rw [hv])
end
/-- it has come to an end -/
theorem DrM.done {s : Ex} {vs : List Xv} {rs : List Rw} {i : Nat} (h : DrM s vs rs i) (hi : i = vs.length) : Done dF 2 s (i * 2) := Done.of (by decide) h.dr.going (by rw [← len_of h.vs]; exact hi)
theorem DrM.nx {s : Ex} {vs : List Xv} {rs : List Rw} {i : Nat} (h : DrM s vs rs i) (hi : i = vs.length) (fin : Ex → Bool) : rs.map (·.xs) = (autoD dF 2 s (i * 2) fin).nx.map fun l => l.map fun n : Nat => (n : Int) := h.rows.auto' (by rw [← len_of h.vs]; exact hi) fin
def hasT (vs : List Xv) (i : Nat) : List Bool := (vs.take i).map fun v => hasU (toE v)
theorem hasT_s {vs : List Xv} {i : Nat} (hi : i < vs.length) : hasT vs i ++ [hasU (toE (vs.getD i ev0))] = hasT vs (i + 1) := by
  rw [hasT, hasT, List.take_add_one, List.getD_eq_getElem?_getD, List.getElem?_eq_getElem hi, List.map_append]; rfl
theorem hasT_len {vs : List Xv} {i : Nat} (hi : i ≤ vs.length) : (hasT vs i).length = i := by rw [hasT, List.length_map, List.length_take, Nat.min_eq_left hi]
theorem DrM.fin {s : Ex} {vs : List Xv} {rs : List Rw} {i : Nat} (h : DrM s vs rs i) : hasT vs vs.length = (autoD dF 2 s (i * 2) hasU).fin := by
  rw [hasT, List.take_length]
  show _ = (dS s (i * 2)).map hasU
  rw [← h.vs, List.map_map]; rfl
end Go.Ex

namespace Go.Eng
open Go
section
variable {P : Program} {ops : Array Oper} {Q : Exit → Act → World → Prop} {md : Region.Mode} {C C' : World → Prop} {n n' : Nat}
theorem wpAnyC_weak : ∀ (fuel : Nat) (listed : Array Bool) (a : Act) (w : World), (∀ j, j < n → listed.getD j true = true) → wpAnyC P md ops Q C' n' fuel listed a w → wpAnyC P md ops Q C n fuel listed a w
  | 0, _, _, _, _, h => h
  | fuel + 1, listed, a, w, hl, h => by
    refine ⟨h.1, fun i hi => wpOp_mono (fun a' w' h3 => ?_) (h.2 i hi)⟩
    refine ⟨fun hin => ?_, wpAnyC_weak fuel _ a' w' (fun j hj => ?_) h3.2⟩
    · have h1 := (mem_ready.1 hi).1
      rw [hl i hin] at h1; cases h1
    · by_cases e : i = j
      · subst e
        rw [Array.getD_eq_getD_getElem?, Array.getElem?_setIfInBounds]
        simp
        split <;> simp
      · rw [getD_set_ne true e]; exact hl j hj
theorem wpAnyC_firstA {i : Nat} {oi : Oper} {v : Value} (hi : ops[i]? = some oi) (hin : i < n) (ht : ∀ (listed : Array Bool) (i j : Nat), HeadInv md ops n listed → i < n → listed.getD i true = false → j ∈ Region.ready md ops listed → j < n) (hsel : ∀ (j : Nat) (o : Oper) cs b, ops[j]? = some o → o.op ≠ .select cs b)
    (hQ : ∀ c a w, Q (.panic c) (a.put oi.dst v) w → Q (.panic c) a w) :
    ∀ (fuel : Nat) (listed : Array Bool) (a : Act) (w : World), HeadInv md ops n listed →
      (∀ j oj, ops[j]? = some oj → j ≠ i → listed.getD j true = false → (∀ e ∈ oj.after, Region.binds md e = true → e.on ≠ i) → oi.apart ops oj = true) →
      i ∈ Region.ready md ops listed → YieldsIf P ops C oi v a → C w →
      wpAnyC P md ops Q C n fuel (listed.setIfInBounds i true) (a.put oi.dst v) w → wpAnyC P md ops Q C n (fuel + 1) listed a w := by
  intro fuel
  induction fuel with
  | zero =>
    intro listed a w inv _ hr hy hS H
    refine ⟨fun h => (by rw [h] at hr; cases hr), fun j hj => ?_⟩
    by_cases hji : j = i
    · subst hji; exact hy.wpOp hi hS ⟨fun _ => hS, H⟩
    · have := ready_mono hj hji
      rw [H.1] at this
      cases this
  | succ fuel ih =>
    intro listed a w inv hfree hr hy hS H
    refine ⟨fun h => (by rw [h] at hr; cases hr), fun j hj => ?_⟩
    by_cases hji : j = i
    · subst hji; exact hy.wpOp hi hS ⟨fun _ => hS, H⟩
    · have h1 := H.2 j (ready_mono hj hji)
      have hjn : j < n := ht listed i j inv hin (mem_ready.1 hr).1 hj
      obtain ⟨hjun, oj, hoj, hall⟩ := mem_ready.1 hj
      have hnot : ∀ e ∈ oj.after, Region.binds md e = true → e.on ≠ i := fun e he hb heq => by
        have h1 := hall e he hb
        have h0 := (mem_ready.1 hr).1
        rw [heq] at h1
        rcases Nat.lt_or_ge i listed.size with h' | h'
        · simp [h'] at h0 h1; rw [h0] at h1; cases h1
        · simp [Array.getElem?_eq_none h'] at h1
      have h2 := wpOp_putIf hoj (hfree j oj hoj hji hjun hnot) (fun cs b => hsel i oi cs b hi) (fun cs b => hsel j oj cs b hoj) hQ hy h1
      have hfree' : ∀ k ok, ops[k]? = some ok → k ≠ i → (listed.setIfInBounds j true).getD k true = false →
          (∀ e ∈ ok.after, Region.binds md e = true → e.on ≠ i) → oi.apart ops ok = true := fun k ok hk hki hun hno => by
        refine hfree k ok hk hki ?_ hno
        by_cases hjk : j = k
        · subst hjk; exact hjun
        · rw [getD_set_ne true hjk] at hun; exact hun
      refine wpOp_mono (fun a' w' h3 => ⟨fun _ => h3.2.1 hjn, ih (listed.setIfInBounds j true) a' w' (inv.set hj hjn) hfree' (ready_mono hr (Ne.symm hji)) h3.1 (h3.2.1 hjn) ?_⟩) h2
      rw [Array.setIfInBounds_comm _ _ hji]
      exact h3.2.2
/-- all behind the front wait for all of it -/
def waitB (md : Region.Mode) (ops : Array Oper) (n : Nat) : Bool :=
  (List.range ops.size).all fun t => decide (t < n) || (match ops[t]? with
    | none => true
    | some o => (List.range n).all fun i => o.after.any fun e => Region.binds md e && e.on == i)
theorem waitB_spec (h : waitB md ops n = true) (listed : Array Bool) (i j : Nat) (_ : HeadInv md ops n listed) (hi : i < n) (hun : listed.getD i true = false) (hj : j ∈ Region.ready md ops listed) : j < n := by
  obtain ⟨_, oj, hoj, hall⟩ := mem_ready.1 hj
  refine Classical.byContradiction fun hn => ?_
  have hlt : j < ops.size := (Array.getElem?_eq_some_iff.1 hoj).1
  unfold waitB at h
  rw [List.all_eq_true] at h
  have h1 := h j (List.mem_range.2 hlt)
  rw [decide_eq_false hn, hoj, Bool.false_or] at h1
  dsimp only at h1
  rw [List.all_eq_true] at h1
  have h2 := h1 i (List.mem_range.2 hi)
  rw [Array.any_eq_true'] at h2
  obtain ⟨e, he, h3⟩ := h2
  rw [Bool.and_eq_true, beq_iff_eq] at h3
  have h4 := hall e he h3.1
  rw [h3.2] at h4
  rcases Nat.lt_or_ge i listed.size with h' | h'
  · simp [h'] at hun h4; rw [hun] at h4; cases h4
  · simp [Array.getElem?_eq_none h'] at hun
end
def againB (ops : Array Oper) (n : Nat) (listed : Array Bool) : Bool :=
  (List.range n).all (fun j => listed.getD j true) && decide (listed.size = ops.size) &&
  (List.range ops.size).all fun j => !listed.getD j false || (match ops[j]? with
    | none => true
    | some o => o.after.all fun e => !Region.binds .any e || listed.getD e.on false)
section
variable {c : Cx} {ops : Array Oper} {Q : Exit → Act → World → Prop} {n fuel : Nat} {Hc : List Chunk} {listed : Array Bool} {E : Slots} {H : List Chunk}
def stepA (ops : Array Oper) (n : Nat) (listed : Array Bool) (i : Nat) : Bool :=
  decide (i < n) && waitB .any ops n && Region.noSelect ops && Region.free .any ops listed i && (Region.ready .any ops listed).contains i
/-- Take quiet operation number i first; what is behind the front is in no forced order. -/
theorem RA.qa [hN : NoSlot Q] {o : Oper} (i : Nat) {v : Value} (hb : stepA ops n listed i = true) (hi : ops[i]? = some o) (hg : guardB ops E o = some true) (hd : dstOk c.n o.dst = true) (hs : Hc.Sublist H)
    (hq : OpQ c o E Hc v) (h : RA c ops Q n Hc fuel (listed.setIfInBounds i true) (Eng.putE o.dst v E) H) : RA c ops Q n Hc (fuel + 1) listed E H := by
  intro inv a w hE hH
  simp only [stepA, Bool.and_eq_true, decide_eq_true_eq] at hb
  obtain ⟨⟨⟨⟨h1, h2⟩, h3⟩, h4⟩, h5⟩ := hb
  have hr : i ∈ Region.ready .any ops listed := by simpa using h5
  exact wpAnyC_firstA hi h1 (waitB_spec h2) (Region.noSelect_spec h3) (fun ch a w => hN.panic ch a _ _ w) fuel listed a w inv (Region.free_spec hi h4) hr
    (.inl ⟨wanted_of hE hg, fun w hw => hq a w hE hw⟩) (hH.sublist hs) (h (inv.set hr h1) _ _ (hE.putE hd v) hH)
/-- Behind the front: the rest as a front of its own, with another part of the memory in hand. -/
theorem RA.again (n' : Nat) (Hc' : List Chunk) (hb : (againB ops n listed && decide (n' = ops.size)) = true) (h : RA c ops Q n' Hc' fuel listed E H) : RA c ops Q n Hc fuel listed E H := by
  intro _ a w hE hH
  simp only [againB, Bool.and_eq_true, decide_eq_true_eq, List.all_eq_true, List.mem_range] at hb
  obtain ⟨⟨⟨h1, h2⟩, h3⟩, rfl⟩ := hb
  refine wpAnyC_weak fuel listed a w h1 (h ⟨h2, fun j oj hj hl e he hb => ?_, fun t ht ht' => by omega⟩ a w hE hH)
  have hlt : j < ops.size := (Array.getElem?_eq_some_iff.1 hj).1
  have h4 := h3 j hlt
  rw [hl, hj] at h4
  simp only [Bool.not_true, Bool.false_or] at h4
  rw [Array.all_eq_true'] at h4
  have h5 := h4 e he
  rw [hb] at h5
  simpa using h5
end
end Go.Eng
namespace Go.Eng
open Go
section
variable {c : Cx} {E : Slots} {H : List Chunk} {d : Option Nat} {ty : TypeId} {pos : String} {af : Array Edge} {g : Option (Nat × Bool)}
/-- A call of a function's value that takes chunks and hands back chunks. -/
theorem OpG.callFX {f : FuncId} {x : Operand} {caps : List Value} {xs : List Operand} {ts : Array TypeId} {args : List Value} {ι : Type} {Φ : ι → Prop} {V : ι → Value} {L F : List Chunk} {H' G : ι → List Chunk} (hx : evE E x = some (.func (.func f) #[] caps.toArray)) (hf : isGo c.P f = true) (hargs : evArgs E xs = some args)
    (ht : Take H L F) (ha : ∀ i, App (H' i) F (G i))
    (hc : ∀ w, HOk c H w → Pre L w → Calls c.P f (args ++ caps).toArray w (fun e w' => ∃ i, Φ i ∧ e = .returned (V i) ∧ Post (blks L) (H' i) w w')) :
    OpG c ⟨d, .call ⟨.value x, xs.toArray, ts⟩, ty, pos, af, g⟩ E H Φ V G :=
  OpG.callF hx hf hargs fun w hH => (hc w hH (hH.pre ht)).mono fun _ _ ⟨i, hi, he, hp⟩ => ⟨i, hi, he, hH.callEnd ht hp (ha i)⟩
end
end Go.Eng

namespace Go.Ex
open Go Go.Eng Go.Am
open Go.Tl (Wd okW okB mayL)
/-- what built answers -/
def BuiltR (e : Ex) (M : Dv) (er : Int) : Prop := ∃ d : Da, BuildR e d er ∧ (er = 0 → M.Ok ∧ M.fin.length ≤ 512 ∧ IsMin d.L d.sy d.s M.da)
theorem BuildR.n {e : Ex} {D : Dv} {er : Int} (h : BuildR e D.da er) (h0 : er = 0) : D.fin.length ≤ 512 := (h.lang h0).2.1
/-- awake -/
def abX (p q : Nat) : Xv := .mk 7 0 (some ⟨q, 0, none⟩) 1 [.mk 5 0 (some ⟨p, 0, none⟩) 2 [lfv 3 0, lfv 3 1]]
theorem abX_e (p q : Nat) : toE (abX p q) = abS := rfl
theorem abX_m {p q : Nat} {w : World} (h1 : Rd w (some ⟨p, 0, none⟩) ([lfv 3 0, lfv 3 1].flatMap evc)) (h2 : Rd w (some ⟨q, 0, none⟩) ([(Xv.mk 5 0 (some ⟨p, 0, none⟩) 2 [lfv 3 0, lfv 3 1] : Xv)].flatMap evc)) : evm (abX p q) w := by
  refine evm_iff.2 ⟨h2, fun k hk => ?_, by show 1 ≤ 9223372036854775807; omega⟩
  have hk : k ∈ [(Xv.mk 5 0 (some ⟨p, 0, none⟩) 2 [lfv 3 0, lfv 3 1] : Xv)] := hk
  rw [List.mem_singleton] at hk
  subst hk
  refine evm_iff.2 ⟨h1, fun k hk => ?_, by show 2 ≤ 9223372036854775807; omega⟩
  have hk : k ∈ [lfv 3 0, lfv 3 1] := hk
  rcases List.mem_cons.1 hk with rfl | hk
  · exact lfv_m _ _ w
  · rw [List.mem_singleton] at hk; subst hk; exact lfv_m _ _ w
theorem ab_min {p q : Nat} {d : Da} {er : Int} (h : BuildR (toE (abX p q)) d er) : er = 0 ∧ ∀ m, IsMin d.L d.sy d.s m → m.n = 3 := ab_known (by rw [abX_e] at h; exact h)
end Go.Ex
namespace Go.Ex
open Go Go.Eng Go.Am
open Go.Tl (Wd okW okB mayL)
theorem BuiltR.L {e : Ex} {M : Dv} (h : BuiltR e M 0) : M.L = 2 := by
  obtain ⟨d, h1, h2⟩ := h
  obtain ⟨hM, _, m⟩ := h2 rfl
  rw [hM.L_eq, m.letters, (h1.lang rfl).2.2.1]; rfl
end Go.Ex

namespace Go.Ex
open Go Go.Eng Go.Am
/-! a saved computation in memory -/
structure Drv where
  a : Option Addr
  c : Nat
  vs : List Xv
  na : Option Addr
  nc : Nat
  rs : List Rw
  i : Nat
end Go.Ex
namespace Go.Ex
open Go Go.Eng Go.Am
/-! what the laws say of languages -/
theorem BuiltR.acc {e : Ex} {M : Dv} (h : BuiltR e M 0) {w : List Nat} (hw : InW 2 w) : M.da.sy.acc M.da.s w = true ↔ lang e w := by
  obtain ⟨d, h1, h2⟩ := h
  obtain ⟨_, _, m⟩ := h2 rfl
  have hl := (h1.lang rfl).2.2.1
  have h3 := m.eqv w (by rw [hl]; exact hw)
  rw [h3, h1.acc hw]
/-! nodes over two expressions -/
end Go.Ex

namespace Go.Eng
open Go

/-! ### values of methods -/
section
variable {c : Cx} {E : Slots} {H : List Chunk} {d : Option Nat} {ty : TypeId} {pos : String} {af : Array Edge} {g : Option (Nat × Bool)}
theorem OpQ.makeFuncB {f : FuncId} {xs : List Operand} {vs : List Value} (hargs : evArgs E xs = some vs) : OpQ c ⟨d, .makeFunc (.func f) xs.toArray #[], ty, pos, af, g⟩ E H (.func (.func f) vs.toArray #[]) := fun a w hE _ => by
  have h1 := hE.args hargs
  show Sem.run c.P (do let z ← Instr.makeFunc (.func f) (xs.toArray.map a.eval) (#[].map a.eval); pure (Next.value z)) w = _
  simp only [List.map_toArray, h1]
  rfl
/-- A call of a method's value. -/
theorem OpG.callB {f : FuncId} {x : Operand} {bnd : List Value} {xs : List Operand} {ts : Array TypeId} {args : List Value} {ι : Type} {Φ : ι → Prop} {V : ι → Value} {H' : ι → List Chunk} (hx : evE E x = some (.func (.func f) bnd.toArray #[])) (hf : isGo c.P f = true) (hargs : evArgs E xs = some args)
    (hc : ∀ w, HOk c H w → Calls c.P f (bnd ++ args).toArray w (fun e w' => ∃ i, Φ i ∧ e = .returned (V i) ∧ HOk c (H' i) w')) :
    OpG c ⟨d, .call ⟨.value x, xs.toArray, ts⟩, ty, pos, af, g⟩ E H Φ V H' := fun b w hE hH K Q h => by
  have h1 := hE.args hargs
  have h0 := hE.eval hx
  have h2 := hc w hH
  unfold Oper.wp
  have hrun : (execOp b.eval ⟨d, .call ⟨.value x, xs.toArray, ts⟩, ty, pos, af, g⟩).run c.P w = .ok (.enter f (bnd ++ args).toArray) w := by
    show Sem.run c.P (do let z ← resolve b.eval ⟨.value x, xs.toArray, ts⟩ ty; invoke z.target z.args) w = _
    simp only [resolve, List.map_toArray, h1, h0]
    show Sem.run c.P (callFunc f ((bnd.toArray ++ args.toArray) ++ #[])) w = _
    rw [run_callGo hf]
    simp
  rw [hrun]
  refine h2.mono fun e w' ⟨i, hi, he, hH'⟩ => ?_
  subst he
  exact h i w' hi hH'
theorem OpG.callBX {f : FuncId} {x : Operand} {bnd : List Value} {xs : List Operand} {ts : Array TypeId} {args : List Value} {ι : Type} {Φ : ι → Prop} {V : ι → Value} {L F : List Chunk} {H' G : ι → List Chunk} (hx : evE E x = some (.func (.func f) bnd.toArray #[])) (hf : isGo c.P f = true) (hargs : evArgs E xs = some args)
    (ht : Take H L F) (ha : ∀ i, App (H' i) F (G i))
    (hc : ∀ w, HOk c H w → Pre L w → Calls c.P f (bnd ++ args).toArray w (fun e w' => ∃ i, Φ i ∧ e = .returned (V i) ∧ Post (blks L) (H' i) w w')) :
    OpG c ⟨d, .call ⟨.value x, xs.toArray, ts⟩, ty, pos, af, g⟩ E H Φ V G :=
  OpG.callB hx hf hargs fun w hH => (hc w hH (hH.pre ht)).mono fun _ _ ⟨i, hi, he, hp⟩ => ⟨i, hi, he, hH.callEnd ht hp (ha i)⟩
end

/-! ### functions that defer: behind the defer the frame bears ds -/
abbrev Act.dd (a : Act) (ds : List Deferred) : Act := { a with defers := ds }
theorem upon_shift {P : Program} {o : Oper} {a : Act} {ds : List Deferred} {K : Act → World → Prop} {Q : Exit → Act → World → Prop} {r : Result Next}
    (h : o.upon P a (fun a' w' => a'.defers = [] ∧ K (Act.dd a' ds) w') (fun e a' w' => Q e (Act.dd a' ds) w') r) : o.upon P (Act.dd a ds) K Q r := by
  have hp : ∀ d v, (Act.dd a ds).put d v = Act.dd (a.put d v) ds := fun d v => by cases d <;> rfl
  match r, h with
  | .ok (.value v) w', h => show K _ _; rw [hp]; exact h.2
  | .ok .skip w', h => show K _ _; rw [hp]; exact h.2
  | .ok (.defer d) w', h =>
    have h1 := h.1
    rw [put_defers'] at h1
    cases h1
  | .ok (.enter f args) w', h =>
    refine Calls.mono (show Calls P f args w' _ from h) fun e w'' he => ?_
    match e, he with
    | .returned v, he => show K _ _; rw [hp]; exact he.2
    | .panicked chain, he => exact he
    | .outgrown, he => exact he.elim fun a' he => he.elim fun w3 he => ⟨_, _, he⟩
  | .ok (.row row args) w', h => exact Rows.mono h fun v w'' he => by rw [hp]; exact he.2
  | .halt (.panic v) w', h => exact h
section
variable {c : Cx} {ds : List Deferred} {ops : Array Oper} {Q : Exit → Act → World → Prop} {rest : List Oper} {o : Oper} {E : Slots} {H : List Chunk}
def Wld (c : Cx) (ds : List Deferred) (ops : Array Oper) (Q : Exit → Act → World → Prop) (l : List Oper) (E : Slots) (H : List Chunk) : Prop := ∀ a w, Env c.n E a → HOk c H w → wpList c.P ops Q l (Act.dd a ds) w
def CTd (c : Cx) (ds : List Deferred) (code : Code) (Q : Exit → Act → World → Prop) (E : Slots) (H : List Chunk) : Prop := ∀ a w, Env c.n E a → HOk c H w → code.wp c.P Q (Act.dd a ds) w
def PXd (c : Cx) (ds : List Deferred) (Q : Exit → Act → World → Prop) (x : Exit) (E : Slots) (H : List Chunk) : Prop := ∀ a w, Env c.n E a → HOk c H w → Q x (Act.dd a ds) w
theorem Wld.nil (h : PXd c ds Q .normal E H) : Wld c ds ops Q [] E H := h
theorem Wld.q {v : Value} (hg : guardB ops E o = some true) (hd : dstOk c.n o.dst = true) (hq : OpQ c o E H v) (h : Wld c ds ops Q rest (Eng.putE o.dst v E) H) : Wld c ds ops Q (o :: rest) E H := by
  intro a w hE hH
  unfold wpList
  have hw := wanted_of hE hg
  rw [show Region.wanted o (yielded ops (Act.dd a ds).tmps) = true from hw]
  refine .inl ?_
  unfold Oper.wp
  rw [show (execOp (Act.dd a ds).eval o).run c.P w = _ from hq a w hE hH]
  show wpList _ _ _ _ ((Act.dd a ds).put o.dst v) w
  rw [show (Act.dd a ds).put o.dst v = Act.dd (a.put o.dst v) ds by cases o.dst <;> rfl]
  exact h _ _ (hE.putE hd v) hH
theorem Wld.g {ι : Type} {Φ : ι → Prop} {V : ι → Value} {H' : ι → List Chunk} (hg : guardB ops E o = some true) (hd : dstOk c.n o.dst = true) (hq : OpG c o E H Φ V H')
    (h : ∀ i, Φ i → Wld c ds ops Q rest (Eng.putE o.dst (V i) E) (H' i)) : Wld c ds ops Q (o :: rest) E H := by
  intro a w hE hH
  unfold wpList
  have hw := wanted_of hE hg
  rw [show Region.wanted o (yielded ops (Act.dd a ds).tmps) = true from hw]
  refine .inl (upon_shift (a := a) (hq a w hE hH _ _ fun i w' hi hw' => ⟨by rw [put_defers']; exact hE.defers, h i hi _ _ (hE.putE hd _) hw'⟩))
theorem Wld.know {l : List Oper} (d : Nat) {v v' : Value} (hd : look E d = some v) (hb : v = v') (h : Wld c ds ops Q l ((d, v') :: E) H) : Wld c ds ops Q l E H :=
  fun a w hE hH => h a w (hE.know d hd hb) hH
theorem Wld.as {l : List Oper} {L : List Chunk} (hm : ∀ w, HOk c H w → HOk c L w) (h : Wld c ds ops Q l E L) : Wld c ds ops Q l E H := fun a w hE hH => h a w hE (hm w hH)
theorem CTd.as {x : Code} {L : List Chunk} (hm : ∀ w, HOk c H w → HOk c L w) (h : CTd c ds x Q E L) : CTd c ds x Q E H := fun a w hE hH => h a w hE (hm w hH)
theorem CTd.region {id : Nat} {l : List Oper} (h : Wld c ds l.toArray Q l E H) : CTd c ds (.region id l.toArray false) Q E H := fun a w hE hH => wp_region (by
  have h1 := wpOps_eq_wpList (P := c.P) (Q := Q) (ops := l.toArray) l 0 (fun j => by simp)
  rw [List.range_eq_range', List.size_toArray, h1]
  exact h a w hE hH)
theorem CTd.seq {x y : Code} (h : CTd c ds x (Exit.then (y.wp c.P Q) Q) E H) : CTd c ds (.seq x y) Q E H := fun a w hE hH => wp_seq (h a w hE hH)
theorem CTd.skip (h : PXd c ds Q .normal E H) : CTd c ds .skip Q E H := fun a w hE hH => wp_skip (h a w hE hH)
theorem CTd.ret (h : PXd c ds Q .ret E H) : CTd c ds .ret Q E H := fun a w hE hH => wp_ret (h a w hE hH)
theorem CTd.condF {t : Operand} {x y : Code} (hc : evE E t = some (.bool false)) (hf : CTd c ds y Q E H) : CTd c ds (.cond t x y) Q E H :=
  fun a w hE hH => wp_cond (t := false) (hE.eval hc) (hf a w hE hH)
theorem PXd.then_n {y : Code} (h : CTd c ds y Q E H) : PXd c ds (Exit.then (y.wp c.P Q) Q) .normal E H := h
/-- a closure is deferred -/
theorem Wl.defer {f : FuncId} {x : Operand} {caps : List Value} {ts : Array TypeId} {ty : TypeId} {pos : String} {af : Array Edge} (hx : evE E x = some (.func (.func f) #[] caps.toArray))
    (h : Wld c [⟨.fn (.func f) caps.toArray, #[]⟩] ops Q rest E H) : Wl c ops Q (⟨none, .defer ⟨.value x, #[], ts⟩, ty, pos, af, none⟩ :: rest) E H := by
  intro a w hE hH
  unfold wpList
  rw [wanted_of hE rfl]
  refine .inl ?_
  unfold Oper.wp
  have hrun : (execOp a.eval ⟨none, .defer ⟨.value x, #[], ts⟩, ty, pos, af, none⟩).run c.P w = .ok (.defer ⟨.fn (.func f) caps.toArray, #[]⟩) w := by
    show Sem.run c.P (do let z ← resolve a.eval ⟨.value x, #[], ts⟩ ty; pure (Next.defer z)) w = _
    simp [resolve, hE.eval hx, Deferred.ofValue]
  rw [hrun]
  show wpList _ _ _ _ { a with defers := _ :: a.defers } w
  rw [hE.defers]
  exact h a w hE hH
end
theorem enterD {P : Program} {f : FuncId} {fn : Func} {code : Code} {args : List Value} {w : World} {R : Ending → World → Prop} (X : List Nat) (n : Nat) (hf : P.funcs[f]? = some fn) (hb : fn.body = some code) (hn : fn.ntmps = n) (hl : Nat.ble args.length n = true)
    (h : CT ⟨P, n, X, w⟩ code (bodyPostD P fn R) (argE 0 args) []) : Calls P f args.toArray w R := by
  have hl := Nat.le_of_ble_eq_true hl
  refine calls_of_wp_defers hf hb (h _ _ ⟨?_, rfl, fun t v ht => ?_⟩ (HOk.start _))
  · simp only [Array.size_append, List.size_toArray, Array.size_replicate, hn]; omega
  · obtain ⟨_, h2⟩ := look_argE 0 args t v ht
    rw [Nat.sub_zero] at h2
    have hlt := (List.getElem?_eq_some_iff.1 h2).1
    rw [Array.getD_eq_getD_getElem?, Array.getElem?_append_left (by simpa using hlt)]
    simp [h2]
theorem run_cells3 {c : Cx} {E : Slots} {H : List Chunk} {e e1 e2 T T1 T2 : TypeId} {t t1 t2 size s1 s2 b b1 b2 : Nat} {xs : List Value} {v1 v2 : Value} {a : Act} {w : World} {fn : Func} (hr : fn.results = #[.cell t T, .cell t1 T1, .cell t2 T2]) (hE : Env c.n E a) (hH : HOk c H w)
    (hv : look E t = some (.pointer (some ⟨b, 0, none⟩))) (hv1 : look E t1 = some (.pointer (some ⟨b1, 0, none⟩))) (hv2 : look E t2 = some (.pointer (some ⟨b2, 0, none⟩))) (hh : Has H (.row e size (vb b) 1 xs)) (hh1 : Has H (.row e1 s1 (vb b1) 1 [v1])) (hh2 : Has H (.row e2 s2 (vb b2) 1 [v2]))
    (hs : isAggB c.P T = some true) (hz : sizeB c.P T = some xs.length) (hs1 : scalarB c.P T1 = some true) (hs2 : scalarB c.P T2 = some true) : (results fn a.tmps).run c.P w = .ok (.tuple #[.agg xs.toArray, v1, v2]) w := by
  have h2 := run_loadCells_list (P := c.P) w ⟨b, 0, none⟩ xs (fun j v hj => ((hH.rd hh) j v hj).2)
  have h3 : (loadVar T ⟨b, 0, none⟩).run c.P w = .ok (.agg xs.toArray) w := by
    unfold loadVar
    simp [run_isAgg_agg hs, run_sizeOf hz, h2]
  have k1 : w.cell? ⟨b1, 0, none⟩ = some v1 := ((hH.rd hh1) 0 v1 rfl).2
  have k2 : w.cell? ⟨b2, 0, none⟩ = some v2 := ((hH.rd hh2) 0 v2 rfl).2
  have h31 : (loadVar T1 ⟨b1, 0, none⟩).run c.P w = .ok v1 w := by
    unfold loadVar
    simp [run_isAgg_scalar hs1, k1]
  have h32 : (loadVar T2 ⟨b2, 0, none⟩).run c.P w = .ok v2 w := by
    unfold loadVar
    simp [run_isAgg_scalar hs2, k2]
  have h4 := hE.get t _ hv
  have h41 := hE.get t1 _ hv1
  have h42 := hE.get t2 _ hv2
  rw [Array.getD_eq_getD_getElem?] at h4 h41 h42
  unfold results
  simp only [hr]
  simp [h4, h41, h42, asAddr, h3, h31, h32]
/-- The end of a function that deferred one closure, which leaves the world alone. -/
theorem PXd.retC3 {c : Cx} {E : Slots} {H : List Chunk} {fn : Func} {R : Ending → World → Prop} {f : FuncId} {caps : List Value} {e e1 e2 T T1 T2 : TypeId} {t t1 t2 size s1 s2 b b1 b2 n : Nat} {xs : List Value} {v1 v2 : Value} (hgo : isGo c.P f = true) (hcl : ∀ w, CallsD c.P f caps.toArray .returning w (fun e u w' => u = .returning ∧ e = .returned (.tuple #[]) ∧ w' = w)) (hr : fn.results = #[.cell t T, .cell t1 T1, .cell t2 T2])
    (hv : look E t = some (.pointer (some ⟨b, 0, none⟩))) (hv1 : look E t1 = some (.pointer (some ⟨b1, 0, none⟩))) (hv2 : look E t2 = some (.pointer (some ⟨b2, 0, none⟩))) (hh : Has H (.row e size (vb b) 1 xs)) (hh1 : Has H (.row e1 s1 (vb b1) 1 [v1])) (hh2 : Has H (.row e2 s2 (vb b2) 1 [v2]))
    (hs : isAggB c.P T = some true) (hz : sizeB c.P T = some n) (hl : xs.length = n) (hs1 : scalarB c.P T1 = some true) (hs2 : scalarB c.P T2 = some true) (h : ∀ w, HOk c H w → R (.returned (.tuple #[.agg xs.toArray, v1, v2])) w) : PXd c [⟨.fn (.func f) caps.toArray, #[]⟩] (bodyPostD c.P fn R) .ret E H := fun a w hE hH => by
  refine leaves_cons (f := f) (args := caps.toArray) (by simp) ?_ ?_
  · show (callFunc f (#[] ++ caps.toArray)).run c.P w = _
    rw [run_callGo hgo]; simp
  · refine (hcl w).mono ?_
    rintro _ _ _ ⟨rfl, rfl, rfl⟩
    exact ⟨_, run_cells3 (a := a) hr hE hH hv hv1 hv2 hh hh1 hh2 hs (by rw [hl]; exact hz) hs1 hs2, h _ hH⟩
end Go.Eng

namespace Go.Rel
open Go Go.Eng

theorem tab_of {P : Program} {W : World} {name : String} (hg : P.globalNamed name = some 0) (h : Lib.TabIs P W name .u8 (Lib.deBruijn64tab.map (fun (n : Nat) => (n : Int)))) : Tab W := by
  intro j v hv
  refine ⟨rfl, ?_⟩
  unfold tabV at hv
  have hj : j < Lib.deBruijn64tab.length := by
    have := (List.getElem?_eq_some_iff.1 hv).1
    simpa using this
  have := h.cell hg j (by simpa using hj)
  show W.cell? ((⟨0, 0, none⟩ : Addr).add j) = some v
  rw [add_mk, Nat.zero_add, this, ← hv]
  simp [List.getD, hj]
end Go.Rel

namespace Go.Ex
open Go Go.Eng Go.Proofs Go.Shelf Go.Sort
section
variable {α : Type} [Inhabited α]
theorem fm_get {enc : α → List Value} {k : Nat} (hk0 : 0 < k) (hk : ∀ x, (enc x).length = k) : ∀ (l : List α) (t : Nat), t < l.length * k → (l.flatMap enc)[t]? = (enc (l[t / k]?.getD default))[t % k]? := by
  intro l
  induction l with
  | nil => intro t ht; simp at ht
  | cons x l ih =>
    intro t ht
    rw [List.flatMap_cons]
    by_cases h : t < k
    · rw [List.getElem?_append_left (by rw [hk]; exact h), Nat.div_eq_of_lt h, Nat.mod_eq_of_lt h]; rfl
    · have hle : k ≤ t := Nat.le_of_not_lt h
      obtain ⟨s, rfl⟩ : ∃ s, t = s + k := ⟨t - k, by omega⟩
      rw [List.getElem?_append_right (by rw [hk]; exact hle), hk, Nat.add_sub_cancel, ih s (by rw [List.length_cons, Nat.add_mul, Nat.one_mul] at ht; omega), Nat.add_div_right s hk0, Nat.add_mod_right]; rfl
theorem flatK_list {enc : α → List Value} {k : Nat} (hk0 : 0 < k) (hk : ∀ x, (enc x).length = k) (d : Array α) : (flatK enc k d).toList = d.toList.flatMap enc := by
  have hl : (d.toList.flatMap enc).length = d.size * k := by rw [flat_len hk, Array.length_toList]
  refine List.ext_getElem? fun t => ?_
  by_cases ht : t < d.size * k
  · have h1 : (flatK enc k d).toList[t]? = some (flatK enc k d)[t]! := by
      have h0 : t < (flatK enc k d).size := by simpa using ht
      rw [Array.getElem?_toList, getElem!_pos (flatK enc k d) t h0, Array.getElem?_eq_getElem h0]
    have hdiv : t / k < d.size := Nat.div_lt_of_lt_mul (by rw [Nat.mul_comm]; exact ht)
    rw [h1, get_flatK _ _ _ _ ht, fm_get hk0 hk _ _ (by rw [Array.length_toList]; exact ht)]
    have h2 : d.toList[t / k]?.getD default = d[t / k]! := by
      rw [Array.getElem?_toList, getElem!_pos d (t / k) hdiv, Array.getElem?_eq_getElem hdiv]; rfl
    rw [h2]
    have h3 : t % k < (enc d[t / k]!).length := by rw [hk]; exact Nat.mod_lt _ hk0
    rw [getElem!_pos (enc d[t / k]!) (t % k) h3, List.getElem?_eq_getElem h3]
  · rw [List.getElem?_eq_none (by rw [Array.length_toList, size_flatK]; omega), List.getElem?_eq_none (by rw [hl]; omega)]
theorem put_take (F c : Array Value) (h : F.size ≤ c.size) : (putCells id 0 F c).toList.take F.size = F.toList := by
  refine List.ext_getElem? fun t => ?_
  by_cases ht : t < F.size
  · rw [List.getElem?_take_of_lt ht]
    have hc : t < c.size := by omega
    simp [putCells, ht, hc]
  · rw [List.getElem?_eq_none (by simp; omega), List.getElem?_eq_none (by simp; omega)]
theorem sw_ext {enc : α → List Value} {k : Nat} (w : World) (g m : Nat) (dk : Array α) (os : Array Obj) : Ext [g] w (sortWorldK enc k w g 0 m dk os) := by
  refine ⟨rfl, rfl, rfl, by simp [sortWorldK, grow, putRowK, putRow, mapBlock, ahead], fun j hj hx => ?_, by simp [sortWorldK, grow, putRowK, putRow, mapBlock, ahead]⟩
  have hne : ¬ g = j := fun e => hx (by rw [e]; exact List.mem_singleton.2 rfl)
  simp only [sortWorldK, grow, putRowK, putRow, mapBlock, ahead]
  rw [Array.getElem?_append_left (by simpa using hj), Array.getElem?_modify, if_neg hne]; rfl
theorem sw_row {enc : α → List Value} {k : Nat} {w : World} {g m : Nat} {dk : Array α} {os : Array Obj} {cur : Array Value} {e : TypeId} (h : w.heap[g]? = some (.cells cur e (0, 0))) : (sortWorldK enc k w g 0 m dk os).heap[g]? = some (.cells (putCells id 0 (flatK enc k dk) cur) e (0, 0)) := by
  have hlt := (Array.getElem?_eq_some_iff.1 h).1
  simp only [sortWorldK, grow, putRowK, putRow, mapBlock, ahead]
  rw [Array.getElem?_append_left (by simpa using hlt), Array.getElem?_modify, if_pos rfl]
  show Option.map _ w.heap[g]? = _
  rw [h]; rfl
end
/-- only blocks are laid: the world has grown -/
theorem ext_grow {w w' : World} (h : Ext [] w w') : ∃ q os, w' = grow (w.drewN q) os := by
  refine ⟨w'.drawn - w.drawn, w'.heap.extract w.heap.size w'.heap.size, ?_⟩
  have hh : w.heap ++ w'.heap.extract w.heap.size w'.heap.size = w'.heap := by
    refine Array.ext_getElem? fun j => ?_
    by_cases hj : j < w.heap.size
    · rw [Array.getElem?_append_left hj]; exact (h.block j hj (by simp)).symm
    · rw [Array.getElem?_append_right (by omega), Array.getElem?_extract]
      by_cases h2 : j < w'.heap.size
      · rw [if_pos (by omega)]; congr 1; omega
      · rw [if_neg (by omega), Array.getElem?_eq_none (by omega)]
  have hd := h.drawn
  obtain ⟨heap, tape, drawn, os, output⟩ := w'
  simp only [grow, World.drewN]
  have e1 := h.os; have e2 := h.tape; have e3 := h.output
  simp only at e1 e2 e3 hh hd
  rw [hh, e1, e2, e3, show w.drawn + (drawn - w.drawn) = drawn by omega]
/-- elements whose memory stands while block g is written -/
abbrev Sx (g : Nat) (w : World) : Type := { v : Xv // Stays [g] w (evm v) }
instance (g : Nat) (w : World) : Inhabited (Sx g w) := ⟨⟨ev0, fun w' _ => ev0_m w'⟩⟩
theorem sx_swo (g : Nat) (w : World) : SWO (ltOf fun x y : Sx g w => cmpE (toE x.1) (toE y.1)) where
  irrefl x := by
    have := (cmp_zero (toE x.1) (toE x.1)).2 rfl
    simp only [ltOf, this]; decide
  trans x y z h1 h2 := by
    simp only [ltOf, decide_eq_true_eq] at *
    exact cmp_trans _ _ _ h1 h2
  ntrans x y z h1 h2 := by
    simp only [ltOf, decide_eq_false_iff_not] at *
    intro h3
    have a : LeE (toE y.1) (toE x.1) := LeE.of_not h1
    have b : LeE (toE z.1) (toE y.1) := LeE.of_not h2
    exact (b.trans a) h3
section
variable {P : Program} {ρ : Ren}
theorem sort_ok (L : SlLaysF0.n6 P ρ) (aE : ∀ w, (isAgg (ρ.t 24)).run P w = .ok true w) (zE : ∀ w, (Go.sizeOf (ρ.t 24)).run P w = .ok 3 w) (T : TypeId) (w : World) (ks : List Xv) (ka : Option Addr) (kc : Nat)
    (hk : Stays (blks [.row T 3 (.slice ka ks.length kc) ks.length (ks.flatMap evc)]) w (AllM ks)) (hpre : Pre [.row T 3 (.slice ka ks.length kc) ks.length (ks.flatMap evc)] w) (hsz : ks.length < 4611686018427387904)
    (g : Nat) (hgo : isGo P g = true) (hq : ∀ x y : Xv, ∀ w : World, Stays [] w (evm x) → Stays [] w (evm y) → Calls P g #[evv x, evv y] w (fun e w' => e = .returned (.int .i64 (cmpE (toE x) (toE y))) ∧ Ext [] w w')) :
    Calls P (ρ.f 6) #[.slice ka ks.length kc, .func (.func g) #[] #[]] w (fun e w' => ∃ us : List Xv, (us.Perm ks ∧ (us.map toE).Pairwise LeE ∧ us.length = ks.length) ∧ e = .returned (.tuple #[]) ∧ Post (blks [.row T 3 (.slice ka ks.length kc) ks.length (ks.flatMap evc)]) [.row T 3 (.slice ka us.length kc) us.length (us.flatMap evc)] w w') := by
  have hown : World.ownsRow w 0 T 3 (.slice ka ks.length kc) ks.length (ks.flatMap evc) := hpre.holds _ List.mem_cons_self
  have hb : ∀ us : List Xv, us.length = ks.length → ∀ b, (Chunk.row T 3 (.slice ka us.length kc) us.length (us.flatMap evc)).own b → w.heap.size ≤ b ∨ b ∈ blks [.row T 3 (.slice ka ks.length kc) ks.length (ks.flatMap evc)] := fun us hl b hb => by
    right
    refine mem_blks.2 ⟨_, List.mem_cons_self, ?_⟩
    exact (ownB_len ka ks.length us.length kc).trans hb
  have none : ks = [] → Calls P (ρ.f 6) #[.slice ka ks.length kc, .func (.func g) #[] #[]] w (fun e w' => ∃ us : List Xv, (us.Perm ks ∧ (us.map toE).Pairwise LeE ∧ us.length = ks.length) ∧ e = .returned (.tuple #[]) ∧ Post (blks [.row T 3 (.slice ka ks.length kc) ks.length (ks.flatMap evc)]) [.row T 3 (.slice ka us.length kc) us.length (us.flatMap evc)] w w') := fun h0 => by
    subst h0
    refine (AnyF.slices_SortFunc_none L ka kc (.func (.func g) #[] #[]) w).mono ?_
    rintro e w' ⟨rfl, rfl⟩
    exact ⟨[], ⟨.refl _, .nil, rfl⟩, rfl, Ext.refl _ _, fun k hk => by rw [List.mem_singleton] at hk; subst hk; exact ⟨hown, hb [] rfl⟩, List.pairwise_singleton _ _⟩
  rcases hown.2 with ⟨_, h2⟩ | ⟨b, cap, cur, hv, hbg, hgg, hle, hcm, hcs, htake⟩
  · exact none (List.eq_nil_of_length_eq_zero h2)
  cases hv
  have hX : blks [.row T 3 (.slice (some ⟨b, 0, Option.none⟩) ks.length kc) ks.length (ks.flatMap evc)] = [b] := rfl
  rw [hX] at hk ⊢
  have hall : ∀ k ∈ ks, Stays [b] w (evm k) := fun k hkm => hk.mono fun w h => h k hkm
  let ds : List (Sx b w) := ks.pmap (fun k h => ⟨k, h⟩) hall
  have hds : ds.map (fun x => x.1) = ks := by
    show (ks.pmap _ hall).map _ = ks
    rw [List.map_pmap, List.pmap_eq_map, List.map_id']
  have hlen : ds.toArray.size = ks.length := by rw [List.size_toArray, ← hds, List.length_map]
  let enc : Sx b w → List Value := fun x => evc x.1
  have hek : ∀ x, (enc x).length = 3 := fun x => evc_len x.1
  have hfl : ∀ l : List (Sx b w), l.flatMap enc = (l.map (fun x => x.1)).flatMap evc := fun l => by rw [List.flatMap_map]
  have hcall := AnyQ.slices_SortFunc L 3 aE zE enc hek (fun x v hv => evc_one x.1 v hv) (fun x y => cmpE (toE x.1) (toE y.1)) (sx_swo b w) g #[] b 0 kc ds.toArray w (run_callGo hgo) ?_ ?_ (Array.getElem?_eq_some_iff.1 hgg).1 (by rw [hlen]; exact hsz)
  · rw [hlen] at hcall
    refine hcall.mono ?_
    rintro e w' ⟨rfl, d', n, os, hperm, hsort, rfl⟩
    have hd' : d'.size = ks.length := by rw [hperm.1, hlen]
    have hp : d'.toList.Perm ds := by
      have := hperm.2.2
      have e1 : d'.extract 0 ks.length = d' := by rw [← hd']; simp
      have e2 : ds.toArray.extract 0 ks.length = ds.toArray := by rw [← hlen]; simp
      rw [e1, e2] at this
      exact this
    have hul : (d'.toList.map fun x => x.1).length = ks.length := by rw [List.length_map, Array.length_toList, hd']
    refine ⟨d'.toList.map fun x => x.1, ⟨hds ▸ hp.map _, ?_, hul⟩, rfl, sw_ext w b n d' os, ?_, List.pairwise_singleton _ _⟩
    · rw [List.map_map, List.pairwise_map]
      rw [List.pairwise_iff_getElem]
      intro i j hi hj hij
      have h1 := hsort i j (Nat.zero_le _) hij (by rw [← hd']; simpa using hj)
      rw [getElem!_pos d' j (by simpa using hj), getElem!_pos d' i (by simpa using hi)] at h1
      simp only [ltOf, decide_eq_false_iff_not] at h1
      simpa [LeE] using h1
    · intro k hkm
      rw [List.mem_singleton] at hkm
      subst hkm
      refine ⟨?_, by have h1 := hb _ hul; rw [hX] at h1; exact h1⟩
      have hF : (flatK enc 3 d').toList = (d'.toList.map fun x => x.1).flatMap evc := by rw [flatK_list (by decide) hek, hfl]
      have hFs : (flatK enc 3 d').size = ks.length * 3 := by rw [size_flatK, hd']
      rw [hul]
      refine ⟨by rw [evcs_len, hul], .inr ⟨b, kc, _, rfl, hbg, sw_row hgg, hle, hcm, ?_, ?_⟩⟩
      · simp only [putCells, Array.size_mapIdx]; exact hcs
      · rw [← hFs, put_take _ _ (by rw [hFs, hcs]; exact Nat.mul_le_mul_right _ hle), hF]
  · intro m os dk hs x y
    have he := sw_ext (enc := enc) (k := 3) w b m dk os
    have hx := x.2 _ he
    have hy := y.2 _ he
    refine (hq x.1 y.1 _ (evm_stays _ hx) (evm_stays _ hy)).mono ?_
    rintro e w' ⟨rfl, hw⟩
    exact ⟨rfl, ext_grow hw⟩
  · intro j hj
    rw [size_flatK] at hj
    have hj2 : j < ds.length * 3 := hj
    have h1 : (flatK enc 3 ds.toArray).toList = ks.flatMap evc := by rw [flatK_list (by decide) hek, hfl, hds]
    have h2 : (ks.flatMap evc)[j]? = some (flatK enc 3 ds.toArray)[j]! := by
      rw [← h1, Array.getElem?_toList, getElem!_pos (flatK enc 3 ds.toArray) j (by rw [size_flatK]; exact hj2), Array.getElem?_eq_getElem]
    refine ⟨?_, ?_⟩
    · have := hown.cells (g := b) rfl j _ h2
      rw [add_mk] at this
      exact this
    · simp [World.frozen?, hgg]
end
end Go.Ex

namespace Go.Am
open Go Go.Eng Go.ChangeShapes Go.WideShapes Go.ChangeAt Go.RowKit Go.Ex
open Go.Tl (bo Wd)
section
variable {H : Type} {enc : TypeId × Value → H} {P : Program} {W : World} {held : Bool} {spare : Nat → Bool}
/-- cells that read as a slice, of elements of k cells each, of which R holds besides -/
theorem trod_flatM {α : Type} {f : α → List Value} {R : α → Prop} {k : Nat} (hk : ∀ x, (f x).length = k) {t e : TypeId} {n : Nat} {cs : List Value} {y : DataW H × List MemPlace} (ht : P.underlying t = some (.slice e)) (hc : P.cellsOf e = k)
    (hel : ∀ m cs y, m < n → DataW.trod enc P W 0 spare held m e cs = some y → ∃ x, cs = f x ∧ R x) (h : DataW.trod enc P W 0 spare held n t cs = some y) :
    ∃ (a : Option Addr) (xs : List α) (cp : Nat), cs = [.slice a xs.length cp] ∧ Rd W a (xs.flatMap f) ∧ (∀ x ∈ xs, R x) ∧ xs.length ≤ 9223372036854775807 := by
  rcases DataW.trod_slice ht h with ⟨hcs, _⟩ | ⟨x, l, c, elems, rest, q, hq, hcs, _, _, hl, hm, hlen, hel2, _, _⟩
  · exact ⟨none, [], 0, hcs, Rd.nil _ _, (fun _ h => by cases h), by simp⟩
  · have each : ∀ i, i < l → ∃ z, W.cells? 0 (x.add (i * k)) k = some (f z) ∧ R z := fun i hi => by
      have h1 := hel2 i hi
      rw [hc, List.getElem?_eq_getElem (by omega : i < elems.length), Option.bind_eq_some_iff] at h1
      obtain ⟨cs, h2, h3⟩ := h1
      obtain ⟨z, rfl, hz⟩ := hel _ _ _ (by omega) h3
      exact ⟨z, h2, hz⟩
    obtain ⟨xs, hxl, hxs⟩ := pick_list (p := fun i z => W.cells? 0 (x.add (i * k)) k = some (f z) ∧ R z) l each
    refine ⟨some x, xs, c, by rw [hxl]; exact hcs, ?_, fun z hz => ?_, by unfold maxLen at hm; omega⟩
    · intro j v hj
      refine ⟨rfl, ?_⟩
      have hjl : j < xs.length * k := by rw [← flat_len hk xs]; exact (List.getElem?_eq_some_iff.1 hj).1
      have hk0 : 0 < k := by
        rcases Nat.eq_zero_or_pos k with h0 | h0
        · subst h0; omega
        · exact h0
      have hi : j / k < xs.length := Nat.div_lt_of_lt_mul (by rw [Nat.mul_comm]; exact hjl)
      have hr : j % k < k := Nat.mod_lt _ hk0
      have hj2 : j / k * k + j % k = j := by rw [Nat.mul_comm]; exact Nat.div_add_mod j k
      have hd : xs[j / k]? = some xs[j / k] := List.getElem?_eq_getElem hi
      have hcell := (hxs _ _ hd).1
      rw [← hj2, flat_get hk xs xs[j / k] hi (j % k) hr] at hj
      have hgd : xs.getD (j / k) xs[j / k] = xs[j / k] := by rw [List.getD_eq_getElem?_getD, hd]; rfl
      rw [hgd] at hj
      unfold World.cells? at hcell
      rw [if_pos (Nat.zero_le _)] at hcell
      have := mapM_some_get hcell (j % k) (j % k) (by rw [List.getElem?_range hr])
      rw [hj] at this
      show W.cell? (x.add j) = some v
      rw [← hj2, ← add_add]
      exact this
    · obtain ⟨i, hi, rfl⟩ := List.mem_iff_getElem.1 hz
      exact (hxs i _ (List.getElem?_eq_getElem hi)).2
/-- An expression that came in. -/
theorem trod_expr {t tI tL : TypeId} {f0 f1 f2 : Field} (hu : P.underlying t = some (.struct #[f0, f1, f2])) (ho : f0.offset = 0 ∧ f1.offset = 1 ∧ f2.offset = 2) (hty : f0.type = tI ∧ f1.type = tI ∧ f2.type = tL)
    (hI : P.underlying tI = some (.int .i64)) (hL : P.underlying tL = some (.slice t)) (hcI : P.cellsOf tI = 1) (hcL : P.cellsOf tL = 1) (hc : P.cellsOf t = 3) : ∀ n cs (y : DataW H × List MemPlace), DataW.trod enc P W 0 spare held n t cs = some y → ∃ x : Xv, cs = evc x ∧ evm x W := by
  intro n
  induction n using Nat.strongRecOn with
  | _ n ih =>
    intro cs y h
    obtain ⟨ys, q, hq, _, hl, hxl, hfs⟩ := DataW.trod_struct hu h
    have h0 := hfs 0 f0 rfl
    have h1 := hfs 1 f1 rfl
    have h2 := hfs 2 f2 rfl
    have hx : ys.length = 3 := hxl
    rw [hty.1, ho.1, hcI, List.getElem?_eq_getElem (by omega)] at h0
    rw [hty.2.1, ho.2.1, hcI, List.getElem?_eq_getElem (by omega)] at h1
    rw [hty.2.2, ho.2.2, hcL, List.getElem?_eq_getElem (by omega)] at h2
    obtain ⟨o, e0, _⟩ := DataW.trod_int hI h0
    obtain ⟨l, e1, _⟩ := DataW.trod_int hI h1
    obtain ⟨a, ks, cp, e2, g2, g3, g4⟩ := trod_flatM (f := evc) (R := fun z => evm z W) (k := 3) evc_len hL hc (fun m cs y hm h => ih m (by omega) cs y h) h2
    rw [hc] at hl
    refine ⟨.mk o l a cp ks, ?_, evm_iff.2 ⟨g2, g3, g4⟩⟩
    match cs, hl with
    | [v0, v1, v2], _ =>
      simp at e0 e1 e2
      rw [e0, e1, e2]; rfl
theorem open_expr {r : Reach} {b0 : Nat} {t tI tL : TypeId} {f0 f1 f2 : Field} {v : Value} {d : DataW H} {ps : List MemPlace} (hu : P.underlying t = some (.struct #[f0, f1, f2])) (ho : f0.offset = 0 ∧ f1.offset = 1 ∧ f2.offset = 2) (hty : f0.type = tI ∧ f1.type = tI ∧ f2.type = tL)
    (hI : P.underlying tI = some (.int .i64)) (hL : P.underlying tL = some (.slice t)) (hcI : P.cellsOf tI = 1) (hcL : P.cellsOf tL = 1) (hc : P.cellsOf t = 3)
    (hval : Value.okWide P W r b0 t v) (h : DataW.Trod enc P W 0 spare held t v d ps) : ∃ x : Xv, v = evv x ∧ evm x W := by
  obtain ⟨cs, rfl, hsz⟩ := okWide_struct hu hval
  obtain ⟨fuel, hf⟩ := h
  obtain ⟨x, hx, hm⟩ := trod_expr hu ho hty hI hL hcI hcL hc _ _ _ hf
  refine ⟨x, ?_, hm⟩
  have hx : cs.toList = evc x := hx
  rw [show cs = (evc x).toArray from by rw [← hx]]; rfl
end
end Go.Am

