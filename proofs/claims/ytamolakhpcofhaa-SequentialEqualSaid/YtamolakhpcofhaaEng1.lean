/-
  The engine of the walks: slots as a list, memory as chunks, one lemma for each operation. No condition.
-/
import Derived.Test.YtamolakhpcofhaaMod
import Derived.Laws.Strings
import Derived.Lib.AppendStr
import Derived.Lib.UnsafeStr
import Derived.Lib.Builder
import Derived.Laws.Externs
import Derived.Test.YtamolakhpcofhaaEng
set_option linter.unusedSimpArgs false
namespace Go.Eng
open Go Go.Sq
/-! families of rows: chunks rs.map (rch e f) behind the others -/
theorem App.of (L F : List Chunk) : App L F (L ++ F) := by
  induction L with
  | nil => exact .nil
  | cons k L ih => exact .cons ih
section
variable {c : Cx} {w : World} {A B : List Chunk}
theorem HOk.swap (h : HOk c (A ++ B) w) : HOk c (B ++ A) w := h.perm List.perm_append_comm
theorem HOk.bindL {L F : List Chunk} (h : HOk c (L ++ F) w) {p : World → Prop} (hp : ∀ w, (∀ k ∈ L, k.holds w) → p w) : HOk c (.frag (blks L) p :: F) w := by
  refine ⟨h.ext, fun k hk => ?_, List.Pairwise.cons (fun k hk b hb hb' => ?_) (List.pairwise_append.1 h.apart).2.1⟩
  · rcases List.mem_cons.1 hk with rfl | hk
    · refine ⟨⟨fun b hb => ?_, fun w' hw' => hp w' fun l hl => ?_⟩, fun b hb => ?_⟩
      · obtain ⟨l, hl, hb⟩ := mem_blks.1 hb
        exact (h.holds l (List.mem_append_left _ hl)).1.lt hb
      · exact (h.holds l (List.mem_append_left _ hl)).1.of_block fun b hb => hw' b (mem_blks.2 ⟨l, hl, hb⟩)
      · obtain ⟨l, hl, hb⟩ := mem_blks.1 hb
        exact (h.holds l (List.mem_append_left _ hl)).2 b hb
    · exact h.holds k (List.mem_append_right _ hk)
  · obtain ⟨l, hl, hb⟩ := mem_blks.1 hb
    exact (List.pairwise_append.1 h.apart).2.2 l hl k hk b hb hb'
theorem HOk.bindR {L : List Chunk} (h : HOk c (A ++ L) w) {p : World → Prop} (hp : ∀ w, (∀ k ∈ L, k.holds w) → p w) : HOk c (.frag (blks L) p :: A) w := h.swap.bindL hp
end
/-- a row of things of one cell -/
abbrev rch {α : Type} (e : TypeId) (f : α → Value) (r : Rx α) : Chunk := .row e 1 (rxv r) r.xs.length (r.xs.map f)
abbrev fam {α : Type} (e : TypeId) (f : α → Value) (rs : List (Rx α)) : List Chunk := rs.map (rch e f)
/-- a row of things of k cells -/
abbrev rchN {α : Type} (e : TypeId) (k : Nat) (f : α → List Value) (r : Rx α) : Chunk := .row e k (rxv r) r.xs.length (r.xs.flatMap f)
section
variable {c : Cx} {w : World} {A : List Chunk} {α : Type} {e : TypeId} {f : α → Value} {rs : List (Rx α)}
theorem getX {j : Nat} (hj : j < rs.length) : rs[j]? = some (rs.getD j rx0) := by
  rw [List.getD_eq_getElem?_getD, List.getElem?_eq_getElem hj]; rfl
theorem fam_get {ch : Rx α → Chunk} {j : Nat} (hj : j < rs.length) {p : Nat} (hp : A.length + j = p) : (A ++ rs.map ch)[p]? = some (ch (rs.getD j rx0)) := by
  subst hp
  rw [List.getElem?_append_right (by omega), show A.length + j - A.length = j by omega, List.getElem?_map, getX hj]; rfl
theorem fam_set {ch : Rx α → Chunk} {j : Nat} {p : Nat} (hp : A.length + j = p) (r : Rx α) : (A ++ rs.map ch).set p (ch r) = A ++ (rs.set j r).map ch := by
  subst hp
  rw [List.set_append_right _ _ (by omega), show A.length + j - A.length = j by omega, List.map_set]
theorem rxs_fam {w : World} (h : ∀ k ∈ fam e f rs, k.holds w) : rxs f rs w := fun r hr => Rd.of_owns (h (rch e f r) (List.mem_map.2 ⟨r, hr, rfl⟩))
/-- n empty rows -/
theorem HOk.nilfam (h : HOk c A w) (n : Nat) (ch : Rx α → Chunk) (hc : ∃ (k : Nat), ch rx0 = .row e k (.slice none 0 0) 0 []) : HOk c (A ++ (List.replicate n rx0).map ch) w := by
  obtain ⟨k, hc⟩ := hc
  induction n with
  | zero => simpa using h
  | succ n ih =>
    rw [List.replicate_succ, List.map_cons, hc]
    have h1 := ih.nilrow e k
    exact h1.perm List.perm_middle.symm
/-- one row more in each of two families -/
theorem HOk.fam2 {β : Type} {e' : TypeId} {g : β → Value} {os : List (Rx β)} {r : Rx α} {o : Rx β} (h : HOk c (rch e f r :: rch e' g o :: (A ++ (fam e f rs ++ fam e' g os))) w) : HOk c (A ++ (fam e f (rs ++ [r]) ++ fam e' g (os ++ [o]))) w := by
  refine h.perm ?_
  rw [show fam e f (rs ++ [r]) = fam e f rs ++ [rch e f r] from List.map_append, show fam e' g (os ++ [o]) = fam e' g os ++ [rch e' g o] from List.map_append]
  have h1 : (A ++ (fam e f rs ++ [rch e f r] ++ (fam e' g os ++ [rch e' g o]))).Perm ([rch e f r] ++ ([rch e' g o] ++ (A ++ (fam e f rs ++ fam e' g os)))) := by
    have e1 : A ++ (fam e f rs ++ [rch e f r] ++ (fam e' g os ++ [rch e' g o])) = (A ++ fam e f rs) ++ [rch e f r] ++ fam e' g os ++ [rch e' g o] := by simp
    have e2 : [rch e f r] ++ ([rch e' g o] ++ (A ++ (fam e f rs ++ fam e' g os))) = [rch e f r] ++ ([rch e' g o] ++ ((A ++ fam e f rs) ++ fam e' g os)) := by simp
    rw [e1, e2]
    generalize A ++ fam e f rs = X
    generalize fam e' g os = Y
    have p1 : (X ++ [rch e f r] ++ Y ++ [rch e' g o]).Perm ([rch e' g o] ++ (X ++ [rch e f r] ++ Y)) := List.perm_append_comm
    have p2 : (X ++ [rch e f r] ++ Y).Perm ([rch e f r] ++ (X ++ Y)) := by
      have : (X ++ [rch e f r]).Perm ([rch e f r] ++ X) := List.perm_append_comm
      have := this.append_right Y
      rwa [List.append_assoc [rch e f r]] at this
    have p3 := (p2.append_left [rch e' g o])
    refine p1.trans (p3.trans ?_)
    exact List.Perm.swap _ _ _
  exact h1.symm
end
/-- a function's memory, row by row -/
def svH (S : Sv) (ti tn te ts to : TypeId) : List Chunk :=
  [.row tn 1 (.slice S.na S.rs.length S.nc) S.rs.length (S.rs.map rxv), .row to 1 (.slice S.oa S.os.length S.oc) S.os.length (S.os.map rxv), .row te 1 (.slice S.ea S.en.length S.ec) S.en.length (S.en.map Tl.bo), .row ts 1 (.slice S.fa S.fi.length S.fc) S.fi.length (S.fi.map sv)] ++ (fam ti zo S.rs ++ fam ts sv S.os)
theorem svm_of {S : Sv} {ti tn te ts to : TypeId} {w : World} (h : ∀ k ∈ svH S ti tn te ts to, k.holds w) : svm S w := by
  have hm : ∀ (i : Nat) (k : Chunk), (svH S ti tn te ts to)[i]? = some k → k.holds w := fun i k hk => h k (List.mem_of_getElem? hk)
  exact ⟨Rd.of_owns (hm 0 _ rfl), rxs_fam (e := ti) fun k hk => h k (List.mem_append_right _ (List.mem_append_left _ hk)), Rd.of_owns (hm 1 _ rfl), rxs_fam (e := ts) fun k hk => h k (List.mem_append_right _ (List.mem_append_right _ hk)), Rd.of_owns (hm 2 _ rfl), Rd.of_owns (hm 3 _ rfl)⟩
end Go.Eng
namespace Go.Eng
open Go Go.Sq
theorem HOk.famPut {c : Cx} {w : World} {A H : List Chunk} {α : Type} {ch : Rx α → Chunk} {rs : List (Rx α)} {j p : Nat} {k' : Chunk} (r : Rx α) (h : HOk c (H.set p k') w) (hH : H = A ++ rs.map ch) (hk : k' = ch r) (hp : A.length + j = p) : HOk c (A ++ (rs.set j r).map ch) w := by
  subst hH hk
  rw [fam_set hp] at h
  exact h
abbrev stv (p : Nat × Nat) : List Value := [.int .i64 (p.1 : Int), .int .i64 (p.2 : Int)]
theorem stv_len (p : Nat × Nat) : (stv p).length = 2 := rfl
/-- a row of rows of pairs -/
def befM (b : Nat) (rs : List (Rx (Nat × Nat))) (w : World) : Prop := Rd w (some ⟨b, 0, none⟩) (rs.map rxv) ∧ ∀ r ∈ rs, Rd w r.a (r.xs.flatMap stv)
theorem HOk.befB {c : Cx} {w : World} {b n cp : Nat} {rs : List (Rx (Nat × Nat))} {ts tp : TypeId} {A : List Chunk} (h : HOk c (.row ts 1 (.slice (some ⟨b, 0, none⟩) n cp) n (rs.map rxv) :: (A ++ rs.map (rchN tp 2 stv))) w) : HOk c (.frag (blks (.row ts 1 (.slice (some ⟨b, 0, none⟩) n cp) n (rs.map rxv) :: rs.map (rchN tp 2 stv))) (befM b rs) :: A) w := by
  refine (h.perm (List.Perm.cons _ List.perm_append_comm)).bindL (L := .row ts 1 (.slice (some ⟨b, 0, none⟩) n cp) n (rs.map rxv) :: rs.map (rchN tp 2 stv)) (F := A) fun w hk => ⟨Rd.of_owns (hk _ List.mem_cons_self), fun r hr => Rd.of_owns (hk (rchN tp 2 stv r) (List.mem_cons_of_mem _ (List.mem_map.2 ⟨r, hr, rfl⟩)))⟩
end Go.Eng
namespace Go.Eng
open Go Go.Sq
theorem HOk.behind {c : Cx} {w : World} {A B : List Chunk} (h : HOk c (A ++ B) w) : HOk c B w := h.sublist (List.sublist_append_right _ _)
end Go.Eng
namespace Go.Eng
open Go Go.Sq
/-- a row of rows of numbers -/
def begM (b : Nat) (rs : List (Rx Nat)) (w : World) : Prop := Rd w (some ⟨b, 0, none⟩) (rs.map rxv) ∧ ∀ r ∈ rs, Rd w r.a (r.xs.map zn)
theorem HOk.begB {c : Cx} {w : World} {b n cp : Nat} {rs : List (Rx Nat)} {ts tp : TypeId} {A : List Chunk} (h : HOk c (.row ts 1 (.slice (some ⟨b, 0, none⟩) n cp) n (rs.map rxv) :: (A ++ rs.map (rch tp zn))) w) : HOk c (.frag (blks (.row ts 1 (.slice (some ⟨b, 0, none⟩) n cp) n (rs.map rxv) :: rs.map (rch tp zn))) (begM b rs) :: A) w := by
  refine (h.perm (List.Perm.cons _ List.perm_append_comm)).bindL (L := .row ts 1 (.slice (some ⟨b, 0, none⟩) n cp) n (rs.map rxv) :: rs.map (rch tp zn)) (F := A) fun w hk => ⟨Rd.of_owns (hk _ List.mem_cons_self), fun r hr => Rd.of_owns (hk (rch tp zn r) (List.mem_cons_of_mem _ (List.mem_map.2 ⟨r, hr, rfl⟩)))⟩
end Go.Eng

namespace Go.Eng
open Go
section
variable {c : Cx} {E : Slots} {H : List Chunk} {d : Option Nat} {ty : TypeId} {pos : String} {af : Array Edge} {g : Option (Nat × Bool)}
/-- two strings compared -/
theorem OpQ.eqlS {t t' : TypeId} {x y : Operand} {p q : List UInt8} (hx : evE E x = some (sv p)) (hy : evE E y = some (sv q)) :
    OpQ c ⟨d, .binOp .eql t x y t', ty, pos, af, g⟩ E H (.bool (p == q)) := OpQ.bin hx hy fun w => by
  rw [Sem.run_bind, show (eqGuard .eql t x y (sv p) (sv q)).run c.P w = .ok () w from rfl]
  show (binOp .eql t (sv p) (sv q)).run c.P w = _
  rw [binOp_string_eql, ByteArray.toList_mk, ByteArray.toList_mk]
  rfl
theorem OpQ.neqS {t t' : TypeId} {x y : Operand} {p q : List UInt8} (hx : evE E x = some (sv p)) (hy : evE E y = some (sv q)) :
    OpQ c ⟨d, .binOp .neq t x y t', ty, pos, af, g⟩ E H (.bool (!(p == q))) := OpQ.bin hx hy fun w => by
  rw [Sem.run_bind, show (eqGuard .neq t x y (sv p) (sv q)).run c.P w = .ok () w from rfl]
  show (binOp .neq t (sv p) (sv q)).run c.P w = _
  rw [binOp_string_neq, ByteArray.toList_mk, ByteArray.toList_mk]
  rfl
end
end Go.Eng

namespace Go.Eng
open Go Go.RowKit
/-! strings.Builder: append of a string, unsafe pointers, unsafe.String -/
theorem strCells_sv (l : List UInt8) : Lib.strCells ⟨l.toArray⟩ = l.map bv := by simp [Lib.strCells]
theorem grown_pos (w : World) {n old : Nat} (e : TypeId) (h : 0 < n) : grownCap w n old e ≠ 0 := by
  have := grownCap_ge w n old e
  omega
theorem run_appS {P : Program} (w : World) (t u ty e : TypeId) (i : TypeInfo) (ht : P.underlying t = some (.slice e)) (hu : P.underlying u = some .string) (hi : P.info? e = some i) (hz : i.zero = some (.int .u8 0))
    (hsize : i.size = 1) (hby : i.bytes = 1) (a : Option Addr) (n cp : Nat) (xs : List Value) (hown : w.ownsRow 0 e 1 (.slice a n cp) n xs) (hc : a.isSome = true → cp ≠ 0) (s : ByteArray) (hbytes : n + s.size ≤ 140737488355328) :
    ∃ a1 c1 w', (Builtin.append_ #[t, u] ty #[.slice a n cp, .string s]).run P w = .ok (.slice a1 (n + s.size) c1) w' ∧ w'.ownsRow 0 e 1 (.slice a1 (n + s.size) c1) (n + s.size) (xs ++ Lib.strCells s) ∧ w.grownBy w' (Value.slice a n cp).ownBlock ∧
      (∀ k, (Value.slice a1 (n + s.size) c1).ownBlock = some k → (Value.slice a n cp).ownBlock = some k ∨ w.heap.size ≤ k) ∧ (a1.isSome = true → c1 ≠ 0) := by
  have h63 : n + s.size ≤ maxLen := by unfold maxLen; omega
  obtain ⟨v', w', hr, h2, h3, _⟩ := Lib.run_append_own_string (P := P) w 0 t u ty e i ht hu hi hz hsize hby _ n xs hown s h63 hbytes (Nat.zero_le _)
  have key : ∃ a1 c1, v' = .slice a1 (n + s.size) c1 ∧ (∀ k, v'.ownBlock = some k → (Value.slice a n cp).ownBlock = some k ∨ w.heap.size ≤ k) ∧ (a1.isSome = true → c1 ≠ 0) := by
    rcases hown.2 with ⟨hv, hn⟩ | ⟨g, cap, cur, hv, hbg, hg, hnc, hcm, hcs, htake⟩
    · cases hv
      by_cases hm : s.size = 0
      · have hf := Lib.run_firstCells_string (P := P) w 1 s
        rw [hm] at hf
        have h4 : (Builtin.append_ #[t, u] ty #[.slice none 0 0, .string s]).run P w = .ok (.slice none 0 0) w := by
          simp [Builtin.append_, run_underlying ht, run_underlying hu, sizeOf, typeInfo, hi, hsize, Builtin.lenOf, hm, hf]
        rw [h4] at hr
        cases hr
        exact ⟨none, 0, by rw [hm], (fun k hk => by cases hk), (fun h => by cases h)⟩
      · have h4 := run_append_nil_string (P := P) w t u ty e i (.int .u8 0) ht hu hi hz s (by omega) (by omega) (by rw [hby]; omega)
        rw [h4] at hr
        cases hr
        exact ⟨_, _, by rw [Nat.zero_add], (fun k hk => by simp [Value.ownBlock] at hk; right; omega), fun _ => grown_pos w e (by omega)⟩
    · cases hv
      by_cases hroom : n + s.size ≤ cp
      · have h4 := Lib.run_append_room_string (P := P) w t u ty e i ht hu hi hsize g n cp cur hg s hroom (by omega)
        rw [h4] at hr
        cases hr
        exact ⟨_, _, rfl, fun k hk => .inl hk, fun _ => hc rfl⟩
      · have holds : ∀ j x, xs[j]? = some x → w.cell? ((⟨g, 0, none⟩ : Addr).add j) = some x := hown.cells (g := g) rfl
        have h4 := Lib.run_append_grow_string (P := P) w t u ty e i (.int .u8 0) ht hu hi hz ⟨g, 0, none⟩ n cp xs (by rw [hsize]; simpa using hown.1) holds s (by omega) (by omega) (by rw [hby]; exact growslice_fits (by omega) (by omega))
        rw [h4] at hr
        cases hr
        exact ⟨_, _, rfl, (fun k hk => by simp [Value.ownBlock] at hk; right; omega), fun _ => grown_pos w e (by omega)⟩
  obtain ⟨a1, c1, rfl, h4, h5⟩ := key
  exact ⟨a1, c1, w', hr, h2, h3, h4, h5⟩
section
variable {c : Cx} {E : Slots} {H : List Chunk} {d : Option Nat} {ty : TypeId} {pos : String} {af : Array Edge} {g : Option (Nat × Bool)}
theorem OpG.appendS {t st e : TypeId} {x y : Operand} {n cp : Nat} {a : Option Addr} {xs : List Value} {s : List UInt8} (ht : c.P.underlying t = some (.slice e)) (hst : c.P.underlying st = some .string)
    (hi : (c.P.info? e).map (fun i => (i.zero, i.size, i.bytes)) = some (some (.int .u8 0), 1, 1)) (hx : evE E x = some (.slice a n cp)) (hy : evE E y = some (sv s)) {p : Nat} (hp : H[p]? = some (.row e 1 (.slice a n cp) n xs))
    (hc : a.isSome = true → cp ≠ 0) (hb : n + s.length ≤ 140737488355328) {nm : Nat} {all : List Value} (hnm : n + s.length = nm) (hall : xs ++ s.map bv = all) :
    OpG c ⟨d, .call ⟨.builtin .append, #[x, y], #[t, st]⟩, ty, pos, af, g⟩ E H (fun i : Option Addr × Nat => i.1.isSome = true → i.2 ≠ 0) (fun i => .slice i.1 nm i.2) (fun i => H.set p (.row e 1 (.slice i.1 nm i.2) nm all)) := fun b w hE hH K Q h => by
  subst hnm
  subst hall
  have h1 := hE.eval hx
  have h2 := hE.eval hy
  obtain ⟨i, hi1, hi2, hi3, hi4⟩ := info_parts hi
  have hown : w.ownsRow 0 e 1 (.slice a n cp) n xs := (hH.holds _ (List.mem_of_getElem? hp)).1
  obtain ⟨a1, c1, w', hr, r1, r2, r3, r4⟩ := run_appS (P := c.P) w t st ty e i ht hst hi1 hi2 hi3 hi4 a n cp xs hown hc ⟨s.toArray⟩ (by simpa [ByteArray.size] using hb)
  have hsz : (⟨s.toArray⟩ : ByteArray).size = s.length := by simp [ByteArray.size]
  rw [hsz] at hr r1 r3
  rw [strCells_sv] at r1
  unfold Oper.wp
  have hrun : (execOp b.eval ⟨d, .call ⟨.builtin .append, #[x, y], #[t, st]⟩, ty, pos, af, g⟩).run c.P w = .ok (.value (.slice a1 (n + s.length) c1)) w' := by
    simp [execOp, resolve, invoke, builtin, h1, h2, hr]
  rw [hrun]
  exact h (a1, c1) w' r4 (hH.set hp r3 r1 r2.os r2.tape r2.output r2.size (fun b hb hne => r2.block b hb (fun e => hne e.symm)))
theorem OpQ.eqlPN {t te t' : TypeId} {x y : Operand} {a : Option Addr} (ht : c.P.underlying t = some (.pointer te)) (hx : evE E x = some (.pointer a)) (hy : evE E y = some (.pointer none)) :
    OpQ c ⟨d, .binOp .eql t x y t', ty, pos, af, g⟩ E H (.bool a.isNone) := OpQ.bin hx hy fun w => by
  rw [Sem.run_bind, show (eqGuard .eql t x y (.pointer a) (.pointer none)).run c.P w = .ok () w by rw [eqGuard_at_pointer]; rfl]
  have h : ∀ d : Nat, (Op.equalIn (d + 1) t (.pointer a) (.pointer none)).run c.P w = .ok a.isNone w := fun d => by
    cases a <;> simp [Op.equalIn, run_underlying ht]
  show (binOp .eql t (.pointer a) (.pointer none)).run c.P w = _
  simp only [binOp]
  simp [Op.equal, Op.maxDepth, h 9999]
theorem OpQ.neqPP {t te t' : TypeId} {j : TypeInfo} {x y : Operand} {a : Addr} (ht : c.P.underlying t = some (.pointer te)) (hj : c.P.info? te = some j) (hx : evE E x = some (.pointer (some a))) (hy : evE E y = some (.pointer (some a))) :
    OpQ c ⟨d, .binOp .neq t x y t', ty, pos, af, g⟩ E H (.bool false) := OpQ.bin hx hy fun w => by
  rw [Sem.run_bind, show (eqGuard .neq t x y (.pointer (some a)) (.pointer (some a))).run c.P w = .ok () w by rw [eqGuard_at_pointer]; rfl]
  exact Lib.run_neq_ptr_same w a ht hj
theorem OpQ.toUnsafe {s t te e : TypeId} {j : TypeInfo} {x : Operand} {b size : Nat} {xs : List Value} (hs : c.P.underlying s = some (.pointer te)) (ht : c.P.underlying t = some .unsafePointer) (hj : c.P.info? te = some j) (hz : j.size ≠ 0)
    (hx : evE E x = some (.pointer (some ⟨b, 0, none⟩))) (hh : Has H (.row e size (vb b) 1 xs)) (h0 : 0 < size) : OpQ c ⟨d, .convert s t x, ty, pos, af, g⟩ E H (.pointer (some ⟨b, 0, none⟩)) := fun a w hE hH => by
  obtain ⟨h1, _, h2⟩ := owns_var (hH.holds _ hh.mem).1
  have hsh : w.shape? b = some (e, xs.length) := by simp [World.shape?, h2]
  show Sem.run c.P (do let z ← convert s t (a.eval x); pure (Next.value z)) w = _
  rw [hE.eval hx, Sem.run_bind, Lib.run_to_unsafe w ⟨b, 0, none⟩ hs ht hj hz hsh (by show 0 < xs.length; omega)]
  rfl
theorem OpQ.fromUnsafe {s t te e : TypeId} {j : TypeInfo} {x : Operand} {b size : Nat} {xs : List Value} (hs : c.P.underlying s = some .unsafePointer) (ht : c.P.underlying t = some (.pointer te)) (hj : c.P.info? te = some j)
    (hx : evE E x = some (.pointer (some ⟨b, 0, none⟩))) (hh : Has H (.row e size (vb b) 1 xs)) (hl : liesAt c.P c.P.depth e (size / c.P.cellsOf e) 0 te 1 = true) : OpQ c ⟨d, .convert s t x, ty, pos, af, g⟩ E H (.pointer (some ⟨b, 0, none⟩)) := fun a w hE hH => by
  obtain ⟨h1, _, h2⟩ := owns_var (hH.holds _ hh.mem).1
  have hsh : w.shape? b = some (e, size) := by simp [World.shape?, h2, h1]
  show Sem.run c.P (do let z ← convert s t (a.eval x); pure (Next.value z)) w = _
  rw [hE.eval hx, Sem.run_bind, Lib.run_from_unsafe w ⟨b, 0, none⟩ hs ht hj hsh hl]
  rfl
theorem OpQ.noEsc {f : FuncId} {fn : Func} {x : Operand} {ts : Array TypeId} {v : Value} (hf : c.P.funcs[f]? = some fn) (hname : (fn.name == "runtime.NumGoroutine") = false) (hb : fn.body.isNone = true) (hn : (Extern.findNext fn).isNone = true) (he : Extern.find fn = some Extern.AbiNoEscape.same)
    (hx : evE E x = some v) : OpQ c ⟨d, .call ⟨.value (.func f), #[x], ts⟩, ty, pos, af, g⟩ E H v := fun a w hE _ => by
  have h1 := hE.eval hx
  have h2 : (callFunc f #[v]).run c.P w = .ok (.value v) w := by
    rw [run_callFunc_extern hf hname hb (by simpa using hn) he, Lib.run_noEscape]; rfl
  show Sem.run c.P (do let z ← resolve a.eval ⟨.value (.func f), #[x], ts⟩ ty; invoke z.target z.args) w = _
  simp only [resolve, List.map_toArray, List.map_cons, List.map_nil, h1]
  have h3 : Deferred.ofValue (a.eval (.func f)) #[v] = pure { target := .fn (.func f) #[], args := #[v] } := by simp [Deferred.ofValue, Act.eval]
  rw [h3]
  show Sem.run c.P (callFunc f (#[v] ++ #[])) w = _
  simpa using h2
theorem OpQ.sliceData {t : TypeId} {x : Operand} {a : Option Addr} {n cp : Nat} (hx : evE E x = some (.slice a n cp)) (hc : a.isSome = true → cp ≠ 0) : OpQ c ⟨d, .call ⟨.builtin .unsafeSliceData, #[x], #[t]⟩, ty, pos, af, g⟩ E H (.pointer a) := fun b w hE _ => by
  have h1 := hE.eval hx
  have h2 : (Builtin.unsafeSliceData_ #[t] ty #[.slice a n cp]).run c.P w = .ok (.pointer a) w := by
    cases a with
    | none => rfl
    | some p =>
      show Sem.run c.P (if cp ≠ 0 then pure (Value.pointer (some p)) else _) w = _
      rw [if_pos (hc rfl)]; rfl
  simp [execOp, resolve, invoke, builtin, h1, h2]
theorem OpG.unsafeString {pt it e : TypeId} {x y : Operand} {a : Option Addr} {cp : Nat} {l : List UInt8} (hpt : c.P.underlying pt = some (.pointer e)) (hce : c.P.cellsOf e = 1) (hx : evE E x = some (.pointer a)) (hy : evE E y = some (.int .i64 (l.length : Int)))
    {p : Nat} (hp : H[p]? = some (.row e 1 (.slice a l.length cp) l.length (l.map bv))) (hl : l.length ≤ 9223372036854775807) :
    OpG c ⟨d, .call ⟨.builtin .unsafeString, #[x, y], #[pt, it]⟩, ty, pos, af, g⟩ E H (fun _ : Unit => True) (fun _ => sv l) (fun _ => H.set p (.frag [] fun _ => True)) := fun b w hE hH K Q h => by
  have h1 := hE.eval hx
  have h2 := hE.eval hy
  have hown : w.ownsRow 0 e 1 (.slice a l.length cp) l.length (l.map bv) := (hH.holds _ (List.mem_of_getElem? hp)).1
  have fin : ∀ w', (Builtin.unsafeString_ #[pt, it] ty #[.pointer a, .int .i64 (l.length : Int)]).run c.P w = .ok (sv l) w' → w'.os = w.os → w'.tape = w.tape → w'.output = w.output → w.heap.size ≤ w'.heap.size →
      (∀ k, k < w.heap.size → ¬ (Value.slice a l.length cp).ownBlock = some k → w'.heap[k]? = w.heap[k]?) → Oper.wp c.P ⟨d, .call ⟨.builtin .unsafeString, #[x, y], #[pt, it]⟩, ty, pos, af, g⟩ b w K Q := fun w' hr e1 e2 e3 e4 e5 => by
    unfold Oper.wp
    have hrun : (execOp b.eval ⟨d, .call ⟨.builtin .unsafeString, #[x, y], #[pt, it]⟩, ty, pos, af, g⟩).run c.P w = .ok (.value (sv l)) w' := by
      simp [execOp, resolve, invoke, builtin, h1, h2, hr]
    rw [hrun]
    exact h () w' trivial (hH.set hp (fun b hb => by cases hb) ⟨(fun b hb => by cases hb), fun _ _ => trivial⟩ e1 e2 e3 e4 e5)
  by_cases h0 : l = []
  · subst h0
    exact fin w (Lib.run_unsafeString_none (P := c.P) w pt it ty a) rfl rfl rfl (Nat.le_refl _) fun _ _ _ => rfl
  · have hl0 : l.length ≠ 0 := by simpa using h0
    rcases hown.2 with ⟨hv, hz⟩ | ⟨g', cap, cur, hv, hbg, hg, hnc, hcm, hcs, htake⟩
    · exact absurd hz hl0
    · cases hv
      refine fin _ (Lib.run_unsafeString_row (P := c.P) w pt it ty e hpt hce g' cur.size (by simp [World.shape?, hg]) l h0 (by omega) hl fun j x hx => hown.cells (g := g') rfl j _ (by simp [hx])) ?_ ?_ ?_ ?_ ?_
      · simp [World.freeze, hl0]
      · simp [World.freeze, hl0]
      · simp [World.freeze, hl0]
      · simp [World.freeze, hl0]
      · intro k hk hne
        have hkg : g' ≠ k := fun e => hne (by rw [← e]; rfl)
        simp only [World.freeze, hl0, if_false]
        rw [Array.getElem?_modify, if_neg hkg]
end
end Go.Eng

namespace Go.Eng
open Go Go.Sq
theorem Upd.get {k k' : Chunk} : ∀ {p : Nat} {H : List Chunk}, H[p]? = some k → Upd H k k' (H.set p k')
  | 0, k0 :: H, h => by
    have h : some k0 = some k := h
    cases h
    exact .here
  | p + 1, _ :: H, h => .there (Upd.get (p := p) (H := H) h)
  | _, [], h => by simp at h
theorem HOk.svm {c : Cx} {w : World} {A : List Chunk} {S : Sv} {ti tn te ts to : TypeId} (h : HOk c (A ++ svH S ti tn te ts to) w) : svm S w := svm_of fun k hk => (h.holds k (List.mem_append_right _ hk)).1
theorem HOk.svmS {c : Cx} {w : World} {A : List Chunk} {S : Sv} {ti tn te ts to : TypeId} (h : HOk c (A ++ svH S ti tn te ts to) w) : Stays [] w (Sq.svm S) := fun _ he => svm_of (ti := ti) (tn := tn) (te := te) (ts := ts) (to := to) fun k hk => ((h.ext_nil he).holds k (List.mem_append_right _ hk)).1
/-- addresses are there -/
structure Nn (S : Sv) : Prop where
  n : 0 < S.rs.length → S.na.isSome = true
  o : 0 < S.os.length → S.oa.isSome = true
  e : 0 < S.en.length → S.ea.isSome = true
  f : 0 < S.fi.length → S.fa.isSome = true
  r : ∀ q, q < S.rs.length → 0 < (S.rs.getD q rx0).xs.length → (S.rs.getD q rx0).a.isSome = true
  u : ∀ q, q < S.os.length → 0 < (S.os.getD q rx0).xs.length → (S.os.getD q rx0).a.isSome = true
theorem svm.nn {S : Sv} {w : World} (h : Sq.svm S w) : Nn S :=
  ⟨fun h0 => h.n.isSome (j := 0) (by rw [List.length_map]; exact h0), fun h0 => h.o.isSome (j := 0) (by rw [List.length_map]; exact h0), fun h0 => h.e.isSome (j := 0) (by rw [List.length_map]; exact h0), fun h0 => h.f.isSome (j := 0) (by rw [List.length_map]; exact h0),
    fun _ hq h0 => (h.r _ (Am.getDm hq)).isSome (j := 0) (by rw [List.length_map]; exact h0), fun _ hq h0 => (h.u _ (Am.getDm hq)).isSome (j := 0) (by rw [List.length_map]; exact h0)⟩
end Go.Eng
namespace Go.Eng
open Go Go.Sq
section
variable {c : Cx} {w : World} {A B : List Chunk} {α : Type} {e : TypeId} {f : α → Value} {rs : List (Rx α)}
/-- reading a row of the first, the last of two families -/
theorem HOk.famA (h : HOk c (A ++ (fam e f rs ++ B)) w) {j : Nat} (hj : j < rs.length) : Rd w (rs.getD j rx0).a ((rs.getD j rx0).xs.map f) :=
  Rd.of_owns (h.holds (rch e f (rs.getD j rx0)) (List.mem_append_right _ (List.mem_append_left _ (List.mem_map.2 ⟨_, Am.getDm hj, rfl⟩)))).1
theorem HOk.famB (h : HOk c (A ++ (B ++ fam e f rs)) w) {j : Nat} (hj : j < rs.length) : Rd w (rs.getD j rx0).a ((rs.getD j rx0).xs.map f) :=
  Rd.of_owns (h.holds (rch e f (rs.getD j rx0)) (List.mem_append_right _ (List.mem_append_right _ (List.mem_map.2 ⟨_, Am.getDm hj, rfl⟩)))).1
theorem rch_put {r : Rx α} {x : Nat} {y : α} : Chunk.row e 1 (.slice r.a r.xs.length r.cp) r.xs.length ((r.xs.map f).set x (f y)) = rch e f ⟨r.a, r.cp, r.xs.set x y⟩ := by simp [rch, rxv, List.map_set]
end
end Go.Eng

namespace Go.Eng
open Go
/-! a region's operations that come in any order, each of which writes a place of its own -/
abbrev Pl := Option Addr × Nat
structure Itm where
  d : Nat
  p : Nat
  deps : List Nat
  V : (Nat → Pl) → Value
  X : (Nat → Pl) → Chunk
  Φ : (Nat → Pl) → Prop
/-- it looks at its own and at what it waits for -/
def Itm.Loc (x : Itm) (k : Nat) : Prop := ∀ g g' : Nat → Pl, (∀ j, j = k ∨ j ∈ x.deps → g j = g' j) → x.V g = x.V g' ∧ x.X g = x.X g' ∧ (x.Φ g → x.Φ g')
def gup (g : Nat → Pl) (i : Nat) (pl : Pl) : Nat → Pl := fun k => if k = i then pl else g k
theorem gup_at (g : Nat → Pl) (i : Nat) (pl : Pl) : gup g i pl i = pl := by simp [gup]
theorem gup_ne {g : Nat → Pl} {i k : Nat} {pl : Pl} (h : k ≠ i) : gup g i pl k = g k := by simp [gup, h]
def Ev (it : Nat → Itm) (E : Slots) (D : List Nat) (g : Nat → Pl) : Slots := D.map (fun i => ((it i).d, (it i).V g)) ++ E
def Mk (it : Nat → Itm) (H : List Chunk) (D : List Nat) (g : Nat → Pl) : List Chunk := D.foldr (fun i L => L.set (it i).p ((it i).X g)) H
section
variable {it : Nat → Itm} {E : Slots} {H : List Chunk} {is D : List Nat} {g : Nat → Pl}
theorem Ev_base {t : Nat} (h : ∀ i ∈ D, (it i).d ≠ t) : look (Ev it E D g) t = look E t := by
  induction D with
  | nil => rfl
  | cons i D ih =>
    show look (((it i).d, (it i).V g) :: Ev it E D g) t = _
    rw [look, show ((it i).d == t) = false from by simpa using h i List.mem_cons_self, cond_false]
    exact ih fun k hk => h k (List.mem_cons_of_mem _ hk)
theorem Ev_at {k : Nat} (hk : k ∈ D) (h : ∀ i ∈ D, i ≠ k → (it i).d ≠ (it k).d) : look (Ev it E D g) (it k).d = some ((it k).V g) := by
  induction D with
  | nil => cases hk
  | cons i D ih =>
    show look (((it i).d, (it i).V g) :: Ev it E D g) _ = _
    by_cases e : i = k
    · subst e; simp [look]
    · rw [look, show ((it i).d == (it k).d) = false from by simpa using h i List.mem_cons_self e, cond_false]
      exact ih ((List.mem_cons.1 hk).resolve_left fun h => e h.symm) fun j hj => h j (List.mem_cons_of_mem _ hj)
theorem Mk_len : (Mk it H D g).length = H.length := by
  induction D with
  | nil => rfl
  | cons i D ih => show ((Mk it H D g).set _ _).length = _; rw [List.length_set, ih]
theorem Mk_base {p : Nat} (h : ∀ i ∈ D, (it i).p ≠ p) : (Mk it H D g)[p]? = H[p]? := by
  induction D with
  | nil => rfl
  | cons i D ih =>
    show ((Mk it H D g).set _ _)[p]? = _
    rw [List.getElem?_set_ne (h i List.mem_cons_self)]
    exact ih fun k hk => h k (List.mem_cons_of_mem _ hk)
theorem Mk_at {k : Nat} (hk : k ∈ D) (h : ∀ i ∈ D, i ≠ k → (it i).p ≠ (it k).p) (hp : (it k).p < H.length) : (Mk it H D g)[(it k).p]? = some ((it k).X g) := by
  induction D with
  | nil => cases hk
  | cons i D ih =>
    show ((Mk it H D g).set _ _)[(it k).p]? = _
    by_cases e : i = k
    · subst e
      rw [List.getElem?_set, if_pos rfl, if_pos (by rw [Mk_len]; exact hp)]
    · rw [List.getElem?_set_ne (h i List.mem_cons_self e)]
      exact ih ((List.mem_cons.1 hk).resolve_left fun h => e h.symm) fun j hj => h j (List.mem_cons_of_mem _ hj)
theorem Mk_app {B : List Chunk} (h : ∀ i ∈ D, (it i).p < H.length) : Mk it (H ++ B) D g = Mk it H D g ++ B := by
  induction D with
  | nil => rfl
  | cons i D ih =>
    show (Mk it (H ++ B) D g).set _ _ = (Mk it H D g).set _ _ ++ B
    rw [ih fun k hk => h k (List.mem_cons_of_mem _ hk), List.set_append_left _ _ (by rw [Mk_len]; exact h i List.mem_cons_self)]
theorem Mk_upd {i : Nat} {pl : Pl} (h : i ∉ D) (hl : ∀ k ∈ D, (it k).Loc k ∧ i ∉ (it k).deps) : Mk it H D (gup g i pl) = Mk it H D g ∧ Ev it E D (gup g i pl) = Ev it E D g := by
  induction D with
  | nil => exact ⟨rfl, rfl⟩
  | cons k D ih =>
    obtain ⟨h1, h2⟩ := ih (fun hh => h (List.mem_cons_of_mem _ hh)) fun k hk => hl k (List.mem_cons_of_mem _ hk)
    have e : k ≠ i := fun e => h (by rw [e]; exact List.mem_cons_self)
    obtain ⟨l1, l2⟩ := hl k List.mem_cons_self
    obtain ⟨v1, v2, _⟩ := l1 (gup g i pl) g fun j hj => gup_ne fun e3 => by
      rcases hj with rfl | hj
      · exact e e3
      · exact l2 (e3 ▸ hj)
    refine ⟨?_, ?_⟩
    · show (Mk it H D _).set _ ((it k).X (gup g i pl)) = _
      rw [h1, v2]; rfl
    · show ((it k).d, (it k).V (gup g i pl)) :: Ev it E D _ = _
      rw [h2, v1]; rfl
end
section
variable {c : Cx} {ops : Array Oper} {Q : Exit → Act → World → Prop} {n fuel : Nat} {Hc : List Chunk} {listed : Array Bool} {E : Slots} {H : List Chunk} {o : Oper}
def nodupB : List Nat → Bool
  | [] => true
  | x :: r => !r.contains x && nodupB r
theorem nodupB_spec : ∀ {l : List Nat}, nodupB l = true → l.Nodup
  | [], _ => List.nodup_nil
  | x :: r, h => by
    simp only [nodupB, Bool.and_eq_true, Bool.not_eq_true', List.contains_eq_mem, decide_eq_false_iff_not] at h
    exact List.nodup_cons.2 ⟨h.1, nodupB_spec h.2⟩
def opB (ops : Array Oper) (N n : Nat) (listed : Array Bool) (it : Nat → Itm) (is : List Nat) (i : Nat) : Bool :=
  decide (i < n) && !listed.getD i true && (it i).deps.all (fun k => is.contains k && decide (k < i)) && decide ((it i).d < N) &&
  (match ops[i]? with
    | none => false
    | some o => o.dst == some (it i).d && o.guard.isNone && (it i).deps.all (fun k => o.after.any fun e => Region.binds .any e && e.on == k) && o.after.all fun e => !Region.binds .any e || listed.getD e.on false || (it i).deps.contains e.on)
/-- what stands behind a set -/
def cover (it : Nat → Itm) (is W : List Nat) : List Nat := is.foldr (fun i c => if c.contains i then (it i).deps ++ c else c) W
theorem cover_sub {it : Nat → Itm} {is W D : List Nat} (hcl : ∀ k ∈ D, ∀ j ∈ (it k).deps, j ∈ D) (hW : ∀ x ∈ W, x ∈ D) : ∀ x ∈ cover it is W, x ∈ D := by
  induction is with
  | nil => exact hW
  | cons i is ih =>
    intro x hx
    have e : cover it (i :: is) W = if (cover it is W).contains i then (it i).deps ++ cover it is W else cover it is W := rfl
    rw [e] at hx
    split at hx
    · rename_i h
      rcases List.mem_append.1 hx with hx | hx
      · exact hcl i (ih i (by simpa using h)) x hx
      · exact ih x hx
    · exact ih x hx
def manyB (ops : Array Oper) (N n k : Nat) (listed : Array Bool) (it : Nat → Itm) (is : List Nat) : Bool :=
  nodupB is && nodupB (is.map fun i => (it i).d) && nodupB (is.map fun i => (it i).p) && is.all (fun i => decide ((it i).p < k)) && is.all (opB ops N n listed it is) &&
  (List.range ops.size).all fun j => listed.getD j true || is.contains j || (match ops[j]? with
    | none => false
    | some o => (o.after.any fun e => Region.binds .any e && !listed.getD e.on true && !is.contains e.on) || is.all fun i => (cover it is (is.filter fun i => o.after.any fun e => Region.binds .any e && e.on == i)).contains i)
theorem inj_of {f : Nat → Nat} : ∀ {l : List Nat}, (l.map f).Nodup → ∀ i ∈ l, ∀ j ∈ l, i ≠ j → f i ≠ f j
  | [], _, i, hi, _, _, _ => by cases hi
  | x :: r, h, i, hi, j, hj, hne => fun he => by
    rw [List.map_cons, List.nodup_cons] at h
    rcases List.mem_cons.1 hi with e1 | h1
    · rcases List.mem_cons.1 hj with e2 | h2
      · exact hne (e1.trans e2.symm)
      · exact h.1 (by rw [← e1, he]; exact List.mem_map.2 ⟨j, h2, rfl⟩)
    · rcases List.mem_cons.1 hj with e2 | h2
      · exact h.1 (by rw [← e2, ← he]; exact List.mem_map.2 ⟨i, h1, rfl⟩)
      · exact inj_of h.2 i h1 j h2 hne he
/-- what is asked of an operation of the set -/
def Good (c : Cx) (ops : Array Oper) (it : Nat → Itm) (is : List Nat) (E : Slots) (H : List Chunk) (i : Nat) : Prop :=
  ∀ D g, (∀ k ∈ D, k ∈ is ∧ k ≠ i) → (∀ k ∈ (it i).deps, k ∈ D) → (∀ k ∈ D, (it k).Φ g) → ∀ o, ops[i]? = some o →
    OpG c o (Ev it E D g) (Mk it H D g) (fun pl => (it i).Φ (gup g i pl)) (fun pl => (it i).V (gup g i pl)) (fun pl => (Mk it H D g).set (it i).p ((it i).X (gup g i pl)))
def markL (listed : Array Bool) (is : List Nat) : Array Bool := is.foldr (fun i l => l.setIfInBounds i true) listed
theorem markL_size (is : List Nat) : (markL listed is).size = listed.size := by
  induction is with
  | nil => rfl
  | cons i is ih => show ((markL listed is).setIfInBounds i true).size = _; rw [Array.size_setIfInBounds, ih]
theorem markL_get (is : List Nat) (t : Nat) (z : Bool) (ht : t < listed.size) : (markL listed is).getD t z = (listed.getD t z || is.contains t) := by
  induction is with
  | nil => simp [markL]
  | cons i is ih =>
    show ((markL listed is).setIfInBounds i true).getD t z = _
    by_cases e : i = t
    · subst e
      rw [Array.getD_eq_getD_getElem?, Array.getElem?_setIfInBounds]
      simp [markL_size, ht]
    · rw [getD_set_ne z e, ih]
      have : ¬ t = i := fun h => e h.symm
      simp [this]
theorem markL_perm {is D : List Nat} (h : ∀ t, t ∈ is ↔ t ∈ D) : markL listed D = markL listed is := by
  refine Array.ext (by rw [markL_size, markL_size]) fun t h1 h2 => ?_
  rw [markL_size] at h1
  have e1 := markL_get (listed := listed) D t true h1
  have e2 := markL_get (listed := listed) is t true h1
  have e3 : is.contains t = D.contains t := by
    rw [List.contains_eq_mem, List.contains_eq_mem, decide_eq_decide]; exact h t
  rw [e3, ← e1] at e2
  rw [Array.getD_eq_getD_getElem?, Array.getD_eq_getD_getElem?, Array.getElem?_eq_getElem (by rw [markL_size]; exact h1), Array.getElem?_eq_getElem (by rw [markL_size]; exact h1)] at e2
  exact e2.symm
theorem RA.many {it : Nat → Itm} {A : List Chunk} {Hb : List Chunk} (is : List Nat) (k : Nat) (hk : is.length = k) (hb : manyB ops c.n n A.length listed it is = true) (hHc : Hc = Hb) (hl : ∀ i ∈ is, (it i).Loc i) (hg : ∀ i ∈ is, Good c ops it is E (A ++ Hb) i)
    (h : ∀ g, (∀ i ∈ is, (it i).Φ g) → RA c ops Q n Hc fuel (markL listed is) (Ev it E is g) (Mk it (A ++ Hb) is g)) : RA c ops Q n Hc (fuel + k) listed E (A ++ Hb) := by
  subst hHc hk
  unfold manyB at hb
  simp only [Bool.and_eq_true] at hb
  obtain ⟨⟨⟨⟨⟨h1, h2⟩, h3⟩, h4⟩, h5⟩, h6⟩ := hb
  have n1 := nodupB_spec h1
  have n2 := inj_of (nodupB_spec h2)
  have n3 := inj_of (nodupB_spec h3)
  have hop : ∀ i ∈ is, i < n ∧ listed.getD i true = false ∧ (∀ k ∈ (it i).deps, k ∈ is ∧ k < i) ∧ (it i).d < c.n ∧ ∃ o, ops[i]? = some o ∧ o.dst = some (it i).d ∧ o.guard = none ∧ (∀ e ∈ o.after, Region.binds .any e = true → listed.getD e.on false = true ∨ e.on ∈ (it i).deps) ∧ ∀ k ∈ (it i).deps, ∃ e ∈ o.after, Region.binds .any e = true ∧ e.on = k := fun i hi => by
    have := List.all_eq_true.1 h5 i hi
    unfold opB at this
    simp only [Bool.and_eq_true, decide_eq_true_eq, Bool.not_eq_true', List.all_eq_true, List.contains_eq_mem] at this
    obtain ⟨⟨⟨⟨a1, a2⟩, a3⟩, a4⟩, a5⟩ := this
    refine ⟨a1, a2, a3, a4, ?_⟩
    split at a5
    · cases a5
    · rename_i o ho
      simp only [Bool.and_eq_true, beq_iff_eq, Array.all_eq_true', Bool.or_eq_true, Bool.not_eq_true', decide_eq_true_eq, Option.isNone_iff_eq_none] at a5
      refine ⟨o, ho, a5.1.1.1, a5.1.1.2, fun e he hb => ?_, fun k hk => ?_⟩
      · rcases a5.2 e he with (h | h) | h
        · rw [hb] at h; cases h
        · exact .inl h
        · exact .inr h
      · have := List.all_eq_true.1 a5.1.2 k hk
        rw [Array.any_eq_true'] at this
        obtain ⟨e, he, h7⟩ := this
        simp only [Bool.and_eq_true, beq_iff_eq] at h7
        exact ⟨e, he, h7.1, h7.2⟩
  intro inv a w hE hH
  have key : ∀ m D g a w, D.length + m = is.length → D.Nodup → (∀ k ∈ D, k ∈ is) → HeadInv .any ops n (markL listed D) → Env c.n (Ev it E D g) a → HOk c (Mk it (A ++ Hc) D g) w → (∀ k ∈ D, (it k).Φ g) → (∀ k ∈ D, ∀ j ∈ (it k).deps, j ∈ D) →
      wpAnyC c.P .any ops Q (HOk c Hc) n (fuel + m) (markL listed D) a w := by
    intro m
    induction m with
    | zero =>
      intro D g a w hlen hnd hsub hinv hE hH hΦ hcl
      have hset : ∀ t, t ∈ is ↔ t ∈ D := fun t => ⟨fun ht => Classical.byContradiction fun hn => by
        have hle := List.Nodup.length_le_of_subset (l₁ := t :: D) (l₂ := is) (List.nodup_cons.2 ⟨hn, hnd⟩) (fun x hx => by rcases List.mem_cons.1 hx with rfl | hx; exact ht; exact hsub x hx)
        rw [List.length_cons] at hle
        omega, hsub t⟩
      have h0 := h g (fun i hi => hΦ i ((hset i).1 hi))
      rw [← markL_perm hset] at h0
      refine h0 hinv a w ⟨hE.size, hE.defers, fun t v hv => hE.get t v ?_⟩ ?_
      · by_cases ht : ∃ i ∈ is, (it i).d = t
        · obtain ⟨i, hi, rfl⟩ := ht
          rw [Ev_at hi fun k hk hne => n2 k hk i hi hne] at hv
          rw [Ev_at ((hset i).1 hi) fun k hk hne => n2 k (hsub k hk) i hi hne]
          exact hv
        · rw [Ev_base fun i hi e => ht ⟨i, hi, e⟩] at hv
          rw [Ev_base fun i hi e => ht ⟨i, hsub i hi, e⟩]
          exact hv
      · have : Mk it (A ++ Hc) is g = Mk it (A ++ Hc) D g := by
          refine List.ext_getElem? fun p => ?_
          by_cases ht : ∃ i ∈ is, (it i).p = p
          · obtain ⟨i, hi, rfl⟩ := ht
            have hp : (it i).p < (A ++ Hc).length := by
              have := List.all_eq_true.1 h4 i hi
              rw [List.length_append]
              have := of_decide_eq_true this
              omega
            rw [Mk_at hi (fun k hk hne => n3 k hk i hi hne) hp, Mk_at ((hset i).1 hi) (fun k hk hne => n3 k (hsub k hk) i hi hne) hp]
          · rw [Mk_base fun i hi e => ht ⟨i, hi, e⟩, Mk_base fun i hi e => ht ⟨i, hsub i hi, e⟩]
        rw [this]; exact hH
    | succ m ih =>
      intro D g a w hlen hnd hsub hinv hE hH hΦ hcl
      have hget : ∀ t z, t < ops.size → (markL listed D).getD t z = (listed.getD t z || D.contains t) := fun t z ht => markL_get D t z (by rw [inv.size]; exact ht)
      have hlt : ∀ i ∈ is, i < ops.size := fun i hi => by
        obtain ⟨_, _, _, _, o, ho, _⟩ := hop i hi
        exact (Array.getElem?_eq_some_iff.1 ho).1
      have hun : ∀ i ∈ is, i ∉ D → (markL listed D).getD i true = false := fun i hi hn => by
        rw [hget i true (hlt i hi), (hop i hi).2.1]; simp [hn]
      have hless : ∃ i ∈ is, i ∉ D := Classical.byContradiction fun hn => by
        have := List.Nodup.length_le_of_subset (l₁ := is) (l₂ := D) n1 fun x hx => Classical.byContradiction fun h => hn ⟨x, hx, h⟩
        omega
      have hnext : ∃ i, i ∈ is ∧ i ∉ D ∧ i ∈ Region.ready .any ops (markL listed D) := by
        have go : ∀ b i, i ≤ b → i ∈ is → i ∉ D → ∃ i, i ∈ is ∧ i ∉ D ∧ i ∈ Region.ready .any ops (markL listed D) := by
          intro b
          induction b with
          | zero =>
            intro i hib hi hn
            obtain ⟨_, _, hd, _, o, ho, _, _, ha, _⟩ := hop i hi
            refine ⟨i, hi, hn, mem_ready.2 ⟨hun i hi hn, o, ho, fun e he hb => ?_⟩⟩
            rcases ha e he hb with h | h
            · have he2 : e.on < ops.size := by
                rw [← inv.size]
                rcases Nat.lt_or_ge e.on listed.size with h' | h'
                · exact h'
                · simp [Array.getElem?_eq_none h'] at h
              rw [hget _ _ he2, h]; rfl
            · have := (hd _ h).2; omega
          | succ b ihb =>
            intro i hib hi hn
            obtain ⟨_, _, hd, _, o, ho, _, _, ha, _⟩ := hop i hi
            by_cases hall : ∀ k ∈ (it i).deps, k ∈ D
            · refine ⟨i, hi, hn, mem_ready.2 ⟨hun i hi hn, o, ho, fun e he hb => ?_⟩⟩
              rcases ha e he hb with h | h
              · have he2 : e.on < ops.size := by
                  rw [← inv.size]
                  rcases Nat.lt_or_ge e.on listed.size with h' | h'
                  · exact h'
                  · simp [Array.getElem?_eq_none h'] at h
                rw [hget _ _ he2, h]; rfl
              · rw [hget _ _ (hlt _ (hd _ h).1)]
                simp [hall _ h]
            · obtain ⟨k, hk⟩ := Classical.not_forall.1 hall
              obtain ⟨hk1, hk2⟩ := Classical.not_imp.1 hk
              exact ihb k (by have := (hd k hk1).2; omega) (hd k hk1).1 hk2
        obtain ⟨i, hi, hn⟩ := hless
        exact go i i (Nat.le_refl _) hi hn
      rw [show fuel + (m + 1) = fuel + m + 1 from rfl]
      refine ⟨fun h0 => ?_, fun j hj => ?_⟩
      · obtain ⟨i, _, _, hr⟩ := hnext
        rw [h0] at hr; cases hr
      · obtain ⟨hju, oj, hoj, hall⟩ := mem_ready.1 hj
        have hjs : j < ops.size := (Array.getElem?_eq_some_iff.1 hoj).1
        have hjD : j ∉ D := fun hh => by
          rw [hget j true hjs] at hju
          simp [hh] at hju
        have hjl : listed.getD j true = false := by
          rw [hget j true hjs] at hju
          cases e : listed.getD j true with
          | false => rfl
          | true => rw [e] at hju; cases hju
        have hji : j ∈ is := by
          have := List.all_eq_true.1 h6 j (List.mem_range.2 hjs)
          rw [hjl, Bool.false_or, Bool.or_eq_true] at this
          rcases this with h | h
          · simpa using h
          · rw [hoj] at h
            dsimp only at h
            rw [Bool.or_eq_true] at h
            rcases h with h | h
            · rw [Array.any_eq_true'] at h
              obtain ⟨e, he, h7⟩ := h
              simp only [Bool.and_eq_true, Bool.not_eq_true'] at h7
              have h8 := hall e he h7.1.1
              have he2 : e.on < ops.size := by
                rw [← inv.size]
                rcases Nat.lt_or_ge e.on listed.size with h' | h'
                · exact h'
                · have := h7.1.2; simp [Array.getElem?_eq_none h'] at this
              rw [hget e.on false he2, getD_both h7.1.2] at h8
              have h9 : e.on ∈ is := hsub _ (by simpa using h8)
              have h10 := h7.2
              simp [h9] at h10
            obtain ⟨i, hi, hn⟩ := hless
            have := List.all_eq_true.1 h i hi
            refine absurd (cover_sub hcl (fun x hx => ?_) i (by simpa using this)) hn
            obtain ⟨hx1, hx2⟩ := List.mem_filter.1 hx
            rw [Array.any_eq_true'] at hx2
            obtain ⟨e, he, h7⟩ := hx2
            simp only [Bool.and_eq_true, beq_iff_eq] at h7
            have h8 := hall e he h7.1
            rw [h7.2, hget x false (hlt x hx1)] at h8
            have h9 : listed.getD x false = false := getD_both (hop x hx1).2.1
            rw [h9] at h8
            simpa using h8
        obtain ⟨hjn, _, hd, hdn, o, ho, hdst, hgu, ha, hda⟩ := hop j hji
        obtain rfl : o = oj := by rw [ho] at hoj; exact Option.some.inj hoj
        have hdeps : ∀ k ∈ (it j).deps, k ∈ D := fun k hk => Classical.byContradiction fun hn => by
          obtain ⟨e, he, hb, hek⟩ := hda k hk
          have h8 := hall e he hb
          have hki := (hd k hk).1
          rw [hek, hget k false (hlt k hki)] at h8
          rw [getD_both (hop k hki).2.1] at h8
          simp [hn] at h8
        refine wpOp_G ho (by unfold guardB; rw [hgu]) (hg j hji D g (fun k hk => ⟨hsub k hk, fun e => hjD (e ▸ hk)⟩) hdeps hΦ o ho) hE hH fun pl w' hpl hw' => ?_
        have hu := Mk_upd (it := it) (E := E) (H := A ++ Hc) (g := g) (pl := pl) hjD fun k hk => ⟨hl k (hsub k hk), fun hh => hjD (hcl k hk j hh)⟩
        have hE2 : Env c.n (Ev it E (j :: D) (gup g j pl)) (a.put o.dst ((it j).V (gup g j pl))) := by
          show Env c.n (((it j).d, (it j).V (gup g j pl)) :: Ev it E D _) _
          rw [hu.2, hdst]
          exact hE.put hdn _
        have hH2 : HOk c (Mk it (A ++ Hc) (j :: D) (gup g j pl)) w' := by
          show HOk c ((Mk it (A ++ Hc) D _).set _ ((it j).X (gup g j pl))) w'
          rw [hu.1]
          exact hw'
        refine ⟨fun _ => ?_, ih (j :: D) _ _ _ (by rw [List.length_cons]; omega) (List.nodup_cons.2 ⟨hjD, hnd⟩) (fun k hk => by rcases List.mem_cons.1 hk with rfl | hk; exact hji; exact hsub k hk) (hinv.set hj hjn) hE2 hH2 (fun k hk => by
          by_cases e : k = j
          · rw [e]; exact hpl
          · have hk := (List.mem_cons.1 hk).resolve_left e
            refine (hl k (hsub k hk) g _ fun t ht => (gup_ne fun e3 => ?_).symm).2.2 (hΦ k hk)
            rcases ht with rfl | ht
            · exact e e3
            · exact hjD (hcl k hk j (e3 ▸ ht))) (fun k hk t ht => by
          by_cases e : k = j
          · rw [e] at ht; exact List.mem_cons_of_mem _ (hdeps t ht)
          · exact List.mem_cons_of_mem _ (hcl k ((List.mem_cons.1 hk).resolve_left e) t ht))⟩
        · refine hH2.sublist ?_
          rw [Mk_app fun k hk => ?_]
          · exact List.sublist_append_right _ _
          · have hk2 : k ∈ is := by
              rcases List.mem_cons.1 hk with rfl | hk
              · exact hji
              · exact hsub k hk
            exact of_decide_eq_true (List.all_eq_true.1 h4 k hk2)
  have h0 : markL listed [] = listed := rfl
  have := key is.length [] (fun _ => (none, 0)) a w (by simp) List.nodup_nil (fun k hk => by cases hk) inv hE hH (fun k hk => by cases hk) (fun k hk => by cases hk)
  exact this
/-! what is good -/
def freeB (it : Nat → Itm) (is : List Nat) : Operand → Bool
  | .tmp t => is.all fun i => (it i).d != t
  | _ => true
theorem ev_base {it : Nat → Itm} {is D : List Nat} {g : Nat → Pl} {x : Operand} {v : Value} (hf : freeB it is x = true) (hx : evE E x = some v) {i : Nat} (hD : ∀ k ∈ D, k ∈ is ∧ k ≠ i) : evE (Ev it E D g) x = some v := by
  cases x with
  | tmp t =>
    show look (Ev it E D g) t = some v
    rw [Ev_base fun k hk => ?_]
    · exact hx
    · have := List.all_eq_true.1 hf k (hD k hk).1
      simpa using this
  | _ => exact hx
theorem ev_dep {it : Nat → Itm} {is D : List Nat} {g : Nat → Pl} {k t : Nat} {v : Value} (hb : nodupB (is.map fun i => (it i).d) = true) {i : Nat} (hD : ∀ k ∈ D, k ∈ is ∧ k ≠ i) (hk : k ∈ D) (ht : (it k).d = t) (hv : (it k).V g = v) : evE (Ev it E D g) (.tmp t) = some v := by
  subst ht hv
  exact Ev_at hk fun j hj hne => inj_of (nodupB_spec hb) j (hD j hj).1 k (hD k hk).1 hne
theorem set_perm_erase {α : Type} {k : α} : ∀ {H : List α} {p : Nat}, p < H.length → (H.set p k).Perm (k :: H.eraseIdx p)
  | x :: H, 0, _ => List.Perm.refl _
  | x :: H, p + 1, h => by
    rw [List.set_cons_succ, List.eraseIdx_cons_succ]
    exact ((set_perm_erase (k := k) (by simpa using h)).cons x).trans (List.Perm.swap _ _ _)
  | [], _, h => by simp at h
theorem HOk.place {w : World} {k : Chunk} {p : Nat} (h : HOk c (k :: H) w) (hp : p < H.length) : HOk c (H.set p k) w := by
  refine (h.sublist (L := k :: H.eraseIdx p) (List.Sublist.cons_cons _ (List.eraseIdx_sublist _ _))).perm ?_
  exact (set_perm_erase hp).symm
theorem OpG.pl {ι κ : Type} {Φ : ι → Prop} {V : ι → Value} {H' : ι → List Chunk} {Φ' : κ → Prop} {V' : κ → Value} {L' : κ → List Chunk} (hq : OpG c o E H Φ V H') (enc : ι → κ) (hΦ : ∀ j, Φ j → Φ' (enc j)) (hV : ∀ j, V' (enc j) = V j) (hH : ∀ j w, HOk c (H' j) w → HOk c (L' (enc j)) w) :
    OpG c o E H Φ' V' L' := fun a w hE hO K R h => hq a w hE hO K R fun j w' hj hw => by
  have := h (enc j) w' (hΦ j hj) (hH j w' hw)
  rwa [hV] at this
section
variable {it : Nat → Itm} {is : List Nat} {i : Nat}
/-- a new block -/
theorem Good.new {V0 : Nat → Value} {X0 : Nat → Chunk} (hi : ops[i]? = some o) (hp : (it i).p < H.length) (hV : ∀ g, (it i).V g = V0 (g i).2) (hX : ∀ g, (it i).X g = X0 (g i).2) (hΦ : ∀ g, (it i).Φ g)
    (hq : ∀ D g, (∀ k ∈ D, k ∈ is ∧ k ≠ i) → (∀ k ∈ (it i).deps, k ∈ D) → OpG c o (Ev it E D g) (Mk it H D g) (fun _ : Nat => True) V0 (fun b => X0 b :: Mk it H D g)) : Good c ops it is E H i := fun D g hD hd _ o' ho' => by
  rw [hi] at ho'
  cases ho'
  refine (hq D g hD hd).pl (fun b => ((none, b) : Pl)) (fun _ _ => hΦ _) (fun b => by rw [hV, gup_at]) fun b w h => ?_
  rw [hX, gup_at]
  exact h.place (by rw [Mk_len]; exact hp)
/-- nothing new -/
theorem Good.quiet (hi : ops[i]? = some o) (hX : ∀ g, some ((it i).X g) = H[(it i).p]?) (hb : nodupB (is.map fun i => (it i).p) = true) (his : i ∈ is) (hΦ : ∀ g, (it i).Φ g) (hown : ∀ g g', (∀ j ∈ (it i).deps, g j = g' j) → (it i).V g = (it i).V g')
    (hq : ∀ D g, (∀ k ∈ D, k ∈ is ∧ k ≠ i) → (∀ k ∈ (it i).deps, k ∈ D) → OpQ c o (Ev it E D g) (Mk it H D g) ((it i).V g)) (hni : (it i).deps.contains i = false) : Good c ops it is E H i := fun D g hD hd _ o' ho' => by
  have hni : i ∉ (it i).deps := fun h => by simp [h] at hni
  rw [hi] at ho'
  cases ho'
  refine (OpG.pl (Φ := fun _ : Unit => True) (V := fun _ => (it i).V g) (H' := fun _ => Mk it H D g) (fun a w hE hH K R h => ?_) (fun _ => ((none, 0) : Pl)) (fun _ _ => hΦ _) (fun _ => hown _ _ fun j hj => gup_ne fun e => hni (e ▸ hj)) fun _ w h => ?_)
  · unfold Oper.wp
    rw [hq D g hD hd a w hE hH]
    exact h () w trivial hH
  · have : (Mk it H D g).set (it i).p ((it i).X (gup g i (none, 0))) = Mk it H D g := by
      refine List.ext_getElem? fun q => ?_
      rw [List.getElem?_set]
      split
      · rename_i e
        subst e
        rw [Mk_base (p := (it i).p) fun k hk => inj_of (nodupB_spec hb) k (hD k hk).1 i his (hD k hk).2, ← hX]
        rw [Mk_len]
        split
        · rfl
        · rename_i hlt
          have := hX g
          rw [List.getElem?_eq_none (by omega)] at this
          cases this
      · rfl
    rw [this]; exact h
theorem all_nil {α : Type} {p : α → Prop} : ∀ x ∈ ([] : List α), p x := fun _ h => by cases h
theorem all_cons {α : Type} {p : α → Prop} {a : α} {l : List α} (h : p a) (hl : ∀ x ∈ l, p x) : ∀ x ∈ a :: l, p x := fun x hx => by
  rcases List.mem_cons.1 hx with rfl | hx
  · exact h
  · exact hl x hx
abbrev dmy : Chunk := .frag [] (fun _ => True)
theorem HOk.dmy {w : World} (h : HOk c H w) (k : Nat) : HOk c (List.replicate k Eng.dmy ++ H) w := by
  induction k with
  | zero => simpa using h
  | succ k ih =>
    rw [List.replicate_succ, List.cons_append]
    exact ih.bind0 fun _ => trivial
abbrev Itm.new (d p k : Nat) (V0 : Nat → Value) (X0 : Nat → Chunk) : Itm := ⟨d, p, [], fun g => V0 (g k).2, fun g => X0 (g k).2, fun _ => True⟩
abbrev Itm.none : Itm := ⟨0, 0, [], fun _ => undef, fun _ => Eng.dmy, fun _ => True⟩
theorem Itm.loc_new {d p k : Nat} {V0 : Nat → Value} {X0 : Nat → Chunk} : (Itm.new d p k V0 X0).Loc k := fun g g' h => by
  have e := h k (.inl rfl)
  exact ⟨by show V0 (g k).2 = _; rw [e], by show X0 (g k).2 = _; rw [e], fun _ => trivial⟩
theorem Good.new' {d p : Nat} {V0 : Nat → Value} {X0 : Nat → Chunk} (h : it i = Itm.new d p i V0 X0) (hi : ops[i]? = some o) (hp : p < H.length)
    (hq : ∀ D g, (∀ k ∈ D, k ∈ is ∧ k ≠ i) → OpG c o (Ev it E D g) (Mk it H D g) (fun _ : Nat => True) V0 (fun b => X0 b :: Mk it H D g)) : Good c ops it is E H i :=
  Good.new (V0 := V0) (X0 := X0) hi (by rw [h]; exact hp) (fun g => by rw [h]) (fun g => by rw [h]) (fun g => by rw [h]; trivial) fun D g hD _ => hq D g hD
theorem mk_base {D : List Nat} {g : Nat → Pl} {p : Nat} {x : Option Chunk} (hb : nodupB (is.map fun i => (it i).p) = true) (his : i ∈ is) (hD : ∀ k ∈ D, k ∈ is ∧ k ≠ i) (hp : (it i).p = p) (hH : H[p]? = x) : (Mk it H D g)[p]? = x := by
  subst hp
  rw [Mk_base fun k hk => inj_of (nodupB_spec hb) k (hD k hk).1 i his (hD k hk).2, hH]
theorem mk_at {D : List Nat} {g : Nat → Pl} {k p : Nat} {x : Chunk} (hb : nodupB (is.map fun i => (it i).p) = true) (hD : ∀ k ∈ D, k ∈ is ∧ k ≠ i) (hk : k ∈ D) (hp : (it k).p = p) (hX : (it k).X g = x) (hlt : p < H.length) : (Mk it H D g)[p]? = some x := by
  subst hp hX
  exact Mk_at hk (fun j hj hne => inj_of (nodupB_spec hb) j (hD j hj).1 k (hD k hk).1 hne) hlt
theorem HOk.rdAt {w : World} {p : Nat} {e : TypeId} {s n cp m : Nat} {a : Option Addr} {xs : List Value} (hH : HOk c H w) (hp : H[p]? = some (.row e s (.slice a n cp) m xs)) : Rd w a xs := Rd.of_owns (hH.holds _ (List.mem_of_getElem? hp)).1
abbrev Itm.own (d p k : Nat) (deps : List Nat) (V0 : Pl → Value) (X0 : Pl → Chunk) (Φ0 : Pl → Prop) : Itm := ⟨d, p, deps, fun g => V0 (g k), fun g => X0 (g k), fun g => Φ0 (g k)⟩
theorem Itm.loc_own {d p k : Nat} {deps : List Nat} {V0 : Pl → Value} {X0 : Pl → Chunk} {Φ0 : Pl → Prop} : (Itm.own d p k deps V0 X0 Φ0).Loc k := fun g g' h => by
  have e := h k (.inl rfl)
  exact ⟨by show V0 (g k) = _; rw [e], by show X0 (g k) = _; rw [e], fun hh => by have hh : Φ0 (g k) := hh; show Φ0 (g' k); rw [← e]; exact hh⟩
theorem Good.own {d p : Nat} {deps : List Nat} {V0 : Pl → Value} {X0 : Pl → Chunk} {Φ0 : Pl → Prop} (h : it i = Itm.own d p i deps V0 X0 Φ0) (hi : ops[i]? = some o)
    (hq : ∀ D g, (∀ k ∈ D, k ∈ is ∧ k ≠ i) → (∀ k ∈ deps, k ∈ D) → OpG c o (Ev it E D g) (Mk it H D g) Φ0 V0 (fun pl => (Mk it H D g).set p (X0 pl))) : Good c ops it is E H i := fun D g hD hd _ o' ho' => by
  rw [hi] at ho'
  cases ho'
  rw [h] at hd ⊢
  refine (hq D g hD hd).pl (fun pl => pl) (fun pl hp => ?_) (fun pl => ?_) fun pl w hw => ?_
  · show Φ0 (gup g i pl i); rw [gup_at]; exact hp
  · show V0 (gup g i pl i) = _; rw [gup_at]
  · show HOk c ((Mk it H D g).set p (X0 (gup g i pl i))) w
    rw [gup_at]; exact hw
end
end
end Go.Eng

namespace Go.Eng
open Go Go.RowKit
/-! parts of strings, copy -/
section
variable {c : Cx} {E : Slots} {H : List Chunk} {d : Option Nat} {ty : TypeId} {pos : String} {af : Array Edge} {g : Option (Nat × Bool)}
theorem extract_sv (l : List UInt8) (i j : Nat) : Value.string ((⟨l.toArray⟩ : ByteArray).extract i j) = sv ((l.take j).drop i) := by
  have : ((⟨l.toArray⟩ : ByteArray).extract i j) = ⟨((l.take j).drop i).toArray⟩ := by
    apply ByteArray.ext
    rw [ByteArray.data_extract]
    apply Array.ext'
    rw [Array.toList_extract]
    simp [List.extract, List.drop_take]
  rw [this]
theorem OpQ.sliceSH {t : TypeId} {x y : Operand} {l : List UInt8} {j : Nat} (ht : c.P.underlying t = some .string) (hx : evE E x = some (sv l)) (hy : evE E y = some (.int .i64 (j : Int))) (hj : j ≤ l.length) :
    OpQ c ⟨d, .slice t x none (some y) none, ty, pos, af, g⟩ E H (sv (l.take j)) := fun b w hE _ => by
  have h1 := hE.eval hx
  have h2 := hE.eval hy
  have hs : (⟨l.toArray⟩ : ByteArray).size = l.length := by simp [ByteArray.size]
  show Sem.run c.P (do let z ← Instr.sliceAt t (b.eval x) none (some (b.eval y)) none; pure (Next.value z)) w = _
  rw [h1, h2]
  unfold Instr.sliceAt Instr.slice Instr.sliceBounds
  simp only [Sem.run_bind, run_underlying ht, Result.andThen_ok, Sem.run_pure, run_sliceBound _ .i64 (j : Int) _ _ (by omega) (show (j : Int) ≤ ((⟨l.toArray⟩ : ByteArray).size : Int) by rw [hs]; omega), Int.toNat_natCast, ite_self, if_true, Option.isSome_none, Bool.false_eq_true, if_false]
  rw [extract_sv l 0 j, List.drop_zero]
theorem OpQ.sliceSL {t : TypeId} {x y : Operand} {l : List UInt8} {i : Nat} (ht : c.P.underlying t = some .string) (hx : evE E x = some (sv l)) (hy : evE E y = some (.int .i64 (i : Int))) (hi : i ≤ l.length) :
    OpQ c ⟨d, .slice t x (some y) none none, ty, pos, af, g⟩ E H (sv (l.drop i)) := fun b w hE _ => by
  have h1 := hE.eval hx
  have h2 := hE.eval hy
  have hs : (⟨l.toArray⟩ : ByteArray).size = l.length := by simp [ByteArray.size]
  show Sem.run c.P (do let z ← Instr.sliceAt t (b.eval x) (some (b.eval y)) none none; pure (Next.value z)) w = _
  rw [h1, h2]
  unfold Instr.sliceAt Instr.slice Instr.sliceBounds
  simp only [Sem.run_bind, run_underlying ht, Result.andThen_ok, Sem.run_pure, run_sliceBound _ .i64 (i : Int) _ _ (by omega) (show (i : Int) ≤ ((⟨l.toArray⟩ : ByteArray).size : Int) by rw [hs]; omega), Int.toNat_natCast, ite_self, if_true, Option.isSome_none, Bool.false_eq_true, if_false]
  rw [hs, extract_sv l i _, List.take_length]
theorem OpQ.sliceSLH {t : TypeId} {x y z : Operand} {l : List UInt8} {i j : Nat} (ht : c.P.underlying t = some .string) (hx : evE E x = some (sv l)) (hy : evE E y = some (.int .i64 (i : Int))) (hz : evE E z = some (.int .i64 (j : Int))) (hi : i ≤ j) (hj : j ≤ l.length) :
    OpQ c ⟨d, .slice t x (some y) (some z) none, ty, pos, af, g⟩ E H (sv ((l.take j).drop i)) := fun b w hE _ => by
  have h1 := hE.eval hx
  have h2 := hE.eval hy
  have h3 := hE.eval hz
  have hs : (⟨l.toArray⟩ : ByteArray).size = l.length := by simp [ByteArray.size]
  show Sem.run c.P (do let z ← Instr.sliceAt t (b.eval x) (some (b.eval y)) (some (b.eval z)) none; pure (Next.value z)) w = _
  rw [h1, h2, h3]
  unfold Instr.sliceAt Instr.slice Instr.sliceBounds
  simp only [Sem.run_bind, run_underlying ht, Result.andThen_ok, Sem.run_pure, run_sliceBound _ .i64 (j : Int) _ _ (by omega) (show (j : Int) ≤ ((⟨l.toArray⟩ : ByteArray).size : Int) by rw [hs]; omega), run_sliceBound _ .i64 (i : Int) _ _ (by omega) (show (i : Int) ≤ ((j : Nat) : Int) by omega), Int.toNat_natCast, ite_self, if_true, Option.isSome_none, Bool.false_eq_true, if_false]
  rw [extract_sv l i j]
/-- copy(x, s): all of a row of bytes is written -/
theorem OpG.copyS {t st e : TypeId} {x y : Operand} {n cp : Nat} {a : Option Addr} {xs : List Value} {s : List UInt8} (ht : c.P.underlying t = some (.slice e)) (hz : sizeB c.P e = some 1) (hx : evE E x = some (.slice a n cp)) (hy : evE E y = some (sv s)) (hn : s.length = n)
    {H' : List Chunk} (hu : Upd H (.row e 1 (.slice a n cp) n xs) (.row e 1 (.slice a n cp) n (s.map bv)) H') :
    OpG c ⟨d, .call ⟨.builtin .copy, #[x, y], #[t, st]⟩, ty, pos, af, g⟩ E H (fun _ : Unit => True) (fun _ => .int .i64 (n : Int)) (fun _ => H') := fun b w hE hH K Q h => by
  have h1 := hE.eval hx
  have h2 := hE.eval hy
  obtain ⟨p, hp, rfl⟩ := hu.index
  have hown : w.ownsRow 0 e 1 (.slice a n cp) n xs := (hH.holds _ (List.mem_of_getElem? hp)).1
  have hs : (⟨s.toArray⟩ : ByteArray).size = s.length := by simp [ByteArray.size]
  have hf := Lib.run_firstCells_string (P := c.P) w 1 ⟨s.toArray⟩
  rw [hs, hn, strCells_sv] at hf
  obtain ⟨i, hq, hi⟩ := Option.map_eq_some_iff.1 (show (c.P.info? e).map (·.size) = some 1 from hz)
  have hmin0 : Nat.min (⟨#[]⟩ : ByteArray).size 0 = 0 := rfl
  have hones : ∀ v ∈ s.map bv, v.oneCell' = true := ones_map (fun _ => rfl) s
  rcases hown.2 with ⟨hv, h0⟩ | ⟨g', cap, cur, hv, hbg, hg, hnc, hcm, hcs, htake⟩
  · cases hv
    have hs0 : s = [] := List.eq_nil_of_length_eq_zero hn
    subst hs0
    have hrun : (Builtin.copy_ #[t, st] ty #[.slice none 0 0, sv []]).run c.P w = .ok (.int .i64 ((0 : Nat) : Int)) w := by
      simp [Builtin.copy_, run_underlying ht, Builtin.lenOf, sizeOf, typeInfo, hq, hi, hf, goInt, hmin0]
    unfold Oper.wp
    have hrun2 : (execOp b.eval ⟨d, .call ⟨.builtin .copy, #[x, y], #[t, st]⟩, ty, pos, af, g⟩).run c.P w = .ok (.value (.int .i64 ((0 : Nat) : Int))) w := by
      simp [execOp, resolve, invoke, builtin, h1, h2, hrun]
    rw [hrun2]
    exact h () w trivial (hH.set hp (fun k hk => .inl hk) ⟨rfl, .inl ⟨rfl, rfl⟩⟩ rfl rfl rfl (Nat.le_refl _) fun _ _ _ => rfl)
  · cases hv
    have hst := run_storeCells_at c.P g' 0 e (s.map bv) 0 cur w hg (by rw [List.length_map]; omega) hones
    simp only [Nat.add_zero, Nat.zero_add, List.length_map, List.take_zero, List.nil_append] at hst
    have hmin : Nat.min (⟨s.toArray⟩ : ByteArray).size n = n := by rw [hs, hn]; exact Nat.min_self n
    have hrun : (Builtin.copy_ #[t, st] ty #[.slice (some ⟨g', 0, none⟩) n cp, sv s]).run c.P w = .ok (.int .i64 (n : Int)) (w.setRow g' (s.map bv ++ cur.toList.drop s.length).toArray) := by
      simp [Builtin.copy_, run_underlying ht, Builtin.lenOf, sizeOf, typeInfo, hq, hi, hmin, hf, hst, goInt]
    unfold Oper.wp
    have hrun2 : (execOp b.eval ⟨d, .call ⟨.builtin .copy, #[x, y], #[t, st]⟩, ty, pos, af, g⟩).run c.P w = .ok (.value (.int .i64 (n : Int))) (w.setRow g' (s.map bv ++ cur.toList.drop s.length).toArray) := by
      simp [execOp, resolve, invoke, builtin, h1, h2, hrun]
    rw [hrun2]
    refine h () _ trivial (hH.set hp (fun k hk => .inl hk) ⟨by rw [List.length_map, hn, Nat.mul_one], .inr ⟨g', cp, _, rfl, hbg, setRow_heap w g' cur _ e _ hg, hnc, hcm, ?_, ?_⟩⟩ rfl rfl rfl (by simp) fun k _ hk => setRow_other w g' k _ (fun e => hk (by rw [e]; rfl)))
    · simp only [List.size_toArray, List.length_append, List.length_map, List.length_drop, Array.length_toList]
      omega
    · rw [← hn, Nat.mul_one]
      exact List.take_left' (by rw [List.length_map])
end
end Go.Eng

namespace Go.Eng
open Go
/-- the second part first -/
theorem HOk.rot {c : Cx} {w : World} {A B C : List Chunk} (h : HOk c (A ++ (B ++ C)) w) : HOk c (B ++ (A ++ C)) w := by
  refine h.perm ?_
  rw [← List.append_assoc, ← List.append_assoc]
  exact List.perm_append_comm.append_right C
end Go.Eng

namespace Go.Eng
open Go
/-! a region's operations in any order, more: a new block whose cells are what others made; chunks that no operation of the set writes -/
section
variable {c : Cx} {ops : Array Oper} {it : Nat → Itm} {is : List Nat} {E : Slots} {H : List Chunk} {i : Nat} {o : Oper}
theorem Itm.loc_newD {d p k : Nat} {deps : List Nat} {V0 : Nat → Value} {X0 : (Nat → Pl) → Nat → Chunk} (hl : ∀ g g' : Nat → Pl, (∀ j ∈ deps, g j = g' j) → X0 g = X0 g') : Itm.Loc ⟨d, p, deps, fun g => V0 (g k).2, fun g => X0 g (g k).2, fun _ => True⟩ k := fun g g' h => by
  have e := h k (.inl rfl)
  have e2 := hl g g' fun j hj => h j (.inr hj)
  exact ⟨by show V0 (g k).2 = _; rw [e], by show X0 g (g k).2 = _; rw [e, e2], fun _ => trivial⟩
theorem Good.newD {d p : Nat} {deps : List Nat} {V0 : Nat → Value} {X0 : (Nat → Pl) → Nat → Chunk} (h : it i = ⟨d, p, deps, fun g => V0 (g i).2, fun g => X0 g (g i).2, fun _ => True⟩) (hi : ops[i]? = some o) (hp : p < H.length) (hl : ∀ g g' : Nat → Pl, (∀ j ∈ deps, g j = g' j) → X0 g = X0 g') (hni : deps.contains i = false)
    (hq : ∀ D g, (∀ k ∈ D, k ∈ is ∧ k ≠ i) → (∀ k ∈ deps, k ∈ D) → OpG c o (Ev it E D g) (Mk it H D g) (fun _ : Nat => True) V0 (fun b => X0 g b :: Mk it H D g)) : Good c ops it is E H i := fun D g hD hd _ o' ho' => by
  rw [hi] at ho'
  cases ho'
  rw [h] at hd ⊢
  have hn : i ∉ deps := fun h => by simp [h] at hni
  refine (hq D g hD hd).pl (fun b => ((none, b) : Pl)) (fun _ _ => trivial) (fun b => by show V0 (gup g i (none, b) i).2 = _; rw [gup_at]) fun b w hw => ?_
  show HOk c ((Mk it H D g).set p (X0 (gup g i (none, b)) (gup g i (none, b) i).2)) w
  rw [gup_at, hl (gup g i (none, b)) g fun j hj => gup_ne fun e => hn (e ▸ hj)]
  exact hw.place (by rw [Mk_len]; exact hp)
theorem Itm.loc_ownD {d p k : Nat} {deps : List Nat} {V0 : Pl → Value} {X0 : (Nat → Pl) → Pl → Chunk} {Φ0 : Pl → Prop} (hl : ∀ g g' : Nat → Pl, (∀ j ∈ deps, g j = g' j) → X0 g = X0 g') : Itm.Loc ⟨d, p, deps, fun g => V0 (g k), fun g => X0 g (g k), fun g => Φ0 (g k)⟩ k := fun g g' h => by
  have e := h k (.inl rfl)
  have e2 := hl g g' fun j hj => h j (.inr hj)
  exact ⟨by show V0 (g k) = _; rw [e], by show X0 g (g k) = _; rw [e, e2], fun hh => by have hh : Φ0 (g k) := hh; show Φ0 (g' k); rw [← e]; exact hh⟩
theorem Good.ownD {d p : Nat} {deps : List Nat} {V0 : Pl → Value} {X0 : (Nat → Pl) → Pl → Chunk} {Φ0 : Pl → Prop} (h : it i = ⟨d, p, deps, fun g => V0 (g i), fun g => X0 g (g i), fun g => Φ0 (g i)⟩) (hi : ops[i]? = some o) (hl : ∀ g g' : Nat → Pl, (∀ j ∈ deps, g j = g' j) → X0 g = X0 g') (hni : deps.contains i = false)
    (hq : ∀ D g, (∀ k ∈ D, k ∈ is ∧ k ≠ i) → (∀ k ∈ deps, k ∈ D) → OpG c o (Ev it E D g) (Mk it H D g) Φ0 V0 (fun pl => (Mk it H D g).set p (X0 g pl))) : Good c ops it is E H i := fun D g hD hd _ o' ho' => by
  rw [hi] at ho'
  cases ho'
  rw [h] at hd ⊢
  have hn : i ∉ deps := fun h => by simp [h] at hni
  refine (hq D g hD hd).pl (fun pl => pl) (fun pl hp => ?_) (fun pl => ?_) fun pl w hw => ?_
  · show Φ0 (gup g i pl i); rw [gup_at]; exact hp
  · show V0 (gup g i pl i) = _; rw [gup_at]
  · show HOk c ((Mk it H D g).set p (X0 (gup g i pl) (gup g i pl i))) w
    rw [gup_at, hl (gup g i pl) g fun j hj => gup_ne fun e => hn (e ▸ hj)]; exact hw
theorem mk_free {D : List Nat} {g : Nat → Pl} {p : Nat} {x : Option Chunk} (hN : (is.all fun i => decide ((it i).p ≠ p)) = true) (hD : ∀ k ∈ D, k ∈ is ∧ k ≠ i) (hH : H[p]? = x) : (Mk it H D g)[p]? = x := by
  rw [Mk_base fun k hk => ?_, hH]
  exact of_decide_eq_true (List.all_eq_true.1 hN k (hD k hk).1)
theorem HOk.fragAt {w : World} {p : Nat} {bs : List Nat} {P : World → Prop} (hH : HOk c H w) (hp : H[p]? = some (.frag bs P)) : P w := (hH.holds _ (List.mem_of_getElem? hp)).1.2 w (fun _ _ => rfl)
theorem HOk.takeA {w : World} {A L R F : List Chunk} (h : HOk c (A ++ F) w) (ht : Take A L R) : HOk c (L ++ F) w := by
  have h1 : (A ++ F).Perm ((L ++ F) ++ R) := (ht.perm.append_right F).trans (by
    rw [List.append_assoc, List.append_assoc]
    exact List.perm_append_comm.append_left L)
  exact (h.perm h1).sublist (List.sublist_append_left _ _)
end
end Go.Eng

namespace Go.Eng
open Go
/-! a map's value changed; shifts and bytes of numbers that may be negative -/
def setA {α : Type} [DecidableEq α] (x : α) (v : Value) : List (α × Value) → List (α × Value)
  | [] => []
  | (y, u) :: r => if x = y then (y, v) :: r else (y, u) :: setA x v r
theorem setA_len {α : Type} [DecidableEq α] (x : α) (v : Value) (l : List (α × Value)) : (setA x v l).length = l.length := by
  induction l with
  | nil => rfl
  | cons p r ih =>
    obtain ⟨y, u⟩ := p
    rw [setA]
    split
    · rfl
    · rw [List.length_cons, List.length_cons, ih]
theorem getA_setA {α : Type} [DecidableEq α] (x z : α) (v : Value) (l : List (α × Value)) : getA z (setA x v l) = if z = x then (getA x l).map (fun _ => v) else getA z l := by
  induction l with
  | nil => simp [setA, getA]
  | cons p r ih =>
    obtain ⟨y, u⟩ := p
    rw [setA]
    by_cases h : x = y
    · subst h
      rw [if_pos rfl, getA, getA, getA]
      by_cases hz : z = x
      · simp [hz]
      · simp [hz]
    · rw [if_neg h, getA, getA, getA, ih]
      by_cases hz : z = y
      · subst hz
        rw [if_pos rfl, if_pos rfl, if_neg (fun e => h e.symm)]
      · rw [if_neg hz, if_neg hz, if_neg h]
theorem getA_snoc {α : Type} [DecidableEq α] (x z : α) (v : Value) (l : List (α × Value)) (h : getA x l = none) : getA z (l ++ [(x, v)]) = if z = x then some v else getA z l := by
  induction l with
  | nil =>
    show (if z = x then some v else none) = _
    rfl
  | cons p r ih =>
    obtain ⟨y, u⟩ := p
    rw [getA] at h
    split at h
    · cases h
    · rename_i hne
      rw [List.cons_append, getA, getA, ih h]
      by_cases hz : z = y
      · subst hz
        rw [if_pos rfl, if_pos rfl, if_neg (fun e => hne e.symm)]
      · rw [if_neg hz, if_neg hz]
theorem findA_pos {α : Type} [DecidableEq α] {f : α → Value} {x : α} {v : Value} {i' : Nat} : ∀ {l : List (α × Value)} {i j : Nat} {u : Value}, findA x i l = some (j, u) → ∃ k, j = i + k ∧ k < l.length ∧ ((entsA f i' l)[k]?).map (·.key) = some (f x) ∧ ∀ i', (entsA f i' l).modify k (fun e => { e with key := f x, val := v }) = entsA f i' (setA x v l)
  | [], _, _, _, h => by cases h
  | (y, u') :: r, i, j, u, h => by
    rw [findA] at h
    by_cases hxy : x = y
    · subst hxy
      rw [if_pos rfl] at h
      cases h
      refine ⟨0, rfl, Nat.succ_pos _, rfl, fun i' => ?_⟩
      rw [setA, if_pos rfl, entsA, entsA, List.modify_zero_cons]
    · rw [if_neg hxy] at h
      obtain ⟨k, h1, h2, h3, h4⟩ := findA_pos (f := f) (v := v) (i' := i' + 1) h
      refine ⟨k + 1, by omega, by simp only [List.length_cons]; omega, ?_, fun i' => ?_⟩
      · rw [entsA, List.getElem?_cons_succ]; exact h3
      · rw [setA, if_neg hxy, entsA, entsA, List.modify_succ_cons, h4]
section
variable {c : Cx} {E : Slots} {H : List Chunk} {d : Option Nat} {ty : TypeId} {pos : String} {af : Array Edge} {g : Option (Nat × Bool)}
/-- a key that is there gets another value -/
theorem OpG.mapSet {t k e : TypeId} {α : Type} [DecidableEq α] {f : α → Value} {b : Nat} {l : List (α × Value)} {x : α} {m i y : Operand} {v u : Value} {H' : List Chunk} (K : MapKey c.P k f) (hb0 : Instr.sameBits 10000 (f x) (f x) = true) (ht : c.P.underlying t = some (.map k e))
    (hm : evE E m = some (.map (some b))) (hx : evE E i = some (f x)) (hy : evE E y = some v) (hn : getA x l = some u) (hu : Upd H (.blk b (mapO f l)) (.blk b (mapO f (setA x v l))) H') :
    OpG c ⟨d, .mapUpdate t m i y, ty, pos, af, g⟩ E H (fun _ : Unit => True) (fun _ => undef) (fun _ => H') := fun a w hE hH Q R h => by
  have h1 := hE.eval hm
  have h2 := hE.eval hx
  have h3 := hE.eval hy
  obtain ⟨j, hj, _⟩ := hu.index
  have hb : w.heap[b]? = some (mapO f l) := (hH.holds _ (List.mem_of_getElem? hj)).1
  have hlt : b < w.heap.size := (Array.getElem?_eq_some_iff.1 hb).1
  obtain ⟨p, hp⟩ := findA_some hn 0
  obtain ⟨q, e1, _, e3, e4⟩ := findA_pos (f := f) (v := v) (i' := 0) hp
  have e1 : p = q := by omega
  subst e1
  have hobj : (Obj.map ((entsA f 0 l).toArray.modify p (fun e => { e with key := f x, val := v })) l.length) = mapO f (setA x v l) := by
    rw [mapO, setA_len, ← e4 0]
    congr 1
    apply Array.toList_inj.1
    rw [Array.toList_modify]
  have hkey : (((entsA f 0 l).toArray[p]?).map (·.key)).getD (f x) = f x := by
    rw [List.getElem?_toArray, e3]; rfl
  have hrun : (execOp a.eval ⟨d, .mapUpdate t m i y, ty, pos, af, g⟩).run c.P w = .ok .skip { w with heap := w.heap.setIfInBounds b (mapO f (setA x v l)) } := by
    show Sem.run c.P (do Instr.mapUpdate t (a.eval m) (a.eval i) (a.eval y); pure Next.skip) w = _
    rw [h1, h2, h3]
    unfold Instr.mapUpdate
    simp only [Sem.run_bind, run_underlying ht, Result.andThen_ok, MapKept.run_getObj_map hb, K.chk, List.toList_toArray, K.find, hp, hkey, Instr.keyThatStays, hb0, if_true, Sem.run_pure, MapKept.run_setObj_map _ hb, hobj]
  unfold Oper.wp
  rw [hrun]
  refine h () _ trivial (hH.upd hu (fun b' hb' => .inl hb') ?_ (row := some b) ⟨rfl, rfl, rfl, by simp, fun k' _ hk' => ?_⟩ (fun b' hb' => by cases hb'; exact rfl))
  · show (w.heap.setIfInBounds b _)[b]? = _
    simp [hlt]
  · have : ¬ b = k' := fun e => hk' (by rw [e])
    simp [this]
/-- a shift of any whole number -/
theorem OpQ.ishz {t t' : TypeId} {x y : Operand} {k : IntKind} {m : Int} {n : Nat} (hx : evE E x = some (.int .i64 m)) (hy : evE E y = some (.int k (n : Int))) (hn : n ≤ 64) :
    OpQ c ⟨d, .binOp .shr t x y t', ty, pos, af, g⟩ E H (.int .i64 (m / 2 ^ n)) := OpQ.bin hx hy fun w => by
  have e : ¬ ((n : Int) < 0) := by omega
  show (Op.shift .shr .i64 m k n).run c.P w = _
  simp only [Op.shift, e, if_false, IntKind.bits, Int.toNat_natCast, Nat.min_eq_left hn]
  show Result.ok (Value.int .i64 (m.fdiv (2 ^ n))) w = _
  rw [Int.fdiv_eq_ediv_of_nonneg _ (Int.le_of_lt (Int.pow_pos (by decide)))]
end
/-- a byte of any whole number -/
theorem conv_i64_u8z {P : Program} {s t : TypeId} (hs : P.underlying s = some (.int .i64)) (ht : P.underlying t = some (.int .u8)) (n : Int) (w : World) :
    (convert s t (.int .i64 n)).run P w = .ok (.int .u8 (n % 256)) w := by
  have : IntKind.u8.wrap n = n % 256 := by
    simp only [IntKind.wrap, IntKind.bits, IntKind.signed, Bool.false_and, Bool.false_eq_true, if_false]; omega
  simp [convert, run_underlying hs, run_underlying ht, Conv.intToInt, this]
end Go.Eng
namespace Go.Eng
open Go
/-- a key and its value put into a map -/
def putA {α : Type} [DecidableEq α] (x : α) (v : Value) (l : List (α × Value)) : List (α × Value) := if (getA x l).isSome then setA x v l else l ++ [(x, v)]
theorem getA_putA {α : Type} [DecidableEq α] (x z : α) (v : Value) (l : List (α × Value)) : getA z (putA x v l) = if z = x then some v else getA z l := by
  unfold putA
  cases h : getA x l with
  | none =>
    rw [if_neg (by simp), getA_snoc x z v l h]
  | some u =>
    rw [if_pos (by simp), getA_setA, h]; rfl
section
variable {c : Cx} {E : Slots} {H : List Chunk} {d : Option Nat} {ty : TypeId} {pos : String} {af : Array Edge} {g : Option (Nat × Bool)}
theorem OpG.mapPut {t k e : TypeId} {α : Type} [DecidableEq α] {f : α → Value} {b : Nat} {l : List (α × Value)} {x : α} {m i y : Operand} {v : Value} {H' : List Chunk} (K : MapKey c.P k f) (hb0 : Instr.sameBits 10000 (f x) (f x) = true) (ht : c.P.underlying t = some (.map k e))
    (hm : evE E m = some (.map (some b))) (hx : evE E i = some (f x)) (hy : evE E y = some v) (hu : Upd H (.blk b (mapO f l)) (.blk b (mapO f (putA x v l))) H') :
    OpG c ⟨d, .mapUpdate t m i y, ty, pos, af, g⟩ E H (fun _ : Unit => True) (fun _ => undef) (fun _ => H') := by
  cases h : getA x l with
  | none =>
    have e1 : putA x v l = l ++ [(x, v)] := by rw [putA, h]; rfl
    rw [e1] at hu
    exact OpG.mapNew K ht hm hx hy h hu
  | some u =>
    have e1 : putA x v l = setA x v l := by rw [putA, h]; rfl
    rw [e1] at hu
    exact OpG.mapSet K hb0 ht hm hx hy h hu
end
end Go.Eng
namespace Go.Eng
open Go Go.Sq
/-- a new row behind a family -/
theorem HOk.famS {c : Cx} {w : World} {A : List Chunk} {α : Type} {e : TypeId} {f : α → Value} {rs : List (Rx α)} {r : Rx α} (h : HOk c (rch e f r :: (A ++ fam e f rs)) w) : HOk c (A ++ fam e f (rs ++ [r])) w := by
  refine h.perm ?_
  rw [show fam e f (rs ++ [r]) = fam e f rs ++ [rch e f r] from List.map_append, ← List.append_assoc]
  exact (List.perm_append_singleton _ _).symm
end Go.Eng
namespace Go.Eng
open Go
theorem OpG.ofQ {c : Cx} {o : Oper} {E : Slots} {H : List Chunk} {v : Value} (h : OpQ c o E H v) : OpG c o E H (fun _ : Unit => True) (fun _ => v) (fun _ => H) := fun a w hE hH Q R k => by
  unfold Oper.wp
  rw [h a w hE hH]
  exact k () w trivial hH
end Go.Eng

namespace Go.Eng
open Go
section
variable {c : Cx} {E : Slots} {H : List Chunk} {d : Option Nat} {ty : TypeId} {pos : String} {af : Array Edge} {g : Option (Nat × Bool)}
/-- a sum of bytes that does not overflow -/
theorem OpQ.add8 {t t' : TypeId} {x y : Operand} {m n : Int} (hx : evE E x = some (.int .u8 m)) (hy : evE E y = some (.int .u8 n)) (hb : 0 ≤ m + n ∧ m + n < 256) :
    OpQ c ⟨d, .binOp .add t x y t', ty, pos, af, g⟩ E H (.int .u8 (m + n)) := OpQ.bin hx hy fun w => by
  have : IntKind.u8.wrap (m + n) = m + n := by
    simp only [IntKind.wrap, IntKind.bits, IntKind.signed, Bool.false_and, Bool.false_eq_true, if_false]; omega
  show Result.ok (Value.int .u8 (IntKind.u8.wrap (m + n))) w = _
  rw [this]
end
end Go.Eng

namespace Go.Eng
open Go
section
variable {c : Cx} {E : Slots} {H : List Chunk} {d : Option Nat} {ty : TypeId} {pos : String} {af : Array Edge} {g : Option (Nat × Bool)}
/-- string(b), b of length n -/
theorem OpQ.convBSn {s t e : TypeId} {x : Operand} {a : Option Addr} {n cp : Nat} {l : List UInt8} (hs : c.P.underlying s = some (.slice e)) (he : c.P.underlying e = some (.int .u8)) (ht : c.P.underlying t = some .string)
    (hx : evE E x = some (.slice a n cp)) (hn : l.length = n) (hr : ∀ w, HOk c H w → Rd w a (l.map bv)) : OpQ c ⟨d, .convert s t x, ty, pos, af, g⟩ E H (sv l) := by
  subst hn
  exact OpQ.convBS hs he ht hx hr
end
end Go.Eng

