/-
  What functions of the program compute, each by its walk. Conditions: those that each theorem names.
-/
import Derived.Test.YtamolakhpcofhaaMod
import Derived.Test.YtamolakhpcofhaaEng
import Derived.Test.YtamolakhpcofhaaXC9
import Derived.Test.YtamolakhpcofhaaXE4
import Derived.Test.YtamolakhpcofhaaXF
set_option linter.unusedSimpArgs false
namespace Go.Proofs.Ytamolakhpcofhaa
open Go Go.Eng Go.Am Go.Sq
open Go.Tp (zi)
open Go.Tl (mayL Wd okW okB bo)

theorem RQ_mkI : MapKey Try.prog 3 (fun n : Int => Value.int .i64 n) := MapKey.int (by kernel_rfl)
set_option maxRecDepth 100000 in
/-- semigroup/sequential.explore -/
theorem exploreQ_spec (w : World) (L : Nat) (hL : 1 ≤ L ∧ L ≤ 6) (s : Int) (f : Int → Nat → Int) (fin : Int → Bool) (R : Int → Prop) (hRb : ∀ k, ∀ q ∈ bfs f L s k, R q) (h20 : ∀ k, (bfs f L s k).length ≤ 20000) (f1 f2 : FuncId) (caps1 caps2 : List Value) (g1 : isGo Try.prog f1 = true) (g2 : isGo Try.prog f2 = true) (hf1 : ∀ w1, Ext [] w w1 → ∀ q x, R q → x < L → Calls Try.prog f1 ([zz q, zn x] ++ caps1).toArray w1 (fun e w2 => e = .returned (zz (f q x)) ∧ Ext [] w1 w2)) (hf2 : ∀ w1, Ext [] w w1 → ∀ q, R q → Calls Try.prog f2 ([zz q] ++ caps2).toArray w1 (fun e w2 => e = .returned (.bool (fin q)) ∧ Ext [] w1 w2)) : Calls Try.prog 62 #[.int .i64 ((L : Nat) : Int), zz s, .func (.func f1) #[] caps1.toArray, .func (.func f2) #[] caps2.toArray] w (fun e w' => ∃ i : Nat × Nat × Option Addr × Nat × Option Addr × Nat, Done f L s i.1 ∧ e = .returned (.pointer (some ⟨i.2.1, 0, none⟩)) ∧ Post [] [.row 141 3 (vb i.2.1) 1 [.int .i64 ((L : Nat) : Int), .slice i.2.2.1 (dfl (autoD f L s i.1 fin)).length i.2.2.2.1, .slice i.2.2.2.2.1 (autoD f L s i.1 fin).n i.2.2.2.2.2], .row 3 1 (.slice i.2.2.1 (dfl (autoD f L s i.1 fin)).length i.2.2.2.1) (dfl (autoD f L s i.1 fin)).length ((dfl (autoD f L s i.1 fin)).map zz), .row 4 1 (.slice i.2.2.2.2.1 (autoD f L s i.1 fin).n i.2.2.2.2.2) (autoD f L s i.1 fin).n ((autoD f L s i.1 fin).fin.map bo)] w w') := by
 refine enter (args := [.int .i64 ((L : Nat) : Int), zz s, .func (.func f1) #[] caps1.toArray, .func (.func f2) #[] caps2.toArray]) [] 86 Try.func62 rfl rfl rfl ?_
 refine CT.seq (CT.region ?_)
 refine Wl.q rfl rfl (OpQ.assign rfl) ?_
 refine Wl.nil (PX.then_n (CT.seq (CT.region ?_)))
 refine Wl.q rfl rfl (OpQ.move rfl) ?_
 refine Wl.q rfl rfl (OpQ.build (cells := #[.int .i64 ((L : Nat) : Int), .slice none 0 0, .slice none 0 0]) zf102 rfl rfl) ?_
 refine Wl.g rfl rfl (OpG.box (size := 3) rfl rfl rfl) ?_
 rintro b19 _
 refine Wl.q rfl rfl (OpQ.assign rfl) ?_
 refine Wl.nil (PX.then_n (CT.seq (CT.region ?_)))
 refine Wl.q rfl rfl (OpQ.move rfl) ?_
 refine Wl.g rfl rfl (OpG.lit1 zf0 zf32 rfl rfl rfl) ?_
 rintro b21 _
 refine Wl.q rfl rfl (OpQ.assign rfl) ?_
 refine Wl.nil (PX.then_n (CT.seq (CT.region ?_)))
 refine Wl.g rfl rfl (OpG.makeMap (f := (fun n : Int => Value.int .i64 n))) ?_
 rintro b22 _
 refine Wl.q rfl rfl (OpQ.move rfl) ?_
 refine Wl.g rfl rfl (OpG.insNew (f := (fun n : Int => Value.int .i64 n)) (x := s) (l := []) RQ_mkI zf31 rfl rfl rfl rfl (by repeat (first | exact Upd.here | apply Upd.there))) ?_
 rintro _ _
 refine Wl.q rfl rfl (OpQ.move rfl) ?_
 refine Wl.q rfl rfl (OpQ.assign rfl) ?_
 refine Wl.nil (PX.then_n (CT.seq (CT.seq (CT.region ?_))))
 refine Wl.q rfl rfl (OpQ.assign rfl) ?_
 refine Wl.nil (PX.then_n (CT.block ?_))
 refine CT.nilrow 4 1 ?_
 refine CT.nilrow 3 1 ?_
 refine CT.as (fun _ h => h.take (.cons (.there .here) (.cons .here (.cons (.there (.there .here)) (.cons (.there .here) (.cons .here .nil)))))) ?_
 refine CT.loop (ι := Nat × Option Addr × Nat × Option Addr × Nat × Option Addr × Nat × List Bool × List (List Int)) (fun (i, a', c', fa', fc', na', nc', fl, xss) => Going f L s (i * L) ∧ i ≤ (bfs f L s (i * L)).length ∧ fl = ((bfs f L s (i * L)).take i).map fin ∧ XRows f L s (bfs f L s (i * L)) i xss) (fun (i, a', c', fa', fc', na', nc', fl, xss) => [(0, .int .i64 ((L : Nat) : Int)), (2, .func (.func f1) #[] caps1.toArray), (3, .func (.func f2) #[] caps2.toArray), (9, .pointer (some ⟨b19, 0, none⟩)), (10, .slice a' (bfs f L s (i * L)).length c'), (11, .map (some b22)), (12, .int .i64 ((i : Nat) : Int))]) (fun (i, a', c', fa', fc', na', nc', fl, xss) => [.row 4 1 (.slice fa' (i) fc') (i) (fl.map bo), .row 3 1 (.slice na' (i * L) nc') (i * L) ((xss.flatten).map zz), .row 141 3 (vb b19) 1 [.int .i64 ((L : Nat) : Int), .slice na' (i * L) nc', .slice fa' (i) fc'], .row 3 1 (.slice a' (bfs f L s (i * L)).length c') (bfs f L s (i * L)).length ((bfs f L s (i * L)).map zz), .blk b22 (mapO (fun n : Int => Value.int .i64 n) (itA 0 (bfs f L s (i * L))))]) (fun (i, a', c', fa', fc', na', nc', fl, xss) => 20000 - i) (0, some ⟨b21, 0, none⟩, 1, none, 0, none, 0, [], []) ⟨by rw [Nat.zero_mul]; exact Going.zero, Nat.zero_le _, rfl, XRows.start _⟩ ⟨rfl, rfl, rfl, rfl, (lkV rfl (by rw [Nat.zero_mul]; rfl)), rfl, rfl, trivial⟩ (by dsimp only; rw [Nat.zero_mul]; exact HSub.refl _) (fun ⟨i, a', c', fa', fc', na', nc', fl, xss⟩ ⟨hg, hi, hfl, hrows⟩ K0 hK0 => ?_)
 dsimp only
 refine CT.fact (p := a'.isSome = true) (fun w hH => (hH.rd (.there (.there (.there .here)))).isSome (j := 0) (by rw [List.length_map]; exact bfs_pos _)) (fun hia => ?_)
 have hfll : fl.length = i := by rw [hfl, List.length_map, List.length_take, Nat.min_eq_left hi]
 have hxl := hrows.flat
 have h20i := h20 (i * L)
 have hRS : ∀ q ∈ (bfs f L s (i * L)), R q := hRb _
 refine CT.seq (CT.seq (CT.region ?_))
 refine Wl.q rfl rfl (OpQ.move rfl) ?_
 refine Wl.q rfl rfl (OpQ.move rfl) ?_
 refine Wl.q rfl rfl (OpQ.len zf0 rfl) ?_
 refine Wl.q rfl rfl (OpQ.lss rfl rfl) ?_
 refine Wl.nil (PX.then_n ?_)
 refine CT.cond rfl (fun h28 => ?_) (fun h28 => ?_)
 ·
  have h28 := of_decide_eq_true h28
  have hlt : i < (bfs f L s (i * L)).length := by omega
  have hRA : R ((bfs f L s (i * L)).getD i s) := hRS _ (getDm hlt)
  refine CT.skip (PX.then_n (CT.seq (CT.block (CT.seq ?_))))
  refine CT.draw' (Hc := [.row 141 3 (vb b19) 1 [.int .i64 ((L : Nat) : Int), .slice na' (i * L) nc', .slice fa' (i) fc'], .row 3 1 (.slice a' (bfs f L s (i * L)).length c') (bfs f L s (i * L)).length ((bfs f L s (i * L)).map zz)]) 13 zf6 ?_
  refine RA.q 0 (by kernel_rfl) rfl rfl rfl (.cons _ (.cons _ (.cons_cons _ (.cons_cons _ (.cons _ (.refl _)))))) (OpQ.move rfl) ?_
  refine RA.q 1 (by kernel_rfl) rfl rfl rfl (.cons _ (.cons _ (.cons_cons _ (.cons_cons _ (.cons _ (.refl _)))))) (OpQ.move rfl) ?_
  refine RA.q 2 (by kernel_rfl) rfl rfl rfl (.cons _ (.cons _ (.cons_cons _ (.cons_cons _ (.cons _ (.refl _)))))) (OpQ.nilCheckP rfl) ?_
  refine RA.q 3 (by kernel_rfl) rfl rfl rfl (.cons _ (.cons _ (.cons_cons _ (.cons_cons _ (.cons _ (.refl _)))))) (OpQ.fieldAddr zf57 rfl) ?_
  refine RA.q 4 (by kernel_rfl) rfl rfl rfl (.cons _ (.cons _ (.cons_cons _ (.cons_cons _ (.cons _ (.refl _)))))) (OpQ.loadF (b := b19) zf17 rfl (by repeat (first | exact Has.here | apply Has.there)) (by rfl)) ?_
  refine RA.q 5 (by kernel_rfl) rfl rfl rfl (.cons _ (.cons _ (.cons_cons _ (.cons_cons _ (.cons _ (.refl _)))))) (OpQ.move rfl) ?_
  refine RA.q 6 (by kernel_rfl) rfl rfl rfl (.cons _ (.cons _ (.cons_cons _ (.cons_cons _ (.cons _ (.refl _)))))) (OpQ.move rfl) ?_
  refine RA.q 7 (by kernel_rfl) rfl rfl rfl (.cons _ (.cons _ (.cons_cons _ (.cons_cons _ (.cons _ (.refl _)))))) (OpQ.move rfl) ?_
  refine RA.q 8 (by kernel_rfl) rfl rfl rfl (.cons _ (.cons _ (.cons_cons _ (.cons_cons _ (.cons _ (.refl _)))))) (OpQ.index1 zf0 zf1 rfl rfl (by omega) hia) ?_
  refine RA.q 9 (by kernel_rfl) rfl rfl rfl (.cons _ (.cons _ (.cons_cons _ (.cons_cons _ (.cons _ (.refl _)))))) (OpQ.loadRow zf8 rfl (.there .here) (getMap zz (bfs f L s (i * L)) s (j := i) hlt)) ?_
  refine RA.know 40 (v' := zz ((bfs f L s (i * L)).getD i s)) rfl rfl ?_
  refine RA.f 10 (by kernel_rfl) rfl rfl rfl (OpG.callFV rfl g2 rfl (fun w hH => hf2 w hH.ext ((bfs f L s (i * L)).getD i s) hRA)) (fun _ _ => (.cons _ (.cons _ (.cons_cons _ (.cons_cons _ (.cons _ (.refl _))))))) ?_
  rintro _ _
  refine RA.know 41 (v' := .bool (fin ((bfs f L s (i * L)).getD i s))) rfl rfl ?_
  refine RA.f 11 (by kernel_rfl) rfl rfl rfl (OpG.lit1 zf18 zf43 rfl rfl rfl) (fun _ _ => (.cons _ (.cons _ (.cons _ (.cons_cons _ (.cons_cons _ (.cons _ (.refl _)))))))) ?_
  rintro b42 _
  refine RA.f 12 (by kernel_rfl) rfl rfl rfl (OpG.append zf18 zf43 (by rfl) (by decide) rfl rfl (p := 1) rfl (fun w hH => hH.rd .here) ⟨rfl, (by simp [Value.oneCell']), (by omega), (by omega)⟩ (nm := i + 1) rfl (all := (fl ++ [fin ((bfs f L s (i * L)).getD i s)]).map bo) (by simp)) (fun _ _ => (.cons _ (.cons _ (.cons _ (.cons_cons _ (.cons_cons _ (.cons _ (.refl _)))))))) ?_
  rintro ⟨a43, c43⟩ h43
  refine RA.tail ?_
  refine RT.q 13 (by kernel_rfl) rfl rfl rfl (OpQ.nilCheckP rfl) ?_
  refine RT.q 14 (by kernel_rfl) rfl rfl rfl (OpQ.fieldAddr zf57 rfl) ?_
  refine RT.f 15 (by kernel_rfl) rfl rfl rfl (OpG.storeRow (a := some ⟨b19, 0, none⟩) zf44 rfl rfl rfl (by repeat (first | exact Upd.here | apply Upd.there)) (by simp)) ?_
  rintro _ _
  refine RT.done (by kernel_rfl) ?_
  refine PX.then_n (CT.seq (CT.region ?_))
  refine Wl.q rfl rfl (OpQ.move rfl) ?_
  refine Wl.q rfl rfl (OpQ.move rfl) ?_
  refine Wl.nil (PX.then_n (CT.block ?_))
  refine CT.loop (ι := Nat × Option Addr × Nat × Option Addr × Nat) (fun (x, a', c', na', nc') => x ≤ L) (fun (x, a', c', na', nc') => [(0, .int .i64 ((L : Nat) : Int)), (2, .func (.func f1) #[] caps1.toArray), (3, .func (.func f2) #[] caps2.toArray), (9, .pointer (some ⟨b19, 0, none⟩)), (10, .slice a' (bfs f L s (i * L + x)).length c'), (11, .map (some b22)), (12, .int .i64 ((i : Nat) : Int)), (46, .int .i64 ((L : Nat) : Int)), (47, .int .i64 ((x : Nat) : Int))]) (fun (x, a', c', na', nc') => [.row 4 1 (.slice a43 (i + 1) c43) (i + 1) ((fl ++ [fin ((bfs f L s (i * L)).getD i s)]).map bo), .row 3 1 (.slice na' (i * L + x) nc') (i * L + x) ((xss.flatten ++ rowG f (bfs f L s (i * L + x)) ((bfs f L s (i * L)).getD i s) x).map zz), .row 141 3 (vb b19) 1 [.int .i64 ((L : Nat) : Int), .slice na' (i * L + x) nc', .slice a43 (i + 1) c43], .row 3 1 (.slice a' (bfs f L s (i * L + x)).length c') (bfs f L s (i * L + x)).length ((bfs f L s (i * L + x)).map zz), .blk b22 (mapO (fun n : Int => Value.int .i64 n) (itA 0 (bfs f L s (i * L + x))))]) (fun (x, a', c', na', nc') => L - x) (0, a', c', na', nc') (Nat.zero_le _) ⟨rfl, rfl, rfl, rfl, rfl, rfl, rfl, rfl, rfl, trivial⟩ (.drop (by dsimp only; rw [show rowG f (bfs f L s (i * L + 0)) ((bfs f L s (i * L)).getD i s) 0 = [] from rfl, List.append_nil]; exact HSub.refl _)) (fun ⟨x, a', c', na', nc'⟩ hx K1 hK1 => ?_)
  dsimp only
  refine CT.fact (p := a'.isSome = true) (fun w hH => (hH.rd (.there (.there (.there .here)))).isSome (j := 0) (by rw [List.length_map]; exact bfs_pos _)) (fun hia => ?_)
  refine CT.seq (CT.region ?_)
  refine Wl.q rfl rfl (OpQ.lss rfl rfl) ?_
  refine Wl.nil (PX.then_n (CT.seq ?_))
  refine CT.cond rfl (fun h48 => ?_) (fun h48 => ?_)
  ·
   have h48 := of_decide_eq_true h48
   have hxl2 : x < L := by omega
   have h20x := h20 (i * L + x)
   have hiL : i * L ≤ 120000 := Nat.le_trans (Nat.mul_le_mul (show i ≤ 20000 by omega) hL.2) (by decide)
   have hxg := rowG_len (f := f) (bfs f L s (i * L + x)) ((bfs f L s (i * L)).getD i s) x
   have hltx : i < (bfs f L s (i * L + x)).length := Nat.lt_of_lt_of_le hlt (bfs_le (by omega))
   have hat : (bfs f L s (i * L + x)).getD i s = ((bfs f L s (i * L)).getD i s) := bfs_get (by omega) hlt _
   refine CT.skip (PX.then_n (CT.seq (CT.block (CT.seq (CT.region ?_)))))
   refine Wl.q rfl rfl (OpQ.move rfl) ?_
   refine Wl.q rfl rfl (OpQ.assign rfl) ?_
   refine Wl.nil (PX.then_n (CT.seq (CT.region ?_)))
   refine Wl.q rfl rfl (OpQ.move rfl) ?_
   refine Wl.q rfl rfl (OpQ.move rfl) ?_
   refine Wl.q rfl rfl (OpQ.move rfl) ?_
   refine Wl.q rfl rfl (OpQ.index1 zf0 zf1 rfl rfl (by omega) hia) ?_
   refine Wl.q rfl rfl (OpQ.loadRow zf8 rfl (.there (.there (.there .here))) (getMap zz (bfs f L s (i * L + x)) s (j := i) hltx)) ?_
   refine Wl.know 54 (v' := zz ((bfs f L s (i * L)).getD i s)) rfl (congrArg zz hat) ?_
   refine Wl.q rfl rfl (OpQ.move rfl) ?_
   refine Wl.g rfl rfl (OpG.callFV rfl g1 rfl (fun w hH => hf1 w hH.ext ((bfs f L s (i * L)).getD i s) x hRA hxl2)) ?_
   rintro _ _
   refine Wl.know 56 (v' := zz (f ((bfs f L s (i * L)).getD i s) x)) rfl rfl ?_
   refine Wl.q rfl rfl (OpQ.assign rfl) ?_
   refine Wl.nil (PX.then_n (CT.seq (CT.region ?_)))
   refine Wl.q rfl rfl (OpQ.move rfl) ?_
   refine Wl.q rfl rfl (OpQ.move rfl) ?_
   refine Wl.q rfl rfl (OpQ.lookup (f := (fun n : Int => Value.int .i64 n)) (x := (f ((bfs f L s (i * L)).getD i s) x)) (l := (itA 0 (bfs f L s (i * L + x)))) RQ_mkI zf31 zf32 rfl rfl (by repeat (first | exact Has.here | apply Has.there)) (by rw [if_pos rfl, getA_itA, ix_val, ix_is])) ?_
   refine Wl.q rfl rfl (OpQ.move rfl) ?_
   refine Wl.q rfl rfl (OpQ.extract rfl rfl) ?_
   refine Wl.q rfl rfl (OpQ.extract rfl rfl) ?_
   refine Wl.q rfl rfl (OpQ.assign rfl) ?_
   refine Wl.q rfl rfl (OpQ.assign rfl) ?_
   refine Wl.nil (PX.then_n (CT.seq (CT.seq (CT.region ?_))))
   refine Wl.q rfl rfl (OpQ.move rfl) ?_
   refine Wl.q rfl rfl (OpQ.not rfl) ?_
   refine Wl.nil (PX.then_n ?_)
   refine CT.cond rfl (fun h64 => ?_) (fun h64 => ?_)
   ·
    have hix : ixA (f ((bfs f L s (i * L)).getD i s) x) 0 (bfs f L s (i * L + x)) = none := by simpa using h64
    have hnx := ixA_none hix
    have hs2 : (bfs f L s (i * L + (x + 1))) = (bfs f L s (i * L + x)) ++ [(f ((bfs f L s (i * L)).getD i s) x)] := by rw [show i * L + (x + 1) = i * L + x + 1 from rfl, bfs_addx hxl2 hlt, addN_out hnx]
    have hrow : (xss.flatten ++ rowG f (bfs f L s (i * L + x)) ((bfs f L s (i * L)).getD i s) x).map zz ++ [.int .i64 (((bfs f L s (i * L + x)).length : Nat) : Int)] = (xss.flatten ++ rowG f (bfs f L s (i * L + (x + 1))) ((bfs f L s (i * L)).getD i s) (x + 1)).map zz := by rw [← rowG_put (l := (bfs f L s (i * L + x))) (m := (bfs f L s (i * L + (x + 1)))) ⟨_, hs2⟩ (bfs_row_mem (Nat.le_of_lt hxl2) hlt) (v := (((bfs f L s (i * L + x)).length : Nat) : Int)) (by rw [hs2, idxOf_out hnx]; simp), ← List.append_assoc]; exact (List.map_append (f := zz) (l₂ := [_])).symm
    refine CT.seq (CT.region ?_)
    refine Wl.q rfl rfl (OpQ.move rfl) ?_
    refine Wl.q rfl rfl (OpQ.len zf0 rfl) ?_
    refine Wl.q rfl rfl (OpQ.assign rfl) ?_
    refine Wl.nil (PX.then_n (CT.seq (CT.region ?_)))
    refine Wl.q rfl rfl (OpQ.move rfl) ?_
    refine Wl.q rfl rfl (OpQ.move rfl) ?_
    refine Wl.q rfl rfl (OpQ.move rfl) ?_
    refine Wl.g rfl rfl (OpG.mapNew (f := (fun n : Int => Value.int .i64 n)) (x := (f ((bfs f L s (i * L)).getD i s) x)) (l := (itA 0 (bfs f L s (i * L + x)))) RQ_mkI zf31 rfl rfl rfl (by rw [getA_itA, hix]; rfl) (by repeat (first | exact Upd.here | apply Upd.there))) ?_
    rintro _ _
    refine Wl.nil (PX.then_n (CT.region ?_))
    refine Wl.q rfl rfl (OpQ.move rfl) ?_
    refine Wl.q rfl rfl (OpQ.move rfl) ?_
    refine Wl.g rfl rfl (OpG.lit1 zf0 zf32 rfl rfl rfl) ?_
    rintro b72 _
    refine Wl.g rfl rfl (OpG.append zf0 zf32 (by rfl) (by decide) rfl rfl (p := 4) rfl (fun w hH => hH.rd .here) ⟨rfl, (by simp [Value.oneCell']), (by omega), (by omega)⟩ (nm := ((bfs f L s (i * L + x)).length + 1)) rfl (all := ((bfs f L s (i * L + x)) ++ [(f ((bfs f L s (i * L)).getD i s) x)]).map zz) (by simp)) ?_
    rintro ⟨a73, c73⟩ h73
    refine Wl.q rfl rfl (OpQ.assign rfl) ?_
    refine Wl.nil (PX.then_n (CT.region ?_))
    refine Wl.q rfl rfl (OpQ.move rfl) ?_
    refine Wl.q rfl rfl (OpQ.move rfl) ?_
    refine Wl.q rfl rfl (OpQ.nilCheckP rfl) ?_
    refine Wl.q rfl rfl (OpQ.fieldAddr zf60 rfl) ?_
    refine Wl.q rfl rfl (OpQ.loadF (b := b19) zf10 rfl (by repeat (first | exact Has.here | apply Has.there)) (by rfl)) ?_
    refine Wl.q rfl rfl (OpQ.move rfl) ?_
    refine Wl.g rfl rfl (OpG.lit1 zf0 zf32 rfl rfl rfl) ?_
    rintro b80 _
    refine Wl.g rfl rfl (OpG.append zf0 zf32 (by rfl) (by decide) rfl rfl (p := 3) rfl (fun w hH => hH.rd .here) ⟨rfl, (by simp [Value.oneCell']), (by omega), (by omega)⟩ (nm := i * L + x + 1) rfl (all := (xss.flatten ++ rowG f (bfs f L s (i * L + (x + 1))) ((bfs f L s (i * L)).getD i s) (x + 1)).map zz) hrow) ?_
    rintro ⟨a81, c81⟩ h81
    refine Wl.q rfl rfl (OpQ.nilCheckP rfl) ?_
    refine Wl.q rfl rfl (OpQ.fieldAddr zf60 rfl) ?_
    refine Wl.g rfl rfl (OpG.storeRow (a := some ⟨b19, 0, none⟩) zf23 rfl rfl rfl (by repeat (first | exact Upd.here | apply Upd.there)) (by simp)) ?_
    rintro _ _
    refine Wl.nil (PX.block_n (PX.then_n (CT.region ?_)))
    refine Wl.q rfl rfl (OpQ.add rfl rfl (by omega)) ?_
    refine Wl.q rfl rfl (OpQ.move rfl) ?_
    refine Wl.nil ?_
    refine PX.as (fun _ h => h.take (.cons (.there (.there .here)) (.cons (.there (.there .here)) (.cons (.there (.there .here)) (.cons (.there (.there .here)) (.cons (.there (.there .here)) .nil)))))) ?_
    exact PX.loop hK1 (x + 1, a73, c73, a81, c81) (show x + 1 ≤ L by omega) (show L - (x + 1) < L - x by omega) ⟨rfl, rfl, rfl, rfl, (lkV rfl (by rw [hs2, List.length_append]; rfl)), rfl, rfl, rfl, rfl, trivial⟩ (by dsimp only; rw [hs2, itA_snoc, List.length_append, Nat.zero_add]; exact HSub.refl _)
   ·
    have hix : ¬ ixA (f ((bfs f L s (i * L)).getD i s) x) 0 (bfs f L s (i * L + x)) = none := by intro h; rw [h] at h64; simp at h64
    obtain ⟨hx1, hx2⟩ := ix_in hix
    have hs2 : (bfs f L s (i * L + (x + 1))) = (bfs f L s (i * L + x)) := by rw [show i * L + (x + 1) = i * L + x + 1 from rfl, bfs_addx hxl2 hlt, hx1]
    have hrow : (xss.flatten ++ rowG f (bfs f L s (i * L + x)) ((bfs f L s (i * L)).getD i s) x).map zz ++ [.int .i64 (((ixA (f ((bfs f L s (i * L)).getD i s) x) 0 (bfs f L s (i * L + x))).getD 0 : Nat) : Int)] = (xss.flatten ++ rowG f (bfs f L s (i * L + (x + 1))) ((bfs f L s (i * L)).getD i s) (x + 1)).map zz := by rw [← rowG_put (l := (bfs f L s (i * L + x))) (m := (bfs f L s (i * L + (x + 1)))) ⟨[], by rw [hs2, List.append_nil]⟩ (bfs_row_mem (Nat.le_of_lt hxl2) hlt) (v := (((ixA (f ((bfs f L s (i * L)).getD i s) x) 0 (bfs f L s (i * L + x))).getD 0 : Nat) : Int)) (by rw [hx2, addN_idx, hx1, hs2]), ← List.append_assoc]; exact (List.map_append (f := zz) (l₂ := [_])).symm
    refine CT.skip (PX.then_n (CT.region ?_))
    refine Wl.q rfl rfl (OpQ.move rfl) ?_
    refine Wl.q rfl rfl (OpQ.move rfl) ?_
    refine Wl.q rfl rfl (OpQ.nilCheckP rfl) ?_
    refine Wl.q rfl rfl (OpQ.fieldAddr zf60 rfl) ?_
    refine Wl.q rfl rfl (OpQ.loadF (b := b19) zf10 rfl (by repeat (first | exact Has.here | apply Has.there)) (by rfl)) ?_
    refine Wl.q rfl rfl (OpQ.move rfl) ?_
    refine Wl.g rfl rfl (OpG.lit1 zf0 zf32 rfl rfl rfl) ?_
    rintro b80 _
    refine Wl.g rfl rfl (OpG.append zf0 zf32 (by rfl) (by decide) rfl rfl (p := 2) rfl (fun w hH => hH.rd .here) ⟨rfl, (by simp [Value.oneCell']), (by omega), (by omega)⟩ (nm := i * L + x + 1) rfl (all := (xss.flatten ++ rowG f (bfs f L s (i * L + (x + 1))) ((bfs f L s (i * L)).getD i s) (x + 1)).map zz) hrow) ?_
    rintro ⟨a81, c81⟩ h81
    refine Wl.q rfl rfl (OpQ.nilCheckP rfl) ?_
    refine Wl.q rfl rfl (OpQ.fieldAddr zf60 rfl) ?_
    refine Wl.g rfl rfl (OpG.storeRow (a := some ⟨b19, 0, none⟩) zf23 rfl rfl rfl (by repeat (first | exact Upd.here | apply Upd.there)) (by simp)) ?_
    rintro _ _
    refine Wl.nil (PX.block_n (PX.then_n (CT.region ?_)))
    refine Wl.q rfl rfl (OpQ.add rfl rfl (by omega)) ?_
    refine Wl.q rfl rfl (OpQ.move rfl) ?_
    refine Wl.nil ?_
    refine PX.as (fun _ h => h.take (.cons (.there .here) (.cons (.there .here) (.cons (.there .here) (.cons (.there .here) (.cons (.there .here) .nil)))))) ?_
    exact PX.loop hK1 (x + 1, a', c', a81, c81) (show x + 1 ≤ L by omega) (show L - (x + 1) < L - x by omega) ⟨rfl, rfl, rfl, rfl, (lkV rfl (by rw [hs2])), rfl, rfl, rfl, rfl, trivial⟩ (by dsimp only; rw [hs2]; exact HSub.refl _)
  ·
   have h48 := of_decide_eq_false h48
   obtain rfl : L = x := by omega
   have hrows2 := (hrows.grow hi (bfs_pre (i * L) L)).snoc (fun y hy => by rw [bfs_get (show i * L ≤ i * L + L by omega) hlt]; exact bfs_row_mem (Nat.le_refl _) hlt y hy)
   rw [bfs_get (show i * L ≤ i * L + L by omega) hlt] at hrows2
   refine CT.exit (PX.then_x (PX.then_x (PX.block_x (PX.block_n (PX.then_n (CT.region ?_))))))
   refine Wl.q rfl rfl (OpQ.move rfl) ?_
   refine Wl.q rfl rfl (OpQ.add rfl rfl (by omega)) ?_
   refine Wl.q rfl rfl (OpQ.assign rfl) ?_
   refine Wl.nil ?_
   exact PX.loop hK0 (i + 1, a', c', a43, c43, na', nc', (fl ++ [fin ((bfs f L s (i * L)).getD i s)]), xss ++ [rowG f (bfs f L s (i * L + L)) ((bfs f L s (i * L)).getD i s) L]) ⟨hg.next hlt, by have := bfs_le (f := f) (L := L) (s := s) (show i * L ≤ (i + 1) * L by rw [Nat.add_mul]; omega); omega, fl_next hfl hlt bfs_succ_row, by rw [Nat.add_mul, Nat.one_mul]; rw [← rowG_full] at hrows2; exact hrows2⟩ (show 20000 - (i + 1) < 20000 - i by omega) ⟨rfl, rfl, rfl, rfl, (lkV rfl (by rw [Nat.add_mul, Nat.one_mul])), rfl, rfl, trivial⟩ (by dsimp only; rw [Nat.add_mul, Nat.one_mul, List.flatten_append]; simp only [List.flatten_cons, List.flatten_nil, List.append_nil]; exact HSub.refl _)
 ·
  have h28 := of_decide_eq_false h28
  refine CT.exit (PX.then_x (PX.then_x (PX.block_x (PX.then_n (CT.seq (CT.region ?_))))))
  refine Wl.q rfl rfl (OpQ.move rfl) ?_
  refine Wl.q rfl rfl (OpQ.assign rfl) ?_
  refine Wl.nil (PX.then_n (CT.ret ?_))
  refine PX.ret1 rfl rfl (fun w' hH => ?_)
  have hii : i = (bfs f L s (i * L)).length := by omega
  have hfin : fl = (autoD f L s (i * L) fin).fin := by
   rw [hfl, List.take_of_length_le (Nat.le_of_eq hii.symm)]; rfl
  have hK := Done.of hL.1 hg hii
  have hxss : xss.flatten = dfl (autoD f L s (i * L) fin) := congrArg List.flatten (hrows.auto' hii fin)
  have hn1 : (dfl (autoD f L s (i * L) fin)).length = i * L := by rw [← hxss]; exact hxl
  have hn2 : (autoD f L s (i * L) fin).n = i := by rw [autoD_n]; exact hii.symm
  exact ⟨(i * L, b19, na', nc', fa', fc'), hK, rfl, (hH.take (.cons (.there (.there .here)) (.cons (.there .here) (.cons .here .nil)))).post.conv (by dsimp only; rw [hn1, hn2, ← hxss, ← hfin]; exact HSub.refl _)⟩

end Go.Proofs.Ytamolakhpcofhaa

