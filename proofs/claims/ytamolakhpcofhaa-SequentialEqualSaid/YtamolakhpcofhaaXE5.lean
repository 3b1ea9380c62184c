/-
  What functions of the program compute, each by its walk. Conditions: those that each theorem names.
-/
import Derived.Test.YtamolakhpcofhaaEng1
import Derived.Test.YtamolakhpcofhaaXE4
import Derived.Test.YtamolakhpcofhaaXF
set_option linter.unusedSimpArgs false
namespace Go.Proofs.Ytamolakhpcofhaa
open Go Go.Eng Go.Am Go.Sq
open Go.Tl (mayL Wd okW okB bo)

theorem RE_hiB : ∃ j, Try.prog.info? 94 = some j ∧ j.size ≠ 0 := by
 have h : (Try.prog.info? 94).map (·.size) = some 2 := by kernel_rfl
 obtain ⟨j, hj, h2⟩ := Option.map_eq_some_iff.1 h
 exact ⟨j, hj, by rw [h2]; decide⟩
set_option maxRecDepth 100000 in
/-- (*strings.Builder).copyCheck -/
theorem ccheck_spec (w : World) (b : Nat) (q : Bool) (v : Value) (hpre : Pre [.row 94 2 (vb b) 1 [.pointer (if q then some ⟨b, 0, none⟩ else none), v]] w) : Calls Try.prog 80 #[.pointer (some ⟨b, 0, none⟩)] w (fun e w' => ∃ _i : Unit, True ∧ e = .returned (.tuple #[]) ∧ Post [b] [.row 94 2 (vb b) 1 [.pointer (if true then some ⟨b, 0, none⟩ else none), v]] w w') := by
 obtain ⟨jB, hjB, hjz⟩ := RE_hiB
 obtain ⟨fn9, hf9, hx9⟩ := Option.map_eq_some_iff.1 zf68
 obtain ⟨hn1, hn2, hn3⟩ : (fn9.name == "runtime.NumGoroutine") = false ∧ fn9.body.isNone = true ∧ (Extern.findNext fn9).isNone = true := by simpa using hx9
 have he9 : Extern.find fn9 = some Extern.AbiNoEscape.same := by
  have h : (Try.prog.funcs[93]?.bind Extern.find) = some Extern.AbiNoEscape.same := by kernel_rfl
  rw [hf9] at h
  exact h
 refine enterX (args := [.pointer (some ⟨b, 0, none⟩)]) hpre 20 Try.func80 rfl rfl rfl ?_
 refine CT.seq (CT.region ?_)
 refine Wl.q rfl rfl (OpQ.move rfl) ?_
 refine Wl.q rfl rfl (OpQ.nilCheckP rfl) ?_
 refine Wl.q rfl rfl (OpQ.fieldAddr zf70 rfl) ?_
 refine Wl.q rfl rfl (OpQ.loadF (b := b) zf71 rfl (by repeat (first | exact Has.here | apply Has.there)) (by rfl)) ?_
 refine Wl.q rfl rfl (OpQ.eqlPN zf66 rfl rfl) ?_
 refine Wl.nil (PX.then_n ?_)
 refine CT.cond rfl (fun h6 => ?_) (fun h6 => ?_)
 ·
  obtain rfl : q = false := by cases q; rfl; cases h6
  refine CT.region ?_
  refine Wl.q rfl rfl (OpQ.move rfl) ?_
  refine Wl.q rfl rfl (OpQ.move rfl) ?_
  refine Wl.q rfl rfl (OpQ.toUnsafe zf66 zf67 hjB hjz rfl (by repeat (first | exact Has.here | apply Has.there)) (by decide)) ?_
  refine Wl.q rfl rfl (OpQ.noEsc hf9 hn1 hn2 hn3 he9 rfl) ?_
  refine Wl.q rfl rfl (OpQ.fromUnsafe zf67 zf66 hjB rfl (by repeat (first | exact Has.here | apply Has.there)) (by kernel_rfl)) ?_
  refine Wl.q rfl rfl (OpQ.nilCheckP rfl) ?_
  refine Wl.q rfl rfl (OpQ.fieldAddr zf70 rfl) ?_
  refine Wl.g rfl rfl (OpG.storeRow (a := some ⟨b, 0, none⟩) zf69 rfl rfl rfl (by repeat (first | exact Upd.here | apply Upd.there)) (by simp)) ?_
  rintro _ _
  refine Wl.nil ?_
  refine PX.end0 rfl (fun w' hH => ?_)
  exact ⟨(), trivial, rfl, hH.post⟩
 ·
  obtain rfl : q = true := by cases q; cases h6; rfl
  refine CT.seq (CT.region ?_)
  refine Wl.q rfl rfl (OpQ.move rfl) ?_
  refine Wl.q rfl rfl (OpQ.nilCheckP rfl) ?_
  refine Wl.q rfl rfl (OpQ.fieldAddr zf70 rfl) ?_
  refine Wl.q rfl rfl (OpQ.loadF (b := b) zf71 rfl (by repeat (first | exact Has.here | apply Has.there)) (by rfl)) ?_
  refine Wl.q rfl rfl (OpQ.move rfl) ?_
  refine Wl.q rfl rfl (OpQ.neqPP zf66 hjB rfl rfl) ?_
  refine Wl.know 19 (v' := .bool false) rfl (congrArg Value.bool rfl) ?_
  refine Wl.nil (PX.then_n ?_)
  refine CT.condF rfl ?_
  refine CT.skip ?_
  refine PX.end0 rfl (fun w' hH => ?_)
  exact ⟨(), trivial, rfl, hH.post⟩

set_option maxRecDepth 100000 in
/-- (*strings.Builder).WriteString -/
theorem wstr_spec (w : World) (b : Nat) (q : Bool) (a : Option Addr) (cp : Nat) (l : Wd) (hc : a.isSome = true → cp ≠ 0) (hpre : Pre [.row 94 2 (vb b) 1 [.pointer (if q then some ⟨b, 0, none⟩ else none), .slice a (l).length cp], .row 5 1 (.slice a (l).length cp) (l).length ((l).map bv)] w) (s : Wd) (hl : l.length + s.length ≤ 140737488355328) : Calls Try.prog 51 #[.pointer (some ⟨b, 0, none⟩), sv s] w (fun e w' => ∃ i : Option Addr × Nat, (i.1.isSome = true → i.2 ≠ 0) ∧ e = .returned (.tuple #[.int .i64 (s.length : Int), .nilIface]) ∧ Post (blks [.row 94 2 (vb b) 1 [.pointer (if q then some ⟨b, 0, none⟩ else none), .slice a (l).length cp], .row 5 1 (.slice a (l).length cp) (l).length ((l).map bv)]) [.row 94 2 (vb b) 1 [.pointer (if true then some ⟨b, 0, none⟩ else none), .slice i.1 (l ++ s).length i.2], .row 5 1 (.slice i.1 (l ++ s).length i.2) (l ++ s).length ((l ++ s).map bv)] w w') := by
 refine enterX (args := [.pointer (some ⟨b, 0, none⟩), sv s]) hpre 19 Try.func51 rfl rfl rfl ?_
 refine CT.seq (CT.region ?_)
 refine Wl.q rfl rfl (OpQ.assign rfl) ?_
 refine Wl.q rfl rfl (OpQ.assign rfl) ?_
 refine Wl.nil (PX.then_n (CT.seq (CT.region ?_)))
 refine Wl.q rfl rfl (OpQ.move rfl) ?_
 refine Wl.g rfl rfl (OpG.callX zf72 rfl (.cons .here .nil) (fun _ => (.cons .nil)) (fun w hH hp => ccheck_spec w b q _ hp)) ?_
 rintro _ _
 refine Wl.nil (PX.then_n (CT.seq (CT.region ?_)))
 refine Wl.q rfl rfl (OpQ.move rfl) ?_
 refine Wl.q rfl rfl (OpQ.move rfl) ?_
 refine Wl.q rfl rfl (OpQ.nilCheckP rfl) ?_
 refine Wl.q rfl rfl (OpQ.fieldAddr zf73 rfl) ?_
 refine Wl.q rfl rfl (OpQ.loadF (b := b) zf74 rfl (by repeat (first | exact Has.here | apply Has.there)) (by rfl)) ?_
 refine Wl.q rfl rfl (OpQ.move rfl) ?_
 refine Wl.g rfl rfl (OpG.appendS zf2 zf4 zf14 rfl rfl (p := 1) rfl hc hl (nm := (l ++ s).length) (by rw [List.length_append]) (all := (l ++ s).map bv) (by rw [List.map_append])) ?_
 rintro ⟨a14, c14⟩ h14
 refine Wl.q rfl rfl (OpQ.nilCheckP rfl) ?_
 refine Wl.q rfl rfl (OpQ.fieldAddr zf73 rfl) ?_
 refine Wl.g rfl rfl (OpG.storeRow (a := some ⟨b, 0, none⟩) zf75 rfl rfl rfl (by repeat (first | exact Upd.here | apply Upd.there)) (by simp)) ?_
 rintro _ _
 refine Wl.nil (PX.then_n (CT.seq (CT.region ?_)))
 refine Wl.q rfl rfl (OpQ.move rfl) ?_
 refine Wl.q rfl rfl (OpQ.lenSv zf4 rfl) ?_
 refine Wl.q rfl rfl (OpQ.assign rfl) ?_
 refine Wl.q rfl rfl (OpQ.assign rfl) ?_
 refine Wl.nil (PX.then_n (CT.ret ?_))
 refine PX.ret2 rfl rfl rfl (fun w' hH => ?_)
 exact ⟨(a14, c14), h14, rfl, hH.post⟩

set_option maxRecDepth 100000 in
/-- (*strings.Builder).String -/
theorem bstr_spec (w : World) (b : Nat) (q : Bool) (a : Option Addr) (cp : Nat) (l : Wd) (hc : a.isSome = true → cp ≠ 0) (hpre : Pre [.row 94 2 (vb b) 1 [.pointer (if q then some ⟨b, 0, none⟩ else none), .slice a (l).length cp], .row 5 1 (.slice a (l).length cp) (l).length ((l).map bv)] w) (hl : l.length ≤ 140737488355328) : Calls Try.prog 52 #[.pointer (some ⟨b, 0, none⟩)] w (fun e w' => ∃ _i : Unit, True ∧ e = .returned (sv l) ∧ Post (blks [.row 94 2 (vb b) 1 [.pointer (if q then some ⟨b, 0, none⟩ else none), .slice a (l).length cp], .row 5 1 (.slice a (l).length cp) (l).length ((l).map bv)]) [] w w') := by
 refine enterX (args := [.pointer (some ⟨b, 0, none⟩)]) hpre 14 Try.func52 rfl rfl rfl ?_
 refine CT.seq (CT.region ?_)
 refine Wl.q rfl rfl (OpQ.assign rfl) ?_
 refine Wl.nil (PX.then_n (CT.seq ?_))
 refine CT.draw' (Hc := [.row 94 2 (vb b) 1 [.pointer (if q then some ⟨b, 0, none⟩ else none), .slice a (l).length cp]]) 12 zf6 ?_
 refine RA.q 0 (by kernel_rfl) rfl rfl rfl (.cons_cons _ (.cons _ (.refl _))) (OpQ.move rfl) ?_
 refine RA.q 1 (by kernel_rfl) rfl rfl rfl (.cons_cons _ (.cons _ (.refl _))) (OpQ.nilCheckP rfl) ?_
 refine RA.q 2 (by kernel_rfl) rfl rfl rfl (.cons_cons _ (.cons _ (.refl _))) (OpQ.fieldAddr zf73 rfl) ?_
 refine RA.q 3 (by kernel_rfl) rfl rfl rfl (.cons_cons _ (.cons _ (.refl _))) (OpQ.loadF (b := b) zf74 rfl (by repeat (first | exact Has.here | apply Has.there)) (by rfl)) ?_
 refine RA.q 4 (by kernel_rfl) rfl rfl rfl (.cons_cons _ (.cons _ (.refl _))) (OpQ.sliceData rfl hc) ?_
 refine RA.q 5 (by kernel_rfl) rfl rfl rfl (.cons_cons _ (.cons _ (.refl _))) (OpQ.move rfl) ?_
 refine RA.q 6 (by kernel_rfl) rfl rfl rfl (.cons_cons _ (.cons _ (.refl _))) (OpQ.nilCheckP rfl) ?_
 refine RA.q 7 (by kernel_rfl) rfl rfl rfl (.cons_cons _ (.cons _ (.refl _))) (OpQ.fieldAddr zf73 rfl) ?_
 refine RA.q 8 (by kernel_rfl) rfl rfl rfl (.cons_cons _ (.cons _ (.refl _))) (OpQ.loadF (b := b) zf74 rfl (by repeat (first | exact Has.here | apply Has.there)) (by rfl)) ?_
 refine RA.q 9 (by kernel_rfl) rfl rfl rfl (.cons_cons _ (.cons _ (.refl _))) (OpQ.len zf2 rfl) ?_
 refine RA.f 10 (by kernel_rfl) rfl rfl rfl (OpG.unsafeString zf76 (by kernel_rfl) rfl rfl (p := 1) rfl (by omega)) (fun _ _ => (.cons_cons _ (.cons _ (.refl _)))) ?_
 rintro _ _
 refine RA.q 11 (by kernel_rfl) rfl rfl rfl (.cons_cons _ (.cons _ (.refl _))) (OpQ.assign rfl) ?_
 refine RA.tail ?_
 refine RT.done (by kernel_rfl) ?_
 refine PX.then_n (CT.ret ?_)
 refine PX.ret1 rfl rfl (fun w' hH => ?_)
 exact ⟨(), trivial, rfl, (hH.sublist (List.nil_sublist _)).post⟩

end Go.Proofs.Ytamolakhpcofhaa

