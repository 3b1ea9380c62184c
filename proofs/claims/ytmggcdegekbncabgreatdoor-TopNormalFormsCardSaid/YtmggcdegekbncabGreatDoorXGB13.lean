/-
  What functions of the program compute, each by its walk. Conditions: those that each theorem names.
-/
import Derived.Test.YtmggcdegekbncabGreatDoorEng1
import Derived.Test.YtmggcdegekbncabGreatDoorXGB12
import Derived.Test.YtmggcdegekbncabGreatDoorXF
set_option linter.unusedSimpArgs false
namespace Go.Proofs.YtmggcdegekbncabGreatDoor
open Go Go.Eng Go.Am Go.Ex
open Go.Tp (zi)
open Go.Tl (mayL Wd okW okB bo)
open Go.Ex.simp (simpL)
open Go.Ex.dv (dvL dvC)
open Go.Ex.hasU (hasAny hasAll)
open Go.Ex.wf (wfL)
open Go.Ex.szE (szL)
open Go.Ex.dpE (dpL)
open Go.Ex.cmpE (cmpL)
open Go.Ex.fmtE (fmtK fmtR)
open Go.Ex (ktx)
theorem K13_hiB : ∃ j, Tryz.prog.info? 79 = some j ∧ j.size ≠ 0 := by
 have h : (Tryz.prog.info? 79).map (·.size) = some 2 := by kernel_rfl
 obtain ⟨j, hj, h2⟩ := Option.map_eq_some_iff.1 h
 exact ⟨j, hj, by rw [h2]; decide⟩
theorem K13_unB : Tryz.prog.underlying 77 = some (.pointer 79) := by kernel_rfl
theorem K13_unU : Tryz.prog.underlying 162 = some .unsafePointer := by kernel_rfl
theorem K13_fne : (Tryz.prog.funcs[125]?.map fun fn => (fn.name == "runtime.NumGoroutine", fn.body.isNone, (Extern.findNext fn).isNone)) = some (false, true, true) := by kernel_rfl
theorem K13_sz77 : sizeB Tryz.prog 77 = some 1 := by kernel_rfl
theorem K13_fa79_0 : fieldB Tryz.prog 79 0 = some 0 := by kernel_rfl
theorem K13_sc77 : scalarB Tryz.prog 77 = some true := by kernel_rfl
set_option maxRecDepth 100000 in
/-- (*strings.Builder).copyCheck -/
theorem ccheck_spec (w : World) (b : Nat) (q : Bool) (v : Value) (hpre : Pre [.row 79 2 (vb b) 1 [.pointer (if q then some ⟨b, 0, none⟩ else none), v]] w) : Calls Tryz.prog 98 #[.pointer (some ⟨b, 0, none⟩)] w (fun e w' => ∃ _i : Unit, True ∧ e = .returned (.tuple #[]) ∧ Post [b] [.row 79 2 (vb b) 1 [.pointer (if true then some ⟨b, 0, none⟩ else none), v]] w w') := by
 obtain ⟨jB, hjB, hjz⟩ := K13_hiB
 obtain ⟨fn9, hf9, hx9⟩ := Option.map_eq_some_iff.1 K13_fne
 obtain ⟨hn1, hn2, hn3⟩ : (fn9.name == "runtime.NumGoroutine") = false ∧ fn9.body.isNone = true ∧ (Extern.findNext fn9).isNone = true := by simpa using hx9
 have he9 : Extern.find fn9 = some Extern.AbiNoEscape.same := by
  have h : (Tryz.prog.funcs[125]?.bind Extern.find) = some Extern.AbiNoEscape.same := by kernel_rfl
  rw [hf9] at h
  exact h
 refine enterX (args := [.pointer (some ⟨b, 0, none⟩)]) hpre 20 Tryz.func98 rfl rfl rfl ?_
 refine CT.seq (CT.region ?_)
 refine Wl.q rfl rfl (OpQ.move rfl) ?_
 refine Wl.q rfl rfl (OpQ.nilCheckP rfl) ?_
 refine Wl.q rfl rfl (OpQ.fieldAddr K13_fa79_0 rfl) ?_
 refine Wl.q rfl rfl (OpQ.loadF (b := b) K13_sc77 rfl (by repeat (first | exact Has.here | apply Has.there)) (by rfl)) ?_
 refine Wl.q rfl rfl (OpQ.eqlPN K13_unB rfl rfl) ?_
 refine Wl.nil (PX.then_n ?_)
 refine CT.cond rfl (fun h6 => ?_) (fun h6 => ?_)
 ·
  obtain rfl : q = false := by cases q; rfl; cases h6
  refine CT.region ?_
  refine Wl.q rfl rfl (OpQ.move rfl) ?_
  refine Wl.q rfl rfl (OpQ.move rfl) ?_
  refine Wl.q rfl rfl (OpQ.toUnsafe K13_unB K13_unU hjB hjz rfl (by repeat (first | exact Has.here | apply Has.there)) (by decide)) ?_
  refine Wl.q rfl rfl (OpQ.noEsc hf9 hn1 hn2 hn3 he9 rfl) ?_
  refine Wl.q rfl rfl (OpQ.fromUnsafe K13_unU K13_unB hjB rfl (by repeat (first | exact Has.here | apply Has.there)) (by kernel_rfl)) ?_
  refine Wl.q rfl rfl (OpQ.nilCheckP rfl) ?_
  refine Wl.q rfl rfl (OpQ.fieldAddr K13_fa79_0 rfl) ?_
  refine Wl.g rfl rfl (OpG.storeRow (a := some ⟨b, 0, none⟩) K13_sz77 rfl rfl rfl (by repeat (first | exact Upd.here | apply Upd.there)) (by simp)) ?_
  rintro _ _
  refine Wl.nil ?_
  refine PX.end0 rfl (fun w' hH => ?_)
  exact ⟨(), trivial, rfl, hH.post⟩
 ·
  obtain rfl : q = true := by cases q; cases h6; rfl
  refine CT.seq (CT.region ?_)
  refine Wl.q rfl rfl (OpQ.move rfl) ?_
  refine Wl.q rfl rfl (OpQ.nilCheckP rfl) ?_
  refine Wl.q rfl rfl (OpQ.fieldAddr K13_fa79_0 rfl) ?_
  refine Wl.q rfl rfl (OpQ.loadF (b := b) K13_sc77 rfl (by repeat (first | exact Has.here | apply Has.there)) (by rfl)) ?_
  refine Wl.q rfl rfl (OpQ.move rfl) ?_
  refine Wl.q rfl rfl (OpQ.neqPP K13_unB hjB rfl rfl) ?_
  refine Wl.know 19 (v' := .bool false) rfl (congrArg Value.bool rfl) ?_
  refine Wl.nil (PX.then_n ?_)
  refine CT.condF rfl ?_
  refine CT.skip ?_
  refine PX.end0 rfl (fun w' hH => ?_)
  exact ⟨(), trivial, rfl, hH.post⟩

theorem K13_un41 : Tryz.prog.underlying 41 = some (.slice 5) := by kernel_rfl
theorem K13_un9 : Tryz.prog.underlying 9 = some .string := by kernel_rfl
theorem K13_in5 : (Tryz.prog.info? 5).map (fun i => (i.zero, i.size, i.bytes)) = some (some (.int .u8 0), 1, 1) := by kernel_rfl
theorem K13_go98 : isGo Tryz.prog 98 = true := by kernel_rfl
theorem K13_fa79_1 : fieldB Tryz.prog 79 1 = some 1 := by kernel_rfl
theorem K13_sc41 : scalarB Tryz.prog 41 = some true := by kernel_rfl
theorem K13_sz41 : sizeB Tryz.prog 41 = some 1 := by kernel_rfl
set_option maxRecDepth 100000 in
/-- (*strings.Builder).WriteString -/
theorem wstr_spec (w : World) (b : Nat) (q : Bool) (a : Option Addr) (cp : Nat) (l : Tx) (hc : a.isSome = true → cp ≠ 0) (hpre : Pre [.row 79 2 (vb b) 1 [.pointer (if q then some ⟨b, 0, none⟩ else none), .slice a (l).length cp], .row 5 1 (.slice a (l).length cp) (l).length ((l).map bv)] w) (s : Tx) (hl : l.length + s.length ≤ 140737488355328) : Calls Tryz.prog 99 #[.pointer (some ⟨b, 0, none⟩), sv s] w (fun e w' => ∃ i : Option Addr × Nat, (i.1.isSome = true → i.2 ≠ 0) ∧ e = .returned (.tuple #[.int .i64 (s.length : Int), .nilIface]) ∧ Post (blks [.row 79 2 (vb b) 1 [.pointer (if q then some ⟨b, 0, none⟩ else none), .slice a (l).length cp], .row 5 1 (.slice a (l).length cp) (l).length ((l).map bv)]) [.row 79 2 (vb b) 1 [.pointer (if true then some ⟨b, 0, none⟩ else none), .slice i.1 (l ++ s).length i.2], .row 5 1 (.slice i.1 (l ++ s).length i.2) (l ++ s).length ((l ++ s).map bv)] w w') := by
 refine enterX (args := [.pointer (some ⟨b, 0, none⟩), sv s]) hpre 19 Tryz.func99 rfl rfl rfl ?_
 refine CT.seq (CT.region ?_)
 refine Wl.q rfl rfl (OpQ.assign rfl) ?_
 refine Wl.q rfl rfl (OpQ.assign rfl) ?_
 refine Wl.nil (PX.then_n (CT.seq (CT.region ?_)))
 refine Wl.q rfl rfl (OpQ.move rfl) ?_
 refine Wl.g rfl rfl (OpG.callX K13_go98 rfl (.cons .here .nil) (fun _ => (.cons .nil)) (fun w hH hp => ccheck_spec w b q _ hp)) ?_
 rintro _ _
 refine Wl.nil (PX.then_n (CT.seq (CT.region ?_)))
 refine Wl.q rfl rfl (OpQ.move rfl) ?_
 refine Wl.q rfl rfl (OpQ.move rfl) ?_
 refine Wl.q rfl rfl (OpQ.nilCheckP rfl) ?_
 refine Wl.q rfl rfl (OpQ.fieldAddr K13_fa79_1 rfl) ?_
 refine Wl.q rfl rfl (OpQ.loadF (b := b) K13_sc41 rfl (by repeat (first | exact Has.here | apply Has.there)) (by rfl)) ?_
 refine Wl.q rfl rfl (OpQ.move rfl) ?_
 refine Wl.g rfl rfl (OpG.appendS K13_un41 K13_un9 K13_in5 rfl rfl (p := 1) rfl hc hl (nm := (l ++ s).length) (by rw [List.length_append]) (all := (l ++ s).map bv) (by rw [List.map_append])) ?_
 rintro ⟨a14, c14⟩ h14
 refine Wl.q rfl rfl (OpQ.nilCheckP rfl) ?_
 refine Wl.q rfl rfl (OpQ.fieldAddr K13_fa79_1 rfl) ?_
 refine Wl.g rfl rfl (OpG.storeRow (a := some ⟨b, 0, none⟩) K13_sz41 rfl rfl rfl (by repeat (first | exact Upd.here | apply Upd.there)) (by simp)) ?_
 rintro _ _
 refine Wl.nil (PX.then_n (CT.seq (CT.region ?_)))
 refine Wl.q rfl rfl (OpQ.move rfl) ?_
 refine Wl.q rfl rfl (OpQ.lenSv K13_un9 rfl) ?_
 refine Wl.q rfl rfl (OpQ.assign rfl) ?_
 refine Wl.q rfl rfl (OpQ.assign rfl) ?_
 refine Wl.nil (PX.then_n (CT.ret ?_))
 refine PX.ret2 rfl rfl rfl (fun w' hH => ?_)
 exact ⟨(a14, c14), h14, rfl, hH.post⟩

set_option maxRecDepth 100000 in
/-- (*strings.Builder).WriteByte -/
theorem wbyte_spec (w : World) (b : Nat) (q : Bool) (a : Option Addr) (cp : Nat) (l : Tx) (_hc : a.isSome = true → cp ≠ 0) (hpre : Pre [.row 79 2 (vb b) 1 [.pointer (if q then some ⟨b, 0, none⟩ else none), .slice a (l).length cp], .row 5 1 (.slice a (l).length cp) (l).length ((l).map bv)] w) (x : UInt8) (hl : l.length + 1 ≤ 140737488355328) : Calls Tryz.prog 70 #[.pointer (some ⟨b, 0, none⟩), bv x] w (fun e w' => ∃ i : Option Addr × Nat, (i.1.isSome = true → i.2 ≠ 0) ∧ e = .returned (.nilIface) ∧ Post (blks [.row 79 2 (vb b) 1 [.pointer (if q then some ⟨b, 0, none⟩ else none), .slice a (l).length cp], .row 5 1 (.slice a (l).length cp) (l).length ((l).map bv)]) [.row 79 2 (vb b) 1 [.pointer (if true then some ⟨b, 0, none⟩ else none), .slice i.1 (l ++ [x]).length i.2], .row 5 1 (.slice i.1 (l ++ [x]).length i.2) (l ++ [x]).length ((l ++ [x]).map bv)] w w') := by
 refine enterX (args := [.pointer (some ⟨b, 0, none⟩), bv x]) hpre 17 Tryz.func70 rfl rfl rfl ?_
 refine CT.seq (CT.region ?_)
 refine Wl.q rfl rfl (OpQ.assign rfl) ?_
 refine Wl.nil (PX.then_n (CT.seq (CT.region ?_)))
 refine Wl.q rfl rfl (OpQ.move rfl) ?_
 refine Wl.g rfl rfl (OpG.callX K13_go98 rfl (.cons .here .nil) (fun _ => (.cons .nil)) (fun w hH hp => ccheck_spec w b q _ hp)) ?_
 rintro _ _
 refine Wl.nil (PX.then_n (CT.seq (CT.region ?_)))
 refine Wl.q rfl rfl (OpQ.move rfl) ?_
 refine Wl.q rfl rfl (OpQ.move rfl) ?_
 refine Wl.q rfl rfl (OpQ.nilCheckP rfl) ?_
 refine Wl.q rfl rfl (OpQ.fieldAddr K13_fa79_1 rfl) ?_
 refine Wl.q rfl rfl (OpQ.loadF (b := b) K13_sc41 rfl (by repeat (first | exact Has.here | apply Has.there)) (by rfl)) ?_
 refine Wl.q rfl rfl (OpQ.move rfl) ?_
 refine Wl.g rfl rfl (OpG.lit1 K13_un41 K13_in5 rfl rfl rfl) ?_
 rintro b13 _
 refine Wl.g rfl rfl (OpG.append K13_un41 K13_in5 (by rfl) (by decide) rfl rfl (p := 2) rfl (fun w hH => hH.rd .here) ⟨(show ([bv x] : List Value).length = 1 * 1 from rfl), (fun v hv => by rw [List.mem_singleton] at hv; rw [hv]; rfl), by omega, by omega⟩ (nm := (l ++ [x]).length) (by rw [List.length_append]; rfl) (all := (l ++ [x]).map bv) (by rw [List.map_append]; rfl)) ?_
 rintro ⟨a14, c14⟩ h14
 refine Wl.q rfl rfl (OpQ.nilCheckP rfl) ?_
 refine Wl.q rfl rfl (OpQ.fieldAddr K13_fa79_1 rfl) ?_
 refine Wl.g rfl rfl (OpG.storeRow (a := some ⟨b, 0, none⟩) K13_sz41 rfl rfl rfl (by repeat (first | exact Upd.here | apply Upd.there)) (by simp)) ?_
 rintro _ _
 refine Wl.nil (PX.then_n (CT.seq (CT.region ?_)))
 refine Wl.q rfl rfl (OpQ.assign rfl) ?_
 refine Wl.nil (PX.then_n (CT.ret ?_))
 refine PX.ret1 rfl rfl (fun w' hH => ?_)
 exact ⟨(a14, c14), (fun _ => hH.cap (p := 2) rfl (by rw [List.length_append]; exact Nat.lt_add_left _ Nat.one_pos)), rfl, HOk.post (hH.take (.cons (.there .here) (.cons (.there .here) .nil)))⟩

theorem K13_unP : Tryz.prog.underlying 118 = some (.pointer 5) := by kernel_rfl
theorem K13_mixed : Tryz.prog.follows .mixedOrders = true := by kernel_rfl
set_option maxRecDepth 100000 in
/-- (*strings.Builder).String -/
theorem bstr_spec (w : World) (b : Nat) (q : Bool) (a : Option Addr) (cp : Nat) (l : Tx) (hc : a.isSome = true → cp ≠ 0) (hpre : Pre [.row 79 2 (vb b) 1 [.pointer (if q then some ⟨b, 0, none⟩ else none), .slice a (l).length cp], .row 5 1 (.slice a (l).length cp) (l).length ((l).map bv)] w) (hl : l.length ≤ 140737488355328) : Calls Tryz.prog 43 #[.pointer (some ⟨b, 0, none⟩)] w (fun e w' => ∃ _i : Unit, True ∧ e = .returned (sv l) ∧ Post (blks [.row 79 2 (vb b) 1 [.pointer (if q then some ⟨b, 0, none⟩ else none), .slice a (l).length cp], .row 5 1 (.slice a (l).length cp) (l).length ((l).map bv)]) [] w w') := by
 refine enterX (args := [.pointer (some ⟨b, 0, none⟩)]) hpre 14 Tryz.func43 rfl rfl rfl ?_
 refine CT.seq (CT.region ?_)
 refine Wl.q rfl rfl (OpQ.assign rfl) ?_
 refine Wl.nil (PX.then_n (CT.seq ?_))
 refine CT.draw' (Hc := [.row 79 2 (vb b) 1 [.pointer (if q then some ⟨b, 0, none⟩ else none), .slice a (l).length cp]]) 12 K13_mixed ?_
 refine RA.q 0 (by kernel_rfl) rfl rfl rfl (.cons_cons _ (.cons _ (.refl _))) (OpQ.move rfl) ?_
 refine RA.q 1 (by kernel_rfl) rfl rfl rfl (.cons_cons _ (.cons _ (.refl _))) (OpQ.nilCheckP rfl) ?_
 refine RA.q 2 (by kernel_rfl) rfl rfl rfl (.cons_cons _ (.cons _ (.refl _))) (OpQ.fieldAddr K13_fa79_1 rfl) ?_
 refine RA.q 3 (by kernel_rfl) rfl rfl rfl (.cons_cons _ (.cons _ (.refl _))) (OpQ.loadF (b := b) K13_sc41 rfl (by repeat (first | exact Has.here | apply Has.there)) (by rfl)) ?_
 refine RA.q 4 (by kernel_rfl) rfl rfl rfl (.cons_cons _ (.cons _ (.refl _))) (OpQ.sliceData rfl hc) ?_
 refine RA.q 5 (by kernel_rfl) rfl rfl rfl (.cons_cons _ (.cons _ (.refl _))) (OpQ.move rfl) ?_
 refine RA.q 6 (by kernel_rfl) rfl rfl rfl (.cons_cons _ (.cons _ (.refl _))) (OpQ.nilCheckP rfl) ?_
 refine RA.q 7 (by kernel_rfl) rfl rfl rfl (.cons_cons _ (.cons _ (.refl _))) (OpQ.fieldAddr K13_fa79_1 rfl) ?_
 refine RA.q 8 (by kernel_rfl) rfl rfl rfl (.cons_cons _ (.cons _ (.refl _))) (OpQ.loadF (b := b) K13_sc41 rfl (by repeat (first | exact Has.here | apply Has.there)) (by rfl)) ?_
 refine RA.q 9 (by kernel_rfl) rfl rfl rfl (.cons_cons _ (.cons _ (.refl _))) (OpQ.len K13_un41 rfl) ?_
 refine RA.f 10 (by kernel_rfl) rfl rfl rfl (OpG.unsafeString K13_unP (by kernel_rfl) rfl rfl (p := 1) rfl (by omega)) (fun _ _ => (.cons_cons _ (.cons _ (.refl _)))) ?_
 rintro _ _
 refine RA.q 11 (by kernel_rfl) rfl rfl rfl (.cons_cons _ (.cons _ (.refl _))) (OpQ.assign rfl) ?_
 refine RA.tail ?_
 refine RT.done (by kernel_rfl) ?_
 refine PX.then_n (CT.ret ?_)
 refine PX.ret1 rfl rfl (fun w' hH => ?_)
 exact ⟨(), trivial, rfl, (hH.sublist (List.nil_sublist _)).post⟩

set_option maxRecDepth 100000 in
/-- semigroup/expr.level -/
theorem level_spec (w : World) (o : Int) : Calls Tryz.prog 100 #[.int .i64 o] w (fun e w' => e = .returned (.int .i64 ((lev o : Nat) : Int)) ∧ Ext [] w w') := by
 refine enter (args := [.int .i64 o]) [] 14 Tryz.func100 rfl rfl rfl ?_
 refine CT.seq (CT.region ?_)
 refine Wl.q rfl rfl (OpQ.assign rfl) ?_
 refine Wl.nil (PX.then_n (CT.seq (CT.seq (CT.region ?_))))
 refine Wl.q rfl rfl (OpQ.move rfl) ?_
 refine Wl.nil (PX.then_n (CT.block (CT.seq (CT.region ?_))))
 refine Wl.q rfl rfl (OpQ.eql rfl rfl) ?_
 refine Wl.q rfl rfl (OpQ.assign rfl) ?_
 refine Wl.nil (PX.then_n ?_)
 refine CT.cond rfl (fun h4 => ?_) (fun h4 => ?_)
 ·
  have h4 := of_decide_eq_true h4
  refine CT.seq (CT.region ?_)
  refine Wl.q rfl rfl (OpQ.assign rfl) ?_
  refine Wl.nil (PX.then_n (CT.ret (PX.block_r (PX.then_r ?_))))
  refine PX.ret1 rfl rfl (fun w' hH => ?_)
  exact ⟨by rw [← lev_if, if_pos h4], hH.ext⟩
 ·
  have h4 := of_decide_eq_false h4
  refine CT.seq (CT.region ?_)
  refine Wl.q rfl rfl (OpQ.eql rfl rfl) ?_
  refine Wl.q rfl rfl (OpQ.assign rfl) ?_
  refine Wl.nil (PX.then_n ?_)
  refine CT.cond rfl (fun h6 => ?_) (fun h6 => ?_)
  ·
   have h6 := of_decide_eq_true h6
   refine CT.seq (CT.region ?_)
   refine Wl.q rfl rfl (OpQ.assign rfl) ?_
   refine Wl.nil (PX.then_n (CT.ret (PX.block_r (PX.then_r ?_))))
   refine PX.ret1 rfl rfl (fun w' hH => ?_)
   exact ⟨by rw [← lev_if, if_neg h4, if_pos h6], hH.ext⟩
  ·
   have h6 := of_decide_eq_false h6
   refine CT.seq (CT.region ?_)
   refine Wl.q rfl rfl (OpQ.eql rfl rfl) ?_
   refine Wl.q rfl rfl (OpQ.assign rfl) ?_
   refine Wl.nil (PX.then_n ?_)
   refine CT.cond rfl (fun h8 => ?_) (fun h8 => ?_)
   ·
    have h8 := of_decide_eq_true h8
    refine CT.seq (CT.region ?_)
    refine Wl.q rfl rfl (OpQ.assign rfl) ?_
    refine Wl.nil (PX.then_n (CT.ret (PX.block_r (PX.then_r ?_))))
    refine PX.ret1 rfl rfl (fun w' hH => ?_)
    exact ⟨by rw [← lev_if, if_neg h4, if_neg h6, if_pos h8], hH.ext⟩
   ·
    have h8 := of_decide_eq_false h8
    refine CT.seq (CT.region ?_)
    refine Wl.q rfl rfl (OpQ.eql rfl rfl) ?_
    refine Wl.q rfl rfl (OpQ.assign rfl) ?_
    refine Wl.nil (PX.then_n ?_)
    refine CT.cond rfl (fun h10 => ?_) (fun h10 => ?_)
    ·
     have h10 := of_decide_eq_true h10
     refine CT.seq (CT.region ?_)
     refine Wl.q rfl rfl (OpQ.assign rfl) ?_
     refine Wl.nil (PX.then_n (CT.ret (PX.block_r (PX.then_r ?_))))
     refine PX.ret1 rfl rfl (fun w' hH => ?_)
     exact ⟨by rw [← lev_if, if_neg h4, if_neg h6, if_neg h8, if_pos h10], hH.ext⟩
    ·
     have h10 := of_decide_eq_false h10
     refine CT.seq (CT.region ?_)
     refine Wl.q rfl rfl (OpQ.eql rfl rfl) ?_
     refine Wl.q rfl rfl (OpQ.assign rfl) ?_
     refine Wl.nil (PX.then_n ?_)
     refine CT.cond rfl (fun h12 => ?_) (fun h12 => ?_)
     ·
      have h12 := of_decide_eq_true h12
      refine CT.seq (CT.region ?_)
      refine Wl.q rfl rfl (OpQ.assign rfl) ?_
      refine Wl.nil (PX.then_n (CT.ret (PX.block_r (PX.then_r ?_))))
      refine PX.ret1 rfl rfl (fun w' hH => ?_)
      exact ⟨by rw [← lev_if, if_neg h4, if_neg h6, if_neg h8, if_neg h10, if_pos h12], hH.ext⟩
     ·
      have h12 := of_decide_eq_false h12
      refine CT.skip (PX.block_n (PX.then_n (CT.seq (CT.region ?_))))
      refine Wl.q rfl rfl (OpQ.assign rfl) ?_
      refine Wl.nil (PX.then_n (CT.ret ?_))
      refine PX.ret1 rfl rfl (fun w' hH => ?_)
      exact ⟨by rw [← lev_if, if_neg h4, if_neg h6, if_neg h8, if_neg h10, if_neg h12], hH.ext⟩

theorem K13_un22 : Tryz.prog.underlying 22 = some (.slice 24) := by kernel_rfl
theorem K13_sz24 : sizeB Tryz.prog 24 = some 3 := by kernel_rfl
theorem K13_ag24 : isAggB Tryz.prog 24 = some true := by kernel_rfl
theorem K13_in24 : (Tryz.prog.info? 24).map (fun i => (i.zero, i.size, i.bytes)) = some (some (.agg #[.int .i64 0, .int .i64 0, .slice none 0 0]), 3, 40) := by kernel_rfl
theorem K13_go99 : isGo Tryz.prog 99 = true := by kernel_rfl
theorem K13_fa24_0 : fieldB Tryz.prog 24 0 = some 0 := by kernel_rfl
theorem K13_sc3 : scalarB Tryz.prog 3 = some true := by kernel_rfl
theorem K13_go100 : isGo Tryz.prog 100 = true := by kernel_rfl
theorem K13_go42 : isGo Tryz.prog 42 = true := by kernel_rfl
theorem K13_go70 : isGo Tryz.prog 70 = true := by kernel_rfl
set_option maxRecDepth 100000 in
/-- semigroup/expr.writeKids -/
theorem wkids_spec (w : World) (b : Nat) (q : Bool) (a : Option Addr) (cp : Nat) (l sep : Tx) (c : Nat) (ks : List Xv) (ka : Option Addr) (kc : Nat) (hW : ∀ k ∈ ks, ∀ w : World, ∀ (q : Bool) (a : Option Addr) (cp : Nat) (l : Tx), (a.isSome = true → cp ≠ 0) → l.length + 4 * szE (toE k) ≤ 1000000000 → wf 6 (toE k) = true → Stays (blks [.row 79 2 (vb b) 1 [.pointer (if q then some ⟨b, 0, none⟩ else none), .slice a (l).length cp], .row 5 1 (.slice a (l).length cp) (l).length ((l).map bv)]) w (evm k) → Pre [.row 79 2 (vb b) 1 [.pointer (if q then some ⟨b, 0, none⟩ else none), .slice a (l).length cp], .row 5 1 (.slice a (l).length cp) (l).length ((l).map bv)] w → Calls Tryz.prog 42 #[.pointer (some ⟨b, 0, none⟩), evv k] w (fun e w' => ∃ i : Bool × Option Addr × Nat, (i.2.1.isSome = true → i.2.2 ≠ 0) ∧ e = .returned (.tuple #[]) ∧ Post (blks [.row 79 2 (vb b) 1 [.pointer (if q then some ⟨b, 0, none⟩ else none), .slice a (l).length cp], .row 5 1 (.slice a (l).length cp) (l).length ((l).map bv)]) [.row 79 2 (vb b) 1 [.pointer (if i.1 then some ⟨b, 0, none⟩ else none), .slice i.2.1 (l ++ fmtE (toE k)).length i.2.2], .row 5 1 (.slice i.2.1 (l ++ fmtE (toE k)).length i.2.2) (l ++ fmtE (toE k)).length ((l ++ fmtE (toE k)).map bv)] w w')) (hsep : sep.length ≤ 1) (hc : a.isSome = true → cp ≠ 0) (hl : l.length + 4 * szE.szL (ks.map toE) + 3 ≤ 1000000000) (hwk : ∀ k ∈ ks, wf 6 (toE k) = true) (hk : Stays (blks [.row 79 2 (vb b) 1 [.pointer (if q then some ⟨b, 0, none⟩ else none), .slice a (l).length cp], .row 5 1 (.slice a (l).length cp) (l).length ((l).map bv)]) w (kin ka ks)) (hpre : Pre [.row 79 2 (vb b) 1 [.pointer (if q then some ⟨b, 0, none⟩ else none), .slice a (l).length cp], .row 5 1 (.slice a (l).length cp) (l).length ((l).map bv)] w) : Calls Tryz.prog 71 #[.pointer (some ⟨b, 0, none⟩), .slice ka ks.length kc, sv sep, .int .i64 ((c : Nat) : Int)] w (fun e w' => ∃ i : Bool × Option Addr × Nat, (i.2.1.isSome = true → i.2.2 ≠ 0) ∧ e = .returned (.tuple #[]) ∧ Post (blks [.row 79 2 (vb b) 1 [.pointer (if q then some ⟨b, 0, none⟩ else none), .slice a (l).length cp], .row 5 1 (.slice a (l).length cp) (l).length ((l).map bv)]) [.row 79 2 (vb b) 1 [.pointer (if i.1 then some ⟨b, 0, none⟩ else none), .slice i.2.1 (l ++ fmtE.fmtK sep c (ks.map toE)).length i.2.2], .row 5 1 (.slice i.2.1 (l ++ fmtE.fmtK sep c (ks.map toE)).length i.2.2) (l ++ fmtE.fmtK sep c (ks.map toE)).length ((l ++ fmtE.fmtK sep c (ks.map toE)).map bv)] w w') := by
 have hka : 0 < ks.length → ka.isSome = true := fun h => hk.now.1.isSome (j := 0) (by rw [flat_len evc_len]; omega)
 have hkn := hk.now.2.2
 have hst := szT_all ks
 refine enterX (args := [.pointer (some ⟨b, 0, none⟩), .slice ka ks.length kc, sv sep, .int .i64 ((c : Nat) : Int)]) hpre 38 Tryz.func71 rfl rfl rfl ?_
 refine CT.seq (CT.region ?_)
 refine Wl.q rfl rfl (OpQ.move rfl) ?_
 refine Wl.q rfl rfl (OpQ.len K13_un22 rfl) ?_
 refine Wl.q rfl rfl (OpQ.move rfl) ?_
 refine Wl.nil (PX.then_n (CT.block ?_))
 refine CT.loop (ι := Nat × Bool × Option Addr × Nat) (fun (k, q', a', c') => k ≤ ks.length ∧ (a'.isSome = true → c' ≠ 0)) (fun (k, q', a', c') => [(0, .pointer (some ⟨b, 0, none⟩)), (2, sv sep), (3, .int .i64 ((c : Nat) : Int)), (10, .slice ka ks.length kc), (11, .int .i64 ((ks.length : Nat) : Int)), (12, .int .i64 ((k : Nat) : Int))]) (fun (k, q', a', c') => [.row 79 2 (vb b) 1 [.pointer (if q' then some ⟨b, 0, none⟩ else none), .slice a' (l ++ ktx sep c ks k).length c'], .row 5 1 (.slice a' (l ++ ktx sep c ks k).length c') (l ++ ktx sep c ks k).length ((l ++ ktx sep c ks k).map bv)]) (fun (k, q', a', c') => ks.length - k) (0, q, a, cp) ⟨Nat.zero_le _, hc⟩ ⟨rfl, rfl, rfl, rfl, rfl, rfl, trivial⟩ (by dsimp only; rw [ktx_0, List.append_nil]; exact HSub.refl _) (fun ⟨k, q', a', c'⟩ ⟨hkb, hc'⟩ K0 hK0 => ?_)
 dsimp only
 refine CT.seq (CT.region ?_)
 refine Wl.q rfl rfl (OpQ.lss rfl rfl) ?_
 refine Wl.nil (PX.then_n (CT.seq ?_))
 refine CT.cond rfl (fun h13 => ?_) (fun h13 => ?_)
 ·
  have h13 := of_decide_eq_true h13
  refine CT.skip (PX.then_n (CT.seq (CT.block (CT.seq (CT.region ?_)))))
  refine Wl.q rfl rfl (OpQ.move rfl) ?_
  have hkl : k < ks.length := by omega
  have hsz := szT_s hkl
  have hsl := szT_le ks (show k + 1 ≤ ks.length by omega) (Nat.le_refl _)
  have hkt := ktx_len (c := c) (ks := ks) hsep k
  refine Wl.q rfl rfl (OpQ.index K13_un22 K13_sz24 rfl rfl (by omega) (hka (by omega))) ?_
  refine Wl.q rfl rfl (OpQ.loadAggG (cs := evc (ks.getD k ev0)) K13_ag24 K13_sz24 rfl (fun w hH => (hH.use hk).1) (flat_cells evc_len ks ev0 (by omega))) ?_
  refine Wl.know 16 (v' := evv (ks.getD k ev0)) rfl rfl ?_
  refine Wl.g rfl rfl (OpG.alloc (zs := [.int .i64 0, .int .i64 0, .slice none 0 0]) K13_in24 rfl rfl) ?_
  rintro b9 _
  refine Wl.q rfl rfl (OpQ.assign rfl) ?_
  refine Wl.g rfl rfl (OpG.storeV (b := b9) K13_sz24 rfl rfl rfl rfl (by repeat (first | exact Upd.here | apply Upd.there))) ?_
  rintro _ _
  refine Wl.nil (PX.then_n ?_)
  refine CT.cut (ι := Bool × Option Addr × Nat) (Φ := fun (q3, a3, c3) => (a3.isSome = true → c3 ≠ 0)) (E' := fun (q3, a3, c3) => [(0, .pointer (some ⟨b, 0, none⟩)), (2, sv sep), (3, .int .i64 ((c : Nat) : Int)), (10, .slice ka ks.length kc), (11, .int .i64 ((ks.length : Nat) : Int)), (12, .int .i64 ((k : Nat) : Int)), (9, .pointer (some ⟨b9, 0, none⟩))]) (H' := fun (q3, a3, c3) => [.row 24 3 (vb b9) 1 (evc (ks.getD k ev0)), .row 79 2 (vb b) 1 [.pointer (if q3 then some ⟨b, 0, none⟩ else none), .slice a3 ((l ++ ktx sep c ks k) ++ (if k = 0 then [] else sep)).length c3], .row 5 1 (.slice a3 ((l ++ ktx sep c ks k) ++ (if k = 0 then [] else sep)).length c3) ((l ++ ktx sep c ks k) ++ (if k = 0 then [] else sep)).length (((l ++ ktx sep c ks k) ++ (if k = 0 then [] else sep)).map bv)]) (fun K1 hK1 => ?_) (fun ⟨q3, a3, c3⟩ hc3 => ?_)
  ·
   refine CT.seq (CT.region ?_)
   refine Wl.q rfl rfl (OpQ.move rfl) ?_
   refine Wl.q rfl rfl (OpQ.gtr rfl rfl) ?_
   refine Wl.nil (PX.then_n ?_)
   refine CT.cond rfl (fun h18 => ?_) (fun h18 => ?_)
   ·
    have h18 := of_decide_eq_true h18
    refine CT.region ?_
    refine Wl.q rfl rfl (OpQ.move rfl) ?_
    refine Wl.q rfl rfl (OpQ.move rfl) ?_
    refine Wl.g rfl rfl (OpG.callX K13_go99 rfl (.cons (.there .here) (.cons (.there .here) .nil)) (fun _ => (.cons (.cons .nil))) (fun w hH hp => wstr_spec w b q' a' c' (l ++ ktx sep c ks k) hc' hp sep (by rw [List.length_append]; omega))) ?_
    rintro i21 hc21
    refine Wl.nil ?_
    refine PX.as (fun _ h => h.take (.cons (.there (.there .here)) (.cons .here (.cons .here .nil)))) ?_
    exact PX.cut hK1 (true, i21.1, i21.2) hc21 ⟨rfl, rfl, rfl, rfl, rfl, rfl, rfl, trivial⟩ (by dsimp only; rw [if_neg (show ¬ k = 0 by omega)]; exact HSub.refl _)
   ·
    have h18 := of_decide_eq_false h18
    refine CT.skip ?_
    exact PX.cut hK1 (q', a', c') hc' ⟨rfl, rfl, rfl, rfl, rfl, rfl, rfl, trivial⟩ (by dsimp only; rw [if_pos (show k = 0 by omega), List.append_nil]; exact HSub.refl _)
  ·
   dsimp only
   have hlen : ((l ++ ktx sep c ks k) ++ (if k = 0 then [] else sep)).length ≤ l.length + (ktx sep c ks k).length + 1 := by rw [List.length_append, List.length_append]; split <;> simp <;> omega
   refine CT.seq (CT.seq (CT.region ?_))
   refine Wl.q rfl rfl (OpQ.fieldAddr K13_fa24_0 rfl) ?_
   refine Wl.q rfl rfl (OpQ.loadF (b := b9) K13_sc3 rfl (by repeat (first | exact Has.here | apply Has.there)) (by rfl)) ?_
   refine Wl.g rfl rfl (OpG.callV K13_go100 rfl (fun w hH => level_spec w (ks.getD k ev0).op)) ?_
   rintro _ _
   refine Wl.q rfl rfl (OpQ.move rfl) ?_
   refine Wl.q rfl rfl (OpQ.geq rfl rfl) ?_
   refine Wl.nil (PX.then_n ?_)
   refine CT.cond rfl (fun h26 => ?_) (fun h26 => ?_)
   ·
    have h26 := of_decide_eq_true h26
    refine CT.seq (CT.region ?_)
    refine Wl.q rfl rfl (OpQ.move rfl) ?_
    refine Wl.q rfl rfl (OpQ.loadV (b := b9) K13_ag24 K13_sz24 rfl (by repeat (first | exact Has.here | apply Has.there)) (by rfl)) ?_
    refine Wl.know 28 (v' := evv (ks.getD k ev0)) rfl rfl ?_
    refine Wl.g rfl rfl (OpG.callX K13_go42 rfl (.cons (.there .here) (.cons (.there .here) .nil)) (fun _ => (.cons (.cons .nil))) (fun w hH hp => hW _ (by rw [getD_get hkl]; exact List.getElem_mem hkl) w q3 a3 c3 ((l ++ ktx sep c ks k) ++ (if k = 0 then [] else sep)) hc3 (by omega) (hwk _ (by rw [getD_get hkl]; exact List.getElem_mem hkl)) ((hH.stays hk (.cons (.there .here) (.cons (.there .here) .nil))).mono (fun w h => h.2.1 _ (by rw [getD_get hkl]; exact List.getElem_mem hkl))) hp)) ?_
    rintro i29 hc29
    refine Wl.nil (PX.then_n (CT.exit (PX.then_x (PX.block_x (PX.then_n (CT.region ?_))))))
    refine Wl.q rfl rfl (OpQ.add rfl rfl (by omega)) ?_
    refine Wl.q rfl rfl (OpQ.move rfl) ?_
    refine Wl.nil ?_
    have htx : l ++ ktx sep c ks (k + 1) = ((l ++ ktx sep c ks k) ++ (if k = 0 then [] else sep)) ++ fmtE (toE (ks.getD k ev0)) := by rw [ktx_s hkl, decide_eq_true (show c ≤ lev (ks.getD k ev0).op by omega), par_t]; simp only [List.append_assoc]
    exact PX.loop hK0 (k + 1, i29.1, i29.2.1, i29.2.2) ⟨by omega, hc29⟩ (show ks.length - (k + 1) < ks.length - k by omega) ⟨rfl, rfl, rfl, rfl, rfl, rfl, trivial⟩ (by dsimp only; rw [htx]; exact .keep rfl (.keep rfl (.drop (HSub.refl _))))
   ·
    have h26 := of_decide_eq_false h26
    refine CT.skip (PX.then_n (CT.seq (CT.region ?_)))
    refine Wl.q rfl rfl (OpQ.move rfl) ?_
    refine Wl.g rfl rfl (OpG.callX K13_go70 rfl (.cons (.there .here) (.cons (.there .here) .nil)) (fun _ => (.cons (.cons .nil))) (fun w hH hp => wbyte_spec w b q3 a3 c3 ((l ++ ktx sep c ks k) ++ (if k = 0 then [] else sep)) hc3 hp 40 (by omega))) ?_
    rintro i31 hc31
    refine Wl.nil (PX.then_n (CT.seq (CT.region ?_)))
    refine Wl.q rfl rfl (OpQ.move rfl) ?_
    refine Wl.q rfl rfl (OpQ.loadV (b := b9) K13_ag24 K13_sz24 rfl (by repeat (first | exact Has.here | apply Has.there)) (by rfl)) ?_
    refine Wl.know 33 (v' := evv (ks.getD k ev0)) rfl rfl ?_
    refine Wl.g rfl rfl (OpG.callX K13_go42 rfl (.cons .here (.cons .here .nil)) (fun _ => (.cons (.cons .nil))) (fun w hH hp => hW _ (by rw [getD_get hkl]; exact List.getElem_mem hkl) w true i31.1 i31.2 (((l ++ ktx sep c ks k) ++ (if k = 0 then [] else sep)) ++ [40]) hc31 (by rw [List.length_append]; show _ + 1 + _ ≤ _; omega) (hwk _ (by rw [getD_get hkl]; exact List.getElem_mem hkl)) ((hH.stays hk (.cons .here (.cons .here .nil))).mono (fun w h => h.2.1 _ (by rw [getD_get hkl]; exact List.getElem_mem hkl))) hp)) ?_
    rintro i34 hc34
    refine Wl.nil (PX.then_n (CT.region ?_))
    refine Wl.q rfl rfl (OpQ.move rfl) ?_
    refine Wl.g rfl rfl (OpG.callX K13_go70 rfl (.cons .here (.cons .here .nil)) (fun _ => (.cons (.cons .nil))) (fun w hH hp => wbyte_spec w b i34.1 i34.2.1 i34.2.2 ((((l ++ ktx sep c ks k) ++ (if k = 0 then [] else sep)) ++ [40]) ++ fmtE (toE (ks.getD k ev0))) hc34 hp 41 (by have hfl := fmt_len (toE (ks.getD k ev0)); rw [List.length_append, List.length_append]; show _ + 1 + _ + 1 ≤ _; omega))) ?_
    rintro i36 hc36
    refine Wl.nil (PX.block_n (PX.then_n (CT.region ?_)))
    refine Wl.q rfl rfl (OpQ.add rfl rfl (by omega)) ?_
    refine Wl.q rfl rfl (OpQ.move rfl) ?_
    refine Wl.nil ?_
    have htx : l ++ ktx sep c ks (k + 1) = (((((l ++ ktx sep c ks k) ++ (if k = 0 then [] else sep)) ++ [40]) ++ fmtE (toE (ks.getD k ev0))) ++ [41]) := by rw [ktx_s hkl, decide_eq_false (show ¬ c ≤ lev (ks.getD k ev0).op by omega), par_f]; simp [List.append_assoc]
    exact PX.loop hK0 (k + 1, true, i36.1, i36.2) ⟨by omega, hc36⟩ (show ks.length - (k + 1) < ks.length - k by omega) ⟨rfl, rfl, rfl, rfl, rfl, rfl, trivial⟩ (by dsimp only; rw [htx]; exact .keep rfl (.keep rfl (.drop (HSub.refl _))))
 ·
  have h13 := of_decide_eq_false h13
  refine CT.exit (PX.then_x (PX.then_x (PX.block_x ?_)))
  refine PX.end0 rfl (fun w' hH => ?_)
  obtain rfl : k = ks.length := by omega
  rw [ktx_full] at hH
  exact ⟨(q', a', c'), hc', rfl, hH.post⟩

theorem K13_fa24_1 : fieldB Tryz.prog 24 1 = some 1 := by kernel_rfl
theorem K13_un3 : Tryz.prog.underlying 3 = some (.int .i64) := by kernel_rfl
theorem K13_un5 : Tryz.prog.underlying 5 = some (.int .u8) := by kernel_rfl
theorem K13_fa24_2 : fieldB Tryz.prog 24 2 = some 2 := by kernel_rfl
theorem K13_sc22 : scalarB Tryz.prog 22 = some true := by kernel_rfl
theorem K13_go71 : isGo Tryz.prog 71 = true := by kernel_rfl
set_option maxRecDepth 100000 in
/-- semigroup/expr.write -/
theorem writeI (w : World) (b : Nat) (v : Xv) (ih : ∀ k ∈ v.ks, ∀ w : World, ∀ (q : Bool) (a : Option Addr) (cp : Nat) (l : Tx), (a.isSome = true → cp ≠ 0) → l.length + 4 * szE (toE k) ≤ 1000000000 → wf 6 (toE k) = true → Stays (blks [.row 79 2 (vb b) 1 [.pointer (if q then some ⟨b, 0, none⟩ else none), .slice a (l).length cp], .row 5 1 (.slice a (l).length cp) (l).length ((l).map bv)]) w (evm k) → Pre [.row 79 2 (vb b) 1 [.pointer (if q then some ⟨b, 0, none⟩ else none), .slice a (l).length cp], .row 5 1 (.slice a (l).length cp) (l).length ((l).map bv)] w → Calls Tryz.prog 42 #[.pointer (some ⟨b, 0, none⟩), evv k] w (fun e w' => ∃ i : Bool × Option Addr × Nat, (i.2.1.isSome = true → i.2.2 ≠ 0) ∧ e = .returned (.tuple #[]) ∧ Post (blks [.row 79 2 (vb b) 1 [.pointer (if q then some ⟨b, 0, none⟩ else none), .slice a (l).length cp], .row 5 1 (.slice a (l).length cp) (l).length ((l).map bv)]) [.row 79 2 (vb b) 1 [.pointer (if i.1 then some ⟨b, 0, none⟩ else none), .slice i.2.1 (l ++ fmtE (toE k)).length i.2.2], .row 5 1 (.slice i.2.1 (l ++ fmtE (toE k)).length i.2.2) (l ++ fmtE (toE k)).length ((l ++ fmtE (toE k)).map bv)] w w')) (q : Bool) (a : Option Addr) (cp : Nat) (l : Tx) (hc : a.isSome = true → cp ≠ 0) (hl : l.length + 4 * szE (toE v) ≤ 1000000000) (hw : wf 6 (toE v) = true) (hv : Stays (blks [.row 79 2 (vb b) 1 [.pointer (if q then some ⟨b, 0, none⟩ else none), .slice a (l).length cp], .row 5 1 (.slice a (l).length cp) (l).length ((l).map bv)]) w (evm v)) (hpre : Pre [.row 79 2 (vb b) 1 [.pointer (if q then some ⟨b, 0, none⟩ else none), .slice a (l).length cp], .row 5 1 (.slice a (l).length cp) (l).length ((l).map bv)] w) : Calls Tryz.prog 42 #[.pointer (some ⟨b, 0, none⟩), evv v] w (fun e w' => ∃ i : Bool × Option Addr × Nat, (i.2.1.isSome = true → i.2.2 ≠ 0) ∧ e = .returned (.tuple #[]) ∧ Post (blks [.row 79 2 (vb b) 1 [.pointer (if q then some ⟨b, 0, none⟩ else none), .slice a (l).length cp], .row 5 1 (.slice a (l).length cp) (l).length ((l).map bv)]) [.row 79 2 (vb b) 1 [.pointer (if i.1 then some ⟨b, 0, none⟩ else none), .slice i.2.1 (l ++ fmtE (toE v)).length i.2.2], .row 5 1 (.slice i.2.1 (l ++ fmtE (toE v)).length i.2.2) (l ++ fmtE (toE v)).length ((l ++ fmtE (toE v)).map bv)] w w') := by
 have hks := kids_sz v
 have hfl := fmt_len (toE v)
 refine enterX (args := [.pointer (some ⟨b, 0, none⟩), evv v]) hpre 56 Tryz.func42 rfl rfl rfl ?_
 refine CT.seq (CT.region ?_)
 refine Wl.g rfl rfl (OpG.box (size := 3) rfl rfl rfl) ?_
 rintro b3 _
 refine Wl.nil (PX.then_n (CT.seq (CT.region ?_)))
 refine Wl.q rfl rfl (OpQ.fieldAddr K13_fa24_0 rfl) ?_
 refine Wl.q rfl rfl (OpQ.loadF (b := b3) K13_sc3 rfl (by repeat (first | exact Has.here | apply Has.there)) (by rfl)) ?_
 refine Wl.nil (PX.then_n (CT.block (CT.seq (CT.region ?_))))
 refine Wl.q rfl rfl (OpQ.eql rfl rfl) ?_
 refine Wl.q rfl rfl (OpQ.assign rfl) ?_
 refine Wl.nil (PX.then_n ?_)
 refine CT.cond rfl (fun h6 => ?_) (fun h6 => ?_)
 ·
  have h6 := of_decide_eq_true h6
  refine CT.region ?_
  refine Wl.q rfl rfl (OpQ.move rfl) ?_
  refine Wl.g rfl rfl (OpG.callX K13_go70 rfl (.cons (.there .here) (.cons (.there .here) .nil)) (fun _ => (.cons (.cons .nil))) (fun w hH hp => wbyte_spec w b q a cp (l) hc hp 48 (by first | omega | (rw [List.length_append]; show _ + 1 + 1 ≤ _; omega) | (rw [List.length_append]; omega)))) ?_
  rintro i9 hc9
  refine Wl.nil (PX.block_n ?_)
  refine PX.end0 rfl (fun w' hH => ?_)
  rw [fmt_1 h6]
  exact ⟨(true, i9.1, i9.2), hc9, rfl, HOk.post (hH.take (.cons .here (.cons .here .nil)))⟩
 ·
  have h6 := of_decide_eq_false h6
  refine CT.seq (CT.region ?_)
  refine Wl.q rfl rfl (OpQ.eql rfl rfl) ?_
  refine Wl.q rfl rfl (OpQ.assign rfl) ?_
  refine Wl.nil (PX.then_n ?_)
  refine CT.cond rfl (fun h10 => ?_) (fun h10 => ?_)
  ·
   have h10 := of_decide_eq_true h10
   refine CT.region ?_
   refine Wl.q rfl rfl (OpQ.move rfl) ?_
   refine Wl.g rfl rfl (OpG.callX K13_go70 rfl (.cons (.there .here) (.cons (.there .here) .nil)) (fun _ => (.cons (.cons .nil))) (fun w hH hp => wbyte_spec w b q a cp (l) hc hp 49 (by first | omega | (rw [List.length_append]; show _ + 1 + 1 ≤ _; omega) | (rw [List.length_append]; omega)))) ?_
   rintro i13 hc13
   refine Wl.nil (PX.block_n ?_)
   refine PX.end0 rfl (fun w' hH => ?_)
   rw [fmt_2 h10]
   exact ⟨(true, i13.1, i13.2), hc13, rfl, HOk.post (hH.take (.cons .here (.cons .here .nil)))⟩
  ·
   have h10 := of_decide_eq_false h10
   refine CT.seq (CT.region ?_)
   refine Wl.q rfl rfl (OpQ.eql rfl rfl) ?_
   refine Wl.q rfl rfl (OpQ.assign rfl) ?_
   refine Wl.nil (PX.then_n ?_)
   refine CT.cond rfl (fun h14 => ?_) (fun h14 => ?_)
   ·
    have h14 := of_decide_eq_true h14
    obtain ⟨hlt0, hlt6⟩ := wf_letter hw h14
    have hu8 : (UInt8.ofNat (97 + v.lt.toNat)).toNat = 97 + v.lt.toNat := u8l (L := 6) ⟨hlt0, hlt6⟩ (by decide)
    refine CT.region ?_
    refine Wl.q rfl rfl (OpQ.move rfl) ?_
    refine Wl.q rfl rfl (OpQ.fieldAddr K13_fa24_1 rfl) ?_
    refine Wl.q rfl rfl (OpQ.loadF (b := b3) K13_sc3 rfl (by repeat (first | exact Has.here | apply Has.there)) (by rfl)) ?_
    refine Wl.q rfl rfl (OpQ.conv rfl (conv_i64_u8 K13_un3 K13_un5 _ (by omega))) ?_
    refine Wl.q rfl rfl (OpQ.add8 rfl rfl (by omega)) ?_
    refine Wl.know 20 (v' := bv (UInt8.ofNat (97 + v.lt.toNat))) rfl (congrArg (Value.int .u8) (by omega)) ?_
    refine Wl.g rfl rfl (OpG.callX K13_go70 rfl (.cons (.there .here) (.cons (.there .here) .nil)) (fun _ => (.cons (.cons .nil))) (fun w hH hp => wbyte_spec w b q a cp (l) hc hp (UInt8.ofNat (97 + v.lt.toNat)) (by first | omega | (rw [List.length_append]; show _ + 1 + 1 ≤ _; omega) | (rw [List.length_append]; omega)))) ?_
    rintro i21 hc21
    refine Wl.nil (PX.block_n ?_)
    refine PX.end0 rfl (fun w' hH => ?_)
    rw [fmt_3 h14]
    exact ⟨(true, i21.1, i21.2), hc21, rfl, HOk.post (hH.take (.cons .here (.cons .here .nil)))⟩
   ·
    have h14 := of_decide_eq_false h14
    refine CT.seq (CT.region ?_)
    refine Wl.q rfl rfl (OpQ.eql rfl rfl) ?_
    refine Wl.q rfl rfl (OpQ.assign rfl) ?_
    refine Wl.nil (PX.then_n ?_)
    refine CT.cond rfl (fun h22 => ?_) (fun h22 => ?_)
    ·
     have h22 := of_decide_eq_true h22
     refine CT.region ?_
     refine Wl.q rfl rfl (OpQ.move rfl) ?_
     refine Wl.q rfl rfl (OpQ.fieldAddr K13_fa24_2 rfl) ?_
     refine Wl.q rfl rfl (OpQ.loadF (b := b3) K13_sc22 rfl (by repeat (first | exact Has.here | apply Has.there)) (by rfl)) ?_
     refine Wl.g rfl rfl (OpG.callX K13_go71 rfl (.cons (.there .here) (.cons (.there .here) .nil)) (fun _ => (.cons (.cons .nil))) (fun w hH hp => wkids_spec w b q a cp (l) [124] 2 v.ks v.a v.c ih (by decide) hc (by first | omega | (rw [List.length_append]; show _ + 1 + _ + _ ≤ _; omega)) (wf_kid hw) ((hH.stays hv (.cons (.there .here) (.cons (.there .here) .nil))).mono (fun _ h => kin_of h)) hp)) ?_
     rintro i27 hc27
     refine Wl.nil (PX.block_n ?_)
     refine PX.end0 rfl (fun w' hH => ?_)
     rw [fmt_4 h22]
     exact ⟨(i27.1, i27.2.1, i27.2.2), hc27, rfl, HOk.post (hH.take (.cons .here (.cons .here .nil)))⟩
    ·
     have h22 := of_decide_eq_false h22
     refine CT.seq (CT.region ?_)
     refine Wl.q rfl rfl (OpQ.eql rfl rfl) ?_
     refine Wl.q rfl rfl (OpQ.assign rfl) ?_
     refine Wl.nil (PX.then_n ?_)
     refine CT.cond rfl (fun h28 => ?_) (fun h28 => ?_)
     ·
      have h28 := of_decide_eq_true h28
      refine CT.region ?_
      refine Wl.q rfl rfl (OpQ.move rfl) ?_
      refine Wl.q rfl rfl (OpQ.fieldAddr K13_fa24_2 rfl) ?_
      refine Wl.q rfl rfl (OpQ.loadF (b := b3) K13_sc22 rfl (by repeat (first | exact Has.here | apply Has.there)) (by rfl)) ?_
      refine Wl.g rfl rfl (OpG.callX K13_go71 rfl (.cons (.there .here) (.cons (.there .here) .nil)) (fun _ => (.cons (.cons .nil))) (fun w hH hp => wkids_spec w b q a cp (l) [38] 3 v.ks v.a v.c ih (by decide) hc (by first | omega | (rw [List.length_append]; show _ + 1 + _ + _ ≤ _; omega)) (wf_kid hw) ((hH.stays hv (.cons (.there .here) (.cons (.there .here) .nil))).mono (fun _ h => kin_of h)) hp)) ?_
      rintro i33 hc33
      refine Wl.nil (PX.block_n ?_)
      refine PX.end0 rfl (fun w' hH => ?_)
      rw [fmt_6 h28]
      exact ⟨(i33.1, i33.2.1, i33.2.2), hc33, rfl, HOk.post (hH.take (.cons .here (.cons .here .nil)))⟩
     ·
      have h28 := of_decide_eq_false h28
      refine CT.seq (CT.region ?_)
      refine Wl.q rfl rfl (OpQ.eql rfl rfl) ?_
      refine Wl.q rfl rfl (OpQ.assign rfl) ?_
      refine Wl.nil (PX.then_n ?_)
      refine CT.cond rfl (fun h34 => ?_) (fun h34 => ?_)
      ·
       have h34 := of_decide_eq_true h34
       refine CT.region ?_
       refine Wl.q rfl rfl (OpQ.move rfl) ?_
       refine Wl.q rfl rfl (OpQ.fieldAddr K13_fa24_2 rfl) ?_
       refine Wl.q rfl rfl (OpQ.loadF (b := b3) K13_sc22 rfl (by repeat (first | exact Has.here | apply Has.there)) (by rfl)) ?_
       refine Wl.g rfl rfl (OpG.callX K13_go71 rfl (.cons (.there .here) (.cons (.there .here) .nil)) (fun _ => (.cons (.cons .nil))) (fun w hH hp => wkids_spec w b q a cp (l) [] 4 v.ks v.a v.c ih (by decide) hc (by first | omega | (rw [List.length_append]; show _ + 1 + _ + _ ≤ _; omega)) (wf_kid hw) ((hH.stays hv (.cons (.there .here) (.cons (.there .here) .nil))).mono (fun _ h => kin_of h)) hp)) ?_
       rintro i39 hc39
       refine Wl.nil (PX.block_n ?_)
       refine PX.end0 rfl (fun w' hH => ?_)
       rw [fmt_5 h34]
       exact ⟨(i39.1, i39.2.1, i39.2.2), hc39, rfl, HOk.post (hH.take (.cons .here (.cons .here .nil)))⟩
      ·
       have h34 := of_decide_eq_false h34
       refine CT.seq (CT.region ?_)
       refine Wl.q rfl rfl (OpQ.eql rfl rfl) ?_
       refine Wl.q rfl rfl (OpQ.assign rfl) ?_
       refine Wl.nil (PX.then_n ?_)
       refine CT.cond rfl (fun h40 => ?_) (fun h40 => ?_)
       ·
        have h40 := of_decide_eq_true h40
        refine CT.seq (CT.region ?_)
        refine Wl.q rfl rfl (OpQ.move rfl) ?_
        refine Wl.g rfl rfl (OpG.callX K13_go70 rfl (.cons (.there .here) (.cons (.there .here) .nil)) (fun _ => (.cons (.cons .nil))) (fun w hH hp => wbyte_spec w b q a cp (l) hc hp 33 (by first | omega | (rw [List.length_append]; show _ + 1 + 1 ≤ _; omega) | (rw [List.length_append]; omega)))) ?_
        rintro i43 hc43
        refine Wl.nil (PX.then_n (CT.region ?_))
        refine Wl.q rfl rfl (OpQ.move rfl) ?_
        refine Wl.q rfl rfl (OpQ.fieldAddr K13_fa24_2 rfl) ?_
        refine Wl.q rfl rfl (OpQ.loadF (b := b3) K13_sc22 rfl (by repeat (first | exact Has.here | apply Has.there)) (by rfl)) ?_
        refine Wl.g rfl rfl (OpG.callX K13_go71 rfl (.cons .here (.cons .here .nil)) (fun _ => (.cons (.cons .nil))) (fun w hH hp => wkids_spec w b true i43.1 i43.2 (l ++ [33]) [] 4 v.ks v.a v.c ih (by decide) hc43 (by first | omega | (rw [List.length_append]; show _ + 1 + _ + _ ≤ _; omega)) (wf_kid hw) ((hH.stays hv (.cons .here (.cons .here .nil))).mono (fun _ h => kin_of h)) hp)) ?_
        rintro i47 hc47
        refine Wl.nil (PX.block_n ?_)
        refine PX.end0 rfl (fun w' hH => ?_)
        rw [fmt_8 h40, ← List.append_assoc]
        exact ⟨(i47.1, i47.2.1, i47.2.2), hc47, rfl, HOk.post (hH.take (.cons .here (.cons .here .nil)))⟩
       ·
        have h40 := of_decide_eq_false h40
        refine CT.seq (CT.region ?_)
        refine Wl.q rfl rfl (OpQ.eql rfl rfl) ?_
        refine Wl.q rfl rfl (OpQ.assign rfl) ?_
        refine Wl.nil (PX.then_n ?_)
        refine CT.cond rfl (fun h48 => ?_) (fun h48 => ?_)
        ·
         have h48 := of_decide_eq_true h48
         refine CT.seq (CT.region ?_)
         refine Wl.q rfl rfl (OpQ.move rfl) ?_
         refine Wl.q rfl rfl (OpQ.fieldAddr K13_fa24_2 rfl) ?_
         refine Wl.q rfl rfl (OpQ.loadF (b := b3) K13_sc22 rfl (by repeat (first | exact Has.here | apply Has.there)) (by rfl)) ?_
         refine Wl.g rfl rfl (OpG.callX K13_go71 rfl (.cons (.there .here) (.cons (.there .here) .nil)) (fun _ => (.cons (.cons .nil))) (fun w hH hp => wkids_spec w b q a cp (l) [] 5 v.ks v.a v.c ih (by decide) hc (by first | omega | (rw [List.length_append]; show _ + 1 + _ + _ ≤ _; omega)) (wf_kid hw) ((hH.stays hv (.cons (.there .here) (.cons (.there .here) .nil))).mono (fun _ h => kin_of h)) hp)) ?_
         rintro i53 hc53
         refine Wl.nil (PX.then_n (CT.region ?_))
         refine Wl.q rfl rfl (OpQ.move rfl) ?_
         refine Wl.g rfl rfl (OpG.callX K13_go70 rfl (.cons .here (.cons .here .nil)) (fun _ => (.cons (.cons .nil))) (fun w hH hp => wbyte_spec w b i53.1 i53.2.1 i53.2.2 (l ++ fmtE.fmtK [] 5 (v.ks.map toE)) hc53 hp 42 (by have h7 := fmt_7 h48; rw [h7, List.length_append] at hfl; rw [List.length_append]; omega))) ?_
         rintro i55 hc55
         refine Wl.nil (PX.block_n ?_)
         refine PX.end0 rfl (fun w' hH => ?_)
         rw [fmt_7 h48, ← List.append_assoc]
         exact ⟨(true, i55.1, i55.2), hc55, rfl, HOk.post (hH.take (.cons .here (.cons .here .nil)))⟩
        ·
         have h48 := of_decide_eq_false h48
         refine CT.skip (PX.block_n ?_)
         refine PX.end0 rfl (fun w' hH => ?_)
         rw [fmt_0 h6 h10 h14 h22 h28 h34 h40 h48, List.append_nil]
         exact ⟨(q, a, cp), hc, rfl, HOk.post (hH.take (.cons (.there .here) (.cons (.there .here) .nil)))⟩
theorem write_spec (b : Nat) (v : Xv) : ∀ w : World, ∀ (q : Bool) (a : Option Addr) (cp : Nat) (l : Tx), (a.isSome = true → cp ≠ 0) → l.length + 4 * szE (toE v) ≤ 1000000000 → wf 6 (toE v) = true → Stays (blks [.row 79 2 (vb b) 1 [.pointer (if q then some ⟨b, 0, none⟩ else none), .slice a (l).length cp], .row 5 1 (.slice a (l).length cp) (l).length ((l).map bv)]) w (evm v) → Pre [.row 79 2 (vb b) 1 [.pointer (if q then some ⟨b, 0, none⟩ else none), .slice a (l).length cp], .row 5 1 (.slice a (l).length cp) (l).length ((l).map bv)] w → Calls Tryz.prog 42 #[.pointer (some ⟨b, 0, none⟩), evv v] w (fun e w' => ∃ i : Bool × Option Addr × Nat, (i.2.1.isSome = true → i.2.2 ≠ 0) ∧ e = .returned (.tuple #[]) ∧ Post (blks [.row 79 2 (vb b) 1 [.pointer (if q then some ⟨b, 0, none⟩ else none), .slice a (l).length cp], .row 5 1 (.slice a (l).length cp) (l).length ((l).map bv)]) [.row 79 2 (vb b) 1 [.pointer (if i.1 then some ⟨b, 0, none⟩ else none), .slice i.2.1 (l ++ fmtE (toE v)).length i.2.2], .row 5 1 (.slice i.2.1 (l ++ fmtE (toE v)).length i.2.2) (l ++ fmtE (toE v)).length ((l ++ fmtE (toE v)).map bv)] w w') := Xv.ind (p := fun v => ∀ w : World, ∀ (q : Bool) (a : Option Addr) (cp : Nat) (l : Tx), (a.isSome = true → cp ≠ 0) → l.length + 4 * szE (toE v) ≤ 1000000000 → wf 6 (toE v) = true → Stays (blks [.row 79 2 (vb b) 1 [.pointer (if q then some ⟨b, 0, none⟩ else none), .slice a (l).length cp], .row 5 1 (.slice a (l).length cp) (l).length ((l).map bv)]) w (evm v) → Pre [.row 79 2 (vb b) 1 [.pointer (if q then some ⟨b, 0, none⟩ else none), .slice a (l).length cp], .row 5 1 (.slice a (l).length cp) (l).length ((l).map bv)] w → Calls Tryz.prog 42 #[.pointer (some ⟨b, 0, none⟩), evv v] w (fun e w' => ∃ i : Bool × Option Addr × Nat, (i.2.1.isSome = true → i.2.2 ≠ 0) ∧ e = .returned (.tuple #[]) ∧ Post (blks [.row 79 2 (vb b) 1 [.pointer (if q then some ⟨b, 0, none⟩ else none), .slice a (l).length cp], .row 5 1 (.slice a (l).length cp) (l).length ((l).map bv)]) [.row 79 2 (vb b) 1 [.pointer (if i.1 then some ⟨b, 0, none⟩ else none), .slice i.2.1 (l ++ fmtE (toE v)).length i.2.2], .row 5 1 (.slice i.2.1 (l ++ fmtE (toE v)).length i.2.2) (l ++ fmtE (toE v)).length ((l ++ fmtE (toE v)).map bv)] w w')) (fun v ih w q a cp l hc hl hw hv hpre => writeI w b v ih q a cp l hc hl hw hv hpre) v

theorem K13_go38 : isGo Tryz.prog 38 = true := by kernel_rfl
theorem K13_in79 : (Tryz.prog.info? 79).map (fun i => (i.zero, i.size, i.bytes)) = some (some (.agg #[.pointer none, .slice none 0 0]), 2, 32) := by kernel_rfl
theorem K13_go43 : isGo Tryz.prog 43 = true := by kernel_rfl
set_option maxRecDepth 100000 in
/-- semigroup/expr.Format -/
theorem format_spec (w : World) (v : Xv) (hv : Stays [] w (evm v)) : Calls Tryz.prog 23 #[evv v] w (fun e w' => e = .returned (sv (if vdE 6 (toE v) = 0 then fmtE (toE v) else [])) ∧ Ext [] w w') := by
 refine enter (args := [evv v]) [] 10 Tryz.func23 rfl rfl rfl ?_
 refine CT.seq (CT.region ?_)
 refine Wl.g rfl rfl (OpG.box (size := 3) rfl rfl rfl) ?_
 rintro b1 _
 refine Wl.q rfl rfl (OpQ.assign rfl) ?_
 refine Wl.nil (PX.then_n (CT.seq (CT.seq (CT.region ?_))))
 refine Wl.q rfl rfl (OpQ.loadV (b := b1) K13_ag24 K13_sz24 rfl (by repeat (first | exact Has.here | apply Has.there)) (by rfl)) ?_
 refine Wl.know 4 (v' := evv v) rfl rfl ?_
 refine Wl.g rfl rfl (OpG.callV K13_go38 rfl (fun w hH => exok_spec w v (hH.stays0 hv))) ?_
 rintro _ _
 refine Wl.q rfl rfl (OpQ.not rfl) ?_
 refine Wl.nil (PX.then_n ?_)
 refine CT.cond rfl (fun h6 => ?_) (fun h6 => ?_)
 ·
  have h6 : ¬ vdE 6 (toE v) = 0 := by simpa using h6
  refine CT.seq (CT.region ?_)
  refine Wl.q rfl rfl (OpQ.assign rfl) ?_
  refine Wl.nil (PX.then_n (CT.ret (PX.then_r ?_)))
  refine PX.ret1 rfl rfl (fun w' hH => ?_)
  exact ⟨by rw [if_neg h6], hH.ext⟩
 ·
  have h6 : vdE 6 (toE v) = 0 := by simpa using h6
  obtain ⟨_, hlim, hw⟩ := vdE_zero.1 h6
  have hlim := (inLim_iff.1 hlim).1
  have hfl := fmt_len (toE v)
  refine CT.skip (PX.then_n (CT.seq (CT.region ?_)))
  refine Wl.g rfl rfl (OpG.alloc (zs := [.pointer none, .slice none 0 0]) K13_in79 rfl rfl) ?_
  rintro b3 _
  refine Wl.as (fun _ h => (h.nilrow 5 1).perm (.swap _ _ _)) ?_
  refine Wl.nil (PX.then_n (CT.seq (CT.region ?_)))
  refine Wl.q rfl rfl (OpQ.loadV (b := b1) K13_ag24 K13_sz24 rfl (by repeat (first | exact Has.here | apply Has.there)) (by rfl)) ?_
  refine Wl.know 7 (v' := evv v) rfl rfl ?_
  refine Wl.g rfl rfl (OpG.callX K13_go42 rfl (.cons .here (.cons .here .nil)) (fun _ => (.cons (.cons .nil))) (fun w hH hp => write_spec b3 v w false none 0 [] (fun h => (by cases h)) (by show 0 + _ ≤ _; omega) hw (hH.stays hv (.cons .here (.cons .here .nil))) hp)) ?_
  rintro i8 hc8
  refine Wl.nil (PX.then_n (CT.seq (CT.region ?_)))
  refine Wl.g rfl rfl (OpG.callX K13_go43 rfl (.cons .here (.cons .here .nil)) (fun _ => .nil) (fun w hH hp => bstr_spec w b3 i8.1 i8.2.1 i8.2.2 ([] ++ fmtE (toE v)) hc8 hp (by rw [List.nil_append]; omega))) ?_
  rintro _ _
  refine Wl.q rfl rfl (OpQ.assign rfl) ?_
  refine Wl.nil (PX.then_n (CT.ret ?_))
  refine PX.ret1 rfl rfl (fun w' hH => ?_)
  exact ⟨by rw [if_pos h6, List.nil_append], hH.ext⟩

end Go.Proofs.YtmggcdegekbncabGreatDoor

