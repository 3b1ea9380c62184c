/-
  What functions of the program compute, each by its walk. Conditions: those that each theorem names.
-/
import Derived.Test.YtmggcdegekbncabGreatDoorEng1
import Derived.Test.YtmggcdegekbncabGreatDoorXGB21
import Derived.Test.YtmggcdegekbncabGreatDoorXF
set_option linter.unusedSimpArgs false
namespace Go.Proofs.YtmggcdegekbncabGreatDoor
open Go Go.Eng Go.Am Go.Ex
open Go.Tp (zi)
open Go.Tl (mayL Wd okW okB bo)
open Go.Ex.simp (simpL)
open Go.Ex.dv (dvL dvC)
open Go.Ex.hasU (hasAny hasAll)
open Go.Ex.wf (wfL)
open Go.Ex.szE (szL)
open Go.Ex.dpE (dpL)
open Go.Ex.cmpE (cmpL)
open Go.Ex.fmtE (fmtK fmtR)
theorem K25_un97 : Tryz.prog.underlying 97 = some (.array 2 3) := by kernel_rfl
theorem K25_un3 : Tryz.prog.underlying 3 = some (.int .i64) := by kernel_rfl
theorem K25_sz3 : sizeB Tryz.prog 3 = some 1 := by kernel_rfl
theorem K25_mkP : MapKey Tryz.prog 97 kp2 := MapKey.kp2 K25_un97 K25_un3 K25_sz3
theorem K25_un94 : Tryz.prog.underlying 94 = some (.slice 97) := by kernel_rfl
theorem K25_in97 : (Tryz.prog.info? 97).map (fun i => (i.zero, i.size, i.bytes)) = some (some (.agg #[.int .i64 0, .int .i64 0]), 2, 16) := by kernel_rfl
theorem K25_un123 : Tryz.prog.underlying 123 = some (.map 97 3) := by kernel_rfl
theorem K25_in3 : (Tryz.prog.info? 3).map (fun i => (i.zero, i.size, i.bytes)) = some (some (.int .i64 0), 1, 8) := by kernel_rfl
theorem K25_mixed : Tryz.prog.follows .mixedOrders = true := by kernel_rfl
theorem K25_fa125_1 : fieldB Tryz.prog 125 1 = some 1 := by kernel_rfl
theorem K25_sc123 : scalarB Tryz.prog 123 = some true := by kernel_rfl
theorem K25_ag97 : isAggB Tryz.prog 97 = some true := by kernel_rfl
theorem K25_sz97 : sizeB Tryz.prog 97 = some 2 := by kernel_rfl
theorem K25_sz123 : sizeB Tryz.prog 123 = some 1 := by kernel_rfl
theorem K25_fa125_0 : fieldB Tryz.prog 125 0 = some 0 := by kernel_rfl
theorem K25_sc94 : scalarB Tryz.prog 94 = some true := by kernel_rfl
theorem K25_sz94 : sizeB Tryz.prog 94 = some 1 := by kernel_rfl
set_option maxRecDepth 100000 in
/-- (*semigroup/dfa.numbering[[2]int]).of -/
theorem nofP0_spec (w : World) (b : Nat) (hpre : Pre [.row 125 2 (vb b) 1 [.slice none 0 0, .map none]] w) (x : Nat × Nat) : Calls Tryz.prog 78 #[.pointer (some ⟨b, 0, none⟩), kp2 x] w (fun e w' => ∃ i : Nat × Option Addr × Nat, True ∧ e = .returned (.int .i64 ((0 : Nat) : Int)) ∧ Post (blks [.row 125 2 (vb b) 1 [.slice none 0 0, .map none]]) [.row 125 2 (vb b) 1 [.slice i.2.1 ([x]).length i.2.2, .map (some i.1)], .row 97 2 (.slice i.2.1 ([x]).length i.2.2) ([x]).length (([x]).flatMap stv), .blk i.1 (mapO kp2 (itA 0 ([x])))] w w') := by
 refine enterX (args := [.pointer (some ⟨b, 0, none⟩), kp2 x]) hpre 49 Tryz.func78 rfl rfl rfl ?_
 refine CT.nilrow 97 2 ?_
 refine CT.seq (CT.region ?_)
 refine Wl.g rfl rfl (OpG.box (size := 2) rfl rfl rfl) ?_
 rintro b3 _
 refine Wl.q rfl rfl (OpQ.assign rfl) ?_
 refine Wl.nil (PX.then_n (CT.seq ?_))
 refine CT.draw 11 K25_mixed ?_
 refine RA.q 0 (by kernel_rfl) rfl rfl rfl (.refl _) (OpQ.move rfl) ?_
 refine RA.q 1 (by kernel_rfl) rfl rfl rfl (.refl _) (OpQ.nilCheckP rfl) ?_
 refine RA.q 2 (by kernel_rfl) rfl rfl rfl (.refl _) (OpQ.fieldAddr K25_fa125_1 rfl) ?_
 refine RA.q 3 (by kernel_rfl) rfl rfl rfl (.refl _) (OpQ.loadF (b := b) K25_sc123 rfl (by repeat (first | exact Has.here | apply Has.there)) (by rfl)) ?_
 refine RA.q 4 (by kernel_rfl) rfl rfl rfl (.refl _) (OpQ.loadV (b := b3) K25_ag97 K25_sz97 rfl (by repeat (first | exact Has.here | apply Has.there)) (by rfl)) ?_
 refine RA.know 12 (v' := kp2 x) rfl rfl ?_
 refine RA.q 5 (by kernel_rfl) rfl rfl rfl (.refl _) (OpQ.lookupNil (f := kp2) (x := x) K25_mkP K25_un123 K25_in3 rfl rfl rfl) ?_
 refine RA.q 6 (by kernel_rfl) rfl rfl rfl (.refl _) (OpQ.move rfl) ?_
 refine RA.q 7 (by kernel_rfl) rfl rfl rfl (.refl _) (OpQ.extract rfl rfl) ?_
 refine RA.q 8 (by kernel_rfl) rfl rfl rfl (.refl _) (OpQ.extract rfl rfl) ?_
 refine RA.q 9 (by kernel_rfl) rfl rfl rfl (.refl _) (OpQ.assign rfl) ?_
 refine RA.q 10 (by kernel_rfl) rfl rfl rfl (.refl _) (OpQ.assign rfl) ?_
 refine RA.tail ?_
 refine RT.done (by kernel_rfl) ?_
 refine PX.then_n (CT.seq (CT.seq (CT.region ?_)))
 refine Wl.q rfl rfl (OpQ.move rfl) ?_
 refine Wl.q rfl rfl (OpQ.not rfl) ?_
 refine Wl.know 17 (v' := .bool true) rfl (congrArg Value.bool rfl) ?_
 refine Wl.nil (PX.then_n ?_)
 refine CT.condT rfl ?_
 refine CT.seq (CT.seq (CT.region ?_))
 refine Wl.q rfl rfl (OpQ.move rfl) ?_
 refine Wl.q rfl rfl (OpQ.nilCheckP rfl) ?_
 refine Wl.q rfl rfl (OpQ.fieldAddr K25_fa125_1 rfl) ?_
 refine Wl.q rfl rfl (OpQ.loadF (b := b) K25_sc123 rfl (by repeat (first | exact Has.here | apply Has.there)) (by rfl)) ?_
 refine Wl.q rfl rfl (OpQ.mapNil K25_un123 rfl rfl) ?_
 refine Wl.know 22 (v' := .bool true) rfl (congrArg Value.bool rfl) ?_
 refine Wl.nil (PX.then_n ?_)
 refine CT.condT rfl ?_
 refine CT.region ?_
 refine Wl.q rfl rfl (OpQ.move rfl) ?_
 refine Wl.g rfl rfl (OpG.makeMap (f := kp2)) ?_
 rintro b24 _
 refine Wl.q rfl rfl (OpQ.nilCheckP rfl) ?_
 refine Wl.q rfl rfl (OpQ.fieldAddr K25_fa125_1 rfl) ?_
 refine Wl.g rfl rfl (OpG.storeRow (a := some ⟨b, 0, none⟩) K25_sz123 rfl rfl rfl (by repeat (first | exact Upd.here | apply Upd.there)) (by simp)) ?_
 rintro _ _
 refine Wl.nil (PX.then_n (CT.seq (CT.region ?_)))
 refine Wl.q rfl rfl (OpQ.move rfl) ?_
 refine Wl.q rfl rfl (OpQ.nilCheckP rfl) ?_
 refine Wl.q rfl rfl (OpQ.fieldAddr K25_fa125_0 rfl) ?_
 refine Wl.q rfl rfl (OpQ.loadF (b := b) K25_sc94 rfl (by repeat (first | exact Has.here | apply Has.there)) (by rfl)) ?_
 refine Wl.q rfl rfl (OpQ.len K25_un94 rfl) ?_
 refine Wl.q rfl rfl (OpQ.assign rfl) ?_
 refine Wl.nil (PX.then_n (CT.seq ?_))
 refine CT.draw 6 K25_mixed ?_
 refine RA.q 0 (by kernel_rfl) rfl rfl rfl (.refl _) (OpQ.move rfl) ?_
 refine RA.q 1 (by kernel_rfl) rfl rfl rfl (.refl _) (OpQ.nilCheckP rfl) ?_
 refine RA.q 2 (by kernel_rfl) rfl rfl rfl (.refl _) (OpQ.fieldAddr K25_fa125_1 rfl) ?_
 refine RA.q 3 (by kernel_rfl) rfl rfl rfl (.refl _) (OpQ.loadF (b := b) K25_sc123 rfl (by repeat (first | exact Has.here | apply Has.there)) (by rfl)) ?_
 refine RA.q 4 (by kernel_rfl) rfl rfl rfl (.refl _) (OpQ.loadV (b := b3) K25_ag97 K25_sz97 rfl (by repeat (first | exact Has.here | apply Has.there)) (by rfl)) ?_
 refine RA.know 36 (v' := kp2 x) rfl rfl ?_
 refine RA.q 5 (by kernel_rfl) rfl rfl rfl (.refl _) (OpQ.move rfl) ?_
 refine RA.tail ?_
 refine RT.f 6 (by kernel_rfl) rfl rfl rfl (OpG.mapNew (f := kp2) (x := x) (l := []) K25_mkP K25_un123 rfl rfl rfl rfl (by repeat (first | exact Upd.here | apply Upd.there))) ?_
 rintro _ _
 refine RT.done (by kernel_rfl) ?_
 refine PX.then_n ?_
 refine CT.draw' (Hc := [.row 97 2 (vb b3) 1 (stv x), .row 125 2 (vb b) 1 [.slice none (([] : List (Nat × Nat))).length 0, .map (some b24)]]) 10 K25_mixed ?_
 refine RA.q 0 (by kernel_rfl) rfl rfl rfl (.cons _ (.cons_cons _ (.cons _ (.cons_cons _ (.refl _))))) (OpQ.move rfl) ?_
 refine RA.q 1 (by kernel_rfl) rfl rfl rfl (.cons _ (.cons_cons _ (.cons _ (.cons_cons _ (.refl _))))) (OpQ.move rfl) ?_
 refine RA.q 2 (by kernel_rfl) rfl rfl rfl (.cons _ (.cons_cons _ (.cons _ (.cons_cons _ (.refl _))))) (OpQ.nilCheckP rfl) ?_
 refine RA.q 3 (by kernel_rfl) rfl rfl rfl (.cons _ (.cons_cons _ (.cons _ (.cons_cons _ (.refl _))))) (OpQ.fieldAddr K25_fa125_0 rfl) ?_
 refine RA.q 4 (by kernel_rfl) rfl rfl rfl (.cons _ (.cons_cons _ (.cons _ (.cons_cons _ (.refl _))))) (OpQ.loadF (b := b) K25_sc94 rfl (by repeat (first | exact Has.here | apply Has.there)) (by rfl)) ?_
 refine RA.q 5 (by kernel_rfl) rfl rfl rfl (.cons _ (.cons_cons _ (.cons _ (.cons_cons _ (.refl _))))) (OpQ.loadV (b := b3) K25_ag97 K25_sz97 rfl (by repeat (first | exact Has.here | apply Has.there)) (by rfl)) ?_
 refine RA.know 43 (v' := kp2 x) rfl rfl ?_
 refine RA.f 6 (by kernel_rfl) rfl rfl rfl (OpG.litS1 K25_un94 K25_in97 rfl (by decide) rfl) (fun _ _ => (.cons _ (.cons _ (.cons_cons _ (.cons _ (.cons_cons _ (.refl _))))))) ?_
 rintro b44 _
 refine RA.f 7 (by kernel_rfl) rfl rfl rfl (OpG.append K25_un94 K25_in97 (by rfl) (by decide) rfl rfl (p := 3) rfl (fun w hH => hH.rd .here) ⟨rfl, (by simp [Value.oneCell']), (by simp; done), (by simp; done)⟩ (nm := [x].length) rfl (all := [x].flatMap stv) rfl) (fun _ _ => (.cons _ (.cons _ (.cons_cons _ (.cons _ (.cons_cons _ (.refl _))))))) ?_
 rintro ⟨a45, c45⟩ h45
 refine RA.q 8 (by kernel_rfl) rfl rfl rfl (.cons _ (.cons _ (.cons_cons _ (.cons _ (.cons_cons _ (.refl _)))))) (OpQ.nilCheckP rfl) ?_
 refine RA.q 9 (by kernel_rfl) rfl rfl rfl (.cons _ (.cons _ (.cons_cons _ (.cons _ (.cons_cons _ (.refl _)))))) (OpQ.fieldAddr K25_fa125_0 rfl) ?_
 refine RA.tail ?_
 refine RT.f 10 (by kernel_rfl) rfl rfl rfl (OpG.storeRow (a := some ⟨b, 0, none⟩) K25_sz94 rfl rfl rfl (by repeat (first | exact Upd.here | apply Upd.there)) (by simp)) ?_
 rintro _ _
 refine RT.done (by kernel_rfl) ?_
 refine PX.then_n (CT.seq (CT.region ?_))
 refine Wl.q rfl rfl (OpQ.move rfl) ?_
 refine Wl.q rfl rfl (OpQ.assign rfl) ?_
 refine Wl.nil (PX.then_n (CT.ret ?_))
 refine PX.ret1 rfl rfl (fun w' hH => ?_)
 exact ⟨(b24, a45, c45), trivial, rfl, HOk.post (hH.take (.cons (.there (.there (.there (.there .here)))) (.cons (.there (.there (.there .here))) (.cons (.there .here) .nil))))⟩

set_option maxRecDepth 100000 in
/-- (*semigroup/dfa.numbering[[2]int]).of -/
theorem nofP_spec (w : World) (b m : Nat) (l : List (Nat × Nat)) (a : Option Addr) (c : Nat) (hpre : Pre [.row 125 2 (vb b) 1 [.slice a (l).length c, .map (some m)], .row 97 2 (.slice a (l).length c) (l).length ((l).flatMap stv), .blk m (mapO kp2 (itA 0 (l)))] w) (hlen : l.length ≤ 200000) (x : Nat × Nat) : Calls Tryz.prog 78 #[.pointer (some ⟨b, 0, none⟩), kp2 x] w (fun e w' => ∃ i : Option Addr × Nat, True ∧ e = .returned (.int .i64 (((addN l x).2 : Nat) : Int)) ∧ Post (blks [.row 125 2 (vb b) 1 [.slice a (l).length c, .map (some m)], .row 97 2 (.slice a (l).length c) (l).length ((l).flatMap stv), .blk m (mapO kp2 (itA 0 (l)))]) [.row 125 2 (vb b) 1 [.slice i.1 ((addN l x).1).length i.2, .map (some m)], .row 97 2 (.slice i.1 ((addN l x).1).length i.2) ((addN l x).1).length (((addN l x).1).flatMap stv), .blk m (mapO kp2 (itA 0 ((addN l x).1)))] w w') := by
 refine enterX (args := [.pointer (some ⟨b, 0, none⟩), kp2 x]) hpre 49 Tryz.func78 rfl rfl rfl ?_
 refine CT.seq (CT.region ?_)
 refine Wl.g rfl rfl (OpG.box (size := 2) rfl rfl rfl) ?_
 rintro b3 _
 refine Wl.q rfl rfl (OpQ.assign rfl) ?_
 refine Wl.nil (PX.then_n (CT.seq ?_))
 refine CT.draw 11 K25_mixed ?_
 refine RA.q 0 (by kernel_rfl) rfl rfl rfl (.refl _) (OpQ.move rfl) ?_
 refine RA.q 1 (by kernel_rfl) rfl rfl rfl (.refl _) (OpQ.nilCheckP rfl) ?_
 refine RA.q 2 (by kernel_rfl) rfl rfl rfl (.refl _) (OpQ.fieldAddr K25_fa125_1 rfl) ?_
 refine RA.q 3 (by kernel_rfl) rfl rfl rfl (.refl _) (OpQ.loadF (b := b) K25_sc123 rfl (by repeat (first | exact Has.here | apply Has.there)) (by rfl)) ?_
 refine RA.q 4 (by kernel_rfl) rfl rfl rfl (.refl _) (OpQ.loadV (b := b3) K25_ag97 K25_sz97 rfl (by repeat (first | exact Has.here | apply Has.there)) (by rfl)) ?_
 refine RA.know 12 (v' := kp2 x) rfl rfl ?_
 refine RA.q 5 (by kernel_rfl) rfl rfl rfl (.refl _) (OpQ.lookup (f := kp2) (x := x) (l := (itA 0 l)) K25_mkP K25_un123 K25_in3 rfl rfl (by repeat (first | exact Has.here | apply Has.there)) (by rw [if_pos rfl, getA_itA, ix_val, ix_is])) ?_
 refine RA.q 6 (by kernel_rfl) rfl rfl rfl (.refl _) (OpQ.move rfl) ?_
 refine RA.q 7 (by kernel_rfl) rfl rfl rfl (.refl _) (OpQ.extract rfl rfl) ?_
 refine RA.q 8 (by kernel_rfl) rfl rfl rfl (.refl _) (OpQ.extract rfl rfl) ?_
 refine RA.q 9 (by kernel_rfl) rfl rfl rfl (.refl _) (OpQ.assign rfl) ?_
 refine RA.q 10 (by kernel_rfl) rfl rfl rfl (.refl _) (OpQ.assign rfl) ?_
 refine RA.tail ?_
 refine RT.done (by kernel_rfl) ?_
 refine PX.then_n (CT.seq (CT.seq (CT.region ?_)))
 refine Wl.q rfl rfl (OpQ.move rfl) ?_
 refine Wl.q rfl rfl (OpQ.not rfl) ?_
 refine Wl.nil (PX.then_n ?_)
 refine CT.cond rfl (fun h17 => ?_) (fun h17 => ?_)
 ·
  have hix : (ixA x 0 l) = none := by simpa using h17
  have hnx := ixA_none hix
  refine CT.seq (CT.seq (CT.region ?_))
  refine Wl.q rfl rfl (OpQ.move rfl) ?_
  refine Wl.q rfl rfl (OpQ.nilCheckP rfl) ?_
  refine Wl.q rfl rfl (OpQ.fieldAddr K25_fa125_1 rfl) ?_
  refine Wl.q rfl rfl (OpQ.loadF (b := b) K25_sc123 rfl (by repeat (first | exact Has.here | apply Has.there)) (by rfl)) ?_
  refine Wl.q rfl rfl (OpQ.mapNil K25_un123 rfl rfl) ?_
  refine Wl.know 22 (v' := .bool false) rfl (congrArg Value.bool rfl) ?_
  refine Wl.nil (PX.then_n ?_)
  refine CT.condF rfl ?_
  refine CT.skip (PX.then_n (CT.seq (CT.region ?_)))
  refine Wl.q rfl rfl (OpQ.move rfl) ?_
  refine Wl.q rfl rfl (OpQ.nilCheckP rfl) ?_
  refine Wl.q rfl rfl (OpQ.fieldAddr K25_fa125_0 rfl) ?_
  refine Wl.q rfl rfl (OpQ.loadF (b := b) K25_sc94 rfl (by repeat (first | exact Has.here | apply Has.there)) (by rfl)) ?_
  refine Wl.q rfl rfl (OpQ.len K25_un94 rfl) ?_
  refine Wl.q rfl rfl (OpQ.assign rfl) ?_
  refine Wl.nil (PX.then_n (CT.seq ?_))
  refine CT.draw 6 K25_mixed ?_
  refine RA.q 0 (by kernel_rfl) rfl rfl rfl (.refl _) (OpQ.move rfl) ?_
  refine RA.q 1 (by kernel_rfl) rfl rfl rfl (.refl _) (OpQ.nilCheckP rfl) ?_
  refine RA.q 2 (by kernel_rfl) rfl rfl rfl (.refl _) (OpQ.fieldAddr K25_fa125_1 rfl) ?_
  refine RA.q 3 (by kernel_rfl) rfl rfl rfl (.refl _) (OpQ.loadF (b := b) K25_sc123 rfl (by repeat (first | exact Has.here | apply Has.there)) (by rfl)) ?_
  refine RA.q 4 (by kernel_rfl) rfl rfl rfl (.refl _) (OpQ.loadV (b := b3) K25_ag97 K25_sz97 rfl (by repeat (first | exact Has.here | apply Has.there)) (by rfl)) ?_
  refine RA.know 36 (v' := kp2 x) rfl rfl ?_
  refine RA.q 5 (by kernel_rfl) rfl rfl rfl (.refl _) (OpQ.move rfl) ?_
  refine RA.tail ?_
  refine RT.f 6 (by kernel_rfl) rfl rfl rfl (OpG.mapNew (f := kp2) (x := x) (l := (itA 0 l)) K25_mkP K25_un123 rfl rfl rfl (by rw [getA_itA, hix]; rfl) (by repeat (first | exact Upd.here | apply Upd.there))) ?_
  rintro _ _
  refine RT.done (by kernel_rfl) ?_
  refine PX.then_n ?_
  refine CT.draw' (Hc := [.row 97 2 (vb b3) 1 (stv x), .row 125 2 (vb b) 1 [.slice a (l).length c, .map (some m)]]) 10 K25_mixed ?_
  refine RA.q 0 (by kernel_rfl) rfl rfl rfl (.cons_cons _ (.cons_cons _ (.cons _ (.cons _ (.refl _))))) (OpQ.move rfl) ?_
  refine RA.q 1 (by kernel_rfl) rfl rfl rfl (.cons_cons _ (.cons_cons _ (.cons _ (.cons _ (.refl _))))) (OpQ.move rfl) ?_
  refine RA.q 2 (by kernel_rfl) rfl rfl rfl (.cons_cons _ (.cons_cons _ (.cons _ (.cons _ (.refl _))))) (OpQ.nilCheckP rfl) ?_
  refine RA.q 3 (by kernel_rfl) rfl rfl rfl (.cons_cons _ (.cons_cons _ (.cons _ (.cons _ (.refl _))))) (OpQ.fieldAddr K25_fa125_0 rfl) ?_
  refine RA.q 4 (by kernel_rfl) rfl rfl rfl (.cons_cons _ (.cons_cons _ (.cons _ (.cons _ (.refl _))))) (OpQ.loadF (b := b) K25_sc94 rfl (by repeat (first | exact Has.here | apply Has.there)) (by rfl)) ?_
  refine RA.q 5 (by kernel_rfl) rfl rfl rfl (.cons_cons _ (.cons_cons _ (.cons _ (.cons _ (.refl _))))) (OpQ.loadV (b := b3) K25_ag97 K25_sz97 rfl (by repeat (first | exact Has.here | apply Has.there)) (by rfl)) ?_
  refine RA.know 43 (v' := kp2 x) rfl rfl ?_
  refine RA.f 6 (by kernel_rfl) rfl rfl rfl (OpG.litS1 K25_un94 K25_in97 rfl (by decide) rfl) (fun _ _ => (.cons _ (.cons_cons _ (.cons_cons _ (.cons _ (.cons _ (.refl _))))))) ?_
  rintro b44 _
  refine RA.f 7 (by kernel_rfl) rfl rfl rfl (OpG.append K25_un94 K25_in97 (by rfl) (by decide) rfl rfl (p := 3) rfl (fun w hH => hH.rd .here) ⟨rfl, (by simp [Value.oneCell']), (by omega), (by omega)⟩ (nm := ((l) ++ [x]).length) (by rw [List.length_append]; rfl) (all := ((l) ++ [x]).flatMap stv) (by rw [List.flatMap_append]; rfl)) (fun _ _ => (.cons _ (.cons_cons _ (.cons_cons _ (.cons _ (.cons _ (.refl _))))))) ?_
  rintro ⟨a45, c45⟩ h45
  refine RA.q 8 (by kernel_rfl) rfl rfl rfl (.cons _ (.cons_cons _ (.cons_cons _ (.cons _ (.cons _ (.refl _)))))) (OpQ.nilCheckP rfl) ?_
  refine RA.q 9 (by kernel_rfl) rfl rfl rfl (.cons _ (.cons_cons _ (.cons_cons _ (.cons _ (.cons _ (.refl _)))))) (OpQ.fieldAddr K25_fa125_0 rfl) ?_
  refine RA.tail ?_
  refine RT.f 10 (by kernel_rfl) rfl rfl rfl (OpG.storeRow (a := some ⟨b, 0, none⟩) K25_sz94 rfl rfl rfl (by repeat (first | exact Upd.here | apply Upd.there)) (by simp)) ?_
  rintro _ _
  refine RT.done (by kernel_rfl) ?_
  refine PX.then_n (CT.seq (CT.region ?_))
  refine Wl.q rfl rfl (OpQ.move rfl) ?_
  refine Wl.q rfl rfl (OpQ.assign rfl) ?_
  refine Wl.nil (PX.then_n (CT.ret ?_))
  refine PX.ret1 rfl rfl (fun w' hH => ?_)
  exact ⟨(a45, c45), trivial, by rw [addN_out hnx], (hH.take (.cons (.there (.there .here)) (.cons (.there (.there .here)) (.cons (.there (.there .here)) .nil)))).post.conv (by rw [addN_out hnx, itA_snoc, Nat.zero_add]; exact HSub.refl _)⟩
 ·
  have hix : ¬ (ixA x 0 l) = none := fun hh => by rw [hh] at h17; exact absurd h17 (by decide)
  obtain ⟨hx1, hx2⟩ := ix_in hix
  refine CT.skip (PX.then_n (CT.seq (CT.region ?_)))
  refine Wl.q rfl rfl (OpQ.move rfl) ?_
  refine Wl.q rfl rfl (OpQ.assign rfl) ?_
  refine Wl.nil (PX.then_n (CT.ret ?_))
  refine PX.ret1 rfl rfl (fun w' hH => ?_)
  exact ⟨(a, c), trivial, by rw [hx2]; rfl, (hH.take (.cons (.there .here) (.cons (.there .here) (.cons (.there .here) .nil)))).post.conv (by rw [hx1]; exact HSub.refl _)⟩

theorem K25_un28 : Tryz.prog.underlying 28 = some (.slice 62) := by kernel_rfl
theorem K25_in62 : (Tryz.prog.info? 62).map (fun i => (i.zero, i.size, i.bytes)) = some (some (.slice none 0 0), 1, 24) := by kernel_rfl
theorem K25_un27 : Tryz.prog.underlying 27 = some (.slice 4) := by kernel_rfl
theorem K25_in4 : (Tryz.prog.info? 4).map (fun i => (i.zero, i.size, i.bytes)) = some (some (.bool false), 1, 1) := by kernel_rfl
theorem K25_in30 : (Tryz.prog.info? 30).map (fun i => (i.zero, i.size, i.bytes)) = some (some (.agg #[.int .i64 0, .int .i64 0, .slice none 0 0, .slice none 0 0]), 4, 64) := by kernel_rfl
theorem K25_in125 : (Tryz.prog.info? 125).map (fun i => (i.zero, i.size, i.bytes)) = some (some (.agg #[.slice none 0 0, .map none]), 2, 32) := by kernel_rfl
theorem K25_go78 : isGo Tryz.prog 78 = true := by kernel_rfl
theorem K25_pl30 : placesB Tryz.prog 30 = some (#[.int .i64 0, .int .i64 0, .slice none 0 0, .slice none 0 0], [(0, 1), (1, 1), (2, 1), (3, 1)]) := by kernel_rfl
theorem K25_sz30 : sizeB Tryz.prog 30 = some 4 := by kernel_rfl
theorem K25_un62 : Tryz.prog.underlying 62 = some (.slice 3) := by kernel_rfl
theorem K25_ag30 : isAggB Tryz.prog 30 = some true := by kernel_rfl
theorem K25_fa30_3 : fieldB Tryz.prog 30 3 = some 3 := by kernel_rfl
theorem K25_sc28 : scalarB Tryz.prog 28 = some true := by kernel_rfl
theorem K25_sz28 : sizeB Tryz.prog 28 = some 1 := by kernel_rfl
theorem K25_fa30_2 : fieldB Tryz.prog 30 2 = some 2 := by kernel_rfl
theorem K25_sc27 : scalarB Tryz.prog 27 = some true := by kernel_rfl
theorem K25_sz27 : sizeB Tryz.prog 27 = some 1 := by kernel_rfl
set_option maxRecDepth 100000 in
set_option maxHeartbeats 2000000 in
/-- semigroup/dfa.explore[[2]int] -/
theorem exploreP_spec (w : World) (f : Nat × Nat → Nat → Nat × Nat) (fin : Nat × Nat → Bool) (dom : Nat × Nat → Prop) (L : Nat) (s : Nat × Nat) (hL : 1 ≤ L ∧ L ≤ 6) (hs : dom s) (hdom : ∀ p x, dom p → x < L → dom (f p x)) (f1 f2 : FuncId) (caps1 caps2 : List Value) (g1 : isGo Tryz.prog f1 = true) (g2 : isGo Tryz.prog f2 = true) (hf1 : ∀ w1, Ext [] w w1 → ∀ p x, dom p → x < L → Calls Tryz.prog f1 ([kp2 p, zn x] ++ caps1).toArray w1 (fun e w2 => e = .returned (kp2 (f p x)) ∧ Ext [] w1 w2)) (hf2 : ∀ w1, Ext [] w w1 → ∀ p, dom p → Calls Tryz.prog f2 ([kp2 p] ++ caps2).toArray w1 (fun e w2 => e = .returned (.bool (fin p)) ∧ Ext [] w1 w2)) : Calls Tryz.prog 53 #[.int .i64 ((L : Nat) : Int), kp2 s, .func (.func f1) #[] caps1.toArray, .func (.func f2) #[] caps2.toArray] w (fun e w' => ∃ z : Dv × List Nat × Value × Int, ((z.2.2.2 = 0 ∧ ∃ K, Done f L s K ∧ (bfs f L s K).length ≤ 512 ∧ z.1.Is (autoD f L s K fin)) ∨ z.2.2.2 = 3) ∧ e = .returned (.tuple #[dvv z.1, z.2.2.1, .int .i64 z.2.2.2]) ∧ Post [] [.frag z.2.1 (dvm z.1)] w w') := by
 have hall : ∀ k, ∀ p ∈ bfs f L s k, dom p := fun k => bfs_all hs hdom hL.1 k
 refine enter (args := [.int .i64 ((L : Nat) : Int), kp2 s, .func (.func f1) #[] caps1.toArray, .func (.func f2) #[] caps2.toArray]) [] 71 Tryz.func53 rfl rfl rfl ?_
 refine CT.seq (CT.region ?_)
 refine Wl.g rfl rfl (OpG.box (size := 2) rfl rfl rfl) ?_
 rintro b5 _
 refine Wl.g rfl rfl (OpG.alloc (zs := [.int .i64 0, .int .i64 0, .slice none 0 0, .slice none 0 0]) K25_in30 rfl rfl) ?_
 rintro b8 _
 refine Wl.q rfl rfl (OpQ.assign rfl) ?_
 refine Wl.q rfl rfl (OpQ.assign rfl) ?_
 refine Wl.nil (PX.then_n (CT.seq (CT.region ?_)))
 refine Wl.g rfl rfl (OpG.alloc (zs := [.slice none 0 0, .map none]) K25_in125 rfl rfl) ?_
 rintro b11 _
 refine Wl.nil (PX.then_n (CT.seq (CT.region ?_)))
 refine Wl.q rfl rfl (OpQ.loadV (b := b5) K25_ag97 K25_sz97 rfl (by repeat (first | exact Has.here | apply Has.there)) (by rfl)) ?_
 refine Wl.know 17 (v' := kp2 s) rfl rfl ?_
 refine Wl.g rfl rfl (OpG.callX K25_go78 rfl (.cons .here .nil) (fun _ => (.cons (.cons (.cons .nil)))) (fun w hH hp => nofP0_spec w b11 hp s)) ?_
 rintro ⟨m, a0, c0⟩ _
 refine Wl.nil (PX.then_n (CT.seq (CT.region ?_)))
 refine Wl.q rfl rfl (OpQ.move rfl) ?_
 refine Wl.q rfl rfl (OpQ.build (cells := #[_, .int .i64 0, .slice none 0 0, .slice none 0 0]) K25_pl30 rfl rfl) ?_
 refine Wl.g rfl rfl (OpG.alloc (zs := [.int .i64 0, .int .i64 0, .slice none 0 0, .slice none 0 0]) K25_in30 rfl rfl) ?_
 rintro b12 _
 refine Wl.g rfl rfl (OpG.storeV (b := b12) K25_sz30 rfl rfl rfl rfl (by repeat (first | exact Upd.here | apply Upd.there))) ?_
 rintro _ _
 refine Wl.nil (PX.then_n (CT.seq (CT.seq (CT.region ?_))))
 refine Wl.q rfl rfl (OpQ.assign rfl) ?_
 refine Wl.nil (PX.then_n (CT.block ?_))
 refine CT.nilrow 4 1 ?_
 refine CT.nilrow 62 1 ?_
 refine CT.as (fun _ h => h.bind0 (p := rws []) (rws_nil)) ?_
 refine CT.as (fun _ h => h.take (.cons .here (.cons (.there .here) (.cons .here (.cons .here (.cons .here (.cons .here (.cons .here (.cons .here .nil))))))))) ?_
 refine CT.loop (ι := Nat × Option Addr × Nat × Option Addr × Nat × List Bool × Option Addr × Nat × List Rw × List Nat) (fun (i, a', c', fa', fc', fl, na', nc', rs, bs) => Going f L s (i * L) ∧ i ≤ (bfs f L s (i * L)).length ∧ fl = ((bfs f L s (i * L)).take i).map fin ∧ XRows f L s (bfs f L s (i * L)) i (rs.map (·.xs)) ∧ (bfs f L s (i * L)).length ≤ 512) (fun (i, a', c', fa', fc', fl, na', nc', rs, bs) => [(0, .int .i64 ((L : Nat) : Int)), (2, .func (.func f1) #[] caps1.toArray), (3, .func (.func f2) #[] caps2.toArray), (8, .pointer (some ⟨b8, 0, none⟩)), (11, .pointer (some ⟨b11, 0, none⟩)), (12, .pointer (some ⟨b12, 0, none⟩)), (13, .int .i64 ((i : Nat) : Int))]) (fun (i, a', c', fa', fc', fl, na', nc', rs, bs) => [.frag bs (rws rs), .row 4 1 (.slice fa' i fc') i (fl.map bo), .row 62 1 (.slice na' i nc') i (rs.map rv), .row 30 4 (vb b12) 1 [.int .i64 ((L : Nat) : Int), .int .i64 0, .slice fa' i fc', .slice na' i nc'], .row 125 2 (vb b11) 1 [.slice a' ((bfs f L s (i * L))).length c', .map (some m)], .row 97 2 (.slice a' ((bfs f L s (i * L))).length c') ((bfs f L s (i * L))).length (((bfs f L s (i * L))).flatMap stv), .blk m (mapO kp2 (itA 0 ((bfs f L s (i * L))))), .row 30 4 (vb b8) 1 [.int .i64 0, .int .i64 0, .slice none 0 0, .slice none 0 0]]) (fun (i, a', c', fa', fc', fl, na', nc', rs, bs) => 512 - i) (0, a0, c0, none, 0, [], none, 0, [], []) ⟨by rw [Nat.zero_mul]; exact Going.zero, Nat.zero_le _, rfl, XRows.start _, by rw [Nat.zero_mul]; show 1 ≤ 512; omega⟩ ⟨rfl, rfl, rfl, rfl, rfl, rfl, rfl, trivial⟩ (by dsimp only; rw [Nat.zero_mul]; exact HSub.refl _) (fun ⟨i, a', c', fa', fc', fl, na', nc', rs, bs⟩ ⟨hg, hi, hfl, hrows, h512⟩ K0 hK0 => ?_)
 dsimp only
 refine CT.fact (p := a'.isSome = true) (fun w hH => (hH.rd (show Has _ (.row 97 2 (.slice a' ((bfs f L s (i * L))).length c') ((bfs f L s (i * L))).length (((bfs f L s (i * L))).flatMap stv)) from (by repeat (first | exact Has.here | apply Has.there)))).isSome (j := 0) (by rw [flat_len stv_len]; have := bfs_pos (f := f) (L := L) (s := s) (i * L); omega)) (fun hia => ?_)
 refine CT.seq (CT.seq (CT.region ?_))
 refine Wl.q rfl rfl (OpQ.move rfl) ?_
 refine Wl.q rfl rfl (OpQ.fieldAddr K25_fa125_0 rfl) ?_
 refine Wl.q rfl rfl (OpQ.loadF (b := b11) K25_sc94 rfl (by repeat (first | exact Has.here | apply Has.there)) (by rfl)) ?_
 refine Wl.q rfl rfl (OpQ.len K25_un94 rfl) ?_
 refine Wl.q rfl rfl (OpQ.lss rfl rfl) ?_
 refine Wl.nil (PX.then_n ?_)
 refine CT.cond rfl (fun h25 => ?_) (fun h25 => ?_)
 ·
  have h25 := of_decide_eq_true h25
  have hlt : i < (bfs f L s (i * L)).length := by omega
  have hia2 : dom ((bfs f L s (i * L)).getD i s) := hall _ _ (getDm hlt)
  refine CT.skip (PX.then_n (CT.seq (CT.block (CT.seq (CT.region ?_)))))
  refine Wl.q rfl rfl (OpQ.fieldAddr K25_fa125_0 rfl) ?_
  refine Wl.q rfl rfl (OpQ.loadF (b := b11) K25_sc94 rfl (by repeat (first | exact Has.here | apply Has.there)) (by rfl)) ?_
  refine Wl.q rfl rfl (OpQ.move rfl) ?_
  refine Wl.q rfl rfl (OpQ.index K25_un94 K25_sz97 rfl rfl (by omega) hia) ?_
  refine Wl.q rfl rfl (OpQ.loadAggG (cs := stv ((bfs f L s (i * L)).getD i s)) K25_ag97 K25_sz97 rfl (fun w hH => hH.rd (show Has _ (.row 97 2 (.slice a' ((bfs f L s (i * L))).length c') ((bfs f L s (i * L))).length (((bfs f L s (i * L))).flatMap stv)) from (by repeat (first | exact Has.here | apply Has.there)))) (flat_cells stv_len (bfs f L s (i * L)) s hlt)) ?_
  refine Wl.know 32 (v' := kp2 ((bfs f L s (i * L)).getD i s)) rfl rfl ?_
  refine Wl.g rfl rfl (OpG.alloc (zs := [.int .i64 0, .int .i64 0]) K25_in97 rfl rfl) ?_
  rintro b14 _
  refine Wl.g rfl rfl (OpG.storeV (b := b14) K25_sz97 rfl rfl rfl rfl (by repeat (first | exact Upd.here | apply Upd.there))) ?_
  rintro _ _
  refine Wl.nil (PX.then_n (CT.seq (CT.region ?_)))
  refine Wl.q rfl rfl (OpQ.move rfl) ?_
  refine Wl.g rfl rfl (OpG.make1 K25_un62 K25_in3 rfl rfl rfl rfl (by omega) (by omega)) ?_
  rintro b34 _
  refine Wl.q rfl rfl (OpQ.assign rfl) ?_
  refine Wl.nil (PX.then_n (CT.seq (CT.seq (CT.region ?_))))
  refine Wl.q rfl rfl (OpQ.move rfl) ?_
  refine Wl.q rfl rfl (OpQ.len K25_un62 rfl) ?_
  refine Wl.q rfl rfl (OpQ.move rfl) ?_
  refine Wl.nil (PX.then_n (CT.block ?_))
  refine CT.loop (ι := Nat × Option Addr × Nat) (fun (x, a', c') => x ≤ L ∧ (bfs f L s (i * L + x)).length ≤ 512 + x) (fun (x, a', c') => [(0, .int .i64 ((L : Nat) : Int)), (2, .func (.func f1) #[] caps1.toArray), (3, .func (.func f2) #[] caps2.toArray), (8, .pointer (some ⟨b8, 0, none⟩)), (11, .pointer (some ⟨b11, 0, none⟩)), (12, .pointer (some ⟨b12, 0, none⟩)), (13, .int .i64 ((i : Nat) : Int)), (14, .pointer (some ⟨b14, 0, none⟩)), (15, .slice (some ⟨b34, 0, none⟩) L L), (36, .int .i64 ((L : Nat) : Int)), (37, .int .i64 ((x : Nat) : Int))]) (fun (x, a', c') => [.row 3 1 (.slice (some ⟨b34, 0, none⟩) L L) L (((rowP f L (bfs f L s (i * L + x)) ((bfs f L s (i * L)).getD i s) x).map zz)), .row 97 2 (vb b14) 1 (stv ((bfs f L s (i * L)).getD i s)), .frag bs (rws rs), .row 4 1 (.slice fa' i fc') i (fl.map bo), .row 62 1 (.slice na' i nc') i (rs.map rv), .row 30 4 (vb b12) 1 [.int .i64 ((L : Nat) : Int), .int .i64 0, .slice fa' i fc', .slice na' i nc'], .row 125 2 (vb b11) 1 [.slice a' ((bfs f L s (i * L + x))).length c', .map (some m)], .row 97 2 (.slice a' ((bfs f L s (i * L + x))).length c') ((bfs f L s (i * L + x))).length (((bfs f L s (i * L + x))).flatMap stv), .blk m (mapO kp2 (itA 0 ((bfs f L s (i * L + x))))), .row 30 4 (vb b8) 1 [.int .i64 0, .int .i64 0, .slice none 0 0, .slice none 0 0]]) (fun (x, a', c') => L - x) (0, a', c') ⟨Nat.zero_le _, h512⟩ ⟨rfl, rfl, rfl, rfl, rfl, rfl, rfl, rfl, rfl, rfl, rfl, trivial⟩ (.keep (row_eq (by rw [rowP_zero]; simp)) (HSub.refl _)) (fun ⟨x, a', c'⟩ ⟨hx, hxl5⟩ K1 hK1 => ?_)
  dsimp only
  refine CT.seq (CT.region ?_)
  refine Wl.q rfl rfl (OpQ.lss rfl rfl) ?_
  refine Wl.nil (PX.then_n (CT.seq ?_))
  refine CT.cond rfl (fun h38 => ?_) (fun h38 => ?_)
  ·
   have h38 := of_decide_eq_true h38
   have hxl : x < L := by omega
   refine CT.skip (PX.then_n (CT.seq (CT.block (CT.seq (CT.region ?_)))))
   refine Wl.q rfl rfl (OpQ.move rfl) ?_
   refine Wl.q rfl rfl (OpQ.assign rfl) ?_
   refine Wl.nil (PX.then_n (CT.region ?_))
   refine Wl.q rfl rfl (OpQ.move rfl) ?_
   refine Wl.q rfl rfl (OpQ.move rfl) ?_
   refine Wl.q rfl rfl (OpQ.move rfl) ?_
   refine Wl.q rfl rfl (OpQ.loadV (b := b14) K25_ag97 K25_sz97 rfl (by repeat (first | exact Has.here | apply Has.there)) (by rfl)) ?_
   refine Wl.know 43 (v' := kp2 ((bfs f L s (i * L)).getD i s)) rfl rfl ?_
   refine Wl.q rfl rfl (OpQ.move rfl) ?_
   refine Wl.g rfl rfl (OpG.callFV rfl g1 rfl (fun w hH => hf1 w hH.ext ((bfs f L s (i * L)).getD i s) x hia2 hxl)) ?_
   rintro _ _
   refine Wl.g rfl rfl (OpG.callX K25_go78 rfl (.cons (.there (.there (.there (.there (.there (.there .here)))))) (.cons (.there (.there (.there (.there (.there (.there .here)))))) (.cons (.there (.there (.there (.there (.there (.there .here)))))) .nil))) (fun _ => (.cons (.cons (.cons .nil)))) (fun w hH hp => nofP_spec w b11 m (bfs f L s (i * L + x)) a' c' hp (by omega) (f ((bfs f L s (i * L)).getD i s) x))) ?_
   rintro ⟨a46, c46⟩ _
   refine Wl.q rfl rfl (OpQ.index1 K25_un62 K25_sz3 rfl rfl (by omega) rfl) ?_
   refine Wl.g rfl rfl (OpG.storeRow (a := some ⟨b34, 0, none⟩) K25_sz3 rfl rfl rfl (by repeat (first | exact Upd.here | apply Upd.there)) (by rw [List.length_map, rowP_len]; show x < _; omega)) ?_
   rintro _ _
   refine Wl.nil (PX.block_n (PX.then_n (CT.region ?_)))
   refine Wl.q rfl rfl (OpQ.add rfl rfl (by omega)) ?_
   refine Wl.q rfl rfl (OpQ.move rfl) ?_
   refine Wl.nil ?_
   refine PX.as (fun _ h => h.take (.cons (.there (.there (.there .here))) (.cons (.there (.there (.there .here))) (.cons (.there (.there (.there .here))) (.cons (.there (.there (.there .here))) (.cons (.there (.there (.there .here))) (.cons (.there (.there (.there .here))) (.cons .here (.cons .here (.cons .here (.cons .here .nil))))))))))) ?_
   exact PX.loop hK1 (x + 1, a46, c46) ⟨by omega, by rw [show i * L + (x + 1) = i * L + x + 1 from rfl, bfs_addx hxl hlt]; have := addN_len (bfs f L s (i * L + x)) (f ((bfs f L s (i * L)).getD i s) x); omega⟩ (show L - (x + 1) < L - x by omega) ⟨rfl, rfl, rfl, rfl, rfl, rfl, rfl, rfl, rfl, rfl, rfl, trivial⟩ (.keep (row_eq (by rw [show i * L + (x + 1) = i * L + x + 1 from rfl, bfs_addx hxl hlt]; exact (rowP_put (addN_pre _ _) (bfs_row_mem (Nat.le_of_lt hxl) hlt) (by rw [addN_idx])).symm)) (by dsimp only; rw [show i * L + (x + 1) = i * L + x + 1 from rfl, bfs_addx hxl hlt]; exact HSub.refl _))
  ·
   have h38 := of_decide_eq_false h38
   obtain rfl : L = x := by omega
   have hrows2 := (hrows.grow hi (bfs_pre (i * L) L)).snoc (fun y hy => by rw [bfs_get (show i * L ≤ i * L + L by omega) hlt]; exact bfs_row_mem (Nat.le_refl _) hlt y hy)
   rw [bfs_get (show i * L ≤ i * L + L by omega) hlt] at hrows2
   refine CT.exit (PX.then_x (PX.then_x (PX.block_x (PX.then_n (CT.seq (CT.seq (CT.region ?_)))))))
   refine Wl.q rfl rfl (OpQ.fieldAddr K25_fa125_0 rfl) ?_
   refine Wl.q rfl rfl (OpQ.loadF (b := b11) K25_sc94 rfl (by repeat (first | exact Has.here | apply Has.there)) (by rfl)) ?_
   refine Wl.q rfl rfl (OpQ.len K25_un94 rfl) ?_
   refine Wl.q rfl rfl (OpQ.gtr rfl rfl) ?_
   refine Wl.nil (PX.then_n ?_)
   refine CT.cond rfl (fun h52 => ?_) (fun h52 => ?_)
   ·
    have h52 := of_decide_eq_true h52
    refine CT.seq (CT.region ?_)
    refine Wl.q rfl rfl (OpQ.build (cells := #[.int .i64 0, .int .i64 0, .slice none 0 0, .slice none 0 0]) K25_pl30 rfl rfl) ?_
    refine Wl.g rfl rfl (OpG.storeV (b := b8) K25_sz30 rfl rfl rfl rfl (by repeat (first | exact Upd.here | apply Upd.there))) ?_
    rintro _ _
    refine Wl.q rfl rfl (OpQ.assign rfl) ?_
    refine Wl.q rfl rfl (OpQ.assign rfl) ?_
    refine Wl.nil (PX.then_n (CT.ret (PX.then_r (PX.block_r (PX.then_r (PX.then_r (PX.block_r (PX.then_r ?_))))))))
    refine PX.retC3 rfl rfl rfl rfl (by repeat (first | exact Has.here | apply Has.there)) K25_ag30 K25_sz30 (by rfl) (fun w' hH => ?_)
    exact ⟨(dv0, [], .slice none 0 0, 3), .inr rfl, rfl, ((hH.bind0 (p := dvm dv0) dvm0).take (.cons .here .nil)).post⟩
   ·
    have h52 := of_decide_eq_false h52
    refine CT.skip (PX.then_n (CT.seq (CT.region ?_)))
    refine Wl.q rfl rfl (OpQ.fieldAddr K25_fa30_3 rfl) ?_
    refine Wl.q rfl rfl (OpQ.loadF (b := b12) K25_sc28 rfl (by repeat (first | exact Has.here | apply Has.there)) (by rfl)) ?_
    refine Wl.q rfl rfl (OpQ.move rfl) ?_
    refine Wl.g rfl rfl (OpG.lit1 K25_un28 K25_in62 rfl rfl rfl) ?_
    rintro b57 _
    refine Wl.g rfl rfl (OpG.append K25_un28 K25_in62 (by rfl) (by decide) rfl rfl (p := 5) rfl (fun w hH => hH.rd .here) ⟨rfl, (by simp [Value.oneCell']), (by omega), (by omega)⟩ (nm := i + 1) rfl (all := (rs ++ [(⟨some ⟨b34, 0, none⟩, L, (rowP f L (bfs f L s (i * L + L)) ((bfs f L s (i * L)).getD i s) L)⟩ : Rw)]).map rv) (by simp [rowP_len])) ?_
    rintro ⟨a58, c58⟩ h58
    refine Wl.q rfl rfl (OpQ.fieldAddr K25_fa30_3 rfl) ?_
    refine Wl.g rfl rfl (OpG.storeRow (a := some ⟨b12, 0, none⟩) K25_sz28 rfl rfl rfl (by repeat (first | exact Upd.here | apply Upd.there)) (by simp)) ?_
    rintro _ _
    refine Wl.nil (PX.then_n ?_)
    refine CT.draw 6 K25_mixed ?_
    refine RA.q 0 (by kernel_rfl) rfl rfl rfl (.refl _) (OpQ.fieldAddr K25_fa30_2 rfl) ?_
    refine RA.q 1 (by kernel_rfl) rfl rfl rfl (.refl _) (OpQ.loadF (b := b12) K25_sc27 rfl (by repeat (first | exact Has.here | apply Has.there)) (by rfl)) ?_
    refine RA.q 2 (by kernel_rfl) rfl rfl rfl (.refl _) (OpQ.move rfl) ?_
    refine RA.q 3 (by kernel_rfl) rfl rfl rfl (.refl _) (OpQ.loadV (b := b14) K25_ag97 K25_sz97 rfl (by repeat (first | exact Has.here | apply Has.there)) (by rfl)) ?_
    refine RA.know 63 (v' := kp2 ((bfs f L s (i * L)).getD i s)) rfl rfl ?_
    refine RA.f 4 (by kernel_rfl) rfl rfl rfl (OpG.callFV rfl g2 rfl (fun w hH => hf2 w hH.ext ((bfs f L s (i * L)).getD i s) hia2)) (fun _ _ => (.refl _)) ?_
    rintro _ _
    refine RA.f 5 (by kernel_rfl) rfl rfl rfl (OpG.lit1 K25_un27 K25_in4 rfl rfl rfl) (fun _ _ => (.cons _ (.refl _))) ?_
    rintro b65 _
    refine RA.tail ?_
    refine RT.f 6 (by kernel_rfl) rfl rfl rfl (OpG.append K25_un27 K25_in4 (by rfl) (by decide) rfl rfl (p := 5) rfl (fun w hH => hH.rd .here) ⟨rfl, (by simp [Value.oneCell']), (by omega), (by omega)⟩ (nm := i + 1) rfl (all := (fl ++ [fin ((bfs f L s (i * L)).getD i s)]).map bo) (by simp)) ?_
    rintro ⟨a66, c66⟩ h66
    refine RT.q 7 (by kernel_rfl) rfl rfl rfl (OpQ.fieldAddr K25_fa30_2 rfl) ?_
    refine RT.f 8 (by kernel_rfl) rfl rfl rfl (OpG.storeRow (a := some ⟨b12, 0, none⟩) K25_sz27 rfl rfl rfl (by repeat (first | exact Upd.here | apply Upd.there)) (by simp)) ?_
    rintro _ _
    refine RT.done (by kernel_rfl) ?_
    refine PX.block_n (PX.then_n (CT.region ?_))
    refine Wl.q rfl rfl (OpQ.move rfl) ?_
    refine Wl.q rfl rfl (OpQ.add rfl rfl (by omega)) ?_
    refine Wl.q rfl rfl (OpQ.assign rfl) ?_
    refine Wl.nil ?_
    refine PX.as (fun _ h => h.bind (L := [.frag bs (rws rs), .row 3 1 (.slice (some ⟨b34, 0, none⟩) L L) L (((rowP f L (bfs f L s (i * L + L)) ((bfs f L s (i * L)).getD i s) L).map zz))]) (p := rws (rs ++ [(⟨some ⟨b34, 0, none⟩, L, (rowP f L (bfs f L s (i * L + L)) ((bfs f L s (i * L)).getD i s) L)⟩ : Rw)])) (.cons (.there (.there (.there (.there .here)))) (.cons (.there (.there .here)) .nil)) (fun w hk => rws_snoc (r := (⟨some ⟨b34, 0, none⟩, L, (rowP f L (bfs f L s (i * L + L)) ((bfs f L s (i * L)).getD i s) L)⟩ : Rw)) ((hk _ List.mem_cons_self).2 w (fun _ _ => rfl)) (Rd.of_owns (hk _ (List.mem_cons_of_mem _ List.mem_cons_self))))) ?_
    refine PX.as (fun _ h => h.take (.cons .here (.cons (.there (.there (.there .here))) (.cons (.there (.there (.there .here))) (.cons (.there (.there (.there .here))) (.cons (.there (.there (.there .here))) (.cons (.there (.there (.there .here))) (.cons (.there (.there (.there .here))) (.cons (.there (.there (.there .here))) .nil))))))))) ?_
    exact PX.loop hK0 (i + 1, a', c', a66, c66, fl ++ [fin ((bfs f L s (i * L)).getD i s)], a58, c58, rs ++ [(⟨some ⟨b34, 0, none⟩, L, (rowP f L (bfs f L s (i * L + L)) ((bfs f L s (i * L)).getD i s) L)⟩ : Rw)], _) ⟨hg.next hlt, by have := bfs_le (f := f) (L := L) (s := s) (show i * L ≤ (i + 1) * L by rw [Nat.add_mul]; omega); omega, fl_next hfl hlt bfs_succ_row, by rw [List.map_append, Nat.add_mul, Nat.one_mul]; exact hrows2, by rw [Nat.add_mul, Nat.one_mul]; omega⟩ (show 512 - (i + 1) < 512 - i by omega) ⟨rfl, rfl, rfl, rfl, rfl, rfl, rfl, trivial⟩ (by dsimp only; rw [Nat.add_mul, Nat.one_mul]; exact HSub.refl _)
 ·
  have h25 := of_decide_eq_false h25
  refine CT.exit (PX.then_x (PX.then_x (PX.block_x (PX.then_n (CT.seq ?_)))))
  refine CT.draw' (Hc := [.row 30 4 (vb b12) 1 [.int .i64 ((L : Nat) : Int), .int .i64 0, .slice fa' i fc', .slice na' i nc'], .row 125 2 (vb b11) 1 [.slice a' ((bfs f L s (i * L))).length c', .map (some m)]]) 6 K25_mixed ?_
  refine RA.q 0 (by kernel_rfl) rfl rfl rfl (.cons _ (.cons _ (.cons _ (.cons_cons _ (.cons_cons _ (.cons _ (.cons _ (.cons _ (.refl _))))))))) (OpQ.loadV (b := b12) K25_ag30 K25_sz30 rfl (by repeat (first | exact Has.here | apply Has.there)) (by rfl)) ?_
  refine RA.q 1 (by kernel_rfl) rfl rfl rfl (.cons _ (.cons _ (.cons _ (.cons_cons _ (.cons_cons _ (.cons _ (.cons _ (.cons _ (.refl _))))))))) (OpQ.fieldAddr K25_fa125_0 rfl) ?_
  refine RA.q 2 (by kernel_rfl) rfl rfl rfl (.cons _ (.cons _ (.cons _ (.cons_cons _ (.cons_cons _ (.cons _ (.cons _ (.cons _ (.refl _))))))))) (OpQ.loadF (b := b11) K25_sc94 rfl (by repeat (first | exact Has.here | apply Has.there)) (by rfl)) ?_
  refine RA.f 3 (by kernel_rfl) rfl rfl rfl (OpG.storeV (b := b8) K25_sz30 rfl rfl rfl rfl (by repeat (first | exact Upd.here | apply Upd.there))) (fun _ _ => (.cons _ (.cons _ (.cons _ (.cons_cons _ (.cons_cons _ (.cons _ (.cons _ (.cons _ (.refl _)))))))))) ?_
  rintro _ _
  refine RA.q 4 (by kernel_rfl) rfl rfl rfl (.cons _ (.cons _ (.cons _ (.cons_cons _ (.cons_cons _ (.cons _ (.cons _ (.cons _ (.refl _))))))))) (OpQ.assign rfl) ?_
  refine RA.q 5 (by kernel_rfl) rfl rfl rfl (.cons _ (.cons _ (.cons _ (.cons_cons _ (.cons_cons _ (.cons _ (.cons _ (.cons _ (.refl _))))))))) (OpQ.assign rfl) ?_
  refine RA.tail ?_
  refine RT.done (by kernel_rfl) ?_
  refine PX.then_n (CT.ret ?_)
  refine PX.retC3 rfl rfl rfl rfl (by repeat (first | exact Has.here | apply Has.there)) K25_ag30 K25_sz30 (by rfl) (fun w' hH => ?_)
  have hii : i = (bfs f L s (i * L)).length := by omega
  have hfll : fl.length = i := by rw [hfl, List.length_map, List.length_take, Nat.min_eq_left hi]
  have hrll : rs.length = i := by have := hrows.len; rwa [List.length_map] at this
  have hfin : fl = (autoD f L s (i * L) fin).fin := by
   rw [hfl, List.take_of_length_le (Nat.le_of_eq hii.symm)]; rfl
  have hval : dvv ⟨((L : Nat) : Int), 0, fa', fc', fl, na', nc', rs⟩ = .agg #[.int .i64 ((L : Nat) : Int), .int .i64 0, .slice fa' i fc', .slice na' i nc'] := by
   show Value.agg #[.int .i64 ((L : Nat) : Int), .int .i64 0, .slice fa' fl.length fc', .slice na' rs.length nc'] = _
   rw [hfll, hrll]
  exact ⟨(⟨((L : Nat) : Int), 0, fa', fc', fl, na', nc', rs⟩, _, _, 0), .inl ⟨rfl, i * L, Done.of hL.1 hg hii, h512, ⟨rfl, rfl, hfin, hrows.auto' hii fin⟩⟩, by rw [hval], ((hH.bind (L := [.frag bs (rws rs), .row 4 1 (.slice fa' i fc') i (fl.map bo), .row 62 1 (.slice na' i nc') i (rs.map rv)]) (p := dvm ⟨((L : Nat) : Int), 0, fa', fc', fl, na', nc', rs⟩) (.cons .here (.cons .here (.cons .here .nil))) (fun w hk => ⟨Rd.of_owns (hk _ (List.mem_cons_of_mem _ List.mem_cons_self)), Rd.of_owns (hk _ (List.mem_cons_of_mem _ (List.mem_cons_of_mem _ List.mem_cons_self))), (hk _ List.mem_cons_self).2 w (fun _ _ => rfl)⟩)).take (.cons .here .nil)).post⟩

end Go.Proofs.YtmggcdegekbncabGreatDoor

