/-
  What functions of the program compute, each by its walk. Conditions: those that each theorem names.
-/
import Derived.Test.YtmggcdegekbncabGreatDoorEng1
import Derived.Test.YtmggcdegekbncabGreatDoorXGB16
import Derived.Test.YtmggcdegekbncabGreatDoorXF
set_option linter.unusedSimpArgs false
namespace Go.Proofs.YtmggcdegekbncabGreatDoor
open Go Go.Eng Go.Am Go.Ex
open Go.Tp (zi)
open Go.Tl (mayL Wd okW okB bo)
open Go.Ex.simp (simpL)
open Go.Ex.dv (dvL dvC)
open Go.Ex.hasU (hasAny hasAll)
open Go.Ex.wf (wfL)
open Go.Ex.szE (szL)
open Go.Ex.dpE (dpL)
open Go.Ex.cmpE (cmpL)
open Go.Ex.fmtE (fmtK fmtR)
theorem K17_mkS : MapKey Tryz.prog 9 sv := MapKey.str (by kernel_rfl)
theorem K17_un22 : Tryz.prog.underlying 22 = some (.slice 24) := by kernel_rfl
theorem K17_in24 : (Tryz.prog.info? 24).map (fun i => (i.zero, i.size, i.bytes)) = some (some (.agg #[.int .i64 0, .int .i64 0, .slice none 0 0]), 3, 40) := by kernel_rfl
theorem K17_sz24 : sizeB Tryz.prog 24 = some 3 := by kernel_rfl
theorem K17_fa68_0 : fieldB Tryz.prog 68 0 = some 0 := by kernel_rfl
theorem K17_fa43_1 : fieldB Tryz.prog 43 1 = some 1 := by kernel_rfl
theorem K17_sc22 : scalarB Tryz.prog 22 = some true := by kernel_rfl
theorem K17_mixed : Tryz.prog.follows .mixedOrders = true := by kernel_rfl
theorem K17_fa68_1 : fieldB Tryz.prog 68 1 = some 4 := by kernel_rfl
theorem K17_sc66 : scalarB Tryz.prog 66 = some true := by kernel_rfl
theorem K17_ag24 : isAggB Tryz.prog 24 = some true := by kernel_rfl
theorem K17_go23 : isGo Tryz.prog 23 = true := by kernel_rfl
theorem K17_un66 : Tryz.prog.underlying 66 = some (.map 9 3) := by kernel_rfl
theorem K17_sz22 : sizeB Tryz.prog 22 = some 1 := by kernel_rfl
set_option maxRecDepth 100000 in
/-- (*semigroup/derive.run).add -/
theorem radd_spec (w : World) (b m : Nat) (na : Option Addr) (nl nc : Nat) (dn : Int) (vs : List Xv) (a : Option Addr) (c : Nat) (v : Xv) (hpre : Pre [.row 68 5 (vb b) 1 [.int .i64 2, .slice a (vs).length c, .slice na nl nc, .int .i64 dn, .map (some m)], .row 24 3 (.slice a (vs).length c) (vs).length ((vs).flatMap evc), .blk m (mapO sv (itA 0 ((vs).map txk)))] w) (hl : vs.length ≤ 512) (hv : Stays (blks [.row 68 5 (vb b) 1 [.int .i64 2, .slice a (vs).length c, .slice na nl nc, .int .i64 dn, .map (some m)], .row 24 3 (.slice a (vs).length c) (vs).length ((vs).flatMap evc), .blk m (mapO sv (itA 0 ((vs).map txk)))]) w (evm v)) (hvd : vdE 6 (toE v) = 0) (hno : ixA (txk v) 0 (vs.map txk) = none) : Calls Tryz.prog 59 #[.pointer (some ⟨b, 0, none⟩), evv v] w (fun e w' => ∃ i : Option Addr × Nat, True ∧ e = .returned (.int .i64 ((vs.length : Nat) : Int)) ∧ Post (blks [.row 68 5 (vb b) 1 [.int .i64 2, .slice a (vs).length c, .slice na nl nc, .int .i64 dn, .map (some m)], .row 24 3 (.slice a (vs).length c) (vs).length ((vs).flatMap evc), .blk m (mapO sv (itA 0 ((vs).map txk)))]) [.row 68 5 (vb b) 1 [.int .i64 2, .slice i.1 (vs ++ [v]).length i.2, .slice na nl nc, .int .i64 dn, .map (some m)], .row 24 3 (.slice i.1 (vs ++ [v]).length i.2) (vs ++ [v]).length ((vs ++ [v]).flatMap evc), .blk m (mapO sv (itA 0 ((vs ++ [v]).map txk)))] w w') := by
 refine enterX (args := [.pointer (some ⟨b, 0, none⟩), evv v]) hpre 33 Tryz.func59 rfl rfl rfl ?_
 refine CT.seq (CT.region ?_)
 refine Wl.g rfl rfl (OpG.box (size := 3) rfl rfl rfl) ?_
 rintro b3 _
 refine Wl.q rfl rfl (OpQ.assign rfl) ?_
 refine Wl.nil (PX.then_n (CT.seq (CT.region ?_)))
 refine Wl.q rfl rfl (OpQ.move rfl) ?_
 refine Wl.q rfl rfl (OpQ.nilCheckP rfl) ?_
 refine Wl.q rfl rfl (OpQ.fieldAddr K17_fa68_0 rfl) ?_
 refine Wl.q rfl rfl (OpQ.fieldAddr K17_fa43_1 rfl) ?_
 refine Wl.know 9 rfl (add_ptr _ _ _) ?_
 refine Wl.q rfl rfl (OpQ.loadF (b := b) K17_sc22 rfl (by repeat (first | exact Has.here | apply Has.there)) (by rfl)) ?_
 refine Wl.q rfl rfl (OpQ.len K17_un22 rfl) ?_
 refine Wl.q rfl rfl (OpQ.assign rfl) ?_
 refine Wl.nil (PX.then_n (CT.seq ?_))
 refine CT.draw 7 K17_mixed ?_
 refine RA.q 0 (by kernel_rfl) rfl rfl rfl (.refl _) (OpQ.move rfl) ?_
 refine RA.q 1 (by kernel_rfl) rfl rfl rfl (.refl _) (OpQ.nilCheckP rfl) ?_
 refine RA.q 2 (by kernel_rfl) rfl rfl rfl (.refl _) (OpQ.fieldAddr K17_fa68_1 rfl) ?_
 refine RA.q 3 (by kernel_rfl) rfl rfl rfl (.refl _) (OpQ.loadF (b := b) K17_sc66 rfl (by repeat (first | exact Has.here | apply Has.there)) (by rfl)) ?_
 refine RA.q 4 (by kernel_rfl) rfl rfl rfl (.refl _) (OpQ.loadV (b := b3) K17_ag24 K17_sz24 rfl (by repeat (first | exact Has.here | apply Has.there)) (by rfl)) ?_
 refine RA.know 16 (v' := evv v) rfl rfl ?_
 refine RA.q 6 (by kernel_rfl) rfl rfl rfl (.refl _) (OpQ.move rfl) ?_
 refine RA.f 5 (by kernel_rfl) rfl rfl rfl (OpG.callV K17_go23 rfl (fun w hH => format_spec w v (hH.stays0 hv))) (fun _ _ => (.refl _)) ?_
 rintro _ _
 refine RA.know 17 (v' := sv (txk v)) rfl (congrArg sv (by rw [if_pos hvd]; rfl)) ?_
 refine RA.tail ?_
 refine RT.f 7 (by kernel_rfl) rfl rfl rfl (OpG.mapNew (f := sv) (x := (txk v)) (l := (itA 0 (vs.map txk))) K17_mkS K17_un66 rfl rfl rfl (by rw [getA_itA, hno]; rfl) (by repeat (first | exact Upd.here | apply Upd.there))) ?_
 rintro _ _
 refine RT.done (by kernel_rfl) ?_
 refine PX.then_n (CT.seq ?_)
 refine CT.draw 8 K17_mixed ?_
 refine RA.qa 0 (by kernel_rfl) rfl rfl rfl (.refl _) (OpQ.move rfl) ?_
 refine RA.qa 1 (by kernel_rfl) rfl rfl rfl (.refl _) (OpQ.nilCheckP rfl) ?_
 refine RA.qa 2 (by kernel_rfl) rfl rfl rfl (.refl _) (OpQ.fieldAddr K17_fa68_0 rfl) ?_
 refine RA.qa 3 (by kernel_rfl) rfl rfl rfl (.refl _) (OpQ.fieldAddr K17_fa43_1 rfl) ?_
 refine RA.know 22 rfl (add_ptr _ _ _) ?_
 refine RA.qa 4 (by kernel_rfl) rfl rfl rfl (.refl _) (OpQ.loadF (b := b) K17_sc22 rfl (by repeat (first | exact Has.here | apply Has.there)) (by rfl)) ?_
 refine RA.qa 5 (by kernel_rfl) rfl rfl rfl (.refl _) (OpQ.loadV (b := b3) K17_ag24 K17_sz24 rfl (by repeat (first | exact Has.here | apply Has.there)) (by rfl)) ?_
 refine RA.know 24 (v' := evv v) rfl rfl ?_
 refine RA.qa 6 (by kernel_rfl) rfl rfl rfl (.refl _) (OpQ.len K17_un22 rfl) ?_
 refine RA.f 7 (by kernel_rfl) rfl rfl rfl (OpG.litS1 K17_un22 K17_in24 rfl (by decide) rfl) (fun _ _ => (.cons _ (.refl _))) ?_
 rintro b26 _
 refine RA.again 15 [] (by kernel_rfl) ?_
 refine RA.f 8 (by kernel_rfl) rfl rfl rfl (OpG.append K17_un22 K17_in24 (by rfl) (by decide) rfl rfl (p := 3) rfl (fun w hH => hH.rd (show Has _ (.row 24 3 (.slice (some ⟨b26, 0, none⟩) 1 1) 1 ([ev0].flatMap evc)) from (by repeat (first | exact Has.here | apply Has.there)))) ⟨rfl, (by simp [Value.oneCell', evc, ev0]), by omega, by omega⟩ (nm := (vs ++ [v]).length) (by rw [List.length_append]; rfl) (all := (vs ++ [ev0]).flatMap evc) (by rw [List.flatMap_append])) (fun _ _ => (List.nil_sublist _)) ?_
 rintro ⟨a27, c27⟩ h27
 refine RA.q 9 (by kernel_rfl) rfl rfl rfl (List.nil_sublist _) (OpQ.index K17_un22 K17_sz24 rfl rfl (by rw [List.length_append, List.length_singleton]; omega) (h27 (by simp))) ?_
 refine RA.q 11 (by kernel_rfl) rfl rfl rfl (List.nil_sublist _) (OpQ.nilCheckP rfl) ?_
 refine RA.q 12 (by kernel_rfl) rfl rfl rfl (List.nil_sublist _) (OpQ.fieldAddr K17_fa68_0 rfl) ?_
 refine RA.q 13 (by kernel_rfl) rfl rfl rfl (List.nil_sublist _) (OpQ.fieldAddr K17_fa43_1 rfl) ?_
 refine RA.know 31 rfl (add_ptr _ _ _) ?_
 refine RA.two 10 14 (by kernel_rfl) rfl rfl rfl (OpG.storeAggRow (xs := (vs ++ [ev0]).flatMap evc) (j := vs.length * 3) (cs := evc v) K17_sz24 rfl rfl rfl (by rw [evcs_len, evc_len, List.length_append]; show _ ≤ (vs.length + 1) * 3; omega) (by rw [evc_len]; decide) (by repeat (first | exact Upd.here | apply Upd.there))) (fun _ _ => (List.nil_sublist _)) rfl rfl rfl (OpG.storeRow (a := some ⟨b, 0, none⟩) K17_sz22 rfl rfl rfl (by repeat (first | exact Upd.here | apply Upd.there)) (by simp)) (fun _ _ => (List.nil_sublist _)) ?_ ?_
 ·
  rintro _ _
  refine RA.f 14 (by kernel_rfl) rfl rfl rfl (OpG.storeRow (a := some ⟨b, 0, none⟩) K17_sz22 rfl rfl rfl (by repeat (first | exact Upd.here | apply Upd.there)) (by simp)) (fun _ _ => (List.nil_sublist _)) ?_
  rintro _ _
  refine RA.tail ?_
  refine RT.done (by kernel_rfl) ?_
  refine PX.then_n (CT.seq (CT.region ?_))
  refine Wl.q rfl rfl (OpQ.move rfl) ?_
  refine Wl.q rfl rfl (OpQ.assign rfl) ?_
  refine Wl.nil (PX.then_n (CT.ret ?_))
  refine PX.ret1 rfl rfl (fun w' hH => ?_)
  exact ⟨(a27, c27), trivial, rfl, (hH.take (.cons (.there (.there .here)) (.cons (.there (.there .here)) (.cons (.there (.there .here)) .nil)))).post.conv (.keep rfl (.keep (row_eq (by rw [evcs_set (by simp), set_last]) ) (.keep (by rw [List.map_append, List.map_singleton, itA_snoc, List.length_map, Nat.zero_add]) (HSub.refl _))))⟩
 ·
  rintro _ _
  refine RA.f 10 (by kernel_rfl) rfl rfl rfl (OpG.storeAggRow (xs := (vs ++ [ev0]).flatMap evc) (j := vs.length * 3) (cs := evc v) K17_sz24 rfl rfl rfl (by rw [evcs_len, evc_len, List.length_append]; show _ ≤ (vs.length + 1) * 3; omega) (by rw [evc_len]; decide) (by repeat (first | exact Upd.here | apply Upd.there))) (fun _ _ => (List.nil_sublist _)) ?_
  rintro _ _
  refine RA.tail ?_
  refine RT.done (by kernel_rfl) ?_
  refine PX.then_n (CT.seq (CT.region ?_))
  refine Wl.q rfl rfl (OpQ.move rfl) ?_
  refine Wl.q rfl rfl (OpQ.assign rfl) ?_
  refine Wl.nil (PX.then_n (CT.ret ?_))
  refine PX.ret1 rfl rfl (fun w' hH => ?_)
  exact ⟨(a27, c27), trivial, rfl, (hH.take (.cons (.there (.there .here)) (.cons (.there (.there .here)) (.cons (.there (.there .here)) .nil)))).post.conv (.keep rfl (.keep (row_eq (by rw [evcs_set (by simp), set_last]) ) (.keep (by rw [List.map_append, List.map_singleton, itA_snoc, List.length_map, Nat.zero_add]) (HSub.refl _))))⟩

theorem K17_pl68 : placesB Tryz.prog 68 = some (#[.int .i64 0, .slice none 0 0, .slice none 0 0, .int .i64 0, .map none], [(0, 4), (4, 1)]) := by kernel_rfl
theorem K17_fa43_0 : fieldB Tryz.prog 43 0 = some 0 := by kernel_rfl
theorem K17_sz3 : sizeB Tryz.prog 3 = some 1 := by kernel_rfl
theorem K17_go59 : isGo Tryz.prog 59 = true := by kernel_rfl
set_option maxRecDepth 100000 in
/-- semigroup/derive.begin -/
theorem begin_spec (w : World) (v : Xv) (hv : Stays [] w (evm v)) (hvd : vdE 6 (toE v) = 0) : Calls Tryz.prog 33 #[evv v, .int .i64 2] w (fun e w' => ∃ i : Nat × Nat × Option Addr × Nat, True ∧ e = .returned (.pointer (some ⟨i.1, 0, none⟩)) ∧ Post [] [.row 68 5 (vb i.1) 1 [.int .i64 2, .slice i.2.2.1 ([v]).length i.2.2.2, .slice none 0 0, .int .i64 0, .map (some i.2.1)], .row 24 3 (.slice i.2.2.1 ([v]).length i.2.2.2) ([v]).length (([v]).flatMap evc), .blk i.2.1 (mapO sv (itA 0 (([v]).map txk)))] w w') := by
 refine enter (args := [evv v, .int .i64 2]) [] 18 Tryz.func33 rfl rfl rfl ?_
 refine CT.nilrow 24 3 ?_
 refine CT.seq (CT.region ?_)
 refine Wl.g rfl rfl (OpG.box (size := 3) rfl rfl rfl) ?_
 rintro b2 _
 refine Wl.q rfl rfl (OpQ.assign rfl) ?_
 refine Wl.nil (PX.then_n (CT.seq (CT.region ?_)))
 refine Wl.g rfl rfl (OpG.makeMap (f := sv)) ?_
 rintro b6 _
 refine Wl.q rfl rfl (OpQ.build (cells := #[.int .i64 0, .slice none 0 0, .slice none 0 0, .int .i64 0, _]) K17_pl68 rfl rfl) ?_
 refine Wl.g rfl rfl (OpG.box (size := 5) rfl rfl rfl) ?_
 rintro b8 _
 refine Wl.q rfl rfl (OpQ.assign rfl) ?_
 refine Wl.nil (PX.then_n (CT.seq (CT.region ?_)))
 refine Wl.q rfl rfl (OpQ.move rfl) ?_
 refine Wl.q rfl rfl (OpQ.move rfl) ?_
 refine Wl.q rfl rfl (OpQ.nilCheckP rfl) ?_
 refine Wl.q rfl rfl (OpQ.fieldAddr K17_fa68_0 rfl) ?_
 refine Wl.q rfl rfl (OpQ.fieldAddr K17_fa43_0 rfl) ?_
 refine Wl.know 13 rfl (add_ptr _ _ _) ?_
 refine Wl.g rfl rfl (OpG.storeRow (a := some ⟨b8, 0, none⟩) K17_sz3 rfl rfl rfl (by repeat (first | exact Upd.here | apply Upd.there)) (by simp)) ?_
 rintro _ _
 refine Wl.nil (PX.then_n (CT.seq (CT.region ?_)))
 refine Wl.q rfl rfl (OpQ.move rfl) ?_
 refine Wl.q rfl rfl (OpQ.loadV (b := b2) K17_ag24 K17_sz24 rfl (by repeat (first | exact Has.here | apply Has.there)) (by rfl)) ?_
 refine Wl.know 15 (v' := evv v) rfl rfl ?_
 refine Wl.g rfl rfl (OpG.callX K17_go59 rfl (.cons .here (.cons (.there (.there .here)) (.cons .here .nil))) (fun _ => (.cons (.cons (.cons .nil)))) (fun w hH hp => radd_spec w b8 b6 none 0 0 0 [] none 0 v hp (by decide) (hH.stays hv (.cons .here (.cons (.there (.there .here)) (.cons .here .nil)))) hvd rfl)) ?_
 rintro ⟨a16, c16⟩ _
 refine Wl.nil (PX.then_n (CT.seq (CT.region ?_)))
 refine Wl.q rfl rfl (OpQ.move rfl) ?_
 refine Wl.q rfl rfl (OpQ.assign rfl) ?_
 refine Wl.nil (PX.then_n (CT.ret ?_))
 refine PX.ret1 rfl rfl (fun w' hH => ?_)
 exact ⟨(b8, b6, a16, c16), trivial, rfl, HOk.post (hH.take (.cons .here (.cons .here (.cons .here .nil))))⟩

theorem K17_fa43_3 : fieldB Tryz.prog 43 3 = some 3 := by kernel_rfl
theorem K17_sc3 : scalarB Tryz.prog 3 = some true := by kernel_rfl
set_option maxRecDepth 100000 in
/-- (*semigroup/derive.run).finished -/
theorem rfin_spec (w : World) (b : Nat) (z0 z2 z4 : Value) (a : Option Addr) (n c : Nat) (dn : Int) (hpre : Pre [.row 68 5 (vb b) 1 [z0, .slice a n c, z2, .int .i64 dn, z4]] w) : Calls Tryz.prog 34 #[.pointer (some ⟨b, 0, none⟩)] w (fun e w' => ∃ _i : Unit, True ∧ e = .returned (.bool (decide (dn = ((n : Nat) : Int)))) ∧ Post [b] [.row 68 5 (vb b) 1 [z0, .slice a n c, z2, .int .i64 dn, z4]] w w') := by
 refine enterX (args := [.pointer (some ⟨b, 0, none⟩)]) hpre 15 Tryz.func34 rfl rfl rfl ?_
 refine CT.seq (CT.region ?_)
 refine Wl.q rfl rfl (OpQ.assign rfl) ?_
 refine Wl.nil (PX.then_n (CT.seq ?_))
 refine CT.draw 13 K17_mixed ?_
 refine RA.q 0 (by kernel_rfl) rfl rfl rfl (.refl _) (OpQ.move rfl) ?_
 refine RA.q 1 (by kernel_rfl) rfl rfl rfl (.refl _) (OpQ.nilCheckP rfl) ?_
 refine RA.q 2 (by kernel_rfl) rfl rfl rfl (.refl _) (OpQ.fieldAddr K17_fa68_0 rfl) ?_
 refine RA.q 3 (by kernel_rfl) rfl rfl rfl (.refl _) (OpQ.fieldAddr K17_fa43_3 rfl) ?_
 refine RA.know 6 rfl (add_ptr _ _ _) ?_
 refine RA.q 4 (by kernel_rfl) rfl rfl rfl (.refl _) (OpQ.loadF (b := b) K17_sc3 rfl (by repeat (first | exact Has.here | apply Has.there)) (by rfl)) ?_
 refine RA.q 5 (by kernel_rfl) rfl rfl rfl (.refl _) (OpQ.move rfl) ?_
 refine RA.q 6 (by kernel_rfl) rfl rfl rfl (.refl _) (OpQ.nilCheckP rfl) ?_
 refine RA.q 7 (by kernel_rfl) rfl rfl rfl (.refl _) (OpQ.fieldAddr K17_fa68_0 rfl) ?_
 refine RA.q 8 (by kernel_rfl) rfl rfl rfl (.refl _) (OpQ.fieldAddr K17_fa43_1 rfl) ?_
 refine RA.know 11 rfl (add_ptr _ _ _) ?_
 refine RA.q 9 (by kernel_rfl) rfl rfl rfl (.refl _) (OpQ.loadF (b := b) K17_sc22 rfl (by repeat (first | exact Has.here | apply Has.there)) (by rfl)) ?_
 refine RA.q 10 (by kernel_rfl) rfl rfl rfl (.refl _) (OpQ.len K17_un22 rfl) ?_
 refine RA.q 11 (by kernel_rfl) rfl rfl rfl (.refl _) (OpQ.eql rfl rfl) ?_
 refine RA.q 12 (by kernel_rfl) rfl rfl rfl (.refl _) (OpQ.assign rfl) ?_
 refine RA.tail ?_
 refine RT.done (by kernel_rfl) ?_
 refine PX.then_n (CT.ret ?_)
 refine PX.ret1 rfl rfl (fun w' hH => ?_)
 exact ⟨(), trivial, rfl, hH.post⟩

end Go.Proofs.YtmggcdegekbncabGreatDoor

