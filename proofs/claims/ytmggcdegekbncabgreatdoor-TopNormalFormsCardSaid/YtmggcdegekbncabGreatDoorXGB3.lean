/-
  What functions of the program compute, each by its walk. Conditions: those that each theorem names.
-/
import Derived.Test.YtmggcdegekbncabGreatDoorMod
import Derived.Test.YtmggcdegekbncabGreatDoorXGB2
import Derived.Test.YtmggcdegekbncabGreatDoorXF
set_option linter.unusedSimpArgs false
namespace Go.Proofs.YtmggcdegekbncabGreatDoor
open Go Go.Eng Go.Am
open Go.Tp (zi)
open Go.Tl (mayL Wd okW okB bo)
theorem K3_sc28 : scalarB Tryz.prog 28 = some true := by kernel_rfl
theorem K3_fa30_3 : fieldB Tryz.prog 30 3 = some 3 := by kernel_rfl
theorem K3_un28 : Tryz.prog.underlying 28 = some (.slice 62) := by kernel_rfl
theorem K3_sz62 : sizeB Tryz.prog 62 = some 1 := by kernel_rfl
theorem K3_sc62 : scalarB Tryz.prog 62 = some true := by kernel_rfl
theorem K3_un62 : Tryz.prog.underlying 62 = some (.slice 3) := by kernel_rfl
theorem K3_sz3 : sizeB Tryz.prog 3 = some 1 := by kernel_rfl
theorem K3_sc3 : scalarB Tryz.prog 3 = some true := by kernel_rfl
set_option maxRecDepth 100000 in
/-- semigroup/dfa.Trim$1 -/
theorem trim1_spec (w : World) (D : Dv) (hD : Stays [] w (dvm D))(b : Nat) (hb : Stays [] w (fun w => Rd w (some ⟨b, 0, none⟩) (dvc D))) (hv : D.Ok) (q x : Nat) (hq : q < D.fin.length) (hx : (x : Int) < D.L) : Calls Tryz.prog 80 #[.int .i64 ((q : Nat) : Int), .int .i64 ((x : Nat) : Int), .pointer (some ⟨b, 0, none⟩)] w (fun e w' => e = .returned (.int .i64 ((D.da.to q x : Nat) : Int)) ∧ Ext [] w w') := by
 have hns : 0 < D.rs.length → D.na.isSome = true := fun h => hD.now.2.1.isSome (j := 0) (by rw [List.length_map]; exact h)
 have hrs : ∀ q, q < D.rs.length → 0 < (D.rs.getD q rw0).xs.length → (D.rs.getD q rw0).a.isSome = true := fun q hq h => (hD.now.2.2 _ (getDm hq)).isSome (j := 0) (by rw [List.length_map]; exact h)
 have hlen := hv.len
 have hrw := (hv.row q hq).1
 refine enter (args := [.int .i64 ((q : Nat) : Int), .int .i64 ((x : Nat) : Int), .pointer (some ⟨b, 0, none⟩)]) [] 14 Tryz.func80 rfl rfl rfl ?_
 refine CT.seq (CT.region ?_)
 refine Wl.q rfl rfl (OpQ.assign rfl) ?_
 refine Wl.nil (PX.then_n (CT.seq (CT.region ?_)))
 refine Wl.q rfl rfl (OpQ.fieldAddr K3_fa30_3 rfl) ?_
 refine Wl.q rfl rfl (OpQ.loadG (a := some ⟨b, 0, none⟩) (j := 3) K3_sc28 rfl (fun w hH => hH.use hb) rfl) ?_
 refine Wl.q rfl rfl (OpQ.move rfl) ?_
 refine Wl.q rfl rfl (OpQ.index1 K3_un28 K3_sz62 rfl rfl (by omega) (hns (by omega))) ?_
 refine Wl.q rfl rfl (OpQ.loadG K3_sc62 rfl (fun w hH => (hH.use hD).2.1) (getMap rv D.rs rw0 (j := q) (by omega))) ?_
 refine Wl.q rfl rfl (OpQ.move rfl) ?_
 refine Wl.q rfl rfl (OpQ.index1 K3_un62 K3_sz3 rfl rfl (by omega) (hrs q (by omega) (by omega))) ?_
 refine Wl.q rfl rfl (OpQ.loadG K3_sc3 rfl (fun w hH => (hH.use hD).2.2 _ (getDm (show q < D.rs.length by omega))) (getMap zz (D.rs.getD q rw0).xs 0 (j := x) (by omega))) ?_
 refine Wl.know 13 (v' := .int .i64 ((D.da.to q x : Nat) : Int)) rfl (congrArg (Value.int .i64) (hv.to hq hx)) ?_
 refine Wl.q rfl rfl (OpQ.assign rfl) ?_
 refine Wl.nil (PX.then_n (CT.ret ?_))
 refine PX.ret1 rfl rfl (fun w' hH => ?_)
 exact ⟨rfl, hH.ext⟩

theorem K3_sc27 : scalarB Tryz.prog 27 = some true := by kernel_rfl
theorem K3_fa30_2 : fieldB Tryz.prog 30 2 = some 2 := by kernel_rfl
theorem K3_un27 : Tryz.prog.underlying 27 = some (.slice 4) := by kernel_rfl
theorem K3_sz4 : sizeB Tryz.prog 4 = some 1 := by kernel_rfl
theorem K3_sc4 : scalarB Tryz.prog 4 = some true := by kernel_rfl
set_option maxRecDepth 100000 in
/-- semigroup/dfa.Trim$2 -/
theorem trim2_spec (w : World) (D : Dv) (hD : Stays [] w (dvm D))(b : Nat) (hb : Stays [] w (fun w => Rd w (some ⟨b, 0, none⟩) (dvc D))) (q : Nat) (hq : q < D.fin.length) : Calls Tryz.prog 81 #[.int .i64 ((q : Nat) : Int), .pointer (some ⟨b, 0, none⟩)] w (fun e w' => e = .returned (.bool (D.da.fi q)) ∧ Ext [] w w') := by
 have hfs : 0 < D.fin.length → D.fa.isSome = true := fun h => hD.now.1.isSome (j := 0) (by rw [List.length_map]; exact h)
 refine enter (args := [.int .i64 ((q : Nat) : Int), .pointer (some ⟨b, 0, none⟩)]) [] 9 Tryz.func81 rfl rfl rfl ?_
 refine CT.seq (CT.region ?_)
 refine Wl.q rfl rfl (OpQ.assign rfl) ?_
 refine Wl.nil (PX.then_n (CT.seq (CT.region ?_)))
 refine Wl.q rfl rfl (OpQ.fieldAddr K3_fa30_2 rfl) ?_
 refine Wl.q rfl rfl (OpQ.loadG (a := some ⟨b, 0, none⟩) (j := 2) K3_sc27 rfl (fun w hH => hH.use hb) rfl) ?_
 refine Wl.q rfl rfl (OpQ.move rfl) ?_
 refine Wl.q rfl rfl (OpQ.index1 K3_un27 K3_sz4 rfl rfl (by omega) (hfs (by omega))) ?_
 refine Wl.q rfl rfl (OpQ.loadG K3_sc4 rfl (fun w hH => (hH.use hD).1) (getMap bo D.fin false (j := q) (by omega))) ?_
 refine Wl.know 8 (v' := .bool (D.da.fi q)) rfl rfl ?_
 refine Wl.q rfl rfl (OpQ.assign rfl) ?_
 refine Wl.nil (PX.then_n (CT.ret ?_))
 refine PX.ret1 rfl rfl (fun w' hH => ?_)
 exact ⟨rfl, hH.ext⟩

theorem K3_mkN : MapKey Tryz.prog 3 zn := MapKey.nat (by kernel_rfl)
theorem K3_un153 : Tryz.prog.underlying 153 = some (.map 3 3) := by kernel_rfl
theorem K3_in3 : (Tryz.prog.info? 3).map (fun i => (i.zero, i.size, i.bytes)) = some (some (.int .i64 0), 1, 8) := by kernel_rfl
theorem K3_fa155_1 : fieldB Tryz.prog 155 1 = some 1 := by kernel_rfl
theorem K3_sc153 : scalarB Tryz.prog 153 = some true := by kernel_rfl
theorem K3_sz153 : sizeB Tryz.prog 153 = some 1 := by kernel_rfl
theorem K3_fa155_0 : fieldB Tryz.prog 155 0 = some 0 := by kernel_rfl
set_option maxRecDepth 100000 in
/-- (*semigroup/dfa.numbering[int]).of -/
theorem nof0_spec (w : World) (b : Nat) (hpre : Pre [.row 155 2 (vb b) 1 [.slice none 0 0, .map none]] w) (x : Nat) : Calls Tryz.prog 110 #[.pointer (some ⟨b, 0, none⟩), .int .i64 ((x : Nat) : Int)] w (fun e w' => ∃ i : Nat × Option Addr × Nat, True ∧ e = .returned (.int .i64 ((0 : Nat) : Int)) ∧ Post (blks [.row 155 2 (vb b) 1 [.slice none 0 0, .map none]]) [.row 155 2 (vb b) 1 [.slice i.2.1 [x].length i.2.2, .map (some i.1)], .row 3 1 (.slice i.2.1 [x].length i.2.2) [x].length ([x].map zn), .blk i.1 (mapO zn (itA 0 [x]))] w w') := by
 refine enterX (args := [.pointer (some ⟨b, 0, none⟩), .int .i64 ((x : Nat) : Int)]) hpre 49 Tryz.func110 rfl rfl rfl ?_
 refine CT.nilrow 3 1 ?_
 refine CT.seq (CT.region ?_)
 refine Wl.q rfl rfl (OpQ.assign rfl) ?_
 refine Wl.nil (PX.then_n (CT.seq (CT.region ?_)))
 refine Wl.q rfl rfl (OpQ.move rfl) ?_
 refine Wl.q rfl rfl (OpQ.nilCheckP rfl) ?_
 refine Wl.q rfl rfl (OpQ.fieldAddr K3_fa155_1 rfl) ?_
 refine Wl.q rfl rfl (OpQ.loadF (b := b) K3_sc153 rfl (by repeat (first | exact Has.here | apply Has.there)) (by rfl)) ?_
 refine Wl.q rfl rfl (OpQ.move rfl) ?_
 refine Wl.q rfl rfl (OpQ.lookupNil (f := zn) (x := x) K3_mkN K3_un153 K3_in3 rfl rfl rfl) ?_
 refine Wl.q rfl rfl (OpQ.move rfl) ?_
 refine Wl.q rfl rfl (OpQ.extract rfl rfl) ?_
 refine Wl.q rfl rfl (OpQ.extract rfl rfl) ?_
 refine Wl.q rfl rfl (OpQ.assign rfl) ?_
 refine Wl.q rfl rfl (OpQ.assign rfl) ?_
 refine Wl.nil (PX.then_n (CT.seq (CT.seq (CT.region ?_))))
 refine Wl.q rfl rfl (OpQ.move rfl) ?_
 refine Wl.q rfl rfl (OpQ.not rfl) ?_
 refine Wl.know 17 (v' := .bool true) rfl (congrArg Value.bool rfl) ?_
 refine Wl.nil (PX.then_n ?_)
 refine CT.condT rfl ?_
 refine CT.seq (CT.seq (CT.region ?_))
 refine Wl.q rfl rfl (OpQ.move rfl) ?_
 refine Wl.q rfl rfl (OpQ.nilCheckP rfl) ?_
 refine Wl.q rfl rfl (OpQ.fieldAddr K3_fa155_1 rfl) ?_
 refine Wl.q rfl rfl (OpQ.loadF (b := b) K3_sc153 rfl (by repeat (first | exact Has.here | apply Has.there)) (by rfl)) ?_
 refine Wl.q rfl rfl (OpQ.mapNil K3_un153 rfl rfl) ?_
 refine Wl.know 22 (v' := .bool true) rfl (congrArg Value.bool rfl) ?_
 refine Wl.nil (PX.then_n ?_)
 refine CT.condT rfl ?_
 refine CT.region ?_
 refine Wl.q rfl rfl (OpQ.move rfl) ?_
 refine Wl.g rfl rfl (OpG.makeMap (f := zn)) ?_
 rintro b24 _
 refine Wl.q rfl rfl (OpQ.nilCheckP rfl) ?_
 refine Wl.q rfl rfl (OpQ.fieldAddr K3_fa155_1 rfl) ?_
 refine Wl.g rfl rfl (OpG.storeRow (a := some ⟨b, 0, none⟩) K3_sz153 rfl rfl rfl (by repeat (first | exact Upd.here | apply Upd.there)) (by simp)) ?_
 rintro _ _
 refine Wl.nil (PX.then_n (CT.seq (CT.region ?_)))
 refine Wl.q rfl rfl (OpQ.move rfl) ?_
 refine Wl.q rfl rfl (OpQ.nilCheckP rfl) ?_
 refine Wl.q rfl rfl (OpQ.fieldAddr K3_fa155_0 rfl) ?_
 refine Wl.q rfl rfl (OpQ.loadF (b := b) K3_sc62 rfl (by repeat (first | exact Has.here | apply Has.there)) (by rfl)) ?_
 refine Wl.q rfl rfl (OpQ.len K3_un62 rfl) ?_
 refine Wl.q rfl rfl (OpQ.assign rfl) ?_
 refine Wl.nil (PX.then_n (CT.seq (CT.region ?_)))
 refine Wl.q rfl rfl (OpQ.move rfl) ?_
 refine Wl.q rfl rfl (OpQ.nilCheckP rfl) ?_
 refine Wl.q rfl rfl (OpQ.fieldAddr K3_fa155_1 rfl) ?_
 refine Wl.q rfl rfl (OpQ.loadF (b := b) K3_sc153 rfl (by repeat (first | exact Has.here | apply Has.there)) (by rfl)) ?_
 refine Wl.q rfl rfl (OpQ.move rfl) ?_
 refine Wl.q rfl rfl (OpQ.move rfl) ?_
 refine Wl.g rfl rfl (OpG.mapNew (f := zn) (x := x) (l := []) K3_mkN K3_un153 rfl rfl rfl rfl (by repeat (first | exact Upd.here | apply Upd.there))) ?_
 rintro _ _
 refine Wl.nil (PX.then_n (CT.region ?_))
 refine Wl.q rfl rfl (OpQ.move rfl) ?_
 refine Wl.q rfl rfl (OpQ.move rfl) ?_
 refine Wl.q rfl rfl (OpQ.nilCheckP rfl) ?_
 refine Wl.q rfl rfl (OpQ.fieldAddr K3_fa155_0 rfl) ?_
 refine Wl.q rfl rfl (OpQ.loadF (b := b) K3_sc62 rfl (by repeat (first | exact Has.here | apply Has.there)) (by rfl)) ?_
 refine Wl.q rfl rfl (OpQ.move rfl) ?_
 refine Wl.g rfl rfl (OpG.lit1 K3_un62 K3_in3 rfl rfl rfl) ?_
 rintro b44 _
 refine Wl.g rfl rfl (OpG.append K3_un62 K3_in3 (by rfl) (by decide) rfl rfl (p := 2) rfl (fun w hH => hH.rd .here) ⟨rfl, (by simp [Value.oneCell']), (by simp), (by simp)⟩ (nm := 1) rfl (all := [zn x]) rfl) ?_
 rintro ⟨a45, c45⟩ h45
 refine Wl.q rfl rfl (OpQ.nilCheckP rfl) ?_
 refine Wl.q rfl rfl (OpQ.fieldAddr K3_fa155_0 rfl) ?_
 refine Wl.g rfl rfl (OpG.storeRow (a := some ⟨b, 0, none⟩) K3_sz62 rfl rfl rfl (by repeat (first | exact Upd.here | apply Upd.there)) (by simp)) ?_
 rintro _ _
 refine Wl.nil (PX.then_n (CT.seq (CT.region ?_)))
 refine Wl.q rfl rfl (OpQ.move rfl) ?_
 refine Wl.q rfl rfl (OpQ.assign rfl) ?_
 refine Wl.nil (PX.then_n (CT.ret ?_))
 refine PX.ret1 rfl rfl (fun w' hH => ?_)
 exact ⟨(b24, a45, c45), trivial, rfl, (HOk.post (hH.take (.cons (.there (.there (.there .here))) (.cons (.there (.there .here)) (.cons (.there .here) .nil)))))⟩

set_option maxRecDepth 100000 in
/-- (*semigroup/dfa.numbering[int]).of -/
theorem nof_spec (w : World) (b m : Nat) (l : List Nat) (a : Option Addr) (c : Nat) (hpre : Pre [.row 155 2 (vb b) 1 [.slice a l.length c, .map (some m)], .row 3 1 (.slice a l.length c) l.length (l.map zn), .blk m (mapO zn (itA 0 l))] w) (hlen : l.length ≤ 200000) (x : Nat) : Calls Tryz.prog 110 #[.pointer (some ⟨b, 0, none⟩), .int .i64 ((x : Nat) : Int)] w (fun e w' => ∃ i : Option Addr × Nat, True ∧ e = .returned (.int .i64 (((addN l x).2 : Nat) : Int)) ∧ Post (blks [.row 155 2 (vb b) 1 [.slice a l.length c, .map (some m)], .row 3 1 (.slice a l.length c) l.length (l.map zn), .blk m (mapO zn (itA 0 l))]) [.row 155 2 (vb b) 1 [.slice i.1 (addN l x).1.length i.2, .map (some m)], .row 3 1 (.slice i.1 (addN l x).1.length i.2) (addN l x).1.length ((addN l x).1.map zn), .blk m (mapO zn (itA 0 (addN l x).1))] w w') := by
 refine enterX (args := [.pointer (some ⟨b, 0, none⟩), .int .i64 ((x : Nat) : Int)]) hpre 49 Tryz.func110 rfl rfl rfl ?_
 refine CT.seq (CT.region ?_)
 refine Wl.q rfl rfl (OpQ.assign rfl) ?_
 refine Wl.nil (PX.then_n (CT.seq (CT.region ?_)))
 refine Wl.q rfl rfl (OpQ.move rfl) ?_
 refine Wl.q rfl rfl (OpQ.nilCheckP rfl) ?_
 refine Wl.q rfl rfl (OpQ.fieldAddr K3_fa155_1 rfl) ?_
 refine Wl.q rfl rfl (OpQ.loadF (b := b) K3_sc153 rfl (by repeat (first | exact Has.here | apply Has.there)) (by rfl)) ?_
 refine Wl.q rfl rfl (OpQ.move rfl) ?_
 refine Wl.q rfl rfl (OpQ.lookup (f := zn) (x := x) (l := (itA 0 l)) K3_mkN K3_un153 K3_in3 rfl rfl (by repeat (first | exact Has.here | apply Has.there)) (by rw [if_pos rfl, getA_itA, ix_val, ix_is])) ?_
 refine Wl.q rfl rfl (OpQ.move rfl) ?_
 refine Wl.q rfl rfl (OpQ.extract rfl rfl) ?_
 refine Wl.q rfl rfl (OpQ.extract rfl rfl) ?_
 refine Wl.q rfl rfl (OpQ.assign rfl) ?_
 refine Wl.q rfl rfl (OpQ.assign rfl) ?_
 refine Wl.nil (PX.then_n (CT.seq (CT.seq (CT.region ?_))))
 refine Wl.q rfl rfl (OpQ.move rfl) ?_
 refine Wl.q rfl rfl (OpQ.not rfl) ?_
 refine Wl.nil (PX.then_n ?_)
 refine CT.cond rfl (fun h17 => ?_) (fun h17 => ?_)
 ·
  have hix : (ixA x 0 l) = none := by simpa using h17
  have hnx := ixA_none hix
  refine CT.seq (CT.seq (CT.region ?_))
  refine Wl.q rfl rfl (OpQ.move rfl) ?_
  refine Wl.q rfl rfl (OpQ.nilCheckP rfl) ?_
  refine Wl.q rfl rfl (OpQ.fieldAddr K3_fa155_1 rfl) ?_
  refine Wl.q rfl rfl (OpQ.loadF (b := b) K3_sc153 rfl (by repeat (first | exact Has.here | apply Has.there)) (by rfl)) ?_
  refine Wl.q rfl rfl (OpQ.mapNil K3_un153 rfl rfl) ?_
  refine Wl.know 22 (v' := .bool false) rfl (congrArg Value.bool rfl) ?_
  refine Wl.nil (PX.then_n ?_)
  refine CT.condF rfl ?_
  refine CT.skip (PX.then_n (CT.seq (CT.region ?_)))
  refine Wl.q rfl rfl (OpQ.move rfl) ?_
  refine Wl.q rfl rfl (OpQ.nilCheckP rfl) ?_
  refine Wl.q rfl rfl (OpQ.fieldAddr K3_fa155_0 rfl) ?_
  refine Wl.q rfl rfl (OpQ.loadF (b := b) K3_sc62 rfl (by repeat (first | exact Has.here | apply Has.there)) (by rfl)) ?_
  refine Wl.q rfl rfl (OpQ.len K3_un62 rfl) ?_
  refine Wl.q rfl rfl (OpQ.assign rfl) ?_
  refine Wl.nil (PX.then_n (CT.seq (CT.region ?_)))
  refine Wl.q rfl rfl (OpQ.move rfl) ?_
  refine Wl.q rfl rfl (OpQ.nilCheckP rfl) ?_
  refine Wl.q rfl rfl (OpQ.fieldAddr K3_fa155_1 rfl) ?_
  refine Wl.q rfl rfl (OpQ.loadF (b := b) K3_sc153 rfl (by repeat (first | exact Has.here | apply Has.there)) (by rfl)) ?_
  refine Wl.q rfl rfl (OpQ.move rfl) ?_
  refine Wl.q rfl rfl (OpQ.move rfl) ?_
  refine Wl.g rfl rfl (OpG.mapNew (f := zn) (x := x) (l := (itA 0 l)) K3_mkN K3_un153 rfl rfl rfl (by rw [getA_itA, hix]; rfl) (by repeat (first | exact Upd.here | apply Upd.there))) ?_
  rintro _ _
  refine Wl.nil (PX.then_n (CT.region ?_))
  refine Wl.q rfl rfl (OpQ.move rfl) ?_
  refine Wl.q rfl rfl (OpQ.move rfl) ?_
  refine Wl.q rfl rfl (OpQ.nilCheckP rfl) ?_
  refine Wl.q rfl rfl (OpQ.fieldAddr K3_fa155_0 rfl) ?_
  refine Wl.q rfl rfl (OpQ.loadF (b := b) K3_sc62 rfl (by repeat (first | exact Has.here | apply Has.there)) (by rfl)) ?_
  refine Wl.q rfl rfl (OpQ.move rfl) ?_
  refine Wl.g rfl rfl (OpG.lit1 K3_un62 K3_in3 rfl rfl rfl) ?_
  rintro b44 _
  refine Wl.g rfl rfl (OpG.append K3_un62 K3_in3 (by rfl) (by decide) rfl rfl (p := 2) rfl (fun w hH => hH.rd .here) ⟨rfl, (by simp [Value.oneCell']), (by omega), (by omega)⟩ (nm := l.length + 1) rfl (all := (l ++ [x]).map zn) (by simp)) ?_
  rintro ⟨a45, c45⟩ h45
  refine Wl.q rfl rfl (OpQ.nilCheckP rfl) ?_
  refine Wl.q rfl rfl (OpQ.fieldAddr K3_fa155_0 rfl) ?_
  refine Wl.g rfl rfl (OpG.storeRow (a := some ⟨b, 0, none⟩) K3_sz62 rfl rfl rfl (by repeat (first | exact Upd.here | apply Upd.there)) (by simp)) ?_
  rintro _ _
  refine Wl.nil (PX.then_n (CT.seq (CT.region ?_)))
  refine Wl.q rfl rfl (OpQ.move rfl) ?_
  refine Wl.q rfl rfl (OpQ.assign rfl) ?_
  refine Wl.nil (PX.then_n (CT.ret ?_))
  refine PX.ret1 rfl rfl (fun w' hH => ?_)
  rw [addN_out hnx]
  exact ⟨(a45, c45), trivial, rfl, (HOk.post (hH.take (.cons (.there .here) (.cons (.there .here) (.cons (.there .here) .nil))))).conv (by dsimp only; rw [itA_snoc, List.length_append, Nat.zero_add]; exact HSub.refl _)⟩
 ·
  obtain ⟨j, hix⟩ : ∃ j, (ixA x 0 l) = some j := Option.isSome_iff_exists.1 (by simpa using h17)
  have hmx : x ∈ l := Classical.byContradiction fun hh => by rw [ixA_out l x 0 hh] at hix; cases hix
  have hj : 0 + l.idxOf x = j := Option.some.inj ((ixA_idx l x 0 hmx).symm.trans hix)
  refine CT.skip (PX.then_n (CT.seq (CT.region ?_)))
  refine Wl.q rfl rfl (OpQ.move rfl) ?_
  refine Wl.q rfl rfl (OpQ.assign rfl) ?_
  refine Wl.nil (PX.then_n (CT.ret ?_))
  refine PX.ret1 rfl rfl (fun w' hH => ?_)
  rw [addN_in hmx]
  exact ⟨(a, c), trivial, by rw [hix, ← hj, Nat.zero_add]; rfl, HOk.post hH⟩

theorem K3_in30 : (Tryz.prog.info? 30).map (fun i => (i.zero, i.size, i.bytes)) = some (some (.agg #[.int .i64 0, .int .i64 0, .slice none 0 0, .slice none 0 0]), 4, 64) := by kernel_rfl
theorem K3_in155 : (Tryz.prog.info? 155).map (fun i => (i.zero, i.size, i.bytes)) = some (some (.agg #[.slice none 0 0, .map none]), 2, 32) := by kernel_rfl
theorem K3_go110 : isGo Tryz.prog 110 = true := by kernel_rfl
theorem K3_pl30 : placesB Tryz.prog 30 = some (#[.int .i64 0, .int .i64 0, .slice none 0 0, .slice none 0 0], [(0, 1), (1, 1), (2, 1), (3, 1)]) := by kernel_rfl
theorem K3_sz30 : sizeB Tryz.prog 30 = some 4 := by kernel_rfl
theorem K3_in62 : (Tryz.prog.info? 62).map (fun i => (i.zero, i.size, i.bytes)) = some (some (.slice none 0 0), 1, 24) := by kernel_rfl
theorem K3_sz28 : sizeB Tryz.prog 28 = some 1 := by kernel_rfl
theorem K3_mixed : Tryz.prog.follows .mixedOrders = true := by kernel_rfl
theorem K3_in4 : (Tryz.prog.info? 4).map (fun i => (i.zero, i.size, i.bytes)) = some (some (.bool false), 1, 1) := by kernel_rfl
theorem K3_sz27 : sizeB Tryz.prog 27 = some 1 := by kernel_rfl
theorem K3_ag30 : isAggB Tryz.prog 30 = some true := by kernel_rfl
set_option maxRecDepth 100000 in
/-- semigroup/dfa.explore[int] -/
theorem explore_spec (w : World) (d : Da) (hL : 1 ≤ d.L ∧ d.L ≤ 6) (f1 f2 : FuncId) (caps1 caps2 : List Value) (g1 : isGo Tryz.prog f1 = true) (g2 : isGo Tryz.prog f2 = true) (hd : d.Ok) (hn : d.n ≤ 512) (hf1 : ∀ w1, Ext [] w w1 → ∀ q x, q < d.n → x < d.L → Calls Tryz.prog f1 ([zn q, zn x] ++ caps1).toArray w1 (fun e w2 => e = .returned (zn (d.to q x)) ∧ Ext [] w1 w2)) (hf2 : ∀ w1, Ext [] w w1 → ∀ q, q < d.n → Calls Tryz.prog f2 ([zn q] ++ caps2).toArray w1 (fun e w2 => e = .returned (.bool (d.fi q)) ∧ Ext [] w1 w2)) : Calls Tryz.prog 79 #[.int .i64 ((d.L : Nat) : Int), .int .i64 ((d.s : Nat) : Int), .func (.func f1) #[] caps1.toArray, .func (.func f2) #[] caps2.toArray] w (fun e w' => ∃ i : Nat × Dv × List Nat × Option Addr × Nat, (Done d.to d.L d.s i.1 ∧ i.2.1.Is (autoD d.to d.L d.s i.1 d.fi)) ∧ e = .returned (.tuple #[dvv i.2.1, .slice i.2.2.2.1 (bfs d.to d.L d.s i.1).length i.2.2.2.2, .int .i64 0]) ∧ Post [] [.frag i.2.2.1 (dvm i.2.1), .row 3 1 (.slice i.2.2.2.1 (bfs d.to d.L d.s i.1).length i.2.2.2.2) (bfs d.to d.L d.s i.1).length ((bfs d.to d.L d.s i.1).map zn)] w w') := by
 have hlen : ∀ k, (bfs d.to d.L d.s k).length ≤ 512 := fun k => Nat.le_trans (bfs_len hd hL.1 k) hn
 refine enter (args := [.int .i64 ((d.L : Nat) : Int), .int .i64 ((d.s : Nat) : Int), .func (.func f1) #[] caps1.toArray, .func (.func f2) #[] caps2.toArray]) [] 71 Tryz.func79 rfl rfl rfl ?_
 refine CT.seq (CT.region ?_)
 refine Wl.g rfl rfl (OpG.alloc (zs := [.int .i64 0, .int .i64 0, .slice none 0 0, .slice none 0 0]) K3_in30 rfl rfl) ?_
 rintro b8 _
 refine Wl.q rfl rfl (OpQ.assign rfl) ?_
 refine Wl.q rfl rfl (OpQ.assign rfl) ?_
 refine Wl.nil (PX.then_n (CT.seq (CT.region ?_)))
 refine Wl.g rfl rfl (OpG.alloc (zs := [.slice none 0 0, .map none]) K3_in155 rfl rfl) ?_
 rintro b11 _
 refine Wl.nil (PX.then_n (CT.seq (CT.region ?_)))
 refine Wl.q rfl rfl (OpQ.move rfl) ?_
 refine Wl.g rfl rfl (OpG.callX K3_go110 rfl (.cons .here .nil) (fun _ => (.cons (.cons (.cons .nil)))) (fun w hH hp => nof0_spec w b11 hp d.s)) ?_
 rintro ⟨m, a0, c0⟩ _
 refine Wl.nil (PX.then_n (CT.seq (CT.region ?_)))
 refine Wl.q rfl rfl (OpQ.move rfl) ?_
 refine Wl.q rfl rfl (OpQ.build (cells := #[_, .int .i64 0, .slice none 0 0, .slice none 0 0]) K3_pl30 rfl rfl) ?_
 refine Wl.g rfl rfl (OpG.alloc (zs := [.int .i64 0, .int .i64 0, .slice none 0 0, .slice none 0 0]) K3_in30 rfl rfl) ?_
 rintro b12 _
 refine Wl.g rfl rfl (OpG.storeV (b := b12) K3_sz30 rfl rfl rfl rfl (by repeat (first | exact Upd.here | apply Upd.there))) ?_
 rintro _ _
 refine Wl.nil (PX.then_n (CT.seq (CT.seq (CT.region ?_))))
 refine Wl.q rfl rfl (OpQ.assign rfl) ?_
 refine Wl.nil (PX.then_n (CT.block ?_))
 refine CT.nilrow 4 1 ?_
 refine CT.nilrow 62 1 ?_
 refine CT.as (fun _ h => h.bind0 (p := rws []) (rws_nil)) ?_
 refine CT.as (fun _ h => h.take (.cons .here (.cons (.there .here) (.cons .here (.cons .here (.cons .here (.cons .here (.cons .here (.cons .here .nil))))))))) ?_
 refine CT.loop (ι := Nat × Option Addr × Nat × Option Addr × Nat × List Bool × Option Addr × Nat × List Rw × List Nat) (fun (i, a', c', fa', fc', fl, na', nc', rs, bs) => Going d.to d.L d.s (i * d.L) ∧ i ≤ (bfs d.to d.L d.s (i * d.L)).length ∧ fl = ((bfs d.to d.L d.s (i * d.L)).take i).map d.fi ∧ XRows d.to d.L d.s (bfs d.to d.L d.s (i * d.L)) i (rs.map (·.xs))) (fun (i, a', c', fa', fc', fl, na', nc', rs, bs) => [(0, .int .i64 ((d.L : Nat) : Int)), (2, .func (.func f1) #[] caps1.toArray), (3, .func (.func f2) #[] caps2.toArray), (8, .pointer (some ⟨b8, 0, none⟩)), (11, .pointer (some ⟨b11, 0, none⟩)), (12, .pointer (some ⟨b12, 0, none⟩)), (13, .int .i64 ((i : Nat) : Int))]) (fun (i, a', c', fa', fc', fl, na', nc', rs, bs) => [.frag bs (rws rs), .row 4 1 (.slice fa' i fc') i (fl.map bo), .row 62 1 (.slice na' i nc') i (rs.map rv), .row 30 4 (vb b12) 1 [.int .i64 ((d.L : Nat) : Int), .int .i64 0, .slice fa' i fc', .slice na' i nc'], .row 155 2 (vb b11) 1 [.slice a' (bfs d.to d.L d.s (i * d.L)).length c', .map (some m)], .row 3 1 (.slice a' (bfs d.to d.L d.s (i * d.L)).length c') (bfs d.to d.L d.s (i * d.L)).length ((bfs d.to d.L d.s (i * d.L)).map zn), .blk m (mapO zn (itA 0 (bfs d.to d.L d.s (i * d.L)))), .row 30 4 (vb b8) 1 [.int .i64 0, .int .i64 0, .slice none 0 0, .slice none 0 0]]) (fun (i, a', c', fa', fc', fl, na', nc', rs, bs) => d.n - i) (0, a0, c0, none, 0, [], none, 0, [], []) ⟨by rw [Nat.zero_mul]; exact Going.zero, Nat.zero_le _, rfl, XRows.start _⟩ ⟨rfl, rfl, rfl, rfl, rfl, rfl, rfl, trivial⟩ (by dsimp only; rw [Nat.zero_mul]; exact HSub.refl _) (fun ⟨i, a', c', fa', fc', fl, na', nc', rs, bs⟩ ⟨hg, hi, hfl, hrows⟩ K0 hK0 => ?_)
 dsimp only
 refine CT.fact (p := a'.isSome = true) (fun w hH => (hH.rd (.there (.there (.there (.there (.there .here)))))).isSome (j := 0) (by rw [List.length_map]; exact bfs_pos _)) (fun hia => ?_)
 refine CT.seq (CT.seq (CT.region ?_))
 refine Wl.q rfl rfl (OpQ.move rfl) ?_
 refine Wl.q rfl rfl (OpQ.fieldAddr K3_fa155_0 rfl) ?_
 refine Wl.q rfl rfl (OpQ.loadF (b := b11) K3_sc62 rfl (by repeat (first | exact Has.here | apply Has.there)) (by rfl)) ?_
 refine Wl.q rfl rfl (OpQ.len K3_un62 rfl) ?_
 refine Wl.q rfl rfl (OpQ.lss rfl rfl) ?_
 refine Wl.nil (PX.then_n ?_)
 refine CT.cond rfl (fun h25 => ?_) (fun h25 => ?_)
 ·
  have h25 := of_decide_eq_true h25
  have hlt : i < (bfs d.to d.L d.s (i * d.L)).length := by omega
  have hia2 : ((bfs d.to d.L d.s (i * d.L)).getD i d.s) < d.n := bfs_lt hd hL.1 _ _ (getDm hlt)
  have hll := hlen (i * d.L)
  refine CT.skip (PX.then_n (CT.seq (CT.block (CT.seq (CT.region ?_)))))
  refine Wl.q rfl rfl (OpQ.fieldAddr K3_fa155_0 rfl) ?_
  refine Wl.q rfl rfl (OpQ.loadF (b := b11) K3_sc62 rfl (by repeat (first | exact Has.here | apply Has.there)) (by rfl)) ?_
  refine Wl.q rfl rfl (OpQ.move rfl) ?_
  refine Wl.q rfl rfl (OpQ.index1 K3_un62 K3_sz3 rfl rfl (by omega) hia) ?_
  refine Wl.q rfl rfl (OpQ.loadRow K3_sc3 rfl (.there (.there (.there (.there (.there .here))))) (getMap zn (bfs d.to d.L d.s (i * d.L)) d.s (j := i) hlt)) ?_
  refine Wl.know 32 (v' := .int .i64 ((((bfs d.to d.L d.s (i * d.L)).getD i d.s) : Nat) : Int)) rfl rfl ?_
  refine Wl.q rfl rfl (OpQ.assign rfl) ?_
  refine Wl.nil (PX.then_n (CT.seq (CT.region ?_)))
  refine Wl.q rfl rfl (OpQ.move rfl) ?_
  refine Wl.g rfl rfl (OpG.make1 K3_un62 K3_in3 rfl rfl rfl rfl (by omega) (by omega)) ?_
  rintro b34 _
  refine Wl.q rfl rfl (OpQ.assign rfl) ?_
  refine Wl.nil (PX.then_n (CT.seq (CT.seq (CT.region ?_))))
  refine Wl.q rfl rfl (OpQ.move rfl) ?_
  refine Wl.q rfl rfl (OpQ.len K3_un62 rfl) ?_
  refine Wl.q rfl rfl (OpQ.move rfl) ?_
  refine Wl.nil (PX.then_n (CT.block ?_))
  refine CT.loop (ι := Nat × Option Addr × Nat) (fun (x, a', c') => x ≤ d.L) (fun (x, a', c') => [(0, .int .i64 ((d.L : Nat) : Int)), (2, .func (.func f1) #[] caps1.toArray), (3, .func (.func f2) #[] caps2.toArray), (8, .pointer (some ⟨b8, 0, none⟩)), (11, .pointer (some ⟨b11, 0, none⟩)), (12, .pointer (some ⟨b12, 0, none⟩)), (13, .int .i64 ((i : Nat) : Int)), (14, .int .i64 ((((bfs d.to d.L d.s (i * d.L)).getD i d.s) : Nat) : Int)), (15, .slice (some ⟨b34, 0, none⟩) d.L d.L), (36, .int .i64 ((d.L : Nat) : Int)), (37, .int .i64 ((x : Nat) : Int))]) (fun (x, a', c') => [.row 3 1 (.slice (some ⟨b34, 0, none⟩) d.L d.L) d.L (((rowP d.to d.L (bfs d.to d.L d.s (i * d.L + x)) ((bfs d.to d.L d.s (i * d.L)).getD i d.s) x).map zz)), .frag bs (rws rs), .row 4 1 (.slice fa' i fc') i (fl.map bo), .row 62 1 (.slice na' i nc') i (rs.map rv), .row 30 4 (vb b12) 1 [.int .i64 ((d.L : Nat) : Int), .int .i64 0, .slice fa' i fc', .slice na' i nc'], .row 155 2 (vb b11) 1 [.slice a' (bfs d.to d.L d.s (i * d.L + x)).length c', .map (some m)], .row 3 1 (.slice a' (bfs d.to d.L d.s (i * d.L + x)).length c') (bfs d.to d.L d.s (i * d.L + x)).length ((bfs d.to d.L d.s (i * d.L + x)).map zn), .blk m (mapO zn (itA 0 (bfs d.to d.L d.s (i * d.L + x)))), .row 30 4 (vb b8) 1 [.int .i64 0, .int .i64 0, .slice none 0 0, .slice none 0 0]]) (fun (x, a', c') => d.L - x) (0, a', c') (Nat.zero_le _) ⟨rfl, rfl, rfl, rfl, rfl, rfl, rfl, rfl, rfl, rfl, rfl, trivial⟩ (.keep (row_eq (by rw [rowP_zero]; simp)) (HSub.refl _)) (fun ⟨x, a', c'⟩ hx K1 hK1 => ?_)
  dsimp only
  refine CT.seq (CT.region ?_)
  refine Wl.q rfl rfl (OpQ.lss rfl rfl) ?_
  refine Wl.nil (PX.then_n (CT.seq ?_))
  refine CT.cond rfl (fun h38 => ?_) (fun h38 => ?_)
  ·
   have h38 := of_decide_eq_true h38
   have hxl : x < d.L := by omega
   refine CT.skip (PX.then_n (CT.seq (CT.block (CT.seq (CT.region ?_)))))
   refine Wl.q rfl rfl (OpQ.move rfl) ?_
   refine Wl.q rfl rfl (OpQ.assign rfl) ?_
   refine Wl.nil (PX.then_n (CT.region ?_))
   refine Wl.q rfl rfl (OpQ.move rfl) ?_
   refine Wl.q rfl rfl (OpQ.move rfl) ?_
   refine Wl.q rfl rfl (OpQ.move rfl) ?_
   refine Wl.q rfl rfl (OpQ.move rfl) ?_
   refine Wl.q rfl rfl (OpQ.move rfl) ?_
   refine Wl.g rfl rfl (OpG.callFV rfl g1 rfl (fun w hH => hf1 w hH.ext ((bfs d.to d.L d.s (i * d.L)).getD i d.s) x hia2 hxl)) ?_
   rintro _ _
   refine Wl.g rfl rfl (OpG.callX K3_go110 rfl (.cons (.there (.there (.there (.there (.there .here))))) (.cons (.there (.there (.there (.there (.there .here))))) (.cons (.there (.there (.there (.there (.there .here))))) .nil))) (fun _ => (.cons (.cons (.cons .nil)))) (fun w hH hp => nof_spec w b11 m (bfs d.to d.L d.s (i * d.L + x)) a' c' hp (by have := hlen (i * d.L + x); omega) (d.to ((bfs d.to d.L d.s (i * d.L)).getD i d.s) x))) ?_
   rintro ⟨a46, c46⟩ _
   refine Wl.q rfl rfl (OpQ.index1 K3_un62 K3_sz3 rfl rfl (by omega) rfl) ?_
   refine Wl.g rfl rfl (OpG.storeRow K3_sz3 rfl rfl rfl (.there (.there (.there .here))) (by rw [List.length_map, rowP_len]; show x < _; omega)) ?_
   rintro _ _
   refine Wl.nil (PX.block_n (PX.then_n (CT.region ?_)))
   refine Wl.q rfl rfl (OpQ.add rfl rfl (by omega)) ?_
   refine Wl.q rfl rfl (OpQ.move rfl) ?_
   refine Wl.nil ?_
   refine PX.as (fun _ h => h.take (.cons (.there (.there (.there .here))) (.cons (.there (.there (.there .here))) (.cons (.there (.there (.there .here))) (.cons (.there (.there (.there .here))) (.cons (.there (.there (.there .here))) (.cons .here (.cons .here (.cons .here (.cons .here .nil)))))))))) ?_
   exact PX.loop hK1 (x + 1, a46, c46) (by omega) (show d.L - (x + 1) < d.L - x by omega) ⟨rfl, rfl, rfl, rfl, rfl, rfl, rfl, rfl, rfl, rfl, rfl, trivial⟩ (.keep (row_eq (by rw [show i * d.L + (x + 1) = i * d.L + x + 1 from rfl, bfs_addx hxl hlt]; exact (rowP_put (addN_pre _ _) (bfs_row_mem (Nat.le_of_lt hxl) hlt) (by rw [addN_idx])).symm)) (by dsimp only; rw [show i * d.L + (x + 1) = i * d.L + x + 1 from rfl, bfs_addx hxl hlt]; exact HSub.refl _))
  ·
   have h38 := of_decide_eq_false h38
   obtain rfl : x = d.L := by omega
   have hrows2 := (hrows.grow hi (bfs_pre (i * d.L) d.L)).snoc (fun y hy => by rw [bfs_get (show i * d.L ≤ i * d.L + d.L by omega) hlt]; exact bfs_row_mem (Nat.le_refl _) hlt y hy)
   rw [bfs_get (show i * d.L ≤ i * d.L + d.L by omega) hlt] at hrows2
   refine CT.exit (PX.then_x (PX.then_x (PX.block_x (PX.then_n (CT.seq (CT.seq (CT.region ?_)))))))
   refine Wl.q rfl rfl (OpQ.fieldAddr K3_fa155_0 rfl) ?_
   refine Wl.q rfl rfl (OpQ.loadF (b := b11) K3_sc62 rfl (by repeat (first | exact Has.here | apply Has.there)) (by rfl)) ?_
   refine Wl.q rfl rfl (OpQ.len K3_un62 rfl) ?_
   refine Wl.q rfl rfl (OpQ.gtr rfl rfl) ?_
   refine Wl.know 52 (v' := .bool false) rfl (congrArg Value.bool (decide_eq_false (by have := hlen (i * d.L + d.L); omega))) ?_
   refine Wl.nil (PX.then_n ?_)
   refine CT.condF rfl ?_
   refine CT.skip (PX.then_n (CT.seq (CT.region ?_)))
   refine Wl.q rfl rfl (OpQ.fieldAddr K3_fa30_3 rfl) ?_
   refine Wl.q rfl rfl (OpQ.loadF (b := b12) K3_sc28 rfl (by repeat (first | exact Has.here | apply Has.there)) (by rfl)) ?_
   refine Wl.q rfl rfl (OpQ.move rfl) ?_
   refine Wl.g rfl rfl (OpG.lit1 K3_un28 K3_in62 rfl rfl rfl) ?_
   rintro b57 _
   refine Wl.g rfl rfl (OpG.append K3_un28 K3_in62 (by rfl) (by decide) rfl rfl (p := 4) rfl (fun w hH => hH.rd .here) ⟨rfl, (by simp [Value.oneCell']), (by omega), (by omega)⟩ (nm := i + 1) rfl (all := (rs ++ [(⟨some ⟨b34, 0, none⟩, d.L, (rowP d.to d.L (bfs d.to d.L d.s (i * d.L + d.L)) ((bfs d.to d.L d.s (i * d.L)).getD i d.s) d.L)⟩ : Rw)]).map rv) (by simp [rowP_len])) ?_
   rintro ⟨a58, c58⟩ h58
   refine Wl.q rfl rfl (OpQ.fieldAddr K3_fa30_3 rfl) ?_
   refine Wl.g rfl rfl (OpG.storeRow (a := some ⟨b12, 0, none⟩) K3_sz28 rfl rfl rfl (by repeat (first | exact Upd.here | apply Upd.there)) (by simp)) ?_
   rintro _ _
   refine Wl.nil (PX.then_n ?_)
   refine CT.draw 6 K3_mixed ?_
   refine RA.q 0 (by kernel_rfl) rfl rfl rfl (.refl _) (OpQ.fieldAddr K3_fa30_2 rfl) ?_
   refine RA.q 1 (by kernel_rfl) rfl rfl rfl (.refl _) (OpQ.loadF (b := b12) K3_sc27 rfl (by repeat (first | exact Has.here | apply Has.there)) (by rfl)) ?_
   refine RA.q 2 (by kernel_rfl) rfl rfl rfl (.refl _) (OpQ.move rfl) ?_
   refine RA.q 3 (by kernel_rfl) rfl rfl rfl (.refl _) (OpQ.move rfl) ?_
   refine RA.f 4 (by kernel_rfl) rfl rfl rfl (OpG.callFV rfl g2 rfl (fun w hH => hf2 w hH.ext ((bfs d.to d.L d.s (i * d.L)).getD i d.s) hia2)) (fun _ _ => (.refl _)) ?_
   rintro _ _
   refine RA.f 5 (by kernel_rfl) rfl rfl rfl (OpG.lit1 K3_un27 K3_in4 rfl rfl rfl) (fun _ _ => (.cons _ (.refl _))) ?_
   rintro b65 _
   refine RA.tail ?_
   refine RT.f 6 (by kernel_rfl) rfl rfl rfl (OpG.append K3_un27 K3_in4 (by rfl) (by decide) rfl rfl (p := 4) rfl (fun w hH => hH.rd .here) ⟨rfl, (by simp [Value.oneCell']), (by omega), (by omega)⟩ (nm := i + 1) rfl (all := (fl ++ [d.fi ((bfs d.to d.L d.s (i * d.L)).getD i d.s)]).map bo) (by simp)) ?_
   rintro ⟨a66, c66⟩ h66
   refine RT.q 7 (by kernel_rfl) rfl rfl rfl (OpQ.fieldAddr K3_fa30_2 rfl) ?_
   refine RT.f 8 (by kernel_rfl) rfl rfl rfl (OpG.storeRow (a := some ⟨b12, 0, none⟩) K3_sz27 rfl rfl rfl (by repeat (first | exact Upd.here | apply Upd.there)) (by simp)) ?_
   rintro _ _
   refine RT.done (by kernel_rfl) ?_
   refine PX.block_n (PX.then_n (CT.region ?_))
   refine Wl.q rfl rfl (OpQ.move rfl) ?_
   refine Wl.q rfl rfl (OpQ.add rfl rfl (by omega)) ?_
   refine Wl.q rfl rfl (OpQ.assign rfl) ?_
   refine Wl.nil ?_
   refine PX.as (fun _ h => h.bind (L := [.frag bs (rws rs), .row 3 1 (.slice (some ⟨b34, 0, none⟩) d.L d.L) d.L (((rowP d.to d.L (bfs d.to d.L d.s (i * d.L + d.L)) ((bfs d.to d.L d.s (i * d.L)).getD i d.s) d.L).map zz))]) (p := rws (rs ++ [(⟨some ⟨b34, 0, none⟩, d.L, (rowP d.to d.L (bfs d.to d.L d.s (i * d.L + d.L)) ((bfs d.to d.L d.s (i * d.L)).getD i d.s) d.L)⟩ : Rw)])) (.cons (.there (.there (.there .here))) (.cons (.there (.there .here)) .nil)) (fun w hk => rws_snoc (r := (⟨some ⟨b34, 0, none⟩, d.L, (rowP d.to d.L (bfs d.to d.L d.s (i * d.L + d.L)) ((bfs d.to d.L d.s (i * d.L)).getD i d.s) d.L)⟩ : Rw)) ((hk _ List.mem_cons_self).2 w (fun _ _ => rfl)) (Rd.of_owns (hk _ (List.mem_cons_of_mem _ List.mem_cons_self))))) ?_
   refine PX.as (fun _ h => h.take (.cons .here (.cons (.there (.there .here)) (.cons (.there (.there .here)) (.cons (.there (.there .here)) (.cons (.there (.there .here)) (.cons (.there (.there .here)) (.cons (.there (.there .here)) (.cons (.there (.there .here)) .nil))))))))) ?_
   exact PX.loop hK0 (i + 1, a', c', a66, c66, fl ++ [d.fi ((bfs d.to d.L d.s (i * d.L)).getD i d.s)], a58, c58, rs ++ [(⟨some ⟨b34, 0, none⟩, d.L, (rowP d.to d.L (bfs d.to d.L d.s (i * d.L + d.L)) ((bfs d.to d.L d.s (i * d.L)).getD i d.s) d.L)⟩ : Rw)], _) ⟨hg.next hlt, by have := bfs_le (f := d.to) (L := d.L) (s := d.s) (show i * d.L ≤ (i + 1) * d.L by rw [Nat.add_mul]; omega); omega, fl_next hfl hlt bfs_succ_row, by rw [List.map_append, Nat.add_mul, Nat.one_mul]; exact hrows2⟩ (by have := bfs_len hd hL.1 (i * d.L); dsimp only; omega) ⟨rfl, rfl, rfl, rfl, rfl, rfl, rfl, trivial⟩ (by dsimp only; rw [Nat.add_mul, Nat.one_mul]; exact HSub.refl _)
 ·
  have h25 := of_decide_eq_false h25
  refine CT.exit (PX.then_x (PX.then_x (PX.block_x (PX.then_n (CT.seq ?_)))))
  refine CT.draw' (Hc := [.row 30 4 (vb b12) 1 [.int .i64 ((d.L : Nat) : Int), .int .i64 0, .slice fa' i fc', .slice na' i nc'], .row 155 2 (vb b11) 1 [.slice a' (bfs d.to d.L d.s (i * d.L)).length c', .map (some m)]]) 6 K3_mixed ?_
  refine RA.q 0 (by kernel_rfl) rfl rfl rfl (.cons _ (.cons _ (.cons _ (.cons_cons _ (.cons_cons _ (.cons _ (.cons _ (.cons _ (.refl _))))))))) (OpQ.loadV (b := b12) K3_ag30 K3_sz30 rfl (by repeat (first | exact Has.here | apply Has.there)) (by rfl)) ?_
  refine RA.q 1 (by kernel_rfl) rfl rfl rfl (.cons _ (.cons _ (.cons _ (.cons_cons _ (.cons_cons _ (.cons _ (.cons _ (.cons _ (.refl _))))))))) (OpQ.fieldAddr K3_fa155_0 rfl) ?_
  refine RA.q 2 (by kernel_rfl) rfl rfl rfl (.cons _ (.cons _ (.cons _ (.cons_cons _ (.cons_cons _ (.cons _ (.cons _ (.cons _ (.refl _))))))))) (OpQ.loadF (b := b11) K3_sc62 rfl (by repeat (first | exact Has.here | apply Has.there)) (by rfl)) ?_
  refine RA.f 3 (by kernel_rfl) rfl rfl rfl (OpG.storeV (b := b8) K3_sz30 rfl rfl rfl rfl (by repeat (first | exact Upd.here | apply Upd.there))) (fun _ _ => (.cons _ (.cons _ (.cons _ (.cons_cons _ (.cons_cons _ (.cons _ (.cons _ (.cons _ (.refl _)))))))))) ?_
  rintro _ _
  refine RA.q 4 (by kernel_rfl) rfl rfl rfl (.cons _ (.cons _ (.cons _ (.cons_cons _ (.cons_cons _ (.cons _ (.cons _ (.cons _ (.refl _))))))))) (OpQ.assign rfl) ?_
  refine RA.q 5 (by kernel_rfl) rfl rfl rfl (.cons _ (.cons _ (.cons _ (.cons_cons _ (.cons_cons _ (.cons _ (.cons _ (.cons _ (.refl _))))))))) (OpQ.assign rfl) ?_
  refine RA.tail ?_
  refine RT.done (by kernel_rfl) ?_
  refine PX.then_n (CT.ret ?_)
  refine PX.retC3 rfl rfl rfl rfl (by repeat (first | exact Has.here | apply Has.there)) K3_ag30 K3_sz30 (by rfl) (fun w' hH => ?_)
  have hii : i = (bfs d.to d.L d.s (i * d.L)).length := by omega
  have hfll : fl.length = i := by rw [hfl, List.length_map, List.length_take, Nat.min_eq_left hi]
  have hrll : rs.length = i := by have := hrows.len; rwa [List.length_map] at this
  have hfin : fl = (autoD d.to d.L d.s (i * d.L) d.fi).fin := by
   rw [hfl, List.take_of_length_le (Nat.le_of_eq hii.symm)]; rfl
  have hval : dvv ⟨((d.L : Nat) : Int), 0, fa', fc', fl, na', nc', rs⟩ = .agg #[.int .i64 ((d.L : Nat) : Int), .int .i64 0, .slice fa' i fc', .slice na' i nc'] := by
   show Value.agg #[.int .i64 ((d.L : Nat) : Int), .int .i64 0, .slice fa' fl.length fc', .slice na' rs.length nc'] = _
   rw [hfll, hrll]
  exact ⟨(i * d.L, ⟨((d.L : Nat) : Int), 0, fa', fc', fl, na', nc', rs⟩, _, a', c'), ⟨Done.of hL.1 hg hii, ⟨rfl, rfl, hfin, hrows.auto' hii d.fi⟩⟩, by rw [hval], ((hH.bind (L := [.frag bs (rws rs), .row 4 1 (.slice fa' i fc') i (fl.map bo), .row 62 1 (.slice na' i nc') i (rs.map rv)]) (p := dvm ⟨((d.L : Nat) : Int), 0, fa', fc', fl, na', nc', rs⟩) (.cons .here (.cons .here (.cons .here .nil))) (fun w hk => ⟨Rd.of_owns (hk _ (List.mem_cons_of_mem _ List.mem_cons_self)), Rd.of_owns (hk _ (List.mem_cons_of_mem _ (List.mem_cons_of_mem _ List.mem_cons_self))), (hk _ List.mem_cons_self).2 w (fun _ _ => rfl)⟩)).take (.cons .here (.cons (.there (.there .here)) .nil))).post⟩

theorem K3_go80 : isGo Tryz.prog 80 = true := by kernel_rfl
theorem K3_go81 : isGo Tryz.prog 81 = true := by kernel_rfl
theorem K3_go12 : isGo Tryz.prog 12 = true := by kernel_rfl
theorem K3_fa30_0 : fieldB Tryz.prog 30 0 = some 0 := by kernel_rfl
theorem K3_fa30_1 : fieldB Tryz.prog 30 1 = some 1 := by kernel_rfl
theorem K3_go79 : isGo Tryz.prog 79 = true := by kernel_rfl
set_option maxRecDepth 100000 in
/-- semigroup/dfa.Trim -/
theorem trim_spec (w : World) (D : Dv) (hD : Stays [] w (dvm D)) (hv : D.Ok) (h5 : D.fin.length ≤ 512) : Calls Tryz.prog 56 #[dvv D] w (fun e w' => ∃ i : Nat × Dv × List Nat × Option Addr × Nat, (Done D.da.to D.da.L D.da.s i.1 ∧ i.2.1.Is (autoD D.da.to D.da.L D.da.s i.1 D.da.fi)) ∧ e = .returned (.tuple #[dvv i.2.1, .slice i.2.2.2.1 D.fin.length i.2.2.2.2]) ∧ Post [] [.frag i.2.2.1 (dvm i.2.1), .row 3 1 (.slice i.2.2.2.1 D.fin.length i.2.2.2.2) D.fin.length ((tabI D.fin.length (plc (bfs D.da.to D.da.L D.da.s i.1) (bfs D.da.to D.da.L D.da.s i.1).length)).map zz)] w w') := by
 have hmv := hv.may
 have hn := h5
 refine enter (args := [dvv D]) [] 53 Tryz.func56 rfl rfl rfl ?_
 refine CT.seq (CT.region ?_)
 refine Wl.g rfl rfl (OpG.box (size := 4) rfl rfl rfl) ?_
 rintro b1 _
 refine Wl.g rfl rfl (OpG.alloc (zs := [.int .i64 0, .int .i64 0, .slice none 0 0, .slice none 0 0]) K3_in30 rfl rfl) ?_
 rintro b2 _
 refine Wl.q rfl rfl (OpQ.assign rfl) ?_
 refine Wl.nil (PX.then_n (CT.seq (CT.seq (CT.region ?_))))
 refine Wl.q rfl rfl (OpQ.loadV (b := b1) K3_ag30 K3_sz30 rfl (by repeat (first | exact Has.here | apply Has.there)) (by rfl)) ?_
 refine Wl.g rfl rfl (OpG.callV K3_go12 rfl (fun w hH => dvalid_spec w D (hH.stays0 hD))) ?_
 rintro _ _
 refine Wl.know 12 (v' := .int .i64 (0)) rfl (congrArg (Value.int .i64) (hv.zero h5)) ?_
 refine Wl.q rfl rfl (OpQ.neq rfl rfl) ?_
 refine Wl.know 13 (v' := .bool false) rfl (congrArg Value.bool rfl) ?_
 refine Wl.nil (PX.then_n ?_)
 refine CT.condF rfl ?_
 refine CT.skip (PX.then_n (CT.seq (CT.region ?_)))
 refine Wl.q rfl rfl (OpQ.fieldAddr K3_fa30_0 rfl) ?_
 refine Wl.q rfl rfl (OpQ.loadF (b := b1) K3_sc3 rfl (by repeat (first | exact Has.here | apply Has.there)) (by rfl)) ?_
 refine Wl.know 17 (v' := .int .i64 ((D.da.L : Nat) : Int)) rfl (congrArg (Value.int .i64) hv.L_eq) ?_
 refine Wl.q rfl rfl (OpQ.fieldAddr K3_fa30_1 rfl) ?_
 refine Wl.q rfl rfl (OpQ.loadF (b := b1) K3_sc3 rfl (by repeat (first | exact Has.here | apply Has.there)) (by rfl)) ?_
 refine Wl.know 19 (v' := .int .i64 ((D.da.s : Nat) : Int)) rfl (congrArg (Value.int .i64) hv.s_eq) ?_
 refine Wl.q rfl rfl (OpQ.makeFunc rfl) ?_
 refine Wl.q rfl rfl (OpQ.makeFunc rfl) ?_
 refine Wl.g rfl rfl (OpG.callX K3_go79 rfl .nil (fun _ => (.cons (.cons .nil))) (fun w hH hp => explore_spec w D.da (by show 1 ≤ D.L.toNat ∧ D.L.toNat ≤ 6; omega) 80 81 [.pointer (some ⟨b1, 0, none⟩)] [.pointer (some ⟨b1, 0, none⟩)] K3_go80 K3_go81 hv.daOk hn (fun w1 he q x hq hx => trim1_spec w1 D (hD.ext (hH.ext.trans he)) b1 ((Stays.rd (hH.staysK0 (.there .here))).ext he) hv q x hq (by rw [hv.L_eq]; exact Int.ofNat_lt.2 hx)) (fun w1 he q hq => trim2_spec w1 D (hD.ext (hH.ext.trans he)) b1 ((Stays.rd (hH.staysK0 (.there .here))).ext he) q hq))) ?_
 rintro ⟨K, D2, bs, la, lc⟩ h22
 dsimp only at h22
 obtain ⟨hK, hIs⟩ := h22
 have hlt : ∀ q ∈ bfs D.da.to D.da.L D.da.s K, q < D.fin.length := bfs_lt hv.daOk hv.pos K
 have hnd := bfs_nodup (f := D.da.to) (L := D.da.L) (s := D.da.s) K
 have hll : (bfs D.da.to D.da.L D.da.s K).length ≤ D.fin.length := bfs_len hv.daOk hv.pos K
 refine Wl.q rfl rfl (OpQ.move rfl) ?_
 refine Wl.q rfl rfl (OpQ.extract rfl rfl) ?_
 refine Wl.know 23 (v' := dvv D2) rfl rfl ?_
 refine Wl.q rfl rfl (OpQ.extract rfl rfl) ?_
 refine Wl.know 24 (v' := .slice la (bfs D.da.to D.da.L D.da.s K).length lc) rfl rfl ?_
 refine Wl.q rfl rfl (OpQ.extract rfl rfl) ?_
 refine Wl.know 25 (v' := .int .i64 (0)) rfl rfl ?_
 refine Wl.g rfl rfl (OpG.alloc (zs := [.int .i64 0, .int .i64 0, .slice none 0 0, .slice none 0 0]) K3_in30 rfl rfl) ?_
 rintro b4 _
 refine Wl.g rfl rfl (OpG.storeV (b := b4) K3_sz30 rfl rfl rfl rfl (by repeat (first | exact Upd.here | apply Upd.there))) ?_
 rintro _ _
 refine Wl.q rfl rfl (OpQ.assign rfl) ?_
 refine Wl.q rfl rfl (OpQ.assign rfl) ?_
 refine Wl.nil (PX.then_n (CT.seq (CT.region ?_)))
 refine Wl.q rfl rfl (OpQ.fieldAddr K3_fa30_2 rfl) ?_
 refine Wl.q rfl rfl (OpQ.loadF (b := b1) K3_sc27 rfl (by repeat (first | exact Has.here | apply Has.there)) (by rfl)) ?_
 refine Wl.q rfl rfl (OpQ.len K3_un27 rfl) ?_
 refine Wl.g rfl rfl (OpG.make1 K3_un62 K3_in3 rfl rfl rfl rfl (by omega) (by omega)) ?_
 rintro b29 _
 refine Wl.q rfl rfl (OpQ.assign rfl) ?_
 refine Wl.nil (PX.then_n (CT.seq (CT.seq (CT.region ?_))))
 refine Wl.q rfl rfl (OpQ.move rfl) ?_
 refine Wl.q rfl rfl (OpQ.len K3_un62 rfl) ?_
 refine Wl.q rfl rfl (OpQ.move rfl) ?_
 refine Wl.nil (PX.then_n (CT.block ?_))
 refine CT.loop (ι := Nat) (fun i => i ≤ D.fin.length) (fun i => [(2, .pointer (some ⟨b2, 0, none⟩)), (4, .pointer (some ⟨b4, 0, none⟩)), (5, .slice la (bfs D.da.to D.da.L D.da.s K).length lc), (7, .slice (some ⟨b29, 0, none⟩) D.fin.length D.fin.length), (31, .int .i64 ((D.fin.length : Nat) : Int)), (32, .int .i64 ((i : Nat) : Int))]) (fun i => [.row 3 1 (.slice (some ⟨b29, 0, none⟩) D.fin.length D.fin.length) D.fin.length ((tabI D.fin.length (fun q => if q < i then -1 else 0)).map zz), .row 30 4 (vb b4) 1 (dvc D2), .frag bs (dvm D2), .row 3 1 (.slice la (bfs D.da.to D.da.L D.da.s K).length lc) (bfs D.da.to D.da.L D.da.s K).length ((bfs D.da.to D.da.L D.da.s K).map zn), .row 30 4 (vb b2) 1 [.int .i64 0, .int .i64 0, .slice none 0 0, .slice none 0 0], .row 30 4 (vb b1) 1 (dvc D)]) (fun i => D.fin.length - i) 0 (Nat.zero_le _) ⟨rfl, rfl, rfl, rfl, rfl, rfl, trivial⟩ (.keep (row_eq (by rw [tabI_zz]; rfl)) (HSub.refl _)) (fun i hi K0 hK0 => ?_)
 refine CT.seq (CT.region ?_)
 refine Wl.q rfl rfl (OpQ.lss rfl rfl) ?_
 refine Wl.nil (PX.then_n (CT.seq ?_))
 refine CT.cond rfl (fun h33 => ?_) (fun h33 => ?_)
 ·
  have h33 := of_decide_eq_true h33
  refine CT.skip (PX.then_n (CT.seq (CT.block (CT.seq (CT.region ?_)))))
  refine Wl.q rfl rfl (OpQ.move rfl) ?_
  refine Wl.q rfl rfl (OpQ.assign rfl) ?_
  refine Wl.nil (PX.then_n (CT.region ?_))
  refine Wl.q rfl rfl (OpQ.move rfl) ?_
  refine Wl.q rfl rfl (OpQ.move rfl) ?_
  refine Wl.q rfl rfl (OpQ.index1 K3_un62 K3_sz3 rfl rfl (by omega) rfl) ?_
  refine Wl.g rfl rfl (OpG.storeRow K3_sz3 rfl rfl rfl .here (by rw [List.length_map, tabI_len]; show i < _; omega)) ?_
  rintro _ _
  refine Wl.nil (PX.block_n (PX.then_n (CT.region ?_)))
  refine Wl.q rfl rfl (OpQ.add rfl rfl (by omega)) ?_
  refine Wl.q rfl rfl (OpQ.move rfl) ?_
  refine Wl.nil ?_
  exact PX.loop hK0 (i + 1) (by omega) (by first | omega | (dsimp only; omega)) ⟨rfl, rfl, rfl, rfl, rfl, rfl, trivial⟩ (.keep (row_eq (tabI_set (if_pos (show i < i + 1 by omega)) (fun q _ hq => by by_cases h : q < i; rw [if_pos h, if_pos (by omega)]; rw [if_neg h, if_neg (by omega)])).symm) (HSub.refl _))
 ·
  have h33 := of_decide_eq_false h33
  refine CT.exit (PX.then_x (PX.then_x (PX.block_x (PX.then_n (CT.seq (CT.seq (CT.region ?_)))))))
  refine Wl.fact (p := 0 < (bfs D.da.to D.da.L D.da.s K).length → la.isSome = true) (fun w hH h0 => (hH.rd (.there (.there (.there .here)))).isSome (j := 0) (by rw [List.length_map]; exact h0)) (fun hla => ?_)
  refine Wl.q rfl rfl (OpQ.move rfl) ?_
  refine Wl.q rfl rfl (OpQ.len K3_un62 rfl) ?_
  refine Wl.q rfl rfl (OpQ.move rfl) ?_
  refine Wl.nil (PX.then_n (CT.block ?_))
  obtain rfl : i = D.fin.length := by omega
  refine CT.loop (ι := Nat) (fun k => k ≤ (bfs D.da.to D.da.L D.da.s K).length) (fun k => [(2, .pointer (some ⟨b2, 0, none⟩)), (4, .pointer (some ⟨b4, 0, none⟩)), (7, .slice (some ⟨b29, 0, none⟩) D.fin.length D.fin.length), (39, .slice la (bfs D.da.to D.da.L D.da.s K).length lc), (40, .int .i64 (((bfs D.da.to D.da.L D.da.s K).length : Nat) : Int)), (41, .int .i64 ((k : Nat) : Int))]) (fun k => [.row 3 1 (.slice (some ⟨b29, 0, none⟩) D.fin.length D.fin.length) D.fin.length ((tabI D.fin.length (plc (bfs D.da.to D.da.L D.da.s K) k)).map zz), .row 30 4 (vb b4) 1 (dvc D2), .frag bs (dvm D2), .row 3 1 (.slice la (bfs D.da.to D.da.L D.da.s K).length lc) (bfs D.da.to D.da.L D.da.s K).length ((bfs D.da.to D.da.L D.da.s K).map zn), .row 30 4 (vb b2) 1 [.int .i64 0, .int .i64 0, .slice none 0 0, .slice none 0 0], .row 30 4 (vb b1) 1 (dvc D)]) (fun k => (bfs D.da.to D.da.L D.da.s K).length - k) 0 (Nat.zero_le _) ⟨rfl, rfl, rfl, rfl, rfl, rfl, trivial⟩ (.keep (row_eq (by rw [plc_zero]; exact congrArg _ (tabI_congr fun q hq => (if_pos hq).symm))) (HSub.refl _)) (fun k hk K1 hK1 => ?_)
  refine CT.seq (CT.region ?_)
  refine Wl.q rfl rfl (OpQ.lss rfl rfl) ?_
  refine Wl.nil (PX.then_n (CT.seq ?_))
  refine CT.cond rfl (fun h42 => ?_) (fun h42 => ?_)
  ·
   have h42 := of_decide_eq_true h42
   refine CT.skip (PX.then_n (CT.seq (CT.block (CT.seq (CT.region ?_)))))
   refine Wl.q rfl rfl (OpQ.move rfl) ?_
   refine Wl.q rfl rfl (OpQ.index1 K3_un62 K3_sz3 rfl rfl (by omega) (hla (by omega))) ?_
   refine Wl.q rfl rfl (OpQ.loadRow K3_sc3 rfl (.there (.there (.there .here))) (getMap zn (bfs D.da.to D.da.L D.da.s K) 0 (j := k) (by omega))) ?_
   refine Wl.q rfl rfl (OpQ.assign rfl) ?_
   refine Wl.q rfl rfl (OpQ.assign rfl) ?_
   refine Wl.nil (PX.then_n (CT.region ?_))
   refine Wl.q rfl rfl (OpQ.move rfl) ?_
   refine Wl.q rfl rfl (OpQ.move rfl) ?_
   refine Wl.q rfl rfl (OpQ.move rfl) ?_
   have hkq := hlt _ (getDm (d := 0) (show k < (bfs D.da.to D.da.L D.da.s K).length by omega))
   refine Wl.q rfl rfl (OpQ.index1 K3_un62 K3_sz3 rfl rfl (by omega) rfl) ?_
   refine Wl.g rfl rfl (OpG.storeRow K3_sz3 rfl rfl rfl .here (by rw [List.length_map, tabI_len]; show (bfs D.da.to D.da.L D.da.s K).getD k 0 < _; exact hkq)) ?_
   rintro _ _
   refine Wl.nil (PX.block_n (PX.then_n (CT.region ?_)))
   refine Wl.q rfl rfl (OpQ.add rfl rfl (by omega)) ?_
   refine Wl.q rfl rfl (OpQ.move rfl) ?_
   refine Wl.nil ?_
   exact PX.loop hK1 (k + 1) (by omega) (by first | omega | (dsimp only; omega)) ⟨rfl, rfl, rfl, rfl, rfl, rfl, trivial⟩ (.keep (row_eq (plc_put hnd (show k < (bfs D.da.to D.da.L D.da.s K).length by omega)).symm) (HSub.refl _))
  ·
   have h42 := of_decide_eq_false h42
   refine CT.exit (PX.then_x (PX.then_x (PX.block_x (PX.then_n (CT.seq (CT.region ?_))))))
   refine Wl.q rfl rfl (OpQ.loadV (b := b4) K3_ag30 K3_sz30 rfl (by repeat (first | exact Has.here | apply Has.there)) (by rfl)) ?_
   refine Wl.q rfl rfl (OpQ.move rfl) ?_
   refine Wl.g rfl rfl (OpG.storeV (b := b2) K3_sz30 rfl rfl rfl rfl (by repeat (first | exact Upd.here | apply Upd.there))) ?_
   rintro _ _
   refine Wl.q rfl rfl (OpQ.assign rfl) ?_
   refine Wl.nil (PX.then_n (CT.ret ?_))
   refine PX.retC2 rfl rfl rfl (by repeat (first | exact Has.here | apply Has.there)) K3_ag30 K3_sz30 (by rfl) (fun w' hH => ?_)
   obtain rfl : k = (bfs D.da.to D.da.L D.da.s K).length := by omega
   exact ⟨(K, D2, bs, some ⟨b29, 0, none⟩, _), ⟨hK, hIs⟩, rfl, (hH.take (.cons (.there (.there .here)) (.cons .here .nil))).post⟩

end Go.Proofs.YtmggcdegekbncabGreatDoor

