/-
  What functions of the program compute, each by its walk. Conditions: those that each theorem names.
-/
import Derived.Test.YtamolakhpcofhaaXC8
import Derived.Test.YtamolakhpcofhaaXE4
import Derived.Test.YtamolakhpcofhaaEng1
import Derived.Test.YtamolakhpcofhaaMod
import Derived.Test.YtamolakhpcofhaaEng
set_option linter.unusedSimpArgs false
namespace Go.Proofs.Ytamolakhpcofhaa
open Go Go.Eng Go.Am Go.Sq
open Go.Tl (mayL Wd okW okB bo)

theorem RK_un9 : Try.prog.underlying 9 = some .string := by kernel_rfl
theorem RK_un69 : Try.prog.underlying 69 = some (.slice 5) := by kernel_rfl
theorem RK_in5 : (Try.prog.info? 5).map (fun i => (i.zero, i.size, i.bytes)) = some (some (.int .u8 0), 1, 1) := by kernel_rfl
theorem RK_un5 : Try.prog.underlying 5 = some (.int .u8) := by kernel_rfl
theorem RK_fa30_5 : fieldB Try.prog 30 5 = some 5 := by kernel_rfl
theorem RK_sc27 : scalarB Try.prog 27 = some true := by kernel_rfl
theorem RK_un27 : Try.prog.underlying 27 = some (.slice 4) := by kernel_rfl
theorem RK_sz4 : sizeB Try.prog 4 = some 1 := by kernel_rfl
theorem RK_sc4 : scalarB Try.prog 4 = some true := by kernel_rfl
theorem RK_fa30_6 : fieldB Try.prog 30 6 = some 6 := by kernel_rfl
theorem RK_sc28 : scalarB Try.prog 28 = some true := by kernel_rfl
theorem RK_un28 : Try.prog.underlying 28 = some (.slice 9) := by kernel_rfl
theorem RK_sz9 : sizeB Try.prog 9 = some 1 := by kernel_rfl
theorem RK_sc9 : scalarB Try.prog 9 = some true := by kernel_rfl
theorem RK_fa30_3 : fieldB Try.prog 30 3 = some 3 := by kernel_rfl
theorem RK_sc25 : scalarB Try.prog 25 = some true := by kernel_rfl
theorem RK_un25 : Try.prog.underlying 25 = some (.slice 22) := by kernel_rfl
theorem RK_sz22 : sizeB Try.prog 22 = some 1 := by kernel_rfl
theorem RK_sc22 : scalarB Try.prog 22 = some true := by kernel_rfl
theorem RK_un22 : Try.prog.underlying 22 = some (.slice 3) := by kernel_rfl
theorem RK_sz3 : sizeB Try.prog 3 = some 1 := by kernel_rfl
theorem RK_sc3 : scalarB Try.prog 3 = some true := by kernel_rfl
theorem RK_mixed : Try.prog.follows .mixedOrders = true := by kernel_rfl
theorem RK_fa30_4 : fieldB Try.prog 30 4 = some 4 := by kernel_rfl
theorem RK_sc26 : scalarB Try.prog 26 = some true := by kernel_rfl
theorem RK_un26 : Try.prog.underlying 26 = some (.slice 28) := by kernel_rfl
theorem RK_sz28 : sizeB Try.prog 28 = some 1 := by kernel_rfl
set_option maxRecDepth 100000 in
/-- semigroup/sequential.writes -/
theorem writes_spec (w : World) (S : Sv) (hS : Stays [] w (svm S)) (hv : S.sq.Ok 4096) (q : Nat) (hq : q < S.rs.length) : Calls Try.prog 74 #[svv S, .int .i64 ((q : Nat) : Int)] w (fun e w' => e = .returned (sv (wkey S.sq q (S.L))) ∧ Ext [] w w') := by
 obtain ⟨hb1, hb2, hb3, hb4⟩ := hv.bnd
 obtain ⟨hlo, hle, hlf⟩ := hv.lens
 have hns : 0 < S.rs.length → S.na.isSome = true := fun h => hS.now.n.isSome (j := 0) (by rw [List.length_map]; exact h)
 have hos : 0 < S.os.length → S.oa.isSome = true := fun h => hS.now.o.isSome (j := 0) (by rw [List.length_map]; exact h)
 have hes : 0 < S.en.length → S.ea.isSome = true := fun h => hS.now.e.isSome (j := 0) (by rw [List.length_map]; exact h)
 have hfs : 0 < S.fi.length → S.fa.isSome = true := fun h => hS.now.f.isSome (j := 0) (by rw [List.length_map]; exact h)
 have hrs : ∀ q, q < S.rs.length → 0 < (S.rs.getD q rx0).xs.length → (S.rs.getD q rx0).a.isSome = true := fun q hq h => (hS.now.r _ (getDm hq)).isSome (j := 0) (by rw [List.length_map]; exact h)
 have hus : ∀ q, q < S.os.length → 0 < (S.os.getD q rx0).xs.length → (S.os.getD q rx0).a.isSome = true := fun q hq h => (hS.now.u _ (getDm hq)).isSome (j := 0) (by rw [List.length_map]; exact h)
 have hrl := hv.rlen (q := q) (by omega)
 have hol := hv.olen (q := q) (by omega)
 have hqn : q < S.sq.n := by rw [S.n_eq]; exact hq
 have hft := (hv.tf q hqn).1
 have hkl := fun x hx => wkey_len hv hqn x hx
 have hkp : ∀ x, 0 < (wkey S.sq q x).length := fun x => by rw [wkey, List.length_append, wst]; split <;> simp only [List.length_cons] <;> omega
 refine enter (args := [svv S, .int .i64 ((q : Nat) : Int)]) [] 52 Try.func74 rfl rfl rfl ?_
 refine CT.seq ?_
 refine CT.region ?_
 refine Wl.g rfl rfl (OpG.box (size := 7) rfl rfl rfl) ?_
 rintro b2 _
 refine Wl.q rfl rfl (OpQ.assign rfl) ?_
 refine Wl.nil ?_
 refine PX.then_n ?_
 refine CT.seq ?_
 refine CT.region ?_
 refine Wl.g rfl rfl (OpG.lit1 RK_un69 RK_in5 rfl rfl rfl) ?_
 rintro b8 _
 refine Wl.q rfl rfl (OpQ.assign rfl) ?_
 refine Wl.nil ?_
 refine PX.then_n ?_
 refine CT.cut (ι := Option Addr × Nat) (Φ := fun (a', c') => True) (E' := fun (a', c') => [(1, .int .i64 ((q : Nat) : Int)), (2, .pointer (some ⟨b2, 0, none⟩)), (5, .slice a' (wst S.sq q).length c')]) (H' := fun (a', c') => [.row 5 1 (.slice a' (wst S.sq q).length c') (wst S.sq q).length ((wst S.sq q).map bv), .row 30 7 (vb b2) 1 (svc S)]) (fun K0 hK0 => ?_) (fun ⟨a', c'⟩ _ => ?_)
 ·
  refine CT.seq ?_
  refine CT.region ?_
  refine Wl.q rfl rfl (OpQ.fieldAddr RK_fa30_5 rfl) ?_
  refine Wl.q rfl rfl (OpQ.loadF (b := b2) RK_sc27 rfl (by repeat (first | exact Has.here | apply Has.there)) (by rfl)) ?_
  refine Wl.q rfl rfl (OpQ.move rfl) ?_
  refine Wl.q rfl rfl (OpQ.index1 RK_un27 RK_sz4 rfl rfl (by omega) (hes (by omega))) ?_
  refine Wl.q rfl rfl (OpQ.loadG RK_sc4 rfl (fun w hH => (hH.use hS).e) (getMap bo S.en false (j := q) (by omega))) ?_
  refine Wl.know 13 (v' := .bool (S.sq.e q)) rfl rfl ?_
  refine Wl.nil ?_
  refine PX.then_n ?_
  refine CT.cond rfl (fun h13 => ?_) (fun h13 => ?_)
  ·
   have he : S.sq.e q = true := h13
   refine CT.region ?_
   refine Wl.g rfl rfl (OpG.lit1 RK_un69 RK_in5 rfl rfl rfl) ?_
   rintro b14 _
   refine Wl.q rfl rfl (OpQ.fieldAddr RK_fa30_6 rfl) ?_
   refine Wl.q rfl rfl (OpQ.loadF (b := b2) RK_sc28 rfl (by repeat (first | exact Has.here | apply Has.there)) (by rfl)) ?_
   refine Wl.q rfl rfl (OpQ.move rfl) ?_
   refine Wl.q rfl rfl (OpQ.index1 RK_un28 RK_sz9 rfl rfl (by omega) (hfs (by omega))) ?_
   refine Wl.q rfl rfl (OpQ.loadG RK_sc9 rfl (fun w hH => (hH.use hS).f) (getMap sv S.fi [] (j := q) (by omega))) ?_
   refine Wl.know 19 (v' := sv (S.sq.f q)) rfl rfl ?_
   refine Wl.g rfl rfl (OpG.appendS' RK_un69 RK_un9 RK_in5 rfl rfl (p := 0) rfl (by decide) (by omega) (nm := (wst S.sq q).length) (by rw [wst_t he, List.length_cons]; omega) (all := (wst S.sq q).map bv) (by rw [wst_t he]; rfl)) ?_
   rintro ⟨a20, c20⟩ h20
   refine Wl.q rfl rfl (OpQ.assign rfl) ?_
   refine Wl.nil ?_
   exact PX.cut hK0 (a20, c20) trivial ⟨rfl, rfl, rfl, trivial⟩ (.keep rfl (.drop (HSub.refl _)))
  ·
   have he : S.sq.e q = false := h13
   refine CT.skip ?_
   exact PX.cut hK0 (some ⟨b8, 0, none⟩, 1) trivial ⟨rfl, rfl, (lkV rfl (by rw [wst_f he]; rfl)), trivial⟩ (.keep (by rw [wst_f he]; rfl) (HSub.refl _))
 ·
  dsimp only
  refine CT.seq ?_
  refine CT.seq ?_
  refine CT.region ?_
  refine Wl.q rfl rfl (OpQ.fieldAddr RK_fa30_3 rfl) ?_
  refine Wl.q rfl rfl (OpQ.loadF (b := b2) RK_sc25 rfl (by repeat (first | exact Has.here | apply Has.there)) (by rfl)) ?_
  refine Wl.q rfl rfl (OpQ.move rfl) ?_
  refine Wl.q rfl rfl (OpQ.index1 RK_un25 RK_sz22 rfl rfl (by omega) (hns (by omega))) ?_
  refine Wl.q rfl rfl (OpQ.loadG RK_sc22 rfl (fun w hH => (hH.use hS).n) (getMap rxv S.rs rx0 (j := q) (by omega))) ?_
  refine Wl.q rfl rfl (OpQ.len RK_un22 rfl) ?_
  refine Wl.know 26 (v' := .int .i64 ((S.L : Nat) : Int)) rfl (congrArg (Value.int .i64) (by rw [hrl])) ?_
  refine Wl.q rfl rfl (OpQ.move rfl) ?_
  refine Wl.nil ?_
  refine PX.then_n ?_
  refine CT.block ?_
  refine CT.loop (ι := Nat × Option Addr × Nat) (fun (x, a', c') => x ≤ S.L) (fun (x, a', c') => [(1, .int .i64 ((q : Nat) : Int)), (2, .pointer (some ⟨b2, 0, none⟩)), (5, .slice a' (wkey S.sq q (x)).length c'), (25, rxv (S.rs.getD q rx0)), (26, .int .i64 ((S.L : Nat) : Int)), (27, .int .i64 ((x : Nat) : Int))]) (fun (x, a', c') => [.row 5 1 (.slice a' (wkey S.sq q (x)).length c') (wkey S.sq q (x)).length ((wkey S.sq q (x)).map bv), .row 30 7 (vb b2) 1 (svc S)]) (fun (x, a', c') => S.L - x) (0, a', c') (Nat.zero_le _) ⟨rfl, rfl, (lkV rfl (by rw [wkey_zero])), rfl, rfl, rfl, trivial⟩ (.keep (by rw [wkey_zero]) (HSub.refl _)) (fun ⟨x, a', c'⟩ hx K1 hK1 => ?_)
  dsimp only
  have hkx := hkl x hx
  have hkx0 := hkp x
  refine CT.seq ?_
  refine CT.region ?_
  refine Wl.q rfl rfl (OpQ.lss rfl rfl) ?_
  refine Wl.nil ?_
  refine PX.then_n ?_
  refine CT.seq ?_
  refine CT.cond rfl (fun h28 => ?_) (fun h28 => ?_)
  ·
   have h28 := of_decide_eq_true h28
   refine CT.skip ?_
   refine PX.then_n ?_
   refine CT.seq ?_
   refine CT.block ?_
   refine CT.seq ?_
   refine CT.region ?_
   refine Wl.q rfl rfl (OpQ.move rfl) ?_
   refine Wl.q rfl rfl (OpQ.index1 RK_un22 RK_sz3 rfl rfl (by omega) (hrs q (by omega) (by omega))) ?_
   refine Wl.q rfl rfl (OpQ.loadG RK_sc3 rfl (fun w hH => (hH.use hS).r _ (getDm (show q < S.rs.length by omega))) (getMap zo (S.rs.getD q rx0).xs none (j := x) (by omega))) ?_
   refine Wl.know 31 (v' := zo (S.sq.to q x)) rfl (congrArg zo (S.to_eq q x).symm) ?_
   refine Wl.q rfl rfl (OpQ.assign rfl) ?_
   refine Wl.q rfl rfl (OpQ.assign rfl) ?_
   refine Wl.nil ?_
   refine PX.then_n ?_
   refine CT.seq ?_
   refine CT.region ?_
   refine Wl.q rfl rfl (OpQ.move rfl) ?_
   refine Wl.q rfl rfl (OpQ.eql rfl rfl) ?_
   refine Wl.nil ?_
   refine PX.then_n ?_
   refine CT.cond rfl (fun h33 => ?_) (fun h33 => ?_)
   ·
    have h33 := of_decide_eq_true h33
    have hto := oi_neg.1 h33
    refine CT.region ?_
    refine Wl.q rfl rfl (OpQ.move rfl) ?_
    refine Wl.g rfl rfl (OpG.lit1 RK_un69 RK_in5 rfl rfl rfl) ?_
    rintro b35 _
    refine Wl.g rfl rfl (OpG.append RK_un69 RK_in5 (by rfl) (by decide) rfl rfl (p := 1) rfl (fun w hH => hH.rd .here) ⟨rfl, (by simp [Value.oneCell']), (by omega), (by omega)⟩ (nm := (wkey S.sq q (x + 1)).length) (by rw [wkey_none hto, List.length_append]; rfl) (all := (wkey S.sq q (x + 1)).map bv) (by rw [wkey_none hto, List.map_append]; rfl)) ?_
    rintro ⟨a36, c36⟩ h36
    refine Wl.q rfl rfl (OpQ.assign rfl) ?_
    refine Wl.nil ?_
    refine PX.block_n ?_
    refine PX.then_n ?_
    refine CT.region ?_
    refine Wl.q rfl rfl (OpQ.add rfl rfl (by omega)) ?_
    refine Wl.q rfl rfl (OpQ.move rfl) ?_
    refine Wl.nil ?_
    exact PX.loop hK1 (x + 1, a36, c36) (show x + 1 ≤ S.L by omega) (show S.L - (x + 1) < S.L - x by omega) ⟨rfl, rfl, rfl, rfl, rfl, rfl, trivial⟩ (.drop (HSub.refl _))
   ·
    have h33 := of_decide_eq_false h33
    obtain ⟨r, hto⟩ := oi_some h33
    have hot := (hv.to' q x hqn (show x < S.L by omega)).1
    have hkx1 := hkl (x + 1) (show x + 1 ≤ S.L by omega)
    refine CT.draw' (Hc := [.row 30 7 (vb b2) 1 (svc S)]) 13 RK_mixed ?_
    refine RA.q 0 (by kernel_rfl) rfl rfl rfl (.cons _ (.cons_cons _ (.refl _))) (OpQ.move rfl) ?_
    refine RA.q 3 (by kernel_rfl) rfl rfl rfl (.cons _ (.cons_cons _ (.refl _))) (OpQ.fieldAddr RK_fa30_4 rfl) ?_
    refine RA.q 4 (by kernel_rfl) rfl rfl rfl (.cons _ (.cons_cons _ (.refl _))) (OpQ.loadF (b := b2) RK_sc26 rfl (by repeat (first | exact Has.here | apply Has.there)) (by rfl)) ?_
    refine RA.q 5 (by kernel_rfl) rfl rfl rfl (.cons _ (.cons_cons _ (.refl _))) (OpQ.move rfl) ?_
    refine RA.q 6 (by kernel_rfl) rfl rfl rfl (.cons _ (.cons_cons _ (.refl _))) (OpQ.index1 RK_un26 RK_sz28 rfl rfl (by omega) (hos (by omega))) ?_
    refine RA.q 7 (by kernel_rfl) rfl rfl rfl (.cons _ (.cons_cons _ (.refl _))) (OpQ.loadG RK_sc28 rfl (fun w hH => (hH.use hS).o) (getMap rxv S.os rx0 (j := q) (by omega))) ?_
    refine RA.q 8 (by kernel_rfl) rfl rfl rfl (.cons _ (.cons_cons _ (.refl _))) (OpQ.move rfl) ?_
    refine RA.q 9 (by kernel_rfl) rfl rfl rfl (.cons _ (.cons_cons _ (.refl _))) (OpQ.index1 RK_un28 RK_sz9 rfl rfl (by omega) (hus q (by omega) (by omega))) ?_
    refine RA.q 10 (by kernel_rfl) rfl rfl rfl (.cons _ (.cons_cons _ (.refl _))) (OpQ.loadG RK_sc9 rfl (fun w hH => (hH.use hS).u _ (getDm (show q < S.os.length by omega))) (getMap sv (S.os.getD q rx0).xs [] (j := x) (by omega))) ?_
    refine RA.know 47 (v' := sv (S.sq.o q x)) rfl (congrArg sv (S.o_eq q x).symm) ?_
    refine RA.f 1 (by kernel_rfl) rfl rfl rfl (OpG.lit1 RK_un69 RK_in5 rfl rfl rfl) (fun _ _ => (.cons _ (.cons _ (.cons_cons _ (.refl _))))) ?_
    rintro b38 _
    refine RA.f 2 (by kernel_rfl) rfl rfl rfl (OpG.append RK_un69 RK_in5 (by rfl) (by decide) rfl rfl (p := 1) rfl (fun w hH => hH.rd .here) ⟨rfl, (by simp [Value.oneCell']), (by omega), (by omega)⟩ (nm := ((wkey S.sq q (x)) ++ [33]).length) (by rw [List.length_append]; rfl) (all := ((wkey S.sq q (x)) ++ [33]).map bv) (by rw [List.map_append]; rfl)) (fun _ _ => (.cons _ (.cons _ (.cons_cons _ (.refl _))))) ?_
    rintro ⟨a39, c39⟩ h39
    refine RA.f 11 (by kernel_rfl) rfl rfl rfl (OpG.appendS' RK_un69 RK_un9 RK_in5 rfl rfl (p := 1) rfl (by rw [List.length_append]; exact Nat.succ_pos _) (by rw [List.length_append]; have : [(33 : UInt8)].length = 1 := rfl; omega) (nm := (wkey S.sq q (x + 1)).length) (by simp only [wkey_some hto, List.length_append]) (all := (wkey S.sq q (x + 1)).map bv) (by simp only [wkey_some hto, List.map_append])) (fun _ _ => (.cons _ (.cons _ (.cons_cons _ (.refl _))))) ?_
    rintro ⟨a48, c48⟩ h48
    refine RA.q 12 (by kernel_rfl) rfl rfl rfl (.cons _ (.cons _ (.cons_cons _ (.refl _)))) (OpQ.assign rfl) ?_
    refine RA.tail ?_
    refine RT.done (by kernel_rfl) ?_
    refine PX.block_n ?_
    refine PX.then_n ?_
    refine CT.region ?_
    refine Wl.q rfl rfl (OpQ.add rfl rfl (by omega)) ?_
    refine Wl.q rfl rfl (OpQ.move rfl) ?_
    refine Wl.nil ?_
    exact PX.loop hK1 (x + 1, a48, c48) (show x + 1 ≤ S.L by omega) (show S.L - (x + 1) < S.L - x by omega) ⟨rfl, rfl, rfl, rfl, rfl, rfl, trivial⟩ (.drop (HSub.refl _))
  ·
   have h28 := of_decide_eq_false h28
   obtain rfl : x = S.L := by omega
   refine CT.exit ?_
   refine PX.then_x ?_
   refine PX.then_x ?_
   refine PX.block_x ?_
   refine PX.then_n ?_
   refine CT.seq ?_
   refine CT.region ?_
   refine Wl.q rfl rfl (OpQ.move rfl) ?_
   refine Wl.q rfl rfl (OpQ.convBS (l := (wkey S.sq q (S.L))) RK_un69 RK_un5 RK_un9 rfl (fun w hH => hH.rd .here)) ?_
   refine Wl.q rfl rfl (OpQ.assign rfl) ?_
   refine Wl.nil ?_
   refine PX.then_n ?_
   refine CT.ret ?_
   refine PX.ret1 rfl rfl (fun w' hH => ?_)
   exact ⟨rfl, hH.ext⟩

theorem RK_mkS : MapKey Try.prog 9 sv := MapKey.str (by kernel_rfl)
theorem RK_in3 : (Try.prog.info? 3).map (fun i => (i.zero, i.size, i.bytes)) = some (some (.int .i64 0), 1, 8) := by kernel_rfl
theorem RK_ag30 : isAggB Try.prog 30 = some true := by kernel_rfl
theorem RK_sz30 : sizeB Try.prog 30 = some 7 := by kernel_rfl
theorem RK_go74 : isGo Try.prog 74 = true := by kernel_rfl
theorem RK_un100 : Try.prog.underlying 100 = some (.map 9 3) := by kernel_rfl
theorem RK_go75 : isGo Try.prog 75 = true := by kernel_rfl
theorem RK_fa30_0 : fieldB Try.prog 30 0 = some 0 := by kernel_rfl
set_option maxRecDepth 100000 in
/-- semigroup/sequential.equivalent -/
theorem equivalent_spec (w : World) (S : Sv) (hS : Stays [] w (svm S)) (hv : S.sq.Ok 4096) (hb : S.sq.Bis) : Calls Try.prog 36 #[svv S] w (fun e w' => ∃ i : List Nat × Nat, ClsQ S.sq i.1 ∧ e = .returned (.tuple #[.slice (some ⟨i.2, 0, none⟩) S.rs.length S.rs.length, .int .i64 ((topL i.1 : Nat) : Int)]) ∧ Post [] [.row 3 1 (.slice (some ⟨i.2, 0, none⟩) S.rs.length S.rs.length) S.rs.length (i.1.map zn)] w w') := by
 obtain ⟨hb1, hb2, hb3, hb4⟩ := hv.bnd
 obtain ⟨hlo, hle, hlf⟩ := hv.lens
 have hns : 0 < S.rs.length → S.na.isSome = true := fun h => hS.now.n.isSome (j := 0) (by rw [List.length_map]; exact h)
 have hos : 0 < S.os.length → S.oa.isSome = true := fun h => hS.now.o.isSome (j := 0) (by rw [List.length_map]; exact h)
 have hes : 0 < S.en.length → S.ea.isSome = true := fun h => hS.now.e.isSome (j := 0) (by rw [List.length_map]; exact h)
 have hfs : 0 < S.fi.length → S.fa.isSome = true := fun h => hS.now.f.isSome (j := 0) (by rw [List.length_map]; exact h)
 have hrs : ∀ q, q < S.rs.length → 0 < (S.rs.getD q rx0).xs.length → (S.rs.getD q rx0).a.isSome = true := fun q hq h => (hS.now.r _ (getDm hq)).isSome (j := 0) (by rw [List.length_map]; exact h)
 have hus : ∀ q, q < S.os.length → 0 < (S.os.getD q rx0).xs.length → (S.os.getD q rx0).a.isSome = true := fun q hq h => (hS.now.u _ (getDm hq)).isSome (j := 0) (by rw [List.length_map]; exact h)
 have hnn : S.sq.n = S.rs.length := S.n_eq
 refine enter (args := [svv S]) [] 103 Try.func36 rfl rfl rfl ?_
 refine CT.seq ?_
 refine CT.region ?_
 refine Wl.g rfl rfl (OpG.box (size := 7) rfl rfl rfl) ?_
 rintro b1 _
 refine Wl.q rfl rfl (OpQ.assign rfl) ?_
 refine Wl.q rfl rfl (OpQ.assign rfl) ?_
 refine Wl.nil ?_
 refine PX.then_n ?_
 refine CT.seq ?_
 refine CT.region ?_
 refine Wl.q rfl rfl (OpQ.fieldAddr RK_fa30_3 rfl) ?_
 refine Wl.q rfl rfl (OpQ.loadF (b := b1) RK_sc25 rfl (by repeat (first | exact Has.here | apply Has.there)) (by rfl)) ?_
 refine Wl.q rfl rfl (OpQ.len RK_un25 rfl) ?_
 refine Wl.g rfl rfl (OpG.make1 RK_un22 RK_in3 rfl rfl rfl rfl (by omega) (by omega)) ?_
 rintro b19 _
 refine Wl.q rfl rfl (OpQ.assign rfl) ?_
 refine Wl.nil ?_
 refine PX.then_n ?_
 refine CT.seq ?_
 refine CT.region ?_
 refine Wl.q rfl rfl (OpQ.fieldAddr RK_fa30_3 rfl) ?_
 refine Wl.q rfl rfl (OpQ.loadF (b := b1) RK_sc25 rfl (by repeat (first | exact Has.here | apply Has.there)) (by rfl)) ?_
 refine Wl.q rfl rfl (OpQ.len RK_un25 rfl) ?_
 refine Wl.g rfl rfl (OpG.make1 RK_un22 RK_in3 rfl rfl rfl rfl (by omega) (by omega)) ?_
 rintro b23 _
 refine Wl.q rfl rfl (OpQ.assign rfl) ?_
 refine Wl.nil ?_
 refine PX.then_n ?_
 refine CT.seq ?_
 refine CT.region ?_
 refine Wl.g rfl rfl (OpG.makeMap (f := sv)) ?_
 rintro b24 _
 refine Wl.q rfl rfl (OpQ.assign rfl) ?_
 refine Wl.nil ?_
 refine PX.then_n ?_
 refine CT.seq ?_
 refine CT.seq ?_
 refine CT.region ?_
 refine Wl.q rfl rfl (OpQ.fieldAddr RK_fa30_3 rfl) ?_
 refine Wl.q rfl rfl (OpQ.loadF (b := b1) RK_sc25 rfl (by repeat (first | exact Has.here | apply Has.there)) (by rfl)) ?_
 refine Wl.q rfl rfl (OpQ.len RK_un25 rfl) ?_
 refine Wl.q rfl rfl (OpQ.move rfl) ?_
 refine Wl.nil ?_
 refine PX.then_n ?_
 refine CT.block ?_
 refine CT.loop (ι := Nat) (fun q => q ≤ S.rs.length) (fun q => [(1, .pointer (some ⟨b1, 0, none⟩)), (4, .slice (some ⟨b19, 0, none⟩) S.rs.length S.rs.length), (5, .slice (some ⟨b23, 0, none⟩) S.rs.length S.rs.length), (6, .map (some b24)), (27, .int .i64 ((S.rs.length : Nat) : Int)), (28, .int .i64 ((q : Nat) : Int))]) (fun q => [.blk b24 (mapO sv (itA 0 (ded (wks S.sq q)))), .row 3 1 (.slice (some ⟨b23, 0, none⟩) S.rs.length S.rs.length) S.rs.length ((labP (wks S.sq q) S.rs.length).map zn), .row 3 1 (.slice (some ⟨b19, 0, none⟩) S.rs.length S.rs.length) S.rs.length ((List.replicate S.rs.length 0).map zn), .row 30 7 (vb b1) 1 (svc S)]) (fun q => S.rs.length - q) 0 (Nat.zero_le _) ⟨rfl, rfl, rfl, rfl, rfl, rfl, trivial⟩ (.keep rfl (.keep (row_eq (labP_nil _)) (.keep (row_eq (by rw [List.map_replicate]; rfl)) (HSub.refl _)))) (fun q hq K0 hK0 => ?_)
 refine CT.seq ?_
 refine CT.region ?_
 refine Wl.q rfl rfl (OpQ.lss rfl rfl) ?_
 refine Wl.nil ?_
 refine PX.then_n ?_
 refine CT.seq ?_
 refine CT.cond rfl (fun h29 => ?_) (fun h29 => ?_)
 ·
  have h29 := of_decide_eq_true h29
  have hqN : q < S.rs.length := by omega
  refine CT.skip ?_
  refine PX.then_n ?_
  refine CT.seq ?_
  refine CT.block ?_
  refine CT.seq ?_
  refine CT.region ?_
  refine Wl.q rfl rfl (OpQ.move rfl) ?_
  refine Wl.q rfl rfl (OpQ.assign rfl) ?_
  refine Wl.nil ?_
  refine PX.then_n ?_
  refine CT.seq ?_
  refine CT.region ?_
  refine Wl.q rfl rfl (OpQ.loadV (b := b1) RK_ag30 RK_sz30 rfl (by repeat (first | exact Has.here | apply Has.there)) (by rfl)) ?_
  refine Wl.know 31 (v' := svv S) rfl rfl ?_
  refine Wl.q rfl rfl (OpQ.move rfl) ?_
  refine Wl.g rfl rfl (OpG.callV RK_go74 rfl (fun w hH => writes_spec w S (hH.stays0 hS) hv q hqN)) ?_
  rintro _ _
  refine Wl.q rfl rfl (OpQ.assign rfl) ?_
  refine Wl.nil ?_
  refine PX.then_n ?_
  refine CT.seq ?_
  refine CT.region ?_
  refine Wl.q rfl rfl (OpQ.move rfl) ?_
  refine Wl.q rfl rfl (OpQ.move rfl) ?_
  refine Wl.q rfl rfl (OpQ.lookup (f := sv) (x := (wkey S.sq q S.sq.L)) (l := (itA 0 (ded (wks S.sq q)))) RK_mkS RK_un100 RK_in3 rfl rfl (by repeat (first | exact Has.here | apply Has.there)) (by rw [if_pos rfl, getA_itA, ix_val, ix_is])) ?_
  refine Wl.q rfl rfl (OpQ.move rfl) ?_
  refine Wl.q rfl rfl (OpQ.extract rfl rfl) ?_
  refine Wl.q rfl rfl (OpQ.extract rfl rfl) ?_
  refine Wl.q rfl rfl (OpQ.assign rfl) ?_
  refine Wl.q rfl rfl (OpQ.assign rfl) ?_
  refine Wl.nil ?_
  refine PX.then_n ?_
  refine CT.cut (ι := Unit) (Φ := fun _ => True) (E' := fun _ => [(1, .pointer (some ⟨b1, 0, none⟩)), (4, .slice (some ⟨b19, 0, none⟩) S.rs.length S.rs.length), (5, .slice (some ⟨b23, 0, none⟩) S.rs.length S.rs.length), (6, .map (some b24)), (27, .int .i64 ((S.rs.length : Nat) : Int)), (28, .int .i64 ((q : Nat) : Int)), (7, .int .i64 ((q : Nat) : Int)), (9, .int .i64 (((addN (ded (wks S.sq q)) (wkey S.sq q S.sq.L)).2 : Nat) : Int))]) (H' := fun _ => [.blk b24 (mapO sv (itA 0 (addN (ded (wks S.sq q)) (wkey S.sq q S.sq.L)).1)), .row 3 1 (.slice (some ⟨b23, 0, none⟩) S.rs.length S.rs.length) S.rs.length ((labP (wks S.sq q) S.rs.length).map zn), .row 3 1 (.slice (some ⟨b19, 0, none⟩) S.rs.length S.rs.length) S.rs.length ((List.replicate S.rs.length 0).map zn), .row 30 7 (vb b1) 1 (svc S)]) (fun K1 hK1 => ?_) (fun _ _ => ?_)
  ·
   refine CT.seq ?_
   refine CT.region ?_
   refine Wl.q rfl rfl (OpQ.move rfl) ?_
   refine Wl.q rfl rfl (OpQ.not rfl) ?_
   refine Wl.nil ?_
   refine PX.then_n ?_
   refine CT.cond rfl (fun h41 => ?_) (fun h41 => ?_)
   ·
    have hix : ixA (wkey S.sq q S.sq.L) 0 (ded (wks S.sq q)) = none := by simpa using h41
    have hnx := ixA_none hix
    refine CT.seq ?_
    refine CT.region ?_
    refine Wl.q rfl rfl (OpQ.move rfl) ?_
    refine Wl.q rfl rfl (OpQ.lenMap (f := sv) (l := (itA 0 (ded (wks S.sq q)))) RK_un100 rfl (by repeat (first | exact Has.here | apply Has.there))) ?_
    refine Wl.know 43 (v' := .int .i64 (((ded (wks S.sq q)).length : Nat) : Int)) rfl (congrArg (fun m : Nat => Value.int .i64 (m : Int)) (itA_len _ _)) ?_
    refine Wl.q rfl rfl (OpQ.assign rfl) ?_
    refine Wl.nil ?_
    refine PX.then_n ?_
    refine CT.region ?_
    refine Wl.q rfl rfl (OpQ.move rfl) ?_
    refine Wl.q rfl rfl (OpQ.move rfl) ?_
    refine Wl.q rfl rfl (OpQ.move rfl) ?_
    refine Wl.g rfl rfl (OpG.mapNew (f := sv) (x := (wkey S.sq q S.sq.L)) (l := (itA 0 (ded (wks S.sq q)))) RK_mkS RK_un100 rfl rfl rfl (by rw [getA_itA, hix]; rfl) (by repeat (first | exact Upd.here | apply Upd.there))) ?_
    rintro _ _
    refine Wl.nil ?_
    exact PX.cut hK1 () trivial ⟨rfl, rfl, rfl, rfl, rfl, rfl, rfl, (lkV rfl (congrArg (fun m : Nat => Value.int .i64 (m : Int)) (by rw [addN_out hnx]))), trivial⟩ (.keep (by rw [addN_out hnx, itA_snoc, Nat.zero_add]) (HSub.refl _))
   ·
    have hix : ¬ ixA (wkey S.sq q S.sq.L) 0 (ded (wks S.sq q)) = none := fun hh => by rw [hh] at h41; exact absurd h41 (by decide)
    refine CT.skip ?_
    exact PX.cut hK1 () trivial ⟨rfl, rfl, rfl, rfl, rfl, rfl, rfl, (lkV rfl (congrArg (fun m : Nat => Value.int .i64 (m : Int)) (ix_in hix).2)), trivial⟩ (.keep (by rw [(ix_in hix).1]) (HSub.refl _))
  ·
   refine CT.region ?_
   refine Wl.q rfl rfl (OpQ.move rfl) ?_
   refine Wl.q rfl rfl (OpQ.move rfl) ?_
   refine Wl.q rfl rfl (OpQ.move rfl) ?_
   refine Wl.q rfl rfl (OpQ.index1 RK_un22 RK_sz3 rfl rfl (by omega) rfl) ?_
   refine Wl.g rfl rfl (OpG.storeRow RK_sz3 rfl rfl rfl (.there .here) (by rw [List.length_map, labP_len (by rw [wks_len]; omega)]; exact hqN)) ?_
   rintro _ _
   refine Wl.nil ?_
   refine PX.block_n ?_
   refine PX.then_n ?_
   refine CT.region ?_
   refine Wl.q rfl rfl (OpQ.add rfl rfl (by omega)) ?_
   refine Wl.q rfl rfl (OpQ.move rfl) ?_
   refine Wl.nil ?_
   exact PX.loop hK0 (q + 1) (by omega) (by first | omega | (dsimp only; omega)) ⟨rfl, rfl, rfl, rfl, rfl, rfl, trivial⟩ (.keep (by rw [wks_s, ded_addN]) (.keep (row_eq (by rw [wks_s]; exact (labP_put (wks_len _ _) hqN rfl).symm)) (HSub.refl _)))
 ·
  have h29 := of_decide_eq_false h29
  obtain rfl : q = S.rs.length := by omega
  refine CT.mem (.keep rfl (.keep (row_eq (xs := (lab (wks S.sq S.rs.length)).map zn) (by rw [labP_full (wks_len _ _)])) (HSub.refl _))) ?_
  have hDD : (ded (wks S.sq S.rs.length)).length ≤ S.rs.length := by have := ded_le (wks S.sq S.rs.length); rwa [wks_len] at this
  refine CT.exit ?_
  refine PX.then_x ?_
  refine PX.then_x ?_
  refine PX.block_x ?_
  refine PX.then_n ?_
  refine CT.seq ?_
  refine CT.region ?_
  refine Wl.q rfl rfl (OpQ.move rfl) ?_
  refine Wl.q rfl rfl (OpQ.move rfl) ?_
  refine Wl.q rfl rfl (OpQ.move rfl) ?_
  refine Wl.q rfl rfl (OpQ.lenMap (f := sv) (l := (itA 0 (ded (wks S.sq S.rs.length)))) RK_un100 rfl (by repeat (first | exact Has.here | apply Has.there))) ?_
  refine Wl.know 55 (v' := .int .i64 (((ded (wks S.sq S.rs.length)).length : Nat) : Int)) rfl (congrArg (fun m : Nat => Value.int .i64 (m : Int)) (itA_len _ _)) ?_
  refine Wl.g rfl rfl (OpG.callX RK_go75 rfl (.cons (.there (.there .here)) .nil) (fun _ => (.cons .nil)) (fun w hH hp => splitN_spec w b19 S.rs.length S.rs.length (List.replicate S.rs.length 0) List.length_replicate hp (lab (wks S.sq S.rs.length)) (some ⟨b23, 0, none⟩) S.rs.length (Stays.rd (hH.staysK (.cons (.there (.there .here)) .nil) (.there .here))) 1 (ded (wks S.sq S.rs.length)).length (by omega) (by omega) (fun i hi => by rw [getD_rep0 hi]; exact Nat.zero_lt_one) (by rw [lab_len, wks_len]) (fun i hi => lab_lt (by rw [wks_len]; exact hi)) (by omega))) ?_
  rintro _ _
  have hco0 : CoarseQ S.sq (lab (spk (List.replicate S.rs.length 0) (lab (wks S.sq S.rs.length)) (ded (wks S.sq S.rs.length)).length)) := by have := wks_coarse hv hb; rwa [hnn] at this
  have hk0 : (lab (wks S.sq S.rs.length)).length = S.rs.length := by rw [lab_len, wks_len]
  refine Wl.q rfl rfl (OpQ.assign rfl) ?_
  refine Wl.nil ?_
  refine PX.then_n ?_
  refine CT.seq ?_
  refine CT.seq ?_
  refine CT.region ?_
  refine Wl.q rfl rfl (OpQ.assign rfl) ?_
  refine Wl.nil ?_
  refine PX.then_n ?_
  refine CT.block ?_
  refine CT.loop (ι := List Nat × List Nat × Nat) (fun (c, kk, t) => CoarseQ S.sq c ∧ kk.length = S.rs.length ∧ (topL c ≤ t → ClsQ S.sq c)) (fun (c, kk, t) => [(1, .pointer (some ⟨b1, 0, none⟩)), (4, .slice (some ⟨b19, 0, none⟩) S.rs.length S.rs.length), (5, .slice (some ⟨b23, 0, none⟩) S.rs.length S.rs.length), (11, .int .i64 ((topL c : Nat) : Int)), (12, .int .i64 ((t : Nat) : Int))]) (fun (c, kk, t) => [.row 3 1 (.slice (some ⟨b19, 0, none⟩) S.rs.length S.rs.length) S.rs.length ((c).map zn), .row 3 1 (.slice (some ⟨b23, 0, none⟩) S.rs.length S.rs.length) S.rs.length ((kk).map zn), .row 30 7 (vb b1) 1 (svc S)]) (fun (c, kk, t) => 513 - t) ((lab (spk (List.replicate S.rs.length 0) (lab (wks S.sq S.rs.length)) (ded (wks S.sq S.rs.length)).length)), (lab (wks S.sq S.rs.length)), 0) ⟨hco0, hk0, fun h => absurd h (by have := lab_pos (c := (lab (spk (List.replicate S.rs.length 0) (lab (wks S.sq S.rs.length)) (ded (wks S.sq S.rs.length)).length))) (by have := hco0.len; rw [this, hnn]; omega); omega)⟩ ⟨rfl, rfl, rfl, rfl, rfl, trivial⟩ (.keep rfl (.drop (.keep rfl (.keep rfl .nil)))) (fun ⟨c, kk, t⟩ ⟨hco, hkk, hcl⟩ K2 hK2 => ?_)
  dsimp only
  have h5c := hco.top
  rw [hnn] at h5c
  refine CT.seq ?_
  refine CT.seq ?_
  refine CT.region ?_
  refine Wl.q rfl rfl (OpQ.move rfl) ?_
  refine Wl.q rfl rfl (OpQ.move rfl) ?_
  refine Wl.q rfl rfl (OpQ.lss rfl rfl) ?_
  refine Wl.nil ?_
  refine PX.then_n ?_
  refine CT.cond rfl (fun h59 => ?_) (fun h59 => ?_)
  ·
   have h59 := of_decide_eq_true h59
   refine CT.skip ?_
   refine PX.then_n ?_
   refine CT.block ?_
   refine CT.seq ?_
   refine CT.region ?_
   refine Wl.q rfl rfl (OpQ.move rfl) ?_
   refine Wl.q rfl rfl (OpQ.assign rfl) ?_
   refine Wl.nil ?_
   refine PX.then_n ?_
   refine CT.seq ?_
   refine CT.region ?_
   refine Wl.q rfl rfl (OpQ.fieldAddr RK_fa30_0 rfl) ?_
   refine Wl.q rfl rfl (OpQ.loadF (b := b1) RK_sc3 rfl (by repeat (first | exact Has.here | apply Has.there)) (by rfl)) ?_
   refine Wl.q rfl rfl (OpQ.move rfl) ?_
   refine Wl.nil ?_
   refine PX.then_n ?_
   refine CT.block ?_
   refine CT.loop (ι := List Nat × List Nat × Nat) (fun (c', kk, x) => x ≤ S.L ∧ SpQ S.sq c c' x ∧ kk.length = S.rs.length) (fun (c', kk, x) => [(1, .pointer (some ⟨b1, 0, none⟩)), (4, .slice (some ⟨b19, 0, none⟩) S.rs.length S.rs.length), (5, .slice (some ⟨b23, 0, none⟩) S.rs.length S.rs.length), (11, .int .i64 ((topL c' : Nat) : Int)), (12, .int .i64 ((topL c : Nat) : Int)), (62, .int .i64 ((S.L : Nat) : Int)), (63, .int .i64 ((x : Nat) : Int))]) (fun (c', kk, x) => [.row 3 1 (.slice (some ⟨b19, 0, none⟩) S.rs.length S.rs.length) S.rs.length ((c').map zn), .row 3 1 (.slice (some ⟨b23, 0, none⟩) S.rs.length S.rs.length) S.rs.length ((kk).map zn), .row 30 7 (vb b1) 1 (svc S)]) (fun (c', kk, x) => S.L - x) (c, kk, 0) ⟨Nat.zero_le _, SpQ.start hco, hkk⟩ ⟨rfl, rfl, rfl, rfl, rfl, rfl, rfl, trivial⟩ (HSub.refl _) (fun ⟨c', kk, x⟩ ⟨hx, hsp, hkk⟩ K3 hK3 => ?_)
   dsimp only
   have h5x := hsp.co.top
   rw [hnn] at h5x
   have hcl' := hsp.co.len
   refine CT.seq ?_
   refine CT.region ?_
   refine Wl.q rfl rfl (OpQ.lss rfl rfl) ?_
   refine Wl.nil ?_
   refine PX.then_n ?_
   refine CT.seq ?_
   refine CT.cond rfl (fun h64 => ?_) (fun h64 => ?_)
   ·
    have h64 := of_decide_eq_true h64
    refine CT.skip ?_
    refine PX.then_n ?_
    refine CT.seq ?_
    refine CT.block ?_
    refine CT.seq ?_
    refine CT.region ?_
    refine Wl.q rfl rfl (OpQ.move rfl) ?_
    refine Wl.q rfl rfl (OpQ.assign rfl) ?_
    refine Wl.nil ?_
    refine PX.then_n ?_
    refine CT.seq ?_
    refine CT.seq ?_
    refine CT.region ?_
    refine Wl.q rfl rfl (OpQ.fieldAddr RK_fa30_3 rfl) ?_
    refine Wl.q rfl rfl (OpQ.loadF (b := b1) RK_sc25 rfl (by repeat (first | exact Has.here | apply Has.there)) (by rfl)) ?_
    refine Wl.q rfl rfl (OpQ.len RK_un25 rfl) ?_
    refine Wl.q rfl rfl (OpQ.move rfl) ?_
    refine Wl.nil ?_
    refine PX.then_n ?_
    refine CT.block ?_
    refine CT.loop (ι := Nat) (fun i => i ≤ S.rs.length) (fun i => [(1, .pointer (some ⟨b1, 0, none⟩)), (4, .slice (some ⟨b19, 0, none⟩) S.rs.length S.rs.length), (5, .slice (some ⟨b23, 0, none⟩) S.rs.length S.rs.length), (11, .int .i64 ((topL c' : Nat) : Int)), (12, .int .i64 ((topL c : Nat) : Int)), (62, .int .i64 ((S.L : Nat) : Int)), (63, .int .i64 ((x : Nat) : Int)), (13, .int .i64 ((x : Nat) : Int)), (67, .slice S.na S.rs.length S.nc), (68, .int .i64 ((S.rs.length : Nat) : Int)), (69, .int .i64 ((i : Nat) : Int))]) (fun i => [.row 3 1 (.slice (some ⟨b19, 0, none⟩) S.rs.length S.rs.length) S.rs.length ((c').map zn), .row 3 1 (.slice (some ⟨b23, 0, none⟩) S.rs.length S.rs.length) S.rs.length ((mkL S.sq c' x i ++ kk.drop i).map zn), .row 30 7 (vb b1) 1 (svc S)]) (fun i => S.rs.length - i) 0 (Nat.zero_le _) ⟨rfl, rfl, rfl, rfl, rfl, rfl, rfl, rfl, rfl, rfl, rfl, trivial⟩ (.keep rfl (.keep (row_eq (by rw [show mkL S.sq c' x 0 = [] from rfl, List.drop_zero, List.nil_append])) (HSub.refl _))) (fun i hi K4 hK4 => ?_)
    refine CT.seq ?_
    refine CT.region ?_
    refine Wl.q rfl rfl (OpQ.lss rfl rfl) ?_
    refine Wl.nil ?_
    refine PX.then_n ?_
    refine CT.seq ?_
    refine CT.cond rfl (fun h70 => ?_) (fun h70 => ?_)
    ·
     have h70 := of_decide_eq_true h70
     have hiN : i < S.rs.length := by omega
     have hiq : i < S.sq.n := by rw [hnn]; exact hiN
     have hxL : x < S.sq.L := by show x < S.L; omega
     have hrl := hv.rlen (q := i) hiN
     refine CT.skip ?_
     refine PX.then_n ?_
     refine CT.seq ?_
     refine CT.block ?_
     refine CT.seq ?_
     refine CT.region ?_
     refine Wl.q rfl rfl (OpQ.move rfl) ?_
     refine Wl.q rfl rfl (OpQ.index1 RK_un25 RK_sz22 rfl rfl (by omega) (hns (by omega))) ?_
     refine Wl.q rfl rfl (OpQ.loadG RK_sc22 rfl (fun w hH => (hH.use hS).n) (getMap rxv S.rs rx0 (j := i) (by omega))) ?_
     refine Wl.q rfl rfl (OpQ.assign rfl) ?_
     refine Wl.q rfl rfl (OpQ.assign rfl) ?_
     refine Wl.nil ?_
     refine PX.then_n ?_
     refine CT.seq ?_
     refine CT.region ?_
     refine Wl.q rfl rfl (OpQ.move rfl) ?_
     refine Wl.q rfl rfl (OpQ.move rfl) ?_
     refine Wl.q rfl rfl (OpQ.index1 RK_un22 RK_sz3 rfl rfl (by omega) rfl) ?_
     refine Wl.g rfl rfl (OpG.storeRow RK_sz3 rfl rfl rfl (.there .here) (by rw [List.length_map, mkP_len (by omega)]; omega)) ?_
     rintro _ _
     refine Wl.nil ?_
     refine PX.then_n ?_
     refine CT.seq ?_
     refine CT.region ?_
     refine Wl.q rfl rfl (OpQ.move rfl) ?_
     refine Wl.q rfl rfl (OpQ.move rfl) ?_
     refine Wl.q rfl rfl (OpQ.index1 RK_un22 RK_sz3 rfl rfl (by omega) (hrs i (by omega) (by omega))) ?_
     refine Wl.q rfl rfl (OpQ.loadG RK_sc3 rfl (fun w hH => (hH.use hS).r _ (getDm (show i < S.rs.length by omega))) (getMap zo (S.rs.getD i rx0).xs none (j := x) (by omega))) ?_
     refine Wl.know 80 (v' := zo (S.sq.to i x)) rfl (congrArg zo (S.to_eq i x).symm) ?_
     refine Wl.q rfl rfl (OpQ.neq rfl rfl) ?_
     refine Wl.nil ?_
     refine PX.then_n ?_
     refine CT.cond rfl (fun h81 => ?_) (fun h81 => ?_)
     ·
      have h81 := of_nd_t h81
      obtain ⟨r, hto⟩ := oi_some h81
      have hr := hv.lt i x r hiq hxL hto
      refine CT.region ?_
      refine Wl.q rfl rfl (OpQ.move rfl) ?_
      refine Wl.q rfl rfl (OpQ.move rfl) ?_
      refine Wl.q rfl rfl (OpQ.move rfl) ?_
      refine Wl.q rfl rfl (OpQ.move rfl) ?_
      refine Wl.q rfl rfl (OpQ.move rfl) ?_
      refine Wl.q rfl rfl (OpQ.index1 RK_un22 RK_sz3 rfl rfl (by omega) (hrs i (by omega) (by omega))) ?_
      refine Wl.q rfl rfl (OpQ.loadG RK_sc3 rfl (fun w hH => (hH.use hS).r _ (getDm (show i < S.rs.length by omega))) (getMap zo (S.rs.getD i rx0).xs none (j := x) (by omega))) ?_
      refine Wl.know 88 (v' := .int .i64 ((r : Nat) : Int)) rfl (show zo _ = zn r from by rw [← S.to_eq, hto]; rfl) ?_
      refine Wl.q rfl rfl (OpQ.index1 RK_un22 RK_sz3 rfl rfl (by omega) rfl) ?_
      have hcr := topL_all c' (p := r) (by rw [hcl']; exact hr)
      refine Wl.q rfl rfl (OpQ.loadRow RK_sc3 rfl .here (getMap zn c' 0 (j := r) (by rw [hcl']; exact hr))) ?_
      refine Wl.q rfl rfl (OpQ.add rfl rfl (by omega)) ?_
      refine Wl.know 91 (v' := .int .i64 (((1 + c'.getD r 0) : Nat) : Int)) rfl (congrArg (Value.int .i64) (by push_cast; rfl)) ?_
      refine Wl.q rfl rfl (OpQ.index1 RK_un22 RK_sz3 rfl rfl (by omega) rfl) ?_
      refine Wl.g rfl rfl (OpG.storeRow RK_sz3 rfl rfl rfl (.there .here) (by rw [List.length_set, List.length_map, mkP_len (by omega)]; omega)) ?_
      rintro _ _
      refine Wl.nil ?_
      refine PX.block_n ?_
      refine PX.then_n ?_
      refine CT.region ?_
      refine Wl.q rfl rfl (OpQ.add rfl rfl (by omega)) ?_
      refine Wl.q rfl rfl (OpQ.move rfl) ?_
      refine Wl.nil ?_
      exact PX.loop hK4 (i + 1) (by omega) (by first | omega | (dsimp only; omega)) ⟨rfl, rfl, rfl, rfl, rfl, rfl, rfl, rfl, rfl, rfl, rfl, trivial⟩ (.keep rfl (.keep (row_eq (mkL_put2 (u := 0) (by omega) (mkq_some hto).symm).symm) (HSub.refl _)))
     ·
      have h81 := of_nd_f h81
      have hto : S.sq.to i x = none := oi_neg.1 h81
      refine CT.skip ?_
      refine PX.block_n ?_
      refine PX.then_n ?_
      refine CT.region ?_
      refine Wl.q rfl rfl (OpQ.add rfl rfl (by omega)) ?_
      refine Wl.q rfl rfl (OpQ.move rfl) ?_
      refine Wl.nil ?_
      exact PX.loop hK4 (i + 1) (by omega) (by first | omega | (dsimp only; omega)) ⟨rfl, rfl, rfl, rfl, rfl, rfl, rfl, rfl, rfl, rfl, rfl, trivial⟩ (.keep rfl (.keep (row_eq (mkL_put (by omega) (mkq_none hto).symm).symm) (HSub.refl _)))
    ·
     have h70 := of_decide_eq_false h70
     obtain rfl : i = S.rs.length := by omega
     refine CT.mem (.keep rfl (.keep (row_eq (xs := (mkL S.sq c' x S.rs.length).map zn) (by rw [show kk.drop S.rs.length = [] from List.drop_eq_nil_of_le (by omega), List.append_nil])) (HSub.refl _))) ?_
     refine CT.exit ?_
     refine PX.then_x ?_
     refine PX.then_x ?_
     refine PX.block_x ?_
     refine PX.then_n ?_
     refine CT.region ?_
     refine Wl.q rfl rfl (OpQ.move rfl) ?_
     refine Wl.q rfl rfl (OpQ.move rfl) ?_
     refine Wl.q rfl rfl (OpQ.move rfl) ?_
     refine Wl.q rfl rfl (OpQ.move rfl) ?_
     refine Wl.q rfl rfl (OpQ.add rfl rfl (by omega)) ?_
     refine Wl.know 98 (v' := .int .i64 (((topL c' + 1) : Nat) : Int)) rfl (congrArg (Value.int .i64) (by push_cast; rfl)) ?_
     refine Wl.g rfl rfl (OpG.callX RK_go75 rfl (.cons .here .nil) (fun _ => (.cons .nil)) (fun w hH hp => splitN_spec w b19 S.rs.length S.rs.length c' (by rw [hcl', hnn]) hp (mkL S.sq c' x S.rs.length) (some ⟨b23, 0, none⟩) S.rs.length (Stays.rd (hH.staysK (.cons .here .nil) .here)) (topL c') (topL c' + 1) (by omega) (by omega) (fun i hi => topL_all c' (by rw [hcl', hnn]; exact hi)) (mkL_len _ _ _ _) (fun i hi => by rw [mkL_get hi]; exact mkq_lt hb hcl' (by rw [hnn]; exact hi) (show x < S.sq.L by show x < S.L; omega)) (by omega))) ?_
     rintro _ _
     refine Wl.q rfl rfl (OpQ.assign rfl) ?_
     refine Wl.nil ?_
     refine PX.block_n ?_
     refine PX.then_n ?_
     refine CT.region ?_
     refine Wl.q rfl rfl (OpQ.add rfl rfl (by omega)) ?_
     refine Wl.q rfl rfl (OpQ.move rfl) ?_
     refine Wl.nil ?_
     exact PX.loop hK3 ((lab (spk c' (mkL S.sq c' x S.rs.length) (topL c' + 1))), mkL S.sq c' x S.rs.length, x + 1) ⟨by omega, by have := hsp.step hb (show x < S.sq.L by show x < S.L; omega); rwa [hnn] at this, mkL_len _ _ _ _⟩ (show S.L - (x + 1) < S.L - x by omega) ⟨rfl, rfl, rfl, rfl, rfl, rfl, rfl, trivial⟩ (HSub.refl _)
   ·
    have h64 := of_decide_eq_false h64
    refine CT.exit ?_
    refine PX.then_x ?_
    refine PX.then_x ?_
    refine PX.block_x ?_
    refine PX.block_n ?_
    exact PX.loop hK2 (c', kk, topL c) ⟨hsp.co, hkk, fun h => SpQ.done hb (by rw [show S.sq.L = x from (show S.L = x by omega)]; exact hsp) h⟩ (show 513 - topL c < 513 - t by omega) ⟨rfl, rfl, rfl, rfl, rfl, trivial⟩ (HSub.refl _)
  ·
   have h59 := of_decide_eq_false h59
   refine CT.exit ?_
   refine PX.then_x ?_
   refine PX.then_x ?_
   refine PX.block_x ?_
   refine PX.then_n ?_
   refine CT.seq ?_
   refine CT.region ?_
   refine Wl.q rfl rfl (OpQ.move rfl) ?_
   refine Wl.q rfl rfl (OpQ.move rfl) ?_
   refine Wl.q rfl rfl (OpQ.assign rfl) ?_
   refine Wl.q rfl rfl (OpQ.assign rfl) ?_
   refine Wl.nil ?_
   refine PX.then_n ?_
   refine CT.ret ?_
   refine PX.ret2 rfl rfl rfl (fun w' hH => ?_)
   exact ⟨(c, b19), hcl (by omega), rfl, (hH.take (.cons .here .nil)).post⟩

end Go.Proofs.Ytamolakhpcofhaa

