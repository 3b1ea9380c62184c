/-
  What functions of the program compute, each by its walk. Conditions: those that each theorem names.
-/
import Derived.Test.YtamolakhpcofhaaXE24
set_option linter.unusedSimpArgs false
namespace Go.Proofs.Ytamolakhpcofhaa
open Go Go.Eng Go.Am Go.Sq
open Go.Tp (zi)
open Go.Tl (mayL Wd okW okB bo)

theorem RY_in30 : (Try.prog.info? 30).map (fun i => (i.zero, i.size, i.bytes)) = some (some (.agg #[.int .i64 0, .int .i64 0, .string ⟨#[]⟩, .slice none 0 0, .slice none 0 0, .slice none 0 0, .slice none 0 0]), 7, 128) := by kernel_rfl
theorem RY_ag30 : isAggB Try.prog 30 = some true := by kernel_rfl
theorem RY_sz30 : sizeB Try.prog 30 = some 7 := by kernel_rfl
theorem RY_go31 : isGo Try.prog 31 = true := by kernel_rfl
theorem RY_fa30_0 : fieldB Try.prog 30 0 = some 0 := by kernel_rfl
theorem RY_sc3 : scalarB Try.prog 3 = some true := by kernel_rfl
theorem RY_go39 : isGo Try.prog 39 = true := by kernel_rfl
theorem RY_fa30_1 : fieldB Try.prog 30 1 = some 1 := by kernel_rfl
theorem RY_fa30_2 : fieldB Try.prog 30 2 = some 2 := by kernel_rfl
theorem RY_sc9 : scalarB Try.prog 9 = some true := by kernel_rfl
theorem RY_go40 : isGo Try.prog 40 = true := by kernel_rfl
theorem RY_go41 : isGo Try.prog 41 = true := by kernel_rfl
theorem RY_pl78 : placesB Try.prog 78 = some (#[.int .i64 0, .int .i64 0, .string ⟨#[]⟩, .slice none 0 0, .slice none 0 0, .slice none 0 0, .slice none 0 0, .int .i64 0, .int .i64 0, .string ⟨#[]⟩, .slice none 0 0, .slice none 0 0, .slice none 0 0, .slice none 0 0, .int .i64 0, .int .i64 0, .string ⟨#[]⟩, .slice none 0 0, .slice none 0 0, .slice none 0 0, .slice none 0 0, .slice none 0 0, .map none, .bool false], [(0, 7), (7, 7), (14, 7), (21, 1), (22, 1), (23, 1)]) := by kernel_rfl
theorem RY_fa78_2 : fieldB Try.prog 78 2 = some 14 := by kernel_rfl
theorem RY_sz3 : sizeB Try.prog 3 = some 1 := by kernel_rfl
theorem RY_go42 : isGo Try.prog 42 = true := by kernel_rfl
theorem RY_sz9 : sizeB Try.prog 9 = some 1 := by kernel_rfl
theorem RY_pl82 : placesB Try.prog 82 = some (#[.int .i64 0, .int .i64 0], [(0, 1), (1, 1)]) := by kernel_rfl
theorem RY_go43 : isGo Try.prog 43 = true := by kernel_rfl
theorem RY_fa78_3 : fieldB Try.prog 78 3 = some 21 := by kernel_rfl
theorem RY_sc76 : scalarB Try.prog 76 = some true := by kernel_rfl
theorem RY_un76 : Try.prog.underlying 76 = some (.slice 82) := by kernel_rfl
theorem RY_fa78_5 : fieldB Try.prog 78 5 = some 23 := by kernel_rfl
theorem RY_sc4 : scalarB Try.prog 4 = some true := by kernel_rfl
theorem RY_sz82 : sizeB Try.prog 82 = some 2 := by kernel_rfl
theorem RY_ag82 : isAggB Try.prog 82 = some true := by kernel_rfl
theorem RY_go44 : isGo Try.prog 44 = true := by kernel_rfl
theorem RY_go32 : isGo Try.prog 32 = true := by kernel_rfl
set_option maxRecDepth 100000 in
set_option maxHeartbeats 2000000 in
/-- semigroup/sequential.Compose -/
theorem compose_spec (w : World) {M N : Nat} (SF : Sv) (hSF : Stays [] w (svm SF)) (hvF : SF.sq.Ok M) (SG : Sv) (hSG : Stays [] w (svm SG)) (hvG : SG.sq.Ok N) (hMN : M * N + N ≤ 4096) (hM4 : M ≤ 4096) (ho : SF.sq.Over SG.L) (hFG : SF.sq.n * SG.sq.n ≤ 511) : Calls Try.prog 17 #[svv SF, svv SG] w (fun e w' => ∃ i : Sv, IsComp SF.sq SG.sq i.sq ∧ e = .returned (.tuple #[svv i, .int .i64 0]) ∧ Post [] (svH i 3 22 4 9 28) w w') := by
 obtain ⟨hb1F, hb2F, hb3F, hb4F⟩ := hvF.bnd
 obtain ⟨hloF, hleF, hlfF⟩ := hvF.lens
 have hnsF : 0 < SF.rs.length → SF.na.isSome = true := fun h => hSF.now.n.isSome (j := 0) (by rw [List.length_map]; exact h)
 have hosF : 0 < SF.os.length → SF.oa.isSome = true := fun h => hSF.now.o.isSome (j := 0) (by rw [List.length_map]; exact h)
 have hesF : 0 < SF.en.length → SF.ea.isSome = true := fun h => hSF.now.e.isSome (j := 0) (by rw [List.length_map]; exact h)
 have hfsF : 0 < SF.fi.length → SF.fa.isSome = true := fun h => hSF.now.f.isSome (j := 0) (by rw [List.length_map]; exact h)
 have hrsF : ∀ q, q < SF.rs.length → 0 < (SF.rs.getD q rx0).xs.length → (SF.rs.getD q rx0).a.isSome = true := fun q hq h => (hSF.now.r _ (getDm hq)).isSome (j := 0) (by rw [List.length_map]; exact h)
 have husF : ∀ q, q < SF.os.length → 0 < (SF.os.getD q rx0).xs.length → (SF.os.getD q rx0).a.isSome = true := fun q hq h => (hSF.now.u _ (getDm hq)).isSome (j := 0) (by rw [List.length_map]; exact h)
 obtain ⟨hb1G, hb2G, hb3G, hb4G⟩ := hvG.bnd
 obtain ⟨hloG, hleG, hlfG⟩ := hvG.lens
 have hnsG : 0 < SG.rs.length → SG.na.isSome = true := fun h => hSG.now.n.isSome (j := 0) (by rw [List.length_map]; exact h)
 have hosG : 0 < SG.os.length → SG.oa.isSome = true := fun h => hSG.now.o.isSome (j := 0) (by rw [List.length_map]; exact h)
 have hesG : 0 < SG.en.length → SG.ea.isSome = true := fun h => hSG.now.e.isSome (j := 0) (by rw [List.length_map]; exact h)
 have hfsG : 0 < SG.fi.length → SG.fa.isSome = true := fun h => hSG.now.f.isSome (j := 0) (by rw [List.length_map]; exact h)
 have hrsG : ∀ q, q < SG.rs.length → 0 < (SG.rs.getD q rx0).xs.length → (SG.rs.getD q rx0).a.isSome = true := fun q hq h => (hSG.now.r _ (getDm hq)).isSome (j := 0) (by rw [List.length_map]; exact h)
 have husG : ∀ q, q < SG.os.length → 0 < (SG.os.getD q rx0).xs.length → (SG.os.getD q rx0).a.isSome = true := fun q hq h => (hSG.now.u _ (getDm hq)).isSome (j := 0) (by rw [List.length_map]; exact h)
 have hMN1 : M * N ≤ 4096 := by omega
 have hN4 : N ≤ 4096 := by omega
 refine enter (args := [svv SF, svv SG]) [] 107 Try.func17 rfl rfl rfl ?_
 refine CT.seq ?_
 refine CT.region ?_
 refine Wl.g rfl rfl (OpG.box (size := 7) rfl rfl rfl) ?_
 rintro b2 _
 refine Wl.g rfl rfl (OpG.box (size := 7) rfl rfl rfl) ?_
 rintro b3 _
 refine Wl.g rfl rfl (OpG.alloc (zs := [.int .i64 0, .int .i64 0, .string ⟨#[]⟩, .slice none 0 0, .slice none 0 0, .slice none 0 0, .slice none 0 0]) RY_in30 rfl rfl) ?_
 rintro b4 _
 refine Wl.q rfl rfl (OpQ.assign rfl) ?_
 refine Wl.nil ?_
 refine PX.then_n ?_
 refine CT.seq ?_
 refine CT.seq ?_
 refine CT.region ?_
 refine Wl.q rfl rfl (OpQ.loadV (b := b2) RY_ag30 RY_sz30 rfl (by repeat (first | exact Has.here | apply Has.there)) (by rfl)) ?_
 refine Wl.know 13 (v' := svv SF) rfl rfl ?_
 refine Wl.g rfl rfl (OpG.callV RY_go31 rfl (fun w hH => svalid_spec w SF (hH.stays0 hSF) (hvF.mono hM4))) ?_
 rintro _ _
 refine Wl.q rfl rfl (OpQ.assign rfl) ?_
 refine Wl.nil ?_
 refine PX.then_n ?_
 refine CT.seq ?_
 refine CT.region ?_
 refine Wl.q rfl rfl (OpQ.move rfl) ?_
 refine Wl.q rfl rfl (OpQ.neq rfl rfl) ?_
 refine Wl.know 16 (v' := .bool false) rfl (congrArg Value.bool (by decide)) ?_
 refine Wl.nil ?_
 refine PX.then_n ?_
 refine CT.condF rfl ?_
 refine CT.skip ?_
 refine PX.then_n ?_
 refine CT.seq ?_
 refine CT.seq ?_
 refine CT.region ?_
 refine Wl.q rfl rfl (OpQ.loadV (b := b3) RY_ag30 RY_sz30 rfl (by repeat (first | exact Has.here | apply Has.there)) (by rfl)) ?_
 refine Wl.know 19 (v' := svv SG) rfl rfl ?_
 refine Wl.g rfl rfl (OpG.callV RY_go31 rfl (fun w hH => svalid_spec w SG (hH.stays0 hSG) (hvG.mono hN4))) ?_
 rintro _ _
 refine Wl.q rfl rfl (OpQ.assign rfl) ?_
 refine Wl.nil ?_
 refine PX.then_n ?_
 refine CT.seq ?_
 refine CT.region ?_
 refine Wl.q rfl rfl (OpQ.move rfl) ?_
 refine Wl.q rfl rfl (OpQ.neq rfl rfl) ?_
 refine Wl.know 22 (v' := .bool false) rfl (congrArg Value.bool (by decide)) ?_
 refine Wl.nil ?_
 refine PX.then_n ?_
 refine CT.condF rfl ?_
 refine CT.skip ?_
 refine PX.then_n ?_
 refine CT.seq ?_
 refine CT.seq ?_
 refine CT.region ?_
 refine Wl.q rfl rfl (OpQ.loadV (b := b2) RY_ag30 RY_sz30 rfl (by repeat (first | exact Has.here | apply Has.there)) (by rfl)) ?_
 refine Wl.know 25 (v' := svv SF) rfl rfl ?_
 refine Wl.q rfl rfl (OpQ.fieldAddr RY_fa30_0 rfl) ?_
 refine Wl.q rfl rfl (OpQ.loadF (b := b3) RY_sc3 rfl (by repeat (first | exact Has.here | apply Has.there)) (by rfl)) ?_
 refine Wl.g rfl rfl (OpG.callV RY_go39 rfl (fun w hH => wover_spec w SF (hH.stays0 hSF) (hvF.mono hM4) SG.L hb2G ho)) ?_
 rintro _ _
 refine Wl.know 28 (v' := .bool true) rfl (congrArg Value.bool rfl) ?_
 refine Wl.q rfl rfl (OpQ.not rfl) ?_
 refine Wl.nil ?_
 refine PX.then_n ?_
 refine CT.condF rfl ?_
 refine CT.skip ?_
 refine PX.then_n ?_
 refine CT.seq ?_
 refine CT.region ?_
 refine Wl.q rfl rfl (OpQ.loadV (b := b3) RY_ag30 RY_sz30 rfl (by repeat (first | exact Has.here | apply Has.there)) (by rfl)) ?_
 refine Wl.know 32 (v' := svv SG) rfl rfl ?_
 refine Wl.q rfl rfl (OpQ.fieldAddr RY_fa30_1 rfl) ?_
 refine Wl.q rfl rfl (OpQ.loadF (b := b3) RY_sc3 rfl (by repeat (first | exact Has.here | apply Has.there)) (by rfl)) ?_
 refine Wl.q rfl rfl (OpQ.fieldAddr RY_fa30_2 rfl) ?_
 refine Wl.q rfl rfl (OpQ.loadF (b := b2) RY_sc9 rfl (by repeat (first | exact Has.here | apply Has.there)) (by rfl)) ?_
 refine Wl.g rfl rfl (OpG.callV RY_go40 rfl (fun w hH => follow_spec w SG (hH.stays0 hSG) hvG SG.s hb4G SF.init hvF.ti ho.i hMN1 (by have := hvF.ti.1; have : SF.init.length ≤ M := this; omega))) ?_
 rintro _ _
 refine Wl.q rfl rfl (OpQ.move rfl) ?_
 refine Wl.q rfl rfl (OpQ.extract rfl rfl) ?_
 refine Wl.q rfl rfl (OpQ.extract rfl rfl) ?_
 refine Wl.q rfl rfl (OpQ.extract rfl rfl) ?_
 refine Wl.q rfl rfl (OpQ.assign rfl) ?_
 refine Wl.q rfl rfl (OpQ.assign rfl) ?_
 refine Wl.q rfl rfl (OpQ.assign rfl) ?_
 refine Wl.nil ?_
 refine PX.then_n ?_
 refine CT.seq ?_
 refine CT.seq ?_
 refine CT.region ?_
 refine Wl.q rfl rfl (OpQ.move rfl) ?_
 refine Wl.q rfl rfl (OpQ.not rfl) ?_
 refine Wl.nil ?_
 refine PX.then_n ?_
 refine CT.cond rfl (fun h42 => ?_) (fun h42 => ?_)
 ·
  have hr : SG.sq.tr.run SG.s (wl SF.init) = none := flw_f (by simpa using h42)
  refine CT.seq ?_
  refine CT.region ?_
  refine Wl.q rfl rfl (OpQ.fieldAddr RY_fa30_0 rfl) ?_
  refine Wl.q rfl rfl (OpQ.loadF (b := b2) RY_sc3 rfl (by repeat (first | exact Has.here | apply Has.there)) (by rfl)) ?_
  refine Wl.g rfl rfl (OpG.callX RY_go41 rfl .nil (fun _ => (App.of _ _)) (fun w hH hp => empty_spec w SF.L hb2F)) ?_
  rintro i45 h45
  refine Wl.as (fun _ h => HOk.swap (A := svH i45 3 22 4 9 28) h) ?_
  refine Wl.g rfl rfl (OpG.storeV (b := b4) RY_sz30 rfl rfl rfl rfl (by repeat (first | exact Upd.here | apply Upd.there))) ?_
  rintro _ _
  refine Wl.q rfl rfl (OpQ.assign rfl) ?_
  refine Wl.nil ?_
  refine PX.then_n ?_
  refine CT.ret ?_
  refine PX.then_r ?_
  refine PX.retC2 rfl rfl rfl (by repeat (first | exact Has.here | apply Has.there)) RY_ag30 RY_sz30 (by rfl) (fun w' hH => ?_)
  exact ⟨i45, (by unfold IsComp; rw [show SG.sq.tr.run SG.sq.s (wl SF.sq.init) = none from hr]; exact h45), rfl, (HOk.behind (A := [_, _, _]) hH).post⟩
 ·
  obtain ⟨r, hr⟩ : ∃ r, SG.sq.tr.run SG.s (wl SF.init) = some r := flw_t (by simpa using h42)
  refine CT.know 8 (v' := zn r.1) rfl (by rw [hr]; rfl) ?_
  refine CT.know 9 (v' := sv r.2) rfl (by rw [hr]; rfl) ?_
  obtain ⟨hr1, hr2, _⟩ := cTr_runI hvF hvG ho hr
  have hlenB : ∀ k, (bfsP (cTr SF.sq SG.sq).to SF.L (SF.s, r.1) k).length ≤ 511 := fun k => Nat.le_trans (cTr_len hvF hvG ho hr1 k) hFG
  refine CT.skip ?_
  refine PX.then_n ?_
  refine CT.seq ?_
  refine CT.region ?_
  refine Wl.q rfl rfl (OpQ.loadV (b := b2) RY_ag30 RY_sz30 rfl (by repeat (first | exact Has.here | apply Has.there)) (by rfl)) ?_
  refine Wl.know 46 (v' := svv SF) rfl rfl ?_
  refine Wl.q rfl rfl (OpQ.loadV (b := b3) RY_ag30 RY_sz30 rfl (by repeat (first | exact Has.here | apply Has.there)) (by rfl)) ?_
  refine Wl.know 47 (v' := svv SG) rfl rfl ?_
  refine Wl.g rfl rfl (OpG.makeMap (f := kp)) ?_
  rintro b48 _
  refine Wl.q rfl rfl (OpQ.build (cells := #[zn SF.L, zn SF.s, sv SF.init, .slice SF.na SF.rs.length SF.nc, .slice SF.oa SF.os.length SF.oc, .slice SF.ea SF.en.length SF.ec, .slice SF.fa SF.fi.length SF.fc, zn SG.L, zn SG.s, sv SG.init, .slice SG.na SG.rs.length SG.nc, .slice SG.oa SG.os.length SG.oc, .slice SG.ea SG.en.length SG.ec, .slice SG.fa SG.fi.length SG.fc, .int .i64 0, .int .i64 0, .string ⟨#[]⟩, .slice none 0 0, .slice none 0 0, .slice none 0 0, .slice none 0 0, .slice none 0 0, .map (some b48), .bool true]) RY_pl78 rfl (by kernel_rfl)) ?_
  refine Wl.g rfl rfl (OpG.box (size := 24) rfl rfl rfl) ?_
  rintro b50 _
  refine Wl.q rfl rfl (OpQ.assign rfl) ?_
  refine Wl.nil ?_
  refine PX.then_n ?_
  refine CT.seq ?_
  refine CT.region ?_
  refine Wl.q rfl rfl (OpQ.move rfl) ?_
  refine Wl.q rfl rfl (OpQ.fieldAddr RY_fa30_0 rfl) ?_
  refine Wl.q rfl rfl (OpQ.loadF (b := b2) RY_sc3 rfl (by repeat (first | exact Has.here | apply Has.there)) (by rfl)) ?_
  refine Wl.q rfl rfl (OpQ.nilCheckP rfl) ?_
  refine Wl.q rfl rfl (OpQ.fieldAddr RY_fa78_2 rfl) ?_
  refine Wl.q rfl rfl (OpQ.fieldAddr RY_fa30_0 rfl) ?_
  refine Wl.know 56 rfl (add_ptr _ _ _) ?_
  refine Wl.g rfl rfl (OpG.storeRow (a := some ⟨b50, 0, none⟩) RY_sz3 rfl rfl rfl (by repeat (first | exact Upd.here | apply Upd.there)) (by simp)) ?_
  rintro _ _
  refine Wl.nil ?_
  refine PX.then_n ?_
  refine CT.seq ?_
  refine CT.region ?_
  refine Wl.q rfl rfl (OpQ.move rfl) ?_
  refine Wl.q rfl rfl (OpQ.move rfl) ?_
  refine Wl.q rfl rfl (OpQ.fieldAddr RY_fa30_2 rfl) ?_
  refine Wl.q rfl rfl (OpQ.loadF (b := b3) RY_sc9 rfl (by repeat (first | exact Has.here | apply Has.there)) (by rfl)) ?_
  refine Wl.q rfl rfl (OpQ.move rfl) ?_
  refine Wl.g rfl rfl (OpG.callV RY_go42 rfl (fun w hH => cwritten_spec w _ SG.init r.2 (by have := hr2.1; have : SG.init.length ≤ N := hvG.ti.1; omega))) ?_
  rintro _ _
  refine Wl.q rfl rfl (OpQ.nilCheckP rfl) ?_
  refine Wl.q rfl rfl (OpQ.fieldAddr RY_fa78_2 rfl) ?_
  refine Wl.q rfl rfl (OpQ.fieldAddr RY_fa30_2 rfl) ?_
  refine Wl.know 65 rfl (add_ptr _ _ _) ?_
  refine Wl.g rfl rfl (OpG.storeRow (a := some ⟨b50, 0, none⟩) RY_sz9 rfl rfl rfl (by repeat (first | exact Upd.here | apply Upd.there)) (by simp)) ?_
  rintro _ _
  refine Wl.nil ?_
  refine PX.then_n ?_
  refine CT.seq ?_
  refine CT.region ?_
  refine Wl.q rfl rfl (OpQ.move rfl) ?_
  refine Wl.q rfl rfl (OpQ.fieldAddr RY_fa30_1 rfl) ?_
  refine Wl.q rfl rfl (OpQ.loadF (b := b2) RY_sc3 rfl (by repeat (first | exact Has.here | apply Has.there)) (by rfl)) ?_
  refine Wl.q rfl rfl (OpQ.move rfl) ?_
  refine Wl.q rfl rfl (OpQ.build (cells := #[zn SF.s, zn r.1]) RY_pl82 rfl rfl) ?_
  refine Wl.know 70 (v' := kp (SF.s, r.1)) rfl rfl ?_
  refine Wl.as (fun _ h => h.nilrow 82 2) ?_
  refine Wl.g rfl rfl (OpG.callX RY_go43 rfl (.cons (.there .here) (.cons .here (.cons .here .nil))) (fun _ => (.cons (.cons (.cons .nil)))) (fun w hH hp => cadd_spec w b50 b48 SF SG (zn SF.L) (.int .i64 0) (sv (SG.init ++ r.2)) (.slice none 0 0) (.slice none 0 0) (.slice none 0 0) (.slice none 0 0) [] none 0 hp (by decide) (SF.s, r.1))) ?_
  rintro ⟨a71, c71⟩ _
  refine Wl.nil ?_
  refine PX.then_n ?_
  refine CT.seq ?_
  refine CT.seq ?_
  refine CT.region ?_
  refine Wl.q rfl rfl (OpQ.assign rfl) ?_
  refine Wl.nil ?_
  refine PX.then_n ?_
  refine CT.block ?_
  refine CT.nilrow 9 1 ?_
  refine CT.nilrow 4 1 ?_
  refine CT.nilrow 28 1 ?_
  refine CT.nilrow 22 1 ?_
  refine CT.as (fun _ h => h.take (.cons (.there (.there (.there (.there .here)))) (.cons (.there (.there (.there (.there .here)))) (.cons (.there (.there (.there (.there .here)))) (.cons .here (.cons .here (.cons .here (.cons .here (.cons .here (.cons .here (.cons .here .nil))))))))))) ?_
  refine CT.loop (ι := Nat × Option Addr × Nat × Option Addr × Nat × List (Rx (Option Nat)) × Option Addr × Nat × List (Rx Wd) × Option Addr × Nat × List Bool × Option Addr × Nat × List Wd) (fun (i, a, c, na', nc', rs, oa', oc', os, ea', ec', es, fa', fc', fs) => GoingP (st := (cTr SF.sq SG.sq).to) (L := SF.L) (s := (SF.s, r.1)) i ∧ CpI (cTr SF.sq SG.sq).to (cTr SF.sq SG.sq) SF.L (SF.s, r.1) (bfsP (cTr SF.sq SG.sq).to SF.L (SF.s, r.1) (i * SF.L)) i rs os es fs) (fun (i, a, c, na', nc', rs, oa', oc', os, ea', ec', es, fa', fc', fs) => [(4, .pointer (some ⟨b4, 0, none⟩)), (11, .pointer (some ⟨b50, 0, none⟩)), (12, .int .i64 ((i : Nat) : Int))]) (fun (i, a, c, na', nc', rs, oa', oc', os, ea', ec', es, fa', fc', fs) => [.row 78 24 (vb b50) 1 [zn SF.L, zn SF.s, sv SF.init, .slice SF.na SF.rs.length SF.nc, .slice SF.oa SF.os.length SF.oc, .slice SF.ea SF.en.length SF.ec, .slice SF.fa SF.fi.length SF.fc, zn SG.L, zn SG.s, sv SG.init, .slice SG.na SG.rs.length SG.nc, .slice SG.oa SG.os.length SG.oc, .slice SG.ea SG.en.length SG.ec, .slice SG.fa SG.fi.length SG.fc, zn SF.L, .int .i64 0, sv (SG.init ++ r.2), .slice na' i nc', .slice oa' i oc', .slice ea' i ec', .slice fa' i fc', .slice a (bfsP (cTr SF.sq SG.sq).to SF.L (SF.s, r.1) (i * SF.L)).length c, .map (some b48), .bool true], .row 82 2 (.slice a (bfsP (cTr SF.sq SG.sq).to SF.L (SF.s, r.1) (i * SF.L)).length c) (bfsP (cTr SF.sq SG.sq).to SF.L (SF.s, r.1) (i * SF.L)).length ((bfsP (cTr SF.sq SG.sq).to SF.L (SF.s, r.1) (i * SF.L)).flatMap stv), .blk b48 (mapO kp (itA 0 (bfsP (cTr SF.sq SG.sq).to SF.L (SF.s, r.1) (i * SF.L)))), .row 22 1 (.slice na' i nc') i (rs.map rxv), .row 28 1 (.slice oa' i oc') i (os.map rxv), .row 4 1 (.slice ea' i ec') i (es.map bo), .row 9 1 (.slice fa' i fc') i (fs.map sv), .row 30 7 (vb b4) 1 [.int .i64 0, .int .i64 0, .string ⟨#[]⟩, .slice none 0 0, .slice none 0 0, .slice none 0 0, .slice none 0 0], .row 30 7 (vb b3) 1 (svc SG), .row 30 7 (vb b2) 1 (svc SF)] ++ (fam 3 zo rs ++ fam 9 sv os)) (fun (i, a, c, na', nc', rs, oa', oc', os, ea', ec', es, fa', fc', fs) => 512 - i) (0, a71, c71, none, 0, [], none, 0, [], none, 0, [], none, 0, []) ⟨GoingP.zero, CpI.start _ _⟩ ⟨rfl, rfl, rfl, trivial⟩ (by dsimp only; rw [Nat.zero_mul]; exact HSub.refl _) (fun ⟨i, a, c, na', nc', rs, oa', oc', os, ea', ec', es, fa', fc', fs⟩ ⟨hg, hcp⟩ K0 hK0 => ?_)
  dsimp only
  have hln := hlenB (i * SF.L)
  have hil := hcp.il
  have hrl0 := hcp.rl
  have hol0 := hcp.ol
  have hel0 := hcp.el
  have hfl0 := hcp.fl
  refine CT.fact (p := a.isSome = true) (fun w hH => (hH.rd (.there .here)).isSome (j := 0) (by rw [flat_len stv_len]; have := bfsP_pos (st := (cTr SF.sq SG.sq).to) (L := SF.L) (s := (SF.s, r.1)) (i * SF.L); omega)) (fun hpa => ?_)
  refine CT.seq ?_
  refine CT.seq ?_
  refine CT.region ?_
  refine Wl.q rfl rfl (OpQ.move rfl) ?_
  refine Wl.q rfl rfl (OpQ.move rfl) ?_
  refine Wl.q rfl rfl (OpQ.nilCheckP rfl) ?_
  refine Wl.q rfl rfl (OpQ.fieldAddr RY_fa78_3 rfl) ?_
  refine Wl.q rfl rfl (OpQ.loadF (b := b50) RY_sc76 rfl (by repeat (first | exact Has.here | apply Has.there)) (by rfl)) ?_
  refine Wl.q rfl rfl (OpQ.len RY_un76 rfl) ?_
  refine Wl.q rfl rfl (OpQ.lss rfl rfl) ?_
  refine Wl.q rfl rfl (OpQ.move rfl) ?_
  refine Wl.split 79 rfl (fun hg79 => ?_) (fun hg79 => ?_)
  ·
   have hlt := of_decide_eq_true hg79
   have hlt : i < (bfsP (cTr SF.sq SG.sq).to SF.L (SF.s, r.1) (i * SF.L)).length := by omega
   refine Wl.q rfl rfl (OpQ.move rfl) ?_
   refine Wl.q rfl rfl (OpQ.nilCheckP rfl) ?_
   refine Wl.q rfl rfl (OpQ.fieldAddr RY_fa78_5 rfl) ?_
   refine Wl.q rfl rfl (OpQ.loadF (b := b50) RY_sc4 rfl (by repeat (first | exact Has.here | apply Has.there)) (by rfl)) ?_
   refine Wl.know 83 (v' := .bool true) rfl (congrArg Value.bool rfl) ?_
   refine Wl.q rfl rfl (OpQ.pickT rfl rfl) ?_
   refine Wl.nil ?_
   refine PX.then_n ?_
   refine CT.condT rfl ?_
   refine CT.skip ?_
   refine PX.then_n ?_
   refine CT.seq ?_
   refine CT.block ?_
   refine CT.region ?_
   refine Wl.q rfl rfl (OpQ.move rfl) ?_
   refine Wl.q rfl rfl (OpQ.move rfl) ?_
   refine Wl.q rfl rfl (OpQ.nilCheckP rfl) ?_
   refine Wl.q rfl rfl (OpQ.fieldAddr RY_fa78_3 rfl) ?_
   refine Wl.q rfl rfl (OpQ.loadF (b := b50) RY_sc76 rfl (by repeat (first | exact Has.here | apply Has.there)) (by rfl)) ?_
   refine Wl.q rfl rfl (OpQ.move rfl) ?_
   refine Wl.q rfl rfl (OpQ.index RY_un76 RY_sz82 rfl rfl (by omega) hpa) ?_
   refine Wl.q rfl rfl (OpQ.loadAggG (cs := stv ((bfsP (cTr SF.sq SG.sq).to SF.L (SF.s, r.1) (i * SF.L)).getD i (SF.s, r.1))) RY_ag82 RY_sz82 rfl (fun w hH => hH.rd (.there .here)) (flat_cells stv_len (bfsP (cTr SF.sq SG.sq).to SF.L (SF.s, r.1) (i * SF.L)) (SF.s, r.1) hlt)) ?_
   refine Wl.know 94 (v' := kp ((bfsP (cTr SF.sq SG.sq).to SF.L (SF.s, r.1) (i * SF.L)).getD i (SF.s, r.1))) rfl rfl ?_
   refine Wl.g rfl rfl (OpG.callX RY_go44 rfl (.cons .here (.cons .here (.cons .here (.cons .here (.cons .here (.cons .here (.cons .here .nil))))))) (fun _ => (.cons (.cons (.cons (.cons (.cons (.cons (.cons (.cons (.cons .nil)))))))))) (fun w hH hp => cstate_spec w b50 b48 SF SG (SG.init ++ r.2) r.1 i a c na' nc' rs oa' oc' os ea' ec' es fa' fc' fs (hH.stays hSF (.cons .here (.cons .here (.cons .here (.cons .here (.cons .here (.cons .here (.cons .here .nil)))))))) hvF (hH.stays hSG (.cons .here (.cons .here (.cons .here (.cons .here (.cons .here (.cons .here (.cons .here .nil)))))))) hvG hMN hM4 ho hr1 hFG hlt hcp hp ((bfsP (cTr SF.sq SG.sq).to SF.L (SF.s, r.1) (i * SF.L)).getD i (SF.s, r.1)) rfl)) ?_
   rintro ⟨a95, c95, r95, o95, n95, nc95, o95a, oc95, e95, ec95, f95, fc95⟩ h95
   dsimp only at h95
   refine Wl.nil ?_
   refine PX.block_n ?_
   refine PX.then_n ?_
   refine CT.region ?_
   refine Wl.q rfl rfl (OpQ.move rfl) ?_
   refine Wl.q rfl rfl (OpQ.add rfl rfl (by omega)) ?_
   refine Wl.q rfl rfl (OpQ.assign rfl) ?_
   refine Wl.nil ?_
   refine PX.as (fun _ h => HOk.fam2 (r := r95) (o := o95) (A := [.row 78 24 (vb b50) 1 [zn SF.L, zn SF.s, sv SF.init, .slice SF.na SF.rs.length SF.nc, .slice SF.oa SF.os.length SF.oc, .slice SF.ea SF.en.length SF.ec, .slice SF.fa SF.fi.length SF.fc, zn SG.L, zn SG.s, sv SG.init, .slice SG.na SG.rs.length SG.nc, .slice SG.oa SG.os.length SG.oc, .slice SG.ea SG.en.length SG.ec, .slice SG.fa SG.fi.length SG.fc, zn SF.L, .int .i64 0, sv (SG.init ++ r.2), .slice n95 (i + 1) nc95, .slice o95a (i + 1) oc95, .slice e95 (i + 1) ec95, .slice f95 (i + 1) fc95, .slice a95 (bfsP (cTr SF.sq SG.sq).to SF.L (SF.s, r.1) (i * SF.L + SF.L)).length c95, .map (some b48), .bool true], .row 82 2 (.slice a95 (bfsP (cTr SF.sq SG.sq).to SF.L (SF.s, r.1) (i * SF.L + SF.L)).length c95) (bfsP (cTr SF.sq SG.sq).to SF.L (SF.s, r.1) (i * SF.L + SF.L)).length ((bfsP (cTr SF.sq SG.sq).to SF.L (SF.s, r.1) (i * SF.L + SF.L)).flatMap stv), .blk b48 (mapO kp (itA 0 (bfsP (cTr SF.sq SG.sq).to SF.L (SF.s, r.1) (i * SF.L + SF.L)))), .row 22 1 (.slice n95 (i + 1) nc95) (i + 1) ((rs ++ [r95]).map rxv), .row 28 1 (.slice o95a (i + 1) oc95) (i + 1) ((os ++ [o95]).map rxv), .row 4 1 (.slice e95 (i + 1) ec95) (i + 1) ((es ++ [(cTr SF.sq SG.sq).en ((bfsP (cTr SF.sq SG.sq).to SF.L (SF.s, r.1) (i * SF.L)).getD i (SF.s, r.1))]).map bo), .row 9 1 (.slice f95 (i + 1) fc95) (i + 1) ((fs ++ [(cTr SF.sq SG.sq).fi ((bfsP (cTr SF.sq SG.sq).to SF.L (SF.s, r.1) (i * SF.L)).getD i (SF.s, r.1))]).map sv), .row 30 7 (vb b4) 1 [.int .i64 0, .int .i64 0, .string ⟨#[]⟩, .slice none 0 0, .slice none 0 0, .slice none 0 0, .slice none 0 0], .row 30 7 (vb b3) 1 (svc SG), .row 30 7 (vb b2) 1 (svc SF)]) h) ?_
   exact PX.loop hK0 (i + 1, a95, c95, n95, nc95, rs ++ [r95], o95a, oc95, os ++ [o95], e95, ec95, es ++ [(cTr SF.sq SG.sq).en ((bfsP (cTr SF.sq SG.sq).to SF.L (SF.s, r.1) (i * SF.L)).getD i (SF.s, r.1))], f95, fc95, fs ++ [(cTr SF.sq SG.sq).fi ((bfsP (cTr SF.sq SG.sq).to SF.L (SF.s, r.1) (i * SF.L)).getD i (SF.s, r.1))]) ⟨hg.next hlt, by rw [Nat.add_mul, Nat.one_mul]; exact h95⟩ (show 512 - (i + 1) < 512 - i by omega) ⟨rfl, rfl, rfl, trivial⟩ (by dsimp only; rw [Nat.add_mul, Nat.one_mul]; exact HSub.refl _)
  ·
   have hge := of_decide_eq_false hg79
   refine Wl.skip rfl rfl ?_
   refine Wl.skip rfl rfl ?_
   refine Wl.skip rfl rfl ?_
   refine Wl.skip rfl rfl ?_
   refine Wl.q rfl rfl (OpQ.pickF rfl rfl) ?_
   refine Wl.nil ?_
   refine PX.then_n ?_
   refine CT.condF rfl ?_
   refine CT.exit ?_
   refine PX.then_x ?_
   refine PX.then_x ?_
   refine PX.block_x ?_
   refine PX.then_n ?_
   refine CT.seq ?_
   refine CT.seq ?_
   refine CT.region ?_
   have hii : i = (bfsP (cTr SF.sq SG.sq).to SF.L (SF.s, r.1) (i * SF.L)).length := by omega
   have hK : DoneP (st := (cTr SF.sq SG.sq).to) (L := SF.L) (s := (SF.s, r.1)) (i * SF.L) := DoneP.of (by omega) hg (by omega)
   have hfin : (⟨SF.L, 0, (SG.init ++ r.2), na', nc', rs, oa', oc', os, ea', ec', es, fa', fc', fs⟩ : Sv).sq = listD (cTr SF.sq SG.sq) SF.L (SG.init ++ r.2) (bfsP (cTr SF.sq SG.sq).to SF.L (SF.s, r.1) (i * SF.L)) := CpI.done (z := (SF.s, r.1)) (by rw [← hii]; exact hcp) (bfsP_nodup _) _ _ _ _ _ _ _ _ _
   have hDo : (⟨SF.L, 0, (SG.init ++ r.2), na', nc', rs, oa', oc', os, ea', ec', es, fa', fc', fs⟩ : Sv).sq.Ok 4096 := by rw [hfin]; exact (comp_ok hvF hvG ho (by omega) hr hK).1.mono hMN
   have hval : svv (⟨SF.L, 0, (SG.init ++ r.2), na', nc', rs, oa', oc', os, ea', ec', es, fa', fc', fs⟩ : Sv) = .agg #[zn SF.L, .int .i64 0, sv (SG.init ++ r.2), .slice na' i nc', .slice oa' i oc', .slice ea' i ec', .slice fa' i fc'] := by simp only [svv, svc, hrl0, hol0, hel0, hfl0]; rfl
   refine Wl.q rfl rfl (OpQ.move rfl) ?_
   refine Wl.q rfl rfl (OpQ.nilCheckP rfl) ?_
   refine Wl.q rfl rfl (OpQ.fieldAddr RY_fa78_5 rfl) ?_
   refine Wl.q rfl rfl (OpQ.loadF (b := b50) RY_sc4 rfl (by repeat (first | exact Has.here | apply Has.there)) (by rfl)) ?_
   refine Wl.know 99 (v' := .bool true) rfl (congrArg Value.bool rfl) ?_
   refine Wl.q rfl rfl (OpQ.not rfl) ?_
   refine Wl.nil ?_
   refine PX.then_n ?_
   refine CT.condF rfl ?_
   refine CT.skip ?_
   refine PX.then_n ?_
   refine CT.seq ?_
   refine CT.region ?_
   refine Wl.q rfl rfl (OpQ.move rfl) ?_
   refine Wl.q rfl rfl (OpQ.nilCheckP rfl) ?_
   refine Wl.q rfl rfl (OpQ.fieldAddr RY_fa78_2 rfl) ?_
   refine Wl.q rfl rfl (OpQ.loadFA (b := b50) (cs := [zn SF.L, .int .i64 0, sv (SG.init ++ r.2), .slice na' i nc', .slice oa' i oc', .slice ea' i ec', .slice fa' i fc']) RY_ag30 RY_sz30 rfl (by repeat (first | exact Has.here | apply Has.there)) (fun k v hk => cells_at (A := [zn SF.L, zn SF.s, sv SF.init, .slice SF.na SF.rs.length SF.nc, .slice SF.oa SF.os.length SF.oc, .slice SF.ea SF.en.length SF.ec, .slice SF.fa SF.fi.length SF.fc, zn SG.L, zn SG.s, sv SG.init, .slice SG.na SG.rs.length SG.nc, .slice SG.oa SG.os.length SG.oc, .slice SG.ea SG.en.length SG.ec, .slice SG.fa SG.fi.length SG.fc]) (B := [zn SF.L, .int .i64 0, sv (SG.init ++ r.2), .slice na' i nc', .slice oa' i oc', .slice ea' i ec', .slice fa' i fc']) (C := [.slice a (bfsP (cTr SF.sq SG.sq).to SF.L (SF.s, r.1) (i * SF.L)).length c, .map (some b48), .bool true]) hk)) ?_
   refine Wl.know 105 (v' := svv (⟨SF.L, 0, (SG.init ++ r.2), na', nc', rs, oa', oc', os, ea', ec', es, fa', fc', fs⟩ : Sv)) rfl hval.symm ?_
   refine Wl.as (fun _ h => HOk.rot (A := [_, _, _, _]) (B := [_, _, _, _, _, _]) (HOk.rot (A := [_, _, _]) (B := [_, _, _, _]) h)) ?_
   refine Wl.mem (H' := [_, _, _, .row 30 7 (vb b4) 1 [.int .i64 0, .int .i64 0, .string ⟨#[]⟩, .slice none 0 0, .slice none 0 0, .slice none 0 0, .slice none 0 0], _, _] ++ svH (⟨SF.L, 0, (SG.init ++ r.2), na', nc', rs, oa', oc', os, ea', ec', es, fa', fc', fs⟩ : Sv) 3 22 4 9 28) (.keep rfl (.keep rfl (.keep rfl (.keep rfl (.keep rfl (.keep rfl (.keep (by simp only [hrl0]) (.keep (by simp only [hol0]) (.keep (by simp only [hel0]) (.keep (by simp only [hfl0]) (HSub.refl _))))))))))) ?_
   refine Wl.g rfl rfl (OpG.callX RY_go32 rfl .nil (fun _ => (App.of _ _)) (fun w hH hp => strim_spec w (⟨SF.L, 0, (SG.init ++ r.2), na', nc', rs, oa', oc', os, ea', ec', es, fa', fc', fs⟩ : Sv) (HOk.svmS (A := [_, _, _, _, _, _]) hH) hDo)) ?_
   rintro i106 h106
   refine Wl.as (fun _ h => HOk.swap (A := svH i106 3 22 4 9 28) (h.sublist (List.Sublist.append_left (HSub.sub (L := [.row 30 7 (vb b4) 1 [.int .i64 0, .int .i64 0, .string ⟨#[]⟩, .slice none 0 0, .slice none 0 0, .slice none 0 0, .slice none 0 0]]) (.drop (.drop (.drop (.keep rfl (HSub.none _)))))) _))) ?_
   rw [hfin] at h106
   refine Wl.g rfl rfl (OpG.storeV (b := b4) RY_sz30 rfl rfl rfl rfl (by repeat (first | exact Upd.here | apply Upd.there))) ?_
   rintro _ _
   refine Wl.q rfl rfl (OpQ.assign rfl) ?_
   refine Wl.nil ?_
   refine PX.then_n ?_
   refine CT.ret ?_
   refine PX.retC2 rfl rfl rfl (by repeat (first | exact Has.here | apply Has.there)) RY_ag30 RY_sz30 (by rfl) (fun w' hH => ?_)
   exact ⟨i106, (by unfold IsComp; rw [show SG.sq.tr.run SG.sq.s (wl SF.sq.init) = some r from hr]; exact ⟨i * SF.L, hK, h106⟩), rfl, (HOk.behind (A := [_]) hH).post⟩

end Go.Proofs.Ytamolakhpcofhaa

