/-
  What functions of the program compute, each by its walk. Conditions: those that each theorem names.
-/
import Derived.Test.YtamolakhpcofhaaXE22
import Derived.Test.YtamolakhpcofhaaXE20
import Derived.Test.YtamolakhpcofhaaMod1
import Derived.Test.YtamolakhpcofhaaEng
import Derived.Test.YtamolakhpcofhaaEng1
set_option linter.unusedSimpArgs false
namespace Go.Proofs.Ytamolakhpcofhaa
open Go Go.Eng Go.Am Go.Sq
open Go.Tp (zi)
open Go.Tl (mayL Wd okW okB bo)

theorem RZ_mkQ : MapKey Try.prog 87 kp := MapKey.struct (n := 2) (by kernel_rfl) (fun p : Nat × Nat => [(p.1 : Int), (p.2 : Int)]) (fun _ => rfl) kp_inj
theorem RZ_fa30_3 : fieldB Try.prog 30 3 = some 3 := by kernel_rfl
theorem RZ_un25 : Try.prog.underlying 25 = some (.slice 22) := by kernel_rfl
theorem RZ_in22 : (Try.prog.info? 22).map (fun i => (i.zero, i.size, i.bytes)) = some (some (.slice none 0 0), 1, 24) := by kernel_rfl
theorem RZ_un26 : Try.prog.underlying 26 = some (.slice 28) := by kernel_rfl
theorem RZ_in28 : (Try.prog.info? 28).map (fun i => (i.zero, i.size, i.bytes)) = some (some (.slice none 0 0), 1, 24) := by kernel_rfl
theorem RZ_un27 : Try.prog.underlying 27 = some (.slice 4) := by kernel_rfl
theorem RZ_in4 : (Try.prog.info? 4).map (fun i => (i.zero, i.size, i.bytes)) = some (some (.bool false), 1, 1) := by kernel_rfl
theorem RZ_un28 : Try.prog.underlying 28 = some (.slice 9) := by kernel_rfl
theorem RZ_in9 : (Try.prog.info? 9).map (fun i => (i.zero, i.size, i.bytes)) = some (some (.string ⟨#[]⟩), 1, 16) := by kernel_rfl
theorem RZ_ag87 : isAggB Try.prog 87 = some true := by kernel_rfl
theorem RZ_sz87 : sizeB Try.prog 87 = some 2 := by kernel_rfl
theorem RZ_un88 : Try.prog.underlying 88 = some (.slice 87) := by kernel_rfl
theorem RZ_in87 : (Try.prog.info? 87).map (fun i => (i.zero, i.size, i.bytes)) = some (some (.agg #[.int .i64 0, .int .i64 0]), 2, 16) := by kernel_rfl
theorem RZ_in30 : (Try.prog.info? 30).map (fun i => (i.zero, i.size, i.bytes)) = some (some (.agg #[.int .i64 0, .int .i64 0, .string ⟨#[]⟩, .slice none 0 0, .slice none 0 0, .slice none 0 0, .slice none 0 0]), 7, 128) := by kernel_rfl
theorem RZ_ag30 : isAggB Try.prog 30 = some true := by kernel_rfl
theorem RZ_sz30 : sizeB Try.prog 30 = some 7 := by kernel_rfl
theorem RZ_go45 : isGo Try.prog 45 = true := by kernel_rfl
theorem RZ_fa30_0 : fieldB Try.prog 30 0 = some 0 := by kernel_rfl
theorem RZ_sc3 : scalarB Try.prog 3 = some true := by kernel_rfl
theorem RZ_go46 : isGo Try.prog 46 = true := by kernel_rfl
theorem RZ_fa30_1 : fieldB Try.prog 30 1 = some 1 := by kernel_rfl
theorem RZ_fa30_2 : fieldB Try.prog 30 2 = some 2 := by kernel_rfl
theorem RZ_sc9 : scalarB Try.prog 9 = some true := by kernel_rfl
theorem RZ_go47 : isGo Try.prog 47 = true := by kernel_rfl
theorem RZ_go48 : isGo Try.prog 48 = true := by kernel_rfl
theorem RZ_pl87 : placesB Try.prog 87 = some (#[.int .i64 0, .int .i64 0], [(0, 1), (1, 1)]) := by kernel_rfl
theorem RZ_un89 : Try.prog.underlying 89 = some (.map 87 3) := by kernel_rfl
theorem RZ_pl30 : placesB Try.prog 30 = some (#[.int .i64 0, .int .i64 0, .string ⟨#[]⟩, .slice none 0 0, .slice none 0 0, .slice none 0 0, .slice none 0 0], [(0, 1), (1, 1), (2, 1), (3, 1), (4, 1), (5, 1), (6, 1)]) := by kernel_rfl
theorem RZ_un9 : Try.prog.underlying 9 = some .string := by kernel_rfl
theorem RZ_sc25 : scalarB Try.prog 25 = some true := by kernel_rfl
theorem RZ_fa87_0 : fieldB Try.prog 87 0 = some 0 := by kernel_rfl
theorem RZ_sz22 : sizeB Try.prog 22 = some 1 := by kernel_rfl
theorem RZ_sc22 : scalarB Try.prog 22 = some true := by kernel_rfl
theorem RZ_un22 : Try.prog.underlying 22 = some (.slice 3) := by kernel_rfl
theorem RZ_sz3 : sizeB Try.prog 3 = some 1 := by kernel_rfl
theorem RZ_mixed : Try.prog.follows .mixedOrders = true := by kernel_rfl
theorem RZ_fa87_1 : fieldB Try.prog 87 1 = some 1 := by kernel_rfl
theorem RZ_fa30_4 : fieldB Try.prog 30 4 = some 4 := by kernel_rfl
theorem RZ_sc26 : scalarB Try.prog 26 = some true := by kernel_rfl
theorem RZ_sz28 : sizeB Try.prog 28 = some 1 := by kernel_rfl
theorem RZ_sc28 : scalarB Try.prog 28 = some true := by kernel_rfl
theorem RZ_sz9 : sizeB Try.prog 9 = some 1 := by kernel_rfl
theorem RZ_in3 : (Try.prog.info? 3).map (fun i => (i.zero, i.size, i.bytes)) = some (some (.int .i64 0), 1, 8) := by kernel_rfl
theorem RZ_fa30_5 : fieldB Try.prog 30 5 = some 5 := by kernel_rfl
theorem RZ_sc27 : scalarB Try.prog 27 = some true := by kernel_rfl
theorem RZ_sz4 : sizeB Try.prog 4 = some 1 := by kernel_rfl
theorem RZ_sc4 : scalarB Try.prog 4 = some true := by kernel_rfl
theorem RZ_fa30_6 : fieldB Try.prog 30 6 = some 6 := by kernel_rfl
theorem RZ_sz25 : sizeB Try.prog 25 = some 1 := by kernel_rfl
theorem RZ_sz26 : sizeB Try.prog 26 = some 1 := by kernel_rfl
theorem RZ_sz27 : sizeB Try.prog 27 = some 1 := by kernel_rfl
theorem RZ_go49 : isGo Try.prog 49 = true := by kernel_rfl
set_option maxRecDepth 100000 in
set_option maxHeartbeats 4000000 in
/-- semigroup/semigroupref42.Compose -/
theorem composeR_spec (w : World) {M N : Nat} (SF : Sv) (hSF : Stays [] w (svm SF)) (hvF : SF.sq.Ok M) (SG : Sv) (hSG : Stays [] w (svm SG)) (hvG : SG.sq.Ok N) (hMN : M * N + N ≤ 4096) (hM4 : M ≤ 4096) (ho : SF.sq.Over SG.L) (hFG : SF.sq.n * SG.sq.n ≤ 511) : Calls Try.prog 18 #[svv SF, svv SG] w (fun e w' => ∃ i : Sv, IsComp SF.sq SG.sq i.sq ∧ e = .returned (.tuple #[svv i, .int .i64 0]) ∧ Post [] (svH i 3 22 4 9 28) w w') := by
 obtain ⟨hb1F, hb2F, hb3F, hb4F⟩ := hvF.bnd
 obtain ⟨hloF, hleF, hlfF⟩ := hvF.lens
 have hnsF : 0 < SF.rs.length → SF.na.isSome = true := fun h => hSF.now.n.isSome (j := 0) (by rw [List.length_map]; exact h)
 have hosF : 0 < SF.os.length → SF.oa.isSome = true := fun h => hSF.now.o.isSome (j := 0) (by rw [List.length_map]; exact h)
 have hesF : 0 < SF.en.length → SF.ea.isSome = true := fun h => hSF.now.e.isSome (j := 0) (by rw [List.length_map]; exact h)
 have hfsF : 0 < SF.fi.length → SF.fa.isSome = true := fun h => hSF.now.f.isSome (j := 0) (by rw [List.length_map]; exact h)
 have hrsF : ∀ q, q < SF.rs.length → 0 < (SF.rs.getD q rx0).xs.length → (SF.rs.getD q rx0).a.isSome = true := fun q hq h => (hSF.now.r _ (getDm hq)).isSome (j := 0) (by rw [List.length_map]; exact h)
 have husF : ∀ q, q < SF.os.length → 0 < (SF.os.getD q rx0).xs.length → (SF.os.getD q rx0).a.isSome = true := fun q hq h => (hSF.now.u _ (getDm hq)).isSome (j := 0) (by rw [List.length_map]; exact h)
 obtain ⟨hb1G, hb2G, hb3G, hb4G⟩ := hvG.bnd
 obtain ⟨hloG, hleG, hlfG⟩ := hvG.lens
 have hnsG : 0 < SG.rs.length → SG.na.isSome = true := fun h => hSG.now.n.isSome (j := 0) (by rw [List.length_map]; exact h)
 have hosG : 0 < SG.os.length → SG.oa.isSome = true := fun h => hSG.now.o.isSome (j := 0) (by rw [List.length_map]; exact h)
 have hesG : 0 < SG.en.length → SG.ea.isSome = true := fun h => hSG.now.e.isSome (j := 0) (by rw [List.length_map]; exact h)
 have hfsG : 0 < SG.fi.length → SG.fa.isSome = true := fun h => hSG.now.f.isSome (j := 0) (by rw [List.length_map]; exact h)
 have hrsG : ∀ q, q < SG.rs.length → 0 < (SG.rs.getD q rx0).xs.length → (SG.rs.getD q rx0).a.isSome = true := fun q hq h => (hSG.now.r _ (getDm hq)).isSome (j := 0) (by rw [List.length_map]; exact h)
 have husG : ∀ q, q < SG.os.length → 0 < (SG.os.getD q rx0).xs.length → (SG.os.getD q rx0).a.isSome = true := fun q hq h => (hSG.now.u _ (getDm hq)).isSome (j := 0) (by rw [List.length_map]; exact h)
 have hMN1 : M * N ≤ 4096 := by omega
 have hN4 : N ≤ 4096 := by omega
 refine enter (args := [svv SF, svv SG]) [] 238 Try.func18 rfl rfl rfl ?_
 refine CT.seq ?_
 refine CT.region ?_
 refine Wl.g rfl rfl (OpG.box (size := 7) rfl rfl rfl) ?_
 rintro b2 _
 refine Wl.g rfl rfl (OpG.box (size := 7) rfl rfl rfl) ?_
 rintro b3 _
 refine Wl.g rfl rfl (OpG.alloc (zs := [.int .i64 0, .int .i64 0, .string ⟨#[]⟩, .slice none 0 0, .slice none 0 0, .slice none 0 0, .slice none 0 0]) RZ_in30 rfl rfl) ?_
 rintro b4 _
 refine Wl.q rfl rfl (OpQ.assign rfl) ?_
 refine Wl.nil ?_
 refine PX.then_n ?_
 refine CT.seq ?_
 refine CT.seq ?_
 refine CT.region ?_
 refine Wl.q rfl rfl (OpQ.loadV (b := b2) RZ_ag30 RZ_sz30 rfl (by repeat (first | exact Has.here | apply Has.there)) (by rfl)) ?_
 refine Wl.know 29 (v' := svv SF) rfl rfl ?_
 refine Wl.g rfl rfl (OpG.callV RZ_go45 rfl (fun w hH => svalidR_spec w SF (hH.stays0 hSF) (hvF.mono hM4))) ?_
 rintro _ _
 refine Wl.q rfl rfl (OpQ.assign rfl) ?_
 refine Wl.nil ?_
 refine PX.then_n ?_
 refine CT.seq ?_
 refine CT.region ?_
 refine Wl.q rfl rfl (OpQ.move rfl) ?_
 refine Wl.q rfl rfl (OpQ.neq rfl rfl) ?_
 refine Wl.know 32 (v' := .bool false) rfl (congrArg Value.bool (by decide)) ?_
 refine Wl.nil ?_
 refine PX.then_n ?_
 refine CT.condF rfl ?_
 refine CT.skip ?_
 refine PX.then_n ?_
 refine CT.seq ?_
 refine CT.seq ?_
 refine CT.region ?_
 refine Wl.q rfl rfl (OpQ.loadV (b := b3) RZ_ag30 RZ_sz30 rfl (by repeat (first | exact Has.here | apply Has.there)) (by rfl)) ?_
 refine Wl.know 35 (v' := svv SG) rfl rfl ?_
 refine Wl.g rfl rfl (OpG.callV RZ_go45 rfl (fun w hH => svalidR_spec w SG (hH.stays0 hSG) (hvG.mono hN4))) ?_
 rintro _ _
 refine Wl.q rfl rfl (OpQ.assign rfl) ?_
 refine Wl.nil ?_
 refine PX.then_n ?_
 refine CT.seq ?_
 refine CT.region ?_
 refine Wl.q rfl rfl (OpQ.move rfl) ?_
 refine Wl.q rfl rfl (OpQ.neq rfl rfl) ?_
 refine Wl.know 38 (v' := .bool false) rfl (congrArg Value.bool (by decide)) ?_
 refine Wl.nil ?_
 refine PX.then_n ?_
 refine CT.condF rfl ?_
 refine CT.skip ?_
 refine PX.then_n ?_
 refine CT.seq ?_
 refine CT.seq ?_
 refine CT.region ?_
 refine Wl.q rfl rfl (OpQ.loadV (b := b2) RZ_ag30 RZ_sz30 rfl (by repeat (first | exact Has.here | apply Has.there)) (by rfl)) ?_
 refine Wl.know 41 (v' := svv SF) rfl rfl ?_
 refine Wl.q rfl rfl (OpQ.fieldAddr RZ_fa30_0 rfl) ?_
 refine Wl.q rfl rfl (OpQ.loadF (b := b3) RZ_sc3 rfl (by repeat (first | exact Has.here | apply Has.there)) (by rfl)) ?_
 refine Wl.g rfl rfl (OpG.callV RZ_go46 rfl (fun w hH => writesR_spec w SF (hH.stays0 hSF) (hvF.mono hM4) SG.L ho)) ?_
 rintro _ _
 refine Wl.know 44 (v' := .bool true) rfl (congrArg Value.bool rfl) ?_
 refine Wl.q rfl rfl (OpQ.not rfl) ?_
 refine Wl.nil ?_
 refine PX.then_n ?_
 refine CT.condF rfl ?_
 refine CT.skip ?_
 refine PX.then_n ?_
 refine CT.seq ?_
 refine CT.region ?_
 refine Wl.q rfl rfl (OpQ.loadV (b := b3) RZ_ag30 RZ_sz30 rfl (by repeat (first | exact Has.here | apply Has.there)) (by rfl)) ?_
 refine Wl.know 48 (v' := svv SG) rfl rfl ?_
 refine Wl.q rfl rfl (OpQ.fieldAddr RZ_fa30_1 rfl) ?_
 refine Wl.q rfl rfl (OpQ.loadF (b := b3) RZ_sc3 rfl (by repeat (first | exact Has.here | apply Has.there)) (by rfl)) ?_
 refine Wl.q rfl rfl (OpQ.fieldAddr RZ_fa30_2 rfl) ?_
 refine Wl.q rfl rfl (OpQ.loadF (b := b2) RZ_sc9 rfl (by repeat (first | exact Has.here | apply Has.there)) (by rfl)) ?_
 refine Wl.g rfl rfl (OpG.call RZ_go47 rfl (fun w hH => (run_spec w SG (hH.stays0 hSG) hvG SG.s hb4G SF.init hvF.ti ho.i hMN1 (by have := hvF.ti.1; have : SF.init.length ≤ M := this; omega)).mono fun e w' ⟨r, h1, h2, h3⟩ => ⟨r, h1, h2, hH.ext_nil h3⟩)) ?_
 rintro p53 h53
 refine Wl.know 53 (v' := .tuple #[zo p53.1, sv p53.2]) rfl rfl ?_
 refine Wl.q rfl rfl (OpQ.move rfl) ?_
 refine Wl.q rfl rfl (OpQ.extract rfl rfl) ?_
 refine Wl.q rfl rfl (OpQ.extract rfl rfl) ?_
 refine Wl.q rfl rfl (OpQ.assign rfl) ?_
 refine Wl.q rfl rfl (OpQ.assign rfl) ?_
 refine Wl.nil ?_
 refine PX.then_n ?_
 refine CT.seq ?_
 refine CT.seq ?_
 refine CT.region ?_
 refine Wl.q rfl rfl (OpQ.move rfl) ?_
 refine Wl.q rfl rfl (OpQ.lss rfl rfl) ?_
 refine Wl.nil ?_
 refine PX.then_n ?_
 refine CT.cond rfl (fun h57 => ?_) (fun h57 => ?_)
 ·
  have h57 := of_decide_eq_true h57
  have hr : SG.sq.tr.run SG.s (wl SF.init) = none := Rn_none h53 (oi_neg.1 (by have := oi_ge p53.1; omega))
  refine CT.seq ?_
  refine CT.region ?_
  refine Wl.q rfl rfl (OpQ.fieldAddr RZ_fa30_0 rfl) ?_
  refine Wl.q rfl rfl (OpQ.loadF (b := b2) RZ_sc3 rfl (by repeat (first | exact Has.here | apply Has.there)) (by rfl)) ?_
  refine Wl.g rfl rfl (OpG.callX RZ_go48 rfl .nil (fun _ => (App.of _ _)) (fun w hH hp => emptyR_spec w SF.L hb2F)) ?_
  rintro i60 h60
  refine Wl.as (fun _ h => HOk.swap (A := svH i60 3 22 4 9 28) h) ?_
  refine Wl.g rfl rfl (OpG.storeV (b := b4) RZ_sz30 rfl rfl rfl rfl (by repeat (first | exact Upd.here | apply Upd.there))) ?_
  rintro _ _
  refine Wl.q rfl rfl (OpQ.assign rfl) ?_
  refine Wl.nil ?_
  refine PX.then_n ?_
  refine CT.ret ?_
  refine PX.then_r ?_
  refine PX.retC2 rfl rfl rfl (by repeat (first | exact Has.here | apply Has.there)) RZ_ag30 RZ_sz30 (by rfl) (fun w' hH => ?_)
  exact ⟨i60, (by unfold IsComp; rw [show SG.sq.tr.run SG.sq.s (wl SF.sq.init) = none from hr]; exact h60), rfl, (HOk.behind (A := [_, _, _]) hH).post⟩
 ·
  have h57 := of_decide_eq_false h57
  obtain ⟨n0, hn0⟩ : ∃ n, p53.1 = some n := oi_some (by omega)
  have hr : SG.sq.tr.run SG.s (wl SF.init) = some (n0, p53.2) := Rn_some h53 hn0
  obtain ⟨r0, hr0⟩ : ∃ r0, r0 = (n0, p53.2) := ⟨_, rfl⟩
  rw [← hr0] at hr
  refine CT.know 8 (v' := zn r0.1) rfl (by rw [hn0, hr0]; rfl) ?_
  refine CT.know 9 (v' := sv r0.2) rfl (by rw [hr0]; rfl) ?_
  obtain ⟨hr1, hr2, _⟩ := cTr_runI hvF hvG ho hr
  have hlenB : ∀ k, (bfsP (cTr SF.sq SG.sq).to SF.L (SF.s, r0.1) k).length ≤ 511 := fun k => Nat.le_trans (cTr_len hvF hvG ho hr1 k) hFG
  have hr2l := hr2.1
  have hgi : SG.init.length ≤ N := hvG.ti.1
  refine CT.skip ?_
  refine PX.then_n ?_
  refine CT.seq ?_
  refine CT.region ?_
  refine Wl.q rfl rfl (OpQ.fieldAddr RZ_fa30_1 rfl) ?_
  refine Wl.q rfl rfl (OpQ.loadF (b := b2) RZ_sc3 rfl (by repeat (first | exact Has.here | apply Has.there)) (by rfl)) ?_
  refine Wl.q rfl rfl (OpQ.move rfl) ?_
  refine Wl.q rfl rfl (OpQ.build (cells := #[zn SF.s, zn r0.1]) RZ_pl87 rfl rfl) ?_
  refine Wl.g rfl rfl (OpG.litS1 RZ_un88 RZ_in87 rfl (by decide) rfl) ?_
  rintro b65 _
  refine Wl.q rfl rfl (OpQ.assign rfl) ?_
  refine Wl.nil ?_
  refine PX.then_n ?_
  refine CT.seq ?_
  refine CT.region ?_
  refine Wl.g rfl rfl (OpG.makeMap (f := kp)) ?_
  rintro b66 _
  refine Wl.q rfl rfl (OpQ.move rfl) ?_
  refine Wl.q rfl rfl (OpQ.index RZ_un88 RZ_sz87 rfl rfl (by omega) rfl) ?_
  refine Wl.q rfl rfl (OpQ.loadAggG (cs := stv (SF.s, r0.1)) RZ_ag87 RZ_sz87 rfl (fun w hH => hH.rd (.there .here)) (fun k v hk => by simpa using hk)) ?_
  refine Wl.know 69 (v' := kp (SF.s, r0.1)) rfl rfl ?_
  refine Wl.g rfl rfl (OpG.insNew (f := kp) (x := (SF.s, r0.1)) (l := []) RZ_mkQ RZ_un89 rfl rfl rfl rfl (by repeat (first | exact Upd.here | apply Upd.there))) ?_
  rintro _ _
  refine Wl.q rfl rfl (OpQ.move rfl) ?_
  refine Wl.q rfl rfl (OpQ.assign rfl) ?_
  refine Wl.nil ?_
  refine PX.then_n ?_
  refine CT.seq ?_
  refine CT.region ?_
  refine Wl.q rfl rfl (OpQ.fieldAddr RZ_fa30_0 rfl) ?_
  refine Wl.q rfl rfl (OpQ.loadF (b := b2) RZ_sc3 rfl (by repeat (first | exact Has.here | apply Has.there)) (by rfl)) ?_
  refine Wl.q rfl rfl (OpQ.fieldAddr RZ_fa30_2 rfl) ?_
  refine Wl.q rfl rfl (OpQ.loadF (b := b3) RZ_sc9 rfl (by repeat (first | exact Has.here | apply Has.there)) (by rfl)) ?_
  refine Wl.q rfl rfl (OpQ.move rfl) ?_
  refine Wl.q rfl rfl (OpQ.concat rfl rfl (by omega)) ?_
  refine Wl.q rfl rfl (OpQ.build (cells := #[zn SF.L, .int .i64 0, sv (SG.init ++ r0.2), .slice none 0 0, .slice none 0 0, .slice none 0 0, .slice none 0 0]) RZ_pl30 rfl rfl) ?_
  refine Wl.g rfl rfl (OpG.alloc (zs := [.int .i64 0, .int .i64 0, .string ⟨#[]⟩, .slice none 0 0, .slice none 0 0, .slice none 0 0, .slice none 0 0]) RZ_in30 rfl rfl) ?_
  rintro b12 _
  refine Wl.g rfl rfl (OpG.storeV (b := b12) RZ_sz30 rfl rfl rfl rfl (by repeat (first | exact Upd.here | apply Upd.there))) ?_
  rintro _ _
  refine Wl.nil ?_
  refine PX.then_n ?_
  refine CT.seq ?_
  refine CT.region ?_
  refine Wl.q rfl rfl (OpQ.fieldAddr RZ_fa30_2 rfl) ?_
  refine Wl.q rfl rfl (OpQ.loadF (b := b12) RZ_sc9 rfl (by repeat (first | exact Has.here | apply Has.there)) (by rfl)) ?_
  refine Wl.q rfl rfl (OpQ.lenSv RZ_un9 rfl) ?_
  refine Wl.q rfl rfl (OpQ.gtr rfl rfl) ?_
  refine Wl.know 81 (v' := .bool false) rfl (congrArg Value.bool (decide_eq_false (by rw [List.length_append]; omega))) ?_
  refine Wl.q rfl rfl (OpQ.assign rfl) ?_
  refine Wl.nil ?_
  refine PX.then_n ?_
  refine CT.seq ?_
  refine CT.seq ?_
  refine CT.region ?_
  refine Wl.q rfl rfl (OpQ.assign rfl) ?_
  refine Wl.nil ?_
  refine PX.then_n ?_
  refine CT.block ?_
  refine CT.nilrow 9 1 ?_
  refine CT.nilrow 4 1 ?_
  refine CT.nilrow 28 1 ?_
  refine CT.nilrow 22 1 ?_
  refine CT.as (fun _ h => h.take (.cons .here (.cons .here (.cons .here (.cons .here (.cons .here (.cons (.there .here) (.cons .here (.cons .here (.cons .here (.cons .here .nil))))))))))) ?_
  refine CT.loop (ι := Nat × Option Addr × Nat × Option Addr × Nat × List (Rx (Option Nat)) × Option Addr × Nat × List (Rx Wd) × Option Addr × Nat × List Bool × Option Addr × Nat × List Wd) (fun (i, la, lc, na', nc', rs, oa', oc', os, ea', ec', es, fa', fc', fs) => GoingP (st := (cTr SF.sq SG.sq).to) (L := SF.L) (s := (SF.s, r0.1)) i ∧ CpI (cTr SF.sq SG.sq).to (cTr SF.sq SG.sq) SF.L (SF.s, r0.1) (bfsP (cTr SF.sq SG.sq).to SF.L (SF.s, r0.1) (i * SF.L)) i rs os es fs) (fun (i, la, lc, na', nc', rs, oa', oc', os, ea', ec', es, fa', fc', fs) => [(2, .pointer (some ⟨b2, 0, none⟩)), (3, .pointer (some ⟨b3, 0, none⟩)), (4, .pointer (some ⟨b4, 0, none⟩)), (10, .slice la (bfsP (cTr SF.sq SG.sq).to SF.L (SF.s, r0.1) (i * SF.L)).length lc), (11, .map (some b66)), (12, .pointer (some ⟨b12, 0, none⟩)), (13, .bool false), (14, .int .i64 ((i : Nat) : Int))]) (fun (i, la, lc, na', nc', rs, oa', oc', os, ea', ec', es, fa', fc', fs) => [.row 22 1 (.slice na' i nc') i (rs.map rxv), .row 28 1 (.slice oa' i oc') i (os.map rxv), .row 4 1 (.slice ea' i ec') i (es.map bo), .row 9 1 (.slice fa' i fc') i (fs.map sv), .row 30 7 (vb b12) 1 [zn SF.L, .int .i64 0, sv (SG.init ++ r0.2), .slice na' i nc', .slice oa' i oc', .slice ea' i ec', .slice fa' i fc'], .row 87 2 (.slice la (bfsP (cTr SF.sq SG.sq).to SF.L (SF.s, r0.1) (i * SF.L)).length lc) (bfsP (cTr SF.sq SG.sq).to SF.L (SF.s, r0.1) (i * SF.L)).length ((bfsP (cTr SF.sq SG.sq).to SF.L (SF.s, r0.1) (i * SF.L)).flatMap stv), .blk b66 (mapO kp (itA 0 (bfsP (cTr SF.sq SG.sq).to SF.L (SF.s, r0.1) (i * SF.L)))), .row 30 7 (vb b4) 1 [.int .i64 0, .int .i64 0, .string ⟨#[]⟩, .slice none 0 0, .slice none 0 0, .slice none 0 0, .slice none 0 0], .row 30 7 (vb b3) 1 (svc SG), .row 30 7 (vb b2) 1 (svc SF)] ++ (fam 3 zo rs ++ fam 9 sv os)) (fun (i, la, lc, na', nc', rs, oa', oc', os, ea', ec', es, fa', fc', fs) => 512 - i) (0, some ⟨b65, 0, none⟩, 1, none, 0, [], none, 0, [], none, 0, [], none, 0, []) ⟨GoingP.zero, CpI.start _ _⟩ ⟨rfl, rfl, rfl, (lkV rfl (by rw [Nat.zero_mul]; rfl)), rfl, rfl, rfl, rfl, trivial⟩ (by dsimp only; rw [Nat.zero_mul]; exact HSub.refl _) (fun ⟨i, la, lc, na', nc', rs, oa', oc', os, ea', ec', es, fa', fc', fs⟩ ⟨hg, hcp⟩ K0 hK0 => ?_)
  dsimp only
  have hln := hlenB (i * SF.L)
  have hil := hcp.il
  have hrl0 := hcp.rl
  have hol0 := hcp.ol
  have hel0 := hcp.el
  have hfl0 := hcp.fl
  refine CT.fact (p := la.isSome = true) (fun w hH => (hH.rd (.there (.there (.there (.there (.there .here)))))).isSome (j := 0) (by rw [flat_len stv_len]; have := bfsP_pos (st := (cTr SF.sq SG.sq).to) (L := SF.L) (s := (SF.s, r0.1)) (i * SF.L); omega)) (fun hla => ?_)
  refine CT.seq ?_
  refine CT.seq ?_
  refine CT.region ?_
  refine Wl.q rfl rfl (OpQ.move rfl) ?_
  refine Wl.q rfl rfl (OpQ.move rfl) ?_
  refine Wl.q rfl rfl (OpQ.len RZ_un88 rfl) ?_
  refine Wl.q rfl rfl (OpQ.lss rfl rfl) ?_
  refine Wl.nil ?_
  refine PX.then_n ?_
  refine CT.cond rfl (fun h85 => ?_) (fun h85 => ?_)
  ·
   have h85 := of_decide_eq_true h85
   have hilt : i < (bfsP (cTr SF.sq SG.sq).to SF.L (SF.s, r0.1) (i * SF.L)).length := by omega
   obtain ⟨x, hx⟩ : ∃ x, x = (bfsP (cTr SF.sq SG.sq).to SF.L (SF.s, r0.1) (i * SF.L)).getD i (SF.s, r0.1) := ⟨_, rfl⟩
   have hxa : x.1 < SF.sq.n ∧ x.2 < SG.sq.n := by rw [hx]; exact cTr_all hvF hvG ho hr1 _ _ (getDm hilt)
   have hq1 : x.1 < SF.rs.length := by rw [← SF.n_eq]; exact hxa.1
   have hp2 : x.2 < SG.rs.length := by rw [← SG.n_eq]; exact hxa.2
   have hrl := hvF.rlen hq1
   have hol := hvF.olen hq1
   refine CT.skip ?_
   refine PX.then_n ?_
   refine CT.seq ?_
   refine CT.block ?_
   refine CT.seq ?_
   refine CT.region ?_
   refine Wl.q rfl rfl (OpQ.move rfl) ?_
   refine Wl.q rfl rfl (OpQ.move rfl) ?_
   refine Wl.q rfl rfl (OpQ.index RZ_un88 RZ_sz87 rfl rfl (by omega) hla) ?_
   refine Wl.q rfl rfl (OpQ.loadAggG (cs := stv ((bfsP (cTr SF.sq SG.sq).to SF.L (SF.s, r0.1) (i * SF.L)).getD i (SF.s, r0.1))) RZ_ag87 RZ_sz87 rfl (fun w hH => hH.rd (.there (.there (.there (.there (.there .here)))))) (flat_cells stv_len (bfsP (cTr SF.sq SG.sq).to SF.L (SF.s, r0.1) (i * SF.L)) (SF.s, r0.1) hilt)) ?_
   refine Wl.know 91 (v' := kp x) rfl (by rw [hx]) ?_
   refine Wl.g rfl rfl (OpG.alloc (zs := [.int .i64 0, .int .i64 0]) RZ_in87 rfl rfl) ?_
   rintro b15 _
   refine Wl.g rfl rfl (OpG.storeV (b := b15) RZ_sz87 rfl rfl rfl rfl (by repeat (first | exact Upd.here | apply Upd.there))) ?_
   rintro _ _
   refine Wl.nil ?_
   refine PX.then_n ?_
   refine CT.seq ?_
   refine CT.region ?_
   refine Wl.q rfl rfl (OpQ.assign rfl) ?_
   refine Wl.nil ?_
   refine PX.then_n ?_
   refine CT.seq ?_
   refine CT.region ?_
   refine Wl.q rfl rfl (OpQ.assign rfl) ?_
   refine Wl.nil ?_
   refine PX.then_n ?_
   refine CT.seq ?_
   refine CT.seq ?_
   refine CT.region ?_
   refine Wl.q rfl rfl (OpQ.fieldAddr RZ_fa30_3 rfl) ?_
   refine Wl.q rfl rfl (OpQ.loadF (b := b2) RZ_sc25 rfl (by repeat (first | exact Has.here | apply Has.there)) (by rfl)) ?_
   refine Wl.q rfl rfl (OpQ.fieldAddr RZ_fa87_0 rfl) ?_
   refine Wl.q rfl rfl (OpQ.loadF (b := b15) RZ_sc3 rfl (by repeat (first | exact Has.here | apply Has.there)) (by rfl)) ?_
   refine Wl.q rfl rfl (OpQ.index1 RZ_un25 RZ_sz22 rfl rfl (by omega) (hnsF (by omega))) ?_
   refine Wl.q rfl rfl (OpQ.loadG RZ_sc22 rfl (fun w hH => (hH.use hSF).n) (getMap rxv SF.rs rx0 (j := x.1) (by omega))) ?_
   refine Wl.q rfl rfl (OpQ.len RZ_un22 rfl) ?_
   refine Wl.know 98 (v' := .int .i64 ((SF.L : Nat) : Int)) rfl (congrArg (Value.int .i64) (by rw [hrl])) ?_
   refine Wl.q rfl rfl (OpQ.move rfl) ?_
   refine Wl.nil ?_
   refine PX.then_n ?_
   refine CT.block ?_
   refine CT.nilrow 9 1 ?_
   refine CT.nilrow 3 1 ?_
   refine CT.loop (ι := Nat × Option Addr × Nat × Option Addr × Nat × List (Option Nat) × Option Addr × Nat × List Wd) (fun (y, la, lc, xa, xc, xs, wa, wc, ws) => y ≤ SF.L ∧ RowA (cTr SF.sq SG.sq).to (bfsP (cTr SF.sq SG.sq).to SF.L (SF.s, r0.1) (i * SF.L + y)) x y xs ∧ ws = owR (cTr SF.sq SG.sq).to (cTr SF.sq SG.sq) x y) (fun (y, la, lc, xa, xc, xs, wa, wc, ws) => [(2, .pointer (some ⟨b2, 0, none⟩)), (3, .pointer (some ⟨b3, 0, none⟩)), (4, .pointer (some ⟨b4, 0, none⟩)), (10, .slice la (bfsP (cTr SF.sq SG.sq).to SF.L (SF.s, r0.1) (i * SF.L + y)).length lc), (11, .map (some b66)), (12, .pointer (some ⟨b12, 0, none⟩)), (13, .bool false), (14, .int .i64 ((i : Nat) : Int)), (15, .pointer (some ⟨b15, 0, none⟩)), (16, .slice xa y xc), (17, .slice wa y wc), (97, rxv (SF.rs.getD x.1 rx0)), (98, .int .i64 ((SF.L : Nat) : Int)), (99, .int .i64 ((y : Nat) : Int))]) (fun (y, la, lc, xa, xc, xs, wa, wc, ws) => [.row 3 1 (.slice xa y xc) y (xs.map zo), .row 9 1 (.slice wa y wc) y (ws.map sv), .row 87 2 (vb b15) 1 [zn x.1, zn x.2], .row 22 1 (.slice na' i nc') i (rs.map rxv), .row 28 1 (.slice oa' i oc') i (os.map rxv), .row 4 1 (.slice ea' i ec') i (es.map bo), .row 9 1 (.slice fa' i fc') i (fs.map sv), .row 30 7 (vb b12) 1 [zn SF.L, .int .i64 0, sv (SG.init ++ r0.2), .slice na' i nc', .slice oa' i oc', .slice ea' i ec', .slice fa' i fc'], .row 87 2 (.slice la (bfsP (cTr SF.sq SG.sq).to SF.L (SF.s, r0.1) (i * SF.L + y)).length lc) (bfsP (cTr SF.sq SG.sq).to SF.L (SF.s, r0.1) (i * SF.L + y)).length ((bfsP (cTr SF.sq SG.sq).to SF.L (SF.s, r0.1) (i * SF.L + y)).flatMap stv), .blk b66 (mapO kp (itA 0 (bfsP (cTr SF.sq SG.sq).to SF.L (SF.s, r0.1) (i * SF.L + y)))), .row 30 7 (vb b4) 1 [.int .i64 0, .int .i64 0, .string ⟨#[]⟩, .slice none 0 0, .slice none 0 0, .slice none 0 0, .slice none 0 0], .row 30 7 (vb b3) 1 (svc SG), .row 30 7 (vb b2) 1 (svc SF)] ++ (fam 3 zo rs ++ fam 9 sv os)) (fun (y, la, lc, xa, xc, xs, wa, wc, ws) => SF.L - y) (0, la, lc, none, 0, [], none, 0, []) ⟨Nat.zero_le _, RowA.start _ _, rfl⟩ ⟨rfl, rfl, rfl, rfl, rfl, rfl, rfl, rfl, rfl, rfl, rfl, rfl, rfl, rfl, trivial⟩ (HSub.refl _) (fun ⟨y, la, lc, xa, xc, xs, wa, wc, ws⟩ ⟨hy, hrow, hws⟩ K1 hK1 => ?_)
   dsimp only
   have hwsl : ws.length = y := by rw [hws, owR_len]
   have hlnx := hlenB (i * SF.L + y)
   refine CT.seq ?_
   refine CT.region ?_
   refine Wl.q rfl rfl (OpQ.lss rfl rfl) ?_
   refine Wl.nil ?_
   refine PX.then_n ?_
   refine CT.seq ?_
   refine CT.cond rfl (fun h100 => ?_) (fun h100 => ?_)
   ·
    have h100 := of_decide_eq_true h100
    have hyL : y < SF.L := by omega
    refine CT.skip ?_
    refine PX.then_n ?_
    refine CT.seq ?_
    refine CT.block ?_
    refine CT.seq ?_
    refine CT.region ?_
    refine Wl.q rfl rfl (OpQ.move rfl) ?_
    refine Wl.q rfl rfl (OpQ.index1 RZ_un22 RZ_sz3 rfl rfl (by omega) (hrsF x.1 (by omega) (by omega))) ?_
    refine Wl.q rfl rfl (OpQ.loadG RZ_sc3 rfl (fun w hH => (hH.use hSF).r _ (getDm (show x.1 < SF.rs.length by omega))) (getMap zo (SF.rs.getD x.1 rx0).xs none (j := y) (by omega))) ?_
    refine Wl.know 103 (v' := zo (SF.sq.to x.1 y)) rfl (congrArg zo (SF.to_eq x.1 y).symm) ?_
    refine Wl.q rfl rfl (OpQ.assign rfl) ?_
    refine Wl.q rfl rfl (OpQ.assign rfl) ?_
    refine Wl.nil ?_
    refine PX.then_n ?_
    refine CT.seq ?_
    refine CT.region ?_
    refine Wl.q rfl rfl (OpQ.assign rfl) ?_
    refine Wl.q rfl rfl (OpQ.assign rfl) ?_
    refine Wl.nil ?_
    refine PX.then_n ?_
    refine CT.cut (ι := Option Nat × Wd) (Φ := fun (o, t) => (o = none → (cTr SF.sq SG.sq).to x y = none) ∧ (∀ n, o = some n → ∃ s, SF.sq.to x.1 y = some s ∧ SG.sq.tr.run x.2 (wl (SF.sq.o x.1 y)) = some (n, t))) (E' := fun (o, t) => [(2, .pointer (some ⟨b2, 0, none⟩)), (3, .pointer (some ⟨b3, 0, none⟩)), (4, .pointer (some ⟨b4, 0, none⟩)), (10, .slice la (bfsP (cTr SF.sq SG.sq).to SF.L (SF.s, r0.1) (i * SF.L + y)).length lc), (11, .map (some b66)), (12, .pointer (some ⟨b12, 0, none⟩)), (13, .bool false), (14, .int .i64 ((i : Nat) : Int)), (15, .pointer (some ⟨b15, 0, none⟩)), (16, .slice xa y xc), (17, .slice wa y wc), (97, rxv (SF.rs.getD x.1 rx0)), (98, .int .i64 ((SF.L : Nat) : Int)), (99, .int .i64 ((y : Nat) : Int)), (19, zo (SF.sq.to x.1 y)), (20, zo o), (21, sv t)]) (H' := fun (o, t) => [.row 3 1 (.slice xa y xc) y (xs.map zo), .row 9 1 (.slice wa y wc) y (ws.map sv), .row 87 2 (vb b15) 1 [zn x.1, zn x.2], .row 22 1 (.slice na' i nc') i (rs.map rxv), .row 28 1 (.slice oa' i oc') i (os.map rxv), .row 4 1 (.slice ea' i ec') i (es.map bo), .row 9 1 (.slice fa' i fc') i (fs.map sv), .row 30 7 (vb b12) 1 [zn SF.L, .int .i64 0, sv (SG.init ++ r0.2), .slice na' i nc', .slice oa' i oc', .slice ea' i ec', .slice fa' i fc'], .row 87 2 (.slice la (bfsP (cTr SF.sq SG.sq).to SF.L (SF.s, r0.1) (i * SF.L + y)).length lc) (bfsP (cTr SF.sq SG.sq).to SF.L (SF.s, r0.1) (i * SF.L + y)).length ((bfsP (cTr SF.sq SG.sq).to SF.L (SF.s, r0.1) (i * SF.L + y)).flatMap stv), .blk b66 (mapO kp (itA 0 (bfsP (cTr SF.sq SG.sq).to SF.L (SF.s, r0.1) (i * SF.L + y)))), .row 30 7 (vb b4) 1 [.int .i64 0, .int .i64 0, .string ⟨#[]⟩, .slice none 0 0, .slice none 0 0, .slice none 0 0, .slice none 0 0], .row 30 7 (vb b3) 1 (svc SG), .row 30 7 (vb b2) 1 (svc SF)] ++ (fam 3 zo rs ++ fam 9 sv os)) (fun K2 hK2 => ?_) (fun ⟨o, t⟩ ⟨hj1, hj2⟩ => ?_)
    ·
     refine CT.seq ?_
     refine CT.region ?_
     refine Wl.q rfl rfl (OpQ.move rfl) ?_
     refine Wl.q rfl rfl (OpQ.geq rfl rfl) ?_
     refine Wl.nil ?_
     refine PX.then_n ?_
     refine CT.cond rfl (fun h105 => ?_) (fun h105 => ?_)
     ·
      have h105 := of_decide_eq_true h105
      obtain ⟨s, hto⟩ := oi_some (show oi (SF.sq.to x.1 y) ≠ -1 by omega)
      refine CT.draw 18 RZ_mixed ?_
      refine RA.q 0 (by kernel_rfl) rfl rfl rfl (.refl _) (OpQ.loadV (b := b3) RZ_ag30 RZ_sz30 rfl (by repeat (first | exact Has.here | apply Has.there)) (by rfl)) ?_
      refine RA.know 107 (v' := svv SG) rfl rfl ?_
      refine RA.q 1 (by kernel_rfl) rfl rfl rfl (.refl _) (OpQ.fieldAddr RZ_fa87_1 rfl) ?_
      refine RA.q 2 (by kernel_rfl) rfl rfl rfl (.refl _) (OpQ.loadF (b := b15) RZ_sc3 rfl (by repeat (first | exact Has.here | apply Has.there)) (by rfl)) ?_
      refine RA.q 3 (by kernel_rfl) rfl rfl rfl (.refl _) (OpQ.fieldAddr RZ_fa30_4 rfl) ?_
      refine RA.q 4 (by kernel_rfl) rfl rfl rfl (.refl _) (OpQ.loadF (b := b2) RZ_sc26 rfl (by repeat (first | exact Has.here | apply Has.there)) (by rfl)) ?_
      refine RA.q 5 (by kernel_rfl) rfl rfl rfl (.refl _) (OpQ.fieldAddr RZ_fa87_0 rfl) ?_
      refine RA.q 6 (by kernel_rfl) rfl rfl rfl (.refl _) (OpQ.loadF (b := b15) RZ_sc3 rfl (by repeat (first | exact Has.here | apply Has.there)) (by rfl)) ?_
      refine RA.q 7 (by kernel_rfl) rfl rfl rfl (.refl _) (OpQ.index1 RZ_un26 RZ_sz28 rfl rfl (by omega) (hosF (by omega))) ?_
      refine RA.q 8 (by kernel_rfl) rfl rfl rfl (.refl _) (OpQ.loadG RZ_sc28 rfl (fun w hH => (hH.use hSF).o) (getMap rxv SF.os rx0 (j := x.1) (by omega))) ?_
      refine RA.q 9 (by kernel_rfl) rfl rfl rfl (.refl _) (OpQ.move rfl) ?_
      refine RA.q 10 (by kernel_rfl) rfl rfl rfl (.refl _) (OpQ.index1 RZ_un28 RZ_sz9 rfl rfl (by omega) (husF x.1 (by omega) (by omega))) ?_
      refine RA.q 11 (by kernel_rfl) rfl rfl rfl (.refl _) (OpQ.loadG RZ_sc9 rfl (fun w hH => (hH.use hSF).u _ (getDm (show x.1 < SF.os.length by omega))) (getMap sv (SF.os.getD x.1 rx0).xs [] (j := y) (by omega))) ?_
      refine RA.know 118 (v' := sv (SF.sq.o x.1 y)) rfl (congrArg sv (SF.o_eq x.1 y).symm) ?_
      refine RA.f 12 (by kernel_rfl) rfl rfl rfl (OpG.call RZ_go47 rfl (fun w hH => (run_spec w SG (hH.stays0 hSG) hvG x.2 hp2 (SF.sq.o x.1 y) (hvF.to' x.1 y hxa.1 (show y < SF.sq.L from hyL)) (ho.o x.1 y hxa.1 (show y < SF.sq.L from hyL)) hMN1 (by have := (hvF.to' x.1 y hxa.1 (show y < SF.sq.L from hyL)).1; omega)).mono fun e w' ⟨r, h1, h2, h3⟩ => ⟨r, h1, h2, hH.ext_nil h3⟩)) (fun _ _ => (.refl _)) ?_
      rintro p119 h119
      refine RA.know 119 (v' := .tuple #[zo p119.1, sv p119.2]) rfl rfl ?_
      refine RA.q 13 (by kernel_rfl) rfl rfl rfl (.refl _) (OpQ.move rfl) ?_
      refine RA.q 14 (by kernel_rfl) rfl rfl rfl (.refl _) (OpQ.extract rfl rfl) ?_
      refine RA.q 15 (by kernel_rfl) rfl rfl rfl (.refl _) (OpQ.extract rfl rfl) ?_
      refine RA.q 16 (by kernel_rfl) rfl rfl rfl (.refl _) (OpQ.assign rfl) ?_
      refine RA.q 17 (by kernel_rfl) rfl rfl rfl (.refl _) (OpQ.assign rfl) ?_
      refine RA.tail ?_
      refine RT.done (by kernel_rfl) ?_
      exact PX.cut hK2 (p119.1, p119.2) ⟨fun h => cTo_dead (p := x.2) hto (Rn_none h119 h), fun n h => ⟨s, hto, Rn_some h119 h⟩⟩ ⟨rfl, rfl, rfl, rfl, rfl, rfl, rfl, rfl, rfl, rfl, rfl, rfl, rfl, rfl, rfl, rfl, rfl, trivial⟩ (HSub.refl _)
     ·
      have h105 := of_decide_eq_false h105
      have hno : SF.sq.to x.1 y = none := oi_neg.1 (by have := oi_ge (SF.sq.to x.1 y); omega)
      refine CT.skip ?_
      exact PX.cut hK2 (none, []) ⟨fun _ => cTo_none (p := x.2) hno, fun n h => by cases h⟩ ⟨rfl, rfl, rfl, rfl, rfl, rfl, rfl, rfl, rfl, rfl, rfl, rfl, rfl, rfl, rfl, rfl, rfl, trivial⟩ (HSub.refl _)
    ·
     dsimp only
     refine CT.seq ?_
     refine CT.seq ?_
     refine CT.region ?_
     refine Wl.q rfl rfl (OpQ.move rfl) ?_
     refine Wl.q rfl rfl (OpQ.lss rfl rfl) ?_
     refine Wl.nil ?_
     refine PX.then_n ?_
     refine CT.cond rfl (fun h123 => ?_) (fun h123 => ?_)
     ·
      have h123 := of_decide_eq_true h123
      have hst : (cTr SF.sq SG.sq).to x y = none := hj1 (oi_neg.1 (by have := oi_ge o; omega))
      have hls : (bfsP (cTr SF.sq SG.sq).to SF.L (SF.s, r0.1) (i * SF.L + (y + 1))) = (bfsP (cTr SF.sq SG.sq).to SF.L (SF.s, r0.1) (i * SF.L + y)) := by rw [show i * SF.L + (y + 1) = i * SF.L + y + 1 from rfl, bfsP_addx hyL hilt, ← hx, hst]; rfl
      refine CT.seq ?_
      refine CT.region ?_
      refine Wl.q rfl rfl (OpQ.move rfl) ?_
      refine Wl.g rfl rfl (OpG.lit1 RZ_un22 RZ_in3 rfl rfl rfl) ?_
      rintro b125 _
      refine Wl.g rfl rfl (OpG.append RZ_un22 RZ_in3 (by rfl) (by decide) rfl rfl (p := 1) rfl (fun w hH => hH.rd .here) ⟨rfl, (by simp [Value.oneCell']), (by omega), (by omega)⟩ (nm := (y + 1)) rfl (all := (xs ++ [none]).map zo) (by rw [List.map_append]; rfl)) ?_
      rintro ⟨a126, c126⟩ h126
      refine Wl.q rfl rfl (OpQ.move rfl) ?_
      refine Wl.g rfl rfl (OpG.lit1 RZ_un28 RZ_in9 rfl rfl rfl) ?_
      rintro b128 _
      refine Wl.g rfl rfl (OpG.append RZ_un28 RZ_in9 (by rfl) (by decide) rfl rfl (p := 3) rfl (fun w hH => hH.rd .here) ⟨rfl, (by simp [Value.oneCell']), (by omega), (by omega)⟩ (nm := (y + 1)) rfl (all := (ws ++ [[]]).map sv) (by rw [List.map_append]; rfl)) ?_
      rintro ⟨a129, c129⟩ h129
      refine Wl.q rfl rfl (OpQ.assign rfl) ?_
      refine Wl.q rfl rfl (OpQ.assign rfl) ?_
      refine Wl.nil ?_
      refine PX.then_n ?_
      refine CT.exit ?_
      refine PX.then_x ?_
      refine PX.block_x ?_
      refine PX.then_n ?_
      refine CT.region ?_
      refine Wl.q rfl rfl (OpQ.add rfl rfl (by omega)) ?_
      refine Wl.q rfl rfl (OpQ.move rfl) ?_
      refine Wl.nil ?_
      exact PX.loop hK1 (y + 1, la, lc, a126, c126, xs ++ [none], a129, c129, ws ++ [[]]) ⟨by omega, by rw [hls]; exact hrow.snoc (by rw [hst]; rfl), by rw [owR_s, ← hws, ow, hst]; rfl⟩ (show SF.L - (y + 1) < SF.L - y by omega) ⟨rfl, rfl, rfl, (lkV rfl (by rw [hls])), rfl, rfl, rfl, rfl, rfl, rfl, rfl, rfl, rfl, rfl, trivial⟩ (.drop (.drop (by dsimp only; rw [hls]; exact HSub.refl _)))
     ·
      have h123 := of_decide_eq_false h123
      obtain ⟨n, hn⟩ := oi_some (show oi o ≠ -1 by omega)
      obtain ⟨s, hto, hrn⟩ := hj2 n hn
      have hst : (cTr SF.sq SG.sq).to x y = some (s, n) := cTo_some hto hrn
      obtain ⟨_, ht2, _⟩ := cTr_run hvF hvG ho hxa.1 hxa.2 (show y < SF.sq.L from hyL) hrn
      have ht4 : t.length ≤ M * N := ht2.1
      have hlsN : (bfsP (cTr SF.sq SG.sq).to SF.L (SF.s, r0.1) (i * SF.L + (y + 1))) = (addN (bfsP (cTr SF.sq SG.sq).to SF.L (SF.s, r0.1) (i * SF.L + y)) (s, n)).1 := by rw [show i * SF.L + (y + 1) = i * SF.L + y + 1 from rfl, bfsP_addx hyL hilt, ← hx, hst, addN_addO]
      refine CT.know 19 (v' := zn s) rfl (by rw [hto]; rfl) ?_
      refine CT.know 20 (v' := zn n) rfl (by rw [hn]; rfl) ?_
      refine CT.skip ?_
      refine PX.then_n ?_
      refine CT.seq ?_
      refine CT.region ?_
      refine Wl.q rfl rfl (OpQ.move rfl) ?_
      refine Wl.q rfl rfl (OpQ.move rfl) ?_
      refine Wl.q rfl rfl (OpQ.build (cells := #[zn s, zn n]) RZ_pl87 rfl rfl) ?_
      refine Wl.g rfl rfl (OpG.alloc (zs := [.int .i64 0, .int .i64 0]) RZ_in87 rfl rfl) ?_
      rintro b22 _
      refine Wl.g rfl rfl (OpG.storeV (b := b22) RZ_sz87 rfl rfl rfl rfl (by repeat (first | exact Upd.here | apply Upd.there))) ?_
      rintro _ _
      refine Wl.nil ?_
      refine PX.then_n ?_
      refine CT.seq ?_
      refine CT.region ?_
      refine Wl.q rfl rfl (OpQ.move rfl) ?_
      refine Wl.q rfl rfl (OpQ.loadV (b := b22) RZ_ag87 RZ_sz87 rfl (by repeat (first | exact Has.here | apply Has.there)) (by rfl)) ?_
      refine Wl.know 135 (v' := kp (s, n)) rfl rfl ?_
      refine Wl.q rfl rfl (OpQ.lookup (f := kp) (x := (s, n)) (l := (itA 0 (bfsP (cTr SF.sq SG.sq).to SF.L (SF.s, r0.1) (i * SF.L + y)))) RZ_mkQ RZ_un89 RZ_in3 rfl rfl (by repeat (first | exact Has.here | apply Has.there)) (by rw [if_pos rfl, getA_itA, ix_val, ix_is])) ?_
      refine Wl.q rfl rfl (OpQ.move rfl) ?_
      refine Wl.q rfl rfl (OpQ.extract rfl rfl) ?_
      refine Wl.q rfl rfl (OpQ.extract rfl rfl) ?_
      refine Wl.q rfl rfl (OpQ.assign rfl) ?_
      refine Wl.q rfl rfl (OpQ.assign rfl) ?_
      refine Wl.nil ?_
      refine PX.then_n ?_
      refine CT.cut (ι := Option Addr × Nat) (Φ := fun (la, lc) => True) (E' := fun (la, lc) => [(2, .pointer (some ⟨b2, 0, none⟩)), (3, .pointer (some ⟨b3, 0, none⟩)), (4, .pointer (some ⟨b4, 0, none⟩)), (10, .slice la (bfsP (cTr SF.sq SG.sq).to SF.L (SF.s, r0.1) (i * SF.L + (y + 1))).length lc), (11, .map (some b66)), (12, .pointer (some ⟨b12, 0, none⟩)), (13, .bool false), (14, .int .i64 ((i : Nat) : Int)), (15, .pointer (some ⟨b15, 0, none⟩)), (16, .slice xa y xc), (17, .slice wa y wc), (97, rxv (SF.rs.getD x.1 rx0)), (98, .int .i64 ((SF.L : Nat) : Int)), (99, .int .i64 ((y : Nat) : Int)), (21, sv t), (23, .int .i64 (((addN (bfsP (cTr SF.sq SG.sq).to SF.L (SF.s, r0.1) (i * SF.L + y)) (s, n)).2 : Nat) : Int))]) (H' := fun (la, lc) => [.row 3 1 (.slice xa y xc) y (xs.map zo), .row 9 1 (.slice wa y wc) y (ws.map sv), .row 87 2 (vb b15) 1 [zn x.1, zn x.2], .row 22 1 (.slice na' i nc') i (rs.map rxv), .row 28 1 (.slice oa' i oc') i (os.map rxv), .row 4 1 (.slice ea' i ec') i (es.map bo), .row 9 1 (.slice fa' i fc') i (fs.map sv), .row 30 7 (vb b12) 1 [zn SF.L, .int .i64 0, sv (SG.init ++ r0.2), .slice na' i nc', .slice oa' i oc', .slice ea' i ec', .slice fa' i fc'], .row 87 2 (.slice la (bfsP (cTr SF.sq SG.sq).to SF.L (SF.s, r0.1) (i * SF.L + (y + 1))).length lc) (bfsP (cTr SF.sq SG.sq).to SF.L (SF.s, r0.1) (i * SF.L + (y + 1))).length ((bfsP (cTr SF.sq SG.sq).to SF.L (SF.s, r0.1) (i * SF.L + (y + 1))).flatMap stv), .blk b66 (mapO kp (itA 0 (bfsP (cTr SF.sq SG.sq).to SF.L (SF.s, r0.1) (i * SF.L + (y + 1))))), .row 30 7 (vb b4) 1 [.int .i64 0, .int .i64 0, .string ⟨#[]⟩, .slice none 0 0, .slice none 0 0, .slice none 0 0, .slice none 0 0], .row 30 7 (vb b3) 1 (svc SG), .row 30 7 (vb b2) 1 (svc SF)] ++ (fam 3 zo rs ++ fam 9 sv os)) (fun K3 hK3 => ?_) (fun ⟨la, lc⟩ _ => ?_)
      ·
       refine CT.seq ?_
       refine CT.region ?_
       refine Wl.q rfl rfl (OpQ.move rfl) ?_
       refine Wl.q rfl rfl (OpQ.not rfl) ?_
       refine Wl.nil ?_
       refine PX.then_n ?_
       refine CT.cond rfl (fun h140 => ?_) (fun h140 => ?_)
       ·
        have hix : ixA (s, n) 0 (bfsP (cTr SF.sq SG.sq).to SF.L (SF.s, r0.1) (i * SF.L + y)) = none := by simpa using h140
        have hnx := ixA_none hix
        have hls : (bfsP (cTr SF.sq SG.sq).to SF.L (SF.s, r0.1) (i * SF.L + (y + 1))) = (bfsP (cTr SF.sq SG.sq).to SF.L (SF.s, r0.1) (i * SF.L + y)) ++ [(s, n)] := by rw [hlsN, addN_out hnx]
        refine CT.seq ?_
        refine CT.region ?_
        refine Wl.q rfl rfl (OpQ.move rfl) ?_
        refine Wl.q rfl rfl (OpQ.len RZ_un88 rfl) ?_
        refine Wl.q rfl rfl (OpQ.assign rfl) ?_
        refine Wl.nil ?_
        refine PX.then_n ?_
        refine CT.seq ?_
        refine CT.region ?_
        refine Wl.q rfl rfl (OpQ.move rfl) ?_
        refine Wl.q rfl rfl (OpQ.loadV (b := b22) RZ_ag87 RZ_sz87 rfl (by repeat (first | exact Has.here | apply Has.there)) (by rfl)) ?_
        refine Wl.know 144 (v' := kp (s, n)) rfl rfl ?_
        refine Wl.q rfl rfl (OpQ.move rfl) ?_
        refine Wl.g rfl rfl (OpG.mapNew (f := kp) (x := (s, n)) (l := (itA 0 (bfsP (cTr SF.sq SG.sq).to SF.L (SF.s, r0.1) (i * SF.L + y)))) RZ_mkQ RZ_un89 rfl rfl rfl (by rw [getA_itA, hix]; rfl) (by repeat (first | exact Upd.here | apply Upd.there))) ?_
        rintro _ _
        refine Wl.nil ?_
        refine PX.then_n ?_
        refine CT.region ?_
        refine Wl.q rfl rfl (OpQ.move rfl) ?_
        refine Wl.q rfl rfl (OpQ.loadV (b := b22) RZ_ag87 RZ_sz87 rfl (by repeat (first | exact Has.here | apply Has.there)) (by rfl)) ?_
        refine Wl.know 147 (v' := kp (s, n)) rfl rfl ?_
        refine Wl.g rfl rfl (OpG.litS1 RZ_un88 RZ_in87 rfl (by decide) rfl) ?_
        rintro b148 _
        refine Wl.g rfl rfl (OpG.append RZ_un88 RZ_in87 (by rfl) (by decide) rfl rfl (p := 10) rfl (fun w hH => hH.rd .here) ⟨rfl, (by simp [Value.oneCell']), (by omega), (by omega)⟩ (nm := ((bfsP (cTr SF.sq SG.sq).to SF.L (SF.s, r0.1) (i * SF.L + y)) ++ [(s, n)]).length) (by rw [List.length_append]; rfl) (all := ((bfsP (cTr SF.sq SG.sq).to SF.L (SF.s, r0.1) (i * SF.L + y)) ++ [(s, n)]).flatMap stv) (by rw [List.flatMap_append]; rfl)) ?_
        rintro ⟨a149, c149⟩ h149
        refine Wl.q rfl rfl (OpQ.assign rfl) ?_
        refine Wl.nil ?_
        exact PX.cut hK3 (a149, c149) trivial ⟨rfl, rfl, rfl, (lkV rfl (by rw [hls])), rfl, rfl, rfl, rfl, rfl, rfl, rfl, rfl, rfl, rfl, rfl, (lkV rfl (congrArg (fun m : Nat => Value.int .i64 (m : Int)) (by rw [addN_out hnx]))), trivial⟩ (.drop (.drop (by dsimp only; rw [hls, itA_snoc, Nat.zero_add]; exact HSub.refl _)))
       ·
        have hix : ¬ ixA (s, n) 0 (bfsP (cTr SF.sq SG.sq).to SF.L (SF.s, r0.1) (i * SF.L + y)) = none := fun hh => by rw [hh] at h140; exact absurd h140 (by decide)
        obtain ⟨hx1, hx2⟩ := ix_in hix
        have hls : (bfsP (cTr SF.sq SG.sq).to SF.L (SF.s, r0.1) (i * SF.L + (y + 1))) = (bfsP (cTr SF.sq SG.sq).to SF.L (SF.s, r0.1) (i * SF.L + y)) := by rw [hlsN, hx1]
        refine CT.skip ?_
        exact PX.cut hK3 (la, lc) trivial ⟨rfl, rfl, rfl, (lkV rfl (by rw [hls])), rfl, rfl, rfl, rfl, rfl, rfl, rfl, rfl, rfl, rfl, rfl, (lkV rfl (congrArg (fun m : Nat => Value.int .i64 (m : Int)) hx2)), trivial⟩ (.drop (by dsimp only; rw [hls]; exact HSub.refl _))
      ·
       dsimp only
       refine CT.seq ?_
       refine CT.region ?_
       refine Wl.q rfl rfl (OpQ.move rfl) ?_
       refine Wl.know 150 (v' := .bool false) rfl (congrArg Value.bool rfl) ?_
       refine Wl.q rfl rfl (OpQ.move rfl) ?_
       refine Wl.q rfl rfl (OpQ.move rfl) ?_
       refine Wl.q rfl rfl (OpQ.lenSv RZ_un9 rfl) ?_
       refine Wl.q rfl rfl (OpQ.gtr rfl rfl) ?_
       refine Wl.know 154 (v' := .bool false) rfl (congrArg Value.bool (decide_eq_false (by omega))) ?_
       refine Wl.q rfl rfl (OpQ.pickF rfl rfl) ?_
       refine Wl.q rfl rfl (OpQ.assign rfl) ?_
       refine Wl.nil ?_
       refine PX.then_n ?_
       refine CT.region ?_
       refine Wl.q rfl rfl (OpQ.move rfl) ?_
       refine Wl.q rfl rfl (OpQ.move rfl) ?_
       refine Wl.g rfl rfl (OpG.lit1 RZ_un22 RZ_in3 rfl rfl rfl) ?_
       rintro b158 _
       refine Wl.g rfl rfl (OpG.append RZ_un22 RZ_in3 (by rfl) (by decide) rfl rfl (p := 1) rfl (fun w hH => hH.rd .here) ⟨rfl, (by simp [Value.oneCell']), (by omega), (by omega)⟩ (nm := (y + 1)) rfl (all := (xs ++ [some (addN (bfsP (cTr SF.sq SG.sq).to SF.L (SF.s, r0.1) (i * SF.L + y)) (s, n)).2]).map zo) (by rw [List.map_append]; rfl)) ?_
       rintro ⟨a159, c159⟩ h159
       refine Wl.q rfl rfl (OpQ.move rfl) ?_
       refine Wl.q rfl rfl (OpQ.move rfl) ?_
       refine Wl.g rfl rfl (OpG.lit1 RZ_un28 RZ_in9 rfl rfl rfl) ?_
       rintro b162 _
       refine Wl.g rfl rfl (OpG.append RZ_un28 RZ_in9 (by rfl) (by decide) rfl rfl (p := 3) rfl (fun w hH => hH.rd .here) ⟨rfl, (by simp [Value.oneCell']), (by omega), (by omega)⟩ (nm := (y + 1)) rfl (all := (ws ++ [t]).map sv) (by rw [List.map_append]; rfl)) ?_
       rintro ⟨a163, c163⟩ h163
       refine Wl.q rfl rfl (OpQ.assign rfl) ?_
       refine Wl.q rfl rfl (OpQ.assign rfl) ?_
       refine Wl.nil ?_
       refine PX.block_n ?_
       refine PX.then_n ?_
       refine CT.region ?_
       refine Wl.q rfl rfl (OpQ.add rfl rfl (by omega)) ?_
       refine Wl.q rfl rfl (OpQ.move rfl) ?_
       refine Wl.nil ?_
       exact PX.loop hK1 (y + 1, la, lc, a159, c159, xs ++ [some (addN (bfsP (cTr SF.sq SG.sq).to SF.L (SF.s, r0.1) (i * SF.L + y)) (s, n)).2], a163, c163, ws ++ [t]) ⟨by omega, by rw [hlsN]; exact hrow.add hst, by rw [owR_s, ← hws, show ow (cTr SF.sq SG.sq).to (cTr SF.sq SG.sq) x y = t from by rw [ow, hst]; exact cOu_some (p := x.2) hrn]⟩ (show SF.L - (y + 1) < SF.L - y by omega) ⟨rfl, rfl, rfl, rfl, rfl, rfl, rfl, rfl, rfl, rfl, rfl, rfl, rfl, rfl, trivial⟩ (.drop (.drop (HSub.refl _)))
   ·
    have h100 := of_decide_eq_false h100
    obtain rfl : y = SF.L := by omega
    refine CT.as (fun _ h => HOk.rot (A := [_, _, _]) (B := [_, _, _, _]) h) ?_
    obtain ⟨t2, ht2⟩ := bfsP_pre (st := (cTr SF.sq SG.sq).to) (L := SF.L) (s := (SF.s, r0.1)) (i * SF.L) SF.L
    have hcpE : CpI (cTr SF.sq SG.sq).to (cTr SF.sq SG.sq) SF.L (SF.s, r0.1) (bfsP (cTr SF.sq SG.sq).to SF.L (SF.s, r0.1) (i * SF.L + SF.L)) i rs os es fs := by rw [ht2]; exact hcp.grow
    have hxE : (bfsP (cTr SF.sq SG.sq).to SF.L (SF.s, r0.1) (i * SF.L + SF.L)).getD i (SF.s, r0.1) = x := by rw [ht2, getD_grow hilt, ← hx]
    have hiE : i < (bfsP (cTr SF.sq SG.sq).to SF.L (SF.s, r0.1) (i * SF.L + SF.L)).length := by rw [ht2, List.length_append]; omega
    refine CT.exit ?_
    refine PX.then_x ?_
    refine PX.then_x ?_
    refine PX.block_x ?_
    refine PX.then_n ?_
    refine CT.seq ?_
    refine CT.region ?_
    refine Wl.q rfl rfl (OpQ.assign rfl) ?_
    refine Wl.q rfl rfl (OpQ.assign rfl) ?_
    refine Wl.nil ?_
    refine PX.then_n ?_
    refine CT.cut (ι := Unit) (Φ := fun _ => True) (E' := fun _ => [(2, .pointer (some ⟨b2, 0, none⟩)), (3, .pointer (some ⟨b3, 0, none⟩)), (4, .pointer (some ⟨b4, 0, none⟩)), (10, .slice la (bfsP (cTr SF.sq SG.sq).to SF.L (SF.s, r0.1) (i * SF.L + SF.L)).length lc), (11, .map (some b66)), (12, .pointer (some ⟨b12, 0, none⟩)), (13, .bool false), (14, .int .i64 ((i : Nat) : Int)), (16, .slice xa SF.L xc), (17, .slice wa SF.L wc), (25, .bool ((cTr SF.sq SG.sq).en x)), (26, sv ((cTr SF.sq SG.sq).fi x))]) (H' := fun _ => [.row 22 1 (.slice na' i nc') i (rs.map rxv), .row 28 1 (.slice oa' i oc') i (os.map rxv), .row 4 1 (.slice ea' i ec') i (es.map bo), .row 9 1 (.slice fa' i fc') i (fs.map sv), .row 3 1 (.slice xa SF.L xc) SF.L (xs.map zo), .row 9 1 (.slice wa SF.L wc) SF.L (ws.map sv), .row 87 2 (vb b15) 1 [zn x.1, zn x.2], .row 30 7 (vb b12) 1 [zn SF.L, .int .i64 0, sv (SG.init ++ r0.2), .slice na' i nc', .slice oa' i oc', .slice ea' i ec', .slice fa' i fc'], .row 87 2 (.slice la (bfsP (cTr SF.sq SG.sq).to SF.L (SF.s, r0.1) (i * SF.L + SF.L)).length lc) (bfsP (cTr SF.sq SG.sq).to SF.L (SF.s, r0.1) (i * SF.L + SF.L)).length ((bfsP (cTr SF.sq SG.sq).to SF.L (SF.s, r0.1) (i * SF.L + SF.L)).flatMap stv), .blk b66 (mapO kp (itA 0 (bfsP (cTr SF.sq SG.sq).to SF.L (SF.s, r0.1) (i * SF.L + SF.L)))), .row 30 7 (vb b4) 1 [.int .i64 0, .int .i64 0, .string ⟨#[]⟩, .slice none 0 0, .slice none 0 0, .slice none 0 0, .slice none 0 0], .row 30 7 (vb b3) 1 (svc SG), .row 30 7 (vb b2) 1 (svc SF)] ++ (fam 3 zo rs ++ fam 9 sv os)) (fun K4 hK4 => ?_) (fun _ _ => ?_)
    ·
     refine CT.seq ?_
     refine CT.region ?_
     refine Wl.q rfl rfl (OpQ.fieldAddr RZ_fa30_5 rfl) ?_
     refine Wl.q rfl rfl (OpQ.loadF (b := b2) RZ_sc27 rfl (by repeat (first | exact Has.here | apply Has.there)) (by rfl)) ?_
     refine Wl.q rfl rfl (OpQ.fieldAddr RZ_fa87_0 rfl) ?_
     refine Wl.q rfl rfl (OpQ.loadF (b := b15) RZ_sc3 rfl (by repeat (first | exact Has.here | apply Has.there)) (by rfl)) ?_
     refine Wl.q rfl rfl (OpQ.index1 RZ_un27 RZ_sz4 rfl rfl (by omega) (hesF (by omega))) ?_
     refine Wl.q rfl rfl (OpQ.loadG RZ_sc4 rfl (fun w hH => (hH.use hSF).e) (getMap bo SF.en false (j := x.1) (by omega))) ?_
     refine Wl.know 170 (v' := .bool (SF.sq.e x.1)) rfl rfl ?_
     refine Wl.nil ?_
     refine PX.then_n ?_
     refine CT.cond rfl (fun h170 => ?_) (fun h170 => ?_)
     ·
      refine CT.seq ?_
      refine CT.draw 15 RZ_mixed ?_
      refine RA.q 0 (by kernel_rfl) rfl rfl rfl (.refl _) (OpQ.loadV (b := b3) RZ_ag30 RZ_sz30 rfl (by repeat (first | exact Has.here | apply Has.there)) (by rfl)) ?_
      refine RA.know 172 (v' := svv SG) rfl rfl ?_
      refine RA.q 1 (by kernel_rfl) rfl rfl rfl (.refl _) (OpQ.fieldAddr RZ_fa87_1 rfl) ?_
      refine RA.q 2 (by kernel_rfl) rfl rfl rfl (.refl _) (OpQ.loadF (b := b15) RZ_sc3 rfl (by repeat (first | exact Has.here | apply Has.there)) (by rfl)) ?_
      refine RA.q 3 (by kernel_rfl) rfl rfl rfl (.refl _) (OpQ.fieldAddr RZ_fa30_6 rfl) ?_
      refine RA.q 4 (by kernel_rfl) rfl rfl rfl (.refl _) (OpQ.loadF (b := b2) RZ_sc28 rfl (by repeat (first | exact Has.here | apply Has.there)) (by rfl)) ?_
      refine RA.q 5 (by kernel_rfl) rfl rfl rfl (.refl _) (OpQ.fieldAddr RZ_fa87_0 rfl) ?_
      refine RA.q 6 (by kernel_rfl) rfl rfl rfl (.refl _) (OpQ.loadF (b := b15) RZ_sc3 rfl (by repeat (first | exact Has.here | apply Has.there)) (by rfl)) ?_
      refine RA.q 7 (by kernel_rfl) rfl rfl rfl (.refl _) (OpQ.index1 RZ_un28 RZ_sz9 rfl rfl (by omega) (hfsF (by omega))) ?_
      refine RA.q 8 (by kernel_rfl) rfl rfl rfl (.refl _) (OpQ.loadG RZ_sc9 rfl (fun w hH => (hH.use hSF).f) (getMap sv SF.fi [] (j := x.1) (by omega))) ?_
      refine RA.know 180 (v' := sv (SF.sq.f x.1)) rfl rfl ?_
      refine RA.f 9 (by kernel_rfl) rfl rfl rfl (OpG.call RZ_go47 rfl (fun w hH => (run_spec w SG (hH.stays0 hSG) hvG x.2 hp2 (SF.sq.f x.1) (hvF.tf x.1 hxa.1) (ho.f x.1 hxa.1) hMN1 (by have := (hvF.tf x.1 hxa.1).1; omega)).mono fun e w' ⟨r, h1, h2, h3⟩ => ⟨r, h1, h2, hH.ext_nil h3⟩)) (fun _ _ => (.refl _)) ?_
      rintro p181 h181
      refine RA.know 181 (v' := .tuple #[zo p181.1, sv p181.2]) rfl rfl ?_
      refine RA.q 10 (by kernel_rfl) rfl rfl rfl (.refl _) (OpQ.move rfl) ?_
      refine RA.q 11 (by kernel_rfl) rfl rfl rfl (.refl _) (OpQ.extract rfl rfl) ?_
      refine RA.q 12 (by kernel_rfl) rfl rfl rfl (.refl _) (OpQ.extract rfl rfl) ?_
      refine RA.q 13 (by kernel_rfl) rfl rfl rfl (.refl _) (OpQ.assign rfl) ?_
      refine RA.q 14 (by kernel_rfl) rfl rfl rfl (.refl _) (OpQ.assign rfl) ?_
      refine RA.tail ?_
      refine RT.done (by kernel_rfl) ?_
      refine PX.then_n ?_
      refine CT.seq ?_
      refine CT.region ?_
      refine Wl.q rfl rfl (OpQ.move rfl) ?_
      refine Wl.q rfl rfl (OpQ.geq rfl rfl) ?_
      refine Wl.q rfl rfl (OpQ.move rfl) ?_
      refine Wl.split 186 rfl (fun hg186 => ?_) (fun hg186 => ?_)
      ·
       obtain ⟨n, hn⟩ := oi_some (show oi p181.1 ≠ -1 by have := of_decide_eq_true hg186; omega)
       have hrn := Rn_some h181 hn
       obtain ⟨hr1x, hr2x, _⟩ := cTr_runF hvF hvG ho hxa.1 hxa.2 hrn
       have hr1n : n < SG.rs.length := by rw [← SG.n_eq]; exact hr1x
       have hr2y : p181.2.length ≤ M * N := hr2x.1
       have hgf := (hvG.tf n hr1x).1
       refine Wl.know 27 (v' := zn n) rfl (by rw [hn]; rfl) ?_
       refine Wl.q rfl rfl (OpQ.fieldAddr RZ_fa30_5 rfl) ?_
       refine Wl.q rfl rfl (OpQ.loadF (b := b3) RZ_sc27 rfl (by repeat (first | exact Has.here | apply Has.there)) (by rfl)) ?_
       refine Wl.q rfl rfl (OpQ.move rfl) ?_
       refine Wl.q rfl rfl (OpQ.index1 RZ_un27 RZ_sz4 rfl rfl (by omega) (hesG (by omega))) ?_
       refine Wl.q rfl rfl (OpQ.loadG RZ_sc4 rfl (fun w hH => (hH.use hSG).e) (getMap bo SG.en false (j := n) (by omega))) ?_
       refine Wl.know 191 (v' := .bool (SG.sq.e n)) rfl rfl ?_
       refine Wl.q rfl rfl (OpQ.pickT rfl rfl) ?_
       refine Wl.nil ?_
       refine PX.then_n ?_
       refine CT.cond rfl (fun h192 => ?_) (fun h192 => ?_)
       ·
        have hE : (cTr SF.sq SG.sq).en x = true ∧ (cTr SF.sq SG.sq).fi x = p181.2 ++ SG.sq.f n := cEn_some h170 hrn h192
        refine CT.draw 9 RZ_mixed ?_
        refine RA.q 0 (by kernel_rfl) rfl rfl rfl (.refl _) (OpQ.move rfl) ?_
        refine RA.q 1 (by kernel_rfl) rfl rfl rfl (.refl _) (OpQ.fieldAddr RZ_fa30_6 rfl) ?_
        refine RA.q 2 (by kernel_rfl) rfl rfl rfl (.refl _) (OpQ.loadF (b := b3) RZ_sc28 rfl (by repeat (first | exact Has.here | apply Has.there)) (by rfl)) ?_
        refine RA.q 3 (by kernel_rfl) rfl rfl rfl (.refl _) (OpQ.move rfl) ?_
        refine RA.q 4 (by kernel_rfl) rfl rfl rfl (.refl _) (OpQ.index1 RZ_un28 RZ_sz9 rfl rfl (by omega) (hfsG (by omega))) ?_
        refine RA.q 5 (by kernel_rfl) rfl rfl rfl (.refl _) (OpQ.loadG RZ_sc9 rfl (fun w hH => (hH.use hSG).f) (getMap sv SG.fi [] (j := n) (by omega))) ?_
        refine RA.know 198 (v' := sv (SG.sq.f n)) rfl rfl ?_
        refine RA.q 6 (by kernel_rfl) rfl rfl rfl (.refl _) (OpQ.concat rfl rfl (by omega)) ?_
        refine RA.q 7 (by kernel_rfl) rfl rfl rfl (.refl _) (OpQ.assign rfl) ?_
        refine RA.q 8 (by kernel_rfl) rfl rfl rfl (.refl _) (OpQ.assign rfl) ?_
        refine RA.tail ?_
        refine RT.done (by kernel_rfl) ?_
        exact PX.cut hK4 () trivial ⟨rfl, rfl, rfl, rfl, rfl, rfl, rfl, rfl, rfl, rfl, (lkV rfl (congrArg Value.bool hE.1.symm)), (lkV rfl (congrArg sv hE.2.symm)), trivial⟩ (HSub.refl _)
       ·
        have hE : (cTr SF.sq SG.sq).en x = false ∧ (cTr SF.sq SG.sq).fi x = [] := cEn_no hrn h192
        refine CT.skip ?_
        exact PX.cut hK4 () trivial ⟨rfl, rfl, rfl, rfl, rfl, rfl, rfl, rfl, rfl, rfl, (lkV rfl (congrArg Value.bool hE.1.symm)), (lkV rfl (congrArg sv hE.2.symm)), trivial⟩ (HSub.refl _)
      ·
       have hE : (cTr SF.sq SG.sq).en x = false ∧ (cTr SF.sq SG.sq).fi x = [] := cEn_dead (Rn_none h181 (oi_neg.1 (by have := of_decide_eq_false hg186; have := oi_ge p181.1; omega)))
       refine Wl.skip rfl rfl ?_
       refine Wl.skip rfl rfl ?_
       refine Wl.skip rfl rfl ?_
       refine Wl.skip rfl rfl ?_
       refine Wl.skip rfl rfl ?_
       refine Wl.q rfl rfl (OpQ.pickF rfl rfl) ?_
       refine Wl.nil ?_
       refine PX.then_n ?_
       refine CT.condF rfl ?_
       refine CT.skip ?_
       exact PX.cut hK4 () trivial ⟨rfl, rfl, rfl, rfl, rfl, rfl, rfl, rfl, rfl, rfl, (lkV rfl (congrArg Value.bool hE.1.symm)), (lkV rfl (congrArg sv hE.2.symm)), trivial⟩ (HSub.refl _)
     ·
      have hE : (cTr SF.sq SG.sq).en x = false ∧ (cTr SF.sq SG.sq).fi x = [] := cEn_f (p := x.2) h170
      refine CT.skip ?_
      exact PX.cut hK4 () trivial ⟨rfl, rfl, rfl, rfl, rfl, rfl, rfl, rfl, rfl, rfl, (lkV rfl (congrArg Value.bool hE.1.symm)), (lkV rfl (congrArg sv hE.2.symm)), trivial⟩ (HSub.refl _)
    ·
     have hfi4 := (cTr_fiT hvF hvG ho hxa.1 hxa.2).1.1
     have hfi5 := Nat.le_trans hfi4 hMN
     have hlnE := hlenB (i * SF.L + SF.L)
     refine CT.seq ?_
     refine CT.region ?_
     refine Wl.q rfl rfl (OpQ.move rfl) ?_
     refine Wl.know 200 (v' := .bool false) rfl (congrArg Value.bool rfl) ?_
     refine Wl.q rfl rfl (OpQ.move rfl) ?_
     refine Wl.q rfl rfl (OpQ.move rfl) ?_
     refine Wl.q rfl rfl (OpQ.lenSv RZ_un9 rfl) ?_
     refine Wl.q rfl rfl (OpQ.gtr rfl rfl) ?_
     refine Wl.know 204 (v' := .bool false) rfl (congrArg Value.bool (decide_eq_false (by have : (cTr SF.sq SG.sq).fi x = (cTr SF.sq SG.sq).fi (x.1, x.2) := rfl; rw [this]; omega))) ?_
     refine Wl.q rfl rfl (OpQ.pickF rfl rfl) ?_
     refine Wl.q rfl rfl (OpQ.assign rfl) ?_
     refine Wl.nil ?_
     refine PX.then_n ?_
     refine CT.seq ?_
     refine CT.draw' (Hc := [.row 3 1 (.slice xa SF.L xc) SF.L (xs.map zo), .row 9 1 (.slice wa SF.L wc) SF.L (ws.map sv), .row 87 2 (vb b15) 1 [zn x.1, zn x.2], .row 30 7 (vb b12) 1 [zn SF.L, .int .i64 0, sv (SG.init ++ r0.2), .slice na' i nc', .slice oa' i oc', .slice ea' i ec', .slice fa' i fc'], .row 87 2 (.slice la (bfsP (cTr SF.sq SG.sq).to SF.L (SF.s, r0.1) (i * SF.L + SF.L)).length lc) (bfsP (cTr SF.sq SG.sq).to SF.L (SF.s, r0.1) (i * SF.L + SF.L)).length ((bfsP (cTr SF.sq SG.sq).to SF.L (SF.s, r0.1) (i * SF.L + SF.L)).flatMap stv), .blk b66 (mapO kp (itA 0 (bfsP (cTr SF.sq SG.sq).to SF.L (SF.s, r0.1) (i * SF.L + SF.L)))), .row 30 7 (vb b4) 1 [.int .i64 0, .int .i64 0, .string ⟨#[]⟩, .slice none 0 0, .slice none 0 0, .slice none 0 0, .slice none 0 0], .row 30 7 (vb b3) 1 (svc SG), .row 30 7 (vb b2) 1 (svc SF)] ++ (fam 3 zo rs ++ fam 9 sv os)) 21 RZ_mixed ?_
     refine RA.q 0 (by kernel_rfl) rfl rfl rfl (.cons _ (.cons _ (.cons _ (.cons _ (.refl _))))) (OpQ.fieldAddr RZ_fa30_3 rfl) ?_
     refine RA.q 1 (by kernel_rfl) rfl rfl rfl (.cons _ (.cons _ (.cons _ (.cons _ (.refl _))))) (OpQ.loadF (b := b12) RZ_sc25 rfl (by repeat (first | exact Has.here | apply Has.there)) (by rfl)) ?_
     refine RA.q 2 (by kernel_rfl) rfl rfl rfl (.cons _ (.cons _ (.cons _ (.cons _ (.refl _))))) (OpQ.move rfl) ?_
     refine RA.q 5 (by kernel_rfl) rfl rfl rfl (.cons _ (.cons _ (.cons _ (.cons _ (.refl _))))) (OpQ.fieldAddr RZ_fa30_4 rfl) ?_
     refine RA.q 6 (by kernel_rfl) rfl rfl rfl (.cons _ (.cons _ (.cons _ (.cons _ (.refl _))))) (OpQ.loadF (b := b12) RZ_sc26 rfl (by repeat (first | exact Has.here | apply Has.there)) (by rfl)) ?_
     refine RA.q 7 (by kernel_rfl) rfl rfl rfl (.cons _ (.cons _ (.cons _ (.cons _ (.refl _))))) (OpQ.move rfl) ?_
     refine RA.q 10 (by kernel_rfl) rfl rfl rfl (.cons _ (.cons _ (.cons _ (.cons _ (.refl _))))) (OpQ.fieldAddr RZ_fa30_5 rfl) ?_
     refine RA.q 11 (by kernel_rfl) rfl rfl rfl (.cons _ (.cons _ (.cons _ (.cons _ (.refl _))))) (OpQ.loadF (b := b12) RZ_sc27 rfl (by repeat (first | exact Has.here | apply Has.there)) (by rfl)) ?_
     refine RA.q 12 (by kernel_rfl) rfl rfl rfl (.cons _ (.cons _ (.cons _ (.cons _ (.refl _))))) (OpQ.move rfl) ?_
     refine RA.q 15 (by kernel_rfl) rfl rfl rfl (.cons _ (.cons _ (.cons _ (.cons _ (.refl _))))) (OpQ.fieldAddr RZ_fa30_6 rfl) ?_
     refine RA.q 16 (by kernel_rfl) rfl rfl rfl (.cons _ (.cons _ (.cons _ (.cons _ (.refl _))))) (OpQ.loadF (b := b12) RZ_sc28 rfl (by repeat (first | exact Has.here | apply Has.there)) (by rfl)) ?_
     refine RA.q 17 (by kernel_rfl) rfl rfl rfl (.cons _ (.cons _ (.cons _ (.cons _ (.refl _))))) (OpQ.move rfl) ?_
     refine RA.as (L := [dmy, dmy, dmy, dmy, dmy, .row 22 1 (.slice na' i nc') i (rs.map rxv), .row 28 1 (.slice oa' i oc') i (os.map rxv), .row 4 1 (.slice ea' i ec') i (es.map bo), .row 9 1 (.slice fa' i fc') i (fs.map sv)] ++ ([.row 3 1 (.slice xa SF.L xc) SF.L (xs.map zo), .row 9 1 (.slice wa SF.L wc) SF.L (ws.map sv), .row 87 2 (vb b15) 1 [zn x.1, zn x.2], .row 30 7 (vb b12) 1 [zn SF.L, .int .i64 0, sv (SG.init ++ r0.2), .slice na' i nc', .slice oa' i oc', .slice ea' i ec', .slice fa' i fc'], .row 87 2 (.slice la (bfsP (cTr SF.sq SG.sq).to SF.L (SF.s, r0.1) (i * SF.L + SF.L)).length lc) (bfsP (cTr SF.sq SG.sq).to SF.L (SF.s, r0.1) (i * SF.L + SF.L)).length ((bfsP (cTr SF.sq SG.sq).to SF.L (SF.s, r0.1) (i * SF.L + SF.L)).flatMap stv), .blk b66 (mapO kp (itA 0 (bfsP (cTr SF.sq SG.sq).to SF.L (SF.s, r0.1) (i * SF.L + SF.L)))), .row 30 7 (vb b4) 1 [.int .i64 0, .int .i64 0, .string ⟨#[]⟩, .slice none 0 0, .slice none 0 0, .slice none 0 0, .slice none 0 0], .row 30 7 (vb b3) 1 (svc SG), .row 30 7 (vb b2) 1 (svc SF)] ++ (fam 3 zo rs ++ fam 9 sv os))) (fun _ h => h.dmy 5) ?_
     refine RA.many (it := fun | 3 => Itm.new 209 0 3 (fun b => .slice (some ⟨b, 0, none⟩) 1 1) (fun b => .row 22 1 (.slice (some ⟨b, 0, none⟩) 1 1) 1 [.slice xa SF.L xc]) | 4 => Itm.own 210 5 4 [3] (fun pl => .slice pl.1 (i + 1) pl.2) (fun pl => .row 22 1 (.slice pl.1 (i + 1) pl.2) (i + 1) ((rs ++ [(⟨xa, xc, xs⟩ : Rx (Option Nat))]).map rxv)) (fun pl => i + 1 ≠ 0 → pl.1.isSome = true) | 8 => Itm.new 214 1 8 (fun b => .slice (some ⟨b, 0, none⟩) 1 1) (fun b => .row 28 1 (.slice (some ⟨b, 0, none⟩) 1 1) 1 [.slice wa SF.L wc]) | 9 => Itm.own 215 6 9 [4, 8] (fun pl => .slice pl.1 (i + 1) pl.2) (fun pl => .row 28 1 (.slice pl.1 (i + 1) pl.2) (i + 1) ((os ++ [(⟨wa, wc, ws⟩ : Rx Wd)]).map rxv)) (fun pl => i + 1 ≠ 0 → pl.1.isSome = true) | 13 => Itm.new 219 2 13 (fun b => .slice (some ⟨b, 0, none⟩) 1 1) (fun b => .row 4 1 (.slice (some ⟨b, 0, none⟩) 1 1) 1 [.bool ((cTr SF.sq SG.sq).en x)]) | 14 => Itm.own 220 7 14 [9, 13] (fun pl => .slice pl.1 (i + 1) pl.2) (fun pl => .row 4 1 (.slice pl.1 (i + 1) pl.2) (i + 1) ((es ++ [(cTr SF.sq SG.sq).en x]).map bo)) (fun pl => i + 1 ≠ 0 → pl.1.isSome = true) | 18 => Itm.new 224 3 18 (fun b => .slice (some ⟨b, 0, none⟩) 1 1) (fun b => .row 9 1 (.slice (some ⟨b, 0, none⟩) 1 1) 1 [sv ((cTr SF.sq SG.sq).fi x)]) | 19 => Itm.own 225 8 19 [14, 18] (fun pl => .slice pl.1 (i + 1) pl.2) (fun pl => .row 9 1 (.slice pl.1 (i + 1) pl.2) (i + 1) ((fs ++ [(cTr SF.sq SG.sq).fi x]).map sv)) (fun pl => i + 1 ≠ 0 → pl.1.isSome = true) | 20 => ⟨226, 4, [3, 4], fun g => .pointer (some ((⟨b12, 0, none⟩ : Addr).add 3)), fun _ => dmy, fun _ => True⟩ | _ => Itm.none) (A := [dmy, dmy, dmy, dmy, dmy, .row 22 1 (.slice na' i nc') i (rs.map rxv), .row 28 1 (.slice oa' i oc') i (os.map rxv), .row 4 1 (.slice ea' i ec') i (es.map bo), .row 9 1 (.slice fa' i fc') i (fs.map sv)]) [3, 4, 8, 9, 13, 14, 18, 19, 20] 9 rfl (by kernel_rfl) rfl (all_cons Itm.loc_new (all_cons Itm.loc_own (all_cons Itm.loc_new (all_cons Itm.loc_own (all_cons Itm.loc_new (all_cons Itm.loc_own (all_cons Itm.loc_new (all_cons Itm.loc_own (all_cons (fun g g' h => ⟨rfl, rfl, fun h => h⟩) all_nil))))))))) (all_cons (Good.new' rfl rfl (Nat.lt_of_lt_of_le (by decide) (Nat.le_add_left 5 _)) (fun D g hD => OpG.lit1 RZ_un25 RZ_in22 rfl (ev_base rfl rfl hD) rfl)) (all_cons (Good.own rfl rfl (fun D g hD hd => OpG.append RZ_un25 RZ_in22 (by rfl) (by decide) (ev_base rfl rfl hD) (ev_dep rfl hD (hd 3 (.head _)) rfl rfl) (p := 5) (mk_base rfl (.tail _ (.head _)) hD rfl rfl) (fun w hH => hH.rdAt (mk_at (p := 0) rfl hD (hd 3 (.head _)) rfl rfl (by exact (Nat.succ_pos _)))) ⟨rfl, (by simp [Value.oneCell']), (by omega), (by omega)⟩ (nm := i + 1) rfl (all := (rs ++ [(⟨xa, xc, xs⟩ : Rx (Option Nat))]).map rxv) (by rw [List.map_append, List.map_singleton, show rxv (⟨xa, xc, xs⟩ : Rx (Option Nat)) = .slice xa SF.L xc from by show Value.slice _ xs.length _ = _; rw [hrow.len]]))) (all_cons (Good.new' rfl rfl (Nat.lt_of_lt_of_le (by decide) (Nat.le_add_left 5 _)) (fun D g hD => OpG.lit1 RZ_un26 RZ_in28 rfl (ev_base rfl rfl hD) rfl)) (all_cons (Good.own rfl rfl (fun D g hD hd => OpG.append RZ_un26 RZ_in28 (by rfl) (by decide) (ev_base rfl rfl hD) (ev_dep rfl hD (hd 8 (.tail _ (.head _))) rfl rfl) (p := 6) (mk_base rfl (.tail _ (.tail _ (.tail _ (.head _)))) hD rfl rfl) (fun w hH => hH.rdAt (mk_at (p := 1) rfl hD (hd 8 (.tail _ (.head _))) rfl rfl (by exact (Nat.succ_lt_succ (Nat.succ_pos _))))) ⟨rfl, (by simp [Value.oneCell']), (by omega), (by omega)⟩ (nm := i + 1) rfl (all := (os ++ [(⟨wa, wc, ws⟩ : Rx Wd)]).map rxv) (by rw [List.map_append, List.map_singleton, show rxv (⟨wa, wc, ws⟩ : Rx Wd) = .slice wa SF.L wc from by show Value.slice _ ws.length _ = _; rw [hwsl]]))) (all_cons (Good.new' rfl rfl (Nat.lt_of_lt_of_le (by decide) (Nat.le_add_left 5 _)) (fun D g hD => OpG.lit1 RZ_un27 RZ_in4 rfl (ev_base rfl rfl hD) rfl)) (all_cons (Good.own rfl rfl (fun D g hD hd => OpG.append RZ_un27 RZ_in4 (by rfl) (by decide) (ev_base rfl rfl hD) (ev_dep rfl hD (hd 13 (.tail _ (.head _))) rfl rfl) (p := 7) (mk_base rfl (.tail _ (.tail _ (.tail _ (.tail _ (.tail _ (.head _)))))) hD rfl rfl) (fun w hH => hH.rdAt (mk_at (p := 2) rfl hD (hd 13 (.tail _ (.head _))) rfl rfl (by exact (Nat.succ_lt_succ (Nat.succ_lt_succ (Nat.succ_pos _)))))) ⟨rfl, (by simp [Value.oneCell']), (by omega), (by omega)⟩ (nm := i + 1) rfl (all := (es ++ [(cTr SF.sq SG.sq).en x]).map bo) (by rw [List.map_append]; rfl))) (all_cons (Good.new' rfl rfl (Nat.lt_of_lt_of_le (by decide) (Nat.le_add_left 5 _)) (fun D g hD => OpG.lit1 RZ_un28 RZ_in9 rfl (ev_base rfl rfl hD) rfl)) (all_cons (Good.own rfl rfl (fun D g hD hd => OpG.append RZ_un28 RZ_in9 (by rfl) (by decide) (ev_base rfl rfl hD) (ev_dep rfl hD (hd 18 (.tail _ (.head _))) rfl rfl) (p := 8) (mk_base rfl (.tail _ (.tail _ (.tail _ (.tail _ (.tail _ (.tail _ (.tail _ (.head _)))))))) hD rfl rfl) (fun w hH => hH.rdAt (mk_at (p := 3) rfl hD (hd 18 (.tail _ (.head _))) rfl rfl (by exact (Nat.succ_lt_succ (Nat.succ_lt_succ (Nat.succ_lt_succ (Nat.succ_pos _))))))) ⟨rfl, (by simp [Value.oneCell']), (by omega), (by omega)⟩ (nm := i + 1) rfl (all := (fs ++ [(cTr SF.sq SG.sq).fi x]).map sv) (by rw [List.map_append]; rfl))) (all_cons (Good.quiet rfl (fun _ => rfl) rfl (.tail _ (.tail _ (.tail _ (.tail _ (.tail _ (.tail _ (.tail _ (.tail _ (.head _))))))))) (fun _ => trivial) (fun g g' h => rfl) (fun D g hD hd => OpQ.fieldAddr RZ_fa30_3 (ev_base rfl rfl hD)) rfl) all_nil))))))))) (fun g _ => ?_)
     show RA _ _ _ _ _ _ _ ((209, .slice (some ⟨(g 3).2, 0, none⟩) 1 1) :: (210, .slice (g 4).1 (i + 1) (g 4).2) :: (214, .slice (some ⟨(g 8).2, 0, none⟩) 1 1) :: (215, .slice (g 9).1 (i + 1) (g 9).2) :: (219, .slice (some ⟨(g 13).2, 0, none⟩) 1 1) :: (220, .slice (g 14).1 (i + 1) (g 14).2) :: (224, .slice (some ⟨(g 18).2, 0, none⟩) 1 1) :: (225, .slice (g 19).1 (i + 1) (g 19).2) :: (226, .pointer (some ((⟨b12, 0, none⟩ : Addr).add 3))) :: _) ([.row 22 1 (.slice (some ⟨(g 3).2, 0, none⟩) 1 1) 1 [.slice xa SF.L xc], .row 28 1 (.slice (some ⟨(g 8).2, 0, none⟩) 1 1) 1 [.slice wa SF.L wc], .row 4 1 (.slice (some ⟨(g 13).2, 0, none⟩) 1 1) 1 [.bool ((cTr SF.sq SG.sq).en x)], .row 9 1 (.slice (some ⟨(g 18).2, 0, none⟩) 1 1) 1 [sv ((cTr SF.sq SG.sq).fi x)], dmy, .row 22 1 (.slice (g 4).1 (i + 1) (g 4).2) (i + 1) ((rs ++ [(⟨xa, xc, xs⟩ : Rx (Option Nat))]).map rxv), .row 28 1 (.slice (g 9).1 (i + 1) (g 9).2) (i + 1) ((os ++ [(⟨wa, wc, ws⟩ : Rx Wd)]).map rxv), .row 4 1 (.slice (g 14).1 (i + 1) (g 14).2) (i + 1) ((es ++ [(cTr SF.sq SG.sq).en x]).map bo), .row 9 1 (.slice (g 19).1 (i + 1) (g 19).2) (i + 1) ((fs ++ [(cTr SF.sq SG.sq).fi x]).map sv)] ++ ([.row 3 1 (.slice xa SF.L xc) SF.L (xs.map zo), .row 9 1 (.slice wa SF.L wc) SF.L (ws.map sv), .row 87 2 (vb b15) 1 [zn x.1, zn x.2], .row 30 7 (vb b12) 1 [zn SF.L, .int .i64 0, sv (SG.init ++ r0.2), .slice na' i nc', .slice oa' i oc', .slice ea' i ec', .slice fa' i fc'], .row 87 2 (.slice la (bfsP (cTr SF.sq SG.sq).to SF.L (SF.s, r0.1) (i * SF.L + SF.L)).length lc) (bfsP (cTr SF.sq SG.sq).to SF.L (SF.s, r0.1) (i * SF.L + SF.L)).length ((bfsP (cTr SF.sq SG.sq).to SF.L (SF.s, r0.1) (i * SF.L + SF.L)).flatMap stv), .blk b66 (mapO kp (itA 0 (bfsP (cTr SF.sq SG.sq).to SF.L (SF.s, r0.1) (i * SF.L + SF.L)))), .row 30 7 (vb b4) 1 [.int .i64 0, .int .i64 0, .string ⟨#[]⟩, .slice none 0 0, .slice none 0 0, .slice none 0 0, .slice none 0 0], .row 30 7 (vb b3) 1 (svc SG), .row 30 7 (vb b2) 1 (svc SF)] ++ (fam 3 zo rs ++ fam 9 sv os)))
     generalize (g 4).1 = a210
     generalize (g 9).1 = a215
     generalize (g 14).1 = a220
     generalize (g 19).1 = a225
     generalize (g 4).2 = c210
     generalize (g 9).2 = c215
     generalize (g 14).2 = c220
     generalize (g 19).2 = c225
     generalize (g 3).2 = b209
     generalize (g 8).2 = b214
     generalize (g 13).2 = b219
     generalize (g 18).2 = b224
     refine RA.tail ?_
     refine RT.f 21 (by kernel_rfl) rfl rfl rfl (OpG.storeRow (a := some ⟨b12, 0, none⟩) RZ_sz25 rfl rfl rfl (by repeat (first | exact Upd.here | apply Upd.there)) (by simp)) ?_
     rintro _ _
     refine RT.q 22 (by kernel_rfl) rfl rfl rfl (OpQ.fieldAddr RZ_fa30_4 rfl) ?_
     refine RT.f 23 (by kernel_rfl) rfl rfl rfl (OpG.storeRow (a := some ⟨b12, 0, none⟩) RZ_sz26 rfl rfl rfl (by repeat (first | exact Upd.here | apply Upd.there)) (by simp)) ?_
     rintro _ _
     refine RT.q 24 (by kernel_rfl) rfl rfl rfl (OpQ.fieldAddr RZ_fa30_5 rfl) ?_
     refine RT.f 25 (by kernel_rfl) rfl rfl rfl (OpG.storeRow (a := some ⟨b12, 0, none⟩) RZ_sz27 rfl rfl rfl (by repeat (first | exact Upd.here | apply Upd.there)) (by simp)) ?_
     rintro _ _
     refine RT.q 26 (by kernel_rfl) rfl rfl rfl (OpQ.fieldAddr RZ_fa30_6 rfl) ?_
     refine RT.f 27 (by kernel_rfl) rfl rfl rfl (OpG.storeRow (a := some ⟨b12, 0, none⟩) RZ_sz28 rfl rfl rfl (by repeat (first | exact Upd.here | apply Upd.there)) (by simp)) ?_
     rintro _ _
     refine RT.done (by kernel_rfl) ?_
     refine PX.then_n ?_
     refine CT.seq ?_
     refine CT.region ?_
     refine Wl.q rfl rfl (OpQ.move rfl) ?_
     refine Wl.q rfl rfl (OpQ.len RZ_un88 rfl) ?_
     refine Wl.q rfl rfl (OpQ.gtr rfl rfl) ?_
     refine Wl.know 232 (v' := .bool false) rfl (congrArg Value.bool (decide_eq_false (by omega))) ?_
     refine Wl.nil ?_
     refine PX.then_n ?_
     refine CT.condF rfl ?_
     refine CT.skip ?_
     refine PX.block_n ?_
     refine PX.then_n ?_
     refine CT.region ?_
     refine Wl.q rfl rfl (OpQ.move rfl) ?_
     refine Wl.q rfl rfl (OpQ.add rfl rfl (by omega)) ?_
     refine Wl.q rfl rfl (OpQ.assign rfl) ?_
     refine Wl.nil ?_
     refine PX.as (fun _ h => HOk.rot (A := [_, _, _, _]) (B := [_, _]) (HOk.behind (A := [_, _, _, _, _]) h)) ?_
     refine PX.mem (.keep (k := rch 3 zo (⟨xa, xc, xs⟩ : Rx (Option Nat))) (by show Chunk.row _ _ (.slice _ xs.length _) xs.length _ = _; rw [hrow.len]) (.keep (k := rch 9 sv (⟨wa, wc, ws⟩ : Rx Wd)) (by show Chunk.row _ _ (.slice _ ws.length _) ws.length _ = _; rw [hwsl]) (HSub.refl _))) ?_
     refine PX.as (fun _ h => HOk.fam2 (r := (⟨xa, xc, xs⟩ : Rx (Option Nat))) (o := (⟨wa, wc, ws⟩ : Rx Wd)) (A := [.row 22 1 (.slice a210 (i + 1) c210) (i + 1) ((rs ++ [(⟨xa, xc, xs⟩ : Rx (Option Nat))]).map rxv), .row 28 1 (.slice a215 (i + 1) c215) (i + 1) ((os ++ [(⟨wa, wc, ws⟩ : Rx Wd)]).map rxv), .row 4 1 (.slice a220 (i + 1) c220) (i + 1) ((es ++ [(cTr SF.sq SG.sq).en x]).map bo), .row 9 1 (.slice a225 (i + 1) c225) (i + 1) ((fs ++ [(cTr SF.sq SG.sq).fi x]).map sv), .row 87 2 (vb b15) 1 [zn x.1, zn x.2], .row 30 7 (vb b12) 1 [zn SF.L, .int .i64 0, sv (SG.init ++ r0.2), .slice a210 (i + 1) c210, .slice a215 (i + 1) c215, .slice a220 (i + 1) c220, .slice a225 (i + 1) c225], .row 87 2 (.slice la (bfsP (cTr SF.sq SG.sq).to SF.L (SF.s, r0.1) (i * SF.L + SF.L)).length lc) (bfsP (cTr SF.sq SG.sq).to SF.L (SF.s, r0.1) (i * SF.L + SF.L)).length ((bfsP (cTr SF.sq SG.sq).to SF.L (SF.s, r0.1) (i * SF.L + SF.L)).flatMap stv), .blk b66 (mapO kp (itA 0 (bfsP (cTr SF.sq SG.sq).to SF.L (SF.s, r0.1) (i * SF.L + SF.L)))), .row 30 7 (vb b4) 1 [.int .i64 0, .int .i64 0, .string ⟨#[]⟩, .slice none 0 0, .slice none 0 0, .slice none 0 0, .slice none 0 0], .row 30 7 (vb b3) 1 (svc SG), .row 30 7 (vb b2) 1 (svc SF)]) h) ?_
     exact PX.loop hK0 (i + 1, la, lc, a210, c210, rs ++ [(⟨xa, xc, xs⟩ : Rx (Option Nat))], a215, c215, os ++ [(⟨wa, wc, ws⟩ : Rx Wd)], a220, c220, es ++ [(cTr SF.sq SG.sq).en x], a225, c225, fs ++ [(cTr SF.sq SG.sq).fi x]) ⟨hg.next hilt, by rw [Nat.add_mul, Nat.one_mul]; exact hcpE.snoc hiE (by rw [hxE]; exact hrow) (by rw [hxE]; exact hws) (by rw [hxE]) (by rw [hxE])⟩ (show 512 - (i + 1) < 512 - i by omega) ⟨rfl, rfl, rfl, (lkV rfl (by rw [Nat.add_mul, Nat.one_mul])), rfl, rfl, rfl, rfl, trivial⟩ (.keep rfl (.keep rfl (.keep rfl (.keep rfl (.drop (by rw [Nat.add_mul, Nat.one_mul]; exact HSub.refl _))))))
  ·
   have h85 := of_decide_eq_false h85
   refine CT.exit ?_
   refine PX.then_x ?_
   refine PX.then_x ?_
   refine PX.block_x ?_
   refine PX.then_n ?_
   refine CT.seq ?_
   refine CT.seq ?_
   refine CT.region ?_
   have hii : i = (bfsP (cTr SF.sq SG.sq).to SF.L (SF.s, r0.1) (i * SF.L)).length := by omega
   have hK : DoneP (st := (cTr SF.sq SG.sq).to) (L := SF.L) (s := (SF.s, r0.1)) (i * SF.L) := DoneP.of (by omega) hg (by omega)
   have hfin : (⟨SF.L, 0, (SG.init ++ r0.2), na', nc', rs, oa', oc', os, ea', ec', es, fa', fc', fs⟩ : Sv).sq = listD (cTr SF.sq SG.sq) SF.L (SG.init ++ r0.2) (bfsP (cTr SF.sq SG.sq).to SF.L (SF.s, r0.1) (i * SF.L)) := CpI.done (z := (SF.s, r0.1)) (by rw [← hii]; exact hcp) (bfsP_nodup _) _ _ _ _ _ _ _ _ _
   have hDo : (⟨SF.L, 0, (SG.init ++ r0.2), na', nc', rs, oa', oc', os, ea', ec', es, fa', fc', fs⟩ : Sv).sq.Ok 4096 := by rw [hfin]; exact (comp_ok hvF hvG ho (by omega) hr hK).1.mono hMN
   have hval : svv (⟨SF.L, 0, (SG.init ++ r0.2), na', nc', rs, oa', oc', os, ea', ec', es, fa', fc', fs⟩ : Sv) = .agg #[zn SF.L, .int .i64 0, sv (SG.init ++ r0.2), .slice na' i nc', .slice oa' i oc', .slice ea' i ec', .slice fa' i fc'] := by simp only [svv, svc, hrl0, hol0, hel0, hfl0]; rfl
   refine Wl.q rfl rfl (OpQ.move rfl) ?_
   refine Wl.know 234 (v' := .bool false) rfl (congrArg Value.bool rfl) ?_
   refine Wl.nil ?_
   refine PX.then_n ?_
   refine CT.condF rfl ?_
   refine CT.skip ?_
   refine PX.then_n ?_
   refine CT.seq ?_
   refine CT.region ?_
   refine Wl.q rfl rfl (OpQ.loadV (b := b12) RZ_ag30 RZ_sz30 rfl (by repeat (first | exact Has.here | apply Has.there)) (by rfl)) ?_
   refine Wl.know 236 (v' := svv (⟨SF.L, 0, (SG.init ++ r0.2), na', nc', rs, oa', oc', os, ea', ec', es, fa', fc', fs⟩ : Sv)) rfl hval.symm ?_
   refine Wl.as (fun _ h => HOk.rot (A := [_, _, _, _]) (B := [_, _, _, _, _, _]) h) ?_
   refine Wl.mem (H' := [_, _, _, .row 30 7 (vb b4) 1 [.int .i64 0, .int .i64 0, .string ⟨#[]⟩, .slice none 0 0, .slice none 0 0, .slice none 0 0, .slice none 0 0], _, _] ++ svH (⟨SF.L, 0, (SG.init ++ r0.2), na', nc', rs, oa', oc', os, ea', ec', es, fa', fc', fs⟩ : Sv) 3 22 4 9 28) (.keep rfl (.keep rfl (.keep rfl (.keep rfl (.keep rfl (.keep rfl (.keep (by simp only [hrl0]) (.keep (by simp only [hol0]) (.keep (by simp only [hel0]) (.keep (by simp only [hfl0]) (HSub.refl _))))))))))) ?_
   refine Wl.g rfl rfl (OpG.callX RZ_go49 rfl .nil (fun _ => (App.of _ _)) (fun w hH hp => trimR42_spec w (⟨SF.L, 0, (SG.init ++ r0.2), na', nc', rs, oa', oc', os, ea', ec', es, fa', fc', fs⟩ : Sv) (HOk.svmS (A := [_, _, _, _, _, _]) hH) hDo)) ?_
   rintro i237 h237
   refine Wl.as (fun _ h => HOk.swap (A := svH i237 3 22 4 9 28) (h.sublist (List.Sublist.append_left (HSub.sub (L := [.row 30 7 (vb b4) 1 [.int .i64 0, .int .i64 0, .string ⟨#[]⟩, .slice none 0 0, .slice none 0 0, .slice none 0 0, .slice none 0 0]]) (.drop (.drop (.drop (.keep rfl (HSub.none _)))))) _))) ?_
   rw [hfin] at h237
   refine Wl.g rfl rfl (OpG.storeV (b := b4) RZ_sz30 rfl rfl rfl rfl (by repeat (first | exact Upd.here | apply Upd.there))) ?_
   rintro _ _
   refine Wl.q rfl rfl (OpQ.assign rfl) ?_
   refine Wl.nil ?_
   refine PX.then_n ?_
   refine CT.ret ?_
   refine PX.retC2 rfl rfl rfl (by repeat (first | exact Has.here | apply Has.there)) RZ_ag30 RZ_sz30 (by rfl) (fun w' hH => ?_)
   exact ⟨i237, (by unfold IsComp; rw [show SG.sq.tr.run SG.sq.s (wl SF.sq.init) = some r0 from hr]; exact ⟨i * SF.L, hK, h237⟩), rfl, (HOk.behind (A := [_]) hH).post⟩

end Go.Proofs.Ytamolakhpcofhaa

