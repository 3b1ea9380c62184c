/-
  What functions of the program compute, each by its walk. Conditions: those that each theorem names.
-/
import Derived.Test.YtamolakhpcofhaaXE23
import Derived.Test.YtamolakhpcofhaaXE22
import Derived.Test.YtamolakhpcofhaaEng
set_option linter.unusedSimpArgs false
namespace Go.Proofs.Ytamolakhpcofhaa
open Go Go.Eng Go.Am Go.Sq
open Go.Tp (zi)
open Go.Tl (mayL Wd okW okB bo)

theorem RX_fa78_0 : fieldB Try.prog 78 0 = some 0 := by kernel_rfl
theorem RX_fa30_0 : fieldB Try.prog 30 0 = some 0 := by kernel_rfl
theorem RX_sc3 : scalarB Try.prog 3 = some true := by kernel_rfl
theorem RX_go37 : isGo Try.prog 37 = true := by kernel_rfl
theorem RX_mixed : Try.prog.follows .mixedOrders = true := by kernel_rfl
theorem RX_fa30_3 : fieldB Try.prog 30 3 = some 3 := by kernel_rfl
theorem RX_sc25 : scalarB Try.prog 25 = some true := by kernel_rfl
theorem RX_fa82_0 : fieldB Try.prog 82 0 = some 0 := by kernel_rfl
theorem RX_un25 : Try.prog.underlying 25 = some (.slice 22) := by kernel_rfl
theorem RX_sz22 : sizeB Try.prog 22 = some 1 := by kernel_rfl
theorem RX_sc22 : scalarB Try.prog 22 = some true := by kernel_rfl
theorem RX_un22 : Try.prog.underlying 22 = some (.slice 3) := by kernel_rfl
theorem RX_sz3 : sizeB Try.prog 3 = some 1 := by kernel_rfl
theorem RX_fa78_1 : fieldB Try.prog 78 1 = some 7 := by kernel_rfl
theorem RX_ag30 : isAggB Try.prog 30 = some true := by kernel_rfl
theorem RX_sz30 : sizeB Try.prog 30 = some 7 := by kernel_rfl
theorem RX_fa82_1 : fieldB Try.prog 82 1 = some 1 := by kernel_rfl
theorem RX_fa30_4 : fieldB Try.prog 30 4 = some 4 := by kernel_rfl
theorem RX_sc26 : scalarB Try.prog 26 = some true := by kernel_rfl
theorem RX_un26 : Try.prog.underlying 26 = some (.slice 28) := by kernel_rfl
theorem RX_sz28 : sizeB Try.prog 28 = some 1 := by kernel_rfl
theorem RX_sc28 : scalarB Try.prog 28 = some true := by kernel_rfl
theorem RX_un28 : Try.prog.underlying 28 = some (.slice 9) := by kernel_rfl
theorem RX_sz9 : sizeB Try.prog 9 = some 1 := by kernel_rfl
theorem RX_sc9 : scalarB Try.prog 9 = some true := by kernel_rfl
theorem RX_go40 : isGo Try.prog 40 = true := by kernel_rfl
theorem RX_pl82 : placesB Try.prog 82 = some (#[.int .i64 0, .int .i64 0], [(0, 1), (1, 1)]) := by kernel_rfl
theorem RX_go43 : isGo Try.prog 43 = true := by kernel_rfl
theorem RX_go42 : isGo Try.prog 42 = true := by kernel_rfl
theorem RX_fa30_5 : fieldB Try.prog 30 5 = some 5 := by kernel_rfl
theorem RX_sc27 : scalarB Try.prog 27 = some true := by kernel_rfl
theorem RX_un27 : Try.prog.underlying 27 = some (.slice 4) := by kernel_rfl
theorem RX_sz4 : sizeB Try.prog 4 = some 1 := by kernel_rfl
theorem RX_sc4 : scalarB Try.prog 4 = some true := by kernel_rfl
theorem RX_fa30_6 : fieldB Try.prog 30 6 = some 6 := by kernel_rfl
theorem RX_fa78_2 : fieldB Try.prog 78 2 = some 14 := by kernel_rfl
theorem RX_in22 : (Try.prog.info? 22).map (fun i => (i.zero, i.size, i.bytes)) = some (some (.slice none 0 0), 1, 24) := by kernel_rfl
theorem RX_sz25 : sizeB Try.prog 25 = some 1 := by kernel_rfl
theorem RX_in28 : (Try.prog.info? 28).map (fun i => (i.zero, i.size, i.bytes)) = some (some (.slice none 0 0), 1, 24) := by kernel_rfl
theorem RX_sz26 : sizeB Try.prog 26 = some 1 := by kernel_rfl
theorem RX_in4 : (Try.prog.info? 4).map (fun i => (i.zero, i.size, i.bytes)) = some (some (.bool false), 1, 1) := by kernel_rfl
theorem RX_sz27 : sizeB Try.prog 27 = some 1 := by kernel_rfl
theorem RX_in9 : (Try.prog.info? 9).map (fun i => (i.zero, i.size, i.bytes)) = some (some (.string ⟨#[]⟩), 1, 16) := by kernel_rfl
set_option maxRecDepth 100000 in
set_option maxHeartbeats 2000000 in
/-- (*semigroup/sequential.composer).state -/
theorem cstate_spec (w : World) {M N : Nat} (b m : Nat) (SF SG : Sv) (hi : Wd) (p0 i : Nat) (a : Option Addr) (c : Nat) (na' : Option Addr) (nc' : Nat) (rs : List (Rx (Option Nat))) (oa' : Option Addr) (oc' : Nat) (os : List (Rx Wd)) (ea' : Option Addr) (ec' : Nat) (es : List Bool) (fa' : Option Addr) (fc' : Nat) (fs : List Wd) (hSF : Stays (blks [.row 78 24 (vb b) 1 [zn SF.L, zn SF.s, sv SF.init, .slice SF.na SF.rs.length SF.nc, .slice SF.oa SF.os.length SF.oc, .slice SF.ea SF.en.length SF.ec, .slice SF.fa SF.fi.length SF.fc, zn SG.L, zn SG.s, sv SG.init, .slice SG.na SG.rs.length SG.nc, .slice SG.oa SG.os.length SG.oc, .slice SG.ea SG.en.length SG.ec, .slice SG.fa SG.fi.length SG.fc, zn SF.L, .int .i64 0, sv hi, .slice na' i nc', .slice oa' i oc', .slice ea' i ec', .slice fa' i fc', .slice a (bfsP (cTr SF.sq SG.sq).to SF.L (SF.s, p0) (i * SF.L)).length c, .map (some m), .bool true], .row 82 2 (.slice a (bfsP (cTr SF.sq SG.sq).to SF.L (SF.s, p0) (i * SF.L)).length c) (bfsP (cTr SF.sq SG.sq).to SF.L (SF.s, p0) (i * SF.L)).length ((bfsP (cTr SF.sq SG.sq).to SF.L (SF.s, p0) (i * SF.L)).flatMap stv), .blk m (mapO kp (itA 0 (bfsP (cTr SF.sq SG.sq).to SF.L (SF.s, p0) (i * SF.L)))), .row 22 1 (.slice na' i nc') i (rs.map rxv), .row 28 1 (.slice oa' i oc') i (os.map rxv), .row 4 1 (.slice ea' i ec') i (es.map bo), .row 9 1 (.slice fa' i fc') i (fs.map sv)]) w (svm SF)) (hvF : SF.sq.Ok M) (hSG : Stays (blks [.row 78 24 (vb b) 1 [zn SF.L, zn SF.s, sv SF.init, .slice SF.na SF.rs.length SF.nc, .slice SF.oa SF.os.length SF.oc, .slice SF.ea SF.en.length SF.ec, .slice SF.fa SF.fi.length SF.fc, zn SG.L, zn SG.s, sv SG.init, .slice SG.na SG.rs.length SG.nc, .slice SG.oa SG.os.length SG.oc, .slice SG.ea SG.en.length SG.ec, .slice SG.fa SG.fi.length SG.fc, zn SF.L, .int .i64 0, sv hi, .slice na' i nc', .slice oa' i oc', .slice ea' i ec', .slice fa' i fc', .slice a (bfsP (cTr SF.sq SG.sq).to SF.L (SF.s, p0) (i * SF.L)).length c, .map (some m), .bool true], .row 82 2 (.slice a (bfsP (cTr SF.sq SG.sq).to SF.L (SF.s, p0) (i * SF.L)).length c) (bfsP (cTr SF.sq SG.sq).to SF.L (SF.s, p0) (i * SF.L)).length ((bfsP (cTr SF.sq SG.sq).to SF.L (SF.s, p0) (i * SF.L)).flatMap stv), .blk m (mapO kp (itA 0 (bfsP (cTr SF.sq SG.sq).to SF.L (SF.s, p0) (i * SF.L)))), .row 22 1 (.slice na' i nc') i (rs.map rxv), .row 28 1 (.slice oa' i oc') i (os.map rxv), .row 4 1 (.slice ea' i ec') i (es.map bo), .row 9 1 (.slice fa' i fc') i (fs.map sv)]) w (svm SG)) (hvG : SG.sq.Ok N) (hMN : M * N + N ≤ 4096) (hM4 : M ≤ 4096) (ho : SF.sq.Over SG.L) (hp0 : p0 < SG.sq.n) (hFG : SF.sq.n * SG.sq.n ≤ 511) (hilt : i < (bfsP (cTr SF.sq SG.sq).to SF.L (SF.s, p0) (i * SF.L)).length) (hcp : CpI (cTr SF.sq SG.sq).to (cTr SF.sq SG.sq) SF.L (SF.s, p0) (bfsP (cTr SF.sq SG.sq).to SF.L (SF.s, p0) (i * SF.L)) i rs os es fs) (hpre : Pre [.row 78 24 (vb b) 1 [zn SF.L, zn SF.s, sv SF.init, .slice SF.na SF.rs.length SF.nc, .slice SF.oa SF.os.length SF.oc, .slice SF.ea SF.en.length SF.ec, .slice SF.fa SF.fi.length SF.fc, zn SG.L, zn SG.s, sv SG.init, .slice SG.na SG.rs.length SG.nc, .slice SG.oa SG.os.length SG.oc, .slice SG.ea SG.en.length SG.ec, .slice SG.fa SG.fi.length SG.fc, zn SF.L, .int .i64 0, sv hi, .slice na' i nc', .slice oa' i oc', .slice ea' i ec', .slice fa' i fc', .slice a (bfsP (cTr SF.sq SG.sq).to SF.L (SF.s, p0) (i * SF.L)).length c, .map (some m), .bool true], .row 82 2 (.slice a (bfsP (cTr SF.sq SG.sq).to SF.L (SF.s, p0) (i * SF.L)).length c) (bfsP (cTr SF.sq SG.sq).to SF.L (SF.s, p0) (i * SF.L)).length ((bfsP (cTr SF.sq SG.sq).to SF.L (SF.s, p0) (i * SF.L)).flatMap stv), .blk m (mapO kp (itA 0 (bfsP (cTr SF.sq SG.sq).to SF.L (SF.s, p0) (i * SF.L)))), .row 22 1 (.slice na' i nc') i (rs.map rxv), .row 28 1 (.slice oa' i oc') i (os.map rxv), .row 4 1 (.slice ea' i ec') i (es.map bo), .row 9 1 (.slice fa' i fc') i (fs.map sv)] w) (x : Nat × Nat) (hx : x = (bfsP (cTr SF.sq SG.sq).to SF.L (SF.s, p0) (i * SF.L)).getD i (SF.s, p0)) : Calls Try.prog 44 #[.pointer (some ⟨b, 0, none⟩), kp x] w (fun e w' => ∃ j : Option Addr × Nat × Rx (Option Nat) × Rx Wd × Option Addr × Nat × Option Addr × Nat × Option Addr × Nat × Option Addr × Nat, CpI (cTr SF.sq SG.sq).to (cTr SF.sq SG.sq) SF.L (SF.s, p0) (bfsP (cTr SF.sq SG.sq).to SF.L (SF.s, p0) (i * SF.L + SF.L)) (i + 1) (rs ++ [j.2.2.1]) (os ++ [j.2.2.2.1]) (es ++ [(cTr SF.sq SG.sq).en x]) (fs ++ [(cTr SF.sq SG.sq).fi x]) ∧ e = .returned (.tuple #[]) ∧ Post (blks [.row 78 24 (vb b) 1 [zn SF.L, zn SF.s, sv SF.init, .slice SF.na SF.rs.length SF.nc, .slice SF.oa SF.os.length SF.oc, .slice SF.ea SF.en.length SF.ec, .slice SF.fa SF.fi.length SF.fc, zn SG.L, zn SG.s, sv SG.init, .slice SG.na SG.rs.length SG.nc, .slice SG.oa SG.os.length SG.oc, .slice SG.ea SG.en.length SG.ec, .slice SG.fa SG.fi.length SG.fc, zn SF.L, .int .i64 0, sv hi, .slice na' i nc', .slice oa' i oc', .slice ea' i ec', .slice fa' i fc', .slice a (bfsP (cTr SF.sq SG.sq).to SF.L (SF.s, p0) (i * SF.L)).length c, .map (some m), .bool true], .row 82 2 (.slice a (bfsP (cTr SF.sq SG.sq).to SF.L (SF.s, p0) (i * SF.L)).length c) (bfsP (cTr SF.sq SG.sq).to SF.L (SF.s, p0) (i * SF.L)).length ((bfsP (cTr SF.sq SG.sq).to SF.L (SF.s, p0) (i * SF.L)).flatMap stv), .blk m (mapO kp (itA 0 (bfsP (cTr SF.sq SG.sq).to SF.L (SF.s, p0) (i * SF.L)))), .row 22 1 (.slice na' i nc') i (rs.map rxv), .row 28 1 (.slice oa' i oc') i (os.map rxv), .row 4 1 (.slice ea' i ec') i (es.map bo), .row 9 1 (.slice fa' i fc') i (fs.map sv)]) [rch 3 zo j.2.2.1, rch 9 sv j.2.2.2.1, .row 78 24 (vb b) 1 [zn SF.L, zn SF.s, sv SF.init, .slice SF.na SF.rs.length SF.nc, .slice SF.oa SF.os.length SF.oc, .slice SF.ea SF.en.length SF.ec, .slice SF.fa SF.fi.length SF.fc, zn SG.L, zn SG.s, sv SG.init, .slice SG.na SG.rs.length SG.nc, .slice SG.oa SG.os.length SG.oc, .slice SG.ea SG.en.length SG.ec, .slice SG.fa SG.fi.length SG.fc, zn SF.L, .int .i64 0, sv hi, .slice j.2.2.2.2.1 (i + 1) j.2.2.2.2.2.1, .slice j.2.2.2.2.2.2.1 (i + 1) j.2.2.2.2.2.2.2.1, .slice j.2.2.2.2.2.2.2.2.1 (i + 1) j.2.2.2.2.2.2.2.2.2.1, .slice j.2.2.2.2.2.2.2.2.2.2.1 (i + 1) j.2.2.2.2.2.2.2.2.2.2.2, .slice j.1 (bfsP (cTr SF.sq SG.sq).to SF.L (SF.s, p0) (i * SF.L + SF.L)).length j.2.1, .map (some m), .bool true], .row 82 2 (.slice j.1 (bfsP (cTr SF.sq SG.sq).to SF.L (SF.s, p0) (i * SF.L + SF.L)).length j.2.1) (bfsP (cTr SF.sq SG.sq).to SF.L (SF.s, p0) (i * SF.L + SF.L)).length ((bfsP (cTr SF.sq SG.sq).to SF.L (SF.s, p0) (i * SF.L + SF.L)).flatMap stv), .blk m (mapO kp (itA 0 (bfsP (cTr SF.sq SG.sq).to SF.L (SF.s, p0) (i * SF.L + SF.L)))), .row 22 1 (.slice j.2.2.2.2.1 (i + 1) j.2.2.2.2.2.1) (i + 1) ((rs ++ [j.2.2.1]).map rxv), .row 28 1 (.slice j.2.2.2.2.2.2.1 (i + 1) j.2.2.2.2.2.2.2.1) (i + 1) ((os ++ [j.2.2.2.1]).map rxv), .row 4 1 (.slice j.2.2.2.2.2.2.2.2.1 (i + 1) j.2.2.2.2.2.2.2.2.2.1) (i + 1) ((es ++ [(cTr SF.sq SG.sq).en x]).map bo), .row 9 1 (.slice j.2.2.2.2.2.2.2.2.2.2.1 (i + 1) j.2.2.2.2.2.2.2.2.2.2.2) (i + 1) ((fs ++ [(cTr SF.sq SG.sq).fi x]).map sv)] w w') := by
 obtain ⟨hb1F, hb2F, hb3F, hb4F⟩ := hvF.bnd
 obtain ⟨hloF, hleF, hlfF⟩ := hvF.lens
 have hnsF : 0 < SF.rs.length → SF.na.isSome = true := fun h => hSF.now.n.isSome (j := 0) (by rw [List.length_map]; exact h)
 have hosF : 0 < SF.os.length → SF.oa.isSome = true := fun h => hSF.now.o.isSome (j := 0) (by rw [List.length_map]; exact h)
 have hesF : 0 < SF.en.length → SF.ea.isSome = true := fun h => hSF.now.e.isSome (j := 0) (by rw [List.length_map]; exact h)
 have hfsF : 0 < SF.fi.length → SF.fa.isSome = true := fun h => hSF.now.f.isSome (j := 0) (by rw [List.length_map]; exact h)
 have hrsF : ∀ q, q < SF.rs.length → 0 < (SF.rs.getD q rx0).xs.length → (SF.rs.getD q rx0).a.isSome = true := fun q hq h => (hSF.now.r _ (getDm hq)).isSome (j := 0) (by rw [List.length_map]; exact h)
 have husF : ∀ q, q < SF.os.length → 0 < (SF.os.getD q rx0).xs.length → (SF.os.getD q rx0).a.isSome = true := fun q hq h => (hSF.now.u _ (getDm hq)).isSome (j := 0) (by rw [List.length_map]; exact h)
 obtain ⟨hb1G, hb2G, hb3G, hb4G⟩ := hvG.bnd
 obtain ⟨hloG, hleG, hlfG⟩ := hvG.lens
 have hnsG : 0 < SG.rs.length → SG.na.isSome = true := fun h => hSG.now.n.isSome (j := 0) (by rw [List.length_map]; exact h)
 have hosG : 0 < SG.os.length → SG.oa.isSome = true := fun h => hSG.now.o.isSome (j := 0) (by rw [List.length_map]; exact h)
 have hesG : 0 < SG.en.length → SG.ea.isSome = true := fun h => hSG.now.e.isSome (j := 0) (by rw [List.length_map]; exact h)
 have hfsG : 0 < SG.fi.length → SG.fa.isSome = true := fun h => hSG.now.f.isSome (j := 0) (by rw [List.length_map]; exact h)
 have hrsG : ∀ q, q < SG.rs.length → 0 < (SG.rs.getD q rx0).xs.length → (SG.rs.getD q rx0).a.isSome = true := fun q hq h => (hSG.now.r _ (getDm hq)).isSome (j := 0) (by rw [List.length_map]; exact h)
 have husG : ∀ q, q < SG.os.length → 0 < (SG.os.getD q rx0).xs.length → (SG.os.getD q rx0).a.isSome = true := fun q hq h => (hSG.now.u _ (getDm hq)).isSome (j := 0) (by rw [List.length_map]; exact h)
 have hxa : x.1 < SF.sq.n ∧ x.2 < SG.sq.n := by rw [hx]; exact cTr_all hvF hvG ho hp0 _ _ (getDm hilt)
 have hq1 : x.1 < SF.rs.length := by rw [← SF.n_eq]; exact hxa.1
 have hp2 : x.2 < SG.rs.length := by rw [← SG.n_eq]; exact hxa.2
 have hrl := hvF.rlen hq1
 have hol := hvF.olen hq1
 have hMN1 : M * N ≤ 4096 := by omega
 have hlenB : ∀ k, (bfsP (cTr SF.sq SG.sq).to SF.L (SF.s, p0) k).length ≤ 511 := fun k => Nat.le_trans (cTr_len hvF hvG ho hp0 k) hFG
 have hi5 : i ≤ 511 := by have := hlenB (i * SF.L); omega
 have hcpE : CpI (cTr SF.sq SG.sq).to (cTr SF.sq SG.sq) SF.L (SF.s, p0) (bfsP (cTr SF.sq SG.sq).to SF.L (SF.s, p0) (i * SF.L + SF.L)) i rs os es fs := by
  obtain ⟨t2, ht2⟩ := bfsP_pre (st := (cTr SF.sq SG.sq).to) (L := SF.L) (s := (SF.s, p0)) (i * SF.L) SF.L
  rw [ht2]; exact hcp.grow
 have hxE : (bfsP (cTr SF.sq SG.sq).to SF.L (SF.s, p0) (i * SF.L + SF.L)).getD i (SF.s, p0) = x := by
  obtain ⟨t2, ht2⟩ := bfsP_pre (st := (cTr SF.sq SG.sq).to) (L := SF.L) (s := (SF.s, p0)) (i * SF.L) SF.L
  rw [ht2, getD_grow hilt, ← hx]
 have hiE : i < (bfsP (cTr SF.sq SG.sq).to SF.L (SF.s, p0) (i * SF.L + SF.L)).length := by
  obtain ⟨t2, ht2⟩ := bfsP_pre (st := (cTr SF.sq SG.sq).to) (L := SF.L) (s := (SF.s, p0)) (i * SF.L) SF.L
  rw [ht2, List.length_append]; omega
 refine enterX (args := [.pointer (some ⟨b, 0, none⟩), kp x]) hpre 180 Try.func44 rfl rfl rfl ?_
 refine CT.seq ?_
 refine CT.region ?_
 refine Wl.g rfl rfl (OpG.box (size := 2) rfl rfl rfl) ?_
 rintro b3 _
 refine Wl.nil ?_
 refine PX.then_n ?_
 refine CT.seq ?_
 refine CT.region ?_
 refine Wl.q rfl rfl (OpQ.move rfl) ?_
 refine Wl.q rfl rfl (OpQ.nilCheckP rfl) ?_
 refine Wl.q rfl rfl (OpQ.fieldAddr RX_fa78_0 rfl) ?_
 refine Wl.q rfl rfl (OpQ.fieldAddr RX_fa30_0 rfl) ?_
 refine Wl.know 20 rfl (add_ptr _ _ _) ?_
 refine Wl.q rfl rfl (OpQ.loadF (b := b) RX_sc3 rfl (by repeat (first | exact Has.here | apply Has.there)) (by rfl)) ?_
 refine Wl.g rfl rfl (OpG.callX RX_go37 rfl .nil (fun _ => (.cons (.cons .nil))) (fun w hH hp => row_spec w SF.L hb2F)) ?_
 rintro ⟨b14, b15⟩ _
 refine Wl.q rfl rfl (OpQ.move rfl) ?_
 refine Wl.q rfl rfl (OpQ.extract rfl rfl) ?_
 refine Wl.know 23 (v' := .slice (some ⟨b14, 0, none⟩) SF.L SF.L) rfl rfl ?_
 refine Wl.q rfl rfl (OpQ.extract rfl rfl) ?_
 refine Wl.know 24 (v' := .slice (some ⟨b15, 0, none⟩) SF.L SF.L) rfl rfl ?_
 refine Wl.q rfl rfl (OpQ.assign rfl) ?_
 refine Wl.q rfl rfl (OpQ.assign rfl) ?_
 refine Wl.nil ?_
 refine PX.then_n ?_
 refine CT.seq ?_
 refine CT.seq ?_
 refine CT.draw 11 RX_mixed ?_
 refine RA.q 0 (by kernel_rfl) rfl rfl rfl (.refl _) (OpQ.move rfl) ?_
 refine RA.q 1 (by kernel_rfl) rfl rfl rfl (.refl _) (OpQ.nilCheckP rfl) ?_
 refine RA.q 2 (by kernel_rfl) rfl rfl rfl (.refl _) (OpQ.fieldAddr RX_fa78_0 rfl) ?_
 refine RA.q 3 (by kernel_rfl) rfl rfl rfl (.refl _) (OpQ.fieldAddr RX_fa30_3 rfl) ?_
 refine RA.know 28 rfl (add_ptr _ _ _) ?_
 refine RA.q 4 (by kernel_rfl) rfl rfl rfl (.refl _) (OpQ.loadF (b := b) RX_sc25 rfl (by repeat (first | exact Has.here | apply Has.there)) (by rfl)) ?_
 refine RA.q 5 (by kernel_rfl) rfl rfl rfl (.refl _) (OpQ.fieldAddr RX_fa82_0 rfl) ?_
 refine RA.q 6 (by kernel_rfl) rfl rfl rfl (.refl _) (OpQ.loadF (b := b3) RX_sc3 rfl (by repeat (first | exact Has.here | apply Has.there)) (by rfl)) ?_
 refine RA.q 7 (by kernel_rfl) rfl rfl rfl (.refl _) (OpQ.index1 RX_un25 RX_sz22 rfl rfl (by omega) (hnsF (by omega))) ?_
 refine RA.q 8 (by kernel_rfl) rfl rfl rfl (.refl _) (OpQ.loadG RX_sc22 rfl (fun w hH => (hH.use hSF).n) (getMap rxv SF.rs rx0 (j := x.1) (by omega))) ?_
 refine RA.q 9 (by kernel_rfl) rfl rfl rfl (.refl _) (OpQ.len RX_un22 rfl) ?_
 refine RA.know 34 (v' := .int .i64 ((SF.L : Nat) : Int)) rfl (congrArg (Value.int .i64) (by rw [hrl])) ?_
 refine RA.q 10 (by kernel_rfl) rfl rfl rfl (.refl _) (OpQ.move rfl) ?_
 refine RA.tail ?_
 refine RT.done (by kernel_rfl) ?_
 refine PX.then_n ?_
 refine CT.block ?_
 refine CT.loop (ι := Nat × Option Addr × Nat × List (Option Nat) × List Wd) (fun (y, a, c, ns, ws) => y ≤ SF.L ∧ RowP (cTr SF.sq SG.sq).to SF.L (bfsP (cTr SF.sq SG.sq).to SF.L (SF.s, p0) (i * SF.L + y)) x y ns ∧ OutP (cTr SF.sq SG.sq).to (cTr SF.sq SG.sq) SF.L x y ws) (fun (y, a, c, ns, ws) => [(0, .pointer (some ⟨b, 0, none⟩)), (3, .pointer (some ⟨b3, 0, none⟩)), (4, .slice (some ⟨b14, 0, none⟩) SF.L SF.L), (5, .slice (some ⟨b15, 0, none⟩) SF.L SF.L), (33, rxv (SF.rs.getD x.1 rx0)), (34, .int .i64 ((SF.L : Nat) : Int)), (35, .int .i64 ((y : Nat) : Int))]) (fun (y, a, c, ns, ws) => [.row 3 1 (.slice (some ⟨b14, 0, none⟩) SF.L SF.L) SF.L (ns.map zo), .row 9 1 (.slice (some ⟨b15, 0, none⟩) SF.L SF.L) SF.L (ws.map sv), .row 82 2 (vb b3) 1 [zn x.1, zn x.2], .row 78 24 (vb b) 1 [zn SF.L, zn SF.s, sv SF.init, .slice SF.na SF.rs.length SF.nc, .slice SF.oa SF.os.length SF.oc, .slice SF.ea SF.en.length SF.ec, .slice SF.fa SF.fi.length SF.fc, zn SG.L, zn SG.s, sv SG.init, .slice SG.na SG.rs.length SG.nc, .slice SG.oa SG.os.length SG.oc, .slice SG.ea SG.en.length SG.ec, .slice SG.fa SG.fi.length SG.fc, zn SF.L, .int .i64 0, sv hi, .slice na' i nc', .slice oa' i oc', .slice ea' i ec', .slice fa' i fc', .slice a (bfsP (cTr SF.sq SG.sq).to SF.L (SF.s, p0) (i * SF.L + y)).length c, .map (some m), .bool true], .row 82 2 (.slice a (bfsP (cTr SF.sq SG.sq).to SF.L (SF.s, p0) (i * SF.L + y)).length c) (bfsP (cTr SF.sq SG.sq).to SF.L (SF.s, p0) (i * SF.L + y)).length ((bfsP (cTr SF.sq SG.sq).to SF.L (SF.s, p0) (i * SF.L + y)).flatMap stv), .blk m (mapO kp (itA 0 (bfsP (cTr SF.sq SG.sq).to SF.L (SF.s, p0) (i * SF.L + y)))), .row 22 1 (.slice na' i nc') i (rs.map rxv), .row 28 1 (.slice oa' i oc') i (os.map rxv), .row 4 1 (.slice ea' i ec') i (es.map bo), .row 9 1 (.slice fa' i fc') i (fs.map sv)]) (fun (y, a, c, ns, ws) => SF.L - y) (0, a, c, List.replicate SF.L none, List.replicate SF.L []) ⟨Nat.zero_le _, RowP.start _ _, OutP.start _⟩ ⟨rfl, rfl, rfl, rfl, rfl, rfl, rfl, trivial⟩ (HSub.refl _) (fun ⟨y, a, c, ns, ws⟩ ⟨hy, hrp, hop⟩ K0 hK0 => ?_)
 dsimp only
 refine CT.seq ?_
 refine CT.region ?_
 refine Wl.q rfl rfl (OpQ.lss rfl rfl) ?_
 refine Wl.nil ?_
 refine PX.then_n ?_
 refine CT.seq ?_
 refine CT.cond rfl (fun h36 => ?_) (fun h36 => ?_)
 ·
  have h36 := of_decide_eq_true h36
  have hyL : y < SF.L := by omega
  have hlx := hlenB (i * SF.L + y)
  refine CT.skip ?_
  refine PX.then_n ?_
  refine CT.seq ?_
  refine CT.block ?_
  refine CT.seq ?_
  refine CT.region ?_
  refine Wl.q rfl rfl (OpQ.move rfl) ?_
  refine Wl.q rfl rfl (OpQ.index1 RX_un22 RX_sz3 rfl rfl (by omega) (hrsF x.1 (by omega) (by omega))) ?_
  refine Wl.q rfl rfl (OpQ.loadG RX_sc3 rfl (fun w hH => (hH.use hSF).r _ (getDm (show x.1 < SF.rs.length by omega))) (getMap zo (SF.rs.getD x.1 rx0).xs none (j := y) (by omega))) ?_
  refine Wl.know 39 (v' := zo (SF.sq.to x.1 y)) rfl (congrArg zo (SF.to_eq x.1 y).symm) ?_
  refine Wl.q rfl rfl (OpQ.assign rfl) ?_
  refine Wl.q rfl rfl (OpQ.assign rfl) ?_
  refine Wl.nil ?_
  refine PX.then_n ?_
  refine CT.seq ?_
  refine CT.seq ?_
  refine CT.region ?_
  refine Wl.q rfl rfl (OpQ.move rfl) ?_
  refine Wl.q rfl rfl (OpQ.eql rfl rfl) ?_
  refine Wl.nil ?_
  refine PX.then_n ?_
  refine CT.cond rfl (fun h41 => ?_) (fun h41 => ?_)
  ·
   have h41 := of_decide_eq_true h41
   have hst : (cTr SF.sq SG.sq).to x y = none := cTo_none (p := x.2) (oi_neg.1 h41)
   have hls : (bfsP (cTr SF.sq SG.sq).to SF.L (SF.s, p0) (i * SF.L + (y + 1))) = (bfsP (cTr SF.sq SG.sq).to SF.L (SF.s, p0) (i * SF.L + y)) := by rw [show i * SF.L + (y + 1) = i * SF.L + y + 1 from rfl, bfsP_addx hyL hilt, ← hx, hst]; rfl
   refine CT.exit ?_
   refine PX.then_x ?_
   refine PX.block_x ?_
   refine PX.then_n ?_
   refine CT.region ?_
   refine Wl.q rfl rfl (OpQ.add rfl rfl (by omega)) ?_
   refine Wl.q rfl rfl (OpQ.move rfl) ?_
   refine Wl.nil ?_
   exact PX.loop hK0 (y + 1, a, c, ns, ws) ⟨by omega, by rw [hls]; exact hrp.keep hst, hop.keep hst⟩ (show SF.L - (y + 1) < SF.L - y by omega) ⟨rfl, rfl, rfl, rfl, rfl, rfl, rfl, trivial⟩ (by dsimp only; rw [hls]; exact HSub.refl _)
  ·
   have h41 := of_decide_eq_false h41
   obtain ⟨s, hto⟩ := oi_some h41
   refine CT.know 7 (v' := zn s) rfl (by rw [hto]; rfl) ?_
   refine CT.skip ?_
   refine PX.then_n ?_
   refine CT.seq ?_
   refine CT.draw 26 RX_mixed ?_
   refine RA.q 0 (by kernel_rfl) rfl rfl rfl (.refl _) (OpQ.move rfl) ?_
   refine RA.q 1 (by kernel_rfl) rfl rfl rfl (.refl _) (OpQ.nilCheckP rfl) ?_
   refine RA.q 2 (by kernel_rfl) rfl rfl rfl (.refl _) (OpQ.fieldAddr RX_fa78_1 rfl) ?_
   refine RA.q 3 (by kernel_rfl) rfl rfl rfl (.refl _) (OpQ.loadFA (b := b) (cs := [zn SG.L, zn SG.s, sv SG.init, .slice SG.na SG.rs.length SG.nc, .slice SG.oa SG.os.length SG.oc, .slice SG.ea SG.en.length SG.ec, .slice SG.fa SG.fi.length SG.fc]) RX_ag30 RX_sz30 rfl (by repeat (first | exact Has.here | apply Has.there)) (fun k v hk => cells_at (A := [zn SF.L, zn SF.s, sv SF.init, .slice SF.na SF.rs.length SF.nc, .slice SF.oa SF.os.length SF.oc, .slice SF.ea SF.en.length SF.ec, .slice SF.fa SF.fi.length SF.fc]) (B := [zn SG.L, zn SG.s, sv SG.init, .slice SG.na SG.rs.length SG.nc, .slice SG.oa SG.os.length SG.oc, .slice SG.ea SG.en.length SG.ec, .slice SG.fa SG.fi.length SG.fc]) (C := [zn SF.L, .int .i64 0, sv hi, .slice na' i nc', .slice oa' i oc', .slice ea' i ec', .slice fa' i fc', .slice a (bfsP (cTr SF.sq SG.sq).to SF.L (SF.s, p0) (i * SF.L + y)).length c, .map (some m), .bool true]) hk)) ?_
   refine RA.know 46 (v' := svv SG) rfl rfl ?_
   refine RA.q 4 (by kernel_rfl) rfl rfl rfl (.refl _) (OpQ.fieldAddr RX_fa82_1 rfl) ?_
   refine RA.q 5 (by kernel_rfl) rfl rfl rfl (.refl _) (OpQ.loadF (b := b3) RX_sc3 rfl (by repeat (first | exact Has.here | apply Has.there)) (by rfl)) ?_
   refine RA.q 6 (by kernel_rfl) rfl rfl rfl (.refl _) (OpQ.move rfl) ?_
   refine RA.q 7 (by kernel_rfl) rfl rfl rfl (.refl _) (OpQ.nilCheckP rfl) ?_
   refine RA.q 8 (by kernel_rfl) rfl rfl rfl (.refl _) (OpQ.fieldAddr RX_fa78_0 rfl) ?_
   refine RA.q 9 (by kernel_rfl) rfl rfl rfl (.refl _) (OpQ.fieldAddr RX_fa30_4 rfl) ?_
   refine RA.know 52 rfl (add_ptr _ _ _) ?_
   refine RA.q 10 (by kernel_rfl) rfl rfl rfl (.refl _) (OpQ.loadF (b := b) RX_sc26 rfl (by repeat (first | exact Has.here | apply Has.there)) (by rfl)) ?_
   refine RA.q 11 (by kernel_rfl) rfl rfl rfl (.refl _) (OpQ.fieldAddr RX_fa82_0 rfl) ?_
   refine RA.q 12 (by kernel_rfl) rfl rfl rfl (.refl _) (OpQ.loadF (b := b3) RX_sc3 rfl (by repeat (first | exact Has.here | apply Has.there)) (by rfl)) ?_
   refine RA.q 13 (by kernel_rfl) rfl rfl rfl (.refl _) (OpQ.index1 RX_un26 RX_sz28 rfl rfl (by omega) (hosF (by omega))) ?_
   refine RA.q 14 (by kernel_rfl) rfl rfl rfl (.refl _) (OpQ.loadG RX_sc28 rfl (fun w hH => (hH.use hSF).o) (getMap rxv SF.os rx0 (j := x.1) (by omega))) ?_
   refine RA.q 15 (by kernel_rfl) rfl rfl rfl (.refl _) (OpQ.move rfl) ?_
   refine RA.q 16 (by kernel_rfl) rfl rfl rfl (.refl _) (OpQ.index1 RX_un28 RX_sz9 rfl rfl (by omega) (husF x.1 (by omega) (by omega))) ?_
   refine RA.q 17 (by kernel_rfl) rfl rfl rfl (.refl _) (OpQ.loadG RX_sc9 rfl (fun w hH => (hH.use hSF).u _ (getDm (show x.1 < SF.os.length by omega))) (getMap sv (SF.os.getD x.1 rx0).xs [] (j := y) (by omega))) ?_
   refine RA.know 60 (v' := sv (SF.sq.o x.1 y)) rfl (congrArg sv (SF.o_eq x.1 y).symm) ?_
   refine RA.f 18 (by kernel_rfl) rfl rfl rfl (OpG.callV RX_go40 rfl (fun w hH => follow_spec w SG (hH.stays0 hSG) hvG x.2 hp2 (SF.sq.o x.1 y) (hvF.to' x.1 y hxa.1 (show y < SF.sq.L from hyL)) (ho.o x.1 y hxa.1 (show y < SF.sq.L from hyL)) hMN1 (by have := (hvF.to' x.1 y hxa.1 (show y < SF.sq.L from hyL)).1; omega))) (fun _ _ => (.refl _)) ?_
   rintro _ _
   refine RA.q 19 (by kernel_rfl) rfl rfl rfl (.refl _) (OpQ.move rfl) ?_
   refine RA.q 20 (by kernel_rfl) rfl rfl rfl (.refl _) (OpQ.extract rfl rfl) ?_
   refine RA.q 21 (by kernel_rfl) rfl rfl rfl (.refl _) (OpQ.extract rfl rfl) ?_
   refine RA.q 22 (by kernel_rfl) rfl rfl rfl (.refl _) (OpQ.extract rfl rfl) ?_
   refine RA.q 23 (by kernel_rfl) rfl rfl rfl (.refl _) (OpQ.assign rfl) ?_
   refine RA.q 24 (by kernel_rfl) rfl rfl rfl (.refl _) (OpQ.assign rfl) ?_
   refine RA.q 25 (by kernel_rfl) rfl rfl rfl (.refl _) (OpQ.assign rfl) ?_
   refine RA.tail ?_
   refine RT.done (by kernel_rfl) ?_
   refine PX.then_n ?_
   refine CT.seq ?_
   refine CT.region ?_
   refine Wl.q rfl rfl (OpQ.move rfl) ?_
   refine Wl.nil ?_
   refine PX.then_n ?_
   refine CT.cond rfl (fun h65 => ?_) (fun h65 => ?_)
   ·
    obtain ⟨r, hr⟩ := flw_t h65
    refine CT.know 8 (v' := zn r.1) rfl (by rw [hr]; rfl) ?_
    refine CT.know 9 (v' := sv r.2) rfl (by rw [hr]; rfl) ?_
    have hst : (cTr SF.sq SG.sq).to x y = some (s, r.1) := cTo_some hto hr
    obtain ⟨hr1, hr2, _⟩ := cTr_run hvF hvG ho hxa.1 hxa.2 (show y < SF.sq.L from hyL) hr
    have hls : (bfsP (cTr SF.sq SG.sq).to SF.L (SF.s, p0) (i * SF.L + (y + 1))) = (addN (bfsP (cTr SF.sq SG.sq).to SF.L (SF.s, p0) (i * SF.L + y)) (s, r.1)).1 := by rw [show i * SF.L + (y + 1) = i * SF.L + y + 1 from rfl, bfsP_addx hyL hilt, ← hx, hst, addN_addO]
    refine CT.seq ?_
    refine CT.region ?_
    refine Wl.q rfl rfl (OpQ.move rfl) ?_
    refine Wl.q rfl rfl (OpQ.move rfl) ?_
    refine Wl.q rfl rfl (OpQ.move rfl) ?_
    refine Wl.q rfl rfl (OpQ.move rfl) ?_
    refine Wl.q rfl rfl (OpQ.move rfl) ?_
    refine Wl.q rfl rfl (OpQ.build (cells := #[zn s, zn r.1]) RX_pl82 rfl rfl) ?_
    refine Wl.know 71 (v' := kp (s, r.1)) rfl rfl ?_
    refine Wl.g rfl rfl (OpG.callX RX_go43 rfl (.cons (.there (.there (.there .here))) (.cons (.there (.there (.there .here))) (.cons (.there (.there (.there .here))) .nil))) (fun _ => (.cons (.cons (.cons .nil)))) (fun w hH hp => cadd_spec w b m SF SG (zn SF.L) (.int .i64 0) (sv hi) (.slice na' i nc') (.slice oa' i oc') (.slice ea' i ec') (.slice fa' i fc') (bfsP (cTr SF.sq SG.sq).to SF.L (SF.s, p0) (i * SF.L + y)) a c hp (by omega) (s, r.1))) ?_
    rintro ⟨a72, c72⟩ _
    refine Wl.know 72 (v' := zo (some (addN (bfsP (cTr SF.sq SG.sq).to SF.L (SF.s, p0) (i * SF.L + y)) (s, r.1)).2)) rfl rfl ?_
    refine Wl.q rfl rfl (OpQ.index1 RX_un22 RX_sz3 rfl rfl (by omega) rfl) ?_
    refine Wl.g rfl rfl (OpG.storeRow RX_sz3 rfl rfl rfl (.there (.there (.there .here))) (by rw [List.length_map, hrp.len]; exact hyL)) ?_
    rintro _ _
    refine Wl.nil ?_
    refine PX.then_n ?_
    refine CT.region ?_
    refine Wl.q rfl rfl (OpQ.move rfl) ?_
    refine Wl.q rfl rfl (OpQ.move rfl) ?_
    refine Wl.q rfl rfl (OpQ.move rfl) ?_
    refine Wl.q rfl rfl (OpQ.move rfl) ?_
    refine Wl.g rfl rfl (OpG.callV RX_go42 rfl (fun w hH => cwritten_spec w _ r.2 [] (by have := hr2.1; simp only [List.length_nil]; omega))) ?_
    rintro _ _
    refine Wl.know 78 (v' := sv r.2) rfl (by rw [List.append_nil]) ?_
    refine Wl.q rfl rfl (OpQ.index1 RX_un28 RX_sz9 rfl rfl (by omega) rfl) ?_
    refine Wl.g rfl rfl (OpG.storeRow RX_sz9 rfl rfl rfl (.there (.there (.there (.there .here)))) (by rw [List.length_map, hop.len]; exact hyL)) ?_
    rintro _ _
    refine Wl.nil ?_
    refine PX.block_n ?_
    refine PX.then_n ?_
    refine CT.region ?_
    refine Wl.q rfl rfl (OpQ.add rfl rfl (by omega)) ?_
    refine Wl.q rfl rfl (OpQ.move rfl) ?_
    refine Wl.nil ?_
    refine PX.as (fun _ h => h.take (.cons (.there (.there (.there .here))) (.cons (.there (.there (.there .here))) (.cons (.there (.there (.there .here))) (.cons .here (.cons .here (.cons .here (.cons .here (.cons .here (.cons .here (.cons .here .nil))))))))))) ?_
    exact PX.loop hK0 (y + 1, a72, c72, ns.set y (some (addN (bfsP (cTr SF.sq SG.sq).to SF.L (SF.s, p0) (i * SF.L + y)) (s, r.1)).2), ws.set y r.2) ⟨by omega, by rw [hls]; exact hrp.add hyL hst, by rw [show r.2 = (cTr SF.sq SG.sq).ou x y from (cOu_some (p := x.2) hr).symm]; exact hop.put hyL hst⟩ (show SF.L - (y + 1) < SF.L - y by omega) ⟨rfl, rfl, rfl, rfl, rfl, rfl, rfl, trivial⟩ (.keep (row_eq (by rw [List.map_set]; rfl)) (.keep (row_eq (by rw [List.map_set]; rfl)) (by dsimp only; rw [hls]; exact HSub.refl _)))
   ·
    have hr := flw_f h65
    have hst : (cTr SF.sq SG.sq).to x y = none := cTo_dead hto hr
    have hls : (bfsP (cTr SF.sq SG.sq).to SF.L (SF.s, p0) (i * SF.L + (y + 1))) = (bfsP (cTr SF.sq SG.sq).to SF.L (SF.s, p0) (i * SF.L + y)) := by rw [show i * SF.L + (y + 1) = i * SF.L + y + 1 from rfl, bfsP_addx hyL hilt, ← hx, hst]; rfl
    refine CT.skip ?_
    refine PX.block_n ?_
    refine PX.then_n ?_
    refine CT.region ?_
    refine Wl.q rfl rfl (OpQ.add rfl rfl (by omega)) ?_
    refine Wl.q rfl rfl (OpQ.move rfl) ?_
    refine Wl.nil ?_
    exact PX.loop hK0 (y + 1, a, c, ns, ws) ⟨by omega, by rw [hls]; exact hrp.keep hst, hop.keep hst⟩ (show SF.L - (y + 1) < SF.L - y by omega) ⟨rfl, rfl, rfl, rfl, rfl, rfl, rfl, trivial⟩ (by dsimp only; rw [hls]; exact HSub.refl _)
 ·
  have h36 := of_decide_eq_false h36
  obtain rfl : y = SF.L := by omega
  have hrow := hrp.done
  have how := hop.done
  have hnsl : ns.length = SF.L := hrp.len
  have hwsl : ws.length = SF.L := hop.len
  refine CT.exit ?_
  refine PX.then_x ?_
  refine PX.then_x ?_
  refine PX.block_x ?_
  refine PX.then_n ?_
  refine CT.seq ?_
  refine CT.region ?_
  refine Wl.q rfl rfl (OpQ.assign rfl) ?_
  refine Wl.q rfl rfl (OpQ.assign rfl) ?_
  refine Wl.nil ?_
  refine PX.then_n ?_
  refine CT.cut (ι := Unit) (Φ := fun _ => True) (E' := fun _ => [(0, .pointer (some ⟨b, 0, none⟩)), (4, .slice (some ⟨b14, 0, none⟩) SF.L SF.L), (5, .slice (some ⟨b15, 0, none⟩) SF.L SF.L), (11, .bool ((cTr SF.sq SG.sq).en x)), (12, sv ((cTr SF.sq SG.sq).fi x))]) (H' := fun _ => [.row 3 1 (.slice (some ⟨b14, 0, none⟩) SF.L SF.L) SF.L (ns.map zo), .row 9 1 (.slice (some ⟨b15, 0, none⟩) SF.L SF.L) SF.L (ws.map sv), .row 82 2 (vb b3) 1 [zn x.1, zn x.2], .row 78 24 (vb b) 1 [zn SF.L, zn SF.s, sv SF.init, .slice SF.na SF.rs.length SF.nc, .slice SF.oa SF.os.length SF.oc, .slice SF.ea SF.en.length SF.ec, .slice SF.fa SF.fi.length SF.fc, zn SG.L, zn SG.s, sv SG.init, .slice SG.na SG.rs.length SG.nc, .slice SG.oa SG.os.length SG.oc, .slice SG.ea SG.en.length SG.ec, .slice SG.fa SG.fi.length SG.fc, zn SF.L, .int .i64 0, sv hi, .slice na' i nc', .slice oa' i oc', .slice ea' i ec', .slice fa' i fc', .slice a (bfsP (cTr SF.sq SG.sq).to SF.L (SF.s, p0) (i * SF.L + SF.L)).length c, .map (some m), .bool true], .row 82 2 (.slice a (bfsP (cTr SF.sq SG.sq).to SF.L (SF.s, p0) (i * SF.L + SF.L)).length c) (bfsP (cTr SF.sq SG.sq).to SF.L (SF.s, p0) (i * SF.L + SF.L)).length ((bfsP (cTr SF.sq SG.sq).to SF.L (SF.s, p0) (i * SF.L + SF.L)).flatMap stv), .blk m (mapO kp (itA 0 (bfsP (cTr SF.sq SG.sq).to SF.L (SF.s, p0) (i * SF.L + SF.L)))), .row 22 1 (.slice na' i nc') i (rs.map rxv), .row 28 1 (.slice oa' i oc') i (os.map rxv), .row 4 1 (.slice ea' i ec') i (es.map bo), .row 9 1 (.slice fa' i fc') i (fs.map sv)]) (fun K1 hK1 => ?_) (fun _ _ => ?_)
  ·
   refine CT.seq ?_
   refine CT.draw 9 RX_mixed ?_
   refine RA.q 0 (by kernel_rfl) rfl rfl rfl (.refl _) (OpQ.move rfl) ?_
   refine RA.q 1 (by kernel_rfl) rfl rfl rfl (.refl _) (OpQ.nilCheckP rfl) ?_
   refine RA.q 2 (by kernel_rfl) rfl rfl rfl (.refl _) (OpQ.fieldAddr RX_fa78_0 rfl) ?_
   refine RA.q 3 (by kernel_rfl) rfl rfl rfl (.refl _) (OpQ.fieldAddr RX_fa30_5 rfl) ?_
   refine RA.know 84 rfl (add_ptr _ _ _) ?_
   refine RA.q 4 (by kernel_rfl) rfl rfl rfl (.refl _) (OpQ.loadF (b := b) RX_sc27 rfl (by repeat (first | exact Has.here | apply Has.there)) (by rfl)) ?_
   refine RA.q 5 (by kernel_rfl) rfl rfl rfl (.refl _) (OpQ.fieldAddr RX_fa82_0 rfl) ?_
   refine RA.q 6 (by kernel_rfl) rfl rfl rfl (.refl _) (OpQ.loadF (b := b3) RX_sc3 rfl (by repeat (first | exact Has.here | apply Has.there)) (by rfl)) ?_
   refine RA.q 7 (by kernel_rfl) rfl rfl rfl (.refl _) (OpQ.index1 RX_un27 RX_sz4 rfl rfl (by omega) (hesF (by omega))) ?_
   refine RA.q 8 (by kernel_rfl) rfl rfl rfl (.refl _) (OpQ.loadG RX_sc4 rfl (fun w hH => (hH.use hSF).e) (getMap bo SF.en false (j := x.1) (by omega))) ?_
   refine RA.know 89 (v' := .bool (SF.sq.e x.1)) rfl rfl ?_
   refine RA.tail ?_
   refine RT.done (by kernel_rfl) ?_
   refine PX.then_n ?_
   refine CT.cond rfl (fun h89 => ?_) (fun h89 => ?_)
   ·
    refine CT.seq ?_
    refine CT.draw 23 RX_mixed ?_
    refine RA.q 0 (by kernel_rfl) rfl rfl rfl (.refl _) (OpQ.move rfl) ?_
    refine RA.q 1 (by kernel_rfl) rfl rfl rfl (.refl _) (OpQ.nilCheckP rfl) ?_
    refine RA.q 2 (by kernel_rfl) rfl rfl rfl (.refl _) (OpQ.fieldAddr RX_fa78_1 rfl) ?_
    refine RA.q 3 (by kernel_rfl) rfl rfl rfl (.refl _) (OpQ.loadFA (b := b) (cs := [zn SG.L, zn SG.s, sv SG.init, .slice SG.na SG.rs.length SG.nc, .slice SG.oa SG.os.length SG.oc, .slice SG.ea SG.en.length SG.ec, .slice SG.fa SG.fi.length SG.fc]) RX_ag30 RX_sz30 rfl (by repeat (first | exact Has.here | apply Has.there)) (fun k v hk => cells_at (A := [zn SF.L, zn SF.s, sv SF.init, .slice SF.na SF.rs.length SF.nc, .slice SF.oa SF.os.length SF.oc, .slice SF.ea SF.en.length SF.ec, .slice SF.fa SF.fi.length SF.fc]) (B := [zn SG.L, zn SG.s, sv SG.init, .slice SG.na SG.rs.length SG.nc, .slice SG.oa SG.os.length SG.oc, .slice SG.ea SG.en.length SG.ec, .slice SG.fa SG.fi.length SG.fc]) (C := [zn SF.L, .int .i64 0, sv hi, .slice na' i nc', .slice oa' i oc', .slice ea' i ec', .slice fa' i fc', .slice a (bfsP (cTr SF.sq SG.sq).to SF.L (SF.s, p0) (i * SF.L + SF.L)).length c, .map (some m), .bool true]) hk)) ?_
    refine RA.know 94 (v' := svv SG) rfl rfl ?_
    refine RA.q 4 (by kernel_rfl) rfl rfl rfl (.refl _) (OpQ.fieldAddr RX_fa82_1 rfl) ?_
    refine RA.q 5 (by kernel_rfl) rfl rfl rfl (.refl _) (OpQ.loadF (b := b3) RX_sc3 rfl (by repeat (first | exact Has.here | apply Has.there)) (by rfl)) ?_
    refine RA.q 6 (by kernel_rfl) rfl rfl rfl (.refl _) (OpQ.move rfl) ?_
    refine RA.q 7 (by kernel_rfl) rfl rfl rfl (.refl _) (OpQ.nilCheckP rfl) ?_
    refine RA.q 8 (by kernel_rfl) rfl rfl rfl (.refl _) (OpQ.fieldAddr RX_fa78_0 rfl) ?_
    refine RA.q 9 (by kernel_rfl) rfl rfl rfl (.refl _) (OpQ.fieldAddr RX_fa30_6 rfl) ?_
    refine RA.know 100 rfl (add_ptr _ _ _) ?_
    refine RA.q 10 (by kernel_rfl) rfl rfl rfl (.refl _) (OpQ.loadF (b := b) RX_sc28 rfl (by repeat (first | exact Has.here | apply Has.there)) (by rfl)) ?_
    refine RA.q 11 (by kernel_rfl) rfl rfl rfl (.refl _) (OpQ.fieldAddr RX_fa82_0 rfl) ?_
    refine RA.q 12 (by kernel_rfl) rfl rfl rfl (.refl _) (OpQ.loadF (b := b3) RX_sc3 rfl (by repeat (first | exact Has.here | apply Has.there)) (by rfl)) ?_
    refine RA.q 13 (by kernel_rfl) rfl rfl rfl (.refl _) (OpQ.index1 RX_un28 RX_sz9 rfl rfl (by omega) (hfsF (by omega))) ?_
    refine RA.q 14 (by kernel_rfl) rfl rfl rfl (.refl _) (OpQ.loadG RX_sc9 rfl (fun w hH => (hH.use hSF).f) (getMap sv SF.fi [] (j := x.1) (by omega))) ?_
    refine RA.know 105 (v' := sv (SF.sq.f x.1)) rfl rfl ?_
    refine RA.f 15 (by kernel_rfl) rfl rfl rfl (OpG.callV RX_go40 rfl (fun w hH => follow_spec w SG (hH.stays0 hSG) hvG x.2 hp2 (SF.sq.f x.1) (hvF.tf x.1 hxa.1) (ho.f x.1 hxa.1) hMN1 (by have := (hvF.tf x.1 hxa.1).1; omega))) (fun _ _ => (.refl _)) ?_
    rintro _ _
    refine RA.q 16 (by kernel_rfl) rfl rfl rfl (.refl _) (OpQ.move rfl) ?_
    refine RA.q 17 (by kernel_rfl) rfl rfl rfl (.refl _) (OpQ.extract rfl rfl) ?_
    refine RA.q 18 (by kernel_rfl) rfl rfl rfl (.refl _) (OpQ.extract rfl rfl) ?_
    refine RA.q 19 (by kernel_rfl) rfl rfl rfl (.refl _) (OpQ.extract rfl rfl) ?_
    refine RA.q 20 (by kernel_rfl) rfl rfl rfl (.refl _) (OpQ.assign rfl) ?_
    refine RA.q 21 (by kernel_rfl) rfl rfl rfl (.refl _) (OpQ.assign rfl) ?_
    refine RA.q 22 (by kernel_rfl) rfl rfl rfl (.refl _) (OpQ.assign rfl) ?_
    refine RA.tail ?_
    refine RT.done (by kernel_rfl) ?_
    refine PX.then_n ?_
    refine CT.seq ?_
    refine CT.region ?_
    refine Wl.q rfl rfl (OpQ.move rfl) ?_
    refine Wl.q rfl rfl (OpQ.move rfl) ?_
    refine Wl.split 111 rfl (fun hg111 => ?_) (fun hg111 => ?_)
    ·
     obtain ⟨r, hr⟩ := flw_t hg111
     refine Wl.know 13 (v' := zn r.1) rfl (by rw [hr]; rfl) ?_
     refine Wl.know 14 (v' := sv r.2) rfl (by rw [hr]; rfl) ?_
     obtain ⟨hr1, hr2, _⟩ := cTr_runF hvF hvG ho hxa.1 hxa.2 hr
     have hr1n : r.1 < SG.rs.length := by rw [← SG.n_eq]; exact hr1
     refine Wl.q rfl rfl (OpQ.move rfl) ?_
     refine Wl.q rfl rfl (OpQ.nilCheckP rfl) ?_
     refine Wl.q rfl rfl (OpQ.fieldAddr RX_fa78_1 rfl) ?_
     refine Wl.q rfl rfl (OpQ.fieldAddr RX_fa30_5 rfl) ?_
     refine Wl.know 115 rfl (add_ptr _ _ _) ?_
     refine Wl.q rfl rfl (OpQ.loadF (b := b) RX_sc27 rfl (by repeat (first | exact Has.here | apply Has.there)) (by rfl)) ?_
     refine Wl.q rfl rfl (OpQ.move rfl) ?_
     refine Wl.q rfl rfl (OpQ.index1 RX_un27 RX_sz4 rfl rfl (by omega) (hesG (by omega))) ?_
     refine Wl.q rfl rfl (OpQ.loadG RX_sc4 rfl (fun w hH => (hH.use hSG).e) (getMap bo SG.en false (j := r.1) (by omega))) ?_
     refine Wl.know 119 (v' := .bool (SG.sq.e r.1)) rfl rfl ?_
     refine Wl.q rfl rfl (OpQ.pickT rfl rfl) ?_
     refine Wl.nil ?_
     refine PX.then_n ?_
     refine CT.cond rfl (fun h120 => ?_) (fun h120 => ?_)
     ·
      have hE : (cTr SF.sq SG.sq).en x = true ∧ (cTr SF.sq SG.sq).fi x = r.2 ++ SG.sq.f r.1 := cEn_some h89 hr h120
      refine CT.region ?_
      refine Wl.q rfl rfl (OpQ.move rfl) ?_
      refine Wl.q rfl rfl (OpQ.move rfl) ?_
      refine Wl.q rfl rfl (OpQ.move rfl) ?_
      refine Wl.q rfl rfl (OpQ.nilCheckP rfl) ?_
      refine Wl.q rfl rfl (OpQ.fieldAddr RX_fa78_1 rfl) ?_
      refine Wl.q rfl rfl (OpQ.fieldAddr RX_fa30_6 rfl) ?_
      refine Wl.know 126 rfl (add_ptr _ _ _) ?_
      refine Wl.q rfl rfl (OpQ.loadF (b := b) RX_sc28 rfl (by repeat (first | exact Has.here | apply Has.there)) (by rfl)) ?_
      refine Wl.q rfl rfl (OpQ.move rfl) ?_
      refine Wl.q rfl rfl (OpQ.index1 RX_un28 RX_sz9 rfl rfl (by omega) (hfsG (by omega))) ?_
      refine Wl.q rfl rfl (OpQ.loadG RX_sc9 rfl (fun w hH => (hH.use hSG).f) (getMap sv SG.fi [] (j := r.1) (by omega))) ?_
      refine Wl.know 130 (v' := sv (SG.sq.f r.1)) rfl rfl ?_
      refine Wl.g rfl rfl (OpG.callV RX_go42 rfl (fun w hH => cwritten_spec w _ r.2 (SG.sq.f r.1) (by have := hr2.1; have := (hvG.tf r.1 hr1).1; omega))) ?_
      rintro _ _
      refine Wl.q rfl rfl (OpQ.assign rfl) ?_
      refine Wl.q rfl rfl (OpQ.assign rfl) ?_
      refine Wl.nil ?_
      exact PX.cut hK1 () trivial ⟨rfl, rfl, rfl, (lkV rfl (congrArg Value.bool hE.1.symm)), (lkV rfl (congrArg sv hE.2.symm)), trivial⟩ (HSub.refl _)
     ·
      have hE : (cTr SF.sq SG.sq).en x = false ∧ (cTr SF.sq SG.sq).fi x = [] := cEn_no hr h120
      refine CT.skip ?_
      exact PX.cut hK1 () trivial ⟨rfl, rfl, rfl, (lkV rfl (congrArg Value.bool hE.1.symm)), (lkV rfl (congrArg sv hE.2.symm)), trivial⟩ (HSub.refl _)
    ·
     have hE : (cTr SF.sq SG.sq).en x = false ∧ (cTr SF.sq SG.sq).fi x = [] := cEn_dead (flw_f hg111)
     refine Wl.skip rfl rfl ?_
     refine Wl.skip rfl rfl ?_
     refine Wl.skip rfl rfl ?_
     refine Wl.skip rfl rfl ?_
     refine Wl.skip rfl rfl ?_
     refine Wl.skip rfl rfl ?_
     refine Wl.skip rfl rfl ?_
     refine Wl.skip rfl rfl ?_
     refine Wl.q rfl rfl (OpQ.pickF rfl rfl) ?_
     refine Wl.nil ?_
     refine PX.then_n ?_
     refine CT.condF rfl ?_
     refine CT.skip ?_
     exact PX.cut hK1 () trivial ⟨rfl, rfl, rfl, (lkV rfl (congrArg Value.bool hE.1.symm)), (lkV rfl (congrArg sv hE.2.symm)), trivial⟩ (HSub.refl _)
   ·
    have hE : (cTr SF.sq SG.sq).en x = false ∧ (cTr SF.sq SG.sq).fi x = [] := cEn_f (p := x.2) h89
    refine CT.skip ?_
    exact PX.cut hK1 () trivial ⟨rfl, rfl, rfl, (lkV rfl (congrArg Value.bool hE.1.symm)), (lkV rfl (congrArg sv hE.2.symm)), trivial⟩ (HSub.refl _)
  ·
   refine CT.seq ?_
   refine CT.region ?_
   refine Wl.q rfl rfl (OpQ.move rfl) ?_
   refine Wl.q rfl rfl (OpQ.move rfl) ?_
   refine Wl.q rfl rfl (OpQ.nilCheckP rfl) ?_
   refine Wl.q rfl rfl (OpQ.fieldAddr RX_fa78_2 rfl) ?_
   refine Wl.q rfl rfl (OpQ.fieldAddr RX_fa30_3 rfl) ?_
   refine Wl.know 136 rfl (add_ptr _ _ _) ?_
   refine Wl.q rfl rfl (OpQ.loadF (b := b) RX_sc25 rfl (by repeat (first | exact Has.here | apply Has.there)) (by rfl)) ?_
   refine Wl.q rfl rfl (OpQ.move rfl) ?_
   refine Wl.g rfl rfl (OpG.lit1 RX_un25 RX_in22 rfl rfl rfl) ?_
   rintro b139 _
   refine Wl.g rfl rfl (OpG.append RX_un25 RX_in22 (by rfl) (by decide) rfl rfl (p := 7) rfl (fun w hH => hH.rd .here) ⟨rfl, (by simp [Value.oneCell']), (by omega), (by omega)⟩ (nm := (i + 1)) rfl (all := (rs ++ [(⟨some ⟨b14, 0, none⟩, SF.L, ns⟩ : Rx (Option Nat))]).map rxv) (by rw [List.map_append, List.map_singleton, show rxv (⟨some ⟨b14, 0, none⟩, SF.L, ns⟩ : Rx (Option Nat)) = .slice (some ⟨b14, 0, none⟩) SF.L SF.L from by show Value.slice _ ns.length _ = _; rw [hnsl]])) ?_
   rintro ⟨a140, c140⟩ h140
   refine Wl.q rfl rfl (OpQ.nilCheckP rfl) ?_
   refine Wl.q rfl rfl (OpQ.fieldAddr RX_fa78_2 rfl) ?_
   refine Wl.q rfl rfl (OpQ.fieldAddr RX_fa30_3 rfl) ?_
   refine Wl.know 143 rfl (add_ptr _ _ _) ?_
   refine Wl.g rfl rfl (OpG.storeRow (a := some ⟨b, 0, none⟩) RX_sz25 rfl rfl rfl (by repeat (first | exact Upd.here | apply Upd.there)) (by simp)) ?_
   rintro _ _
   refine Wl.nil ?_
   refine PX.then_n ?_
   refine CT.seq ?_
   refine CT.region ?_
   refine Wl.q rfl rfl (OpQ.move rfl) ?_
   refine Wl.q rfl rfl (OpQ.move rfl) ?_
   refine Wl.q rfl rfl (OpQ.nilCheckP rfl) ?_
   refine Wl.q rfl rfl (OpQ.fieldAddr RX_fa78_2 rfl) ?_
   refine Wl.q rfl rfl (OpQ.fieldAddr RX_fa30_4 rfl) ?_
   refine Wl.know 148 rfl (add_ptr _ _ _) ?_
   refine Wl.q rfl rfl (OpQ.loadF (b := b) RX_sc26 rfl (by repeat (first | exact Has.here | apply Has.there)) (by rfl)) ?_
   refine Wl.q rfl rfl (OpQ.move rfl) ?_
   refine Wl.g rfl rfl (OpG.lit1 RX_un26 RX_in28 rfl rfl rfl) ?_
   rintro b151 _
   refine Wl.g rfl rfl (OpG.append RX_un26 RX_in28 (by rfl) (by decide) rfl rfl (p := 9) rfl (fun w hH => hH.rd .here) ⟨rfl, (by simp [Value.oneCell']), (by omega), (by omega)⟩ (nm := (i + 1)) rfl (all := (os ++ [(⟨some ⟨b15, 0, none⟩, SF.L, ws⟩ : Rx Wd)]).map rxv) (by rw [List.map_append, List.map_singleton, show rxv (⟨some ⟨b15, 0, none⟩, SF.L, ws⟩ : Rx Wd) = .slice (some ⟨b15, 0, none⟩) SF.L SF.L from by show Value.slice _ ws.length _ = _; rw [hwsl]])) ?_
   rintro ⟨a152, c152⟩ h152
   refine Wl.q rfl rfl (OpQ.nilCheckP rfl) ?_
   refine Wl.q rfl rfl (OpQ.fieldAddr RX_fa78_2 rfl) ?_
   refine Wl.q rfl rfl (OpQ.fieldAddr RX_fa30_4 rfl) ?_
   refine Wl.know 155 rfl (add_ptr _ _ _) ?_
   refine Wl.g rfl rfl (OpG.storeRow (a := some ⟨b, 0, none⟩) RX_sz26 rfl rfl rfl (by repeat (first | exact Upd.here | apply Upd.there)) (by simp)) ?_
   rintro _ _
   refine Wl.nil ?_
   refine PX.then_n ?_
   refine CT.seq ?_
   refine CT.region ?_
   refine Wl.q rfl rfl (OpQ.move rfl) ?_
   refine Wl.q rfl rfl (OpQ.move rfl) ?_
   refine Wl.q rfl rfl (OpQ.nilCheckP rfl) ?_
   refine Wl.q rfl rfl (OpQ.fieldAddr RX_fa78_2 rfl) ?_
   refine Wl.q rfl rfl (OpQ.fieldAddr RX_fa30_5 rfl) ?_
   refine Wl.know 160 rfl (add_ptr _ _ _) ?_
   refine Wl.q rfl rfl (OpQ.loadF (b := b) RX_sc27 rfl (by repeat (first | exact Has.here | apply Has.there)) (by rfl)) ?_
   refine Wl.q rfl rfl (OpQ.move rfl) ?_
   refine Wl.g rfl rfl (OpG.lit1 RX_un27 RX_in4 rfl rfl rfl) ?_
   rintro b163 _
   refine Wl.g rfl rfl (OpG.append RX_un27 RX_in4 (by rfl) (by decide) rfl rfl (p := 11) rfl (fun w hH => hH.rd .here) ⟨rfl, (by simp [Value.oneCell']), (by omega), (by omega)⟩ (nm := (i + 1)) rfl (all := (es ++ [(cTr SF.sq SG.sq).en x]).map bo) (by rw [List.map_append]; rfl)) ?_
   rintro ⟨a164, c164⟩ h164
   refine Wl.q rfl rfl (OpQ.nilCheckP rfl) ?_
   refine Wl.q rfl rfl (OpQ.fieldAddr RX_fa78_2 rfl) ?_
   refine Wl.q rfl rfl (OpQ.fieldAddr RX_fa30_5 rfl) ?_
   refine Wl.know 167 rfl (add_ptr _ _ _) ?_
   refine Wl.g rfl rfl (OpG.storeRow (a := some ⟨b, 0, none⟩) RX_sz27 rfl rfl rfl (by repeat (first | exact Upd.here | apply Upd.there)) (by simp)) ?_
   rintro _ _
   refine Wl.nil ?_
   refine PX.then_n ?_
   refine CT.region ?_
   refine Wl.q rfl rfl (OpQ.move rfl) ?_
   refine Wl.q rfl rfl (OpQ.move rfl) ?_
   refine Wl.q rfl rfl (OpQ.nilCheckP rfl) ?_
   refine Wl.q rfl rfl (OpQ.fieldAddr RX_fa78_2 rfl) ?_
   refine Wl.q rfl rfl (OpQ.fieldAddr RX_fa30_6 rfl) ?_
   refine Wl.know 172 rfl (add_ptr _ _ _) ?_
   refine Wl.q rfl rfl (OpQ.loadF (b := b) RX_sc28 rfl (by repeat (first | exact Has.here | apply Has.there)) (by rfl)) ?_
   refine Wl.q rfl rfl (OpQ.move rfl) ?_
   refine Wl.g rfl rfl (OpG.lit1 RX_un28 RX_in9 rfl rfl rfl) ?_
   rintro b175 _
   refine Wl.g rfl rfl (OpG.append RX_un28 RX_in9 (by rfl) (by decide) rfl rfl (p := 13) rfl (fun w hH => hH.rd .here) ⟨rfl, (by simp [Value.oneCell']), (by omega), (by omega)⟩ (nm := (i + 1)) rfl (all := (fs ++ [(cTr SF.sq SG.sq).fi x]).map sv) (by rw [List.map_append]; rfl)) ?_
   rintro ⟨a176, c176⟩ h176
   refine Wl.q rfl rfl (OpQ.nilCheckP rfl) ?_
   refine Wl.q rfl rfl (OpQ.fieldAddr RX_fa78_2 rfl) ?_
   refine Wl.q rfl rfl (OpQ.fieldAddr RX_fa30_6 rfl) ?_
   refine Wl.know 179 rfl (add_ptr _ _ _) ?_
   refine Wl.g rfl rfl (OpG.storeRow (a := some ⟨b, 0, none⟩) RX_sz28 rfl rfl rfl (by repeat (first | exact Upd.here | apply Upd.there)) (by simp)) ?_
   rintro _ _
   refine Wl.nil ?_
   refine PX.end0 rfl (fun w' hH => ?_)
   exact ⟨(a, c, (⟨some ⟨b14, 0, none⟩, SF.L, ns⟩ : Rx (Option Nat)), (⟨some ⟨b15, 0, none⟩, SF.L, ws⟩ : Rx Wd), a140, c140, a152, c152, a164, c164, a176, c176), hcpE.snoc hiE (by rw [hxE]; exact hrow) (by rw [hxE]; exact how) (by rw [hxE]) (by rw [hxE]), rfl, (hH.take (.cons (.there (.there (.there (.there .here)))) (.cons (.there (.there (.there (.there .here)))) (.cons (.there (.there (.there (.there (.there .here))))) (.cons (.there (.there (.there (.there (.there .here))))) (.cons (.there (.there (.there (.there (.there .here))))) (.cons (.there (.there (.there (.there (.there .here))))) (.cons (.there (.there (.there (.there (.there .here))))) (.cons (.there (.there (.there (.there (.there .here))))) (.cons (.there (.there (.there (.there (.there .here))))) .nil)))))))))).post.conv (.keep (by show Chunk.row _ _ (.slice _ ns.length _) ns.length _ = _; rw [hnsl]) (.keep (by show Chunk.row _ _ (.slice _ ws.length _) ws.length _ = _; rw [hwsl]) (HSub.refl _)))⟩

end Go.Proofs.Ytamolakhpcofhaa

