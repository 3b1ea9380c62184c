/-
  What functions of the program compute, each by its walk. Conditions: those that each theorem names.
-/
import Derived.Test.YtamolakhpcofhaaMod1
import Derived.Test.YtamolakhpcofhaaXE17
import Derived.Test.YtamolakhpcofhaaXE4
set_option linter.unusedSimpArgs false
namespace Go.Proofs.Ytamolakhpcofhaa
open Go Go.Eng Go.Am Go.Sq
open Go.Tp (zi)
open Go.Tl (mayL Wd okW okB bo)

theorem RR_sc25 : scalarB Try.prog 25 = some true := by kernel_rfl
theorem RR_fa30_3 : fieldB Try.prog 30 3 = some 3 := by kernel_rfl
theorem RR_un25 : Try.prog.underlying 25 = some (.slice 22) := by kernel_rfl
theorem RR_sz22 : sizeB Try.prog 22 = some 1 := by kernel_rfl
theorem RR_sc22 : scalarB Try.prog 22 = some true := by kernel_rfl
theorem RR_un22 : Try.prog.underlying 22 = some (.slice 3) := by kernel_rfl
theorem RR_sz3 : sizeB Try.prog 3 = some 1 := by kernel_rfl
theorem RR_sc3 : scalarB Try.prog 3 = some true := by kernel_rfl
set_option maxRecDepth 100000 in
/-- semigroup/sequential.Domain$1 -/
theorem dom1_spec (w : World) (S : Sv) (hS : Stays [] w (svm S)) (hv : S.sq.Ok 4096) (b : Nat) (hb : Stays [] w (fun w => Rd w (some ⟨b, 0, none⟩) (svc S))) (q0 : Int) (x : Nat) (hq0 : -1 ≤ q0 ∧ q0 < S.sq.n) (hx : x < S.L) : Calls Try.prog 68 #[zz q0, .int .i64 ((x : Nat) : Int), .pointer (some ⟨b, 0, none⟩)] w (fun e w' => e = .returned (zz (dmf S.sq q0 x)) ∧ Ext [] w w') := by
 obtain ⟨hb1, hb2, hb3, hb4⟩ := hv.bnd
 obtain ⟨hlo, hle, hlf⟩ := hv.lens
 have hns : 0 < S.rs.length → S.na.isSome = true := fun h => hS.now.n.isSome (j := 0) (by rw [List.length_map]; exact h)
 have hos : 0 < S.os.length → S.oa.isSome = true := fun h => hS.now.o.isSome (j := 0) (by rw [List.length_map]; exact h)
 have hes : 0 < S.en.length → S.ea.isSome = true := fun h => hS.now.e.isSome (j := 0) (by rw [List.length_map]; exact h)
 have hfs : 0 < S.fi.length → S.fa.isSome = true := fun h => hS.now.f.isSome (j := 0) (by rw [List.length_map]; exact h)
 have hrs : ∀ q, q < S.rs.length → 0 < (S.rs.getD q rx0).xs.length → (S.rs.getD q rx0).a.isSome = true := fun q hq h => (hS.now.r _ (getDm hq)).isSome (j := 0) (by rw [List.length_map]; exact h)
 have hus : ∀ q, q < S.os.length → 0 < (S.os.getD q rx0).xs.length → (S.os.getD q rx0).a.isSome = true := fun q hq h => (hS.now.u _ (getDm hq)).isSome (j := 0) (by rw [List.length_map]; exact h)
 refine enter (args := [zz q0, .int .i64 ((x : Nat) : Int), .pointer (some ⟨b, 0, none⟩)]) [] 27 Try.func68 rfl rfl rfl ?_
 refine CT.seq ?_
 refine CT.region ?_
 refine Wl.q rfl rfl (OpQ.assign rfl) ?_
 refine Wl.nil ?_
 refine PX.then_n ?_
 refine CT.seq ?_
 refine CT.seq ?_
 refine CT.region ?_
 refine Wl.q rfl rfl (OpQ.move rfl) ?_
 refine Wl.q rfl rfl (OpQ.eql rfl rfl) ?_
 refine Wl.q rfl rfl (OpQ.move rfl) ?_
 refine Wl.split 8 rfl (fun hg8 => ?_) (fun hg8 => ?_)
 ·
  have hg8 := of_decide_eq_true hg8
  subst hg8
  refine Wl.skip rfl rfl ?_
  refine Wl.skip rfl rfl ?_
  refine Wl.skip rfl rfl ?_
  refine Wl.skip rfl rfl ?_
  refine Wl.skip rfl rfl ?_
  refine Wl.skip rfl rfl ?_
  refine Wl.skip rfl rfl ?_
  refine Wl.skip rfl rfl ?_
  refine Wl.skip rfl rfl ?_
  refine Wl.q rfl rfl (OpQ.pickT rfl rfl) ?_
  refine Wl.nil ?_
  refine PX.then_n ?_
  refine CT.condT rfl ?_
  refine CT.seq ?_
  refine CT.region ?_
  refine Wl.q rfl rfl (OpQ.assign rfl) ?_
  refine Wl.nil ?_
  refine PX.then_n ?_
  refine CT.ret ?_
  refine PX.then_r ?_
  refine PX.ret1 rfl rfl (fun w' hH => ?_)
  exact ⟨by rw [dmf, if_pos rfl], hH.ext⟩
 ·
  have hg8 := of_decide_eq_false hg8
  obtain ⟨q, rfl⟩ : ∃ q : Nat, q0 = (q : Int) := ⟨q0.toNat, by omega⟩
  have hqn : q < S.sq.n := by omega
  have hqr : q < S.rs.length := by rw [← S.n_eq]; exact hqn
  have hrl := hv.rlen (q := q) (by omega)
  have hol := hv.olen (q := q) (by omega)
  refine Wl.q rfl rfl (OpQ.fieldAddr RR_fa30_3 rfl) ?_
  refine Wl.q rfl rfl (OpQ.loadG (a := some ⟨b, 0, none⟩) (j := 3) RR_sc25 rfl (fun w hH => hH.use hb) rfl) ?_
  refine Wl.q rfl rfl (OpQ.move rfl) ?_
  refine Wl.q rfl rfl (OpQ.index1 RR_un25 RR_sz22 rfl rfl (by omega) (hns (by omega))) ?_
  refine Wl.q rfl rfl (OpQ.loadG RR_sc22 rfl (fun w hH => (hH.use hS).n) (getMap rxv S.rs rx0 (j := q) (by omega))) ?_
  refine Wl.q rfl rfl (OpQ.move rfl) ?_
  refine Wl.q rfl rfl (OpQ.index1 RR_un22 RR_sz3 rfl rfl (by omega) (hrs q (by omega) (by omega))) ?_
  refine Wl.q rfl rfl (OpQ.loadG RR_sc3 rfl (fun w hH => (hH.use hS).r _ (getDm (show q < S.rs.length by omega))) (getMap zo (S.rs.getD q rx0).xs none (j := x) (by omega))) ?_
  refine Wl.know 16 (v' := zo (S.sq.to q x)) rfl (congrArg zo (S.to_eq q x).symm) ?_
  refine Wl.q rfl rfl (OpQ.eql rfl rfl) ?_
  refine Wl.q rfl rfl (OpQ.pickF rfl rfl) ?_
  refine Wl.nil ?_
  refine PX.then_n ?_
  refine CT.cond rfl (fun h18 => ?_) (fun h18 => ?_)
  ·
   have h18 := of_decide_eq_true h18
   refine CT.seq ?_
   refine CT.region ?_
   refine Wl.q rfl rfl (OpQ.assign rfl) ?_
   refine Wl.nil ?_
   refine PX.then_n ?_
   refine CT.ret ?_
   refine PX.then_r ?_
   refine PX.ret1 rfl rfl (fun w' hH => ?_)
   exact ⟨by rw [dmf, if_neg (by omega), Int.toNat_natCast, h18], hH.ext⟩
  ·
   have h18 := of_decide_eq_false h18
   refine CT.skip ?_
   refine PX.then_n ?_
   refine CT.seq ?_
   refine CT.region ?_
   refine Wl.q rfl rfl (OpQ.fieldAddr RR_fa30_3 rfl) ?_
   refine Wl.q rfl rfl (OpQ.loadG (a := some ⟨b, 0, none⟩) (j := 3) RR_sc25 rfl (fun w hH => hH.use hb) rfl) ?_
   refine Wl.q rfl rfl (OpQ.move rfl) ?_
   refine Wl.q rfl rfl (OpQ.index1 RR_un25 RR_sz22 rfl rfl (by omega) (hns (by omega))) ?_
   refine Wl.q rfl rfl (OpQ.loadG RR_sc22 rfl (fun w hH => (hH.use hS).n) (getMap rxv S.rs rx0 (j := q) (by omega))) ?_
   refine Wl.q rfl rfl (OpQ.move rfl) ?_
   refine Wl.q rfl rfl (OpQ.index1 RR_un22 RR_sz3 rfl rfl (by omega) (hrs q (by omega) (by omega))) ?_
   refine Wl.q rfl rfl (OpQ.loadG RR_sc3 rfl (fun w hH => (hH.use hS).r _ (getDm (show q < S.rs.length by omega))) (getMap zo (S.rs.getD q rx0).xs none (j := x) (by omega))) ?_
   refine Wl.know 26 (v' := zo (S.sq.to q x)) rfl (congrArg zo (S.to_eq q x).symm) ?_
   refine Wl.q rfl rfl (OpQ.assign rfl) ?_
   refine Wl.nil ?_
   refine PX.then_n ?_
   refine CT.ret ?_
   refine PX.ret1 rfl rfl (fun w' hH => ?_)
   exact ⟨by rw [dmf, if_neg (by omega), Int.toNat_natCast], hH.ext⟩

theorem RR_sc27 : scalarB Try.prog 27 = some true := by kernel_rfl
theorem RR_fa30_5 : fieldB Try.prog 30 5 = some 5 := by kernel_rfl
theorem RR_un27 : Try.prog.underlying 27 = some (.slice 4) := by kernel_rfl
theorem RR_sz4 : sizeB Try.prog 4 = some 1 := by kernel_rfl
theorem RR_sc4 : scalarB Try.prog 4 = some true := by kernel_rfl
set_option maxRecDepth 100000 in
/-- semigroup/sequential.Domain$2 -/
theorem dom2_spec (w : World) (S : Sv) (hS : Stays [] w (svm S)) (hv : S.sq.Ok 4096) (b : Nat) (hb : Stays [] w (fun w => Rd w (some ⟨b, 0, none⟩) (svc S))) (q0 : Int) (hq0 : -1 ≤ q0 ∧ q0 < S.sq.n) : Calls Try.prog 69 #[zz q0, .pointer (some ⟨b, 0, none⟩)] w (fun e w' => e = .returned (.bool (dme S.sq q0)) ∧ Ext [] w w') := by
 obtain ⟨hb1, hb2, hb3, hb4⟩ := hv.bnd
 obtain ⟨hlo, hle, hlf⟩ := hv.lens
 have hns : 0 < S.rs.length → S.na.isSome = true := fun h => hS.now.n.isSome (j := 0) (by rw [List.length_map]; exact h)
 have hos : 0 < S.os.length → S.oa.isSome = true := fun h => hS.now.o.isSome (j := 0) (by rw [List.length_map]; exact h)
 have hes : 0 < S.en.length → S.ea.isSome = true := fun h => hS.now.e.isSome (j := 0) (by rw [List.length_map]; exact h)
 have hfs : 0 < S.fi.length → S.fa.isSome = true := fun h => hS.now.f.isSome (j := 0) (by rw [List.length_map]; exact h)
 have hrs : ∀ q, q < S.rs.length → 0 < (S.rs.getD q rx0).xs.length → (S.rs.getD q rx0).a.isSome = true := fun q hq h => (hS.now.r _ (getDm hq)).isSome (j := 0) (by rw [List.length_map]; exact h)
 have hus : ∀ q, q < S.os.length → 0 < (S.os.getD q rx0).xs.length → (S.os.getD q rx0).a.isSome = true := fun q hq h => (hS.now.u _ (getDm hq)).isSome (j := 0) (by rw [List.length_map]; exact h)
 refine enter (args := [zz q0, .pointer (some ⟨b, 0, none⟩)]) [] 13 Try.func69 rfl rfl rfl ?_
 refine CT.seq ?_
 refine CT.region ?_
 refine Wl.q rfl rfl (OpQ.assign rfl) ?_
 refine Wl.nil ?_
 refine PX.then_n ?_
 refine CT.seq ?_
 refine CT.region ?_
 refine Wl.q rfl rfl (OpQ.move rfl) ?_
 refine Wl.q rfl rfl (OpQ.neq rfl rfl) ?_
 refine Wl.q rfl rfl (OpQ.move rfl) ?_
 refine Wl.split 6 rfl (fun hg6 => ?_) (fun hg6 => ?_)
 ·
  have hg6 := of_nd_t hg6
  obtain ⟨q, rfl⟩ : ∃ q : Nat, q0 = (q : Int) := ⟨q0.toNat, by omega⟩
  have hqn : q < S.sq.n := by omega
  have hqr : q < S.rs.length := by rw [← S.n_eq]; exact hqn
  refine Wl.q rfl rfl (OpQ.fieldAddr RR_fa30_5 rfl) ?_
  refine Wl.q rfl rfl (OpQ.loadG (a := some ⟨b, 0, none⟩) (j := 5) RR_sc27 rfl (fun w hH => hH.use hb) rfl) ?_
  refine Wl.q rfl rfl (OpQ.move rfl) ?_
  refine Wl.q rfl rfl (OpQ.index1 RR_un27 RR_sz4 rfl rfl (by omega) (hes (by omega))) ?_
  refine Wl.q rfl rfl (OpQ.loadG RR_sc4 rfl (fun w hH => (hH.use hS).e) (getMap bo S.en false (j := q) (by omega))) ?_
  refine Wl.know 11 (v' := .bool (S.sq.e q)) rfl rfl ?_
  refine Wl.q rfl rfl (OpQ.pickT rfl rfl) ?_
  refine Wl.q rfl rfl (OpQ.assign rfl) ?_
  refine Wl.nil ?_
  refine PX.then_n ?_
  refine CT.ret ?_
  refine PX.ret1 rfl rfl (fun w' hH => ?_)
  exact ⟨by rw [dme, Int.toNat_natCast, show decide ((q : Int) ≠ -1) = true from decide_eq_true (by omega), Bool.true_and], hH.ext⟩
 ·
  have hg6 := of_nd_f hg6
  subst hg6
  refine Wl.skip rfl rfl ?_
  refine Wl.skip rfl rfl ?_
  refine Wl.skip rfl rfl ?_
  refine Wl.skip rfl rfl ?_
  refine Wl.skip rfl rfl ?_
  refine Wl.q rfl rfl (OpQ.pickF rfl rfl) ?_
  refine Wl.q rfl rfl (OpQ.assign rfl) ?_
  refine Wl.nil ?_
  refine PX.then_n ?_
  refine CT.ret ?_
  refine PX.ret1 rfl rfl (fun w' hH => ?_)
  exact ⟨by rw [dme]; rfl, hH.ext⟩

theorem RR_go68 : isGo Try.prog 68 = true := by kernel_rfl
theorem RR_go69 : isGo Try.prog 69 = true := by kernel_rfl
theorem RR_in49 : (Try.prog.info? 49).map (fun i => (i.zero, i.size, i.bytes)) = some (some (.agg #[.int .i64 0, .int .i64 0, .slice none 0 0, .slice none 0 0]), 4, 64) := by kernel_rfl
theorem RR_ag30 : isAggB Try.prog 30 = some true := by kernel_rfl
theorem RR_sz30 : sizeB Try.prog 30 = some 7 := by kernel_rfl
theorem RR_go31 : isGo Try.prog 31 = true := by kernel_rfl
theorem RR_go32 : isGo Try.prog 32 = true := by kernel_rfl
theorem RR_in30 : (Try.prog.info? 30).map (fun i => (i.zero, i.size, i.bytes)) = some (some (.agg #[.int .i64 0, .int .i64 0, .string ⟨#[]⟩, .slice none 0 0, .slice none 0 0, .slice none 0 0, .slice none 0 0]), 7, 128) := by kernel_rfl
theorem RR_fa30_0 : fieldB Try.prog 30 0 = some 0 := by kernel_rfl
theorem RR_fa30_1 : fieldB Try.prog 30 1 = some 1 := by kernel_rfl
theorem RR_go62 : isGo Try.prog 62 = true := by kernel_rfl
theorem RR_go63 : isGo Try.prog 63 = true := by kernel_rfl
theorem RR_sz49 : sizeB Try.prog 49 = some 4 := by kernel_rfl
theorem RR_ag49 : isAggB Try.prog 49 = some true := by kernel_rfl
set_option maxRecDepth 100000 in
/-- semigroup/sequential.Domain -/
theorem domain_spec (w : World) (S : Sv) (hS : Stays [] w (svm S)) (hv : S.sq.Ok 4096) (h5 : S.rs.length ≤ 500) : Calls Try.prog 30 #[svv S] w (fun e w' => ∃ i : Dv × List Nat, (i.1.Ok ∧ i.1.fin.length ≤ 512 ∧ i.1.da.L = S.L ∧ ∀ ws, InW S.L ws → i.1.da.sy.acc i.1.da.s ws = (S.sq.value ws).isSome) ∧ e = .returned (.tuple #[dvv i.1, .int .i64 0]) ∧ Post [] [.frag i.2 (dvm i.1)] w w') := by
 obtain ⟨hb1, hb2, hb3, hb4⟩ := hv.bnd
 obtain ⟨hlo, hle, hlf⟩ := hv.lens
 have hns : 0 < S.rs.length → S.na.isSome = true := fun h => hS.now.n.isSome (j := 0) (by rw [List.length_map]; exact h)
 have hos : 0 < S.os.length → S.oa.isSome = true := fun h => hS.now.o.isSome (j := 0) (by rw [List.length_map]; exact h)
 have hes : 0 < S.en.length → S.ea.isSome = true := fun h => hS.now.e.isSome (j := 0) (by rw [List.length_map]; exact h)
 have hfs : 0 < S.fi.length → S.fa.isSome = true := fun h => hS.now.f.isSome (j := 0) (by rw [List.length_map]; exact h)
 have hrs : ∀ q, q < S.rs.length → 0 < (S.rs.getD q rx0).xs.length → (S.rs.getD q rx0).a.isSome = true := fun q hq h => (hS.now.r _ (getDm hq)).isSome (j := 0) (by rw [List.length_map]; exact h)
 have hus : ∀ q, q < S.os.length → 0 < (S.os.getD q rx0).xs.length → (S.os.getD q rx0).a.isSome = true := fun q hq h => (hS.now.u _ (getDm hq)).isSome (j := 0) (by rw [List.length_map]; exact h)
 refine enter (args := [svv S]) [] 35 Try.func30 rfl rfl rfl ?_
 refine CT.seq ?_
 refine CT.region ?_
 refine Wl.g rfl rfl (OpG.box (size := 7) rfl rfl rfl) ?_
 rintro b1 _
 refine Wl.g rfl rfl (OpG.alloc (zs := [.int .i64 0, .int .i64 0, .slice none 0 0, .slice none 0 0]) RR_in49 rfl rfl) ?_
 rintro b2 _
 refine Wl.q rfl rfl (OpQ.assign rfl) ?_
 refine Wl.nil ?_
 refine PX.then_n ?_
 refine CT.seq ?_
 refine CT.seq ?_
 refine CT.region ?_
 refine Wl.q rfl rfl (OpQ.loadV (b := b1) RR_ag30 RR_sz30 rfl (by repeat (first | exact Has.here | apply Has.there)) (by rfl)) ?_
 refine Wl.know 10 (v' := svv S) rfl rfl ?_
 refine Wl.g rfl rfl (OpG.callV RR_go31 rfl (fun w hH => svalid_spec w S (hH.stays0 hS) hv)) ?_
 rintro _ _
 refine Wl.q rfl rfl (OpQ.assign rfl) ?_
 refine Wl.nil ?_
 refine PX.then_n ?_
 refine CT.seq ?_
 refine CT.region ?_
 refine Wl.q rfl rfl (OpQ.move rfl) ?_
 refine Wl.q rfl rfl (OpQ.neq rfl rfl) ?_
 refine Wl.know 13 (v' := .bool false) rfl (congrArg Value.bool (by decide)) ?_
 refine Wl.nil ?_
 refine PX.then_n ?_
 refine CT.condF rfl ?_
 refine CT.skip ?_
 refine PX.then_n ?_
 refine CT.seq ?_
 refine CT.region ?_
 refine Wl.q rfl rfl (OpQ.loadV (b := b1) RR_ag30 RR_sz30 rfl (by repeat (first | exact Has.here | apply Has.there)) (by rfl)) ?_
 refine Wl.know 16 (v' := svv S) rfl rfl ?_
 refine Wl.g rfl rfl (OpG.callX RR_go32 rfl .nil (fun _ => (App.of _ _)) (fun w hH hp => strim_spec w S (hH.stays0 hS) hv)) ?_
 rintro G hG
 obtain ⟨hGo, hGn⟩ := IsTrim.ok hv hG
 have hGL : G.L = S.L := hG.L_eq
 have hSn := S.n_eq
 have hGL6 : 1 ≤ G.L ∧ G.L ≤ 6 := hGo.may
 refine Wl.as (fun _ h => HOk.bindL (L := svH G 3 22 4 9 28) (p := svm G) h (fun w hk => svm_of hk)) ?_
 generalize blks _ = fG
 refine Wl.g rfl rfl (OpG.alloc (zs := [.int .i64 0, .int .i64 0, .string ⟨#[]⟩, .slice none 0 0, .slice none 0 0, .slice none 0 0, .slice none 0 0]) RR_in30 rfl rfl) ?_
 rintro b5 _
 refine Wl.g rfl rfl (OpG.storeV (b := b5) RR_sz30 rfl rfl rfl rfl (by repeat (first | exact Upd.here | apply Upd.there))) ?_
 rintro _ _
 refine Wl.nil ?_
 refine PX.then_n ?_
 refine CT.seq ?_
 refine CT.region ?_
 refine Wl.q rfl rfl (OpQ.makeFunc rfl) ?_
 refine Wl.q rfl rfl (OpQ.assign rfl) ?_
 refine Wl.nil ?_
 refine PX.then_n ?_
 refine CT.seq ?_
 refine CT.region ?_
 refine Wl.q rfl rfl (OpQ.makeFunc rfl) ?_
 refine Wl.q rfl rfl (OpQ.assign rfl) ?_
 refine Wl.nil ?_
 refine PX.then_n ?_
 refine CT.seq ?_
 refine CT.region ?_
 refine Wl.q rfl rfl (OpQ.fieldAddr RR_fa30_0 rfl) ?_
 refine Wl.q rfl rfl (OpQ.loadF (b := b5) RR_sc3 rfl (by repeat (first | exact Has.here | apply Has.there)) (by rfl)) ?_
 refine Wl.q rfl rfl (OpQ.fieldAddr RR_fa30_1 rfl) ?_
 refine Wl.q rfl rfl (OpQ.loadF (b := b5) RR_sc3 rfl (by repeat (first | exact Has.here | apply Has.there)) (by rfl)) ?_
 refine Wl.q rfl rfl (OpQ.move rfl) ?_
 refine Wl.q rfl rfl (OpQ.move rfl) ?_
 refine Wl.g rfl rfl (OpG.callX RR_go62 rfl .nil (fun _ => (.cons (.cons (.cons .nil)))) (fun w hH hp => exploreQ_spec w G.L hGL6 (G.s : Int) (dmf G.sq) (dme G.sq) (fun q => -1 ≤ q ∧ q < G.sq.n) (fun k => dm_all hGo k) (fun k => Nat.le_trans (dm_len hGo k) (by omega)) 68 69 [.pointer (some ⟨b5, 0, none⟩)] [.pointer (some ⟨b5, 0, none⟩)] RR_go68 RR_go69 (fun w1 he q x hq hx => dom1_spec w1 G ((Stays.frag (hH.staysK0 (.there .here))).ext he) hGo b5 ((Stays.rd (hH.staysK0 .here)).ext he) q x hq hx) (fun w1 he q hq => dom2_spec w1 G ((Stays.frag (hH.staysK0 (.there .here))).ext he) hGo b5 ((Stays.rd (hH.staysK0 .here)).ext he) q hq))) ?_
 rintro ⟨K1, bm, na, nc, fa, fc⟩ hK1
 dsimp only at hK1
 have hdn : (autoD (dmf G.sq) G.L (G.s : Int) K1 (dme G.sq)).n ≤ 501 := by rw [autoD_n]; exact Nat.le_trans (dm_len hGo K1) (by omega)
 refine Wl.g rfl rfl (OpG.callX RR_go63 rfl .nil (fun _ => (.cons .nil)) (fun w hH hp => minimalT_spec w (autoD (dmf G.sq) G.L (G.s : Int) K1 (dme G.sq)) (autoD_ok hK1 _) hGL6 (by omega) bm na nc fa fc (Stays.rd (hH.staysK0 .here)) (Stays.rd (hH.staysK0 (.there .here))) (Stays.rd (hH.staysK0 (.there (.there .here)))) (fun c hc => Nat.le_trans (coarse_top hc) (by omega)) rfl)) ?_
 rintro ⟨D, bD⟩ hD
 dsimp only at hD
 obtain ⟨hDo, hDm⟩ := hD
 have hDn : D.fin.length ≤ 501 := Nat.le_trans (min_n (autoD_ok hK1 _) hDm) hdn
 refine Wl.q rfl rfl (OpQ.move rfl) ?_
 refine Wl.q rfl rfl (OpQ.extract rfl rfl) ?_
 refine Wl.know 29 (v' := dvv D) rfl rfl ?_
 refine Wl.q rfl rfl (OpQ.extract rfl rfl) ?_
 refine Wl.know 30 (v' := .bool true) rfl (congrArg Value.bool rfl) ?_
 refine Wl.g rfl rfl (OpG.alloc (zs := [.int .i64 0, .int .i64 0, .slice none 0 0, .slice none 0 0]) RR_in49 rfl rfl) ?_
 rintro b8 _
 refine Wl.g rfl rfl (OpG.storeV (b := b8) RR_sz49 rfl rfl rfl rfl (by repeat (first | exact Upd.here | apply Upd.there))) ?_
 rintro _ _
 refine Wl.q rfl rfl (OpQ.assign rfl) ?_
 refine Wl.nil ?_
 refine PX.then_n ?_
 refine CT.seq ?_
 refine CT.seq ?_
 refine CT.region ?_
 refine Wl.q rfl rfl (OpQ.move rfl) ?_
 refine Wl.q rfl rfl (OpQ.not rfl) ?_
 refine Wl.nil ?_
 refine PX.then_n ?_
 refine CT.condF rfl ?_
 refine CT.skip ?_
 refine PX.then_n ?_
 refine CT.seq ?_
 refine CT.region ?_
 refine Wl.q rfl rfl (OpQ.loadV (b := b8) RR_ag49 RR_sz49 rfl (by repeat (first | exact Has.here | apply Has.there)) (by rfl)) ?_
 refine Wl.know 34 (v' := dvv D) rfl rfl ?_
 refine Wl.g rfl rfl (OpG.storeV (b := b2) RR_sz49 rfl rfl rfl rfl (by repeat (first | exact Upd.here | apply Upd.there))) ?_
 rintro _ _
 refine Wl.q rfl rfl (OpQ.assign rfl) ?_
 refine Wl.nil ?_
 refine PX.then_n ?_
 refine CT.ret ?_
 refine PX.retC2 rfl rfl rfl (by repeat (first | exact Has.here | apply Has.there)) RR_ag49 RR_sz49 (by rfl) (fun w' hH => ?_)
 exact ⟨(D, bD), ⟨hDo, (show D.fin.length ≤ 512 by omega), hDm.letters.trans hGL, fun ws hws => dm_dom hG hK1 hDm hws⟩, rfl, (hH.take (.cons (.there .here) .nil)).post⟩

end Go.Proofs.Ytamolakhpcofhaa

