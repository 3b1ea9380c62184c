/-
  What functions of the program compute, each by its walk. Conditions: those that each theorem names.
-/
import Derived.Test.YtmggcdegekbncabGreatDoorMod
import Derived.Test.YtmggcdegekbncabGreatDoorXGB4
import Derived.Test.YtmggcdegekbncabGreatDoorXF
set_option linter.unusedSimpArgs false
namespace Go.Proofs.YtmggcdegekbncabGreatDoor
open Go Go.Eng Go.Am
open Go.Tp (zi)
open Go.Tl (mayL Wd okW okB bo)
theorem K5_in30 : (Tryz.prog.info? 30).map (fun i => (i.zero, i.size, i.bytes)) = some (some (.agg #[.int .i64 0, .int .i64 0, .slice none 0 0, .slice none 0 0]), 4, 64) := by kernel_rfl
theorem K5_ag30 : isAggB Tryz.prog 30 = some true := by kernel_rfl
theorem K5_sz30 : sizeB Tryz.prog 30 = some 4 := by kernel_rfl
theorem K5_go56 : isGo Tryz.prog 56 = true := by kernel_rfl
theorem K5_go57 : isGo Tryz.prog 57 = true := by kernel_rfl
theorem K5_fa30_0 : fieldB Tryz.prog 30 0 = some 0 := by kernel_rfl
theorem K5_sc3 : scalarB Tryz.prog 3 = some true := by kernel_rfl
theorem K5_pl30 : placesB Tryz.prog 30 = some (#[.int .i64 0, .int .i64 0, .slice none 0 0, .slice none 0 0], [(0, 1), (1, 1), (2, 1), (3, 1)]) := by kernel_rfl
theorem K5_un62 : Tryz.prog.underlying 62 = some (.slice 3) := by kernel_rfl
theorem K5_sz3 : sizeB Tryz.prog 3 = some 1 := by kernel_rfl
theorem K5_fa30_2 : fieldB Tryz.prog 30 2 = some 2 := by kernel_rfl
theorem K5_sc27 : scalarB Tryz.prog 27 = some true := by kernel_rfl
theorem K5_un27 : Tryz.prog.underlying 27 = some (.slice 4) := by kernel_rfl
theorem K5_in3 : (Tryz.prog.info? 3).map (fun i => (i.zero, i.size, i.bytes)) = some (some (.int .i64 0), 1, 8) := by kernel_rfl
theorem K5_fa30_3 : fieldB Tryz.prog 30 3 = some 3 := by kernel_rfl
theorem K5_sc28 : scalarB Tryz.prog 28 = some true := by kernel_rfl
theorem K5_un28 : Tryz.prog.underlying 28 = some (.slice 62) := by kernel_rfl
theorem K5_sz62 : sizeB Tryz.prog 62 = some 1 := by kernel_rfl
theorem K5_sc62 : scalarB Tryz.prog 62 = some true := by kernel_rfl
theorem K5_mixed : Tryz.prog.follows .mixedOrders = true := by kernel_rfl
theorem K5_sz4 : sizeB Tryz.prog 4 = some 1 := by kernel_rfl
theorem K5_sc4 : scalarB Tryz.prog 4 = some true := by kernel_rfl
theorem K5_in4 : (Tryz.prog.info? 4).map (fun i => (i.zero, i.size, i.bytes)) = some (some (.bool false), 1, 1) := by kernel_rfl
theorem K5_sz27 : sizeB Tryz.prog 27 = some 1 := by kernel_rfl
theorem K5_in62 : (Tryz.prog.info? 62).map (fun i => (i.zero, i.size, i.bytes)) = some (some (.slice none 0 0), 1, 24) := by kernel_rfl
theorem K5_sz28 : sizeB Tryz.prog 28 = some 1 := by kernel_rfl
set_option maxRecDepth 100000 in
/-- semigroup/minimize.minimal -/
theorem minimal_spec (w : World) (D : Dv) (hD : Stays [] w (dvm D)) (hv : D.Ok) (h5 : D.fin.length ≤ 512) : Calls Tryz.prog 30 #[dvv D] w (fun e w' => ∃ i : Dv × List Nat × List Int × Option Addr × Nat, (i.1.Ok ∧ IsMin D.da.L D.da.sy D.da.s i.1.da) ∧ e = .returned (.tuple #[dvv i.1, .slice i.2.2.2.1 D.fin.length i.2.2.2.2]) ∧ Post [] [.frag i.2.1 (dvm i.1), .row 3 1 (.slice i.2.2.2.1 D.fin.length i.2.2.2.2) D.fin.length (i.2.2.1.map zz)] w w') := by
 have hmv := hv.may
 have hn := h5
 have hst := hv.st
 refine enter (args := [dvv D]) [] 112 Tryz.func30 rfl rfl rfl ?_
 refine CT.seq (CT.region ?_)
 refine Wl.g rfl rfl (OpG.box (size := 4) rfl rfl rfl) ?_
 rintro b1 _
 refine Wl.g rfl rfl (OpG.alloc (zs := [.int .i64 0, .int .i64 0, .slice none 0 0, .slice none 0 0]) K5_in30 rfl rfl) ?_
 rintro b2 _
 refine Wl.q rfl rfl (OpQ.assign rfl) ?_
 refine Wl.nil (PX.then_n (CT.seq (CT.region ?_)))
 refine Wl.q rfl rfl (OpQ.loadV (b := b1) K5_ag30 K5_sz30 rfl (by repeat (first | exact Has.here | apply Has.there)) (by rfl)) ?_
 refine Wl.g rfl rfl (OpG.callX K5_go56 rfl .nil (fun _ => (.cons (.cons .nil))) (fun w hH hp => trim_spec w D (hH.stays0 hD) hv h5)) ?_
 rintro ⟨K, D2, bs, la, lc⟩ h20
 dsimp only at h20
 obtain ⟨hK, hIs⟩ := h20
 have hv2 := is2_ok hv hK hIs
 have hmv2 := hv2.may
 have hnn2 : D2.fin.length ≤ 512 := by rw [hIs.fin]; exact Nat.le_trans (Nat.le_of_eq (autoD_n _)) (Nat.le_trans (bfs_len hv.daOk hv.pos K) h5)
 have hst2 := hv2.st
 have hlen2 := hv2.len
 have hL2 : D.L = D2.L := by rw [hIs.L]; exact hv.L_eq
 have hn22 : D2.fin.length = (bfs D.da.to D.da.L D.da.s K).length := by rw [hIs.fin]; simp [autoD]
 refine Wl.q rfl rfl (OpQ.move rfl) ?_
 refine Wl.q rfl rfl (OpQ.extract rfl rfl) ?_
 refine Wl.know 21 (v' := dvv D2) rfl rfl ?_
 refine Wl.q rfl rfl (OpQ.extract rfl rfl) ?_
 refine Wl.know 22 (v' := .slice la D.fin.length lc) rfl rfl ?_
 refine Wl.g rfl rfl (OpG.alloc (zs := [.int .i64 0, .int .i64 0, .slice none 0 0, .slice none 0 0]) K5_in30 rfl rfl) ?_
 rintro b4 _
 refine Wl.g rfl rfl (OpG.storeV (b := b4) K5_sz30 rfl rfl rfl rfl (by repeat (first | exact Upd.here | apply Upd.there))) ?_
 rintro _ _
 refine Wl.q rfl rfl (OpQ.assign rfl) ?_
 refine Wl.nil (PX.then_n (CT.seq (CT.region ?_)))
 refine Wl.q rfl rfl (OpQ.loadV (b := b4) K5_ag30 K5_sz30 rfl (by repeat (first | exact Has.here | apply Has.there)) (by rfl)) ?_
 refine Wl.fact (p := D2.fa.isSome = true ∧ (0 < D2.rs.length → D2.na.isSome = true) ∧ ∀ q, q < D2.rs.length → 0 < (D2.rs.getD q rw0).xs.length → (D2.rs.getD q rw0).a.isSome = true) (fun w hH => ?_) (fun hD2s => ?_)
 ·
  have hm := hH.fragp (.there .here)
  exact ⟨hm.1.isSome (j := 0) (by rw [List.length_map]; exact (show 0 < D2.fin.length by omega)), fun h => hm.2.1.isSome (j := 0) (by rw [List.length_map]; exact h), fun q hq h => (hm.2.2 _ (getDm hq)).isSome (j := 0) (by rw [List.length_map]; exact h)⟩
 obtain ⟨hf2, hn2, hr2⟩ := hD2s
 refine Wl.g rfl rfl (OpG.callX K5_go57 rfl .nil (fun _ => (.cons .nil)) (fun w hH hp => classes_spec w D2 (Stays.frag (hH.staysK0 (.there .here))) hv2 hnn2)) ?_
 rintro ⟨c, ca, cc⟩ hc
 dsimp only at hc
 have hcl : c.length = D2.fin.length := hc.len
 refine Wl.know 24 (v' := .slice ca D2.fin.length cc) rfl rfl ?_
 refine Wl.q rfl rfl (OpQ.assign rfl) ?_
 refine Wl.nil (PX.then_n (CT.seq (CT.region ?_)))
 refine Wl.q rfl rfl (OpQ.fieldAddr K5_fa30_0 rfl) ?_
 refine Wl.q rfl rfl (OpQ.loadF (b := b1) K5_sc3 rfl (by repeat (first | exact Has.here | apply Has.there)) (by rfl)) ?_
 refine Wl.know 26 (v' := .int .i64 D2.L) rfl (congrArg (Value.int .i64) hL2) ?_
 refine Wl.q rfl rfl (OpQ.build (cells := #[_, .int .i64 0, .slice none 0 0, .slice none 0 0]) K5_pl30 rfl rfl) ?_
 refine Wl.g rfl rfl (OpG.alloc (zs := [.int .i64 0, .int .i64 0, .slice none 0 0, .slice none 0 0]) K5_in30 rfl rfl) ?_
 rintro b7 _
 refine Wl.g rfl rfl (OpG.storeV (b := b7) K5_sz30 rfl rfl rfl rfl (by repeat (first | exact Upd.here | apply Upd.there))) ?_
 rintro _ _
 refine Wl.nil (PX.then_n (CT.seq (CT.seq (CT.region ?_))))
 refine Wl.q rfl rfl (OpQ.move rfl) ?_
 refine Wl.q rfl rfl (OpQ.len K5_un62 rfl) ?_
 refine Wl.q rfl rfl (OpQ.move rfl) ?_
 refine Wl.nil (PX.then_n (CT.block ?_))
 refine CT.fact (p := ca.isSome = true) (fun w hH => (hH.rd (.there .here)).isSome (j := 0) (by rw [List.length_map]; exact (show 0 < c.length by omega))) (fun hca => ?_)
 refine CT.nilrow 4 1 ?_
 refine CT.nilrow 62 1 ?_
 refine CT.as (fun _ h => h.bind0 (p := rws []) (rws_nil)) ?_
 refine CT.as (fun _ h => h.take (.cons .here (.cons (.there .here) (.cons .here (.cons .here (.cons .here (.cons (.there .here) (.cons (.there .here) (.cons .here (.cons .here (.cons .here .nil))))))))))) ?_
 refine CT.loop (ι := Nat × Option Addr × Nat × List Bool × Option Addr × Nat × List Rw × List Nat) (fun (q, fa', fc', fl, na', nc', rs, bs2) => q ≤ D2.fin.length ∧ fl = (reps c q).map D2.da.fi ∧ rs.map (·.xs) = (reps c q).map fun p => castL (qrow D2.da c p)) (fun (q, fa', fc', fl, na', nc', rs, bs2) => [(1, .pointer (some ⟨b1, 0, none⟩)), (2, .pointer (some ⟨b2, 0, none⟩)), (4, .pointer (some ⟨b4, 0, none⟩)), (5, .slice la D.fin.length lc), (6, .slice ca D2.fin.length cc), (7, .pointer (some ⟨b7, 0, none⟩)), (28, .slice ca D2.fin.length cc), (29, .int .i64 ((D2.fin.length : Nat) : Int)), (30, .int .i64 ((q : Nat) : Int))]) (fun (q, fa', fc', fl, na', nc', rs, bs2) => [.frag bs2 (rws rs), .row 4 1 (.slice fa' fl.length fc') fl.length (fl.map bo), .row 62 1 (.slice na' rs.length nc') rs.length (rs.map rv), .row 30 4 (vb b7) 1 [.int .i64 D2.L, .int .i64 0, .slice fa' fl.length fc', .slice na' rs.length nc'], .row 3 1 (.slice ca D2.fin.length cc) D2.fin.length (c.map zn), .frag bs (dvm D2), .row 3 1 (.slice la D.fin.length lc) D.fin.length ((tabI D.fin.length (plc (bfs D.da.to D.da.L D.da.s K) (bfs D.da.to D.da.L D.da.s K).length)).map zz), .row 30 4 (vb b4) 1 (dvc D2), .row 30 4 (vb b2) 1 [.int .i64 0, .int .i64 0, .slice none 0 0, .slice none 0 0], .row 30 4 (vb b1) 1 (dvc D)]) (fun (q, fa', fc', fl, na', nc', rs, bs2) => D2.fin.length - q) (0, none, 0, [], none, 0, [], []) ⟨Nat.zero_le _, rfl, rfl⟩ ⟨rfl, rfl, rfl, rfl, rfl, rfl, rfl, rfl, rfl, trivial⟩ (HSub.refl _) (fun ⟨q, fa', fc', fl, na', nc', rs, bs2⟩ ⟨hq, hfl, hrs⟩ K0 hK0 => ?_)
 dsimp only
 have hfll : fl.length = topL (c.take q) := by rw [hfl, List.length_map, reps_len hc.fo (by omega)]
 have hrll : rs.length = topL (c.take q) := by have := congrArg List.length hrs; rwa [List.length_map, List.length_map, reps_len hc.fo (by omega)] at this
 have htq := fo_top_le hc.fo (q := q) (by omega)
 refine CT.seq (CT.region ?_)
 refine Wl.q rfl rfl (OpQ.lss rfl rfl) ?_
 refine Wl.nil (PX.then_n (CT.seq ?_))
 refine CT.cond rfl (fun h31 => ?_) (fun h31 => ?_)
 ·
  have h31 := of_decide_eq_true h31
  have hql : q < D2.fin.length := by omega
  have hrw2 := (hv2.row q hql).1
  have hLe2 := hv2.L_eq
  refine CT.skip (PX.then_n (CT.seq (CT.block (CT.seq (CT.region ?_)))))
  refine Wl.q rfl rfl (OpQ.move rfl) ?_
  refine Wl.q rfl rfl (OpQ.index1 K5_un62 K5_sz3 rfl rfl (by omega) hca) ?_
  refine Wl.q rfl rfl (OpQ.loadRow K5_sc3 rfl (.there (.there (.there (.there .here)))) (getMap zn c 0 (j := q) (by omega))) ?_
  refine Wl.q rfl rfl (OpQ.assign rfl) ?_
  refine Wl.q rfl rfl (OpQ.assign rfl) ?_
  refine Wl.nil (PX.then_n (CT.seq (CT.seq (CT.region ?_))))
  refine Wl.q rfl rfl (OpQ.move rfl) ?_
  refine Wl.q rfl rfl (OpQ.fieldAddr K5_fa30_2 rfl) ?_
  refine Wl.q rfl rfl (OpQ.loadF (b := b7) K5_sc27 rfl (by repeat (first | exact Has.here | apply Has.there)) (by rfl)) ?_
  refine Wl.q rfl rfl (OpQ.len K5_un27 rfl) ?_
  refine Wl.q rfl rfl (OpQ.lss rfl rfl) ?_
  refine Wl.nil (PX.then_n ?_)
  refine CT.cond rfl (fun h39 => ?_) (fun h39 => ?_)
  ·
   have h39 := of_decide_eq_true h39
   refine CT.exit (PX.then_x (PX.block_x (PX.then_n (CT.region ?_))))
   refine Wl.q rfl rfl (OpQ.add rfl rfl (by omega)) ?_
   refine Wl.q rfl rfl (OpQ.move rfl) ?_
   refine Wl.nil ?_
   exact PX.loop hK0 (q + 1, fa', fc', fl, na', nc', rs, bs2) ⟨by omega, by rw [reps_s (by omega)]; exact hfl, by rw [reps_s (by omega)]; exact hrs⟩ (show D2.fin.length - (q + 1) < D2.fin.length - q by omega) ⟨rfl, rfl, rfl, rfl, rfl, rfl, rfl, rfl, rfl, trivial⟩ (HSub.refl _)
  ·
   have h39 := of_decide_eq_false h39
   refine CT.skip (PX.then_n (CT.seq (CT.region ?_)))
   refine Wl.q rfl rfl (OpQ.fieldAddr K5_fa30_0 rfl) ?_
   refine Wl.q rfl rfl (OpQ.loadF (b := b1) K5_sc3 rfl (by repeat (first | exact Has.here | apply Has.there)) (by rfl)) ?_
   refine Wl.know 41 (v' := .int .i64 ((D2.da.L : Nat) : Int)) rfl (congrArg (Value.int .i64) (by rw [hL2]; exact hv2.L_eq)) ?_
   refine Wl.g rfl rfl (OpG.make1 K5_un62 K5_in3 rfl rfl rfl rfl (by have : D2.da.L ≤ 6 := (show D2.L.toNat ≤ 6 by omega); omega) (by have : D2.da.L ≤ 6 := (show D2.L.toNat ≤ 6 by omega); omega)) ?_
   rintro b42 _
   refine Wl.q rfl rfl (OpQ.assign rfl) ?_
   refine Wl.nil (PX.then_n (CT.seq (CT.seq (CT.region ?_))))
   refine Wl.q rfl rfl (OpQ.fieldAddr K5_fa30_3 rfl) ?_
   refine Wl.q rfl rfl (OpQ.loadF (b := b4) K5_sc28 rfl (by repeat (first | exact Has.here | apply Has.there)) (by rfl)) ?_
   refine Wl.q rfl rfl (OpQ.move rfl) ?_
   refine Wl.q rfl rfl (OpQ.index1 K5_un28 K5_sz62 rfl rfl (by omega) (hn2 (by omega))) ?_
   refine Wl.q rfl rfl (OpQ.loadG K5_sc62 rfl (fun w hH => (hH.fragp (.there (.there (.there (.there (.there (.there .here))))))).2.1) (getMap rv D2.rs rw0 (j := q) (by omega))) ?_
   refine Wl.q rfl rfl (OpQ.len K5_un62 rfl) ?_
   refine Wl.know 48 (v' := .int .i64 ((D2.da.L : Nat) : Int)) rfl (congrArg (Value.int .i64) (by omega)) ?_
   refine Wl.q rfl rfl (OpQ.move rfl) ?_
   refine Wl.nil (PX.then_n (CT.block ?_))
   refine CT.loop (ι := Nat) (fun x => x ≤ D2.da.L) (fun x => [(1, .pointer (some ⟨b1, 0, none⟩)), (2, .pointer (some ⟨b2, 0, none⟩)), (4, .pointer (some ⟨b4, 0, none⟩)), (5, .slice la D.fin.length lc), (6, .slice ca D2.fin.length cc), (7, .pointer (some ⟨b7, 0, none⟩)), (28, .slice ca D2.fin.length cc), (29, .int .i64 ((D2.fin.length : Nat) : Int)), (30, .int .i64 ((q : Nat) : Int)), (8, .int .i64 ((q : Nat) : Int)), (10, .slice (some ⟨b42, 0, none⟩) D2.da.L D2.da.L), (47, rv (D2.rs.getD q rw0)), (48, .int .i64 ((D2.da.L : Nat) : Int)), (49, .int .i64 ((x : Nat) : Int))]) (fun x => [.row 3 1 (.slice (some ⟨b42, 0, none⟩) D2.da.L D2.da.L) D2.da.L ((tabI D2.da.L (fun y => if y < x then ((c.getD (D2.da.to q y) 0 : Nat) : Int) else 0)).map zz), .frag bs2 (rws rs), .row 4 1 (.slice fa' fl.length fc') fl.length (fl.map bo), .row 62 1 (.slice na' rs.length nc') rs.length (rs.map rv), .row 30 4 (vb b7) 1 [.int .i64 D2.L, .int .i64 0, .slice fa' fl.length fc', .slice na' rs.length nc'], .row 3 1 (.slice ca D2.fin.length cc) D2.fin.length (c.map zn), .frag bs (dvm D2), .row 3 1 (.slice la D.fin.length lc) D.fin.length ((tabI D.fin.length (plc (bfs D.da.to D.da.L D.da.s K) (bfs D.da.to D.da.L D.da.s K).length)).map zz), .row 30 4 (vb b4) 1 (dvc D2), .row 30 4 (vb b2) 1 [.int .i64 0, .int .i64 0, .slice none 0 0, .slice none 0 0], .row 30 4 (vb b1) 1 (dvc D)]) (fun x => D2.da.L - x) 0 (Nat.zero_le _) ⟨rfl, rfl, rfl, rfl, rfl, rfl, rfl, rfl, rfl, rfl, rfl, rfl, rfl, rfl, trivial⟩ (.keep (row_eq (qrow_zero _ _ _).symm) (HSub.refl _)) (fun x hx K1 hK1 => ?_)
   refine CT.seq (CT.region ?_)
   refine Wl.q rfl rfl (OpQ.lss rfl rfl) ?_
   refine Wl.nil (PX.then_n (CT.seq ?_))
   refine CT.cond rfl (fun h50 => ?_) (fun h50 => ?_)
   ·
    have h50 := of_decide_eq_true h50
    have hxl : x < D2.da.L := by omega
    have hto := hv2.to (x := x) hql (by omega)
    have hton : D2.da.to q x < D2.fin.length := hv2.daOk.lt q x hql hxl
    refine CT.skip (PX.then_n (CT.seq (CT.block (CT.seq (CT.region ?_)))))
    refine Wl.q rfl rfl (OpQ.move rfl) ?_
    refine Wl.q rfl rfl (OpQ.index1 K5_un62 K5_sz3 rfl rfl (by omega) (hr2 q (by omega) (by omega))) ?_
    refine Wl.q rfl rfl (OpQ.loadG K5_sc3 rfl (fun w hH => (hH.fragp (.there (.there (.there (.there (.there (.there .here))))))).2.2 _ (getDm (show q < D2.rs.length by omega))) (getMap zz (D2.rs.getD q rw0).xs 0 (j := x) (by omega))) ?_
    refine Wl.know 53 (v' := .int .i64 ((D2.da.to q x : Nat) : Int)) rfl (congrArg (Value.int .i64) hto) ?_
    refine Wl.q rfl rfl (OpQ.assign rfl) ?_
    refine Wl.q rfl rfl (OpQ.assign rfl) ?_
    refine Wl.nil (PX.then_n (CT.region ?_))
    refine Wl.q rfl rfl (OpQ.move rfl) ?_
    refine Wl.q rfl rfl (OpQ.move rfl) ?_
    refine Wl.q rfl rfl (OpQ.move rfl) ?_
    refine Wl.q rfl rfl (OpQ.move rfl) ?_
    refine Wl.q rfl rfl (OpQ.index1 K5_un62 K5_sz3 rfl rfl (by omega) hca) ?_
    refine Wl.q rfl rfl (OpQ.loadRow K5_sc3 rfl (.there (.there (.there (.there (.there .here))))) (getMap zn c 0 (j := D2.da.to q x) (by omega))) ?_
    refine Wl.q rfl rfl (OpQ.index1 K5_un62 K5_sz3 rfl rfl (by omega) rfl) ?_
    refine Wl.g rfl rfl (OpG.storeRow K5_sz3 rfl rfl rfl .here (by rw [List.length_map, tabI_len]; show x < _; omega)) ?_
    rintro _ _
    refine Wl.nil (PX.block_n (PX.then_n (CT.region ?_)))
    refine Wl.q rfl rfl (OpQ.add rfl rfl (by omega)) ?_
    refine Wl.q rfl rfl (OpQ.move rfl) ?_
    refine Wl.nil ?_
    exact PX.loop hK1 (x + 1) (by omega) (by first | omega | (dsimp only; omega)) ⟨rfl, rfl, rfl, rfl, rfl, rfl, rfl, rfl, rfl, rfl, rfl, rfl, rfl, rfl, trivial⟩ (.keep (row_eq qrow_put.symm) (HSub.refl _))
   ·
    have h50 := of_decide_eq_false h50
    obtain rfl : x = D2.da.L := by omega
    refine CT.mem (.keep (row_eq (xs := (castL (qrow D2.da c q)).map zz) (by rw [← qrow_end])) (HSub.refl _)) ?_
    refine CT.exit (PX.then_x (PX.then_x (PX.block_x (PX.then_n (CT.seq ?_)))))
    refine CT.draw 8 K5_mixed ?_
    refine RA.q 0 (by kernel_rfl) rfl rfl rfl (.refl _) (OpQ.fieldAddr K5_fa30_2 rfl) ?_
    refine RA.q 1 (by kernel_rfl) rfl rfl rfl (.refl _) (OpQ.loadF (b := b7) K5_sc27 rfl (by repeat (first | exact Has.here | apply Has.there)) (by rfl)) ?_
    refine RA.q 2 (by kernel_rfl) rfl rfl rfl (.refl _) (OpQ.fieldAddr K5_fa30_2 rfl) ?_
    refine RA.q 3 (by kernel_rfl) rfl rfl rfl (.refl _) (OpQ.loadF (b := b4) K5_sc27 rfl (by repeat (first | exact Has.here | apply Has.there)) (by rfl)) ?_
    refine RA.q 4 (by kernel_rfl) rfl rfl rfl (.refl _) (OpQ.move rfl) ?_
    refine RA.q 5 (by kernel_rfl) rfl rfl rfl (.refl _) (OpQ.index1 K5_un27 K5_sz4 rfl rfl (by omega) hf2) ?_
    refine RA.q 6 (by kernel_rfl) rfl rfl rfl (.refl _) (OpQ.loadG K5_sc4 rfl (fun w hH => (hH.fragp (.there (.there (.there (.there (.there (.there .here))))))).1) (getMap bo D2.fin false (j := q) (by omega))) ?_
    refine RA.know 68 (v' := .bool (D2.da.fi q)) rfl rfl ?_
    refine RA.f 7 (by kernel_rfl) rfl rfl rfl (OpG.lit1 K5_un27 K5_in4 rfl rfl rfl) (fun _ _ => (.cons _ (.refl _))) ?_
    rintro b69 _
    refine RA.tail ?_
    refine RT.f 8 (by kernel_rfl) rfl rfl rfl (OpG.append K5_un27 K5_in4 (by rfl) (by decide) rfl rfl (p := 3) rfl (fun w hH => hH.rd .here) ⟨rfl, (by simp [Value.oneCell']), (by omega), (by omega)⟩ (nm := fl.length + 1) rfl (all := (fl ++ [D2.da.fi q]).map bo) (by simp)) ?_
    rintro ⟨a70, c70⟩ h70
    refine RT.q 9 (by kernel_rfl) rfl rfl rfl (OpQ.fieldAddr K5_fa30_2 rfl) ?_
    refine RT.f 10 (by kernel_rfl) rfl rfl rfl (OpG.storeRow (a := some ⟨b7, 0, none⟩) K5_sz27 rfl rfl rfl (by repeat (first | exact Upd.here | apply Upd.there)) (by simp)) ?_
    rintro _ _
    refine RT.done (by kernel_rfl) ?_
    refine PX.then_n (CT.region ?_)
    refine Wl.q rfl rfl (OpQ.fieldAddr K5_fa30_3 rfl) ?_
    refine Wl.q rfl rfl (OpQ.loadF (b := b7) K5_sc28 rfl (by repeat (first | exact Has.here | apply Has.there)) (by rfl)) ?_
    refine Wl.q rfl rfl (OpQ.move rfl) ?_
    refine Wl.g rfl rfl (OpG.lit1 K5_un28 K5_in62 rfl rfl rfl) ?_
    rintro b75 _
    refine Wl.g rfl rfl (OpG.append K5_un28 K5_in62 (by rfl) (by decide) rfl rfl (p := 5) rfl (fun w hH => hH.rd .here) ⟨rfl, (by simp [Value.oneCell']), (by omega), (by omega)⟩ (nm := rs.length + 1) rfl (all := (rs ++ [(⟨some ⟨b42, 0, none⟩, D2.da.L, castL (qrow D2.da c q)⟩ : Rw)]).map rv) (by simp [qrow_len])) ?_
    rintro ⟨a76, c76⟩ h76
    refine Wl.q rfl rfl (OpQ.fieldAddr K5_fa30_3 rfl) ?_
    refine Wl.g rfl rfl (OpG.storeRow (a := some ⟨b7, 0, none⟩) K5_sz28 rfl rfl rfl (by repeat (first | exact Upd.here | apply Upd.there)) (by simp)) ?_
    rintro _ _
    refine Wl.nil (PX.block_n (PX.then_n (CT.region ?_)))
    refine Wl.q rfl rfl (OpQ.add rfl rfl (by omega)) ?_
    refine Wl.q rfl rfl (OpQ.move rfl) ?_
    refine Wl.nil ?_
    refine PX.as (fun _ h => h.bind (L := [.frag bs2 (rws rs), .row 3 1 (.slice (some ⟨b42, 0, none⟩) D2.da.L D2.da.L) D2.da.L ((castL (qrow D2.da c q)).map zz)]) (p := rws (rs ++ [(⟨some ⟨b42, 0, none⟩, D2.da.L, castL (qrow D2.da c q)⟩ : Rw)])) (.cons (.there (.there (.there .here))) (.cons (.there (.there .here)) .nil)) (fun w hk => rws_snoc (r := (⟨some ⟨b42, 0, none⟩, D2.da.L, castL (qrow D2.da c q)⟩ : Rw)) ((hk _ List.mem_cons_self).2 w (fun _ _ => rfl)) (Rd.of_owns (hk _ (List.mem_cons_of_mem _ List.mem_cons_self))))) ?_
    refine PX.as (fun _ h => h.take (.cons .here (.cons (.there (.there .here)) (.cons (.there (.there .here)) (.cons (.there (.there .here)) (.cons (.there (.there .here)) (.cons (.there (.there .here)) (.cons (.there (.there .here)) (.cons (.there (.there .here)) (.cons (.there (.there .here)) (.cons (.there (.there .here)) .nil))))))))))) ?_
    exact PX.loop hK0 (q + 1, a70, c70, fl ++ [D2.da.fi q], a76, c76, rs ++ [(⟨some ⟨b42, 0, none⟩, D2.da.L, castL (qrow D2.da c q)⟩ : Rw)], _) ⟨by omega, by rw [reps_n (by omega), List.map_append, hfl]; rfl, by rw [reps_n (by omega), List.map_append, List.map_append, hrs]; rfl⟩ (show D2.fin.length - (q + 1) < D2.fin.length - q by omega) ⟨rfl, rfl, rfl, rfl, rfl, rfl, rfl, rfl, rfl, trivial⟩ (.keep rfl (by simp only [List.length_append, List.length_singleton]; exact HSub.refl _))
 ·
  have h31 := of_decide_eq_false h31
  refine CT.exit (PX.then_x (PX.then_x (PX.block_x (PX.then_n (CT.seq (CT.region ?_))))))
  obtain rfl : q = D2.fin.length := by omega
  have h3 : Dv.Is ⟨D2.L, 0, fa', fc', fl, na', nc', rs⟩ (quo D2.da c 0) := quo_is hv2.L_eq rfl hfl hrs
  have hfn : fl.length ≤ D2.fin.length := by omega
  have h3ok : Dv.Ok ⟨D2.L, 0, fa', fc', fl, na', nc', rs⟩ := by
   refine h3.ok (quo_ok hv2.daOk hc (by have h5 := topL_all c (p := D2.da.s) (by rw [hc.len]; exact hv2.daOk.st); have h6 := cls_start hc hv2.daOk (by rw [hIs.da]; rfl); omega)) (by show 1 ≤ D2.L.toNat ∧ D2.L.toNat ≤ 6; omega) ?_
   rw [quo_n hc, ← List.take_length (l := c), hcl]
   omega
  refine Wl.q rfl rfl (OpQ.loadV (b := b7) K5_ag30 K5_sz30 rfl (by repeat (first | exact Has.here | apply Has.there)) (by rfl)) ?_
  refine Wl.know 80 (v' := dvv ⟨D2.L, 0, fa', fc', fl, na', nc', rs⟩) rfl rfl ?_
  refine Wl.g rfl rfl (OpG.callX K5_go56 rfl .nil (fun _ => (.cons (.cons .nil))) (fun w hH hp => trim_spec w ⟨D2.L, 0, fa', fc', fl, na', nc', rs⟩ (fun w2 he => ⟨Stays.rd (hH.staysK0 (.there .here)) w2 he, Stays.rd (hH.staysK0 (.there (.there .here))) w2 he, Stays.frag (hH.staysK0 .here) w2 he⟩) h3ok (by show fl.length ≤ 512; omega))) ?_
  rintro ⟨KB, D4, bs4, la4, lc4⟩ h81
  dsimp only at h81
  obtain ⟨hKB, h4⟩ := h81
  obtain ⟨hv4, hmin⟩ := min_chain hv hK hIs hc h3 hKB h4
  refine Wl.q rfl rfl (OpQ.move rfl) ?_
  refine Wl.q rfl rfl (OpQ.extract rfl rfl) ?_
  refine Wl.know 82 (v' := dvv D4) rfl rfl ?_
  refine Wl.q rfl rfl (OpQ.extract rfl rfl) ?_
  refine Wl.know 83 (v' := .slice la4 fl.length lc4) rfl rfl ?_
  refine Wl.g rfl rfl (OpG.alloc (zs := [.int .i64 0, .int .i64 0, .slice none 0 0, .slice none 0 0]) K5_in30 rfl rfl) ?_
  rintro b13 _
  refine Wl.g rfl rfl (OpG.storeV (b := b13) K5_sz30 rfl rfl rfl rfl (by repeat (first | exact Upd.here | apply Upd.there))) ?_
  rintro _ _
  refine Wl.q rfl rfl (OpQ.assign rfl) ?_
  refine Wl.nil (PX.then_n (CT.seq (CT.region ?_)))
  refine Wl.q rfl rfl (OpQ.move rfl) ?_
  refine Wl.q rfl rfl (OpQ.len K5_un62 rfl) ?_
  refine Wl.g rfl rfl (OpG.make1 K5_un62 K5_in3 rfl rfl rfl rfl (by omega) (by omega)) ?_
  rintro b86 _
  refine Wl.q rfl rfl (OpQ.assign rfl) ?_
  refine Wl.nil (PX.then_n (CT.seq (CT.seq (CT.region ?_))))
  refine Wl.q rfl rfl (OpQ.move rfl) ?_
  refine Wl.q rfl rfl (OpQ.len K5_un62 rfl) ?_
  refine Wl.q rfl rfl (OpQ.move rfl) ?_
  refine Wl.nil (PX.then_n (CT.block ?_))
  refine CT.fact (p := la.isSome = true ∧ (0 < fl.length → la4.isSome = true)) (fun w hH => ⟨(hH.rd (.there (.there (.there (.there (.there (.there (.there (.there (.there (.there .here))))))))))).isSome (j := 0) (by rw [List.length_map, tabI_len]; exact (show 0 < D.fin.length by omega)), fun h => (hH.rd (.there (.there (.there .here)))).isSome (j := 0) (by rw [List.length_map, tabI_len]; exact h)⟩) (fun hla => ?_)
  refine CT.as (fun _ h => h.take (.cons .here (.cons .here (.cons .here (.cons .here (.cons (.there (.there (.there (.there .here)))) (.cons (.there (.there (.there (.there (.there .here))))) (.cons (.there (.there (.there (.there (.there (.there .here)))))) .nil)))))))) ?_
  refine CT.loop (ι := Nat × List Int) (fun (s, st) => s ≤ D.fin.length ∧ st.length = D.fin.length) (fun (s, st) => [(2, .pointer (some ⟨b2, 0, none⟩)), (6, .slice ca D2.fin.length cc), (13, .pointer (some ⟨b13, 0, none⟩)), (14, .slice la4 fl.length lc4), (15, .slice (some ⟨b86, 0, none⟩) D.fin.length D.fin.length), (87, .slice la D.fin.length lc), (88, .int .i64 ((D.fin.length : Nat) : Int)), (89, .int .i64 ((s : Nat) : Int))]) (fun (s, st) => [.row 3 1 (.slice (some ⟨b86, 0, none⟩) D.fin.length D.fin.length) D.fin.length (st.map zz), .row 30 4 (vb b13) 1 (dvc D4), .frag bs4 (dvm D4), .row 3 1 (.slice la4 fl.length lc4) fl.length ((tabI fl.length (plc (bfs (Dv.da ⟨D2.L, 0, fa', fc', fl, na', nc', rs⟩).to (Dv.da ⟨D2.L, 0, fa', fc', fl, na', nc', rs⟩).L (Dv.da ⟨D2.L, 0, fa', fc', fl, na', nc', rs⟩).s KB) (bfs (Dv.da ⟨D2.L, 0, fa', fc', fl, na', nc', rs⟩).to (Dv.da ⟨D2.L, 0, fa', fc', fl, na', nc', rs⟩).L (Dv.da ⟨D2.L, 0, fa', fc', fl, na', nc', rs⟩).s KB).length)).map zz), .row 3 1 (.slice ca D2.fin.length cc) D2.fin.length (c.map zn), .row 3 1 (.slice la D.fin.length lc) D.fin.length ((tabI D.fin.length (plc (bfs D.da.to D.da.L D.da.s K) (bfs D.da.to D.da.L D.da.s K).length)).map zz), .row 30 4 (vb b2) 1 [.int .i64 0, .int .i64 0, .slice none 0 0, .slice none 0 0]]) (fun (s, st) => D.fin.length - s) (0, List.replicate D.fin.length 0) ⟨Nat.zero_le _, by simp⟩ ⟨rfl, rfl, rfl, rfl, rfl, rfl, rfl, rfl, trivial⟩ (.keep (row_eq (by rw [List.map_replicate])) (HSub.refl _)) (fun ⟨s, st⟩ ⟨hs, hsl⟩ K2 hK2 => ?_)
  dsimp only
  refine CT.seq (CT.region ?_)
  refine Wl.q rfl rfl (OpQ.lss rfl rfl) ?_
  refine Wl.nil (PX.then_n (CT.seq ?_))
  refine CT.cond rfl (fun h90 => ?_) (fun h90 => ?_)
  ·
   have h90 := of_decide_eq_true h90
   have hpr := plc_rng (bfs D.da.to D.da.L D.da.s K) (bfs D.da.to D.da.L D.da.s K).length s
   have hpg : (tabI D.fin.length (plc (bfs D.da.to D.da.L D.da.s K) (bfs D.da.to D.da.L D.da.s K).length)).getD s 0 = plc (bfs D.da.to D.da.L D.da.s K) (bfs D.da.to D.da.L D.da.s K).length s := tabI_get (by omega)
   have hpl := tabI_len D.fin.length (plc (bfs D.da.to D.da.L D.da.s K) (bfs D.da.to D.da.L D.da.s K).length)
   refine CT.skip (PX.then_n (CT.seq (CT.block (CT.seq (CT.region ?_)))))
   refine Wl.q rfl rfl (OpQ.move rfl) ?_
   refine Wl.q rfl rfl (OpQ.index1 K5_un62 K5_sz3 rfl rfl (by omega) hla.1) ?_
   refine Wl.q rfl rfl (OpQ.loadRow K5_sc3 rfl (.there (.there (.there (.there (.there .here))))) (getMap zz (tabI D.fin.length (plc (bfs D.da.to D.da.L D.da.s K) (bfs D.da.to D.da.L D.da.s K).length)) 0 (j := s) (by rw [hpl]; omega))) ?_
   refine Wl.q rfl rfl (OpQ.assign rfl) ?_
   refine Wl.q rfl rfl (OpQ.assign rfl) ?_
   refine Wl.nil (PX.then_n (CT.seq (CT.region ?_)))
   refine Wl.q rfl rfl (OpQ.move rfl) ?_
   refine Wl.q rfl rfl (OpQ.move rfl) ?_
   refine Wl.q rfl rfl (OpQ.index1 K5_un62 K5_sz3 rfl rfl (by omega) rfl) ?_
   refine Wl.g rfl rfl (OpG.storeRow K5_sz3 rfl rfl rfl .here (by rw [List.length_map, hsl]; show s < _; omega)) ?_
   rintro _ _
   refine Wl.nil (PX.then_n (CT.seq (CT.region ?_)))
   refine Wl.q rfl rfl (OpQ.move rfl) ?_
   refine Wl.q rfl rfl (OpQ.geq rfl rfl) ?_
   refine Wl.nil (PX.then_n ?_)
   refine CT.cond rfl (fun h98 => ?_) (fun h98 => ?_)
   ·
    have h98 := of_decide_eq_true h98
    have hci : ((tabI D.fin.length (plc (bfs D.da.to D.da.L D.da.s K) (bfs D.da.to D.da.L D.da.s K).length)).getD s 0).toNat < c.length := by omega
    have hct := topL_all c hci
    have htn : topL c = fl.length := by rw [hfll, ← hcl, List.take_length]
    refine CT.region ?_
    refine Wl.q rfl rfl (OpQ.move rfl) ?_
    refine Wl.q rfl rfl (OpQ.move rfl) ?_
    refine Wl.q rfl rfl (OpQ.move rfl) ?_
    refine Wl.q rfl rfl (OpQ.move rfl) ?_
    refine Wl.q rfl rfl (OpQ.move rfl) ?_
    refine Wl.q rfl rfl (OpQ.index1 K5_un62 K5_sz3 rfl rfl (by omega) hca) ?_
    refine Wl.q rfl rfl (OpQ.loadRow K5_sc3 rfl (.there (.there (.there (.there .here)))) (getMap zn c 0 (j := ((tabI D.fin.length (plc (bfs D.da.to D.da.L D.da.s K) (bfs D.da.to D.da.L D.da.s K).length)).getD s 0).toNat) hci)) ?_
    refine Wl.q rfl rfl (OpQ.index1 K5_un62 K5_sz3 rfl rfl (by omega) (hla.2 (by omega))) ?_
    refine Wl.q rfl rfl (OpQ.loadRow K5_sc3 rfl (.there (.there (.there .here))) (getMap zz (tabI fl.length (plc (bfs (Dv.da ⟨D2.L, 0, fa', fc', fl, na', nc', rs⟩).to (Dv.da ⟨D2.L, 0, fa', fc', fl, na', nc', rs⟩).L (Dv.da ⟨D2.L, 0, fa', fc', fl, na', nc', rs⟩).s KB) (bfs (Dv.da ⟨D2.L, 0, fa', fc', fl, na', nc', rs⟩).to (Dv.da ⟨D2.L, 0, fa', fc', fl, na', nc', rs⟩).L (Dv.da ⟨D2.L, 0, fa', fc', fl, na', nc', rs⟩).s KB).length)) 0 (j := c.getD ((tabI D.fin.length (plc (bfs D.da.to D.da.L D.da.s K) (bfs D.da.to D.da.L D.da.s K).length)).getD s 0).toNat 0) (by rw [tabI_len]; omega))) ?_
    refine Wl.q rfl rfl (OpQ.index1 K5_un62 K5_sz3 rfl rfl (by omega) rfl) ?_
    refine Wl.g rfl rfl (OpG.storeRow K5_sz3 rfl rfl rfl .here (by rw [List.length_set, List.length_map, hsl]; show s < _; omega)) ?_
    rintro _ _
    refine Wl.nil (PX.block_n (PX.then_n (CT.region ?_)))
    refine Wl.q rfl rfl (OpQ.add rfl rfl (by omega)) ?_
    refine Wl.q rfl rfl (OpQ.move rfl) ?_
    refine Wl.nil ?_
    exact PX.loop hK2 (s + 1, (st.set s (-1)).set s ((tabI fl.length (plc (bfs (Dv.da ⟨D2.L, 0, fa', fc', fl, na', nc', rs⟩).to (Dv.da ⟨D2.L, 0, fa', fc', fl, na', nc', rs⟩).L (Dv.da ⟨D2.L, 0, fa', fc', fl, na', nc', rs⟩).s KB) (bfs (Dv.da ⟨D2.L, 0, fa', fc', fl, na', nc', rs⟩).to (Dv.da ⟨D2.L, 0, fa', fc', fl, na', nc', rs⟩).L (Dv.da ⟨D2.L, 0, fa', fc', fl, na', nc', rs⟩).s KB).length)).getD (c.getD ((tabI D.fin.length (plc (bfs D.da.to D.da.L D.da.s K) (bfs D.da.to D.da.L D.da.s K).length)).getD s 0).toNat 0) 0)) ⟨by omega, by simp [hsl]⟩ (show D.fin.length - (s + 1) < D.fin.length - s by omega) ⟨rfl, rfl, rfl, rfl, rfl, rfl, rfl, rfl, trivial⟩ (.keep (row_eq (by rw [List.map_set, List.map_set] <;> rfl)) (HSub.refl _))
   ·
    have h98 := of_decide_eq_false h98
    refine CT.skip (PX.block_n (PX.then_n (CT.region ?_)))
    refine Wl.q rfl rfl (OpQ.add rfl rfl (by omega)) ?_
    refine Wl.q rfl rfl (OpQ.move rfl) ?_
    refine Wl.nil ?_
    exact PX.loop hK2 (s + 1, st.set s (-1)) ⟨by omega, by simp [hsl]⟩ (show D.fin.length - (s + 1) < D.fin.length - s by omega) ⟨rfl, rfl, rfl, rfl, rfl, rfl, rfl, rfl, trivial⟩ (.keep (row_eq (by rw [List.map_set] <;> rfl)) (HSub.refl _))
  ·
   have h90 := of_decide_eq_false h90
   refine CT.exit (PX.then_x (PX.then_x (PX.block_x (PX.then_n (CT.seq (CT.region ?_))))))
   refine Wl.q rfl rfl (OpQ.loadV (b := b13) K5_ag30 K5_sz30 rfl (by repeat (first | exact Has.here | apply Has.there)) (by rfl)) ?_
   refine Wl.q rfl rfl (OpQ.move rfl) ?_
   refine Wl.g rfl rfl (OpG.storeV (b := b2) K5_sz30 rfl rfl rfl rfl (by repeat (first | exact Upd.here | apply Upd.there))) ?_
   rintro _ _
   refine Wl.q rfl rfl (OpQ.assign rfl) ?_
   refine Wl.nil (PX.then_n (CT.ret ?_))
   refine PX.retC2 rfl rfl rfl (by repeat (first | exact Has.here | apply Has.there)) K5_ag30 K5_sz30 (by rfl) (fun w' hH => ?_)
   exact ⟨(D4, bs4, st, some ⟨b86, 0, none⟩, D.fin.length), ⟨hv4, hmin⟩, rfl, (hH.take (.cons (.there (.there .here)) (.cons .here .nil))).post⟩

theorem K5_go12 : isGo Tryz.prog 12 = true := by kernel_rfl
theorem K5_go30 : isGo Tryz.prog 30 = true := by kernel_rfl
set_option maxRecDepth 100000 in
/-- semigroup/minimize.Minimal -/
theorem minimize_spec (w : World) (D : Dv) (hD : Stays [] w (dvm D)) (hv : D.Ok) (h5 : D.fin.length ≤ 512) : Calls Tryz.prog 14 #[dvv D] w (fun e w' => ∃ i : Dv × List Nat, (i.1.Ok ∧ IsMin D.da.L D.da.sy D.da.s i.1.da) ∧ e = .returned (dvv i.1) ∧ Post [] [.frag i.2 (dvm i.1)] w w') := by
 refine enter (args := [dvv D]) [] 15 Tryz.func14 rfl rfl rfl ?_
 refine CT.seq (CT.region ?_)
 refine Wl.g rfl rfl (OpG.box (size := 4) rfl rfl rfl) ?_
 rintro b1 _
 refine Wl.g rfl rfl (OpG.alloc (zs := [.int .i64 0, .int .i64 0, .slice none 0 0, .slice none 0 0]) K5_in30 rfl rfl) ?_
 rintro b2 _
 refine Wl.nil (PX.then_n (CT.seq (CT.seq (CT.region ?_))))
 refine Wl.q rfl rfl (OpQ.loadV (b := b1) K5_ag30 K5_sz30 rfl (by repeat (first | exact Has.here | apply Has.there)) (by rfl)) ?_
 refine Wl.g rfl rfl (OpG.callV K5_go12 rfl (fun w hH => dvalid_spec w D (hH.stays0 hD))) ?_
 rintro _ _
 refine Wl.know 6 (v' := .int .i64 (0)) rfl (congrArg (Value.int .i64) (hv.zero h5)) ?_
 refine Wl.q rfl rfl (OpQ.neq rfl rfl) ?_
 refine Wl.know 7 (v' := .bool false) rfl (congrArg Value.bool rfl) ?_
 refine Wl.nil (PX.then_n ?_)
 refine CT.condF rfl ?_
 refine CT.skip (PX.then_n (CT.seq (CT.region ?_)))
 refine Wl.q rfl rfl (OpQ.loadV (b := b1) K5_ag30 K5_sz30 rfl (by repeat (first | exact Has.here | apply Has.there)) (by rfl)) ?_
 refine Wl.g rfl rfl (OpG.callX K5_go30 rfl .nil (fun _ => (.cons (.cons .nil))) (fun w hH hp => minimal_spec w D (hH.stays0 hD) hv h5)) ?_
 rintro ⟨D4, bs4, st, sa, sc⟩ h11
 dsimp only at h11
 refine Wl.q rfl rfl (OpQ.move rfl) ?_
 refine Wl.q rfl rfl (OpQ.extract rfl rfl) ?_
 refine Wl.know 12 (v' := dvv D4) rfl rfl ?_
 refine Wl.q rfl rfl (OpQ.extract rfl rfl) ?_
 refine Wl.know 13 (v' := .slice sa D.fin.length sc) rfl rfl ?_
 refine Wl.g rfl rfl (OpG.alloc (zs := [.int .i64 0, .int .i64 0, .slice none 0 0, .slice none 0 0]) K5_in30 rfl rfl) ?_
 rintro b3 _
 refine Wl.g rfl rfl (OpG.storeV (b := b3) K5_sz30 rfl rfl rfl rfl (by repeat (first | exact Upd.here | apply Upd.there))) ?_
 rintro _ _
 refine Wl.q rfl rfl (OpQ.assign rfl) ?_
 refine Wl.nil (PX.then_n (CT.seq (CT.region ?_)))
 refine Wl.q rfl rfl (OpQ.loadV (b := b3) K5_ag30 K5_sz30 rfl (by repeat (first | exact Has.here | apply Has.there)) (by rfl)) ?_
 refine Wl.g rfl rfl (OpG.storeV (b := b2) K5_sz30 rfl rfl rfl rfl (by repeat (first | exact Upd.here | apply Upd.there))) ?_
 rintro _ _
 refine Wl.nil (PX.then_n (CT.ret ?_))
 refine PX.retC rfl rfl (by repeat (first | exact Has.here | apply Has.there)) K5_ag30 K5_sz30 (by rfl) (fun w' hH => ?_)
 exact ⟨(D4, bs4), h11, rfl, (hH.take (.cons (.there .here) .nil)).post⟩

end Go.Proofs.YtmggcdegekbncabGreatDoor

