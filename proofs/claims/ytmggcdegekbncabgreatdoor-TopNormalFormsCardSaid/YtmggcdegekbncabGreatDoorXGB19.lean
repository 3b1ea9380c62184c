/-
  What functions of the program compute, each by its walk. Conditions: those that each theorem names.
-/
import Derived.Test.YtmggcdegekbncabGreatDoorXGB18
import Derived.Test.YtmggcdegekbncabGreatDoorXF
set_option linter.unusedSimpArgs false
namespace Go.Proofs.YtmggcdegekbncabGreatDoor
open Go Go.Eng Go.Am Go.Ex
open Go.Tp (zi)
open Go.Tl (mayL Wd okW okB bo)
open Go.Ex.simp (simpL)
open Go.Ex.dv (dvL dvC)
open Go.Ex.hasU (hasAny hasAll)
open Go.Ex.wf (wfL)
open Go.Ex.szE (szL)
open Go.Ex.dpE (dpL)
open Go.Ex.cmpE (cmpL)
open Go.Ex.fmtE (fmtK fmtR)
theorem K19_un27 : Tryz.prog.underlying 27 = some (.slice 4) := by kernel_rfl
theorem K19_in4 : (Tryz.prog.info? 4).map (fun i => (i.zero, i.size, i.bytes)) = some (some (.bool false), 1, 1) := by kernel_rfl
theorem K19_in30 : (Tryz.prog.info? 30).map (fun i => (i.zero, i.size, i.bytes)) = some (some (.agg #[.int .i64 0, .int .i64 0, .slice none 0 0, .slice none 0 0]), 4, 64) := by kernel_rfl
theorem K19_mixed : Tryz.prog.follows .mixedOrders = true := by kernel_rfl
theorem K19_fa68_0 : fieldB Tryz.prog 68 0 = some 0 := by kernel_rfl
theorem K19_fa43_0 : fieldB Tryz.prog 43 0 = some 0 := by kernel_rfl
theorem K19_sc3 : scalarB Tryz.prog 3 = some true := by kernel_rfl
theorem K19_fa43_2 : fieldB Tryz.prog 43 2 = some 2 := by kernel_rfl
theorem K19_sc28 : scalarB Tryz.prog 28 = some true := by kernel_rfl
theorem K19_pl30 : placesB Tryz.prog 30 = some (#[.int .i64 0, .int .i64 0, .slice none 0 0, .slice none 0 0], [(0, 1), (1, 1), (2, 1), (3, 1)]) := by kernel_rfl
theorem K19_sz30 : sizeB Tryz.prog 30 = some 4 := by kernel_rfl
theorem K19_fa43_1 : fieldB Tryz.prog 43 1 = some 1 := by kernel_rfl
theorem K19_sc22 : scalarB Tryz.prog 22 = some true := by kernel_rfl
theorem K19_un22 : Tryz.prog.underlying 22 = some (.slice 24) := by kernel_rfl
theorem K19_sz24 : sizeB Tryz.prog 24 = some 3 := by kernel_rfl
theorem K19_ag24 : isAggB Tryz.prog 24 = some true := by kernel_rfl
theorem K19_in24 : (Tryz.prog.info? 24).map (fun i => (i.zero, i.size, i.bytes)) = some (some (.agg #[.int .i64 0, .int .i64 0, .slice none 0 0]), 3, 40) := by kernel_rfl
theorem K19_fa30_2 : fieldB Tryz.prog 30 2 = some 2 := by kernel_rfl
theorem K19_sc27 : scalarB Tryz.prog 27 = some true := by kernel_rfl
theorem K19_go61 : isGo Tryz.prog 61 = true := by kernel_rfl
theorem K19_sz27 : sizeB Tryz.prog 27 = some 1 := by kernel_rfl
theorem K19_ag30 : isAggB Tryz.prog 30 = some true := by kernel_rfl
set_option maxRecDepth 100000 in
/-- (*semigroup/derive.run).automaton -/
theorem rauto_spec (w : World) (b m : Nat) (A : World → Prop) (s : Ex) (vs : List Xv) (a : Option Addr) (c : Nat) (bs : List Nat) (na : Option Addr) (nc : Nat) (rs : List Rw) (gs : List Nat) (i : Nat) (hpre : Pre [.row 68 5 (vb b) 1 [.int .i64 2, .slice a (vs).length c, .slice na (rs).length nc, .int .i64 ((i : Nat) : Int), .map (some m)], .row 24 3 (.slice a (vs).length c) (vs).length ((vs).flatMap evc), fx A (vs) bs, .row 62 1 (.slice na (rs).length nc) (rs).length ((rs).map rv), .frag gs (rws rs), .blk m (mapO sv (itA 0 ((vs).map txk)))] w) (hA : Stays (blks [.row 68 5 (vb b) 1 [.int .i64 2, .slice a (vs).length c, .slice na (rs).length nc, .int .i64 ((i : Nat) : Int), .map (some m)], .row 24 3 (.slice a (vs).length c) (vs).length ((vs).flatMap evc), fx A (vs) bs, .row 62 1 (.slice na (rs).length nc) (rs).length ((rs).map rv), .frag gs (rws rs), .blk m (mapO sv (itA 0 ((vs).map txk)))]) w A) (hM : DrM s vs rs i) (hi : i = vs.length) : Calls Tryz.prog 36 #[.pointer (some ⟨b, 0, none⟩)] w (fun e w' => ∃ z : Dv × List Nat, z.1.Is (autoD dF 2 s (i * 2) hasU) ∧ e = .returned (dvv z.1) ∧ Post (blks [.row 68 5 (vb b) 1 [.int .i64 2, .slice a (vs).length c, .slice na (rs).length nc, .int .i64 ((i : Nat) : Int), .map (some m)], .row 24 3 (.slice a (vs).length c) (vs).length ((vs).flatMap evc), fx A (vs) bs, .row 62 1 (.slice na (rs).length nc) (rs).length ((rs).map rv), .frag gs (rws rs), .blk m (mapO sv (itA 0 ((vs).map txk)))]) [.frag z.2 (dvm z.1)] w w') := by
 have hvl512 := hM.vl
 refine enterX (args := [.pointer (some ⟨b, 0, none⟩)]) hpre 36 Tryz.func36 rfl rfl rfl ?_
 refine CT.seq (CT.region ?_)
 refine Wl.g rfl rfl (OpG.alloc (zs := [.int .i64 0, .int .i64 0, .slice none 0 0, .slice none 0 0]) K19_in30 rfl rfl) ?_
 rintro b2 _
 refine Wl.nil (PX.then_n (CT.seq ?_))
 refine CT.draw 12 K19_mixed ?_
 refine RA.q 0 (by kernel_rfl) rfl rfl rfl (.refl _) (OpQ.move rfl) ?_
 refine RA.q 1 (by kernel_rfl) rfl rfl rfl (.refl _) (OpQ.nilCheckP rfl) ?_
 refine RA.q 2 (by kernel_rfl) rfl rfl rfl (.refl _) (OpQ.fieldAddr K19_fa68_0 rfl) ?_
 refine RA.q 3 (by kernel_rfl) rfl rfl rfl (.refl _) (OpQ.fieldAddr K19_fa43_0 rfl) ?_
 refine RA.know 9 rfl (add_ptr _ _ _) ?_
 refine RA.q 4 (by kernel_rfl) rfl rfl rfl (.refl _) (OpQ.loadF (b := b) K19_sc3 rfl (by repeat (first | exact Has.here | apply Has.there)) (by rfl)) ?_
 refine RA.q 5 (by kernel_rfl) rfl rfl rfl (.refl _) (OpQ.move rfl) ?_
 refine RA.q 6 (by kernel_rfl) rfl rfl rfl (.refl _) (OpQ.nilCheckP rfl) ?_
 refine RA.q 7 (by kernel_rfl) rfl rfl rfl (.refl _) (OpQ.fieldAddr K19_fa68_0 rfl) ?_
 refine RA.q 8 (by kernel_rfl) rfl rfl rfl (.refl _) (OpQ.fieldAddr K19_fa43_2 rfl) ?_
 refine RA.know 14 rfl (add_ptr _ _ _) ?_
 refine RA.q 9 (by kernel_rfl) rfl rfl rfl (.refl _) (OpQ.loadF (b := b) K19_sc28 rfl (by repeat (first | exact Has.here | apply Has.there)) (by rfl)) ?_
 refine RA.q 10 (by kernel_rfl) rfl rfl rfl (.refl _) (OpQ.build (cells := #[_, .int .i64 0, .slice none 0 0, _]) K19_pl30 rfl rfl) ?_
 refine RA.f 11 (by kernel_rfl) rfl rfl rfl (OpG.alloc (zs := [.int .i64 0, .int .i64 0, .slice none 0 0, .slice none 0 0]) K19_in30 rfl rfl) (fun _ _ => (.cons _ (.refl _))) ?_
 rintro b3 _
 refine RA.tail ?_
 refine RT.f 12 (by kernel_rfl) rfl rfl rfl (OpG.storeV (b := b3) K19_sz30 rfl rfl rfl rfl (by repeat (first | exact Upd.here | apply Upd.there))) ?_
 rintro _ _
 refine RT.done (by kernel_rfl) ?_
 refine PX.then_n (CT.seq (CT.seq (CT.region ?_)))
 refine Wl.q rfl rfl (OpQ.move rfl) ?_
 refine Wl.q rfl rfl (OpQ.nilCheckP rfl) ?_
 refine Wl.q rfl rfl (OpQ.fieldAddr K19_fa68_0 rfl) ?_
 refine Wl.q rfl rfl (OpQ.fieldAddr K19_fa43_1 rfl) ?_
 refine Wl.know 20 rfl (add_ptr _ _ _) ?_
 refine Wl.q rfl rfl (OpQ.loadF (b := b) K19_sc22 rfl (by repeat (first | exact Has.here | apply Has.there)) (by rfl)) ?_
 refine Wl.q rfl rfl (OpQ.len K19_un22 rfl) ?_
 refine Wl.q rfl rfl (OpQ.move rfl) ?_
 refine Wl.nil (PX.then_n (CT.block ?_))
 refine CT.nilrow 4 1 ?_
 refine CT.loop (ι := Nat × Option Addr × Nat) (fun (k, fa, fc) => k ≤ vs.length) (fun (k, fa, fc) => [(2, .pointer (some ⟨b2, 0, none⟩)), (3, .pointer (some ⟨b3, 0, none⟩)), (21, .slice a vs.length c), (22, .int .i64 ((vs.length : Nat) : Int)), (23, .int .i64 ((k : Nat) : Int))]) (fun (k, fa, fc) => [.row 4 1 (.slice fa (k) fc) (k) ((hasT vs (k)).map bo), .row 30 4 (vb b3) 1 [.int .i64 2, .int .i64 0, .slice fa (k) fc, .slice na rs.length nc], .row 30 4 (vb b2) 1 [.int .i64 0, .int .i64 0, .slice none 0 0, .slice none 0 0], .row 68 5 (vb b) 1 [.int .i64 2, .slice a (vs).length c, .slice na (rs).length nc, .int .i64 ((i : Nat) : Int), .map (some m)], .row 24 3 (.slice a (vs).length c) (vs).length ((vs).flatMap evc), fx A (vs) bs, .row 62 1 (.slice na (rs).length nc) (rs).length ((rs).map rv), .frag gs (rws rs), .blk m (mapO sv (itA 0 ((vs).map txk)))]) (fun (k, fa, fc) => vs.length - k) (0, none, 0) (Nat.zero_le _) ⟨rfl, rfl, rfl, rfl, rfl, trivial⟩ (HSub.refl _) (fun ⟨k, fa, fc⟩ hk K0 hK0 => ?_)
 dsimp only
 refine CT.seq (CT.region ?_)
 refine Wl.q rfl rfl (OpQ.lss rfl rfl) ?_
 refine Wl.nil (PX.then_n (CT.seq ?_))
 refine CT.cond rfl (fun h24 => ?_) (fun h24 => ?_)
 ·
  have h24 := of_decide_eq_true h24
  have hkl : k < vs.length := by omega
  refine CT.fact (p := a.isSome = true) (fun w hH => (hH.rd (show Has _ (.row 24 3 (.slice a (vs).length c) (vs).length ((vs).flatMap evc)) from (by repeat (first | exact Has.here | apply Has.there)))).isSome (j := 0) (by rw [evcs_len]; omega)) (fun ha => ?_)
  refine CT.skip (PX.then_n (CT.seq (CT.block (CT.seq (CT.region ?_)))))
  refine Wl.q rfl rfl (OpQ.index K19_un22 K19_sz24 rfl rfl (by omega) ha) ?_
  refine Wl.q rfl rfl (OpQ.loadAggG (cs := evc (vs.getD k ev0)) K19_ag24 K19_sz24 rfl (fun w hH => hH.rd (show Has _ (.row 24 3 (.slice a (vs).length c) (vs).length ((vs).flatMap evc)) from (by repeat (first | exact Has.here | apply Has.there)))) (flat_cells evc_len vs ev0 hkl)) ?_
  refine Wl.know 26 (v' := evv (vs.getD k ev0)) rfl rfl ?_
  refine Wl.g rfl rfl (OpG.alloc (zs := [.int .i64 0, .int .i64 0, .slice none 0 0]) K19_in24 rfl rfl) ?_
  rintro b5 _
  refine Wl.g rfl rfl (OpG.storeV (b := b5) K19_sz24 rfl rfl rfl rfl (by repeat (first | exact Upd.here | apply Upd.there))) ?_
  rintro _ _
  refine Wl.nil (PX.then_n ?_)
  refine CT.draw 5 K19_mixed ?_
  refine RA.q 0 (by kernel_rfl) rfl rfl rfl (.refl _) (OpQ.fieldAddr K19_fa30_2 rfl) ?_
  refine RA.q 1 (by kernel_rfl) rfl rfl rfl (.refl _) (OpQ.loadF (b := b3) K19_sc27 rfl (by repeat (first | exact Has.here | apply Has.there)) (by rfl)) ?_
  refine RA.q 2 (by kernel_rfl) rfl rfl rfl (.refl _) (OpQ.loadV (b := b5) K19_ag24 K19_sz24 rfl (by repeat (first | exact Has.here | apply Has.there)) (by rfl)) ?_
  refine RA.know 29 (v' := evv (vs.getD k ev0)) rfl rfl ?_
  refine RA.f 3 (by kernel_rfl) rfl rfl rfl (OpG.callV K19_go61 rfl (fun w hH => hasU_spec (vs.getD k ev0) w (fun w' he => ((hH.staysK0 (show Has _ (fx A (vs) bs) from (by repeat (first | exact Has.here | apply Has.there)))).frag w' he ((hH.stays0 hA) w' he)) _ (getD_memx hkl)))) (fun _ _ => (.refl _)) ?_
  rintro _ _
  refine RA.f 4 (by kernel_rfl) rfl rfl rfl (OpG.lit1 K19_un27 K19_in4 rfl rfl rfl) (fun _ _ => (.cons _ (.refl _))) ?_
  rintro b31 _
  refine RA.tail ?_
  refine RT.f 5 (by kernel_rfl) rfl rfl rfl (OpG.append K19_un27 K19_in4 (by rfl) (by decide) rfl rfl (p := 2) rfl (fun w hH => hH.rd .here) ⟨rfl, (by simp [Value.oneCell']), (by have := hM.vl; omega), (by have := hM.vl; omega)⟩ (nm := (k + 1)) rfl (all := (hasT vs (k + 1)).map bo) (by rw [← hasT_s hkl, List.map_append]; rfl)) ?_
  rintro ⟨a32, c32⟩ h32
  refine RT.q 6 (by kernel_rfl) rfl rfl rfl (OpQ.fieldAddr K19_fa30_2 rfl) ?_
  refine RT.f 7 (by kernel_rfl) rfl rfl rfl (OpG.storeRow (a := some ⟨b3, 0, none⟩) K19_sz27 rfl rfl rfl (by repeat (first | exact Upd.here | apply Upd.there)) (by simp)) ?_
  rintro _ _
  refine RT.done (by kernel_rfl) ?_
  refine PX.block_n (PX.then_n (CT.region ?_))
  refine Wl.q rfl rfl (OpQ.add rfl rfl (by omega)) ?_
  refine Wl.q rfl rfl (OpQ.move rfl) ?_
  refine Wl.nil ?_
  refine PX.as (fun _ h => h.take (.cons (.there (.there .here)) (.cons (.there (.there .here)) (.cons (.there (.there .here)) (.cons (.there (.there .here)) (.cons (.there (.there .here)) (.cons (.there (.there .here)) (.cons (.there (.there .here)) (.cons (.there (.there .here)) (.cons (.there (.there .here)) .nil)))))))))) ?_
  exact PX.loop hK0 (k + 1, a32, c32) (show k + 1 ≤ vs.length by omega) (show vs.length - (k + 1) < vs.length - k by omega) ⟨rfl, rfl, rfl, rfl, rfl, trivial⟩ (HSub.refl _)
 ·
  have h24 := of_decide_eq_false h24
  obtain rfl : k = vs.length := by omega
  refine CT.exit (PX.then_x (PX.then_x (PX.block_x (PX.then_n (CT.seq (CT.region ?_))))))
  refine Wl.q rfl rfl (OpQ.loadV (b := b3) K19_ag30 K19_sz30 rfl (by repeat (first | exact Has.here | apply Has.there)) (by rfl)) ?_
  refine Wl.g rfl rfl (OpG.storeV (b := b2) K19_sz30 rfl rfl rfl rfl (by repeat (first | exact Upd.here | apply Upd.there))) ?_
  rintro _ _
  refine Wl.nil (PX.then_n (CT.ret ?_))
  refine PX.retC rfl rfl (by repeat (first | exact Has.here | apply Has.there)) K19_ag30 K19_sz30 (by rfl) (fun w' hH => ?_)
  have hval : dvv (⟨2, 0, fa, fc, hasT vs vs.length, na, nc, rs⟩ : Dv) = .agg #[.int .i64 2, .int .i64 0, .slice fa vs.length fc, .slice na rs.length nc] := by
   show Value.agg #[.int .i64 2, .int .i64 0, .slice fa (hasT vs vs.length).length fc, .slice na rs.length nc] = _
   rw [hasT_len (Nat.le_refl _)]
  exact ⟨((⟨2, 0, fa, fc, hasT vs vs.length, na, nc, rs⟩ : Dv), _), ⟨rfl, rfl, hM.fin, hM.nx hi hasU⟩, by rw [hval], ((hH.bind (L := [.frag gs (rws rs), .row 4 1 (.slice fa (vs.length) fc) (vs.length) ((hasT vs (vs.length)).map bo), .row 62 1 (.slice na (rs).length nc) (rs).length ((rs).map rv)]) (p := dvm (⟨2, 0, fa, fc, hasT vs vs.length, na, nc, rs⟩ : Dv)) (.cons (.there (.there (.there (.there (.there (.there (.there .here))))))) (.cons .here (.cons (.there (.there (.there (.there (.there .here))))) .nil))) (fun w hk => ⟨Rd.of_owns (hk _ (List.mem_cons_of_mem _ List.mem_cons_self)), Rd.of_owns (hk _ (List.mem_cons_of_mem _ (List.mem_cons_of_mem _ List.mem_cons_self))), (hk _ List.mem_cons_self).2 w (fun _ _ => rfl)⟩)).take (.cons .here .nil)).post⟩

theorem K19_go32 : isGo Tryz.prog 32 = true := by kernel_rfl
theorem K19_go21 : isGo Tryz.prog 21 = true := by kernel_rfl
theorem K19_go33 : isGo Tryz.prog 33 = true := by kernel_rfl
theorem K19_go34 : isGo Tryz.prog 34 = true := by kernel_rfl
theorem K19_go35 : isGo Tryz.prog 35 = true := by kernel_rfl
theorem K19_go36 : isGo Tryz.prog 36 = true := by kernel_rfl
set_option maxRecDepth 100000 in
set_option maxHeartbeats 1000000 in
/-- semigroup/derive.Build -/
theorem build_spec (w : World) (v : Xv) (hv : Stays [] w (evm v)) : Calls Tryz.prog 17 #[evv v, .int .i64 2] w (fun e w' => ∃ z : Dv × List Nat × Int, (BuildR (toE v) z.1.da z.2.2 ∧ (z.2.2 = 0 → z.1.Ok)) ∧ e = .returned (.tuple #[dvv z.1, .int .i64 z.2.2]) ∧ Post [] [.frag z.2.1 (dvm z.1)] w w') := by
 refine enter (args := [evv v, .int .i64 2]) [] 31 Tryz.func17 rfl rfl rfl ?_
 refine CT.seq (CT.region ?_)
 refine Wl.g rfl rfl (OpG.box (size := 3) rfl rfl rfl) ?_
 rintro b2 _
 refine Wl.g rfl rfl (OpG.alloc (zs := [.int .i64 0, .int .i64 0, .slice none 0 0, .slice none 0 0]) K19_in30 rfl rfl) ?_
 rintro b4 _
 refine Wl.q rfl rfl (OpQ.assign rfl) ?_
 refine Wl.nil (PX.then_n (CT.seq (CT.seq (CT.region ?_))))
 refine Wl.q rfl rfl (OpQ.loadV (b := b2) K19_ag24 K19_sz24 rfl (by repeat (first | exact Has.here | apply Has.there)) (by rfl)) ?_
 refine Wl.know 9 (v' := evv v) rfl rfl ?_
 refine Wl.q rfl rfl (OpQ.move rfl) ?_
 refine Wl.g rfl rfl (OpG.callV K19_go32 rfl (fun w hH => exvalid_spec w v (hH.stays0 hv) 2)) ?_
 rintro _ _
 refine Wl.q rfl rfl (OpQ.assign rfl) ?_
 refine Wl.nil (PX.then_n (CT.seq (CT.region ?_)))
 refine Wl.q rfl rfl (OpQ.move rfl) ?_
 refine Wl.q rfl rfl (OpQ.neq rfl rfl) ?_
 refine Wl.nil (PX.then_n ?_)
 refine CT.cond rfl (fun h13 => ?_) (fun h13 => ?_)
 ·
  have h13 := of_nd_t h13
  refine CT.seq (CT.region ?_)
  refine Wl.q rfl rfl (OpQ.build (cells := #[.int .i64 0, .int .i64 0, .slice none 0 0, .slice none 0 0]) K19_pl30 rfl rfl) ?_
  refine Wl.q rfl rfl (OpQ.move rfl) ?_
  refine Wl.g rfl rfl (OpG.storeV (b := b4) K19_sz30 rfl rfl rfl rfl (by repeat (first | exact Upd.here | apply Upd.there))) ?_
  rintro _ _
  refine Wl.q rfl rfl (OpQ.assign rfl) ?_
  refine Wl.nil (PX.then_n (CT.ret (PX.then_r ?_)))
  refine PX.retC2 rfl rfl rfl (by repeat (first | exact Has.here | apply Has.there)) K19_ag30 K19_sz30 (by rfl) (fun w' hH => ?_)
  exact ⟨(dv0, [], vdE 2 (toE v)), ⟨.inl ⟨h13, rfl⟩, fun h0 => absurd h0 h13⟩, rfl, ((hH.bind0 (p := dvm dv0) dvm0).take (.cons .here .nil)).post⟩
 ·
  have h13 := of_nd_f h13
  have hs6 := simp_vd (vd26 h13)
  refine CT.skip (PX.then_n (CT.seq (CT.region ?_)))
  refine Wl.q rfl rfl (OpQ.loadV (b := b2) K19_ag24 K19_sz24 rfl (by repeat (first | exact Has.here | apply Has.there)) (by rfl)) ?_
  refine Wl.know 16 (v' := evv v) rfl rfl ?_
  refine Wl.g rfl rfl (OpG.callX K19_go21 rfl .nil (fun _ => (.cons .nil)) (fun w hH hp => normal_spec w v (hH.stays0 hv))) ?_
  rintro ⟨r17, bs17⟩ h17
  have h17 : toE r17 = simp (toE v) := by
   dsimp only at h17; rw [if_pos (vd26 h13)] at h17; exact h17
  refine Wl.q rfl rfl (OpQ.move rfl) ?_
  refine Wl.g rfl rfl (OpG.callX K19_go33 rfl .nil (fun _ => (.cons (.cons (.cons .nil)))) (fun w hH hp => begin_spec w r17 (fun w' he => ((hH.staysK0 (show Has _ (fx (AllM [v]) ([r17]) bs17) from (by repeat (first | exact Has.here | apply Has.there)))).frag w' he (((hH.stays0 hv).mono (fun w h => AllM.one.2 h)) w' he)) r17 List.mem_cons_self) (by rw [h17]; exact hs6))) ?_
  rintro ⟨b, m, a0, c0⟩ _
  refine Wl.q rfl rfl (OpQ.assign rfl) ?_
  refine Wl.nil (PX.then_n (CT.seq (CT.block ?_)))
  refine CT.nilrow 62 1 ?_
  refine CT.as (fun _ h => h.bind0 (p := rws []) (rws_nil)) ?_
  refine CT.as (fun _ h => h.take (.cons (.there (.there .here)) (.cons (.there (.there .here)) (.cons (.there (.there (.there .here))) (.cons (.there .here) (.cons .here (.cons .here (.cons .here (.cons .here .nil))))))))) ?_
  refine CT.loop (ι := Nat × List Xv × Option Addr × Nat × List Nat × Option Addr × Nat × List Rw × List Nat) (fun (i, vs, a, c, bs, na, nc, rs, gs) => DrM (simp (toE v)) vs rs i) (fun (i, vs, a, c, bs, na, nc, rs, gs) => [(4, .pointer (some ⟨b4, 0, none⟩)), (5, .int .i64 0), (7, .pointer (some ⟨b, 0, none⟩))]) (fun (i, vs, a, c, bs, na, nc, rs, gs) => [.row 68 5 (vb b) 1 [.int .i64 2, .slice a (vs).length c, .slice na (rs).length nc, .int .i64 ((i : Nat) : Int), .map (some m)], .row 24 3 (.slice a (vs).length c) (vs).length ((vs).flatMap evc), fx (AllM [v]) (vs) bs, .row 62 1 (.slice na (rs).length nc) (rs).length ((rs).map rv), .frag gs (rws rs), .blk m (mapO sv (itA 0 ((vs).map txk))), .row 30 4 (vb b4) 1 [.int .i64 0, .int .i64 0, .slice none 0 0, .slice none 0 0], .row 24 3 (vb b2) 1 (evc v)]) (fun (i, vs, a, c, bs, na, nc, rs, gs) => 512 - i) (0, [r17], a0, c0, bs17, none, 0, [], []) (DrM.start hs6 h17) ⟨rfl, rfl, rfl, trivial⟩ (HSub.refl _) (fun ⟨i, vs, a, c, bs, na, nc, rs, gs⟩ hM K0 hK0 => ?_)
  dsimp only
  dsimp only at hM
  refine CT.seq (CT.seq (CT.region ?_))
  refine Wl.q rfl rfl (OpQ.move rfl) ?_
  refine Wl.g rfl rfl (OpG.callX K19_go34 rfl (.cons .here .nil) (fun _ => (.cons .nil)) (fun w hH hp => rfin_spec w b (.int .i64 2) (.slice na rs.length nc) (.map (some m)) a vs.length c ((i : Nat) : Int) hp)) ?_
  rintro _ _
  refine Wl.q rfl rfl (OpQ.not rfl) ?_
  refine Wl.nil (PX.then_n ?_)
  refine CT.cond rfl (fun h22 => ?_) (fun h22 => ?_)
  ·
   have hlt : i < vs.length := by have h : ¬ ((i : Nat) : Int) = ((vs.length : Nat) : Int) := of_nd_t h22; have := hM.le; omega
   refine CT.skip (PX.then_n (CT.block (CT.seq (CT.region ?_))))
   refine Wl.q rfl rfl (OpQ.move rfl) ?_
   refine Wl.g rfl rfl (OpG.callX K19_go35 rfl (.cons .here (.cons .here (.cons .here (.cons .here (.cons .here (.cons .here .nil)))))) (fun _ => (.cons (.cons (.cons (.cons (.cons (.cons .nil))))))) (fun w hH hp => rproc_spec w b m (AllM [v]) (simp (toE v)) vs a c bs na nc rs gs i hp (hH.stays (hv.mono (fun w h => AllM.one.2 h)) (.cons .here (.cons .here (.cons .here (.cons .here (.cons .here (.cons .here .nil))))))) hM hlt)) ?_
   rintro ⟨vs2, a2, c2, bs2, na2, nc2, rs2, gs2, i2, er⟩ hp2
   dsimp only at hp2
   refine Wl.q rfl rfl (OpQ.assign rfl) ?_
   refine Wl.nil (PX.then_n (CT.seq (CT.region ?_)))
   refine Wl.q rfl rfl (OpQ.move rfl) ?_
   refine Wl.q rfl rfl (OpQ.neq rfl rfl) ?_
   refine Wl.nil (PX.then_n ?_)
   refine CT.cond rfl (fun h26 => ?_) (fun h26 => ?_)
   ·
    have h26 := of_nd_t h26
    obtain ⟨rfl, hbad⟩ := hp2.resolve_left (fun hh => h26 hh.1)
    refine CT.seq (CT.region ?_)
    refine Wl.q rfl rfl (OpQ.build (cells := #[.int .i64 0, .int .i64 0, .slice none 0 0, .slice none 0 0]) K19_pl30 rfl rfl) ?_
    refine Wl.q rfl rfl (OpQ.move rfl) ?_
    refine Wl.g rfl rfl (OpG.storeV (b := b4) K19_sz30 rfl rfl rfl rfl (by repeat (first | exact Upd.here | apply Upd.there))) ?_
    rintro _ _
    refine Wl.q rfl rfl (OpQ.assign rfl) ?_
    refine Wl.nil (PX.then_n (CT.ret (PX.block_r (PX.then_r (PX.block_r (PX.then_r ?_))))))
    refine PX.retC2 rfl rfl rfl (by repeat (first | exact Has.here | apply Has.there)) K19_ag30 K19_sz30 (by rfl) (fun w' hH => ?_)
    exact ⟨(dv0, [], 3), ⟨.inr ⟨h13, .inr ⟨rfl, hbad.out⟩⟩, fun h0 => absurd h0 (by decide)⟩, rfl, ((hH.bind0 (p := dvm dv0) dvm0).take (.cons .here .nil)).post⟩
   ·
    have h26 := of_nd_f h26
    obtain ⟨_, hM2, rfl⟩ := hp2.resolve_right (fun hh => by have h1 := hh.1; have h2 : er = 0 := h26; omega)
    refine CT.skip (PX.block_n ?_)
    exact PX.loop hK0 (i + 1, vs2, a2, c2, bs2, na2, nc2, rs2, gs2) hM2 (show 512 - (i + 1) < 512 - i by have := hM.vl; omega) ⟨rfl, rfl, rfl, trivial⟩ (HSub.refl _)
  ·
   have hii : i = vs.length := by have h : ((i : Nat) : Int) = ((vs.length : Nat) : Int) := of_nd_f h22; omega
   refine CT.exit (PX.then_x (PX.then_x (PX.block_x (PX.then_n (CT.seq (CT.region ?_))))))
   refine Wl.q rfl rfl (OpQ.move rfl) ?_
   refine Wl.g rfl rfl (OpG.callX K19_go36 rfl (.cons .here (.cons .here (.cons .here (.cons .here (.cons .here (.cons .here .nil)))))) (fun _ => (.cons .nil)) (fun w hH hp => rauto_spec w b m (AllM [v]) (simp (toE v)) vs a c bs na nc rs gs i hp (hH.stays (hv.mono (fun w h => AllM.one.2 h)) (.cons .here (.cons .here (.cons .here (.cons .here (.cons .here (.cons .here .nil))))))) hM hii)) ?_
   rintro ⟨D, gs3⟩ hIs
   dsimp only at hIs
   refine Wl.g rfl rfl (OpG.storeV (b := b4) K19_sz30 rfl rfl rfl rfl (by repeat (first | exact Upd.here | apply Upd.there))) ?_
   rintro _ _
   refine Wl.q rfl rfl (OpQ.assign rfl) ?_
   refine Wl.nil (PX.then_n (CT.ret ?_))
   refine PX.retC2 rfl rfl rfl (by repeat (first | exact Has.here | apply Has.there)) K19_ag30 K19_sz30 (by rfl) (fun w' hH => ?_)
   have hK := hM.done hii
   exact ⟨(D, gs3, 0), ⟨.inr ⟨h13, .inl ⟨rfl, i * 2, hM.dr, hK, hIs.da⟩⟩, fun _ => hIs.ok (autoD_ok hK _) ⟨by show 1 ≤ 2; omega, by show 2 ≤ 6; omega⟩ (by rw [autoD_n]; have := hM.dr.len; show (dS _ _).length ≤ _; omega)⟩, rfl, (hH.take (.cons .here .nil)).post⟩

end Go.Proofs.YtmggcdegekbncabGreatDoor

