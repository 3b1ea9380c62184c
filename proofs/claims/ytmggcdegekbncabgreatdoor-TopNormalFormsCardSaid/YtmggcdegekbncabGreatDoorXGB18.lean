/-
  What functions of the program compute, each by its walk. Conditions: those that each theorem names.
-/
import Derived.Test.YtmggcdegekbncabGreatDoorXGB17
import Derived.Test.YtmggcdegekbncabGreatDoorXF
set_option linter.unusedSimpArgs false
namespace Go.Proofs.YtmggcdegekbncabGreatDoor
open Go Go.Eng Go.Am Go.Ex
open Go.Tp (zi)
open Go.Tl (mayL Wd okW okB bo)
open Go.Ex.simp (simpL)
open Go.Ex.dv (dvL dvC)
open Go.Ex.hasU (hasAny hasAll)
open Go.Ex.wf (wfL)
open Go.Ex.szE (szL)
open Go.Ex.dpE (dpL)
open Go.Ex.cmpE (cmpL)
open Go.Ex.fmtE (fmtK fmtR)
theorem K18_mkS : MapKey Tryz.prog 9 sv := MapKey.str (by kernel_rfl)
theorem K18_sz3 : sizeB Tryz.prog 3 = some 1 := by kernel_rfl
theorem K18_un28 : Tryz.prog.underlying 28 = some (.slice 62) := by kernel_rfl
theorem K18_in62 : (Tryz.prog.info? 62).map (fun i => (i.zero, i.size, i.bytes)) = some (some (.slice none 0 0), 1, 24) := by kernel_rfl
theorem K18_fa68_0 : fieldB Tryz.prog 68 0 = some 0 := by kernel_rfl
theorem K18_fa43_0 : fieldB Tryz.prog 43 0 = some 0 := by kernel_rfl
theorem K18_sc3 : scalarB Tryz.prog 3 = some true := by kernel_rfl
theorem K18_un62 : Tryz.prog.underlying 62 = some (.slice 3) := by kernel_rfl
theorem K18_in3 : (Tryz.prog.info? 3).map (fun i => (i.zero, i.size, i.bytes)) = some (some (.int .i64 0), 1, 8) := by kernel_rfl
theorem K18_mixed : Tryz.prog.follows .mixedOrders = true := by kernel_rfl
theorem K18_fa43_1 : fieldB Tryz.prog 43 1 = some 1 := by kernel_rfl
theorem K18_sc22 : scalarB Tryz.prog 22 = some true := by kernel_rfl
theorem K18_fa43_3 : fieldB Tryz.prog 43 3 = some 3 := by kernel_rfl
theorem K18_un22 : Tryz.prog.underlying 22 = some (.slice 24) := by kernel_rfl
theorem K18_sz24 : sizeB Tryz.prog 24 = some 3 := by kernel_rfl
theorem K18_ag24 : isAggB Tryz.prog 24 = some true := by kernel_rfl
theorem K18_go60 : isGo Tryz.prog 60 = true := by kernel_rfl
theorem K18_in24 : (Tryz.prog.info? 24).map (fun i => (i.zero, i.size, i.bytes)) = some (some (.agg #[.int .i64 0, .int .i64 0, .slice none 0 0]), 3, 40) := by kernel_rfl
theorem K18_fa68_1 : fieldB Tryz.prog 68 1 = some 4 := by kernel_rfl
theorem K18_sc66 : scalarB Tryz.prog 66 = some true := by kernel_rfl
theorem K18_go23 : isGo Tryz.prog 23 = true := by kernel_rfl
theorem K18_un66 : Tryz.prog.underlying 66 = some (.map 9 3) := by kernel_rfl
theorem K18_go59 : isGo Tryz.prog 59 = true := by kernel_rfl
theorem K18_fa43_2 : fieldB Tryz.prog 43 2 = some 2 := by kernel_rfl
theorem K18_sc28 : scalarB Tryz.prog 28 = some true := by kernel_rfl
theorem K18_sz28 : sizeB Tryz.prog 28 = some 1 := by kernel_rfl
set_option maxRecDepth 100000 in
set_option maxHeartbeats 2000000 in
/-- (*semigroup/derive.run).process -/
theorem rproc_spec (w : World) (b m : Nat) (A : World → Prop) (s : Ex) (vs : List Xv) (a : Option Addr) (c : Nat) (bs : List Nat) (na : Option Addr) (nc : Nat) (rs : List Rw) (gs : List Nat) (i : Nat) (hpre : Pre [.row 68 5 (vb b) 1 [.int .i64 2, .slice a (vs).length c, .slice na (rs).length nc, .int .i64 ((i : Nat) : Int), .map (some m)], .row 24 3 (.slice a (vs).length c) (vs).length ((vs).flatMap evc), fx A (vs) bs, .row 62 1 (.slice na (rs).length nc) (rs).length ((rs).map rv), .frag gs (rws rs), .blk m (mapO sv (itA 0 ((vs).map txk)))] w) (hA : Stays (blks [.row 68 5 (vb b) 1 [.int .i64 2, .slice a (vs).length c, .slice na (rs).length nc, .int .i64 ((i : Nat) : Int), .map (some m)], .row 24 3 (.slice a (vs).length c) (vs).length ((vs).flatMap evc), fx A (vs) bs, .row 62 1 (.slice na (rs).length nc) (rs).length ((rs).map rv), .frag gs (rws rs), .blk m (mapO sv (itA 0 ((vs).map txk)))]) w A) (hM : DrM s vs rs i) (hi : i < vs.length) : Calls Tryz.prog 35 #[.pointer (some ⟨b, 0, none⟩)] w (fun e w' => ∃ z : List Xv × Option Addr × Nat × List Nat × Option Addr × Nat × List Rw × List Nat × Nat × Int, ((z.2.2.2.2.2.2.2.2.2 = 0 ∧ DrM s z.1 z.2.2.2.2.2.2.1 (i + 1) ∧ z.2.2.2.2.2.2.2.2.1 = i + 1) ∨ (z.2.2.2.2.2.2.2.2.2 = 3 ∧ BadE s i)) ∧ e = .returned (.int .i64 z.2.2.2.2.2.2.2.2.2) ∧ Post (blks [.row 68 5 (vb b) 1 [.int .i64 2, .slice a (vs).length c, .slice na (rs).length nc, .int .i64 ((i : Nat) : Int), .map (some m)], .row 24 3 (.slice a (vs).length c) (vs).length ((vs).flatMap evc), fx A (vs) bs, .row 62 1 (.slice na (rs).length nc) (rs).length ((rs).map rv), .frag gs (rws rs), .blk m (mapO sv (itA 0 ((vs).map txk)))]) [.row 68 5 (vb b) 1 [.int .i64 2, .slice z.2.1 (z.1).length z.2.2.1, .slice z.2.2.2.2.1 (z.2.2.2.2.2.2.1).length z.2.2.2.2.2.1, .int .i64 ((z.2.2.2.2.2.2.2.2.1 : Nat) : Int), .map (some m)], .row 24 3 (.slice z.2.1 (z.1).length z.2.2.1) (z.1).length ((z.1).flatMap evc), fx A (z.1) z.2.2.2.1, .row 62 1 (.slice z.2.2.2.2.1 (z.2.2.2.2.2.2.1).length z.2.2.2.2.2.1) (z.2.2.2.2.2.2.1).length ((z.2.2.2.2.2.2.1).map rv), .frag z.2.2.2.2.2.2.2.1 (rws z.2.2.2.2.2.2.1), .blk m (mapO sv (itA 0 ((z.1).map txk)))] w w') := by
 have hi0 : i < (dS s (i * 2)).length := by rw [← len_of hM.vs]; exact hi
 refine enterX (args := [.pointer (some ⟨b, 0, none⟩)]) hpre 88 Tryz.func35 rfl rfl rfl ?_
 refine CT.seq (CT.region ?_)
 refine Wl.q rfl rfl (OpQ.assign rfl) ?_
 refine Wl.nil (PX.then_n (CT.seq (CT.region ?_)))
 refine Wl.q rfl rfl (OpQ.move rfl) ?_
 refine Wl.q rfl rfl (OpQ.nilCheckP rfl) ?_
 refine Wl.q rfl rfl (OpQ.fieldAddr K18_fa68_0 rfl) ?_
 refine Wl.q rfl rfl (OpQ.fieldAddr K18_fa43_0 rfl) ?_
 refine Wl.know 12 rfl (add_ptr _ _ _) ?_
 refine Wl.q rfl rfl (OpQ.loadF (b := b) K18_sc3 rfl (by repeat (first | exact Has.here | apply Has.there)) (by rfl)) ?_
 refine Wl.know 13 (v' := .int .i64 ((2 : Nat) : Int)) rfl rfl ?_
 refine Wl.g rfl rfl (OpG.make1 K18_un62 K18_in3 rfl rfl rfl rfl (by omega) (by omega)) ?_
 rintro b14 _
 refine Wl.q rfl rfl (OpQ.assign rfl) ?_
 refine Wl.nil (PX.then_n (CT.seq (CT.seq (CT.region ?_))))
 refine Wl.q rfl rfl (OpQ.move rfl) ?_
 refine Wl.q rfl rfl (OpQ.len K18_un62 rfl) ?_
 refine Wl.q rfl rfl (OpQ.move rfl) ?_
 refine Wl.nil (PX.then_n (CT.block ?_))
 refine CT.as (fun _ h => h.take (.cons (.there (.there (.there .here))) (.cons .here (.cons .here (.cons .here (.cons .here (.cons .here (.cons .here .nil)))))))) ?_
 refine CT.loop (ι := Nat × List Xv × Option Addr × Nat × List Nat) (fun (x, vs, a, c, bs) => x ≤ 2 ∧ DrI s (i * 2 + x) ∧ vs.map toE = (dS s (i * 2 + x))) (fun (x, vs, a, c, bs) => [(0, .pointer (some ⟨b, 0, none⟩)), (3, .slice (some ⟨b14, 0, none⟩) 2 2), (15, .slice (some ⟨b14, 0, none⟩) 2 2), (16, .int .i64 2), (17, .int .i64 ((x : Nat) : Int))]) (fun (x, vs, a, c, bs) => [fx A (vs) bs, .row 3 1 (.slice (some ⟨b14, 0, none⟩) 2 2) 2 ((rowP dF 2 (dS s (i * 2 + x)) ((dS s (i * 2)).getD i s) (x)).map zz), .row 68 5 (vb b) 1 [.int .i64 2, .slice a (vs).length c, .slice na (rs).length nc, .int .i64 ((i : Nat) : Int), .map (some m)], .row 24 3 (.slice a (vs).length c) (vs).length ((vs).flatMap evc), .row 62 1 (.slice na (rs).length nc) (rs).length ((rs).map rv), .frag gs (rws rs), .blk m (mapO sv (itA 0 ((vs).map txk)))]) (fun (x, vs, a, c, bs) => 2 - x) (0, vs, a, c, bs) ⟨by omega, hM.dr, hM.vs⟩ ⟨rfl, rfl, rfl, rfl, rfl, trivial⟩ (.keep rfl (.keep (row_eq (by rw [rowP_zero]; rfl)) (HSub.refl _))) (fun ⟨x, vs, a, c, bs⟩ ⟨hx, hd, hv⟩ K0 hK0 => ?_)
 dsimp only
 have hvl : vs.length = (dS s (i * 2 + x)).length := len_of hv
 have hiv : i < vs.length := by rw [hvl]; exact Nat.lt_of_lt_of_le hi0 (bfs_le (by omega))
 have hva : toE (vs.getD i ev0) = ((dS s (i * 2)).getD i s) := by rw [at_of hv hiv s, bfs_get (by omega) hi0]
 refine CT.fact (p := a.isSome = true) (fun w hH => (hH.rd (show Has _ (.row 24 3 (.slice a (vs).length c) (vs).length ((vs).flatMap evc)) from (by repeat (first | exact Has.here | apply Has.there)))).isSome (j := 0) (by rw [evcs_len]; omega)) (fun ha => ?_)
 have hvd := hd.all (toE (vs.getD i ev0)) (by rw [← hv]; exact List.mem_map.2 ⟨_, getD_memx hiv, rfl⟩)
 obtain ⟨hfz, hfw⟩ := vd_sz hvd
 have hl512 : vs.length ≤ 512 := by rw [hvl]; exact hd.len
 refine CT.seq (CT.region ?_)
 refine Wl.q rfl rfl (OpQ.lss rfl rfl) ?_
 refine Wl.nil (PX.then_n (CT.seq ?_))
 refine CT.cond rfl (fun h18 => ?_) (fun h18 => ?_)
 ·
  have h18 := of_decide_eq_true h18
  have hxl : x < 2 := by omega
  refine CT.skip (PX.then_n (CT.seq (CT.block (CT.seq (CT.region ?_)))))
  refine Wl.q rfl rfl (OpQ.move rfl) ?_
  refine Wl.q rfl rfl (OpQ.assign rfl) ?_
  refine Wl.nil (PX.then_n ?_)
  refine CT.cut (ι := Nat × Xv × List Nat) (Φ := fun (b5, r, bsr) => toE r = if vdE 6 ((dv true ((x : Nat) : Int) (toE (vs.getD i ev0))).by') = 0 then (dv true ((x : Nat) : Int) (toE (vs.getD i ev0))).by' else zeroE) (E' := fun (b5, r, bsr) => [(0, .pointer (some ⟨b, 0, none⟩)), (3, .slice (some ⟨b14, 0, none⟩) 2 2), (15, .slice (some ⟨b14, 0, none⟩) 2 2), (16, .int .i64 2), (17, .int .i64 ((x : Nat) : Int)), (4, .int .i64 ((x : Nat) : Int)), (5, .pointer (some ⟨b5, 0, none⟩)), (6, .int .i64 (if vdE 6 ((dv true ((x : Nat) : Int) (toE (vs.getD i ev0))).by') = 0 then (0 : Int) else 3))]) (H' := fun (b5, r, bsr) => [.row 24 3 (vb b5) 1 (evc r), fx (AllM [(vs.getD i ev0)]) [r] bsr, fx A (vs) bs, .row 3 1 (.slice (some ⟨b14, 0, none⟩) 2 2) 2 ((rowP dF 2 (dS s (i * 2 + x)) ((dS s (i * 2)).getD i s) (x)).map zz), .row 68 5 (vb b) 1 [.int .i64 2, .slice a (vs).length c, .slice na (rs).length nc, .int .i64 ((i : Nat) : Int), .map (some m)], .row 24 3 (.slice a (vs).length c) (vs).length ((vs).flatMap evc), .row 62 1 (.slice na (rs).length nc) (rs).length ((rs).map rv), .frag gs (rws rs), .blk m (mapO sv (itA 0 ((vs).map txk)))]) (fun K1 hK1 => ?_) (fun ⟨b5, r, bsr⟩ hr0 => ?_)
  ·
   refine CT.draw 20 K18_mixed ?_
   refine RA.q 0 (by kernel_rfl) rfl rfl rfl (.refl _) (OpQ.move rfl) ?_
   refine RA.q 1 (by kernel_rfl) rfl rfl rfl (.refl _) (OpQ.nilCheckP rfl) ?_
   refine RA.q 2 (by kernel_rfl) rfl rfl rfl (.refl _) (OpQ.fieldAddr K18_fa68_0 rfl) ?_
   refine RA.q 3 (by kernel_rfl) rfl rfl rfl (.refl _) (OpQ.fieldAddr K18_fa43_1 rfl) ?_
   refine RA.know 24 rfl (add_ptr _ _ _) ?_
   refine RA.q 4 (by kernel_rfl) rfl rfl rfl (.refl _) (OpQ.loadF (b := b) K18_sc22 rfl (by repeat (first | exact Has.here | apply Has.there)) (by rfl)) ?_
   refine RA.q 5 (by kernel_rfl) rfl rfl rfl (.refl _) (OpQ.move rfl) ?_
   refine RA.q 6 (by kernel_rfl) rfl rfl rfl (.refl _) (OpQ.nilCheckP rfl) ?_
   refine RA.q 7 (by kernel_rfl) rfl rfl rfl (.refl _) (OpQ.fieldAddr K18_fa68_0 rfl) ?_
   refine RA.q 8 (by kernel_rfl) rfl rfl rfl (.refl _) (OpQ.fieldAddr K18_fa43_3 rfl) ?_
   refine RA.know 29 rfl (add_ptr _ _ _) ?_
   refine RA.q 9 (by kernel_rfl) rfl rfl rfl (.refl _) (OpQ.loadF (b := b) K18_sc3 rfl (by repeat (first | exact Has.here | apply Has.there)) (by rfl)) ?_
   refine RA.q 10 (by kernel_rfl) rfl rfl rfl (.refl _) (OpQ.index K18_un22 K18_sz24 rfl rfl (by omega) ha) ?_
   refine RA.q 11 (by kernel_rfl) rfl rfl rfl (.refl _) (OpQ.loadAggG (cs := evc (vs.getD i ev0)) K18_ag24 K18_sz24 rfl (fun w hH => hH.rd (show Has _ (.row 24 3 (.slice a (vs).length c) (vs).length ((vs).flatMap evc)) from (by repeat (first | exact Has.here | apply Has.there)))) (flat_cells evc_len vs ev0 (by omega))) ?_
   refine RA.know 32 (v' := evv (vs.getD i ev0)) rfl rfl ?_
   refine RA.q 12 (by kernel_rfl) rfl rfl rfl (.refl _) (OpQ.move rfl) ?_
   refine RA.two 13 17 (by kernel_rfl) rfl rfl rfl (OpG.callX K18_go60 rfl .nil (fun _ => (.cons .nil)) (fun w hH hp => byL_spec w (vs.getD i ev0) ((x : Nat) : Int) hfz hfw (fun w' he => ((hH.staysK0 (show Has _ (fx A (vs) bs) from (by repeat (first | exact Has.here | apply Has.there)))).frag w' he ((hH.stays0 hA) w' he)) _ (getD_memx hiv)))) (fun _ _ => (.cons _ (.refl _))) rfl rfl rfl (OpG.alloc (zs := [.int .i64 0, .int .i64 0, .slice none 0 0]) K18_in24 rfl rfl) (fun _ _ => (.cons _ (.refl _))) ?_ ?_
   ·
    rintro ⟨r, bsr⟩ hr0
    refine RA.q 14 (by kernel_rfl) rfl rfl rfl (.cons _ (.refl _)) (OpQ.move rfl) ?_
    refine RA.q 15 (by kernel_rfl) rfl rfl rfl (.cons _ (.refl _)) (OpQ.extract rfl rfl) ?_
    refine RA.q 16 (by kernel_rfl) rfl rfl rfl (.cons _ (.refl _)) (OpQ.extract rfl rfl) ?_
    refine RA.f 17 (by kernel_rfl) rfl rfl rfl (OpG.alloc (zs := [.int .i64 0, .int .i64 0, .slice none 0 0]) K18_in24 rfl rfl) (fun _ _ => (.cons _ (.cons _ (.refl _)))) ?_
    rintro b5 _
    refine RA.f 18 (by kernel_rfl) rfl rfl rfl (OpG.storeV (b := b5) K18_sz24 rfl rfl rfl rfl (by repeat (first | exact Upd.here | apply Upd.there))) (fun _ _ => (.cons _ (.cons _ (.refl _)))) ?_
    rintro _ _
    refine RA.q 19 (by kernel_rfl) rfl rfl rfl (.cons _ (.cons _ (.refl _))) (OpQ.assign rfl) ?_
    refine RA.tail ?_
    refine RT.done (by kernel_rfl) ?_
    exact PX.cut hK1 (b5, r, bsr) hr0 ⟨rfl, rfl, rfl, rfl, rfl, rfl, rfl, rfl, trivial⟩ (HSub.refl _)
   ·
    rintro b5 _
    refine RA.f 13 (by kernel_rfl) rfl rfl rfl (OpG.callX K18_go60 rfl .nil (fun _ => (.cons .nil)) (fun w hH hp => byL_spec w (vs.getD i ev0) ((x : Nat) : Int) hfz hfw (fun w' he => ((hH.staysK0 (show Has _ (fx A (vs) bs) from (by repeat (first | exact Has.here | apply Has.there)))).frag w' he ((hH.stays0 hA) w' he)) _ (getD_memx hiv)))) (fun _ _ => (.cons _ (.cons _ (.refl _)))) ?_
    rintro ⟨r, bsr⟩ hr0
    refine RA.q 14 (by kernel_rfl) rfl rfl rfl (.cons _ (.cons _ (.refl _))) (OpQ.move rfl) ?_
    refine RA.q 15 (by kernel_rfl) rfl rfl rfl (.cons _ (.cons _ (.refl _))) (OpQ.extract rfl rfl) ?_
    refine RA.q 16 (by kernel_rfl) rfl rfl rfl (.cons _ (.cons _ (.refl _))) (OpQ.extract rfl rfl) ?_
    refine RA.f 18 (by kernel_rfl) rfl rfl rfl (OpG.storeV (b := b5) K18_sz24 rfl rfl rfl rfl (by repeat (first | exact Upd.here | apply Upd.there))) (fun _ _ => (.cons _ (.cons _ (.refl _)))) ?_
    rintro _ _
    refine RA.q 19 (by kernel_rfl) rfl rfl rfl (.cons _ (.cons _ (.refl _))) (OpQ.assign rfl) ?_
    refine RA.tail ?_
    refine RT.perm (.swap _ _ _) ?_
    refine RT.done (by kernel_rfl) ?_
    exact PX.cut hK1 (b5, r, bsr) hr0 ⟨rfl, rfl, rfl, rfl, rfl, rfl, rfl, rfl, trivial⟩ (HSub.refl _)
  ·
   dsimp only
   refine CT.seq (CT.seq (CT.region ?_))
   refine Wl.q rfl rfl (OpQ.move rfl) ?_
   refine Wl.q rfl rfl (OpQ.neq rfl rfl) ?_
   refine Wl.nil (PX.then_n ?_)
   refine CT.cond rfl (fun h38 => ?_) (fun h38 => ?_)
   ·
    have hb : ¬ vdE 6 ((dv true ((x : Nat) : Int) (toE (vs.getD i ev0))).by') = 0 := fun hh => by rw [if_pos hh] at h38; exact absurd h38 (by decide)
    refine CT.seq (CT.region ?_)
    refine Wl.q rfl rfl (OpQ.move rfl) ?_
    refine Wl.know 39 (v' := .int .i64 3) rfl (congrArg (Value.int .i64) (if_neg hb)) ?_
    refine Wl.q rfl rfl (OpQ.assign rfl) ?_
    refine Wl.nil (PX.then_n (CT.ret (PX.then_r (PX.block_r (PX.then_r (PX.then_r (PX.block_r (PX.then_r ?_))))))))
    refine PX.ret1 rfl rfl (fun w' hH => ?_)
    exact ⟨(vs, a, c, bs, na, nc, rs, gs, i, 3), .inr ⟨rfl, dr_bad hd hxl hi0 (.inl (by rw [dT_row hxl hi0, ← hva]; exact hb))⟩, rfl, HOk.post (hH.take (.cons (.there (.there (.there (.there .here)))) (.cons (.there (.there (.there (.there .here)))) (.cons (.there (.there .here)) (.cons (.there (.there (.there .here))) (.cons (.there (.there (.there .here))) (.cons (.there (.there (.there .here))) .nil)))))))⟩
   ·
    have hb : vdE 6 ((dv true ((x : Nat) : Int) (toE (vs.getD i ev0))).by') = 0 := Classical.byContradiction fun hh => by rw [if_neg hh] at h38; exact absurd h38 (by decide)
    have hr := hr0
    rw [if_pos hb] at hr
    have hrt : toE r = dT s (i * 2 + x) := by rw [hr, dT_row hxl hi0, ← hva]; rfl
    have hrd : vdE 6 (toE r) = 0 := by rw [hr]; exact hb
    have hdv : vdE 6 (dT s (i * 2 + x)) = 0 := by rw [← hrt]; exact hrd
    refine CT.as (fun _ h => (h.take (.cons (.there .here) (.cons (.there .here) (.cons .here (.cons .here (.cons .here (.cons .here (.cons .here (.cons .here (.cons .here .nil)))))))))).fxAdd (us := [(vs.getD i ev0)]) (fun w h => AllM.one.2 (h _ (getD_memx hiv)))) ?_
    refine CT.skip (PX.then_n (CT.seq ?_))
    refine CT.draw 12 K18_mixed ?_
    refine RA.q 0 (by kernel_rfl) rfl rfl rfl (.refl _) (OpQ.move rfl) ?_
    refine RA.q 1 (by kernel_rfl) rfl rfl rfl (.refl _) (OpQ.nilCheckP rfl) ?_
    refine RA.q 2 (by kernel_rfl) rfl rfl rfl (.refl _) (OpQ.fieldAddr K18_fa68_1 rfl) ?_
    refine RA.q 3 (by kernel_rfl) rfl rfl rfl (.refl _) (OpQ.loadF (b := b) K18_sc66 rfl (by repeat (first | exact Has.here | apply Has.there)) (by rfl)) ?_
    refine RA.q 4 (by kernel_rfl) rfl rfl rfl (.refl _) (OpQ.loadV (b := b5) K18_ag24 K18_sz24 rfl (by repeat (first | exact Has.here | apply Has.there)) (by rfl)) ?_
    refine RA.know 45 (v' := evv r) rfl rfl ?_
    refine RA.f 5 (by kernel_rfl) rfl rfl rfl (OpG.callV K18_go23 rfl (fun w hH => format_spec w r (fun w' he => ((hH.staysK0 (show Has _ (fx A ([r] ++ vs) _) from (by repeat (first | exact Has.here | apply Has.there)))).frag w' he ((hH.stays0 hA) w' he)) r List.mem_cons_self))) (fun _ _ => (.refl _)) ?_
    rintro _ _
    refine RA.know 46 (v' := sv (txk r)) rfl (congrArg sv (by rw [if_pos hrd]; rfl)) ?_
    refine RA.q 6 (by kernel_rfl) rfl rfl rfl (.refl _) (OpQ.lookup (f := sv) (x := (txk r)) (l := (itA 0 (vs.map txk))) K18_mkS K18_un66 K18_in3 rfl rfl (by repeat (first | exact Has.here | apply Has.there)) (by rw [if_pos rfl, getA_itA, ix_val, ix_is])) ?_
    refine RA.q 7 (by kernel_rfl) rfl rfl rfl (.refl _) (OpQ.move rfl) ?_
    refine RA.q 8 (by kernel_rfl) rfl rfl rfl (.refl _) (OpQ.extract rfl rfl) ?_
    refine RA.q 9 (by kernel_rfl) rfl rfl rfl (.refl _) (OpQ.extract rfl rfl) ?_
    refine RA.q 10 (by kernel_rfl) rfl rfl rfl (.refl _) (OpQ.assign rfl) ?_
    refine RA.q 11 (by kernel_rfl) rfl rfl rfl (.refl _) (OpQ.assign rfl) ?_
    refine RA.tail ?_
    refine RT.done (by kernel_rfl) ?_
    refine PX.then_n (CT.seq (CT.seq (CT.region ?_)))
    refine Wl.q rfl rfl (OpQ.move rfl) ?_
    refine Wl.q rfl rfl (OpQ.not rfl) ?_
    refine Wl.nil (PX.then_n ?_)
    refine CT.cond rfl (fun h51 => ?_) (fun h51 => ?_)
    ·
     have hix : (ixA (txk r) 0 (vs.map txk)) = none := by simpa using h51
     have hnm : dT s (i * 2 + x) ∉ (dS s (i * 2 + x)) := fun hh => ixA_none hix (by rw [txk_map, hv]; exact List.mem_map.2 ⟨_, hh, by rw [← hrt]; rfl⟩)
     refine CT.seq (CT.seq (CT.region ?_))
     refine Wl.q rfl rfl (OpQ.move rfl) ?_
     refine Wl.q rfl rfl (OpQ.nilCheckP rfl) ?_
     refine Wl.q rfl rfl (OpQ.fieldAddr K18_fa68_0 rfl) ?_
     refine Wl.q rfl rfl (OpQ.fieldAddr K18_fa43_1 rfl) ?_
     refine Wl.know 55 rfl (add_ptr _ _ _) ?_
     refine Wl.q rfl rfl (OpQ.loadF (b := b) K18_sc22 rfl (by repeat (first | exact Has.here | apply Has.there)) (by rfl)) ?_
     refine Wl.q rfl rfl (OpQ.len K18_un22 rfl) ?_
     refine Wl.q rfl rfl (OpQ.eql rfl rfl) ?_
     refine Wl.nil (PX.then_n ?_)
     refine CT.cond rfl (fun h58 => ?_) (fun h58 => ?_)
     ·
      have h58 := of_decide_eq_true h58
      refine CT.seq (CT.region ?_)
      refine Wl.q rfl rfl (OpQ.assign rfl) ?_
      refine Wl.nil (PX.then_n (CT.ret (PX.then_r (PX.then_r (PX.block_r (PX.then_r (PX.then_r (PX.block_r (PX.then_r ?_)))))))))
      refine PX.ret1 rfl rfl (fun w' hH => ?_)
      exact ⟨(vs, a, c, _, na, nc, rs, gs, i, 3), .inr ⟨rfl, dr_bad hd hxl hi0 (.inr ⟨hnm, by omega⟩)⟩, rfl, HOk.post (((hH.take (.cons .here (.cons (.there (.there .here)) (.cons (.there (.there .here)) (.cons (.there (.there .here)) (.cons (.there (.there .here)) (.cons (.there (.there .here)) .nil))))))).fxLess (us := vs) (fun w h => h.snd)).take (.cons (.there .here) (.cons (.there .here) (.cons .here (.cons .here (.cons .here (.cons .here .nil)))))))⟩
     ·
      have h58 := of_decide_eq_false h58
      obtain ⟨hd2, hs2⟩ := dr_out hd hxl hi0 hnm hdv (by omega)
      refine CT.skip (PX.then_n (CT.region ?_))
      refine Wl.q rfl rfl (OpQ.move rfl) ?_
      refine Wl.q rfl rfl (OpQ.loadV (b := b5) K18_ag24 K18_sz24 rfl (by repeat (first | exact Has.here | apply Has.there)) (by rfl)) ?_
      refine Wl.know 60 (v' := evv r) rfl rfl ?_
      refine Wl.g rfl rfl (OpG.callX K18_go59 rfl (.cons (.there (.there (.there .here))) (.cons (.there (.there (.there .here))) (.cons (.there (.there (.there (.there (.there .here))))) .nil))) (fun _ => (.cons (.cons (.cons .nil)))) (fun w hH hp => radd_spec w b m na rs.length nc ((i : Nat) : Int) vs a c r hp hl512 (fun w' he => ((hH.staysK (.cons (.there (.there (.there .here))) (.cons (.there (.there (.there .here))) (.cons (.there (.there (.there (.there (.there .here))))) .nil))) (show Has _ (fx A ([r] ++ vs) _) from (by repeat (first | exact Has.here | apply Has.there)))).frag w' he ((hH.stays hA (.cons (.there (.there (.there .here))) (.cons (.there (.there (.there .here))) (.cons (.there (.there (.there (.there (.there .here))))) .nil)))) w' he)) r List.mem_cons_self) hrd hix)) ?_
      rintro ⟨a61, c61⟩ _
      refine Wl.q rfl rfl (OpQ.assign rfl) ?_
      refine Wl.nil (PX.then_n (CT.region ?_))
      refine Wl.q rfl rfl (OpQ.move rfl) ?_
      refine Wl.q rfl rfl (OpQ.move rfl) ?_
      refine Wl.q rfl rfl (OpQ.move rfl) ?_
      refine Wl.q rfl rfl (OpQ.index1 K18_un62 K18_sz3 rfl rfl (by omega) rfl) ?_
      refine Wl.g rfl rfl (OpG.storeRow (a := some ⟨b14, 0, none⟩) K18_sz3 rfl rfl rfl (by repeat (first | exact Upd.here | apply Upd.there)) (by rw [List.length_map, rowP_len]; show x < _; omega)) ?_
      rintro _ _
      refine Wl.nil (PX.block_n (PX.then_n (CT.region ?_)))
      refine Wl.q rfl rfl (OpQ.add rfl rfl (by omega)) ?_
      refine Wl.q rfl rfl (OpQ.move rfl) ?_
      refine Wl.nil ?_
      refine PX.as (fun _ h => (h.take (.cons (.there (.there (.there .here))) (.cons (.there (.there (.there (.there .here)))) (.cons .here (.cons .here (.cons (.there (.there .here)) (.cons (.there (.there .here)) (.cons .here .nil)))))))).fxLess (us := vs ++ [r]) (fun w h => AllM.app.2 ⟨h.snd, h.fst⟩)) ?_
      exact PX.loop hK0 (x + 1, vs ++ [r], a61, c61, _) ⟨by omega, hd2, by rw [hs2, List.map_append, hv, ← hrt]; rfl⟩ (show 2 - (x + 1) < 2 - x by omega) ⟨rfl, rfl, rfl, rfl, rfl, trivial⟩ (.keep rfl (.keep (row_eq (dr_put (l := (dS s (i * 2 + x))) (v := vs.length) ⟨_, hs2⟩ (bfs_row_mem (by omega) hi0) (by rw [hs2, ← dT_row hxl hi0, idxOf_out hnm, List.idxOf_cons_self, hvl]; rfl)).symm) (HSub.refl _)))
    ·
     have hix : ¬ (ixA (txk r) 0 (vs.map txk)) = none := fun hh => by rw [hh] at h51; exact absurd h51 (by decide)
     have htx : txk r = fmtE (dT s (i * 2 + x)) := by rw [← hrt]; rfl
     have hm : dT s (i * 2 + x) ∈ (dS s (i * 2 + x)) := Classical.byContradiction fun hh => hix (by rw [txk_map, hv, htx]; exact fmt_out hd.wf (vd_sz hdv).2 hh)
     have hixv : (ixA (txk r) 0 (vs.map txk)) = some ((dS s (i * 2 + x)).idxOf (dT s (i * 2 + x))) := by rw [txk_map, hv, htx]; exact fmt_in hd.wf (vd_sz hdv).2 hm
     obtain ⟨hd2, hs2⟩ := dr_in hd hxl hi0 hm hdv
     refine CT.skip (PX.then_n (CT.region ?_))
     refine Wl.q rfl rfl (OpQ.move rfl) ?_
     refine Wl.q rfl rfl (OpQ.move rfl) ?_
     refine Wl.q rfl rfl (OpQ.move rfl) ?_
     refine Wl.q rfl rfl (OpQ.index1 K18_un62 K18_sz3 rfl rfl (by omega) rfl) ?_
     refine Wl.g rfl rfl (OpG.storeRow (a := some ⟨b14, 0, none⟩) K18_sz3 rfl rfl rfl (by repeat (first | exact Upd.here | apply Upd.there)) (by rw [List.length_map, rowP_len]; show x < _; omega)) ?_
     rintro _ _
     refine Wl.nil (PX.block_n (PX.then_n (CT.region ?_)))
     refine Wl.q rfl rfl (OpQ.add rfl rfl (by omega)) ?_
     refine Wl.q rfl rfl (OpQ.move rfl) ?_
     refine Wl.nil ?_
     refine PX.as (fun _ h => (h.take (.cons .here (.cons (.there .here) (.cons (.there .here) (.cons (.there .here) (.cons (.there .here) (.cons (.there .here) (.cons (.there .here) .nil)))))))).fxLess (us := vs) (fun w h => h.snd)) ?_
     exact PX.loop hK0 (x + 1, vs, a, c, _) ⟨by omega, hd2, by rw [hs2]; exact hv⟩ (show 2 - (x + 1) < 2 - x by omega) ⟨rfl, rfl, rfl, rfl, rfl, trivial⟩ (.keep rfl (.keep (row_eq (by rw [hixv]; exact (dr_put (l := (dS s (i * 2 + x))) (m := dS s (i * 2 + (x + 1))) (v := (dS s (i * 2 + x)).idxOf (dT s (i * 2 + x))) ⟨[], by rw [hs2, List.append_nil]⟩ (bfs_row_mem (by omega) hi0) (by rw [hs2, ← dT_row hxl hi0])).symm)) (HSub.refl _)))
 ·
  have h18 := of_decide_eq_false h18
  obtain rfl : x = 2 := by omega
  refine CT.exit (PX.then_x (PX.then_x (PX.block_x (PX.then_n (CT.seq (CT.region ?_))))))
  refine Wl.q rfl rfl (OpQ.move rfl) ?_
  refine Wl.q rfl rfl (OpQ.move rfl) ?_
  refine Wl.q rfl rfl (OpQ.nilCheckP rfl) ?_
  refine Wl.q rfl rfl (OpQ.fieldAddr K18_fa68_0 rfl) ?_
  refine Wl.q rfl rfl (OpQ.fieldAddr K18_fa43_2 rfl) ?_
  refine Wl.know 71 rfl (add_ptr _ _ _) ?_
  refine Wl.q rfl rfl (OpQ.loadF (b := b) K18_sc28 rfl (by repeat (first | exact Has.here | apply Has.there)) (by rfl)) ?_
  refine Wl.q rfl rfl (OpQ.move rfl) ?_
  refine Wl.g rfl rfl (OpG.lit1 K18_un28 K18_in62 rfl rfl rfl) ?_
  rintro b74 _
  refine Wl.g rfl rfl (OpG.append K18_un28 K18_in62 (by rfl) (by decide) rfl rfl (p := 5) rfl (fun w hH => hH.rd .here) ⟨rfl, (by simp [Value.oneCell']), (by have := hM.rl; omega), (by have := hM.rl; omega)⟩ (nm := (rs ++ [(⟨some ⟨b14, 0, none⟩, 2, rowP dF 2 (dS s (i * 2 + 2)) ((dS s (i * 2)).getD i s) 2⟩ : Rw)]).length) (by rw [List.length_append]; rfl) (all := (rs ++ [(⟨some ⟨b14, 0, none⟩, 2, rowP dF 2 (dS s (i * 2 + 2)) ((dS s (i * 2)).getD i s) 2⟩ : Rw)]).map rv) (by simp [rowP_len])) ?_
  rintro ⟨a75, c75⟩ h75
  refine Wl.q rfl rfl (OpQ.nilCheckP rfl) ?_
  refine Wl.q rfl rfl (OpQ.fieldAddr K18_fa68_0 rfl) ?_
  refine Wl.q rfl rfl (OpQ.fieldAddr K18_fa43_2 rfl) ?_
  refine Wl.know 78 rfl (add_ptr _ _ _) ?_
  refine Wl.g rfl rfl (OpG.storeRow (a := some ⟨b, 0, none⟩) K18_sz28 rfl rfl rfl (by repeat (first | exact Upd.here | apply Upd.there)) (by simp)) ?_
  rintro _ _
  refine Wl.nil (PX.then_n (CT.seq (CT.region ?_)))
  refine Wl.q rfl rfl (OpQ.move rfl) ?_
  refine Wl.q rfl rfl (OpQ.nilCheckP rfl) ?_
  refine Wl.q rfl rfl (OpQ.fieldAddr K18_fa68_0 rfl) ?_
  refine Wl.q rfl rfl (OpQ.fieldAddr K18_fa43_3 rfl) ?_
  refine Wl.know 82 rfl (add_ptr _ _ _) ?_
  refine Wl.q rfl rfl (OpQ.loadF (b := b) K18_sc3 rfl (by repeat (first | exact Has.here | apply Has.there)) (by rfl)) ?_
  refine Wl.q rfl rfl (OpQ.add rfl rfl (by omega)) ?_
  refine Wl.know 84 (v' := .int .i64 (((i + 1) : Nat) : Int)) rfl rfl ?_
  refine Wl.q rfl rfl (OpQ.nilCheckP rfl) ?_
  refine Wl.q rfl rfl (OpQ.fieldAddr K18_fa68_0 rfl) ?_
  refine Wl.q rfl rfl (OpQ.fieldAddr K18_fa43_3 rfl) ?_
  refine Wl.know 87 rfl (add_ptr _ _ _) ?_
  refine Wl.g rfl rfl (OpG.storeRow (a := some ⟨b, 0, none⟩) K18_sz3 rfl rfl rfl (by repeat (first | exact Upd.here | apply Upd.there)) (by simp)) ?_
  rintro _ _
  refine Wl.nil (PX.then_n (CT.seq (CT.region ?_)))
  refine Wl.q rfl rfl (OpQ.assign rfl) ?_
  refine Wl.nil (PX.then_n (CT.ret ?_))
  refine PX.ret1 rfl rfl (fun w' hH => ?_)
  exact ⟨(vs, a, c, bs, a75, c75, rs ++ [(⟨some ⟨b14, 0, none⟩, 2, rowP dF 2 (dS s (i * 2 + 2)) ((dS s (i * 2)).getD i s) 2⟩ : Rw)], _, i + 1, 0), .inl ⟨rfl, hM.next hi0 hd hv rfl, rfl⟩, rfl, HOk.post ((hH.bind (L := [.frag gs (rws rs), .row 3 1 (.slice (some ⟨b14, 0, none⟩) 2 2) 2 ((rowP dF 2 (dS s (i * 2 + 2)) ((dS s (i * 2)).getD i s) (2)).map zz)]) (p := rws (rs ++ [(⟨some ⟨b14, 0, none⟩, 2, rowP dF 2 (dS s (i * 2 + 2)) ((dS s (i * 2)).getD i s) 2⟩ : Rw)])) (.cons (.there (.there (.there (.there (.there (.there .here)))))) (.cons (.there (.there .here)) .nil)) (fun w hk => rws_snoc (r := (⟨some ⟨b14, 0, none⟩, 2, rowP dF 2 (dS s (i * 2 + 2)) ((dS s (i * 2)).getD i s) 2⟩ : Rw)) ((hk _ List.mem_cons_self).2 w (fun _ _ => rfl)) (Rd.of_owns (hk _ (List.mem_cons_of_mem _ List.mem_cons_self))))).take (.cons (.there (.there (.there .here))) (.cons (.there (.there (.there .here))) (.cons (.there (.there .here)) (.cons (.there (.there .here)) (.cons .here (.cons (.there .here) .nil)))))))⟩

end Go.Proofs.YtmggcdegekbncabGreatDoor

