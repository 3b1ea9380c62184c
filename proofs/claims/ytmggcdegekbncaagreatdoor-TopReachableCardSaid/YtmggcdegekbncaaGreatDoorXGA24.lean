/-
  What functions of the program compute, each by its walk. Conditions: those that each theorem names.
-/
import Derived.Test.YtmggcdegekbncaaGreatDoorXGA23
import Derived.Test.YtmggcdegekbncaaGreatDoorXF
set_option linter.unusedSimpArgs false
namespace Go.Proofs.YtmggcdegekbncaaGreatDoor
open Go Go.Eng Go.Am Go.Ex
open Go.Tp (zi)
open Go.Tl (mayL Wd okW okB bo)
open Go.Ex.simp (simpL)
open Go.Ex.dv (dvL dvC)
open Go.Ex.hasU (hasAny hasAll)
open Go.Ex.wf (wfL)
open Go.Ex.szE (szL)
open Go.Ex.dpE (dpL)
open Go.Ex.cmpE (cmpL)
open Go.Ex.fmtE (fmtK fmtR)
open Go.Rel (tz Tab tz_bound tz_load tz_lt)
theorem K24_ag25 : isAggB Tryz.prog 25 = some true := by kernel_rfl
theorem K24_sz25 : sizeB Tryz.prog 25 = some 4 := by kernel_rfl
theorem K24_go6 : isGo Tryz.prog 6 = true := by kernel_rfl
theorem K24_go8 : isGo Tryz.prog 8 = true := by kernel_rfl
theorem K24_un9 : Tryz.prog.underlying 9 = some .string := by kernel_rfl
theorem K24_fa25_0 : fieldB Tryz.prog 25 0 = some 0 := by kernel_rfl
theorem K24_sc3 : scalarB Tryz.prog 3 = some true := by kernel_rfl
theorem K24_go7 : isGo Tryz.prog 7 = true := by kernel_rfl
theorem K24_go18 : isGo Tryz.prog 18 = true := by kernel_rfl
theorem K24_in25 : (Tryz.prog.info? 25).map (fun i => (i.zero, i.size, i.bytes)) = some (some (.agg #[.int .i64 0, .int .i64 0, .slice none 0 0, .slice none 0 0]), 4, 64) := by kernel_rfl
theorem K24_go19 : isGo Tryz.prog 19 = true := by kernel_rfl
theorem K24_go20 : isGo Tryz.prog 20 = true := by kernel_rfl
theorem K24_go21 : isGo Tryz.prog 21 = true := by kernel_rfl
theorem K24_un46 : Tryz.prog.underlying 46 = some (.slice 3) := by kernel_rfl
theorem K24_fa25_2 : fieldB Tryz.prog 25 2 = some 2 := by kernel_rfl
theorem K24_sc22 : scalarB Tryz.prog 22 = some true := by kernel_rfl
theorem K24_un22 : Tryz.prog.underlying 22 = some (.slice 4) := by kernel_rfl
theorem K24_go22 : isGo Tryz.prog 22 = true := by kernel_rfl
set_option maxRecDepth 100000 in
set_option maxHeartbeats 2000000 in
/-- semigroup/semigrouptop.TopReachable -/
theorem TopReachable_spec (w : World) (D : Dv) (hD : Stays [] w (dvm D)) (us : Wd) (hu : us.length ≤ 9223372036854775807) (vs : Wd) (hv : vs.length ≤ 9223372036854775807) (hT : Stays [] w Tab) : Calls Tryz.prog 5 #[dvv D, sv us, sv vs] w (fun e w' => e = .returned (.bool true) ∧ Ext [] w w') := by
 refine enter (args := [dvv D, sv us, sv vs]) [] 123 Tryz.func5 rfl rfl rfl ?_
 refine CT.seq (CT.region ?_)
 refine Wl.g rfl rfl (OpG.box (size := 4) rfl rfl rfl) ?_
 rintro b3 _
 refine Wl.q rfl rfl (OpQ.assign rfl) ?_
 refine Wl.nil (PX.then_n (CT.seq (CT.seq (CT.region ?_))))
 refine Wl.q rfl rfl (OpQ.loadV (b := b3) K24_ag25 K24_sz25 rfl (by repeat (first | exact Has.here | apply Has.there)) (by rfl)) ?_
 refine Wl.know 17 (v' := dvv D) rfl rfl ?_
 refine Wl.g rfl rfl (OpG.callV K24_go6 rfl (fun w hH => small_spec w D (hH.stays0 hD) 5)) ?_
 rintro _ _
 refine Wl.q rfl rfl (OpQ.not rfl) ?_
 refine Wl.q rfl rfl (OpQ.move rfl) ?_
 refine Wl.split 20 rfl (fun hg20 => ?_) (fun hg20 => ?_)
 ·
  have hg20 := of_nd_t hg20
  refine Wl.skip rfl rfl ?_
  refine Wl.skip rfl rfl ?_
  refine Wl.skip rfl rfl ?_
  refine Wl.skip rfl rfl ?_
  refine Wl.skip rfl rfl ?_
  refine Wl.skip rfl rfl ?_
  refine Wl.q rfl rfl (OpQ.pickT rfl rfl) ?_
  refine Wl.q rfl rfl (OpQ.move rfl) ?_
  refine Wl.skip rfl rfl ?_
  refine Wl.skip rfl rfl ?_
  refine Wl.skip rfl rfl ?_
  refine Wl.skip rfl rfl ?_
  refine Wl.skip rfl rfl ?_
  refine Wl.q rfl rfl (OpQ.pickT rfl rfl) ?_
  refine Wl.q rfl rfl (OpQ.move rfl) ?_
  refine Wl.skip rfl rfl ?_
  refine Wl.skip rfl rfl ?_
  refine Wl.skip rfl rfl ?_
  refine Wl.skip rfl rfl ?_
  refine Wl.skip rfl rfl ?_
  refine Wl.q rfl rfl (OpQ.pickT rfl rfl) ?_
  refine Wl.nil (PX.then_n ?_)
  refine CT.condT rfl ?_
  refine CT.seq (CT.region ?_)
  refine Wl.g rfl rfl (OpG.callV K24_go8 rfl (fun w hH => awake_spec w (hH.stays0 hT))) ?_
  rintro _ _
  refine Wl.q rfl rfl (OpQ.assign rfl) ?_
  refine Wl.nil (PX.then_n (CT.ret (PX.then_r ?_)))
  refine PX.ret1 rfl rfl (fun w' hH => ?_)
  exact ⟨rfl, hH.ext⟩
 ·
  have hg20 := of_nd_f hg20
  refine Wl.q rfl rfl (OpQ.move rfl) ?_
  refine Wl.q rfl rfl (OpQ.lenSv K24_un9 rfl) ?_
  refine Wl.q rfl rfl (OpQ.move rfl) ?_
  refine Wl.q rfl rfl (OpQ.lenSv K24_un9 rfl) ?_
  refine Wl.q rfl rfl (OpQ.addw rfl rfl) ?_
  refine Wl.q rfl rfl (OpQ.gtr rfl rfl) ?_
  refine Wl.q rfl rfl (OpQ.pickF rfl rfl) ?_
  refine Wl.q rfl rfl (OpQ.move rfl) ?_
  refine Wl.split 28 rfl (fun hg28 => ?_) (fun hg28 => ?_)
  ·
   have hg28 := of_decide_eq_true hg28
   refine Wl.skip rfl rfl ?_
   refine Wl.skip rfl rfl ?_
   refine Wl.skip rfl rfl ?_
   refine Wl.skip rfl rfl ?_
   refine Wl.skip rfl rfl ?_
   refine Wl.q rfl rfl (OpQ.pickT rfl rfl) ?_
   refine Wl.q rfl rfl (OpQ.move rfl) ?_
   refine Wl.skip rfl rfl ?_
   refine Wl.skip rfl rfl ?_
   refine Wl.skip rfl rfl ?_
   refine Wl.skip rfl rfl ?_
   refine Wl.skip rfl rfl ?_
   refine Wl.q rfl rfl (OpQ.pickT rfl rfl) ?_
   refine Wl.nil (PX.then_n ?_)
   refine CT.condT rfl ?_
   refine CT.seq (CT.region ?_)
   refine Wl.g rfl rfl (OpG.callV K24_go8 rfl (fun w hH => awake_spec w (hH.stays0 hT))) ?_
   rintro _ _
   refine Wl.q rfl rfl (OpQ.assign rfl) ?_
   refine Wl.nil (PX.then_n (CT.ret (PX.then_r ?_)))
   refine PX.ret1 rfl rfl (fun w' hH => ?_)
   exact ⟨rfl, hH.ext⟩
  ·
   have hg28 := of_decide_eq_false hg28
   refine Wl.q rfl rfl (OpQ.move rfl) ?_
   refine Wl.q rfl rfl (OpQ.fieldAddr K24_fa25_0 rfl) ?_
   refine Wl.q rfl rfl (OpQ.loadF (b := b3) K24_sc3 rfl (by repeat (first | exact Has.here | apply Has.there)) (by rfl)) ?_
   refine Wl.g rfl rfl (OpG.callV K24_go7 rfl (fun w hH => wvalidR_spec w us (by omega) D.L)) ?_
   rintro _ _
   refine Wl.q rfl rfl (OpQ.not rfl) ?_
   refine Wl.q rfl rfl (OpQ.pickF rfl rfl) ?_
   refine Wl.q rfl rfl (OpQ.move rfl) ?_
   refine Wl.split 35 rfl (fun hg35 => ?_) (fun hg35 => ?_)
   ·
    have hg35 : okW us D.L = false := by simpa using hg35
    refine Wl.skip rfl rfl ?_
    refine Wl.skip rfl rfl ?_
    refine Wl.skip rfl rfl ?_
    refine Wl.skip rfl rfl ?_
    refine Wl.skip rfl rfl ?_
    refine Wl.q rfl rfl (OpQ.pickT rfl rfl) ?_
    refine Wl.nil (PX.then_n ?_)
    refine CT.condT rfl ?_
    refine CT.seq (CT.region ?_)
    refine Wl.g rfl rfl (OpG.callV K24_go8 rfl (fun w hH => awake_spec w (hH.stays0 hT))) ?_
    rintro _ _
    refine Wl.q rfl rfl (OpQ.assign rfl) ?_
    refine Wl.nil (PX.then_n (CT.ret (PX.then_r ?_)))
    refine PX.ret1 rfl rfl (fun w' hH => ?_)
    exact ⟨rfl, hH.ext⟩
   ·
    have hg35 : okW us D.L = true := by simpa using hg35
    refine Wl.q rfl rfl (OpQ.move rfl) ?_
    refine Wl.q rfl rfl (OpQ.fieldAddr K24_fa25_0 rfl) ?_
    refine Wl.q rfl rfl (OpQ.loadF (b := b3) K24_sc3 rfl (by repeat (first | exact Has.here | apply Has.there)) (by rfl)) ?_
    refine Wl.g rfl rfl (OpG.callV K24_go7 rfl (fun w hH => wvalidR_spec w vs (by omega) D.L)) ?_
    rintro _ _
    refine Wl.q rfl rfl (OpQ.not rfl) ?_
    refine Wl.q rfl rfl (OpQ.pickF rfl rfl) ?_
    refine Wl.nil (PX.then_n ?_)
    refine CT.cond rfl (fun h41 => ?_) (fun h41 => ?_)
    ·
     have h41 : okW vs D.L = false := by simpa using h41
     refine CT.seq (CT.region ?_)
     refine Wl.g rfl rfl (OpG.callV K24_go8 rfl (fun w hH => awake_spec w (hH.stays0 hT))) ?_
     rintro _ _
     refine Wl.q rfl rfl (OpQ.assign rfl) ?_
     refine Wl.nil (PX.then_n (CT.ret (PX.then_r ?_)))
     refine PX.ret1 rfl rfl (fun w' hH => ?_)
     exact ⟨rfl, hH.ext⟩
    ·
     have h41 : okW vs D.L = true := by simpa using h41
     obtain ⟨hO, h5⟩ := dvE_zero' hg20.2.2
     have hDd := hO.daOk
     have hn5 : D.fin.length ≤ 5 := by have := hg20.1; omega
     have hDn : D.da.n ≤ 32 := by show D.fin.length ≤ 32; omega
     have hLe := hO.L_eq
     have hDL : 1 ≤ D.da.L ∧ D.da.L ≤ 6 := by have := hO.may; omega
     have hin := wl_in hg35
     have hin2 := wl_in h41
     have hg35D := hg35
     have h41D := h41
     rw [hLe] at hg35D h41D
     refine CT.skip (PX.then_n (CT.seq (CT.region ?_)))
     refine Wl.q rfl rfl (OpQ.loadV (b := b3) K24_ag25 K24_sz25 rfl (by repeat (first | exact Has.here | apply Has.there)) (by rfl)) ?_
     refine Wl.know 44 (v' := dvv D) rfl rfl ?_
     refine Wl.g rfl rfl (OpG.callX K24_go18 rfl .nil (fun _ => (.cons (.cons .nil))) (fun w hH hp => trim_spec w D (hH.stays0 hD) hO h5)) ?_
     rintro ⟨K, T, ts, ta, tc⟩ ⟨hK, hTs⟩
     dsimp only at hK hTs
     have hTn0 : T.da.n ≤ D.da.n := by rw [hTs.da, autoD_n]; exact bfs_len hDd hDL.1 K
     have hTLe : T.da.L = D.da.L := by rw [hTs.da]; rfl
     have hTO : T.Ok := hTs.ok (autoD_ok hK _) hDL (by rw [autoD_n]; have := bfs_len hDd hDL.1 K; omega)
     have hTd := hTO.daOk
     have hTn : T.da.n ≤ 32 := by omega
     have hTL : 1 ≤ T.da.L ∧ T.da.L ≤ 6 := by rw [hTLe]; exact hDL
     have hg35T : okW us ((T.da.L : Nat) : Int) = true := by rw [hTLe]; exact hg35D
     have h41T : okW vs ((T.da.L : Nat) : Int) = true := by rw [hTLe]; exact h41D
     refine Wl.q rfl rfl (OpQ.move rfl) ?_
     refine Wl.q rfl rfl (OpQ.extract rfl rfl) ?_
     refine Wl.know 46 (v' := dvv T) rfl rfl ?_
     refine Wl.q rfl rfl (OpQ.extract rfl rfl) ?_
     refine Wl.know 47 (v' := .slice ta D.fin.length tc) rfl rfl ?_
     refine Wl.g rfl rfl (OpG.alloc (zs := [.int .i64 0, .int .i64 0, .slice none 0 0, .slice none 0 0]) K24_in25 rfl rfl) ?_
     rintro b7 _
     refine Wl.g rfl rfl (OpG.storeV (b := b7) K24_sz25 rfl rfl rfl rfl (by repeat (first | exact Upd.here | apply Upd.there))) ?_
     rintro _ _
     refine Wl.q rfl rfl (OpQ.assign rfl) ?_
     refine Wl.nil (PX.then_n (CT.seq (CT.region ?_)))
     refine Wl.q rfl rfl (OpQ.loadV (b := b3) K24_ag25 K24_sz25 rfl (by repeat (first | exact Has.here | apply Has.there)) (by rfl)) ?_
     refine Wl.know 49 (v' := dvv D) rfl rfl ?_
     refine Wl.g rfl rfl (OpG.callX K24_go19 rfl .nil (fun _ => (.cons (.cons .nil))) (fun w hH hp => ofdfa_spec w D (hH.stays0 hD) hO (by omega))) ?_
     rintro ⟨g1, rs1, gs1⟩ hGD
     dsimp only at hGD
     refine Wl.q rfl rfl (OpQ.move rfl) ?_
     refine Wl.q rfl rfl (OpQ.extract rfl rfl) ?_
     refine Wl.know 51 (v' := .slice (some ⟨g1, 0, none⟩) D.da.L D.da.L) rfl rfl ?_
     refine Wl.q rfl rfl (OpQ.extract rfl rfl) ?_
     refine Wl.know 52 (v' := .int .i64 0) rfl rfl ?_
     refine Wl.q rfl rfl (OpQ.assign rfl) ?_
     refine Wl.q rfl rfl (OpQ.assign rfl) ?_
     refine Wl.nil (PX.then_n (CT.seq (CT.region ?_)))
     refine Wl.q rfl rfl (OpQ.loadV (b := b7) K24_ag25 K24_sz25 rfl (by repeat (first | exact Has.here | apply Has.there)) (by rfl)) ?_
     refine Wl.know 54 (v' := dvv T) rfl rfl ?_
     refine Wl.g rfl rfl (OpG.callX K24_go19 rfl .nil (fun _ => (.cons (.cons .nil))) (fun w hH hp => ofdfa_spec w T (Stays.frag (hH.staysK0 (show Has _ (.frag ts (dvm T)) from (by repeat (first | exact Has.here | apply Has.there))))) hTO hTn)) ?_
     rintro ⟨g2, rs2, gs2⟩ hGT
     dsimp only at hGT
     refine Wl.q rfl rfl (OpQ.move rfl) ?_
     refine Wl.q rfl rfl (OpQ.extract rfl rfl) ?_
     refine Wl.know 56 (v' := .slice (some ⟨g2, 0, none⟩) T.da.L T.da.L) rfl rfl ?_
     refine Wl.q rfl rfl (OpQ.extract rfl rfl) ?_
     refine Wl.know 57 (v' := .int .i64 0) rfl rfl ?_
     refine Wl.q rfl rfl (OpQ.assign rfl) ?_
     refine Wl.q rfl rfl (OpQ.assign rfl) ?_
     refine Wl.nil (PX.then_n (CT.seq (CT.seq (CT.region ?_))))
     refine Wl.q rfl rfl (OpQ.move rfl) ?_
     refine Wl.q rfl rfl (OpQ.neq rfl rfl) ?_
     refine Wl.know 59 (v' := .bool false) rfl (congrArg Value.bool rfl) ?_
     refine Wl.q rfl rfl (OpQ.move rfl) ?_
     refine Wl.q rfl rfl (OpQ.move rfl) ?_
     refine Wl.q rfl rfl (OpQ.neq rfl rfl) ?_
     refine Wl.know 62 (v' := .bool false) rfl (congrArg Value.bool rfl) ?_
     refine Wl.q rfl rfl (OpQ.pickF rfl rfl) ?_
     refine Wl.q rfl rfl (OpQ.move rfl) ?_
     refine Wl.q rfl rfl (OpQ.loadV (b := b7) K24_ag25 K24_sz25 rfl (by repeat (first | exact Has.here | apply Has.there)) (by rfl)) ?_
     refine Wl.know 65 (v' := dvv T) rfl rfl ?_
     refine Wl.g rfl rfl (OpG.callV K24_go20 rfl (fun w hH => dvalidR_spec w T (Stays.frag (hH.staysK0 (show Has _ (.frag ts (dvm T)) from (by repeat (first | exact Has.here | apply Has.there))))))) ?_
     rintro _ _
     refine Wl.know 66 (v' := .int .i64 0) rfl (congrArg (Value.int .i64) (hTO.zero (by have h : T.da.n = T.fin.length := rfl; omega))) ?_
     refine Wl.q rfl rfl (OpQ.neq rfl rfl) ?_
     refine Wl.know 67 (v' := .bool false) rfl (congrArg Value.bool rfl) ?_
     refine Wl.q rfl rfl (OpQ.pickF rfl rfl) ?_
     refine Wl.nil (PX.then_n ?_)
     refine CT.condF rfl ?_
     refine CT.skip (PX.then_n (CT.seq (CT.region ?_)))
     refine Wl.q rfl rfl (OpQ.move rfl) ?_
     refine Wl.q rfl rfl (OpQ.move rfl) ?_
     refine Wl.g rfl rfl (OpG.callX K24_go21 rfl .nil (fun _ => (.cons .nil)) (fun w hH hp => ofword_spec w D.da hDd hDn hDL g1 rs1 hGD (Stays.rd (hH.staysK0 (show Has _ (.row 46 1 (.slice (some ⟨g1, 0, none⟩) D.da.L D.da.L) D.da.L (rs1.map rv)) from (by repeat (first | exact Has.here | apply Has.there))))) (Stays.frag (hH.staysK0 (show Has _ (.frag gs1 (rws rs1)) from (by repeat (first | exact Has.here | apply Has.there))))) us hg35D (by omega))) ?_
     rintro ⟨a71, c71⟩ _
     refine Wl.q rfl rfl (OpQ.move rfl) ?_
     refine Wl.q rfl rfl (OpQ.move rfl) ?_
     refine Wl.g rfl rfl (OpG.callX K24_go21 rfl .nil (fun _ => (.cons .nil)) (fun w hH hp => ofword_spec w D.da hDd hDn hDL g1 rs1 hGD (Stays.rd (hH.staysK0 (show Has _ (.row 46 1 (.slice (some ⟨g1, 0, none⟩) D.da.L D.da.L) D.da.L (rs1.map rv)) from (by repeat (first | exact Has.here | apply Has.there))))) (Stays.frag (hH.staysK0 (show Has _ (.frag gs1 (rws rs1)) from (by repeat (first | exact Has.here | apply Has.there))))) vs h41D (by omega))) ?_
     rintro ⟨a74, c74⟩ _
     refine Wl.q rfl rfl (OpQ.assign rfl) ?_
     refine Wl.q rfl rfl (OpQ.assign rfl) ?_
     refine Wl.nil (PX.then_n (CT.seq (CT.region ?_)))
     refine Wl.q rfl rfl (OpQ.move rfl) ?_
     refine Wl.q rfl rfl (OpQ.move rfl) ?_
     refine Wl.g rfl rfl (OpG.callX K24_go21 rfl .nil (fun _ => (.cons .nil)) (fun w hH hp => ofword_spec w T.da hTd hTn hTL g2 rs2 hGT (Stays.rd (hH.staysK0 (show Has _ (.row 46 1 (.slice (some ⟨g2, 0, none⟩) T.da.L T.da.L) T.da.L (rs2.map rv)) from (by repeat (first | exact Has.here | apply Has.there))))) (Stays.frag (hH.staysK0 (show Has _ (.frag gs2 (rws rs2)) from (by repeat (first | exact Has.here | apply Has.there))))) us hg35T (by omega))) ?_
     rintro ⟨a77, c77⟩ _
     refine Wl.q rfl rfl (OpQ.move rfl) ?_
     refine Wl.q rfl rfl (OpQ.move rfl) ?_
     refine Wl.g rfl rfl (OpG.callX K24_go21 rfl .nil (fun _ => (.cons .nil)) (fun w hH hp => ofword_spec w T.da hTd hTn hTL g2 rs2 hGT (Stays.rd (hH.staysK0 (show Has _ (.row 46 1 (.slice (some ⟨g2, 0, none⟩) T.da.L T.da.L) T.da.L (rs2.map rv)) from (by repeat (first | exact Has.here | apply Has.there))))) (Stays.frag (hH.staysK0 (show Has _ (.frag gs2 (rws rs2)) from (by repeat (first | exact Has.here | apply Has.there))))) vs h41T (by omega))) ?_
     rintro ⟨a80, c80⟩ _
     refine Wl.q rfl rfl (OpQ.assign rfl) ?_
     refine Wl.q rfl rfl (OpQ.assign rfl) ?_
     refine Wl.nil (PX.then_n (CT.seq (CT.seq (CT.region ?_))))
     refine Wl.q rfl rfl (OpQ.move rfl) ?_
     refine Wl.q rfl rfl (OpQ.len K24_un46 rfl) ?_
     refine Wl.q rfl rfl (OpQ.fieldAddr K24_fa25_2 rfl) ?_
     refine Wl.q rfl rfl (OpQ.loadF (b := b3) K24_sc22 rfl (by repeat (first | exact Has.here | apply Has.there)) (by rfl)) ?_
     refine Wl.q rfl rfl (OpQ.len K24_un22 rfl) ?_
     refine Wl.q rfl rfl (OpQ.neq rfl rfl) ?_
     refine Wl.know 86 (v' := .bool false) rfl (congrArg Value.bool (show (!decide (((D.fin.length : Nat) : Int) = ((D.fin.length : Nat) : Int))) = false by simp)) ?_
     refine Wl.q rfl rfl (OpQ.move rfl) ?_
     refine Wl.q rfl rfl (OpQ.move rfl) ?_
     refine Wl.q rfl rfl (OpQ.len K24_un46 rfl) ?_
     refine Wl.q rfl rfl (OpQ.fieldAddr K24_fa25_2 rfl) ?_
     refine Wl.q rfl rfl (OpQ.loadF (b := b3) K24_sc22 rfl (by repeat (first | exact Has.here | apply Has.there)) (by rfl)) ?_
     refine Wl.q rfl rfl (OpQ.len K24_un22 rfl) ?_
     refine Wl.q rfl rfl (OpQ.neq rfl rfl) ?_
     refine Wl.know 93 (v' := .bool false) rfl (congrArg Value.bool (show (!decide (((D.fin.length : Nat) : Int) = ((D.fin.length : Nat) : Int))) = false by simp)) ?_
     refine Wl.q rfl rfl (OpQ.pickF rfl rfl) ?_
     refine Wl.q rfl rfl (OpQ.move rfl) ?_
     refine Wl.q rfl rfl (OpQ.move rfl) ?_
     refine Wl.q rfl rfl (OpQ.len K24_un46 rfl) ?_
     refine Wl.q rfl rfl (OpQ.fieldAddr K24_fa25_2 rfl) ?_
     refine Wl.q rfl rfl (OpQ.loadF (b := b7) K24_sc22 rfl (by repeat (first | exact Has.here | apply Has.there)) (by rfl)) ?_
     refine Wl.q rfl rfl (OpQ.len K24_un22 rfl) ?_
     refine Wl.q rfl rfl (OpQ.neq rfl rfl) ?_
     refine Wl.know 101 (v' := .bool false) rfl (congrArg Value.bool (show (!decide (((T.fin.length : Nat) : Int) = ((T.fin.length : Nat) : Int))) = false by simp)) ?_
     refine Wl.q rfl rfl (OpQ.pickF rfl rfl) ?_
     refine Wl.q rfl rfl (OpQ.move rfl) ?_
     refine Wl.q rfl rfl (OpQ.move rfl) ?_
     refine Wl.q rfl rfl (OpQ.len K24_un46 rfl) ?_
     refine Wl.q rfl rfl (OpQ.fieldAddr K24_fa25_2 rfl) ?_
     refine Wl.q rfl rfl (OpQ.loadF (b := b7) K24_sc22 rfl (by repeat (first | exact Has.here | apply Has.there)) (by rfl)) ?_
     refine Wl.q rfl rfl (OpQ.len K24_un22 rfl) ?_
     refine Wl.q rfl rfl (OpQ.neq rfl rfl) ?_
     refine Wl.know 109 (v' := .bool false) rfl (congrArg Value.bool (show (!decide (((T.fin.length : Nat) : Int) = ((T.fin.length : Nat) : Int))) = false by simp)) ?_
     refine Wl.q rfl rfl (OpQ.pickF rfl rfl) ?_
     refine Wl.nil (PX.then_n ?_)
     refine CT.condF rfl ?_
     refine CT.skip (PX.then_n (CT.seq (CT.region ?_)))
     refine Wl.q rfl rfl (OpQ.move rfl) ?_
     refine Wl.know 111 (v' := .slice a71 (trN D.da (wl us)).length c71) rfl (by rw [trN_len]) ?_
     refine Wl.q rfl rfl (OpQ.move rfl) ?_
     refine Wl.know 112 (v' := .slice a74 (trN D.da (wl vs)).length c74) rfl (by rw [trN_len]) ?_
     refine Wl.g rfl rfl (OpG.callV K24_go22 rfl (fun w hH => same3_spec w a71 c71 (trN D.da (wl us)) (Stays.rd (hH.staysK0 (show Has _ (.row 3 1 (.slice a71 D.da.n c71) D.da.n ((trN D.da (wl us)).map zn)) from (by repeat (first | exact Has.here | apply Has.there))))) (by rw [trN_len]; omega) a74 c74 (trN D.da (wl vs)) (Stays.rd (hH.staysK0 (show Has _ (.row 3 1 (.slice a74 D.da.n c74) D.da.n ((trN D.da (wl vs)).map zn)) from (by repeat (first | exact Has.here | apply Has.there))))))) ?_
     rintro _ _
     refine Wl.q rfl rfl (OpQ.not rfl) ?_
     refine Wl.q rfl rfl (OpQ.move rfl) ?_
     refine Wl.split 115 rfl (fun hg115 => ?_) (fun hg115 => ?_)
     ·
      have hg115 := of_nd_t hg115
      refine Wl.skip rfl rfl ?_
      refine Wl.skip rfl rfl ?_
      refine Wl.skip rfl rfl ?_
      refine Wl.q rfl rfl (OpQ.pickT rfl rfl) ?_
      refine Wl.q rfl rfl (OpQ.move rfl) ?_
      refine Wl.g rfl rfl (OpG.callV K24_go8 rfl (fun w hH => awake_spec w (hH.stays0 hT))) ?_
      rintro _ _
      refine Wl.know 121 (v' := .bool true) rfl (congrArg Value.bool rfl) ?_
      refine Wl.q rfl rfl (OpQ.pickT rfl rfl) ?_
      refine Wl.q rfl rfl (OpQ.assign rfl) ?_
      refine Wl.nil (PX.then_n (CT.ret ?_))
      refine PX.ret1 rfl rfl (fun w' hH => ?_)
      exact ⟨rfl, hH.ext⟩
     ·
      have hg115 := of_nd_f hg115
      refine Wl.q rfl rfl (OpQ.move rfl) ?_
      refine Wl.know 116 (v' := .slice a77 (trN T.da (wl us)).length c77) rfl (by rw [trN_len]) ?_
      refine Wl.q rfl rfl (OpQ.move rfl) ?_
      refine Wl.know 117 (v' := .slice a80 (trN T.da (wl vs)).length c80) rfl (by rw [trN_len]) ?_
      refine Wl.g rfl rfl (OpG.callV K24_go22 rfl (fun w hH => same3_spec w a77 c77 (trN T.da (wl us)) (Stays.rd (hH.staysK0 (show Has _ (.row 3 1 (.slice a77 T.da.n c77) T.da.n ((trN T.da (wl us)).map zn)) from (by repeat (first | exact Has.here | apply Has.there))))) (by rw [trN_len]; omega) a80 c80 (trN T.da (wl vs)) (Stays.rd (hH.staysK0 (show Has _ (.row 3 1 (.slice a80 T.da.n c80) T.da.n ((trN T.da (wl vs)).map zn)) from (by repeat (first | exact Has.here | apply Has.there))))))) ?_
      rintro _ _
      refine Wl.know 118 (v' := .bool true) rfl (congrArg Value.bool (decide_eq_true (reach_same hO hK hTs.da hin hin2 hg115))) ?_
      refine Wl.q rfl rfl (OpQ.pickF rfl rfl) ?_
      refine Wl.q rfl rfl (OpQ.move rfl) ?_
      refine Wl.g rfl rfl (OpG.callV K24_go8 rfl (fun w hH => awake_spec w (hH.stays0 hT))) ?_
      rintro _ _
      refine Wl.know 121 (v' := .bool true) rfl (congrArg Value.bool rfl) ?_
      refine Wl.q rfl rfl (OpQ.pickT rfl rfl) ?_
      refine Wl.q rfl rfl (OpQ.assign rfl) ?_
      refine Wl.nil (PX.then_n (CT.ret ?_))
      refine PX.ret1 rfl rfl (fun w' hH => ?_)
      exact ⟨rfl, hH.ext⟩

end Go.Proofs.YtmggcdegekbncaaGreatDoor

