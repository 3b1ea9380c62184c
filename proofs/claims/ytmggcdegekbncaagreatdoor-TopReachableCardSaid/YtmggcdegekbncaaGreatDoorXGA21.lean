/-
  What functions of the program compute, each by its walk. Conditions: those that each theorem names.
-/
import Derived.Test.YtmggcdegekbncaaGreatDoorEng1
import Derived.Test.YtmggcdegekbncaaGreatDoorXGA20
import Derived.Test.YtmggcdegekbncaaGreatDoorXF
set_option linter.unusedSimpArgs false
namespace Go.Proofs.YtmggcdegekbncaaGreatDoor
open Go Go.Eng Go.Am Go.Ex
open Go.Tp (zi)
open Go.Tl (mayL Wd okW okB bo)
open Go.Ex.simp (simpL)
open Go.Ex.dv (dvL dvC)
open Go.Ex.hasU (hasAny hasAll)
open Go.Ex.wf (wfL)
open Go.Ex.szE (szL)
open Go.Ex.dpE (dpL)
open Go.Ex.cmpE (cmpL)
open Go.Ex.fmtE (fmtK fmtR)
open Go.Rel (tz Tab tz_bound tz_load tz_lt)
theorem K21_in39 : (Tryz.prog.info? 39).map (fun i => (i.zero, i.size, i.bytes)) = some (some (.agg #[.int .i64 0, .int .i64 0, .slice none 0 0]), 3, 40) := by kernel_rfl
theorem K21_pl39 : placesB Tryz.prog 39 = some (#[.int .i64 0, .int .i64 0, .slice none 0 0], [(0, 1), (1, 1), (2, 1)]) := by kernel_rfl
theorem K21_sz39 : sizeB Tryz.prog 39 = some 3 := by kernel_rfl
theorem K21_ag39 : isAggB Tryz.prog 39 = some true := by kernel_rfl
set_option maxRecDepth 100000 in
/-- semigroup/semigrouptop.letter -/
theorem letter_spec (w : World) (x : Int) : Calls Tryz.prog 26 #[.int .i64 x] w (fun e w' => e = .returned (evv (lfv 3 x)) ∧ Ext [] w w') := by
 refine enter (args := [.int .i64 x]) [] 5 Tryz.func26 rfl rfl rfl ?_
 refine CT.seq (CT.region ?_)
 refine Wl.g rfl rfl (OpG.alloc (zs := [.int .i64 0, .int .i64 0, .slice none 0 0]) K21_in39 rfl rfl) ?_
 rintro b2 _
 refine Wl.nil (PX.then_n (CT.seq (CT.region ?_)))
 refine Wl.q rfl rfl (OpQ.move rfl) ?_
 refine Wl.q rfl rfl (OpQ.build (cells := #[.int .i64 3, _, .slice none 0 0]) K21_pl39 rfl rfl) ?_
 refine Wl.g rfl rfl (OpG.storeV (b := b2) K21_sz39 rfl rfl rfl rfl (by repeat (first | exact Upd.here | apply Upd.there))) ?_
 rintro _ _
 refine Wl.nil (PX.then_n (CT.ret ?_))
 refine PX.retC rfl rfl (by repeat (first | exact Has.here | apply Has.there)) K21_ag39 K21_sz39 (by rfl) (fun w' hH => ?_)
 exact ⟨rfl, hH.ext⟩

set_option maxRecDepth 100000 in
/-- semigroup/semigrouptop.node -/
theorem node_spec (w : World) (o : Int) (a : Option Addr) (n c : Nat) : Calls Tryz.prog 25 #[.int .i64 o, .slice a n c] w (fun e w' => e = .returned (.agg #[.int .i64 o, .int .i64 0, .slice a n c]) ∧ Ext [] w w') := by
 refine enter (args := [.int .i64 o, .slice a n c]) [] 8 Tryz.func25 rfl rfl rfl ?_
 refine CT.seq (CT.region ?_)
 refine Wl.g rfl rfl (OpG.alloc (zs := [.int .i64 0, .int .i64 0, .slice none 0 0]) K21_in39 rfl rfl) ?_
 rintro b4 _
 refine Wl.nil (PX.then_n (CT.seq (CT.region ?_)))
 refine Wl.q rfl rfl (OpQ.move rfl) ?_
 refine Wl.q rfl rfl (OpQ.move rfl) ?_
 refine Wl.q rfl rfl (OpQ.build (cells := #[_, .int .i64 0, _]) K21_pl39 rfl rfl) ?_
 refine Wl.g rfl rfl (OpG.storeV (b := b4) K21_sz39 rfl rfl rfl rfl (by repeat (first | exact Upd.here | apply Upd.there))) ?_
 rintro _ _
 refine Wl.nil (PX.then_n (CT.ret ?_))
 refine PX.retC rfl rfl (by repeat (first | exact Has.here | apply Has.there)) K21_ag39 K21_sz39 (by rfl) (fun w' hH => ?_)
 exact ⟨rfl, hH.ext⟩

theorem K21_un37 : Tryz.prog.underlying 37 = some (.slice 39) := by kernel_rfl
theorem K21_go26 : isGo Tryz.prog 26 = true := by kernel_rfl
theorem K21_go25 : isGo Tryz.prog 25 = true := by kernel_rfl
theorem K21_go24 : isGo Tryz.prog 24 = true := by kernel_rfl
theorem K21_in25 : (Tryz.prog.info? 25).map (fun i => (i.zero, i.size, i.bytes)) = some (some (.agg #[.int .i64 0, .int .i64 0, .slice none 0 0, .slice none 0 0]), 4, 64) := by kernel_rfl
theorem K21_sz25 : sizeB Tryz.prog 25 = some 4 := by kernel_rfl
theorem K21_ag25 : isAggB Tryz.prog 25 = some true := by kernel_rfl
theorem K21_go9 : isGo Tryz.prog 9 = true := by kernel_rfl
theorem K21_fs25 : fieldsB Tryz.prog 25 = some [(0, none), (1, none), (2, none), (3, none)] := by kernel_rfl
theorem K21_un22 : Tryz.prog.underlying 22 = some (.slice 4) := by kernel_rfl
theorem K21_go27 : isGo Tryz.prog 27 = true := by kernel_rfl
set_option maxRecDepth 100000 in
/-- semigroup/semigrouptop.awake -/
theorem awake_spec (w : World) (hT : Stays [] w Tab) : Calls Tryz.prog 8 #[] w (fun e w' => e = .returned (.bool true) ∧ Ext [] w w') := by
 refine enter (args := []) [] 26 Tryz.func8 rfl rfl rfl ?_
 refine CT.seq (CT.region ?_)
 refine Wl.q rfl rfl (OpQ.assign rfl) ?_
 refine Wl.nil (PX.then_n (CT.seq (CT.region ?_)))
 refine Wl.g rfl rfl (OpG.callV K21_go26 rfl (fun w hH => letter_spec w 0)) ?_
 rintro _ _
 refine Wl.g rfl rfl (OpG.callV K21_go26 rfl (fun w hH => letter_spec w 1)) ?_
 rintro _ _
 refine Wl.g rfl rfl (OpG.litS (vs := [.int .i64 3, .int .i64 0, .slice none 0 0, .int .i64 3, .int .i64 1, .slice none 0 0]) K21_un37 K21_in39 rfl (by decide) (by kernel_rfl) rfl) ?_
 rintro b6 _
 refine Wl.g rfl rfl (OpG.callV K21_go25 rfl (fun w hH => node_spec w 5 (some ⟨b6, 0, none⟩) 2 2)) ?_
 rintro _ _
 refine Wl.g rfl rfl (OpG.litS1 K21_un37 K21_in39 rfl (by decide) rfl) ?_
 rintro b8 _
 refine Wl.g rfl rfl (OpG.callV K21_go25 rfl (fun w hH => node_spec w 7 (some ⟨b8, 0, none⟩) 1 1)) ?_
 rintro _ _
 refine Wl.know 9 (v' := evv (abX b6 b8)) rfl rfl ?_
 refine Wl.g rfl rfl (OpG.callX K21_go24 rfl .nil (fun _ => (.cons .nil)) (fun w hH hp => build_spec w (abX b6 b8) (fun w' he => abX_m (Stays.rd (hH.staysK0 (show Has _ (.row 39 3 (.slice (some ⟨b6, 0, none⟩) 2 2) 2 ([lfv 3 0, lfv 3 1].flatMap evc)) from (by repeat (first | exact Has.here | apply Has.there)))) w' he) (Stays.rd (hH.staysK0 (show Has _ (.row 39 3 (.slice (some ⟨b8, 0, none⟩) 1 1) 1 ([(Xv.mk 5 0 (some ⟨b6, 0, none⟩) 2 [lfv 3 0, lfv 3 1])].flatMap evc)) from (by repeat (first | exact Has.here | apply Has.there)))) w' he)))) ?_
 rintro ⟨D, gs, er⟩ ⟨hB, hO⟩
 dsimp only at hB hO
 obtain ⟨rfl, hmin⟩ := ab_min hB
 have hO := hO rfl
 have hn := BuildR.n hB rfl
 refine Wl.q rfl rfl (OpQ.move rfl) ?_
 refine Wl.q rfl rfl (OpQ.extract rfl rfl) ?_
 refine Wl.know 11 (v' := dvv D) rfl rfl ?_
 refine Wl.q rfl rfl (OpQ.extract rfl rfl) ?_
 refine Wl.g rfl rfl (OpG.alloc (zs := [.int .i64 0, .int .i64 0, .slice none 0 0, .slice none 0 0]) K21_in25 rfl rfl) ?_
 rintro b1 _
 refine Wl.g rfl rfl (OpG.storeV (b := b1) K21_sz25 rfl rfl rfl rfl (by repeat (first | exact Upd.here | apply Upd.there))) ?_
 rintro _ _
 refine Wl.q rfl rfl (OpQ.assign rfl) ?_
 refine Wl.nil (PX.then_n (CT.seq (CT.region ?_)))
 refine Wl.q rfl rfl (OpQ.move rfl) ?_
 refine Wl.q rfl rfl (OpQ.eql rfl rfl) ?_
 refine Wl.know 14 (v' := .bool true) rfl (congrArg Value.bool rfl) ?_
 refine Wl.q rfl rfl (OpQ.move rfl) ?_
 refine Wl.q rfl rfl (OpQ.loadV (b := b1) K21_ag25 K21_sz25 rfl (by repeat (first | exact Has.here | apply Has.there)) (by rfl)) ?_
 refine Wl.know 16 (v' := dvv D) rfl rfl ?_
 refine Wl.g rfl rfl (OpG.callX K21_go9 rfl .nil (fun _ => (.cons .nil)) (fun w hH hp => minimize_spec w D (Stays.frag (hH.staysK0 (show Has _ (.frag gs (dvm D)) from (by repeat (first | exact Has.here | apply Has.there))))) hO hn)) ?_
 rintro ⟨M, ms⟩ ⟨hM, hMm⟩
 dsimp only at hM hMm
 have hM3 : M.fin.length = 3 := hmin M.da hMm
 refine Wl.q rfl rfl (OpQ.field K21_fs25 rfl rfl rfl) ?_
 refine Wl.q rfl rfl (OpQ.len K21_un22 rfl) ?_
 refine Wl.q rfl rfl (OpQ.eql rfl rfl) ?_
 refine Wl.know 20 (v' := .bool true) rfl (congrArg Value.bool (decide_eq_true (by rw [hM3]; rfl))) ?_
 refine Wl.q rfl rfl (OpQ.pickT rfl rfl) ?_
 refine Wl.q rfl rfl (OpQ.move rfl) ?_
 refine Wl.g rfl rfl (OpG.callV K21_go26 rfl (fun w hH => letter_spec w 0)) ?_
 rintro _ _
 refine Wl.g rfl rfl (OpG.callV K21_go27 rfl (fun w hH => match_spec w (hH.stays0 hT))) ?_
 rintro _ _
 refine Wl.know 24 (v' := .bool true) rfl (congrArg Value.bool rfl) ?_
 refine Wl.q rfl rfl (OpQ.pickT rfl rfl) ?_
 refine Wl.q rfl rfl (OpQ.assign rfl) ?_
 refine Wl.nil (PX.then_n (CT.ret ?_))
 refine PX.ret1 rfl rfl (fun w' hH => ?_)
 exact ⟨rfl, hH.ext⟩

theorem K21_fa25_0 : fieldB Tryz.prog 25 0 = some 0 := by kernel_rfl
theorem K21_sc3 : scalarB Tryz.prog 3 = some true := by kernel_rfl
theorem K21_fa25_1 : fieldB Tryz.prog 25 1 = some 1 := by kernel_rfl
theorem K21_sz3 : sizeB Tryz.prog 3 = some 1 := by kernel_rfl
theorem K21_fa25_2 : fieldB Tryz.prog 25 2 = some 2 := by kernel_rfl
theorem K21_sc22 : scalarB Tryz.prog 22 = some true := by kernel_rfl
theorem K21_go23 : isGo Tryz.prog 23 = true := by kernel_rfl
theorem K21_fa25_3 : fieldB Tryz.prog 25 3 = some 3 := by kernel_rfl
theorem K21_sc23 : scalarB Tryz.prog 23 = some true := by kernel_rfl
theorem K21_un23 : Tryz.prog.underlying 23 = some (.slice 46) := by kernel_rfl
theorem K21_sz46 : sizeB Tryz.prog 46 = some 1 := by kernel_rfl
theorem K21_sc46 : scalarB Tryz.prog 46 = some true := by kernel_rfl
theorem K21_un46 : Tryz.prog.underlying 46 = some (.slice 3) := by kernel_rfl
set_option maxRecDepth 100000 in
/-- semigroup/semigroupref07.Validate -/
theorem dvalidR_spec (w : World) (D : Dv) (hD : Stays [] w (dvm D)) : Calls Tryz.prog 20 #[dvv D] w (fun e w' => e = .returned (.int .i64 (dvE D)) ∧ Ext [] w w') := by
 have hns : 0 < D.rs.length → D.na.isSome = true := fun h => hD.now.2.1.isSome (j := 0) (by rw [List.length_map]; exact h)
 have hrs : ∀ q, q < D.rs.length → 0 < (D.rs.getD q rw0).xs.length → (D.rs.getD q rw0).a.isSome = true := fun q hq h => (hD.now.2.2 _ (getDm hq)).isSome (j := 0) (by rw [List.length_map]; exact h)
 refine enter (args := [dvv D]) [] 64 Tryz.func20 rfl rfl rfl ?_
 refine CT.seq (CT.region ?_)
 refine Wl.g rfl rfl (OpG.box (size := 4) rfl rfl rfl) ?_
 rintro b1 _
 refine Wl.q rfl rfl (OpQ.assign rfl) ?_
 refine Wl.nil (PX.then_n (CT.seq (CT.region ?_)))
 refine Wl.q rfl rfl (OpQ.fieldAddr K21_fa25_2 rfl) ?_
 refine Wl.q rfl rfl (OpQ.loadF (b := b1) K21_sc22 rfl (by repeat (first | exact Has.here | apply Has.there)) (by rfl)) ?_
 refine Wl.q rfl rfl (OpQ.len K21_un22 rfl) ?_
 refine Wl.q rfl rfl (OpQ.assign rfl) ?_
 refine Wl.nil (PX.then_n (CT.seq (CT.seq (CT.region ?_))))
 refine Wl.q rfl rfl (OpQ.fieldAddr K21_fa25_0 rfl) ?_
 refine Wl.q rfl rfl (OpQ.loadF (b := b1) K21_sc3 rfl (by repeat (first | exact Has.here | apply Has.there)) (by rfl)) ?_
 refine Wl.g rfl rfl (OpG.callV K21_go23 rfl (fun w hH => may_spec w D.L)) ?_
 rintro _ _
 refine Wl.q rfl rfl (OpQ.not rfl) ?_
 refine Wl.nil (PX.then_n ?_)
 refine CT.cond rfl (fun h14 => ?_) (fun h14 => ?_)
 ·
  have h14 : mayL D.L = false := by simpa using h14
  refine CT.seq (CT.region ?_)
  refine Wl.q rfl rfl (OpQ.assign rfl) ?_
  refine Wl.nil (PX.then_n (CT.ret (PX.then_r ?_)))
  refine PX.ret1 rfl rfl (fun w' hH => ?_)
  exact ⟨Tl.ret_i (dvE_may h14).symm, hH.ext⟩
 ·
  have hmay : mayL D.L = true := by simpa using h14
  have hLL : 1 ≤ D.L ∧ D.L ≤ 6 := by have h9 := hmay; rw [mayL, decide_eq_true_eq] at h9; exact h9
  refine CT.skip (PX.then_n (CT.seq (CT.seq (CT.region ?_))))
  refine Wl.q rfl rfl (OpQ.move rfl) ?_
  refine Wl.q rfl rfl (OpQ.gtr rfl rfl) ?_
  refine Wl.nil (PX.then_n ?_)
  refine CT.cond rfl (fun h16 => ?_) (fun h16 => ?_)
  ·
   have h16 := of_decide_eq_true h16
   refine CT.seq (CT.region ?_)
   refine Wl.q rfl rfl (OpQ.assign rfl) ?_
   refine Wl.nil (PX.then_n (CT.ret (PX.then_r ?_)))
   refine PX.ret1 rfl rfl (fun w' hH => ?_)
   exact ⟨Tl.ret_i (dvE_long hmay (by omega)).symm, hH.ext⟩
  ·
   have h16 := of_decide_eq_false h16
   refine CT.skip (PX.then_n (CT.seq (CT.seq (CT.region ?_))))
   refine Wl.q rfl rfl (OpQ.move rfl) ?_
   refine Wl.q rfl rfl (OpQ.eql rfl rfl) ?_
   refine Wl.q rfl rfl (OpQ.move rfl) ?_
   refine Wl.split 19 rfl (fun hg19 => ?_) (fun hg19 => ?_)
   ·
    have hg19 := of_decide_eq_true hg19
    refine Wl.skip rfl rfl ?_
    refine Wl.skip rfl rfl ?_
    refine Wl.skip rfl rfl ?_
    refine Wl.skip rfl rfl ?_
    refine Wl.skip rfl rfl ?_
    refine Wl.q rfl rfl (OpQ.pickT rfl rfl) ?_
    refine Wl.q rfl rfl (OpQ.move rfl) ?_
    refine Wl.skip rfl rfl ?_
    refine Wl.skip rfl rfl ?_
    refine Wl.skip rfl rfl ?_
    refine Wl.q rfl rfl (OpQ.pickT rfl rfl) ?_
    refine Wl.q rfl rfl (OpQ.move rfl) ?_
    refine Wl.skip rfl rfl ?_
    refine Wl.skip rfl rfl ?_
    refine Wl.skip rfl rfl ?_
    refine Wl.skip rfl rfl ?_
    refine Wl.q rfl rfl (OpQ.pickT rfl rfl) ?_
    refine Wl.nil (PX.then_n ?_)
    refine CT.condT rfl ?_
    refine CT.seq (CT.region ?_)
    refine Wl.q rfl rfl (OpQ.assign rfl) ?_
    refine Wl.nil (PX.then_n (CT.ret (PX.then_r ?_)))
    refine PX.ret1 rfl rfl (fun w' hH => ?_)
    exact ⟨Tl.ret_i (dvE_form hmay (by omega) (by omega)).symm, hH.ext⟩
   ·
    have hg19 := of_decide_eq_false hg19
    refine Wl.q rfl rfl (OpQ.fieldAddr K21_fa25_3 rfl) ?_
    refine Wl.q rfl rfl (OpQ.loadF (b := b1) K21_sc23 rfl (by repeat (first | exact Has.here | apply Has.there)) (by rfl)) ?_
    refine Wl.q rfl rfl (OpQ.len K21_un23 rfl) ?_
    refine Wl.q rfl rfl (OpQ.move rfl) ?_
    refine Wl.q rfl rfl (OpQ.neq rfl rfl) ?_
    refine Wl.q rfl rfl (OpQ.pickF rfl rfl) ?_
    refine Wl.q rfl rfl (OpQ.move rfl) ?_
    refine Wl.split 26 rfl (fun hg26 => ?_) (fun hg26 => ?_)
    ·
     have hg26 := of_nd_t hg26
     refine Wl.skip rfl rfl ?_
     refine Wl.skip rfl rfl ?_
     refine Wl.skip rfl rfl ?_
     refine Wl.q rfl rfl (OpQ.pickT rfl rfl) ?_
     refine Wl.q rfl rfl (OpQ.move rfl) ?_
     refine Wl.skip rfl rfl ?_
     refine Wl.skip rfl rfl ?_
     refine Wl.skip rfl rfl ?_
     refine Wl.skip rfl rfl ?_
     refine Wl.q rfl rfl (OpQ.pickT rfl rfl) ?_
     refine Wl.nil (PX.then_n ?_)
     refine CT.condT rfl ?_
     refine CT.seq (CT.region ?_)
     refine Wl.q rfl rfl (OpQ.assign rfl) ?_
     refine Wl.nil (PX.then_n (CT.ret (PX.then_r ?_)))
     refine PX.ret1 rfl rfl (fun w' hH => ?_)
     exact ⟨Tl.ret_i (dvE_form hmay (by omega) (by omega)).symm, hH.ext⟩
    ·
     have hg26 := of_nd_f hg26
     refine Wl.q rfl rfl (OpQ.fieldAddr K21_fa25_1 rfl) ?_
     refine Wl.q rfl rfl (OpQ.loadF (b := b1) K21_sc3 rfl (by repeat (first | exact Has.here | apply Has.there)) (by rfl)) ?_
     refine Wl.q rfl rfl (OpQ.lss rfl rfl) ?_
     refine Wl.q rfl rfl (OpQ.pickF rfl rfl) ?_
     refine Wl.q rfl rfl (OpQ.move rfl) ?_
     refine Wl.split 31 rfl (fun hg31 => ?_) (fun hg31 => ?_)
     ·
      have hg31 := of_decide_eq_true hg31
      refine Wl.skip rfl rfl ?_
      refine Wl.skip rfl rfl ?_
      refine Wl.skip rfl rfl ?_
      refine Wl.skip rfl rfl ?_
      refine Wl.q rfl rfl (OpQ.pickT rfl rfl) ?_
      refine Wl.nil (PX.then_n ?_)
      refine CT.condT rfl ?_
      refine CT.seq (CT.region ?_)
      refine Wl.q rfl rfl (OpQ.assign rfl) ?_
      refine Wl.nil (PX.then_n (CT.ret (PX.then_r ?_)))
      refine PX.ret1 rfl rfl (fun w' hH => ?_)
      exact ⟨Tl.ret_i (dvE_form hmay (by omega) (by omega)).symm, hH.ext⟩
     ·
      have hg31 := of_decide_eq_false hg31
      refine Wl.q rfl rfl (OpQ.fieldAddr K21_fa25_1 rfl) ?_
      refine Wl.q rfl rfl (OpQ.loadF (b := b1) K21_sc3 rfl (by repeat (first | exact Has.here | apply Has.there)) (by rfl)) ?_
      refine Wl.q rfl rfl (OpQ.move rfl) ?_
      refine Wl.q rfl rfl (OpQ.geq rfl rfl) ?_
      refine Wl.q rfl rfl (OpQ.pickF rfl rfl) ?_
      refine Wl.nil (PX.then_n ?_)
      refine CT.cond rfl (fun h36 => ?_) (fun h36 => ?_)
      ·
       have h36 := of_decide_eq_true h36
       refine CT.seq (CT.region ?_)
       refine Wl.q rfl rfl (OpQ.assign rfl) ?_
       refine Wl.nil (PX.then_n (CT.ret (PX.then_r ?_)))
       refine PX.ret1 rfl rfl (fun w' hH => ?_)
       exact ⟨Tl.ret_i (dvE_form hmay (by omega) (by omega)).symm, hH.ext⟩
      ·
       have h36 := of_decide_eq_false h36
       have hlen : D.rs.length = D.fin.length := by omega
       refine CT.skip (PX.then_n (CT.seq (CT.seq (CT.region ?_))))
       refine Wl.q rfl rfl (OpQ.fieldAddr K21_fa25_3 rfl) ?_
       refine Wl.q rfl rfl (OpQ.loadF (b := b1) K21_sc23 rfl (by repeat (first | exact Has.here | apply Has.there)) (by rfl)) ?_
       refine Wl.q rfl rfl (OpQ.len K21_un23 rfl) ?_
       refine Wl.q rfl rfl (OpQ.move rfl) ?_
       refine Wl.nil (PX.then_n (CT.block ?_))
       refine CT.loop (ι := Nat) (fun i => i ≤ D.rs.length ∧ ∀ q, q < i → rowB D.fin.length D.L (D.rs.getD q rw0) = true) (fun i => [(1, .pointer (some ⟨b1, 0, none⟩)), (3, .int .i64 ((D.fin.length : Nat) : Int)), (38, .slice D.na D.rs.length D.nc), (39, .int .i64 ((D.rs.length : Nat) : Int)), (40, .int .i64 ((i : Nat) : Int))]) (fun _ => [.row 25 4 (vb b1) 1 (dvc D)]) (fun i => D.rs.length - i) 0 ⟨Nat.zero_le _, fun q hq => by omega⟩ ⟨rfl, rfl, rfl, rfl, rfl, trivial⟩ (HSub.refl _) (fun i ⟨hi, hall⟩ K0 hK0 => ?_)
       refine CT.seq (CT.region ?_)
       refine Wl.q rfl rfl (OpQ.lss rfl rfl) ?_
       refine Wl.nil (PX.then_n (CT.seq ?_))
       refine CT.cond rfl (fun h41 => ?_) (fun h41 => ?_)
       ·
        have h41 := of_decide_eq_true h41
        refine CT.skip (PX.then_n (CT.seq (CT.block (CT.seq (CT.region ?_)))))
        refine Wl.q rfl rfl (OpQ.index1 K21_un23 K21_sz46 rfl rfl (by omega) (hns (by omega))) ?_
        refine Wl.q rfl rfl (OpQ.loadG K21_sc46 rfl (fun w hH => (hH.use hD).2.1) (getMap rv D.rs rw0 (j := i) (by omega))) ?_
        refine Wl.q rfl rfl (OpQ.assign rfl) ?_
        refine Wl.nil (PX.then_n (CT.seq (CT.seq (CT.region ?_))))
        refine Wl.q rfl rfl (OpQ.move rfl) ?_
        refine Wl.q rfl rfl (OpQ.len K21_un46 rfl) ?_
        refine Wl.q rfl rfl (OpQ.fieldAddr K21_fa25_0 rfl) ?_
        refine Wl.q rfl rfl (OpQ.loadF (b := b1) K21_sc3 rfl (by repeat (first | exact Has.here | apply Has.there)) (by rfl)) ?_
        refine Wl.q rfl rfl (OpQ.neq rfl rfl) ?_
        refine Wl.nil (PX.then_n ?_)
        refine CT.cond rfl (fun h48 => ?_) (fun h48 => ?_)
        ·
         have h48 := of_nd_t h48
         have hbad : rowB D.fin.length D.L (D.rs.getD i rw0) = false := by unfold rowB; rw [decide_eq_false h48]; rfl
         refine CT.seq (CT.region ?_)
         refine Wl.q rfl rfl (OpQ.assign rfl) ?_
         refine Wl.nil (PX.then_n (CT.ret (PX.then_r (PX.block_r (PX.then_r (PX.then_r (PX.block_r (PX.then_r ?_))))))))
         refine PX.ret1 rfl rfl (fun w' hH => ?_)
         exact ⟨Tl.ret_i (dvE_row hmay (by omega) (show i < D.rs.length by omega) hbad).symm, hH.ext⟩
        ·
         have h48 := of_nd_f h48
         refine CT.skip (PX.then_n (CT.seq (CT.region ?_)))
         refine Wl.q rfl rfl (OpQ.move rfl) ?_
         refine Wl.q rfl rfl (OpQ.len K21_un46 rfl) ?_
         refine Wl.q rfl rfl (OpQ.move rfl) ?_
         refine Wl.nil (PX.then_n (CT.block ?_))
         refine CT.loop (ι := Nat) (fun j => j ≤ (D.rs.getD i rw0).xs.length ∧ ∀ x, x < j → 0 ≤ (D.rs.getD i rw0).xs.getD x 0 ∧ (D.rs.getD i rw0).xs.getD x 0 < D.fin.length) (fun j => [(1, .pointer (some ⟨b1, 0, none⟩)), (3, .int .i64 ((D.fin.length : Nat) : Int)), (38, .slice D.na D.rs.length D.nc), (39, .int .i64 ((D.rs.length : Nat) : Int)), (40, .int .i64 ((i : Nat) : Int)), (5, rv (D.rs.getD i rw0)), (49, rv (D.rs.getD i rw0)), (50, .int .i64 (((D.rs.getD i rw0).xs.length : Nat) : Int)), (51, .int .i64 ((j : Nat) : Int))]) (fun _ => [.row 25 4 (vb b1) 1 (dvc D)]) (fun j => (D.rs.getD i rw0).xs.length - j) 0 ⟨Nat.zero_le _, fun q hq => by omega⟩ ⟨rfl, rfl, rfl, rfl, rfl, rfl, rfl, rfl, rfl, trivial⟩ (HSub.refl _) (fun j ⟨hj, hrng⟩ K1 hK1 => ?_)
         refine CT.seq (CT.region ?_)
         refine Wl.q rfl rfl (OpQ.lss rfl rfl) ?_
         refine Wl.nil (PX.then_n (CT.seq ?_))
         refine CT.cond rfl (fun h52 => ?_) (fun h52 => ?_)
         ·
          have h52 := of_decide_eq_true h52
          refine CT.skip (PX.then_n (CT.seq (CT.block (CT.seq (CT.region ?_)))))
          refine Wl.q rfl rfl (OpQ.index1 K21_un46 K21_sz3 rfl rfl (by omega) (hrs i (by omega) (by omega))) ?_
          refine Wl.q rfl rfl (OpQ.loadG K21_sc3 rfl (fun w hH => (hH.use hD).2.2 _ (getDm (show i < D.rs.length by omega))) (getMap zz (D.rs.getD i rw0).xs 0 (j := j) (by omega))) ?_
          refine Wl.q rfl rfl (OpQ.assign rfl) ?_
          refine Wl.nil (PX.then_n (CT.seq (CT.region ?_)))
          refine Wl.q rfl rfl (OpQ.move rfl) ?_
          refine Wl.q rfl rfl (OpQ.lss rfl rfl) ?_
          refine Wl.q rfl rfl (OpQ.move rfl) ?_
          refine Wl.split 57 rfl (fun hg57 => ?_) (fun hg57 => ?_)
          ·
           have hg57 := of_decide_eq_true hg57
           have hbad : rowB D.fin.length D.L (D.rs.getD i rw0) = false := by
            unfold rowB
            rw [Bool.and_eq_false_iff]
            refine .inr (List.all_eq_false.2 ⟨_, getDm (show j < (D.rs.getD i rw0).xs.length by omega) (d := 0), ?_⟩)
            rw [decide_eq_true_eq]; omega
           refine Wl.skip rfl rfl ?_
           refine Wl.skip rfl rfl ?_
           refine Wl.skip rfl rfl ?_
           refine Wl.q rfl rfl (OpQ.pickT rfl rfl) ?_
           refine Wl.nil (PX.then_n ?_)
           refine CT.condT rfl ?_
           refine CT.seq (CT.region ?_)
           refine Wl.q rfl rfl (OpQ.assign rfl) ?_
           refine Wl.nil (PX.then_n (CT.ret (PX.block_r (PX.then_r (PX.then_r (PX.block_r (PX.block_r (PX.then_r (PX.then_r (PX.block_r (PX.then_r ?_)))))))))))
           refine PX.ret1 rfl rfl (fun w' hH => ?_)
           exact ⟨Tl.ret_i (dvE_row hmay (by omega) (show i < D.rs.length by omega) hbad).symm, hH.ext⟩
          ·
           have hg57 := of_decide_eq_false hg57
           refine Wl.q rfl rfl (OpQ.move rfl) ?_
           refine Wl.q rfl rfl (OpQ.move rfl) ?_
           refine Wl.q rfl rfl (OpQ.geq rfl rfl) ?_
           refine Wl.q rfl rfl (OpQ.pickF rfl rfl) ?_
           refine Wl.nil (PX.then_n ?_)
           refine CT.cond rfl (fun h61 => ?_) (fun h61 => ?_)
           ·
            have h61 := of_decide_eq_true h61
            have hbad : rowB D.fin.length D.L (D.rs.getD i rw0) = false := by
             unfold rowB
             rw [Bool.and_eq_false_iff]
             refine .inr (List.all_eq_false.2 ⟨_, getDm (show j < (D.rs.getD i rw0).xs.length by omega) (d := 0), ?_⟩)
             rw [decide_eq_true_eq]; omega
            refine CT.seq (CT.region ?_)
            refine Wl.q rfl rfl (OpQ.assign rfl) ?_
            refine Wl.nil (PX.then_n (CT.ret (PX.block_r (PX.then_r (PX.then_r (PX.block_r (PX.block_r (PX.then_r (PX.then_r (PX.block_r (PX.then_r ?_)))))))))))
            refine PX.ret1 rfl rfl (fun w' hH => ?_)
            exact ⟨Tl.ret_i (dvE_row hmay (by omega) (show i < D.rs.length by omega) hbad).symm, hH.ext⟩
           ·
            have h61 := of_decide_eq_false h61
            refine CT.skip (PX.block_n (PX.then_n (CT.region ?_)))
            refine Wl.q rfl rfl (OpQ.add rfl rfl (by omega)) ?_
            refine Wl.q rfl rfl (OpQ.move rfl) ?_
            refine Wl.nil ?_
            exact PX.loop hK1 (j + 1) ⟨by omega, fun x hx => by rcases Nat.lt_or_ge x j with h1 | h1; exact hrng x h1; obtain rfl : x = j := (by omega); exact ⟨by omega, by omega⟩⟩ (by first | omega | (dsimp only; omega)) ⟨rfl, rfl, rfl, rfl, rfl, rfl, rfl, rfl, rfl, trivial⟩ (HSub.refl _)
         ·
          have h52 := of_decide_eq_false h52
          refine CT.exit (PX.then_x (PX.then_x (PX.block_x (PX.block_n (PX.then_n (CT.region ?_))))))
          refine Wl.q rfl rfl (OpQ.add rfl rfl (by omega)) ?_
          refine Wl.q rfl rfl (OpQ.move rfl) ?_
          refine Wl.nil ?_
          have hrow : rowB D.fin.length D.L (D.rs.getD i rw0) = true := by
           unfold rowB
           rw [Bool.and_eq_true, decide_eq_true_eq, List.all_eq_true]
           refine ⟨h48, fun x hx => ?_⟩
           obtain ⟨j, hj, rfl⟩ := List.mem_iff_getElem.1 hx
           have h0 := hrng j (by omega)
           rw [List.getD_eq_getElem?_getD (l := (D.rs.getD i rw0).xs), List.getElem?_eq_getElem hj, Option.getD_some] at h0
           exact decide_eq_true h0
          exact PX.loop hK0 (i + 1) ⟨by omega, fun q hq => by rcases Nat.lt_or_ge q i with h1 | h1; exact hall q h1; obtain rfl : q = i := (by omega); exact hrow⟩ (by first | omega | (dsimp only; omega)) ⟨rfl, rfl, rfl, rfl, rfl, trivial⟩ (HSub.refl _)
       ·
        have h41 := of_decide_eq_false h41
        refine CT.exit (PX.then_x (PX.then_x (PX.block_x (PX.then_n (CT.seq (CT.region ?_))))))
        refine Wl.q rfl rfl (OpQ.assign rfl) ?_
        refine Wl.nil (PX.then_n (CT.ret ?_))
        refine PX.ret1 rfl rfl (fun w' hH => ?_)
        exact ⟨Tl.ret_i (dvE_ok hmay (by omega) (by omega) (fun q hq => hall q (by omega))).symm, hH.ext⟩

theorem K21_go20 : isGo Tryz.prog 20 = true := by kernel_rfl
set_option maxRecDepth 100000 in
/-- semigroup/semigrouptop.small -/
theorem small_spec (w : World) (D : Dv) (hD : Stays [] w (dvm D)) (m : Int) : Calls Tryz.prog 6 #[dvv D, .int .i64 m] w (fun e w' => e = .returned (.bool (decide (((D.fin.length : Nat) : Int) ≤ m ∧ D.L ≤ 2 ∧ dvE D = 0))) ∧ Ext [] w w') := by
 refine enter (args := [dvv D, .int .i64 m]) [] 20 Tryz.func6 rfl rfl rfl ?_
 refine CT.seq (CT.region ?_)
 refine Wl.g rfl rfl (OpG.box (size := 4) rfl rfl rfl) ?_
 rintro b2 _
 refine Wl.q rfl rfl (OpQ.assign rfl) ?_
 refine Wl.nil (PX.then_n (CT.seq (CT.region ?_)))
 refine Wl.q rfl rfl (OpQ.fieldAddr K21_fa25_2 rfl) ?_
 refine Wl.q rfl rfl (OpQ.loadF (b := b2) K21_sc22 rfl (by repeat (first | exact Has.here | apply Has.there)) (by rfl)) ?_
 refine Wl.q rfl rfl (OpQ.len K21_un22 rfl) ?_
 refine Wl.q rfl rfl (OpQ.move rfl) ?_
 refine Wl.q rfl rfl (OpQ.leq rfl rfl) ?_
 refine Wl.q rfl rfl (OpQ.move rfl) ?_
 refine Wl.split 10 rfl (fun hg10 => ?_) (fun hg10 => ?_)
 ·
  have hg10 := of_decide_eq_true hg10
  refine Wl.q rfl rfl (OpQ.fieldAddr K21_fa25_0 rfl) ?_
  refine Wl.q rfl rfl (OpQ.loadF (b := b2) K21_sc3 rfl (by repeat (first | exact Has.here | apply Has.there)) (by rfl)) ?_
  refine Wl.q rfl rfl (OpQ.leq rfl rfl) ?_
  refine Wl.q rfl rfl (OpQ.pickT rfl rfl) ?_
  refine Wl.q rfl rfl (OpQ.move rfl) ?_
  refine Wl.split 15 rfl (fun hg15 => ?_) (fun hg15 => ?_)
  ·
   have hg15 := of_decide_eq_true hg15
   refine Wl.q rfl rfl (OpQ.loadV (b := b2) K21_ag25 K21_sz25 rfl (by repeat (first | exact Has.here | apply Has.there)) (by rfl)) ?_
   refine Wl.know 16 (v' := dvv D) rfl rfl ?_
   refine Wl.g rfl rfl (OpG.callV K21_go20 rfl (fun w hH => dvalidR_spec w D (hH.stays0 hD))) ?_
   rintro _ _
   refine Wl.q rfl rfl (OpQ.eql rfl rfl) ?_
   refine Wl.q rfl rfl (OpQ.pickT rfl rfl) ?_
   refine Wl.q rfl rfl (OpQ.assign rfl) ?_
   refine Wl.nil (PX.then_n (CT.ret ?_))
   refine PX.ret1 rfl rfl (fun w' hH => ?_)
   exact ⟨congrArg (fun z => Ending.returned (Value.bool z)) (by rw [decide_eq_decide]; exact ⟨fun h => ⟨hg10, hg15, h⟩, fun h => h.2.2⟩), hH.ext⟩
  ·
   have hg15 := of_decide_eq_false hg15
   refine Wl.skip rfl rfl ?_
   refine Wl.skip rfl rfl ?_
   refine Wl.skip rfl rfl ?_
   refine Wl.q rfl rfl (OpQ.pickF rfl rfl) ?_
   refine Wl.q rfl rfl (OpQ.assign rfl) ?_
   refine Wl.nil (PX.then_n (CT.ret ?_))
   refine PX.ret1 rfl rfl (fun w' hH => ?_)
   exact ⟨congrArg (fun z => Ending.returned (Value.bool z)) (decide_eq_false fun h => hg15 h.2.1).symm, hH.ext⟩
 ·
  have hg10 := of_decide_eq_false hg10
  refine Wl.skip rfl rfl ?_
  refine Wl.skip rfl rfl ?_
  refine Wl.skip rfl rfl ?_
  refine Wl.q rfl rfl (OpQ.pickF rfl rfl) ?_
  refine Wl.q rfl rfl (OpQ.move rfl) ?_
  refine Wl.skip rfl rfl ?_
  refine Wl.skip rfl rfl ?_
  refine Wl.skip rfl rfl ?_
  refine Wl.q rfl rfl (OpQ.pickF rfl rfl) ?_
  refine Wl.q rfl rfl (OpQ.assign rfl) ?_
  refine Wl.nil (PX.then_n (CT.ret ?_))
  refine PX.ret1 rfl rfl (fun w' hH => ?_)
  exact ⟨congrArg (fun z => Ending.returned (Value.bool z)) (decide_eq_false fun h => hg10 h.1).symm, hH.ext⟩

end Go.Proofs.YtmggcdegekbncaaGreatDoor

