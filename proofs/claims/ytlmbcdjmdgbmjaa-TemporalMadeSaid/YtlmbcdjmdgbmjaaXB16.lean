/-
  What functions of the program compute, each by its walk. Conditions: those that each theorem names.
-/
import Derived.Test.YtlmbcdjmdgbmjaaMod
import Derived.Test.YtlmbcdjmdgbmjaaXB9
import Derived.Test.YtlmbcdjmdgbmjaaXB15
import Derived.Test.YtlmbcdjmdgbmjaaXB5
import Derived.Test.YtlmbcdjmdgbmjaaXQ5
import Derived.Test.YtlmbcdjmdgbmjaaXQ7
set_option linter.unusedSimpArgs false
namespace Go.Proofs.Ytlmbcdjmdgbmjaa
open Go Go.Eng Go.Am Go.Tl
open Go.Tp (zi)

theorem AP_sz3 : sizeB Try.prog 3 = some 1 := by kernel_rfl
theorem AP_go12 : isGo Try.prog 12 = true := by kernel_rfl
theorem AP_go13 : isGo Try.prog 13 = true := by kernel_rfl
theorem AP_go14 : isGo Try.prog 14 = true := by kernel_rfl
theorem AP_go15 : isGo Try.prog 15 = true := by kernel_rfl
theorem AP_un22 : Try.prog.underlying 22 = some (.slice 31) := by kernel_rfl
theorem AP_go25 : isGo Try.prog 25 = true := by kernel_rfl
theorem AP_in52 : (Try.prog.info? 52).map (fun i => (i.zero, i.size, i.bytes)) = some (some (.agg #[.int .i64 0, .int .i64 0, .slice none 0 0, .slice none 0 0]), 4, 64) := by kernel_rfl
theorem AP_sz52 : sizeB Try.prog 52 = some 4 := by kernel_rfl
theorem AP_go26 : isGo Try.prog 26 = true := by kernel_rfl
theorem AP_ag52 : isAggB Try.prog 52 = some true := by kernel_rfl
theorem AP_go27 : isGo Try.prog 27 = true := by kernel_rfl
theorem AP_go10 : isGo Try.prog 10 = true := by kernel_rfl
theorem AP_go28 : isGo Try.prog 28 = true := by kernel_rfl
theorem AP_sz31 : sizeB Try.prog 31 = some 4 := by kernel_rfl
theorem AP_fa31_0 : fieldB Try.prog 31 0 = some 0 := by kernel_rfl
theorem AP_fa31_1 : fieldB Try.prog 31 1 = some 1 := by kernel_rfl
theorem AP_fa31_2 : fieldB Try.prog 31 2 = some 2 := by kernel_rfl
theorem AP_fa31_3 : fieldB Try.prog 31 3 = some 3 := by kernel_rfl
theorem AP_go11 : isGo Try.prog 11 = true := by kernel_rfl
set_option maxRecDepth 100000 in
/-- semigroup/semigrouplaw39.TemporalMade -/
theorem TemporalMade_spec (w : World) (a : Option Addr) (cp : Nat) (l : List Int) (hrl : Rd w a (l.map zi)) (hl : l.length ≤ cp) (how at_ v : Int) : Calls Try.prog 8 #[.slice a l.length cp, .int .i64 (how), .int .i64 (at_), .int .i64 (v)] w (fun e w' => e = .returned (.bool true) ∧ Ext [] w w') := by
 refine enter (args := [.slice a l.length cp, .int .i64 (how), .int .i64 (at_), .int .i64 (v)]) [] 109 Try.func8 rfl rfl rfl ?_
 refine CT.seq ?_
 refine CT.region ?_
 refine Wl.q rfl rfl (OpQ.assign rfl) ?_
 refine Wl.nil ?_
 refine PX.then_n ?_
 refine CT.seq ?_
 refine CT.region ?_
 refine Wl.q rfl rfl (OpQ.move rfl) ?_
 refine Wl.g rfl rfl (OpG.callX AP_go12 rfl .nil (fun _ => (.cons .nil)) (fun w hH hp => new_spec w a cp l hl)) ?_
 rintro ⟨b20, k20⟩ h20
 dsimp only at h20
 obtain ⟨hk20, hk20m⟩ := h20
 have hrT20 : Stays [] w (fun w => Rd w a ((l.take k20).map zi)) := Rd.stays (by rw [List.map_take]; exact hrl.take _)
 have hle20 : (l.take k20).length = k20 := by rw [List.length_take]; omega
 refine Wl.q rfl rfl (OpQ.assign rfl) ?_
 refine Wl.nil ?_
 refine PX.then_n ?_
 refine CT.seq ?_
 refine CT.region ?_
 refine Wl.q rfl rfl (OpQ.move rfl) ?_
 refine Wl.g rfl rfl (OpG.callX AP_go13 rfl (.cons .here .nil) (fun _ => (.cons .nil)) (fun w hH hp => next_spec w b20 a k20 cp (l.take k20) hle20 (by omega) (hH.stays hrT20 (.cons .here .nil)) 0 (Nat.zero_le _) hp (3) (by omega))) ?_
 rintro ⟨r22, p22⟩ h22
 dsimp only at h22
 obtain ⟨⟨h22a, h22b⟩, h22p⟩ := h22
 refine Wl.know 22 (v' := .int .i64 r22) rfl rfl ?_
 refine Wl.q rfl rfl (OpQ.add rfl rfl (by omega)) ?_
 refine Wl.q rfl rfl (OpQ.assign rfl) ?_
 refine Wl.nil ?_
 refine PX.then_n ?_
 refine CT.seq ?_
 refine CT.region ?_
 refine Wl.q rfl rfl (OpQ.move rfl) ?_
 refine Wl.q rfl rfl (OpQ.move rfl) ?_
 refine Wl.g rfl rfl (OpG.callX AP_go14 rfl (.cons .here .nil) (fun _ => (.cons (.cons .nil))) (fun w hH hp => list_spec w b20 a k20 cp (l.take k20) hle20 (by omega) (hH.stays hrT20 (.cons .here .nil)) p22 h22p hp (1 + r22) 9 (by omega) (by omega))) ?_
 rintro ⟨xs, p26, a26, c26⟩ h26
 dsimp only at h26
 obtain ⟨⟨hok, hlen1, hlen8⟩, h26p⟩ := h26
 refine Wl.know 26 (v' := .slice a26 xs.length c26) rfl rfl ?_
 refine Wl.q rfl rfl (OpQ.assign rfl) ?_
 refine Wl.nil ?_
 refine PX.then_n ?_
 refine CT.seq ?_
 refine CT.region ?_
 refine Wl.q rfl rfl (OpQ.move rfl) ?_
 refine Wl.q rfl rfl (OpQ.move rfl) ?_
 refine Wl.g rfl rfl (OpG.callX AP_go15 rfl (.cons (.there .here) .nil) (fun _ => (.cons .nil)) (fun w hH hp => word_spec w b20 a k20 cp (l.take k20) hle20 (by omega) (hH.stays hrT20 (.cons (.there .here) .nil)) p26 h26p hp (1 + r22) 12 (by omega) (by omega))) ?_
 rintro ⟨ws, p29⟩ h29
 dsimp only at h29
 obtain ⟨⟨hwl, hwk⟩, h29p⟩ := h29
 refine Wl.know 29 (v' := sv ws) rfl rfl ?_
 refine Wl.q rfl rfl (OpQ.assign rfl) ?_
 refine Wl.nil ?_
 refine PX.then_n ?_
 refine CT.seq ?_
 refine CT.region ?_
 refine Wl.q rfl rfl (OpQ.move rfl) ?_
 refine Wl.q rfl rfl (OpQ.len AP_un22 rfl) ?_
 refine Wl.q rfl rfl (OpQ.sub rfl rfl (by omega)) ?_
 refine Wl.q rfl rfl (OpQ.assign rfl) ?_
 refine Wl.nil ?_
 refine PX.then_n ?_
 refine CT.seq ?_
 refine CT.region ?_
 refine Wl.q rfl rfl (OpQ.move rfl) ?_
 refine Wl.q rfl rfl (OpQ.move rfl) ?_
 refine Wl.q rfl rfl (OpQ.move rfl) ?_
 refine Wl.g rfl rfl (OpG.callX AP_go25 rfl .nil (fun _ => (.cons .nil)) (fun w hH hp => dfa39_spec w a26 c26 xs (Stays.rd (hH.staysK0 (.there .here))) (by omega) ((xs.length : Int) - 1) (1 + r22))) ?_
 rintro ⟨D, bsD, er⟩ hM
 dsimp only at hM
 refine Wl.q rfl rfl (OpQ.move rfl) ?_
 refine Wl.q rfl rfl (OpQ.extract rfl rfl) ?_
 refine Wl.know 38 (v' := dvv D) rfl rfl ?_
 refine Wl.q rfl rfl (OpQ.extract rfl rfl) ?_
 refine Wl.know 39 (v' := .int .i64 er) rfl rfl ?_
 refine Wl.g rfl rfl (OpG.alloc (zs := [.int .i64 0, .int .i64 0, .slice none 0 0, .slice none 0 0]) AP_in52 rfl rfl) ?_
 rintro b14 _
 refine Wl.g rfl rfl (OpG.storeV (b := b14) AP_sz52 rfl rfl rfl rfl (by repeat (first | exact Upd.here | apply Upd.there))) ?_
 rintro _ _
 refine Wl.q rfl rfl (OpQ.assign rfl) ?_
 refine Wl.nil ?_
 refine PX.then_n ?_
 refine CT.cut (ι := Unit) (Φ := fun _ => True) (E' := fun _ => [(1, .int .i64 (how)), (2, .int .i64 (at_)), (3, .int .i64 (v)), (10, .int .i64 (1 + r22)), (11, .slice a26 xs.length c26), (12, sv ws), (13, .int .i64 ((xs.length : Int) - 1))]) (H' := fun _ => [.row 61 2 (vb b20) 1 [.slice a k20 cp, .int .i64 ((p29 : Nat) : Int)], .row 31 4 (.slice a26 xs.length c26) xs.length (xs.flatMap tv)]) (fun K0 hK0 => ?_) (fun _ _ => ?_)
 ·
  refine CT.seq ?_
  refine CT.region ?_
  refine Wl.q rfl rfl (OpQ.move rfl) ?_
  refine Wl.q rfl rfl (OpQ.eql rfl rfl) ?_
  refine Wl.nil ?_
  refine PX.then_n ?_
  refine CT.cond rfl (fun h41 => ?_) (fun h41 => ?_)
  ·
   have h41 := of_decide_eq_true h41
   have hMd := hM h41
   refine CT.seq ?_
   refine CT.region ?_
   refine Wl.q rfl rfl (OpQ.move rfl) ?_
   refine Wl.q rfl rfl (OpQ.move rfl) ?_
   refine Wl.q rfl rfl (OpQ.move rfl) ?_
   refine Wl.g rfl rfl (OpG.callX AP_go26 rfl .nil (fun _ => (.cons .nil)) (fun w hH hp => dfaT_spec w a26 c26 xs (Stays.rd (hH.staysK0 (.there (.there (.there .here))))) (owns_cap (hH.holds _ (Has.mem (.there (.there (.there .here))))).1) ((xs.length : Int) - 1) (1 + r22) D hMd)) ?_
   rintro ⟨D2, bs2⟩ h2
   dsimp only at h2
   obtain ⟨hv2, h52, hda⟩ := h2
   refine Wl.q rfl rfl (OpQ.move rfl) ?_
   refine Wl.q rfl rfl (OpQ.extract rfl rfl) ?_
   refine Wl.know 47 (v' := dvv D2) rfl rfl ?_
   refine Wl.q rfl rfl (OpQ.extract rfl rfl) ?_
   refine Wl.know 48 (v' := .int .i64 0) rfl rfl ?_
   refine Wl.g rfl rfl (OpG.alloc (zs := [.int .i64 0, .int .i64 0, .slice none 0 0, .slice none 0 0]) AP_in52 rfl rfl) ?_
   rintro b16 _
   refine Wl.g rfl rfl (OpG.storeV (b := b16) AP_sz52 rfl rfl rfl rfl (by repeat (first | exact Upd.here | apply Upd.there))) ?_
   rintro _ _
   refine Wl.q rfl rfl (OpQ.assign rfl) ?_
   refine Wl.nil ?_
   refine PX.then_n ?_
   refine CT.seq ?_
   refine CT.region ?_
   refine Wl.q rfl rfl (OpQ.move rfl) ?_
   refine Wl.q rfl rfl (OpQ.neq rfl rfl) ?_
   refine Wl.know 50 (v' := .bool false) rfl (congrArg Value.bool (by decide)) ?_
   refine Wl.q rfl rfl (OpQ.move rfl) ?_
   refine Wl.q rfl rfl (OpQ.loadV (b := b16) AP_ag52 AP_sz52 rfl (by repeat (first | exact Has.here | apply Has.there)) (by rfl)) ?_
   refine Wl.know 52 (v' := dvv D2) rfl rfl ?_
   refine Wl.q rfl rfl (OpQ.loadV (b := b14) AP_ag52 AP_sz52 rfl (by repeat (first | exact Has.here | apply Has.there)) (by rfl)) ?_
   refine Wl.know 53 (v' := dvv D) rfl rfl ?_
   refine Wl.g rfl rfl (OpG.callV AP_go27 rfl (fun w hH => same_spec w D2 D (Stays.frag (hH.staysK0 (.there .here))) (Stays.frag (hH.staysK0 (.there (.there (.there .here))))) (by omega) (by have := hv2.len; omega) (fun q hq => by have := hv2.len; have := hv2.may; have := (hv2.row q (by omega)).1; omega))) ?_
   rintro _ _
   refine Wl.know 54 (v' := .bool true) rfl (congrArg Value.bool ((sameD_da hv2 hMd.2.1).2 hda)) ?_
   refine Wl.q rfl rfl (OpQ.not rfl) ?_
   refine Wl.q rfl rfl (OpQ.pickF rfl rfl) ?_
   refine Wl.nil ?_
   refine PX.then_n ?_
   refine CT.condF rfl ?_
   refine CT.skip ?_
   refine PX.as (fun _ h => h.take (.cons (.there (.there (.there (.there .here)))) (.cons (.there (.there (.there (.there .here)))) .nil))) ?_
   exact PX.cut hK0 () trivial ⟨rfl, rfl, rfl, rfl, rfl, rfl, rfl, trivial⟩ (HSub.refl _)
  ·
   have h41 := of_decide_eq_false h41
   refine CT.skip ?_
   refine PX.as (fun _ h => h.take (.cons (.there (.there .here)) (.cons (.there (.there .here)) .nil))) ?_
   exact PX.cut hK0 () trivial ⟨rfl, rfl, rfl, rfl, rfl, rfl, rfl, trivial⟩ (HSub.refl _)
 ·
  refine CT.seq ?_
  refine CT.seq ?_
  refine CT.region ?_
  refine Wl.q rfl rfl (OpQ.move rfl) ?_
  refine Wl.q rfl rfl (OpQ.move rfl) ?_
  refine Wl.q rfl rfl (OpQ.move rfl) ?_
  refine Wl.q rfl rfl (OpQ.move rfl) ?_
  refine Wl.g rfl rfl (OpG.callV AP_go10 rfl (fun w hH => all_spec w a26 c26 xs (hH.rd (.there .here)) (by omega) (owns_cap (hH.holds _ (Has.mem (.there .here))).1) ((xs.length : Int) - 1) (1 + r22) ws (by omega))) ?_
  rintro _ _
  refine Wl.know 61 (v' := .bool true) rfl (congrArg Value.bool rfl) ?_
  refine Wl.q rfl rfl (OpQ.not rfl) ?_
  refine Wl.nil ?_
  refine PX.then_n ?_
  refine CT.condF rfl ?_
  refine CT.skip ?_
  refine PX.then_n ?_
  refine CT.seq ?_
  refine CT.region ?_
  refine Wl.fact (p := a26.isSome = true) (fun w hH => owns_isSome (hH.holds _ (Has.mem (.there .here))).1 (show xs.length ≠ 0 by omega)) (fun hia => ?_)
  refine Wl.q rfl rfl (OpQ.move rfl) ?_
  refine Wl.q rfl rfl (OpQ.move rfl) ?_
  refine Wl.q rfl rfl (OpQ.move rfl) ?_
  refine Wl.q rfl rfl (OpQ.len AP_un22 rfl) ?_
  refine Wl.g rfl rfl (OpG.call AP_go28 rfl (fun w hH => (mod_spec w _ (xs.length : Int) (by omega)).mono fun e w' ⟨r, h1, h2, h3⟩ => ⟨r, h1, h2, hH.ext_nil h3⟩)) ?_
  rintro r67 h67
  obtain ⟨h67a, h67b⟩ := h67
  refine Wl.know 67 (v' := .int .i64 (r67)) rfl rfl ?_
  refine Wl.q rfl rfl (OpQ.index AP_un22 AP_sz31 rfl rfl (by omega) hia) ?_
  refine Wl.q rfl rfl (OpQ.assign rfl) ?_
  refine Wl.nil ?_
  refine PX.then_n ?_
  refine CT.seq ?_
  refine CT.region ?_
  refine Wl.q rfl rfl (OpQ.move rfl) ?_
  refine Wl.g rfl rfl (OpG.call AP_go28 rfl (fun w hH => (mod_spec w _ 12 (by omega)).mono fun e w' ⟨r, h1, h2, h3⟩ => ⟨r, h1, h2, hH.ext_nil h3⟩)) ?_
  rintro r70 h70
  obtain ⟨h70a, h70b⟩ := h70
  refine Wl.know 70 (v' := .int .i64 (r70)) rfl rfl ?_
  refine Wl.q rfl rfl (OpQ.sub rfl rfl (by omega)) ?_
  refine Wl.q rfl rfl (OpQ.assign rfl) ?_
  refine Wl.nil ?_
  refine PX.then_n ?_
  refine CT.cut (ι := List Tm × Int) (Φ := fun (ys, root) => ys.length = xs.length) (E' := fun (ys, root) => [(10, .int .i64 (1 + r22)), (11, .slice a26 xs.length c26), (12, sv ws), (13, .int .i64 (root))]) (H' := fun (ys, root) => [.row 61 2 (vb b20) 1 [.slice a k20 cp, .int .i64 ((p29 : Nat) : Int)], .row 31 4 (.slice a26 xs.length c26) xs.length (ys.flatMap tv)]) (fun K1 hK1 => ?_) (fun ⟨ys, root⟩ hys => ?_)
  ·
   refine CT.seq ?_
   refine CT.region ?_
   refine Wl.q rfl rfl (OpQ.move rfl) ?_
   refine Wl.g rfl rfl (OpG.call AP_go28 rfl (fun w hH => (mod_spec w _ 5 (by omega)).mono fun e w' ⟨r, h1, h2, h3⟩ => ⟨r, h1, h2, hH.ext_nil h3⟩)) ?_
   rintro r73 h73
   obtain ⟨h73a, h73b⟩ := h73
   refine Wl.know 73 (v' := .int .i64 (r73)) rfl rfl ?_
   refine Wl.nil ?_
   refine PX.then_n ?_
   refine CT.block ?_
   refine CT.seq ?_
   refine CT.region ?_
   refine Wl.q rfl rfl (OpQ.eql rfl rfl) ?_
   refine Wl.q rfl rfl (OpQ.assign rfl) ?_
   refine Wl.nil ?_
   refine PX.then_n ?_
   refine CT.cond rfl (fun h74 => ?_) (fun h74 => ?_)
   ·
    have h74 := of_decide_eq_true h74
    refine CT.region ?_
    refine Wl.q rfl rfl (OpQ.move rfl) ?_
    refine Wl.q rfl rfl (OpQ.move rfl) ?_
    refine Wl.q rfl rfl (OpQ.nilCheckP rfl) ?_
    refine Wl.q rfl rfl (OpQ.fieldAddr AP_fa31_0 rfl) ?_
    refine Wl.g rfl rfl (OpG.storeRowF (i := r67.toNat * 4) (j := 0) AP_sz3 rfl rfl rfl (by repeat (first | exact Upd.here | apply Upd.there)) (by rw [flat_len tv_len]; show _ < xs.length * 4; omega)) ?_
    rintro _ _
    refine Wl.nil ?_
    refine PX.block_n ?_
    exact PX.cut hK1 (xs.set r67.toNat { (xs.getD r67.toNat t0) with op := r70 - 1 }, (xs.length : Int) - 1) (show (xs.set _ _).length = xs.length by rw [List.length_set]) ⟨rfl, rfl, rfl, rfl, trivial⟩ (.keep rfl (.keep (row_eq (flat_put tv_len xs t0 (o := 0) (by omega) (by decide) rfl)) .nil))
   ·
    have h74 := of_decide_eq_false h74
    refine CT.seq ?_
    refine CT.region ?_
    refine Wl.q rfl rfl (OpQ.eql rfl rfl) ?_
    refine Wl.q rfl rfl (OpQ.assign rfl) ?_
    refine Wl.nil ?_
    refine PX.then_n ?_
    refine CT.cond rfl (fun h80 => ?_) (fun h80 => ?_)
    ·
     have h80 := of_decide_eq_true h80
     refine CT.region ?_
     refine Wl.q rfl rfl (OpQ.move rfl) ?_
     refine Wl.q rfl rfl (OpQ.move rfl) ?_
     refine Wl.q rfl rfl (OpQ.nilCheckP rfl) ?_
     refine Wl.q rfl rfl (OpQ.fieldAddr AP_fa31_1 rfl) ?_
     refine Wl.g rfl rfl (OpG.storeRowF (i := r67.toNat * 4) (j := 1) AP_sz3 rfl rfl rfl (by repeat (first | exact Upd.here | apply Upd.there)) (by rw [flat_len tv_len]; show _ < xs.length * 4; omega)) ?_
     rintro _ _
     refine Wl.nil ?_
     refine PX.block_n ?_
     exact PX.cut hK1 (xs.set r67.toNat { (xs.getD r67.toNat t0) with lt := r70 - 1 }, (xs.length : Int) - 1) (show (xs.set _ _).length = xs.length by rw [List.length_set]) ⟨rfl, rfl, rfl, rfl, trivial⟩ (.keep rfl (.keep (row_eq (flat_put tv_len xs t0 (o := 1) (by omega) (by decide) rfl)) .nil))
    ·
     have h80 := of_decide_eq_false h80
     refine CT.seq ?_
     refine CT.region ?_
     refine Wl.q rfl rfl (OpQ.eql rfl rfl) ?_
     refine Wl.q rfl rfl (OpQ.assign rfl) ?_
     refine Wl.nil ?_
     refine PX.then_n ?_
     refine CT.cond rfl (fun h86 => ?_) (fun h86 => ?_)
     ·
      have h86 := of_decide_eq_true h86
      refine CT.region ?_
      refine Wl.q rfl rfl (OpQ.move rfl) ?_
      refine Wl.q rfl rfl (OpQ.move rfl) ?_
      refine Wl.q rfl rfl (OpQ.nilCheckP rfl) ?_
      refine Wl.q rfl rfl (OpQ.fieldAddr AP_fa31_2 rfl) ?_
      refine Wl.g rfl rfl (OpG.storeRowF (i := r67.toNat * 4) (j := 2) AP_sz3 rfl rfl rfl (by repeat (first | exact Upd.here | apply Upd.there)) (by rw [flat_len tv_len]; show _ < xs.length * 4; omega)) ?_
      rintro _ _
      refine Wl.nil ?_
      refine PX.block_n ?_
      exact PX.cut hK1 (xs.set r67.toNat { (xs.getD r67.toNat t0) with a := r70 - 1 }, (xs.length : Int) - 1) (show (xs.set _ _).length = xs.length by rw [List.length_set]) ⟨rfl, rfl, rfl, rfl, trivial⟩ (.keep rfl (.keep (row_eq (flat_put tv_len xs t0 (o := 2) (by omega) (by decide) rfl)) .nil))
     ·
      have h86 := of_decide_eq_false h86
      refine CT.seq ?_
      refine CT.region ?_
      refine Wl.q rfl rfl (OpQ.eql rfl rfl) ?_
      refine Wl.q rfl rfl (OpQ.assign rfl) ?_
      refine Wl.nil ?_
      refine PX.then_n ?_
      refine CT.cond rfl (fun h92 => ?_) (fun h92 => ?_)
      ·
       have h92 := of_decide_eq_true h92
       refine CT.region ?_
       refine Wl.q rfl rfl (OpQ.move rfl) ?_
       refine Wl.q rfl rfl (OpQ.move rfl) ?_
       refine Wl.q rfl rfl (OpQ.nilCheckP rfl) ?_
       refine Wl.q rfl rfl (OpQ.fieldAddr AP_fa31_3 rfl) ?_
       refine Wl.g rfl rfl (OpG.storeRowF (i := r67.toNat * 4) (j := 3) AP_sz3 rfl rfl rfl (by repeat (first | exact Upd.here | apply Upd.there)) (by rw [flat_len tv_len]; show _ < xs.length * 4; omega)) ?_
       rintro _ _
       refine Wl.nil ?_
       refine PX.block_n ?_
       exact PX.cut hK1 (xs.set r67.toNat { (xs.getD r67.toNat t0) with b := r70 - 1 }, (xs.length : Int) - 1) (show (xs.set _ _).length = xs.length by rw [List.length_set]) ⟨rfl, rfl, rfl, rfl, trivial⟩ (.keep rfl (.keep (row_eq (flat_put tv_len xs t0 (o := 3) (by omega) (by decide) rfl)) .nil))
      ·
       have h92 := of_decide_eq_false h92
       refine CT.seq ?_
       refine CT.region ?_
       refine Wl.q rfl rfl (OpQ.eql rfl rfl) ?_
       refine Wl.q rfl rfl (OpQ.assign rfl) ?_
       refine Wl.nil ?_
       refine PX.then_n ?_
       refine CT.cond rfl (fun h98 => ?_) (fun h98 => ?_)
       ·
        have h98 := of_decide_eq_true h98
        refine CT.region ?_
        refine Wl.q rfl rfl (OpQ.move rfl) ?_
        refine Wl.q rfl rfl (OpQ.assign rfl) ?_
        refine Wl.nil ?_
        refine PX.block_n ?_
        exact PX.cut hK1 (xs, r70 - 1) (show xs.length = xs.length from rfl) ⟨rfl, rfl, rfl, rfl, trivial⟩ (HSub.refl _)
       ·
        have h98 := of_decide_eq_false h98
        refine CT.skip ?_
        refine PX.block_n ?_
        exact PX.cut hK1 (xs, (xs.length : Int) - 1) (show xs.length = xs.length from rfl) ⟨rfl, rfl, rfl, rfl, trivial⟩ (HSub.refl _)
  ·
   dsimp only
   have hys : ys.length = xs.length := hys
   refine CT.know 11 (v' := .slice a26 ys.length c26) rfl (by rw [hys]) ?_
   refine CT.mem (.keep rfl (.keep (row_len hys) .nil)) ?_
   refine CT.seq ?_
   refine CT.region ?_
   refine Wl.q rfl rfl (OpQ.move rfl) ?_
   refine Wl.q rfl rfl (OpQ.move rfl) ?_
   refine Wl.q rfl rfl (OpQ.move rfl) ?_
   refine Wl.q rfl rfl (OpQ.move rfl) ?_
   refine Wl.g rfl rfl (OpG.callV AP_go10 rfl (fun w hH => all_spec w a26 c26 ys (hH.rd (.there .here)) (by omega) (owns_cap (hH.holds _ (Has.mem (.there .here))).1) root (1 + r22) ws (by omega))) ?_
   rintro _ _
   refine Wl.know 105 (v' := .bool true) rfl (congrArg Value.bool rfl) ?_
   refine Wl.q rfl rfl (OpQ.move rfl) ?_
   refine Wl.g rfl rfl (OpG.callV AP_go11 rfl (fun w hH => known_spec w)) ?_
   rintro _ _
   refine Wl.q rfl rfl (OpQ.pickT rfl rfl) ?_
   refine Wl.q rfl rfl (OpQ.assign rfl) ?_
   refine Wl.nil ?_
   refine PX.then_n ?_
   refine CT.ret ?_
   refine PX.ret1 rfl rfl (fun w' hH => ?_)
   exact ⟨rfl, hH.ext⟩

end Go.Proofs.Ytlmbcdjmdgbmjaa

