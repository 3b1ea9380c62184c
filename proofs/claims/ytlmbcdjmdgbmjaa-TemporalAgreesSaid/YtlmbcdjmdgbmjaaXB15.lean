/-
  What functions of the program compute, each by its walk. Conditions: those that each theorem names.
-/
import Derived.Test.YtlmbcdjmdgbmjaaMod
import Derived.Test.YtlmbcdjmdgbmjaaXB11
import Derived.Test.YtlmbcdjmdgbmjaaXB14
import Derived.Test.YtlmbcdjmdgbmjaaXQ3
set_option linter.unusedSimpArgs false
namespace Go.Proofs.Ytlmbcdjmdgbmjaa
open Go Go.Eng Go.Am
open Go.Tl (mayL bo Tm tv t0 okL vdF cutL cut_ok)

theorem AO_in52 : (Try.prog.info? 52).map (fun i => (i.zero, i.size, i.bytes)) = some (some (.agg #[.int .i64 0, .int .i64 0, .slice none 0 0, .slice none 0 0]), 4, 64) := by kernel_rfl
theorem AO_go30 : isGo Try.prog 30 = true := by kernel_rfl
theorem AO_go32 : isGo Try.prog 32 = true := by kernel_rfl
theorem AO_go49 : isGo Try.prog 49 = true := by kernel_rfl
theorem AO_go50 : isGo Try.prog 50 = true := by kernel_rfl
theorem AO_sz52 : sizeB Try.prog 52 = some 4 := by kernel_rfl
theorem AO_ag52 : isAggB Try.prog 52 = some true := by kernel_rfl
theorem AO_go51 : isGo Try.prog 51 = true := by kernel_rfl
set_option maxRecDepth 100000 in
/-- semigroup/temporal.Dfa -/
theorem dfaT_spec (w : World) (a : Option Addr) (cp : Nat) (xs : List Tm) (hr : Stays [] w (fun w => Rd w a (xs.flatMap tv))) (hcp : xs.length ≤ cp) (root L : Int) (D : Dv) (hM : Made xs root L D) : Calls Try.prog 26 #[.slice a xs.length cp, .int .i64 (root), .int .i64 (L)] w (fun e w' => ∃ i : Dv × List Nat, (i.1.Ok ∧ i.1.fin.length ≤ 512 ∧ i.1.da = D.da) ∧ e = .returned (.tuple #[dvv i.1, .int .i64 0]) ∧ Post [] [.frag i.2 (dvm i.1)] w w') := by
 have hvd := hM.1
 have hv := hM.2.1
 have h5 : D.da.n ≤ 512 := hM.2.2.1
 obtain ⟨hL, hlen, hok, hr0, hr1⟩ := vd_zeroL hM.1
 obtain ⟨h20, hbw⟩ := bw_facts hM
 have hrn : root = ((root.toNat : Nat) : Int) := by omega
 have hLn : L = ((L.toNat : Nat) : Int) := by omega
 have hrt : root.toNat < xs.length := by omega
 have hLL : 1 ≤ L.toNat ∧ L.toNat ≤ 6 := by omega
 have hcl : (cutL xs root.toNat).length ≤ 200000 := Nat.le_trans (Go.Tl.cuS_le _ _ _ _) (by omega)
 refine enter (args := [.slice a xs.length cp, .int .i64 (root), .int .i64 (L)]) [] 48 Try.func26 rfl rfl rfl ?_
 refine CT.seq ?_
 refine CT.region ?_
 refine Wl.g rfl rfl (OpG.alloc (zs := [.int .i64 0, .int .i64 0, .slice none 0 0, .slice none 0 0]) AO_in52 rfl rfl) ?_
 rintro b6 _
 refine Wl.q rfl rfl (OpQ.assign rfl) ?_
 refine Wl.nil ?_
 refine PX.then_n ?_
 refine CT.seq ?_
 refine CT.seq ?_
 refine CT.region ?_
 refine Wl.q rfl rfl (OpQ.move rfl) ?_
 refine Wl.q rfl rfl (OpQ.move rfl) ?_
 refine Wl.q rfl rfl (OpQ.move rfl) ?_
 refine Wl.g rfl rfl (OpG.callV AO_go30 rfl (fun w hH => validate_spec w a cp xs (hH.use hr) (by omega) root L)) ?_
 rintro _ _
 refine Wl.know 15 (v' := .int .i64 0) rfl (congrArg (Value.int .i64) hvd) ?_
 refine Wl.q rfl rfl (OpQ.assign rfl) ?_
 refine Wl.nil ?_
 refine PX.then_n ?_
 refine CT.seq ?_
 refine CT.region ?_
 refine Wl.q rfl rfl (OpQ.move rfl) ?_
 refine Wl.q rfl rfl (OpQ.neq rfl rfl) ?_
 refine Wl.know 17 (v' := .bool false) rfl (congrArg Value.bool (by decide)) ?_
 refine Wl.nil ?_
 refine PX.then_n ?_
 refine CT.condF rfl ?_
 refine CT.skip ?_
 refine PX.then_n ?_
 refine CT.seq ?_
 refine CT.region ?_
 refine Wl.q rfl rfl (OpQ.move rfl) ?_
 refine Wl.q rfl rfl (OpQ.move rfl) ?_
 refine Wl.know 22 (v' := .int .i64 ((root.toNat : Nat) : Int)) rfl (congrArg (Value.int .i64) hrn) ?_
 refine Wl.g rfl rfl (OpG.callR AO_go32 rfl (fun w hH => cut_spec w a cp xs (hH.use hr) hlen hcp root.toNat hrt hok)) ?_
 rintro ⟨a23, c23⟩ h23
 refine Wl.q rfl rfl (OpQ.move rfl) ?_
 refine Wl.know 24 (v' := .int .i64 ((L.toNat : Nat) : Int)) rfl (congrArg (Value.int .i64) hLn) ?_
 refine Wl.g rfl rfl (OpG.callX AO_go49 rfl .nil (fun _ => (.cons (.cons (.cons .nil)))) (fun w hH hp => backwards_spec w a23 c23 (cutL xs root.toNat) (Stays.rd (hH.staysK0 .here)) hcl cut_pos (cut_ok hok hrt) L.toNat hLL h20)) ?_
 rintro ⟨K1, b, na, nc, fa, fc⟩ hK1
 dsimp only at hK1
 obtain ⟨hdo, hdn, hdc, hdm⟩ := hbw K1 hK1
 refine Wl.q rfl rfl (OpQ.move rfl) ?_
 refine Wl.q rfl rfl (OpQ.extract rfl rfl) ?_
 refine Wl.q rfl rfl (OpQ.extract rfl rfl) ?_
 refine Wl.know 27 (v' := .bool true) rfl (congrArg Value.bool rfl) ?_
 refine Wl.q rfl rfl (OpQ.assign rfl) ?_
 refine Wl.q rfl rfl (OpQ.assign rfl) ?_
 refine Wl.nil ?_
 refine PX.then_n ?_
 refine CT.seq ?_
 refine CT.seq ?_
 refine CT.region ?_
 refine Wl.q rfl rfl (OpQ.move rfl) ?_
 refine Wl.q rfl rfl (OpQ.not rfl) ?_
 refine Wl.nil ?_
 refine PX.then_n ?_
 refine CT.condF rfl ?_
 refine CT.skip ?_
 refine PX.then_n ?_
 refine CT.seq ?_
 refine CT.region ?_
 refine Wl.q rfl rfl (OpQ.move rfl) ?_
 refine Wl.g rfl rfl (OpG.callX AO_go50 rfl .nil (fun _ => (.cons .nil)) (fun w hH hp => minimalT_spec w (autoD (pS (cutL xs root.toNat)).f L.toNat (p0 (cutL xs root.toNat)) K1 (pS (cutL xs root.toNat)).fin) hdo hLL hdn b na nc fa fc (Stays.rd (hH.staysK0 .here)) (Stays.rd (hH.staysK0 (.there .here))) (Stays.rd (hH.staysK0 (.there (.there .here)))) hdc rfl)) ?_
 rintro ⟨D1, bs1⟩ h1
 dsimp only at h1
 obtain ⟨hv1, hm1⟩ := h1
 obtain ⟨hn1, hc1, hr1m⟩ := hdm _ hm1
 refine Wl.q rfl rfl (OpQ.move rfl) ?_
 refine Wl.q rfl rfl (OpQ.extract rfl rfl) ?_
 refine Wl.know 34 (v' := dvv D1) rfl rfl ?_
 refine Wl.q rfl rfl (OpQ.extract rfl rfl) ?_
 refine Wl.know 35 (v' := .bool true) rfl (congrArg Value.bool rfl) ?_
 refine Wl.g rfl rfl (OpG.alloc (zs := [.int .i64 0, .int .i64 0, .slice none 0 0, .slice none 0 0]) AO_in52 rfl rfl) ?_
 rintro b11 _
 refine Wl.g rfl rfl (OpG.storeV (b := b11) AO_sz52 rfl rfl rfl rfl (by repeat (first | exact Upd.here | apply Upd.there))) ?_
 rintro _ _
 refine Wl.q rfl rfl (OpQ.assign rfl) ?_
 refine Wl.nil ?_
 refine PX.then_n ?_
 refine CT.seq ?_
 refine CT.seq ?_
 refine CT.region ?_
 refine Wl.q rfl rfl (OpQ.move rfl) ?_
 refine Wl.q rfl rfl (OpQ.not rfl) ?_
 refine Wl.nil ?_
 refine PX.then_n ?_
 refine CT.condF rfl ?_
 refine CT.skip ?_
 refine PX.then_n ?_
 refine CT.seq ?_
 refine CT.region ?_
 refine Wl.q rfl rfl (OpQ.loadV (b := b11) AO_ag52 AO_sz52 rfl (by repeat (first | exact Has.here | apply Has.there)) (by rfl)) ?_
 refine Wl.know 40 (v' := dvv D1) rfl rfl ?_
 refine Wl.g rfl rfl (OpG.callX AO_go51 rfl .nil (fun _ => (.cons .nil)) (fun w hH hp => reverseT_spec w D1 (Stays.frag (hH.staysK0 (.there .here))) hv1 hn1 hc1 D.da hr1m h5)) ?_
 rintro ⟨D2, bs2⟩ h2
 dsimp only at h2
 obtain ⟨hv2, h52, hm2⟩ := h2
 refine Wl.q rfl rfl (OpQ.move rfl) ?_
 refine Wl.q rfl rfl (OpQ.extract rfl rfl) ?_
 refine Wl.know 42 (v' := dvv D2) rfl rfl ?_
 refine Wl.q rfl rfl (OpQ.extract rfl rfl) ?_
 refine Wl.know 43 (v' := .bool true) rfl (congrArg Value.bool rfl) ?_
 refine Wl.g rfl rfl (OpG.storeV (b := b11) AO_sz52 rfl rfl rfl rfl (by repeat (first | exact Upd.here | apply Upd.there))) ?_
 rintro _ _
 refine Wl.q rfl rfl (OpQ.assign rfl) ?_
 refine Wl.nil ?_
 refine PX.then_n ?_
 refine CT.seq ?_
 refine CT.seq ?_
 refine CT.region ?_
 refine Wl.q rfl rfl (OpQ.move rfl) ?_
 refine Wl.q rfl rfl (OpQ.not rfl) ?_
 refine Wl.nil ?_
 refine PX.then_n ?_
 refine CT.condF rfl ?_
 refine CT.skip ?_
 refine PX.then_n ?_
 refine CT.seq ?_
 refine CT.region ?_
 refine Wl.q rfl rfl (OpQ.loadV (b := b11) AO_ag52 AO_sz52 rfl (by repeat (first | exact Has.here | apply Has.there)) (by rfl)) ?_
 refine Wl.know 47 (v' := dvv D2) rfl rfl ?_
 refine Wl.g rfl rfl (OpG.storeV (b := b6) AO_sz52 rfl rfl rfl rfl (by repeat (first | exact Upd.here | apply Upd.there))) ?_
 rintro _ _
 refine Wl.q rfl rfl (OpQ.assign rfl) ?_
 refine Wl.nil ?_
 refine PX.then_n ?_
 refine CT.ret ?_
 refine PX.retC2 rfl rfl rfl (by repeat (first | exact Has.here | apply Has.there)) AO_ag52 AO_sz52 (by rfl) (fun w' hH => ?_)
 exact ⟨(D2, bs2), ⟨hv2, h52, hm2.unique hr1m (Eqv.refl _ _ _)⟩, rfl, (hH.take (.cons .here .nil)).post⟩

end Go.Proofs.Ytlmbcdjmdgbmjaa

