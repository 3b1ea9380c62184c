/-
  What functions of the program compute, each by its walk. Conditions: those that each theorem names.
-/
import Derived.Test.YtamolakhpcofhaaXE29
import Derived.Test.YtamolakhpcofhaaXF
set_option linter.unusedSimpArgs false
namespace Go.Proofs.Ytamolakhpcofhaa
open Go Go.Eng Go.Am Go.Sq
open Go.Tp (zi)
open Go.Tl (mayL Wd okW okB bo)

theorem Post.frag1 {X : List Nat} {H : List Chunk} {w w' : World} (h : Post X H w w') {p : World → Prop} (hp : ∀ w, (∀ k ∈ H, k.holds w) → p w) : Post X [.frag (blks H) p] w w' :=
 (HOk.bindL (c := ⟨Try.prog, 0, X, w⟩) (L := H) (F := []) (by rw [List.append_nil]; exact ⟨h.ext, h.holds, h.apart⟩) hp).post
theorem strimF_spec (w : World) {M : Nat} (S : Sv) (hS : Stays [] w (svm S)) (hv : S.sq.Ok M) : Calls Try.prog 32 #[svv S] w (fun e w' => ∃ i : Sv × List Nat, (IsTrim S.sq.tr S.L S.s S.init i.1.sq) ∧ e = .returned (svv i.1) ∧ Post [] [.frag i.2 (svm i.1)] w w') :=
 (strim_spec w S hS hv).mono fun _ _ ⟨i, h1, h2, h3⟩ => ⟨(i, _), h1, h2, Post.frag1 h3 (fun _ hk => svm_of hk)⟩

set_option maxRecDepth 100000 in
set_option maxHeartbeats 1000000 in
/-- semigroup/sequential.Inverse -/
theorem inverse_spec (w : World) (SF : Sv) (hSF : Stays [] w (svm SF)) (hvF : SF.sq.Ok 4096) (D : Dv) (hD : Stays [] w (dvm D)) (hvD : D.Ok) (h5 : D.fin.length ≤ 512) (ho : SF.sq.Over D.da.L) (hn : SF.sq.n * D.da.n ≤ 500) : Calls Try.prog 25 #[svv SF, dvv D] w (fun e w' => ∃ i : Dv × List Nat, (i.1.Ok ∧ i.1.da.n ≤ SF.sq.n * D.da.n + 1 ∧ IsInv SF.sq D.da i.1.da) ∧ e = .returned (.tuple #[dvv i.1, .int .i64 0]) ∧ Post [] [.frag i.2 (dvm i.1)] w w') := by
 obtain ⟨hb1F, hb2F, hb3F, hb4F⟩ := hvF.bnd
 obtain ⟨hloF, hleF, hlfF⟩ := hvF.lens
 have hnsF : 0 < SF.rs.length → SF.na.isSome = true := fun h => hSF.now.n.isSome (j := 0) (by rw [List.length_map]; exact h)
 have hosF : 0 < SF.os.length → SF.oa.isSome = true := fun h => hSF.now.o.isSome (j := 0) (by rw [List.length_map]; exact h)
 have hesF : 0 < SF.en.length → SF.ea.isSome = true := fun h => hSF.now.e.isSome (j := 0) (by rw [List.length_map]; exact h)
 have hfsF : 0 < SF.fi.length → SF.fa.isSome = true := fun h => hSF.now.f.isSome (j := 0) (by rw [List.length_map]; exact h)
 have hrsF : ∀ q, q < SF.rs.length → 0 < (SF.rs.getD q rx0).xs.length → (SF.rs.getD q rx0).a.isSome = true := fun q hq h => (hSF.now.r _ (getDm hq)).isSome (j := 0) (by rw [List.length_map]; exact h)
 have husF : ∀ q, q < SF.os.length → 0 < (SF.os.getD q rx0).xs.length → (SF.os.getD q rx0).a.isSome = true := fun q hq h => (hSF.now.u _ (getDm hq)).isSome (j := 0) (by rw [List.length_map]; exact h)
 have hL6 : D.da.L ≤ 6 := by have := hvD.may; show D.L.toNat ≤ 6; omega
 refine enter (args := [svv SF, dvv D]) [] 70 Try.func25 rfl rfl rfl ?_
 refine CT.seq (CT.region ?_)
 refine Wl.g rfl rfl (OpG.box (size := 7) rfl rfl rfl) ?_
 rintro b2 _
 refine Wl.g rfl rfl (OpG.box (size := 4) rfl rfl rfl) ?_
 rintro b3 _
 refine Wl.g rfl rfl (OpG.alloc (zs := [.int .i64 0, .int .i64 0, .slice none 0 0, .slice none 0 0]) zf37 rfl rfl) ?_
 rintro b4 _
 refine Wl.q rfl rfl (OpQ.assign rfl) ?_
 refine Wl.nil (PX.then_n (CT.seq (CT.seq (CT.region ?_))))
 refine Wl.q rfl rfl (OpQ.loadV (b := b2) zf78 zf79 rfl (by repeat (first | exact Has.here | apply Has.there)) (by rfl)) ?_
 refine Wl.know 17 (v' := svv SF) rfl rfl ?_
 refine Wl.g rfl rfl (OpG.callV zf114 rfl (fun w hH => svalid_spec w SF (hH.stays0 hSF) hvF)) ?_
 rintro _ _
 refine Wl.q rfl rfl (OpQ.assign rfl) ?_
 refine Wl.nil (PX.then_n (CT.seq (CT.region ?_)))
 refine Wl.q rfl rfl (OpQ.move rfl) ?_
 refine Wl.q rfl rfl (OpQ.neq rfl rfl) ?_
 refine Wl.know 20 (v' := .bool false) rfl (congrArg Value.bool (by decide)) ?_
 refine Wl.nil (PX.then_n ?_)
 refine CT.condF rfl ?_
 refine CT.skip (PX.then_n (CT.seq (CT.seq (CT.region ?_))))
 refine Wl.q rfl rfl (OpQ.loadV (b := b3) zf24 zf25 rfl (by repeat (first | exact Has.here | apply Has.there)) (by rfl)) ?_
 refine Wl.know 23 (v' := dvv D) rfl rfl ?_
 refine Wl.g rfl rfl (OpG.callV zf26 rfl (fun w hH => dvalid_spec w D (hH.stays0 hD))) ?_
 rintro _ _
 refine Wl.know 24 (v' := .int .i64 0) rfl (congrArg (Value.int .i64) (hvD.zero h5)) ?_
 refine Wl.q rfl rfl (OpQ.assign rfl) ?_
 refine Wl.nil (PX.then_n (CT.seq (CT.region ?_)))
 refine Wl.q rfl rfl (OpQ.move rfl) ?_
 refine Wl.q rfl rfl (OpQ.neq rfl rfl) ?_
 refine Wl.know 26 (v' := .bool false) rfl (congrArg Value.bool (by decide)) ?_
 refine Wl.nil (PX.then_n ?_)
 refine CT.condF rfl ?_
 refine CT.skip (PX.then_n (CT.seq (CT.seq (CT.region ?_))))
 refine Wl.q rfl rfl (OpQ.loadV (b := b2) zf78 zf79 rfl (by repeat (first | exact Has.here | apply Has.there)) (by rfl)) ?_
 refine Wl.know 29 (v' := svv SF) rfl rfl ?_
 refine Wl.q rfl rfl (OpQ.fieldAddr zf15 rfl) ?_
 refine Wl.q rfl rfl (OpQ.loadF (b := b3) zf8 rfl (by repeat (first | exact Has.here | apply Has.there)) (by rfl)) ?_
 refine Wl.know 31 (v' := .int .i64 ((D.da.L : Nat) : Int)) rfl (congrArg (Value.int .i64) hvD.L_eq) ?_
 refine Wl.g rfl rfl (OpG.callV zf123 rfl (fun w hH => wover_spec w SF (hH.stays0 hSF) hvF D.da.L hL6 ho)) ?_
 rintro _ _
 refine Wl.know 32 (v' := .bool true) rfl (congrArg Value.bool rfl) ?_
 refine Wl.q rfl rfl (OpQ.not rfl) ?_
 refine Wl.nil (PX.then_n ?_)
 refine CT.condF rfl ?_
 refine CT.skip (PX.then_n ?_)
 refine CT.cut (ι := Sv × List Nat × Dv × List Nat × Nat × Nat) (Φ := fun (G, bG, D2, bs2, b8, b9) => IsTrim SF.sq.tr SF.L SF.s SF.init G.sq ∧ D2.Ok ∧ IsMin D.da.L D.da.sy D.da.s D2.da) (E' := fun (G, bG, D2, bs2, b8, b9) => [(4, .pointer (some ⟨b4, 0, none⟩)), (8, .pointer (some ⟨b8, 0, none⟩)), (9, .pointer (some ⟨b9, 0, none⟩))]) (H' := fun (G, bG, D2, bs2, b8, b9) => [.row 49 4 (vb b9) 1 (dvc D2), .row 30 7 (vb b8) 1 (svc G), .frag bs2 (dvm D2), .frag bG (svm G), .row 49 4 (vb b4) 1 [.int .i64 0, .int .i64 0, .slice none 0 0, .slice none 0 0], .row 49 4 (vb b3) 1 (dvc D), .row 30 7 (vb b2) 1 (svc SF)]) (fun K0 hK0 => ?_) (fun ⟨G, bG, D2, bs2, b8, b9⟩ ⟨hG, hv2, hm2⟩ => ?_)
 ·
  refine CT.draw 6 zf6 ?_
  refine RA.q 0 (by kernel_rfl) rfl rfl rfl (.refl _) (OpQ.loadV (b := b2) zf78 zf79 rfl (by repeat (first | exact Has.here | apply Has.there)) (by rfl)) ?_
  refine RA.know 35 (v' := svv SF) rfl rfl ?_
  refine RA.q 2 (by kernel_rfl) rfl rfl rfl (.refl _) (OpQ.loadV (b := b3) zf24 zf25 rfl (by repeat (first | exact Has.here | apply Has.there)) (by rfl)) ?_
  refine RA.know 37 (v' := dvv D) rfl rfl ?_
  refine RA.three 1 4 5 (by kernel_rfl) rfl rfl rfl (OpG.callX zf124 rfl .nil (fun _ => (.cons .nil)) (fun w hH hp => strimF_spec w SF (hH.stays0 hSF) hvF)) (fun _ _ => (.cons _ (.refl _))) rfl rfl rfl (OpG.alloc (zs := [.int .i64 0, .int .i64 0, .string ⟨#[]⟩, .slice none 0 0, .slice none 0 0, .slice none 0 0, .slice none 0 0]) zf84 rfl rfl) (fun _ _ => (.cons _ (.refl _))) rfl rfl rfl (OpG.alloc (zs := [.int .i64 0, .int .i64 0, .slice none 0 0, .slice none 0 0]) zf37 rfl rfl) (fun _ _ => (.cons _ (.refl _))) ?_ ?_ ?_
  ·
   rintro ⟨G, bG⟩ hG
   dsimp only at hG
   refine RA.know 36 (v' := svv G) rfl rfl ?_
   refine RA.three 3 4 5 (by kernel_rfl) rfl rfl rfl (OpG.callX zf62 rfl .nil (fun _ => (.cons .nil)) (fun w hH hp => minimize_spec w D (hH.stays0 hD) hvD h5)) (fun _ _ => (.cons _ (.cons _ (.refl _)))) rfl rfl rfl (OpG.alloc (zs := [.int .i64 0, .int .i64 0, .string ⟨#[]⟩, .slice none 0 0, .slice none 0 0, .slice none 0 0, .slice none 0 0]) zf84 rfl rfl) (fun _ _ => (.cons _ (.cons _ (.refl _)))) rfl rfl rfl (OpG.alloc (zs := [.int .i64 0, .int .i64 0, .slice none 0 0, .slice none 0 0]) zf37 rfl rfl) (fun _ _ => (.cons _ (.cons _ (.refl _)))) ?_ ?_ ?_
   ·
    rintro ⟨D2, bs2⟩ h2
    dsimp only at h2
    refine RA.know 38 (v' := dvv D2) rfl rfl ?_
    refine RA.two 4 5 (by kernel_rfl) rfl rfl rfl (OpG.alloc (zs := [.int .i64 0, .int .i64 0, .string ⟨#[]⟩, .slice none 0 0, .slice none 0 0, .slice none 0 0, .slice none 0 0]) zf84 rfl rfl) (fun _ _ => (.cons _ (.cons _ (.cons _ (.refl _))))) rfl rfl rfl (OpG.alloc (zs := [.int .i64 0, .int .i64 0, .slice none 0 0, .slice none 0 0]) zf37 rfl rfl) (fun _ _ => (.cons _ (.cons _ (.cons _ (.refl _))))) ?_ ?_
    ·
     rintro b8 _
     refine RA.f 5 (by kernel_rfl) rfl rfl rfl (OpG.alloc (zs := [.int .i64 0, .int .i64 0, .slice none 0 0, .slice none 0 0]) zf37 rfl rfl) (fun _ _ => (.cons _ (.cons _ (.cons _ (.cons _ (.refl _)))))) ?_
     rintro b9 _
     refine RA.tail ?_
     refine RT.f 6 (by kernel_rfl) rfl rfl rfl (OpG.storeV (b := b8) zf79 rfl rfl rfl rfl (by repeat (first | exact Upd.here | apply Upd.there))) ?_
     rintro _ _
     refine RT.f 7 (by kernel_rfl) rfl rfl rfl (OpG.storeV (b := b9) zf25 rfl rfl rfl rfl (by repeat (first | exact Upd.here | apply Upd.there))) ?_
     rintro _ _
     refine RT.done (by kernel_rfl) ?_
     exact PX.cut hK0 (G, bG, D2, bs2, b8, b9) ⟨hG, h2.1, h2.2⟩ ⟨rfl, rfl, rfl, trivial⟩ (HSub.refl _)
    ·
     rintro b9 _
     refine RA.f 4 (by kernel_rfl) rfl rfl rfl (OpG.alloc (zs := [.int .i64 0, .int .i64 0, .string ⟨#[]⟩, .slice none 0 0, .slice none 0 0, .slice none 0 0, .slice none 0 0]) zf84 rfl rfl) (fun _ _ => (.cons _ (.cons _ (.cons _ (.cons _ (.refl _)))))) ?_
     rintro b8 _
     refine RA.tail ?_
     refine RT.f 6 (by kernel_rfl) rfl rfl rfl (OpG.storeV (b := b8) zf79 rfl rfl rfl rfl (by repeat (first | exact Upd.here | apply Upd.there))) ?_
     rintro _ _
     refine RT.f 7 (by kernel_rfl) rfl rfl rfl (OpG.storeV (b := b9) zf25 rfl rfl rfl rfl (by repeat (first | exact Upd.here | apply Upd.there))) ?_
     rintro _ _
     refine RT.as (fun _ h => h.take (.cons (.there .here) (.cons .here (.cons .here (.cons .here (.cons .here (.cons .here (.cons .here .nil)))))))) ?_
     refine RT.done (by kernel_rfl) ?_
     exact PX.cut hK0 (G, bG, D2, bs2, b8, b9) ⟨hG, h2.1, h2.2⟩ ⟨rfl, rfl, rfl, trivial⟩ (HSub.refl _)
   ·
    rintro b8 _
    refine RA.two 3 5 (by kernel_rfl) rfl rfl rfl (OpG.callX zf62 rfl .nil (fun _ => (.cons .nil)) (fun w hH hp => minimize_spec w D (hH.stays0 hD) hvD h5)) (fun _ _ => (.cons _ (.cons _ (.cons _ (.refl _))))) rfl rfl rfl (OpG.alloc (zs := [.int .i64 0, .int .i64 0, .slice none 0 0, .slice none 0 0]) zf37 rfl rfl) (fun _ _ => (.cons _ (.cons _ (.cons _ (.refl _))))) ?_ ?_
    ·
     rintro ⟨D2, bs2⟩ h2
     dsimp only at h2
     refine RA.know 38 (v' := dvv D2) rfl rfl ?_
     refine RA.f 5 (by kernel_rfl) rfl rfl rfl (OpG.alloc (zs := [.int .i64 0, .int .i64 0, .slice none 0 0, .slice none 0 0]) zf37 rfl rfl) (fun _ _ => (.cons _ (.cons _ (.cons _ (.cons _ (.refl _)))))) ?_
     rintro b9 _
     refine RA.tail ?_
     refine RT.f 6 (by kernel_rfl) rfl rfl rfl (OpG.storeV (b := b8) zf79 rfl rfl rfl rfl (by repeat (first | exact Upd.here | apply Upd.there))) ?_
     rintro _ _
     refine RT.f 7 (by kernel_rfl) rfl rfl rfl (OpG.storeV (b := b9) zf25 rfl rfl rfl rfl (by repeat (first | exact Upd.here | apply Upd.there))) ?_
     rintro _ _
     refine RT.as (fun _ h => h.take (.cons .here (.cons (.there .here) (.cons .here (.cons .here (.cons .here (.cons .here (.cons .here .nil)))))))) ?_
     refine RT.done (by kernel_rfl) ?_
     exact PX.cut hK0 (G, bG, D2, bs2, b8, b9) ⟨hG, h2.1, h2.2⟩ ⟨rfl, rfl, rfl, trivial⟩ (HSub.refl _)
    ·
     rintro b9 _
     refine RA.f 3 (by kernel_rfl) rfl rfl rfl (OpG.callX zf62 rfl .nil (fun _ => (.cons .nil)) (fun w hH hp => minimize_spec w D (hH.stays0 hD) hvD h5)) (fun _ _ => (.cons _ (.cons _ (.cons _ (.cons _ (.refl _)))))) ?_
     rintro ⟨D2, bs2⟩ h2
     dsimp only at h2
     refine RA.know 38 (v' := dvv D2) rfl rfl ?_
     refine RA.tail ?_
     refine RT.f 6 (by kernel_rfl) rfl rfl rfl (OpG.storeV (b := b8) zf79 rfl rfl rfl rfl (by repeat (first | exact Upd.here | apply Upd.there))) ?_
     rintro _ _
     refine RT.f 7 (by kernel_rfl) rfl rfl rfl (OpG.storeV (b := b9) zf25 rfl rfl rfl rfl (by repeat (first | exact Upd.here | apply Upd.there))) ?_
     rintro _ _
     refine RT.as (fun _ h => h.take (.cons (.there .here) (.cons (.there .here) (.cons .here (.cons .here (.cons .here (.cons .here (.cons .here .nil)))))))) ?_
     refine RT.done (by kernel_rfl) ?_
     exact PX.cut hK0 (G, bG, D2, bs2, b8, b9) ⟨hG, h2.1, h2.2⟩ ⟨rfl, rfl, rfl, trivial⟩ (HSub.refl _)
   ·
    rintro b9 _
    refine RA.two 3 4 (by kernel_rfl) rfl rfl rfl (OpG.callX zf62 rfl .nil (fun _ => (.cons .nil)) (fun w hH hp => minimize_spec w D (hH.stays0 hD) hvD h5)) (fun _ _ => (.cons _ (.cons _ (.cons _ (.refl _))))) rfl rfl rfl (OpG.alloc (zs := [.int .i64 0, .int .i64 0, .string ⟨#[]⟩, .slice none 0 0, .slice none 0 0, .slice none 0 0, .slice none 0 0]) zf84 rfl rfl) (fun _ _ => (.cons _ (.cons _ (.cons _ (.refl _))))) ?_ ?_
    ·
     rintro ⟨D2, bs2⟩ h2
     dsimp only at h2
     refine RA.know 38 (v' := dvv D2) rfl rfl ?_
     refine RA.f 4 (by kernel_rfl) rfl rfl rfl (OpG.alloc (zs := [.int .i64 0, .int .i64 0, .string ⟨#[]⟩, .slice none 0 0, .slice none 0 0, .slice none 0 0, .slice none 0 0]) zf84 rfl rfl) (fun _ _ => (.cons _ (.cons _ (.cons _ (.cons _ (.refl _)))))) ?_
     rintro b8 _
     refine RA.tail ?_
     refine RT.f 6 (by kernel_rfl) rfl rfl rfl (OpG.storeV (b := b8) zf79 rfl rfl rfl rfl (by repeat (first | exact Upd.here | apply Upd.there))) ?_
     rintro _ _
     refine RT.f 7 (by kernel_rfl) rfl rfl rfl (OpG.storeV (b := b9) zf25 rfl rfl rfl rfl (by repeat (first | exact Upd.here | apply Upd.there))) ?_
     rintro _ _
     refine RT.as (fun _ h => h.take (.cons (.there (.there .here)) (.cons .here (.cons .here (.cons .here (.cons .here (.cons .here (.cons .here .nil)))))))) ?_
     refine RT.done (by kernel_rfl) ?_
     exact PX.cut hK0 (G, bG, D2, bs2, b8, b9) ⟨hG, h2.1, h2.2⟩ ⟨rfl, rfl, rfl, trivial⟩ (HSub.refl _)
    ·
     rintro b8 _
     refine RA.f 3 (by kernel_rfl) rfl rfl rfl (OpG.callX zf62 rfl .nil (fun _ => (.cons .nil)) (fun w hH hp => minimize_spec w D (hH.stays0 hD) hvD h5)) (fun _ _ => (.cons _ (.cons _ (.cons _ (.cons _ (.refl _)))))) ?_
     rintro ⟨D2, bs2⟩ h2
     dsimp only at h2
     refine RA.know 38 (v' := dvv D2) rfl rfl ?_
     refine RA.tail ?_
     refine RT.f 6 (by kernel_rfl) rfl rfl rfl (OpG.storeV (b := b8) zf79 rfl rfl rfl rfl (by repeat (first | exact Upd.here | apply Upd.there))) ?_
     rintro _ _
     refine RT.f 7 (by kernel_rfl) rfl rfl rfl (OpG.storeV (b := b9) zf25 rfl rfl rfl rfl (by repeat (first | exact Upd.here | apply Upd.there))) ?_
     rintro _ _
     refine RT.as (fun _ h => h.take (.cons (.there (.there .here)) (.cons (.there .here) (.cons .here (.cons .here (.cons .here (.cons .here (.cons .here .nil)))))))) ?_
     refine RT.done (by kernel_rfl) ?_
     exact PX.cut hK0 (G, bG, D2, bs2, b8, b9) ⟨hG, h2.1, h2.2⟩ ⟨rfl, rfl, rfl, trivial⟩ (HSub.refl _)
  ·
   rintro b8 _
   refine RA.two 1 5 (by kernel_rfl) rfl rfl rfl (OpG.callX zf124 rfl .nil (fun _ => (.cons .nil)) (fun w hH hp => strimF_spec w SF (hH.stays0 hSF) hvF)) (fun _ _ => (.cons _ (.cons _ (.refl _)))) rfl rfl rfl (OpG.alloc (zs := [.int .i64 0, .int .i64 0, .slice none 0 0, .slice none 0 0]) zf37 rfl rfl) (fun _ _ => (.cons _ (.cons _ (.refl _)))) ?_ ?_
   ·
    rintro ⟨G, bG⟩ hG
    dsimp only at hG
    refine RA.know 36 (v' := svv G) rfl rfl ?_
    refine RA.two 3 5 (by kernel_rfl) rfl rfl rfl (OpG.callX zf62 rfl .nil (fun _ => (.cons .nil)) (fun w hH hp => minimize_spec w D (hH.stays0 hD) hvD h5)) (fun _ _ => (.cons _ (.cons _ (.cons _ (.refl _))))) rfl rfl rfl (OpG.alloc (zs := [.int .i64 0, .int .i64 0, .slice none 0 0, .slice none 0 0]) zf37 rfl rfl) (fun _ _ => (.cons _ (.cons _ (.cons _ (.refl _))))) ?_ ?_
    ·
     rintro ⟨D2, bs2⟩ h2
     dsimp only at h2
     refine RA.know 38 (v' := dvv D2) rfl rfl ?_
     refine RA.f 5 (by kernel_rfl) rfl rfl rfl (OpG.alloc (zs := [.int .i64 0, .int .i64 0, .slice none 0 0, .slice none 0 0]) zf37 rfl rfl) (fun _ _ => (.cons _ (.cons _ (.cons _ (.cons _ (.refl _)))))) ?_
     rintro b9 _
     refine RA.tail ?_
     refine RT.f 6 (by kernel_rfl) rfl rfl rfl (OpG.storeV (b := b8) zf79 rfl rfl rfl rfl (by repeat (first | exact Upd.here | apply Upd.there))) ?_
     rintro _ _
     refine RT.f 7 (by kernel_rfl) rfl rfl rfl (OpG.storeV (b := b9) zf25 rfl rfl rfl rfl (by repeat (first | exact Upd.here | apply Upd.there))) ?_
     rintro _ _
     refine RT.as (fun _ h => h.take (.cons .here (.cons (.there (.there .here)) (.cons .here (.cons .here (.cons .here (.cons .here (.cons .here .nil)))))))) ?_
     refine RT.done (by kernel_rfl) ?_
     exact PX.cut hK0 (G, bG, D2, bs2, b8, b9) ⟨hG, h2.1, h2.2⟩ ⟨rfl, rfl, rfl, trivial⟩ (HSub.refl _)
    ·
     rintro b9 _
     refine RA.f 3 (by kernel_rfl) rfl rfl rfl (OpG.callX zf62 rfl .nil (fun _ => (.cons .nil)) (fun w hH hp => minimize_spec w D (hH.stays0 hD) hvD h5)) (fun _ _ => (.cons _ (.cons _ (.cons _ (.cons _ (.refl _)))))) ?_
     rintro ⟨D2, bs2⟩ h2
     dsimp only at h2
     refine RA.know 38 (v' := dvv D2) rfl rfl ?_
     refine RA.tail ?_
     refine RT.f 6 (by kernel_rfl) rfl rfl rfl (OpG.storeV (b := b8) zf79 rfl rfl rfl rfl (by repeat (first | exact Upd.here | apply Upd.there))) ?_
     rintro _ _
     refine RT.f 7 (by kernel_rfl) rfl rfl rfl (OpG.storeV (b := b9) zf25 rfl rfl rfl rfl (by repeat (first | exact Upd.here | apply Upd.there))) ?_
     rintro _ _
     refine RT.as (fun _ h => h.take (.cons (.there .here) (.cons (.there (.there .here)) (.cons .here (.cons .here (.cons .here (.cons .here (.cons .here .nil)))))))) ?_
     refine RT.done (by kernel_rfl) ?_
     exact PX.cut hK0 (G, bG, D2, bs2, b8, b9) ⟨hG, h2.1, h2.2⟩ ⟨rfl, rfl, rfl, trivial⟩ (HSub.refl _)
   ·
    rintro b9 _
    refine RA.f 1 (by kernel_rfl) rfl rfl rfl (OpG.callX zf124 rfl .nil (fun _ => (.cons .nil)) (fun w hH hp => strimF_spec w SF (hH.stays0 hSF) hvF)) (fun _ _ => (.cons _ (.cons _ (.cons _ (.refl _))))) ?_
    rintro ⟨G, bG⟩ hG
    dsimp only at hG
    refine RA.know 36 (v' := svv G) rfl rfl ?_
    refine RA.f 3 (by kernel_rfl) rfl rfl rfl (OpG.callX zf62 rfl .nil (fun _ => (.cons .nil)) (fun w hH hp => minimize_spec w D (hH.stays0 hD) hvD h5)) (fun _ _ => (.cons _ (.cons _ (.cons _ (.cons _ (.refl _)))))) ?_
    rintro ⟨D2, bs2⟩ h2
    dsimp only at h2
    refine RA.know 38 (v' := dvv D2) rfl rfl ?_
    refine RA.tail ?_
    refine RT.f 6 (by kernel_rfl) rfl rfl rfl (OpG.storeV (b := b8) zf79 rfl rfl rfl rfl (by repeat (first | exact Upd.here | apply Upd.there))) ?_
    rintro _ _
    refine RT.f 7 (by kernel_rfl) rfl rfl rfl (OpG.storeV (b := b9) zf25 rfl rfl rfl rfl (by repeat (first | exact Upd.here | apply Upd.there))) ?_
    rintro _ _
    refine RT.as (fun _ h => h.take (.cons (.there (.there .here)) (.cons (.there (.there .here)) (.cons .here (.cons .here (.cons .here (.cons .here (.cons .here .nil)))))))) ?_
    refine RT.done (by kernel_rfl) ?_
    exact PX.cut hK0 (G, bG, D2, bs2, b8, b9) ⟨hG, h2.1, h2.2⟩ ⟨rfl, rfl, rfl, trivial⟩ (HSub.refl _)
  ·
   rintro b9 _
   refine RA.two 1 4 (by kernel_rfl) rfl rfl rfl (OpG.callX zf124 rfl .nil (fun _ => (.cons .nil)) (fun w hH hp => strimF_spec w SF (hH.stays0 hSF) hvF)) (fun _ _ => (.cons _ (.cons _ (.refl _)))) rfl rfl rfl (OpG.alloc (zs := [.int .i64 0, .int .i64 0, .string ⟨#[]⟩, .slice none 0 0, .slice none 0 0, .slice none 0 0, .slice none 0 0]) zf84 rfl rfl) (fun _ _ => (.cons _ (.cons _ (.refl _)))) ?_ ?_
   ·
    rintro ⟨G, bG⟩ hG
    dsimp only at hG
    refine RA.know 36 (v' := svv G) rfl rfl ?_
    refine RA.two 3 4 (by kernel_rfl) rfl rfl rfl (OpG.callX zf62 rfl .nil (fun _ => (.cons .nil)) (fun w hH hp => minimize_spec w D (hH.stays0 hD) hvD h5)) (fun _ _ => (.cons _ (.cons _ (.cons _ (.refl _))))) rfl rfl rfl (OpG.alloc (zs := [.int .i64 0, .int .i64 0, .string ⟨#[]⟩, .slice none 0 0, .slice none 0 0, .slice none 0 0, .slice none 0 0]) zf84 rfl rfl) (fun _ _ => (.cons _ (.cons _ (.cons _ (.refl _))))) ?_ ?_
    ·
     rintro ⟨D2, bs2⟩ h2
     dsimp only at h2
     refine RA.know 38 (v' := dvv D2) rfl rfl ?_
     refine RA.f 4 (by kernel_rfl) rfl rfl rfl (OpG.alloc (zs := [.int .i64 0, .int .i64 0, .string ⟨#[]⟩, .slice none 0 0, .slice none 0 0, .slice none 0 0, .slice none 0 0]) zf84 rfl rfl) (fun _ _ => (.cons _ (.cons _ (.cons _ (.cons _ (.refl _)))))) ?_
     rintro b8 _
     refine RA.tail ?_
     refine RT.f 6 (by kernel_rfl) rfl rfl rfl (OpG.storeV (b := b8) zf79 rfl rfl rfl rfl (by repeat (first | exact Upd.here | apply Upd.there))) ?_
     rintro _ _
     refine RT.f 7 (by kernel_rfl) rfl rfl rfl (OpG.storeV (b := b9) zf25 rfl rfl rfl rfl (by repeat (first | exact Upd.here | apply Upd.there))) ?_
     rintro _ _
     refine RT.as (fun _ h => h.take (.cons (.there (.there (.there .here))) (.cons .here (.cons .here (.cons .here (.cons .here (.cons .here (.cons .here .nil)))))))) ?_
     refine RT.done (by kernel_rfl) ?_
     exact PX.cut hK0 (G, bG, D2, bs2, b8, b9) ⟨hG, h2.1, h2.2⟩ ⟨rfl, rfl, rfl, trivial⟩ (HSub.refl _)
    ·
     rintro b8 _
     refine RA.f 3 (by kernel_rfl) rfl rfl rfl (OpG.callX zf62 rfl .nil (fun _ => (.cons .nil)) (fun w hH hp => minimize_spec w D (hH.stays0 hD) hvD h5)) (fun _ _ => (.cons _ (.cons _ (.cons _ (.cons _ (.refl _)))))) ?_
     rintro ⟨D2, bs2⟩ h2
     dsimp only at h2
     refine RA.know 38 (v' := dvv D2) rfl rfl ?_
     refine RA.tail ?_
     refine RT.f 6 (by kernel_rfl) rfl rfl rfl (OpG.storeV (b := b8) zf79 rfl rfl rfl rfl (by repeat (first | exact Upd.here | apply Upd.there))) ?_
     rintro _ _
     refine RT.f 7 (by kernel_rfl) rfl rfl rfl (OpG.storeV (b := b9) zf25 rfl rfl rfl rfl (by repeat (first | exact Upd.here | apply Upd.there))) ?_
     rintro _ _
     refine RT.as (fun _ h => h.take (.cons (.there (.there (.there .here))) (.cons (.there .here) (.cons .here (.cons .here (.cons .here (.cons .here (.cons .here .nil)))))))) ?_
     refine RT.done (by kernel_rfl) ?_
     exact PX.cut hK0 (G, bG, D2, bs2, b8, b9) ⟨hG, h2.1, h2.2⟩ ⟨rfl, rfl, rfl, trivial⟩ (HSub.refl _)
   ·
    rintro b8 _
    refine RA.f 1 (by kernel_rfl) rfl rfl rfl (OpG.callX zf124 rfl .nil (fun _ => (.cons .nil)) (fun w hH hp => strimF_spec w SF (hH.stays0 hSF) hvF)) (fun _ _ => (.cons _ (.cons _ (.cons _ (.refl _))))) ?_
    rintro ⟨G, bG⟩ hG
    dsimp only at hG
    refine RA.know 36 (v' := svv G) rfl rfl ?_
    refine RA.f 3 (by kernel_rfl) rfl rfl rfl (OpG.callX zf62 rfl .nil (fun _ => (.cons .nil)) (fun w hH hp => minimize_spec w D (hH.stays0 hD) hvD h5)) (fun _ _ => (.cons _ (.cons _ (.cons _ (.cons _ (.refl _)))))) ?_
    rintro ⟨D2, bs2⟩ h2
    dsimp only at h2
    refine RA.know 38 (v' := dvv D2) rfl rfl ?_
    refine RA.tail ?_
    refine RT.f 6 (by kernel_rfl) rfl rfl rfl (OpG.storeV (b := b8) zf79 rfl rfl rfl rfl (by repeat (first | exact Upd.here | apply Upd.there))) ?_
    rintro _ _
    refine RT.f 7 (by kernel_rfl) rfl rfl rfl (OpG.storeV (b := b9) zf25 rfl rfl rfl rfl (by repeat (first | exact Upd.here | apply Upd.there))) ?_
    rintro _ _
    refine RT.as (fun _ h => h.take (.cons (.there (.there (.there .here))) (.cons (.there (.there .here)) (.cons .here (.cons .here (.cons .here (.cons .here (.cons .here .nil)))))))) ?_
    refine RT.done (by kernel_rfl) ?_
    exact PX.cut hK0 (G, bG, D2, bs2, b8, b9) ⟨hG, h2.1, h2.2⟩ ⟨rfl, rfl, rfl, trivial⟩ (HSub.refl _)
 ·
  dsimp only
  obtain ⟨hG4, hGn⟩ := IsTrim.ok hvF hG
  have hGL : G.L = SF.L := hG.L_eq
  have hGL6 : 1 ≤ G.L ∧ G.L ≤ 6 := hG4.may
  have hD2n : D2.da.n ≤ D.da.n := min_n hvD.daOk hm2
  have hn52 : D2.fin.length ≤ 512 := Nat.le_trans hD2n h5
  have hD2L : D2.da.L = D.da.L := hm2.letters
  have hGo : G.sq.Over D.da.L := IsTrim.over hvF ho hG
  have hoD2 : G.sq.Over D2.L := by rw [hv2.L_eq, hD2L]; exact hGo
  have hoD3 : G.sq.Over D2.da.L := by rw [hD2L]; exact hGo
  have hnn : G.sq.n * D2.da.n ≤ 500 := Nat.le_trans (Nat.mul_le_mul hGn hD2n) hn
  have hst2 : D2.da.s < D2.fin.length := hv2.daOk.st
  have hGs : G.s < G.sq.n := hG4.st
  have hG5 := hG4.n5
  have hsn : G.s * D2.da.n ≤ 512 * 512 := Nat.mul_le_mul (by omega) (show D2.da.n ≤ 512 from hn52)
  have hrl2 : D2.da.sy.run D2.da.s (wl G.init) < D2.da.n := iv_ltI hG4 hv2.daOk hoD3 hst2
  have hn53 : D2.da.n ≤ 512 := hn52
  refine CT.seq (CT.region ?_)
  refine Wl.q rfl rfl (OpQ.fieldAddr zf19 rfl) ?_
  refine Wl.q rfl rfl (OpQ.loadF (b := b9) zf20 rfl (by repeat (first | exact Has.here | apply Has.there)) (by rfl)) ?_
  refine Wl.q rfl rfl (OpQ.len zf21 rfl) ?_
  refine Wl.know 41 (v' := .int .i64 ((D2.da.n : Nat) : Int)) rfl (congrArg (Value.int .i64) (congrArg (fun m : Nat => (m : Int)) hv2.len)) ?_
  refine Wl.g rfl rfl (OpG.alloc (zs := [.int .i64 0]) zf32 rfl rfl) ?_
  rintro b10 _
  refine Wl.g rfl rfl (OpG.storeV1 (b := b10) zf1 rfl rfl rfl (by repeat (first | exact Upd.here | apply Upd.there))) ?_
  rintro _ _
  refine Wl.nil (PX.then_n (CT.seq (CT.region ?_)))
  refine Wl.q rfl rfl (OpQ.makeFunc rfl) ?_
  refine Wl.g rfl rfl (OpG.alloc (zs := [.nilFunc]) zf125 rfl rfl) ?_
  rintro b11 _
  refine Wl.g rfl rfl (OpG.storeV1 (b := b11) zf126 rfl rfl rfl (by repeat (first | exact Upd.here | apply Upd.there))) ?_
  rintro _ _
  refine Wl.nil (PX.then_n (CT.seq (CT.region ?_)))
  refine Wl.q rfl rfl (OpQ.makeFunc rfl) ?_
  refine Wl.q rfl rfl (OpQ.assign rfl) ?_
  refine Wl.nil (PX.then_n (CT.seq (CT.region ?_)))
  refine Wl.q rfl rfl (OpQ.makeFunc rfl) ?_
  refine Wl.q rfl rfl (OpQ.assign rfl) ?_
  refine Wl.nil (PX.then_n (CT.seq ?_))
  refine CT.draw 12 zf6 ?_
  refine RA.q 0 (by kernel_rfl) rfl rfl rfl (.refl _) (OpQ.fieldAddr zf76 rfl) ?_
  refine RA.q 1 (by kernel_rfl) rfl rfl rfl (.refl _) (OpQ.loadF (b := b8) zf8 rfl (by repeat (first | exact Has.here | apply Has.there)) (by rfl)) ?_
  refine RA.q 2 (by kernel_rfl) rfl rfl rfl (.refl _) (OpQ.loadV1 (b := b10) zf8 rfl (by repeat (first | exact Has.here | apply Has.there))) ?_
  refine RA.q 3 (by kernel_rfl) rfl rfl rfl (.refl _) (OpQ.mul rfl rfl (by constructor <;> (rw [← Int.natCast_mul]; omega))) ?_
  refine RA.know 48 (v' := .int .i64 (((G.s * D2.da.n) : Nat) : Int)) rfl (congrArg (Value.int .i64) (Int.natCast_mul G.s D2.da.n).symm) ?_
  refine RA.q 4 (by kernel_rfl) rfl rfl rfl (.refl _) (OpQ.loadV1 (b := b11) zf120 rfl (by repeat (first | exact Has.here | apply Has.there))) ?_
  refine RA.q 5 (by kernel_rfl) rfl rfl rfl (.refl _) (OpQ.fieldAddr zf22 rfl) ?_
  refine RA.q 6 (by kernel_rfl) rfl rfl rfl (.refl _) (OpQ.loadF (b := b9) zf8 rfl (by repeat (first | exact Has.here | apply Has.there)) (by rfl)) ?_
  refine RA.know 51 (v' := .int .i64 ((D2.da.s : Nat) : Int)) rfl (congrArg (Value.int .i64) hv2.s_eq) ?_
  refine RA.q 7 (by kernel_rfl) rfl rfl rfl (.refl _) (OpQ.fieldAddr zf77 rfl) ?_
  refine RA.q 8 (by kernel_rfl) rfl rfl rfl (.refl _) (OpQ.loadF (b := b8) zf72 rfl (by repeat (first | exact Has.here | apply Has.there)) (by rfl)) ?_
  refine RA.f 9 (by kernel_rfl) rfl rfl rfl (OpG.callFV rfl zf119 rfl (fun w hH => irun_spec w D2 (Stays.frag (hH.staysK0 (.there (.there (.there (.there .here)))))) hv2 b9 (Stays.rd (hH.staysK0 (.there (.there .here)))) D2.da.s hst2 G.init hG4.ti (hoD2.i))) (fun _ _ => (.refl _)) ?_
  rintro _ _
  refine RA.q 10 (by kernel_rfl) rfl rfl rfl (.refl _) (OpQ.add rfl rfl (by omega)) ?_
  refine RA.know 55 (v' := zz ((G.s * D2.da.n + D2.da.sy.run D2.da.s (wl G.init) : Nat) : Int)) rfl (congrArg (Value.int .i64) (by push_cast; rfl)) ?_
  refine RA.q 11 (by kernel_rfl) rfl rfl rfl (.refl _) (OpQ.assign rfl) ?_
  refine RA.tail ?_
  refine RT.done (by kernel_rfl) ?_
  refine PX.then_n (CT.seq (CT.region ?_))
  refine Wl.q rfl rfl (OpQ.fieldAddr zf64 rfl) ?_
  refine Wl.q rfl rfl (OpQ.loadF (b := b8) zf8 rfl (by repeat (first | exact Has.here | apply Has.there)) (by rfl)) ?_
  refine Wl.q rfl rfl (OpQ.move rfl) ?_
  refine Wl.q rfl rfl (OpQ.move rfl) ?_
  refine Wl.q rfl rfl (OpQ.move rfl) ?_
  refine Wl.g rfl rfl (OpG.callX zf127 rfl .nil (fun _ => (.cons (.cons (.cons .nil)))) (fun w hH hp => exploreQ_spec w G.L hGL6 ((G.s * D2.da.n + D2.da.sy.run D2.da.s (wl G.init) : Nat) : Int) (ivf G.sq D2.da) (ive G.sq D2.da) (fun s => s = -1 ∨ ∃ q p, q < G.sq.n ∧ p < D2.da.n ∧ s = ((q * D2.da.n + p : Nat) : Int)) (fun k => iv_all hG4 hv2.daOk hoD3 k) (fun k => Nat.le_trans (iv_len hG4 hv2.daOk hoD3 k) (by omega)) 60 61 [.pointer (some ⟨b8, 0, none⟩), .pointer (some ⟨b10, 0, none⟩), .pointer (some ⟨b11, 0, none⟩)] [.pointer (some ⟨b8, 0, none⟩), .pointer (some ⟨b10, 0, none⟩), .pointer (some ⟨b9, 0, none⟩), .pointer (some ⟨b11, 0, none⟩)] zf121 zf122 (fun w1 he s x hs hx => istep_spec w1 G ((Stays.frag (hH.staysK0 (.there (.there (.there (.there (.there .here))))))).ext he) hG4 D2 ((Stays.frag (hH.staysK0 (.there (.there (.there (.there .here)))))).ext he) hv2 hoD2 hn52 b8 b10 b9 b11 ((Stays.rd (hH.staysK0 (.there (.there (.there .here))))).ext he) ((Stays.rd (hH.staysK0 (.there .here))).ext he) ((Stays.rd (hH.staysK0 (.there (.there .here)))).ext he) ((Stays.rd (hH.staysK0 .here)).ext he) s hs x hx) (fun w1 he s hs => ifinal_spec w1 G ((Stays.frag (hH.staysK0 (.there (.there (.there (.there (.there .here))))))).ext he) hG4 D2 ((Stays.frag (hH.staysK0 (.there (.there (.there (.there .here)))))).ext he) hv2 hoD2 hn52 b8 b10 b9 b11 ((Stays.rd (hH.staysK0 (.there (.there (.there .here))))).ext he) ((Stays.rd (hH.staysK0 (.there .here))).ext he) ((Stays.rd (hH.staysK0 (.there (.there .here)))).ext he) ((Stays.rd (hH.staysK0 .here)).ext he) s hs))) ?_
  rintro ⟨K1, bm, na, nc, fa, fc⟩ hK1
  dsimp only at hK1
  have hdn : (autoD (ivf G.sq D2.da) G.L ((G.s * D2.da.n + D2.da.sy.run D2.da.s (wl G.init) : Nat) : Int) K1 (ive G.sq D2.da)).n ≤ SF.sq.n * D.da.n + 1 := by rw [autoD_n]; exact Nat.le_trans (iv_len hG4 hv2.daOk hoD3 K1) (Nat.succ_le_succ (Nat.mul_le_mul hGn hD2n))
  refine Wl.g rfl rfl (OpG.callX zf128 rfl .nil (fun _ => (.cons .nil)) (fun w hH hp => minimalT_spec w (autoD (ivf G.sq D2.da) G.L ((G.s * D2.da.n + D2.da.sy.run D2.da.s (wl G.init) : Nat) : Int) K1 (ive G.sq D2.da)) (autoD_ok hK1 _) hGL6 (by omega) bm na nc fa fc (Stays.rd (hH.staysK0 .here)) (Stays.rd (hH.staysK0 (.there .here))) (Stays.rd (hH.staysK0 (.there (.there .here)))) (fun c hc => Nat.le_trans (coarse_top hc) (by omega)) rfl)) ?_
  rintro ⟨D3, bD⟩ hD3
  dsimp only at hD3
  obtain ⟨hDo, hDm⟩ := hD3
  have hDn : D3.da.n ≤ SF.sq.n * D.da.n + 1 := Nat.le_trans (min_n (autoD_ok hK1 _) hDm) hdn
  refine Wl.q rfl rfl (OpQ.move rfl) ?_
  refine Wl.q rfl rfl (OpQ.extract rfl rfl) ?_
  refine Wl.know 64 (v' := dvv D3) rfl rfl ?_
  refine Wl.q rfl rfl (OpQ.extract rfl rfl) ?_
  refine Wl.know 65 (v' := .bool true) rfl (congrArg Value.bool rfl) ?_
  refine Wl.g rfl rfl (OpG.alloc (zs := [.int .i64 0, .int .i64 0, .slice none 0 0, .slice none 0 0]) zf37 rfl rfl) ?_
  rintro b15 _
  refine Wl.g rfl rfl (OpG.storeV (b := b15) zf25 rfl rfl rfl rfl (by repeat (first | exact Upd.here | apply Upd.there))) ?_
  rintro _ _
  refine Wl.q rfl rfl (OpQ.assign rfl) ?_
  refine Wl.nil (PX.then_n (CT.seq (CT.seq (CT.region ?_))))
  refine Wl.q rfl rfl (OpQ.move rfl) ?_
  refine Wl.q rfl rfl (OpQ.not rfl) ?_
  refine Wl.nil (PX.then_n ?_)
  refine CT.condF rfl ?_
  refine CT.skip (PX.then_n (CT.seq (CT.region ?_)))
  refine Wl.q rfl rfl (OpQ.loadV (b := b15) zf24 zf25 rfl (by repeat (first | exact Has.here | apply Has.there)) (by rfl)) ?_
  refine Wl.know 69 (v' := dvv D3) rfl rfl ?_
  refine Wl.g rfl rfl (OpG.storeV (b := b4) zf25 rfl rfl rfl rfl (by repeat (first | exact Upd.here | apply Upd.there))) ?_
  rintro _ _
  refine Wl.q rfl rfl (OpQ.assign rfl) ?_
  refine Wl.nil (PX.then_n (CT.ret ?_))
  refine PX.retC2 rfl rfl rfl (by repeat (first | exact Has.here | apply Has.there)) zf24 zf25 (by rfl) (fun w' hH => ?_)
  exact ⟨(D3, bD), ⟨hDo, hDn, iv_done hvF ho hG4 hGo hGL (fun w hw => by have := hG.value hw; rw [this]; rfl) hm2 hK1 hDm⟩, rfl, (hH.take (.cons (.there .here) .nil)).post⟩

end Go.Proofs.Ytamolakhpcofhaa

