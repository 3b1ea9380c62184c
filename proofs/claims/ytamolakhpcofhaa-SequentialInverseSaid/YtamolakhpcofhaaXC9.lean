/-
  What functions of the program compute, each by its walk. Conditions: those that each theorem names.
-/
import Derived.Test.YtamolakhpcofhaaModb
import Derived.Test.YtamolakhpcofhaaXC8
import Derived.Test.YtamolakhpcofhaaXC5
import Derived.Test.YtamolakhpcofhaaXF
set_option linter.unusedSimpArgs false
namespace Go.Proofs.Ytamolakhpcofhaa
open Go Go.Eng Go.Am
open Go.Tp (zi)
open Go.Tl (mayL Wd okW okB bo)

set_option maxRecDepth 100000 in
/-- (*semigroup/sequential.machine).minimal -/
theorem minimalT_spec (w : World) (d : Da) (hd : d.Ok) (hL : 1 ≤ d.L ∧ d.L ≤ 6) (hn : d.n ≤ 20000) (b : Nat) (na : Option Addr) (nc : Nat) (fa : Option Addr) (fc : Nat) (hm : Stays [] w (fun w => Rd w (some ⟨b, 0, none⟩) [.int .i64 ((d.L : Nat) : Int), .slice na (dfl d).length nc, .slice fa d.n fc])) (hmn : Stays [] w (fun w => Rd w na ((dfl d).map zz))) (hmf : Stays [] w (fun w => Rd w fa (d.fin.map bo))) (h512 : ∀ c, Coarse d c → topL c ≤ 512) (hs0 : d.s = 0) : Calls Try.prog 63 #[.pointer (some ⟨b, 0, none⟩)] w (fun e w' => ∃ i : Dv × List Nat, (i.1.Ok ∧ IsMin d.L d.sy d.s i.1.da) ∧ e = .returned (.tuple #[dvv i.1, .bool true]) ∧ Post [] [.frag i.2 (dvm i.1)] w w') := by
 have hfs : 0 < d.n → fa.isSome = true := fun h => hmf.now.isSome (j := 0) (by rw [List.length_map]; exact h)
 have hdl := dfl_len hd
 have hns : 0 < (dfl d).length → na.isSome = true := fun h => hmn.now.isSome (j := 0) (by rw [List.length_map]; exact h)
 have hpn := hd.pos_n
 have hLL : d.L ≤ 6 := hL.2
 refine enter (args := [.pointer (some ⟨b, 0, none⟩)]) [] 98 Try.func63 rfl rfl rfl ?_
 refine CT.seq (CT.region ?_)
 refine Wl.g rfl rfl (OpG.alloc (zs := [.int .i64 0, .int .i64 0, .slice none 0 0, .slice none 0 0]) zf37 rfl rfl) ?_
 rintro b2 _
 refine Wl.q rfl rfl (OpQ.assign rfl) ?_
 refine Wl.nil (PX.then_n (CT.seq (CT.region ?_)))
 refine Wl.q rfl rfl (OpQ.move rfl) ?_
 refine Wl.g rfl rfl (OpG.callX zf61 rfl .nil (fun _ => (.cons .nil)) (fun w hH hp => classesT_spec w d hd hL hn b na nc fa fc (hH.stays0 hm) (hH.stays0 hmn) (hH.stays0 hmf) h512)) ?_
 rintro ⟨c, ca, cc⟩ hc
 dsimp only at hc
 obtain ⟨hc, h5⟩ := hc
 have hcl : c.length = d.n := hc.len
 have hfo : FO c := hc.fo
 have hsn : d.s < d.n := hd.st
 refine Wl.q rfl rfl (OpQ.move rfl) ?_
 refine Wl.q rfl rfl (OpQ.extract rfl rfl) ?_
 refine Wl.know 13 (v' := .slice ca d.n cc) rfl rfl ?_
 refine Wl.q rfl rfl (OpQ.extract rfl rfl) ?_
 refine Wl.know 14 (v' := .int .i64 ((topL c : Nat) : Int)) rfl rfl ?_
 refine Wl.q rfl rfl (OpQ.assign rfl) ?_
 refine Wl.q rfl rfl (OpQ.assign rfl) ?_
 refine Wl.nil (PX.then_n (CT.seq (CT.seq (CT.region ?_))))
 refine Wl.fact (p := ca.isSome = true) (fun w hH => (hH.rd .here).isSome (j := 0) (by rw [List.length_map]; exact (show 0 < c.length by omega))) (fun hca => ?_)
 refine Wl.q rfl rfl (OpQ.move rfl) ?_
 refine Wl.q rfl rfl (OpQ.gtr rfl rfl) ?_
 refine Wl.know 16 (v' := .bool false) rfl (congrArg Value.bool (decide_eq_false (by omega))) ?_
 refine Wl.nil (PX.then_n ?_)
 refine CT.condF rfl ?_
 refine CT.skip (PX.then_n ?_)
 refine CT.cut (ι := Nat × Nat × Nat) (Φ := fun _ => True) (E' := fun (b6, b26, b28) => [(0, .pointer (some ⟨b, 0, none⟩)), (2, .pointer (some ⟨b2, 0, none⟩)), (4, .slice ca d.n cc), (6, .pointer (some ⟨b6, 0, none⟩))]) (H' := fun (b6, b26, b28) => [.row 49 4 (vb b6) 1 [.int .i64 ((d.L : Nat) : Int), .int .i64 (((c.getD d.s 0) : Nat) : Int), .slice (some ⟨b26, 0, none⟩) (topL c) (topL c), .slice (some ⟨b28, 0, none⟩) (topL c) (topL c)], .row 22 1 (.slice (some ⟨b28, 0, none⟩) (topL c) (topL c)) (topL c) ((List.replicate (topL c) rw0).map rv), .row 4 1 (.slice (some ⟨b26, 0, none⟩) (topL c) (topL c)) (topL c) ((mf d c (topL c) 0).map bo), .row 3 1 (.slice ca d.n cc) d.n (c.map zn), .row 49 4 (vb b2) 1 [.int .i64 0, .int .i64 0, .slice none 0 0, .slice none 0 0]]) (fun K0 hK0 => ?_) (fun ⟨b6, b26, b28⟩ _ => ?_)
 ·
  refine CT.draw 13 zf6 ?_
  refine RA.q 0 (by kernel_rfl) rfl rfl rfl (.refl _) (OpQ.move rfl) ?_
  refine RA.q 1 (by kernel_rfl) rfl rfl rfl (.refl _) (OpQ.nilCheckP rfl) ?_
  refine RA.q 2 (by kernel_rfl) rfl rfl rfl (.refl _) (OpQ.fieldAddr zf59 rfl) ?_
  refine RA.q 3 (by kernel_rfl) rfl rfl rfl (.refl _) (OpQ.loadG (a := some ⟨b, 0, none⟩) (j := 0) zf8 rfl (fun w hH => hH.use hm) rfl) ?_
  refine RA.q 4 (by kernel_rfl) rfl rfl rfl (.refl _) (OpQ.move rfl) ?_
  refine RA.q 5 (by kernel_rfl) rfl rfl rfl (.refl _) (OpQ.index1 zf0 zf1 rfl rfl (by omega) hca) ?_
  refine RA.q 6 (by kernel_rfl) rfl rfl rfl (.refl _) (OpQ.loadRow zf8 rfl .here (getMap zn c 0 (j := 0) (by omega))) ?_
  refine RA.know 24 (v' := .int .i64 (((c.getD d.s 0) : Nat) : Int)) rfl (congrArg zn (by rw [hs0])) ?_
  refine RA.q 7 (by kernel_rfl) rfl rfl rfl (.refl _) (OpQ.move rfl) ?_
  refine RA.q 9 (by kernel_rfl) rfl rfl rfl (.refl _) (OpQ.move rfl) ?_
  refine RA.three 8 10 12 (by kernel_rfl) rfl rfl rfl (OpG.make1 zf18 zf43 rfl rfl rfl rfl (by omega) (by omega)) (fun _ _ => (.cons _ (.refl _))) rfl rfl rfl (OpG.make1 zf21 zf41 rfl rfl rfl rfl (by omega) (by omega)) (fun _ _ => (.cons _ (.refl _))) rfl rfl rfl (OpG.alloc (zs := [.int .i64 0, .int .i64 0, .slice none 0 0, .slice none 0 0]) zf37 rfl rfl) (fun _ _ => (.cons _ (.refl _))) ?_ ?_ ?_
  ·
   rintro b26 _
   refine RA.two 10 12 (by kernel_rfl) rfl rfl rfl (OpG.make1 zf21 zf41 rfl rfl rfl rfl (by omega) (by omega)) (fun _ _ => (.cons _ (.cons _ (.refl _)))) rfl rfl rfl (OpG.alloc (zs := [.int .i64 0, .int .i64 0, .slice none 0 0, .slice none 0 0]) zf37 rfl rfl) (fun _ _ => (.cons _ (.cons _ (.refl _)))) ?_ ?_
   ·
    rintro b28 _
    refine RA.q 11 (by kernel_rfl) rfl rfl rfl (.cons _ (.cons _ (.refl _))) (OpQ.build (cells := #[.int .i64 ((d.L : Nat) : Int), .int .i64 (((c.getD d.s 0) : Nat) : Int), .slice (some ⟨b26, 0, none⟩) (topL c) (topL c), .slice (some ⟨b28, 0, none⟩) (topL c) (topL c)]) zf40 rfl (by kernel_rfl)) ?_
    refine RA.f 12 (by kernel_rfl) rfl rfl rfl (OpG.alloc (zs := [.int .i64 0, .int .i64 0, .slice none 0 0, .slice none 0 0]) zf37 rfl rfl) (fun _ _ => (.cons _ (.cons _ (.cons _ (.refl _))))) ?_
    rintro b6 _
    refine RA.tail ?_
    refine RT.f 13 (by kernel_rfl) rfl rfl rfl (OpG.storeV (b := b6) zf25 rfl rfl rfl rfl (by repeat (first | exact Upd.here | apply Upd.there))) ?_
    rintro _ _
    refine RT.done (by kernel_rfl) ?_
    exact PX.cut hK0 (b6, b26, b28) trivial ⟨rfl, rfl, rfl, rfl, trivial⟩ (.keep rfl (.keep (row_eq (by rw [List.map_replicate]; rfl)) (.keep (row_eq (by rw [mf_zero])) (HSub.refl _))))
   ·
    rintro b6 _
    refine RA.f 10 (by kernel_rfl) rfl rfl rfl (OpG.make1 zf21 zf41 rfl rfl rfl rfl (by omega) (by omega)) (fun _ _ => (.cons _ (.cons _ (.cons _ (.refl _))))) ?_
    rintro b28 _
    refine RA.q 11 (by kernel_rfl) rfl rfl rfl (.cons _ (.cons _ (.cons _ (.refl _)))) (OpQ.build (cells := #[.int .i64 ((d.L : Nat) : Int), .int .i64 (((c.getD d.s 0) : Nat) : Int), .slice (some ⟨b26, 0, none⟩) (topL c) (topL c), .slice (some ⟨b28, 0, none⟩) (topL c) (topL c)]) zf40 rfl (by kernel_rfl)) ?_
    refine RA.tail ?_
    refine RT.f 13 (by kernel_rfl) rfl rfl rfl (OpG.storeV (b := b6) zf25 rfl rfl rfl rfl (by repeat (first | exact Upd.here | apply Upd.there))) ?_
    rintro _ _
    refine RT.as (fun _ h => h.take (.cons (.there .here) (.cons .here (.cons .here (.cons .here (.cons .here .nil)))))) ?_
    refine RT.done (by kernel_rfl) ?_
    exact PX.cut hK0 (b6, b26, b28) trivial ⟨rfl, rfl, rfl, rfl, trivial⟩ (.keep rfl (.keep (row_eq (by rw [List.map_replicate]; rfl)) (.keep (row_eq (by rw [mf_zero])) (HSub.refl _))))
  ·
   rintro b28 _
   refine RA.two 8 12 (by kernel_rfl) rfl rfl rfl (OpG.make1 zf18 zf43 rfl rfl rfl rfl (by omega) (by omega)) (fun _ _ => (.cons _ (.cons _ (.refl _)))) rfl rfl rfl (OpG.alloc (zs := [.int .i64 0, .int .i64 0, .slice none 0 0, .slice none 0 0]) zf37 rfl rfl) (fun _ _ => (.cons _ (.cons _ (.refl _)))) ?_ ?_
   ·
    rintro b26 _
    refine RA.q 11 (by kernel_rfl) rfl rfl rfl (.cons _ (.cons _ (.refl _))) (OpQ.build (cells := #[.int .i64 ((d.L : Nat) : Int), .int .i64 (((c.getD d.s 0) : Nat) : Int), .slice (some ⟨b26, 0, none⟩) (topL c) (topL c), .slice (some ⟨b28, 0, none⟩) (topL c) (topL c)]) zf40 rfl (by kernel_rfl)) ?_
    refine RA.f 12 (by kernel_rfl) rfl rfl rfl (OpG.alloc (zs := [.int .i64 0, .int .i64 0, .slice none 0 0, .slice none 0 0]) zf37 rfl rfl) (fun _ _ => (.cons _ (.cons _ (.cons _ (.refl _))))) ?_
    rintro b6 _
    refine RA.tail ?_
    refine RT.f 13 (by kernel_rfl) rfl rfl rfl (OpG.storeV (b := b6) zf25 rfl rfl rfl rfl (by repeat (first | exact Upd.here | apply Upd.there))) ?_
    rintro _ _
    refine RT.as (fun _ h => h.take (.cons .here (.cons (.there .here) (.cons .here (.cons .here (.cons .here .nil)))))) ?_
    refine RT.done (by kernel_rfl) ?_
    exact PX.cut hK0 (b6, b26, b28) trivial ⟨rfl, rfl, rfl, rfl, trivial⟩ (.keep rfl (.keep (row_eq (by rw [List.map_replicate]; rfl)) (.keep (row_eq (by rw [mf_zero])) (HSub.refl _))))
   ·
    rintro b6 _
    refine RA.f 8 (by kernel_rfl) rfl rfl rfl (OpG.make1 zf18 zf43 rfl rfl rfl rfl (by omega) (by omega)) (fun _ _ => (.cons _ (.cons _ (.cons _ (.refl _))))) ?_
    rintro b26 _
    refine RA.q 11 (by kernel_rfl) rfl rfl rfl (.cons _ (.cons _ (.cons _ (.refl _)))) (OpQ.build (cells := #[.int .i64 ((d.L : Nat) : Int), .int .i64 (((c.getD d.s 0) : Nat) : Int), .slice (some ⟨b26, 0, none⟩) (topL c) (topL c), .slice (some ⟨b28, 0, none⟩) (topL c) (topL c)]) zf40 rfl (by kernel_rfl)) ?_
    refine RA.tail ?_
    refine RT.f 13 (by kernel_rfl) rfl rfl rfl (OpG.storeV (b := b6) zf25 rfl rfl rfl rfl (by repeat (first | exact Upd.here | apply Upd.there))) ?_
    rintro _ _
    refine RT.as (fun _ h => h.take (.cons (.there .here) (.cons (.there .here) (.cons .here (.cons .here (.cons .here .nil)))))) ?_
    refine RT.done (by kernel_rfl) ?_
    exact PX.cut hK0 (b6, b26, b28) trivial ⟨rfl, rfl, rfl, rfl, trivial⟩ (.keep rfl (.keep (row_eq (by rw [List.map_replicate]; rfl)) (.keep (row_eq (by rw [mf_zero])) (HSub.refl _))))
  ·
   rintro b6 _
   refine RA.two 8 10 (by kernel_rfl) rfl rfl rfl (OpG.make1 zf18 zf43 rfl rfl rfl rfl (by omega) (by omega)) (fun _ _ => (.cons _ (.cons _ (.refl _)))) rfl rfl rfl (OpG.make1 zf21 zf41 rfl rfl rfl rfl (by omega) (by omega)) (fun _ _ => (.cons _ (.cons _ (.refl _)))) ?_ ?_
   ·
    rintro b26 _
    refine RA.f 10 (by kernel_rfl) rfl rfl rfl (OpG.make1 zf21 zf41 rfl rfl rfl rfl (by omega) (by omega)) (fun _ _ => (.cons _ (.cons _ (.cons _ (.refl _))))) ?_
    rintro b28 _
    refine RA.q 11 (by kernel_rfl) rfl rfl rfl (.cons _ (.cons _ (.cons _ (.refl _)))) (OpQ.build (cells := #[.int .i64 ((d.L : Nat) : Int), .int .i64 (((c.getD d.s 0) : Nat) : Int), .slice (some ⟨b26, 0, none⟩) (topL c) (topL c), .slice (some ⟨b28, 0, none⟩) (topL c) (topL c)]) zf40 rfl (by kernel_rfl)) ?_
    refine RA.tail ?_
    refine RT.f 13 (by kernel_rfl) rfl rfl rfl (OpG.storeV (b := b6) zf25 rfl rfl rfl rfl (by repeat (first | exact Upd.here | apply Upd.there))) ?_
    rintro _ _
    refine RT.as (fun _ h => h.take (.cons (.there (.there .here)) (.cons .here (.cons .here (.cons .here (.cons .here .nil)))))) ?_
    refine RT.done (by kernel_rfl) ?_
    exact PX.cut hK0 (b6, b26, b28) trivial ⟨rfl, rfl, rfl, rfl, trivial⟩ (.keep rfl (.keep (row_eq (by rw [List.map_replicate]; rfl)) (.keep (row_eq (by rw [mf_zero])) (HSub.refl _))))
   ·
    rintro b28 _
    refine RA.f 8 (by kernel_rfl) rfl rfl rfl (OpG.make1 zf18 zf43 rfl rfl rfl rfl (by omega) (by omega)) (fun _ _ => (.cons _ (.cons _ (.cons _ (.refl _))))) ?_
    rintro b26 _
    refine RA.q 11 (by kernel_rfl) rfl rfl rfl (.cons _ (.cons _ (.cons _ (.refl _)))) (OpQ.build (cells := #[.int .i64 ((d.L : Nat) : Int), .int .i64 (((c.getD d.s 0) : Nat) : Int), .slice (some ⟨b26, 0, none⟩) (topL c) (topL c), .slice (some ⟨b28, 0, none⟩) (topL c) (topL c)]) zf40 rfl (by kernel_rfl)) ?_
    refine RA.tail ?_
    refine RT.f 13 (by kernel_rfl) rfl rfl rfl (OpG.storeV (b := b6) zf25 rfl rfl rfl rfl (by repeat (first | exact Upd.here | apply Upd.there))) ?_
    rintro _ _
    refine RT.as (fun _ h => h.take (.cons (.there (.there .here)) (.cons (.there .here) (.cons .here (.cons .here (.cons .here .nil)))))) ?_
    refine RT.done (by kernel_rfl) ?_
    exact PX.cut hK0 (b6, b26, b28) trivial ⟨rfl, rfl, rfl, rfl, trivial⟩ (.keep rfl (.keep (row_eq (by rw [List.map_replicate]; rfl)) (.keep (row_eq (by rw [mf_zero])) (HSub.refl _))))
 ·
  dsimp only
  refine CT.seq (CT.seq (CT.region ?_))
  refine Wl.q rfl rfl (OpQ.move rfl) ?_
  refine Wl.q rfl rfl (OpQ.len zf0 rfl) ?_
  refine Wl.q rfl rfl (OpQ.move rfl) ?_
  refine Wl.nil (PX.then_n (CT.block ?_))
  refine CT.as (fun _ h => h.bind0 (p := rws (List.replicate (topL c) rw0)) (rws_rep _)) ?_
  refine CT.as (fun _ h => h.take (.cons .here (.cons (.there (.there .here)) (.cons (.there .here) (.cons .here (.cons .here (.cons .here .nil))))))) ?_
  refine CT.loop (ι := Nat × List Rw × List Nat) (fun (q, rs, bs) => q ≤ d.n ∧ Mr d c (topL c) q rs) (fun (q, rs, bs) => [(0, .pointer (some ⟨b, 0, none⟩)), (2, .pointer (some ⟨b2, 0, none⟩)), (4, .slice ca d.n cc), (6, .pointer (some ⟨b6, 0, none⟩)), (30, .slice ca d.n cc), (31, .int .i64 ((d.n : Nat) : Int)), (32, .int .i64 ((q : Nat) : Int))]) (fun (q, rs, bs) => [.frag bs (rws rs), .row 4 1 (.slice (some ⟨b26, 0, none⟩) (topL c) (topL c)) (topL c) ((mf d c (topL c) q).map bo), .row 22 1 (.slice (some ⟨b28, 0, none⟩) (topL c) (topL c)) (topL c) ((rs).map rv), .row 49 4 (vb b6) 1 [.int .i64 ((d.L : Nat) : Int), .int .i64 (((c.getD d.s 0) : Nat) : Int), .slice (some ⟨b26, 0, none⟩) (topL c) (topL c), .slice (some ⟨b28, 0, none⟩) (topL c) (topL c)], .row 3 1 (.slice ca d.n cc) d.n (c.map zn), .row 49 4 (vb b2) 1 [.int .i64 0, .int .i64 0, .slice none 0 0, .slice none 0 0]]) (fun (q, rs, bs) => d.n - q) (0, List.replicate (topL c) rw0, []) ⟨Nat.zero_le _, Mr.start _⟩ ⟨rfl, rfl, rfl, rfl, rfl, rfl, rfl, trivial⟩ (HSub.refl _) (fun ⟨q, rs, bs⟩ ⟨hq, hmr⟩ K1 hK1 => ?_)
  dsimp only
  refine CT.seq (CT.region ?_)
  refine Wl.q rfl rfl (OpQ.lss rfl rfl) ?_
  refine Wl.nil (PX.then_n (CT.seq ?_))
  refine CT.cond rfl (fun h33 => ?_) (fun h33 => ?_)
  ·
   have h33 := of_decide_eq_true h33
   have hql : q < d.n := by omega
   have hcq := hfo q (by omega)
   have hct : c.getD q 0 < topL c := topL_all c (by omega)
   have hmfl : (mf d c (topL c) q).length = topL c := mf_len hfo (by omega) (Nat.le_refl _)
   refine CT.skip (PX.then_n (CT.seq (CT.block (CT.seq (CT.region ?_)))))
   refine Wl.q rfl rfl (OpQ.move rfl) ?_
   refine Wl.q rfl rfl (OpQ.index1 zf0 zf1 rfl rfl (by omega) hca) ?_
   refine Wl.q rfl rfl (OpQ.loadRow zf8 rfl (.there (.there (.there (.there .here)))) (getMap zn c 0 (j := q) (by omega))) ?_
   refine Wl.know 36 (v' := .int .i64 (((c.getD q 0) : Nat) : Int)) rfl rfl ?_
   refine Wl.q rfl rfl (OpQ.assign rfl) ?_
   refine Wl.q rfl rfl (OpQ.assign rfl) ?_
   refine Wl.nil (PX.then_n (CT.seq (CT.seq (CT.region ?_))))
   refine Wl.q rfl rfl (OpQ.fieldAddr zf19 rfl) ?_
   refine Wl.q rfl rfl (OpQ.loadF (b := b6) zf20 rfl (by repeat (first | exact Has.here | apply Has.there)) (by rfl)) ?_
   refine Wl.q rfl rfl (OpQ.move rfl) ?_
   refine Wl.q rfl rfl (OpQ.index1 zf21 zf23 rfl rfl (by omega) rfl) ?_
   refine Wl.q rfl rfl (OpQ.loadRow zf10 rfl (.there (.there .here)) (getMap rv rs rw0 (j := c.getD q 0) (by rw [hmr.len]; exact hct))) ?_
   refine Wl.q rfl rfl (OpQ.neqNilS zf0 rfl rfl) ?_
   refine Wl.nil (PX.then_n ?_)
   refine CT.cond rfl (fun h42 => ?_) (fun h42 => ?_)
   ·
    have hold : c.getD q 0 < topL (c.take q) := Nat.lt_of_not_le fun h => by rw [hmr.new _ h] at h42; cases h42
    refine CT.exit (PX.then_x (PX.block_x (PX.then_n (CT.region ?_))))
    refine Wl.q rfl rfl (OpQ.add rfl rfl (by omega)) ?_
    refine Wl.q rfl rfl (OpQ.move rfl) ?_
    refine Wl.nil ?_
    exact PX.loop hK1 (q + 1, rs, bs) ⟨by omega, hmr.keep (by omega) hold⟩ (show d.n - (q + 1) < d.n - q by omega) ⟨rfl, rfl, rfl, rfl, rfl, rfl, rfl, trivial⟩ (.keep rfl (.keep (row_eq (by rw [mf_keep (by omega) hold])) (HSub.refl _)))
   ·
    have hnew : c.getD q 0 = topL (c.take q) := Nat.le_antisymm hcq (Nat.le_of_not_lt fun h => by rw [(hmr.old _ h).1] at h42; cases h42)
    refine CT.skip (PX.then_n (CT.seq ?_))
    refine CT.draw 11 zf6 ?_
    refine RA.q 0 (by kernel_rfl) rfl rfl rfl (.refl _) (OpQ.fieldAddr zf16 rfl) ?_
    refine RA.q 1 (by kernel_rfl) rfl rfl rfl (.refl _) (OpQ.loadF (b := b6) zf17 rfl (by repeat (first | exact Has.here | apply Has.there)) (by rfl)) ?_
    refine RA.q 2 (by kernel_rfl) rfl rfl rfl (.refl _) (OpQ.move rfl) ?_
    refine RA.q 3 (by kernel_rfl) rfl rfl rfl (.refl _) (OpQ.move rfl) ?_
    refine RA.q 4 (by kernel_rfl) rfl rfl rfl (.refl _) (OpQ.nilCheckP rfl) ?_
    refine RA.q 5 (by kernel_rfl) rfl rfl rfl (.refl _) (OpQ.fieldAddr zf57 rfl) ?_
    refine RA.q 6 (by kernel_rfl) rfl rfl rfl (.refl _) (OpQ.loadG (a := some ⟨b, 0, none⟩) (j := 2) zf17 rfl (fun w hH => hH.use hm) rfl) ?_
    refine RA.q 7 (by kernel_rfl) rfl rfl rfl (.refl _) (OpQ.move rfl) ?_
    refine RA.q 8 (by kernel_rfl) rfl rfl rfl (.refl _) (OpQ.index1 zf18 zf29 rfl rfl (by omega) (hfs (by omega))) ?_
    refine RA.q 9 (by kernel_rfl) rfl rfl rfl (.refl _) (OpQ.loadG zf30 rfl (fun w hH => hH.use hmf) (getMap bo d.fin false (j := q) (by show q < d.n; omega))) ?_
    refine RA.know 52 (v' := .bool (d.fi q)) rfl rfl ?_
    refine RA.q 10 (by kernel_rfl) rfl rfl rfl (.refl _) (OpQ.index1 zf18 zf29 rfl rfl (by omega) rfl) ?_
    refine RA.tail ?_
    refine RT.f 11 (by kernel_rfl) rfl rfl rfl (OpG.storeRow zf29 rfl rfl rfl (.there .here) (by rw [List.length_map, hmfl]; exact hct)) ?_
    rintro _ _
    refine RT.done (by kernel_rfl) ?_
    refine PX.then_n (CT.seq ?_)
    refine CT.draw 9 zf6 ?_
    refine RA.q 0 (by kernel_rfl) rfl rfl rfl (.refl _) (OpQ.fieldAddr zf19 rfl) ?_
    refine RA.q 1 (by kernel_rfl) rfl rfl rfl (.refl _) (OpQ.loadF (b := b6) zf20 rfl (by repeat (first | exact Has.here | apply Has.there)) (by rfl)) ?_
    refine RA.q 2 (by kernel_rfl) rfl rfl rfl (.refl _) (OpQ.move rfl) ?_
    refine RA.q 3 (by kernel_rfl) rfl rfl rfl (.refl _) (OpQ.move rfl) ?_
    refine RA.q 4 (by kernel_rfl) rfl rfl rfl (.refl _) (OpQ.nilCheckP rfl) ?_
    refine RA.q 5 (by kernel_rfl) rfl rfl rfl (.refl _) (OpQ.fieldAddr zf59 rfl) ?_
    refine RA.q 6 (by kernel_rfl) rfl rfl rfl (.refl _) (OpQ.loadG (a := some ⟨b, 0, none⟩) (j := 0) zf8 rfl (fun w hH => hH.use hm) rfl) ?_
    refine RA.f 7 (by kernel_rfl) rfl rfl rfl (OpG.make1 zf0 zf32 rfl rfl rfl rfl (by omega) (by omega)) (fun _ _ => (.cons _ (.refl _))) ?_
    rintro b61 _
    refine RA.q 8 (by kernel_rfl) rfl rfl rfl (.cons _ (.refl _)) (OpQ.index1 zf21 zf23 rfl rfl (by omega) rfl) ?_
    refine RA.tail ?_
    refine RT.f 9 (by kernel_rfl) rfl rfl rfl (OpG.storeRow zf23 rfl rfl rfl (.there (.there (.there .here))) (by rw [List.length_map, hmr.len]; exact hct)) ?_
    rintro _ _
    refine RT.done (by kernel_rfl) ?_
    refine PX.then_n (CT.seq (CT.region ?_))
    refine Wl.q rfl rfl (OpQ.move rfl) ?_
    refine Wl.q rfl rfl (OpQ.nilCheckP rfl) ?_
    refine Wl.q rfl rfl (OpQ.fieldAddr zf59 rfl) ?_
    refine Wl.q rfl rfl (OpQ.loadG (a := some ⟨b, 0, none⟩) (j := 0) zf8 rfl (fun w hH => hH.use hm) rfl) ?_
    refine Wl.q rfl rfl (OpQ.move rfl) ?_
    refine Wl.nil (PX.then_n (CT.block ?_))
    have hrv : rv (⟨some ⟨b61, 0, none⟩, d.L, castL (qrow d c q)⟩ : Rw) = .slice (some ⟨b61, 0, none⟩) d.L d.L := by
     show Value.slice _ (castL (qrow d c q)).length _ = _
     rw [qrow_len]
    refine CT.loop (ι := Nat) (fun x => x ≤ d.L) (fun x => [(0, .pointer (some ⟨b, 0, none⟩)), (2, .pointer (some ⟨b2, 0, none⟩)), (4, .slice ca d.n cc), (6, .pointer (some ⟨b6, 0, none⟩)), (30, .slice ca d.n cc), (31, .int .i64 ((d.n : Nat) : Int)), (32, .int .i64 ((q : Nat) : Int)), (7, .int .i64 ((q : Nat) : Int)), (8, .int .i64 (((c.getD q 0) : Nat) : Int)), (66, .int .i64 ((d.L : Nat) : Int)), (67, .int .i64 ((x : Nat) : Int))]) (fun x => [.row 3 1 (.slice (some ⟨b61, 0, none⟩) d.L d.L) d.L ((tabI d.L (fun y => if y < x then ((c.getD (d.to q y) 0 : Nat) : Int) else 0)).map zz), .frag bs (rws rs), .row 4 1 (.slice (some ⟨b26, 0, none⟩) (topL c) (topL c)) (topL c) ((mf d c (topL c) (q + 1)).map bo), .row 22 1 (.slice (some ⟨b28, 0, none⟩) (topL c) (topL c)) (topL c) (((rs.set (c.getD q 0) (⟨some ⟨b61, 0, none⟩, d.L, castL (qrow d c q)⟩ : Rw))).map rv), .row 49 4 (vb b6) 1 [.int .i64 ((d.L : Nat) : Int), .int .i64 (((c.getD d.s 0) : Nat) : Int), .slice (some ⟨b26, 0, none⟩) (topL c) (topL c), .slice (some ⟨b28, 0, none⟩) (topL c) (topL c)], .row 3 1 (.slice ca d.n cc) d.n (c.map zn), .row 49 4 (vb b2) 1 [.int .i64 0, .int .i64 0, .slice none 0 0, .slice none 0 0]]) (fun x => d.L - x) 0 (Nat.zero_le _) ⟨rfl, rfl, rfl, rfl, rfl, rfl, rfl, rfl, rfl, rfl, rfl, trivial⟩ (.keep (row_eq (qrow_zero d c q).symm) (.keep rfl (.keep (row_eq (mf_put hfo (by omega) hnew (Nat.le_refl _)).symm) (.keep (row_eq (by rw [List.map_set, hrv]; rfl)) (HSub.refl _))))) (fun x hx K2 hK2 => ?_)
    refine CT.seq (CT.region ?_)
    refine Wl.q rfl rfl (OpQ.lss rfl rfl) ?_
    refine Wl.nil (PX.then_n (CT.seq ?_))
    refine CT.cond rfl (fun h68 => ?_) (fun h68 => ?_)
    ·
     have h68 := of_decide_eq_true h68
     have hxL : x < d.L := by omega
     have htl : d.to q x < d.n := hd.lt q x hql hxL
     have hiL : q * d.L ≤ 120000 := Nat.le_trans (Nat.mul_le_mul (show q ≤ 20000 by omega) hLL) (by decide)
     have hix : q * d.L + x < (dfl d).length := by rw [hdl]; have := Nat.mul_le_mul_right d.L (show q + 1 ≤ d.n from hql); rw [Nat.add_mul] at this; omega
     have hiLc : ((q : Nat) : Int) * ((d.L : Nat) : Int) = ((q * d.L : Nat) : Int) := (Int.natCast_mul _ _).symm
     refine CT.skip (PX.then_n (CT.seq (CT.block (CT.seq (CT.region ?_)))))
     refine Wl.q rfl rfl (OpQ.move rfl) ?_
     refine Wl.q rfl rfl (OpQ.assign rfl) ?_
     refine Wl.nil (PX.then_n ?_)
     refine CT.draw 24 zf6 ?_
     refine RA.q 0 (by kernel_rfl) rfl rfl rfl (.refl _) (OpQ.fieldAddr zf19 rfl) ?_
     refine RA.q 1 (by kernel_rfl) rfl rfl rfl (.refl _) (OpQ.loadF (b := b6) zf20 rfl (by repeat (first | exact Has.here | apply Has.there)) (by rfl)) ?_
     refine RA.q 2 (by kernel_rfl) rfl rfl rfl (.refl _) (OpQ.move rfl) ?_
     refine RA.q 3 (by kernel_rfl) rfl rfl rfl (.refl _) (OpQ.index1 zf21 zf23 rfl rfl (by omega) rfl) ?_
     refine RA.q 4 (by kernel_rfl) rfl rfl rfl (.refl _) (OpQ.loadRow zf10 rfl (.there (.there (.there .here))) (getMap rv (rs.set (c.getD q 0) (⟨some ⟨b61, 0, none⟩, d.L, castL (qrow d c q)⟩ : Rw)) rw0 (j := c.getD q 0) (by rw [List.length_set, hmr.len]; exact hct))) ?_
     refine RA.know 74 (v' := .slice (some ⟨b61, 0, none⟩) d.L d.L) rfl (by rw [gsetR, if_pos ⟨rfl, by rw [hmr.len]; exact hct⟩]; exact hrv) ?_
     refine RA.q 5 (by kernel_rfl) rfl rfl rfl (.refl _) (OpQ.move rfl) ?_
     refine RA.q 6 (by kernel_rfl) rfl rfl rfl (.refl _) (OpQ.move rfl) ?_
     refine RA.q 7 (by kernel_rfl) rfl rfl rfl (.refl _) (OpQ.move rfl) ?_
     refine RA.q 8 (by kernel_rfl) rfl rfl rfl (.refl _) (OpQ.nilCheckP rfl) ?_
     refine RA.q 9 (by kernel_rfl) rfl rfl rfl (.refl _) (OpQ.fieldAddr zf60 rfl) ?_
     refine RA.q 10 (by kernel_rfl) rfl rfl rfl (.refl _) (OpQ.loadG (a := some ⟨b, 0, none⟩) (j := 1) zf10 rfl (fun w hH => hH.use hm) rfl) ?_
     refine RA.q 11 (by kernel_rfl) rfl rfl rfl (.refl _) (OpQ.move rfl) ?_
     refine RA.q 12 (by kernel_rfl) rfl rfl rfl (.refl _) (OpQ.move rfl) ?_
     refine RA.q 13 (by kernel_rfl) rfl rfl rfl (.refl _) (OpQ.nilCheckP rfl) ?_
     refine RA.q 14 (by kernel_rfl) rfl rfl rfl (.refl _) (OpQ.fieldAddr zf59 rfl) ?_
     refine RA.q 15 (by kernel_rfl) rfl rfl rfl (.refl _) (OpQ.loadG (a := some ⟨b, 0, none⟩) (j := 0) zf8 rfl (fun w hH => hH.use hm) rfl) ?_
     refine RA.q 16 (by kernel_rfl) rfl rfl rfl (.refl _) (OpQ.mul rfl rfl (by rw [hiLc]; omega)) ?_
     refine RA.know 86 (v' := .int .i64 (((q * d.L) : Nat) : Int)) rfl (congrArg (Value.int .i64) hiLc) ?_
     refine RA.q 17 (by kernel_rfl) rfl rfl rfl (.refl _) (OpQ.move rfl) ?_
     refine RA.q 18 (by kernel_rfl) rfl rfl rfl (.refl _) (OpQ.add rfl rfl (by omega)) ?_
     refine RA.know 88 (v' := .int .i64 (((q * d.L + x) : Nat) : Int)) rfl (congrArg (Value.int .i64) (by rw [Int.natCast_add])) ?_
     refine RA.q 19 (by kernel_rfl) rfl rfl rfl (.refl _) (OpQ.index1 zf0 zf1 rfl rfl (by omega) (hns (by omega))) ?_
     refine RA.q 20 (by kernel_rfl) rfl rfl rfl (.refl _) (OpQ.loadG zf8 rfl (fun w hH => hH.use hmn) (getMap zz (dfl d) 0 (j := q * d.L + x) hix)) ?_
     refine RA.know 90 (v' := .int .i64 (((d.to q x) : Nat) : Int)) rfl (congrArg (Value.int .i64) (dfl_get hd hql hxL)) ?_
     refine RA.q 21 (by kernel_rfl) rfl rfl rfl (.refl _) (OpQ.index1 zf0 zf1 rfl rfl (by omega) hca) ?_
     refine RA.q 22 (by kernel_rfl) rfl rfl rfl (.refl _) (OpQ.loadRow zf8 rfl (.there (.there (.there (.there (.there .here))))) (getMap zn c 0 (j := d.to q x) (by omega))) ?_
     refine RA.know 92 (v' := .int .i64 (((c.getD (d.to q x) 0) : Nat) : Int)) rfl rfl ?_
     refine RA.q 23 (by kernel_rfl) rfl rfl rfl (.refl _) (OpQ.index1 zf0 zf1 rfl rfl (by omega) rfl) ?_
     refine RA.tail ?_
     refine RT.f 24 (by kernel_rfl) rfl rfl rfl (OpG.storeRow zf1 rfl rfl rfl .here (by rw [List.length_map, tabI_len]; exact hxL)) ?_
     rintro _ _
     refine RT.done (by kernel_rfl) ?_
     refine PX.block_n (PX.then_n (CT.region ?_))
     refine Wl.q rfl rfl (OpQ.add rfl rfl (by omega)) ?_
     refine Wl.q rfl rfl (OpQ.move rfl) ?_
     refine Wl.nil ?_
     exact PX.loop hK2 (x + 1) (by omega) (by first | omega | (dsimp only; omega)) ⟨rfl, rfl, rfl, rfl, rfl, rfl, rfl, rfl, rfl, rfl, rfl, trivial⟩ (.keep (row_eq qrow_put.symm) (HSub.refl _))
    ·
     have h68 := of_decide_eq_false h68
     obtain rfl : x = d.L := by omega
     refine CT.mem (.keep (row_eq (xs := (castL (qrow d c q)).map zz) (by rw [qrow_end])) (HSub.refl _)) ?_
     refine CT.exit (PX.then_x (PX.then_x (PX.block_x (PX.block_n (PX.then_n (CT.region ?_))))))
     refine Wl.q rfl rfl (OpQ.add rfl rfl (by omega)) ?_
     refine Wl.q rfl rfl (OpQ.move rfl) ?_
     refine Wl.nil ?_
     refine PX.as (fun _ h => h.bind (L := [.frag bs (rws rs), .row 3 1 (.slice (some ⟨b61, 0, none⟩) d.L d.L) d.L ((castL (qrow d c q)).map zz)]) (p := rws (rs.set (c.getD q 0) (⟨some ⟨b61, 0, none⟩, d.L, castL (qrow d c q)⟩ : Rw))) (.cons (.there .here) (.cons .here .nil)) (fun w hk => rws_set (r := (⟨some ⟨b61, 0, none⟩, d.L, castL (qrow d c q)⟩ : Rw)) ((hk _ List.mem_cons_self).2 w (fun _ _ => rfl)) (Rd.of_owns (hk _ (List.mem_cons_of_mem _ List.mem_cons_self))) _)) ?_
     exact PX.loop hK1 (q + 1, (rs.set (c.getD q 0) (⟨some ⟨b61, 0, none⟩, d.L, castL (qrow d c q)⟩ : Rw)), _) ⟨by omega, hmr.put hfo (by omega) hnew (Nat.le_refl _) rfl rfl⟩ (show d.n - (q + 1) < d.n - q by omega) ⟨rfl, rfl, rfl, rfl, rfl, rfl, rfl, trivial⟩ (HSub.refl _)
  ·
   have h33 := of_decide_eq_false h33
   obtain rfl : q = d.n := by omega
   have hIs : Dv.Is ⟨((d.L : Nat) : Int), (((c.getD d.s 0) : Nat) : Int), some ⟨b26, 0, none⟩, topL c, mf d c (topL c) d.n, some ⟨b28, 0, none⟩, topL c, rs⟩ (quo d c (c.getD d.s 0)) := quo_is' rfl rfl (mf_end hcl rfl) (hmr.done hfo hcl rfl)
   obtain ⟨hv3, h53⟩ := quoT_ok hd hL hc h5 hIs
   have hval : dvv ⟨((d.L : Nat) : Int), (((c.getD d.s 0) : Nat) : Int), some ⟨b26, 0, none⟩, topL c, mf d c (topL c) d.n, some ⟨b28, 0, none⟩, topL c, rs⟩ = .agg #[.int .i64 ((d.L : Nat) : Int), .int .i64 (((c.getD d.s 0) : Nat) : Int), .slice (some ⟨b26, 0, none⟩) (topL c) (topL c), .slice (some ⟨b28, 0, none⟩) (topL c) (topL c)] := by
    show Value.agg #[_, _, .slice _ (mf d c (topL c) d.n).length _, .slice _ rs.length _] = _
    rw [mf_len hfo (by omega) (Nat.le_refl _), hmr.len]
   have hml : (mf d c (topL c) d.n).length = topL c := mf_len hfo (by omega) (Nat.le_refl _)
   refine CT.exit (PX.then_x (PX.then_x (PX.block_x (PX.then_n (CT.seq (CT.region ?_))))))
   refine Wl.q rfl rfl (OpQ.loadV (b := b6) zf24 zf25 rfl (by repeat (first | exact Has.here | apply Has.there)) (by rfl)) ?_
   refine Wl.know 96 (v' := dvv ⟨((d.L : Nat) : Int), (((c.getD d.s 0) : Nat) : Int), some ⟨b26, 0, none⟩, topL c, mf d c (topL c) d.n, some ⟨b28, 0, none⟩, topL c, rs⟩) rfl hval.symm ?_
   refine Wl.g rfl rfl (OpG.callX zf62 rfl .nil (fun _ => (.cons .nil)) (fun w hH hp => minimize_spec w ⟨((d.L : Nat) : Int), (((c.getD d.s 0) : Nat) : Int), some ⟨b26, 0, none⟩, topL c, mf d c (topL c) d.n, some ⟨b28, 0, none⟩, topL c, rs⟩ (fun w2 he => ⟨Stays.rd (hH.staysK0 (.there .here)) w2 he, Stays.rd (hH.staysK0 (.there (.there .here))) w2 he, Stays.frag (hH.staysK0 .here) w2 he⟩) hv3 h53)) ?_
   rintro ⟨D4, bs4⟩ h4
   dsimp only at h4
   obtain ⟨hv4, hm4⟩ := h4
   refine Wl.know 97 (v' := dvv D4) rfl rfl ?_
   refine Wl.g rfl rfl (OpG.storeV (b := b2) zf25 rfl rfl rfl rfl (by repeat (first | exact Upd.here | apply Upd.there))) ?_
   rintro _ _
   refine Wl.q rfl rfl (OpQ.assign rfl) ?_
   refine Wl.nil (PX.then_n (CT.ret ?_))
   refine PX.retC2 rfl rfl rfl (by repeat (first | exact Has.here | apply Has.there)) zf24 zf25 (by rfl) (fun w' hH => ?_)
   exact ⟨(D4, bs4), ⟨hv4, quoT_min hd hc hIs hm4⟩, rfl, (hH.take (.cons .here .nil)).post⟩

end Go.Proofs.Ytamolakhpcofhaa

