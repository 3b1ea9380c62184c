/-
  What functions of the program compute, each by its walk. Conditions: those that each theorem names.
-/
import Derived.Test.YtamolakhpcofhaaEng1
import Derived.Test.YtamolakhpcofhaaMod
import Derived.Test.YtamolakhpcofhaaXC1
import Derived.Test.YtamolakhpcofhaaXF
set_option linter.unusedSimpArgs false
namespace Go.Proofs.Ytamolakhpcofhaa
open Go Go.Eng Go.Am Go.Sq
open Go.Tl (mayL Wd okW okB bo)

set_option maxRecDepth 100000 in
/-- semigroup/sequential.finishes -/
theorem finishes_spec (w : World) {M : Nat} (S : Sv) (hS : Stays [] w (svm S)) (hv : S.sq.Ok M) : Calls Try.prog 33 #[svv S] w (fun e w' => ∃ i : List Nat × Nat × Nat × (Nat → Nat), FirstsI S.sq i.1 i.2.2.2 ∧ e = .returned (.tuple #[.slice (some ⟨i.2.1, 0, none⟩) S.rs.length S.rs.length, .slice (some ⟨i.2.2.1, 0, none⟩) S.rs.length S.rs.length]) ∧ Post [] [.row 3 1 (.slice (some ⟨i.2.1, 0, none⟩) S.rs.length S.rs.length) S.rs.length (i.1.map zn), .row 4 1 (.slice (some ⟨i.2.2.1, 0, none⟩) S.rs.length S.rs.length) S.rs.length ((coL S.sq).map bo)] w w') := by
 obtain ⟨hb1, hb2, hb3, hb4⟩ := hv.bnd
 obtain ⟨hlo, hle, hlf⟩ := hv.lens
 have hns : 0 < S.rs.length → S.na.isSome = true := fun h => hS.now.n.isSome (j := 0) (by rw [List.length_map]; exact h)
 have hos : 0 < S.os.length → S.oa.isSome = true := fun h => hS.now.o.isSome (j := 0) (by rw [List.length_map]; exact h)
 have hes : 0 < S.en.length → S.ea.isSome = true := fun h => hS.now.e.isSome (j := 0) (by rw [List.length_map]; exact h)
 have hfs : 0 < S.fi.length → S.fa.isSome = true := fun h => hS.now.f.isSome (j := 0) (by rw [List.length_map]; exact h)
 have hrs : ∀ q, q < S.rs.length → 0 < (S.rs.getD q rx0).xs.length → (S.rs.getD q rx0).a.isSome = true := fun q hq h => (hS.now.r _ (getDm hq)).isSome (j := 0) (by rw [List.length_map]; exact h)
 have hus : ∀ q, q < S.os.length → 0 < (S.os.getD q rx0).xs.length → (S.os.getD q rx0).a.isSome = true := fun q hq h => (hS.now.u _ (getDm hq)).isSome (j := 0) (by rw [List.length_map]; exact h)
 refine enter (args := [svv S]) [] 119 Try.func33 rfl rfl rfl ?_
 refine CT.seq (CT.region ?_)
 refine Wl.g rfl rfl (OpG.box (size := 7) rfl rfl rfl) ?_
 rintro b1 _
 refine Wl.q rfl rfl (OpQ.assign rfl) ?_
 refine Wl.q rfl rfl (OpQ.assign rfl) ?_
 refine Wl.nil (PX.then_n (CT.seq (CT.region ?_)))
 refine Wl.q rfl rfl (OpQ.fieldAddr zf30 rfl) ?_
 refine Wl.q rfl rfl (OpQ.loadF (b := b1) zf31 rfl (by repeat (first | exact Has.here | apply Has.there)) (by rfl)) ?_
 refine Wl.q rfl rfl (OpQ.len zf21 rfl) ?_
 refine Wl.g rfl rfl (OpG.make1 zf53 zf54 rfl rfl rfl rfl (by omega) (by omega)) ?_
 rintro b20 _
 refine Wl.q rfl rfl (OpQ.assign rfl) ?_
 refine Wl.nil (PX.then_n (CT.seq (CT.seq (CT.region ?_))))
 refine Wl.q rfl rfl (OpQ.fieldAddr zf30 rfl) ?_
 refine Wl.q rfl rfl (OpQ.loadF (b := b1) zf31 rfl (by repeat (first | exact Has.here | apply Has.there)) (by rfl)) ?_
 refine Wl.q rfl rfl (OpQ.len zf21 rfl) ?_
 refine Wl.q rfl rfl (OpQ.move rfl) ?_
 refine Wl.nil (PX.then_n (CT.block ?_))
 refine CT.as (fun _ h => h.nilfam S.rs.length (rchN 122 2 stv) ⟨2, rfl⟩) ?_
 refine CT.loop (ι := Nat × List (Rx (Nat × Nat))) (fun (q, rs) => q ≤ S.rs.length ∧ Bf S.sq q 0 rs) (fun (q, rs) => [(1, .pointer (some ⟨b1, 0, none⟩)), (4, .slice (some ⟨b20, 0, none⟩) S.rs.length S.rs.length), (22, .slice S.na S.rs.length S.nc), (23, .int .i64 ((S.rs.length : Nat) : Int)), (24, .int .i64 ((q : Nat) : Int))]) (fun (q, rs) => .row 120 1 (.slice (some ⟨b20, 0, none⟩) S.rs.length S.rs.length) S.rs.length (rs.map rxv) :: .row 30 7 (vb b1) 1 (svc S) :: rs.map (rchN 122 2 stv)) (fun (q, rs) => S.rs.length - q) (0, List.replicate S.rs.length rx0) ⟨Nat.zero_le _, by have := Bf.start S.sq; rwa [S.n_eq] at this⟩ ⟨rfl, rfl, rfl, rfl, rfl, trivial⟩ (.keep (row_eq (by rw [List.map_replicate]; rfl)) (HSub.refl _)) (fun ⟨q, rs⟩ ⟨hq, hbf⟩ K0 hK0 => ?_)
 dsimp only
 refine CT.seq (CT.region ?_)
 refine Wl.q rfl rfl (OpQ.lss rfl rfl) ?_
 refine Wl.nil (PX.then_n (CT.seq ?_))
 refine CT.cond rfl (fun h25 => ?_) (fun h25 => ?_)
 ·
  have h25 := of_decide_eq_true h25
  have hrl := hv.rlen (q := q) (by omega)
  have hol := hv.olen (q := q) (by omega)
  have hqn : q < S.sq.n := by rw [S.n_eq]; omega
  refine CT.skip (PX.then_n (CT.seq (CT.block (CT.seq (CT.region ?_)))))
  refine Wl.q rfl rfl (OpQ.move rfl) ?_
  refine Wl.q rfl rfl (OpQ.index1 zf21 zf32 rfl rfl (by omega) (hns (by omega))) ?_
  refine Wl.q rfl rfl (OpQ.loadG zf10 rfl (fun w hH => (hH.use hS).n) (getMap rxv S.rs rx0 (j := q) (by omega))) ?_
  refine Wl.q rfl rfl (OpQ.assign rfl) ?_
  refine Wl.q rfl rfl (OpQ.assign rfl) ?_
  refine Wl.nil (PX.then_n (CT.seq (CT.region ?_)))
  refine Wl.q rfl rfl (OpQ.move rfl) ?_
  refine Wl.q rfl rfl (OpQ.len zf0 rfl) ?_
  refine Wl.know 30 (v' := .int .i64 ((S.L : Nat) : Int)) rfl (congrArg (Value.int .i64) (by rw [hrl])) ?_
  refine Wl.q rfl rfl (OpQ.move rfl) ?_
  refine Wl.nil (PX.then_n (CT.block ?_))
  refine CT.loop (ι := Nat × List (Rx (Nat × Nat))) (fun (x, rs) => x ≤ S.L ∧ Bf S.sq q x rs) (fun (x, rs) => [(1, .pointer (some ⟨b1, 0, none⟩)), (4, .slice (some ⟨b20, 0, none⟩) S.rs.length S.rs.length), (22, .slice S.na S.rs.length S.nc), (23, .int .i64 ((S.rs.length : Nat) : Int)), (24, .int .i64 ((q : Nat) : Int)), (5, .int .i64 ((q : Nat) : Int)), (29, rxv (S.rs.getD q rx0)), (30, .int .i64 ((S.L : Nat) : Int)), (31, .int .i64 ((x : Nat) : Int))]) (fun (x, rs) => .row 120 1 (.slice (some ⟨b20, 0, none⟩) S.rs.length S.rs.length) S.rs.length (rs.map rxv) :: .row 30 7 (vb b1) 1 (svc S) :: rs.map (rchN 122 2 stv)) (fun (x, rs) => S.L - x) (0, rs) ⟨Nat.zero_le _, hbf⟩ ⟨rfl, rfl, rfl, rfl, rfl, rfl, rfl, rfl, rfl, trivial⟩ (HSub.refl _) (fun ⟨x, rs⟩ ⟨hx, hbf⟩ K1 hK1 => ?_)
  dsimp only
  refine CT.seq (CT.region ?_)
  refine Wl.q rfl rfl (OpQ.lss rfl rfl) ?_
  refine Wl.nil (PX.then_n (CT.seq ?_))
  refine CT.cond rfl (fun h32 => ?_) (fun h32 => ?_)
  ·
   have h32 := of_decide_eq_true h32
   refine CT.skip (PX.then_n (CT.seq (CT.block (CT.seq (CT.region ?_)))))
   refine Wl.q rfl rfl (OpQ.move rfl) ?_
   refine Wl.q rfl rfl (OpQ.index1 zf0 zf1 rfl rfl (by omega) (hrs q (by omega) (by omega))) ?_
   refine Wl.q rfl rfl (OpQ.loadG zf8 rfl (fun w hH => (hH.use hS).r _ (getDm (show q < S.rs.length by omega))) (getMap zo (S.rs.getD q rx0).xs none (j := x) (by omega))) ?_
   refine Wl.know 35 (v' := zo (S.sq.to q x)) rfl (congrArg zo (S.to_eq q x).symm) ?_
   refine Wl.q rfl rfl (OpQ.assign rfl) ?_
   refine Wl.q rfl rfl (OpQ.assign rfl) ?_
   refine Wl.nil (PX.then_n (CT.seq (CT.region ?_)))
   refine Wl.q rfl rfl (OpQ.move rfl) ?_
   refine Wl.q rfl rfl (OpQ.neq rfl rfl) ?_
   refine Wl.nil (PX.then_n ?_)
   refine CT.cond rfl (fun h37 => ?_) (fun h37 => ?_)
   ·
    have h37 := of_nd_t h37
    obtain ⟨r, hto⟩ := oi_some h37
    have hr := hv.lt q x r hqn (show x < S.sq.L by show x < S.L; omega) hto
    have hrl2 : r < rs.length := by rw [hbf.len]; exact hr
    have hrn : r < S.rs.length := by rw [← S.n_eq]; exact hr
    have hbl : (rs.getD r rx0).xs.length ≤ 512 * 6 + 6 := by
     rw [hbf.at_ r hr]
     exact Nat.le_trans (bef_len _ _ _ _) (Nat.add_le_add (Nat.mul_le_mul (by omega) hb2) (by omega))
    refine CT.know 8 (v' := zn r) rfl (by rw [hto]; rfl) ?_
    refine CT.region ?_
    refine Wl.q rfl rfl (OpQ.move rfl) ?_
    refine Wl.q rfl rfl (OpQ.move rfl) ?_
    refine Wl.q rfl rfl (OpQ.move rfl) ?_
    refine Wl.q rfl rfl (OpQ.move rfl) ?_
    refine Wl.q rfl rfl (OpQ.index1 zf53 zf52 rfl rfl (by omega) rfl) ?_
    refine Wl.q rfl rfl (OpQ.loadRow zf55 rfl .here (getMap rxv rs rx0 (j := r) hrl2)) ?_
    refine Wl.q rfl rfl (OpQ.move rfl) ?_
    refine Wl.q rfl rfl (OpQ.move rfl) ?_
    refine Wl.q rfl rfl (OpQ.build (cells := #[.int .i64 ((q : Nat) : Int), .int .i64 ((x : Nat) : Int)]) zf56 rfl rfl) ?_
    refine Wl.g rfl rfl (OpG.litS1 zf50 zf51 rfl (by decide) rfl) ?_
    rintro b47 _
    refine Wl.g rfl rfl (OpG.append zf50 zf51 (by rfl) (by decide) rfl rfl (p := 3 + r) (fam_get (A := [.row 122 2 (vb b47) 1 [.int .i64 ((q : Nat) : Int), .int .i64 ((x : Nat) : Int)], .row 120 1 (.slice (some ⟨b20, 0, none⟩) S.rs.length S.rs.length) S.rs.length (rs.map rxv), .row 30 7 (vb b1) 1 (svc S)]) (ch := (rchN 122 2 stv)) (j := r) hrl2 rfl) (fun w hH => hH.rd .here) ⟨rfl, (by simp [Value.oneCell']), (by omega), (by omega)⟩ (nm := ((rs.getD r rx0).xs ++ [(q, x)]).length) (by rw [List.length_append]; rfl) (all := ((rs.getD r rx0).xs ++ [(q, x)]).flatMap stv) (by rw [List.flatMap_append]; rfl)) ?_
    rintro ⟨a48, c48⟩ h48
    refine Wl.as (fun _ h => HOk.famPut (A := [.row 122 2 (vb b47) 1 [.int .i64 ((q : Nat) : Int), .int .i64 ((x : Nat) : Int)], .row 120 1 (.slice (some ⟨b20, 0, none⟩) S.rs.length S.rs.length) S.rs.length (rs.map rxv), .row 30 7 (vb b1) 1 (svc S)]) (ch := (rchN 122 2 stv)) (rs := rs) (j := r) (⟨a48, c48, (rs.getD r rx0).xs ++ [(q, x)]⟩ : Rx (Nat × Nat)) h rfl rfl rfl) ?_
    refine Wl.q rfl rfl (OpQ.index1 zf53 zf52 rfl rfl (by omega) rfl) ?_
    refine Wl.g rfl rfl (OpG.storeRow (a := some ⟨b20, 0, none⟩) zf52 rfl rfl rfl (by repeat (first | exact Upd.here | apply Upd.there)) (by rw [List.length_map]; exact hrl2)) ?_
    rintro _ _
    refine Wl.nil (PX.block_n (PX.then_n (CT.region ?_)))
    refine Wl.q rfl rfl (OpQ.add rfl rfl (by omega)) ?_
    refine Wl.q rfl rfl (OpQ.move rfl) ?_
    refine Wl.nil ?_
    exact PX.loop hK1 (x + 1, rs.set r (⟨a48, c48, (rs.getD r rx0).xs ++ [(q, x)]⟩ : Rx (Nat × Nat))) ⟨by omega, hbf.put hto hr rfl⟩ (show S.L - (x + 1) < S.L - x by omega) ⟨rfl, rfl, rfl, rfl, rfl, rfl, rfl, rfl, rfl, trivial⟩ (.drop (.keep (row_eq List.map_set) (HSub.refl _)))
   ·
    have h37 := of_nd_f h37
    refine CT.skip (PX.block_n (PX.then_n (CT.region ?_)))
    refine Wl.q rfl rfl (OpQ.add rfl rfl (by omega)) ?_
    refine Wl.q rfl rfl (OpQ.move rfl) ?_
    refine Wl.nil ?_
    exact PX.loop hK1 (x + 1, rs) ⟨by omega, hbf.keep (oi_neg.1 h37)⟩ (show S.L - (x + 1) < S.L - x by omega) ⟨rfl, rfl, rfl, rfl, rfl, rfl, rfl, rfl, rfl, trivial⟩ (HSub.refl _)
  ·
   have h32 := of_decide_eq_false h32
   refine CT.exit (PX.then_x (PX.then_x (PX.block_x (PX.block_n (PX.then_n (CT.region ?_))))))
   refine Wl.q rfl rfl (OpQ.add rfl rfl (by omega)) ?_
   refine Wl.q rfl rfl (OpQ.move rfl) ?_
   refine Wl.nil ?_
   exact PX.loop hK0 (q + 1, rs) ⟨by omega, by have := hbf; rw [show x = S.sq.L from (show x = S.L by omega)] at this; exact this.row⟩ (show S.rs.length - (q + 1) < S.rs.length - q by omega) ⟨rfl, rfl, rfl, rfl, rfl, trivial⟩ (HSub.refl _)
 ·
  have h25 := of_decide_eq_false h25
  obtain rfl : q = S.rs.length := by omega
  refine CT.as (fun _ h => HOk.befB (A := [.row 30 7 (vb b1) 1 (svc S)]) h) ?_
  generalize blks _ = bs
  have hbn : ∀ p ∈ ([] : List Nat), True := fun _ _ => trivial
  have hbe : ∀ r, r < S.sq.n → (rs.getD r rx0).xs = bef S.sq S.sq.n 0 r := fun r hr => by rw [hbf.at_ r hr, S.n_eq]
  have hrsl : rs.length = S.rs.length := by rw [hbf.len, S.n_eq]
  refine CT.exit (PX.then_x (PX.then_x (PX.block_x (PX.then_n (CT.seq (CT.region ?_))))))
  refine Wl.q rfl rfl (OpQ.fieldAddr zf30 rfl) ?_
  refine Wl.q rfl rfl (OpQ.loadF (b := b1) zf31 rfl (by repeat (first | exact Has.here | apply Has.there)) (by rfl)) ?_
  refine Wl.q rfl rfl (OpQ.len zf21 rfl) ?_
  refine Wl.g rfl rfl (OpG.make1 zf0 zf16 rfl rfl rfl rfl (by omega) (by omega)) ?_
  rintro b55 _
  refine Wl.q rfl rfl (OpQ.assign rfl) ?_
  refine Wl.nil (PX.then_n (CT.seq (CT.region ?_)))
  refine Wl.q rfl rfl (OpQ.fieldAddr zf30 rfl) ?_
  refine Wl.q rfl rfl (OpQ.loadF (b := b1) zf31 rfl (by repeat (first | exact Has.here | apply Has.there)) (by rfl)) ?_
  refine Wl.q rfl rfl (OpQ.len zf21 rfl) ?_
  refine Wl.g rfl rfl (OpG.make1 zf25 zf26 rfl rfl rfl rfl (by omega) (by omega)) ?_
  rintro b59 _
  refine Wl.q rfl rfl (OpQ.assign rfl) ?_
  refine Wl.nil (PX.then_n (CT.seq (CT.region ?_)))
  refine Wl.q rfl rfl (OpQ.assign rfl) ?_
  refine Wl.nil (PX.then_n (CT.seq (CT.seq (CT.region ?_))))
  refine Wl.q rfl rfl (OpQ.fieldAddr zf42 rfl) ?_
  refine Wl.q rfl rfl (OpQ.loadF (b := b1) zf43 rfl (by repeat (first | exact Has.here | apply Has.there)) (by rfl)) ?_
  refine Wl.q rfl rfl (OpQ.len zf25 rfl) ?_
  refine Wl.q rfl rfl (OpQ.move rfl) ?_
  refine Wl.nil (PX.then_n (CT.block ?_))
  refine CT.nilrow 3 1 ?_
  refine CT.loop (ι := Nat × Option Addr × Nat) (fun (q, a', c') => q ≤ S.rs.length) (fun (q, a', c') => [(4, .slice (some ⟨b20, 0, none⟩) S.rs.length S.rs.length), (9, .slice (some ⟨b55, 0, none⟩) S.rs.length S.rs.length), (10, .slice (some ⟨b59, 0, none⟩) S.rs.length S.rs.length), (11, .slice a' ((List.range q).filter S.sq.e).length c'), (61, .slice S.ea S.en.length S.ec), (62, .int .i64 ((S.en.length : Nat) : Int)), (63, .int .i64 ((q : Nat) : Int))]) (fun (q, a', c') => [.row 3 1 (.slice a' ((List.range q).filter S.sq.e).length c') ((List.range q).filter S.sq.e).length (((List.range q).filter S.sq.e).map zn), .row 4 1 (.slice (some ⟨b59, 0, none⟩) S.rs.length S.rs.length) S.rs.length ((eL S.rs.length ((List.range q).filter S.sq.e)).map bo), .row 3 1 (.slice (some ⟨b55, 0, none⟩) S.rs.length S.rs.length) S.rs.length (((List.replicate S.rs.length 0)).map zn), .frag bs (befM b20 rs), .row 30 7 (vb b1) 1 (svc S)]) (fun (q, a', c') => S.rs.length - q) (0, none, 0) (Nat.zero_le _) ⟨rfl, rfl, rfl, rfl, rfl, rfl, rfl, trivial⟩ (.keep rfl (.keep (row_eq (eL_nil _)) (.keep (row_eq (by rw [List.map_replicate]; rfl)) (HSub.refl _)))) (fun ⟨q, a', c'⟩ hq K2 hK2 => ?_)
  dsimp only
  refine CT.seq (CT.region ?_)
  refine Wl.q rfl rfl (OpQ.lss rfl rfl) ?_
  refine Wl.nil (PX.then_n (CT.seq ?_))
  refine CT.cond rfl (fun h64 => ?_) (fun h64 => ?_)
  ·
   have h64 := of_decide_eq_true h64
   refine CT.skip (PX.then_n (CT.seq (CT.block (CT.seq (CT.region ?_)))))
   refine Wl.q rfl rfl (OpQ.move rfl) ?_
   refine Wl.q rfl rfl (OpQ.index1 zf25 zf44 rfl rfl (by omega) (hes (by omega))) ?_
   refine Wl.q rfl rfl (OpQ.loadG zf45 rfl (fun w hH => (hH.use hS).e) (getMap bo S.en false (j := q) (by omega))) ?_
   refine Wl.know 67 (v' := .bool (S.sq.e q)) rfl rfl ?_
   refine Wl.q rfl rfl (OpQ.assign rfl) ?_
   refine Wl.q rfl rfl (OpQ.assign rfl) ?_
   refine Wl.nil (PX.then_n (CT.seq (CT.region ?_)))
   refine Wl.q rfl rfl (OpQ.move rfl) ?_
   refine Wl.nil (PX.then_n ?_)
   refine CT.cond rfl (fun h68 => ?_) (fun h68 => ?_)
   ·
    have he : S.sq.e q = true := h68
    have hql : ((List.range q).filter S.sq.e).length ≤ q := by have := List.length_filter_le S.sq.e (List.range q); rwa [List.length_range] at this
    refine CT.seq (CT.region ?_)
    refine Wl.q rfl rfl (OpQ.move rfl) ?_
    refine Wl.q rfl rfl (OpQ.move rfl) ?_
    refine Wl.q rfl rfl (OpQ.index1 zf25 zf44 rfl rfl (by omega) rfl) ?_
    refine Wl.g rfl rfl (OpG.storeRow (a := some ⟨b59, 0, none⟩) zf44 rfl rfl rfl (by repeat (first | exact Upd.here | apply Upd.there)) (by rw [List.length_map, eL_len]; omega)) ?_
    rintro _ _
    refine Wl.nil (PX.then_n (CT.region ?_))
    refine Wl.q rfl rfl (OpQ.move rfl) ?_
    refine Wl.q rfl rfl (OpQ.move rfl) ?_
    refine Wl.g rfl rfl (OpG.lit1 zf0 zf16 rfl rfl rfl) ?_
    rintro b74 _
    refine Wl.g rfl rfl (OpG.append zf0 zf16 (by rfl) (by decide) rfl rfl (p := 1) rfl (fun w hH => hH.rd .here) ⟨rfl, (by simp [Value.oneCell']), (by omega), (by omega)⟩ (nm := ((List.range q).filter S.sq.e ++ [q]).length) (by simp) (all := ((List.range q).filter S.sq.e ++ [q]).map zn) (by simp)) ?_
    rintro ⟨a75, c75⟩ h75
    refine Wl.q rfl rfl (OpQ.assign rfl) ?_
    refine Wl.nil (PX.block_n (PX.then_n (CT.region ?_)))
    refine Wl.q rfl rfl (OpQ.add rfl rfl (by omega)) ?_
    refine Wl.q rfl rfl (OpQ.move rfl) ?_
    refine Wl.nil ?_
    exact PX.loop hK2 (q + 1, a75, c75) (by omega) (show S.rs.length - (q + 1) < S.rs.length - q by omega) ⟨rfl, rfl, rfl, (lkV rfl (by rw [filt_t he])), rfl, rfl, rfl, trivial⟩ (by dsimp only; rw [filt_t he, ← eL_put]; exact .drop (HSub.refl _))
   ·
    have he : S.sq.e q = false := h68
    refine CT.skip (PX.block_n (PX.then_n (CT.region ?_)))
    refine Wl.q rfl rfl (OpQ.add rfl rfl (by omega)) ?_
    refine Wl.q rfl rfl (OpQ.move rfl) ?_
    refine Wl.nil ?_
    exact PX.loop hK2 (q + 1, a', c') (by omega) (show S.rs.length - (q + 1) < S.rs.length - q by omega) ⟨rfl, rfl, rfl, (lkV rfl (by rw [filt_f he])), rfl, rfl, rfl, trivial⟩ (by dsimp only; rw [filt_f he]; exact HSub.refl _)
  ·
   have h64 := of_decide_eq_false h64
   obtain rfl : q = S.rs.length := by omega
   refine CT.exit (PX.then_x (PX.then_x (PX.block_x (PX.then_n (CT.seq (CT.seq (CT.region ?_)))))))
   refine Wl.q rfl rfl (OpQ.assign rfl) ?_
   refine Wl.nil (PX.then_n (CT.block ?_))
   refine CT.loop (ι := Nat × List Nat × List Nat × Option Addr × Nat) (fun (i, Q, F, a', c') => FinI S.sq Q F i) (fun (i, Q, F, a', c') => [(4, .slice (some ⟨b20, 0, none⟩) S.rs.length S.rs.length), (9, .slice (some ⟨b55, 0, none⟩) S.rs.length S.rs.length), (10, .slice (some ⟨b59, 0, none⟩) S.rs.length S.rs.length), (11, .slice a' (Q).length c'), (14, .int .i64 ((i : Nat) : Int))]) (fun (i, Q, F, a', c') => [.row 3 1 (.slice a' (Q).length c') (Q).length ((Q).map zn), .row 4 1 (.slice (some ⟨b59, 0, none⟩) S.rs.length S.rs.length) S.rs.length ((eL S.rs.length (Q)).map bo), .row 3 1 (.slice (some ⟨b55, 0, none⟩) S.rs.length S.rs.length) S.rs.length ((F).map zn), .frag bs (befM b20 rs), .row 30 7 (vb b1) 1 (svc S)]) (fun (i, Q, F, a', c') => S.rs.length - i) (0, (List.range S.rs.length).filter S.sq.e, (List.replicate S.rs.length 0), a', c') (by have := FinI.start (d := S.sq) (F := (List.replicate S.rs.length 0)) (by rw [List.length_replicate, S.n_eq]); rwa [S.n_eq] at this) ⟨rfl, rfl, rfl, rfl, rfl, trivial⟩ (HSub.refl _) (fun ⟨i, Q, F, a', c'⟩ hf K3 hK3 => ?_)
   dsimp only
   refine CT.fact (p := 0 < Q.length → a'.isSome = true) (fun w hH h => (hH.rd .here).isSome (j := 0) (by rw [List.length_map]; exact h)) (fun hqa => ?_)
   have hQl : Q.length ≤ S.rs.length := by have := hf.le; rwa [S.n_eq] at this
   refine CT.seq (CT.seq (CT.region ?_))
   refine Wl.q rfl rfl (OpQ.move rfl) ?_
   refine Wl.q rfl rfl (OpQ.move rfl) ?_
   refine Wl.q rfl rfl (OpQ.len zf0 rfl) ?_
   refine Wl.q rfl rfl (OpQ.lss rfl rfl) ?_
   refine Wl.nil (PX.then_n ?_)
   refine CT.cond rfl (fun h80 => ?_) (fun h80 => ?_)
   ·
    have h80 := of_decide_eq_true h80
    have hi : i < Q.length := by omega
    have hqin : Q.getD i 0 < S.sq.n := hf.lt _ (getDm hi)
    have hqin2 : Q.getD i 0 < S.rs.length := by rw [← S.n_eq]; exact hqin
    have hBl : (rs.getD (Q.getD i 0) rx0).xs.length ≤ 512 * 6 + 6 := by
     rw [hbe _ hqin]
     exact Nat.le_trans (bef_len _ _ _ _) (Nat.add_le_add (Nat.mul_le_mul (by rw [S.n_eq]; omega) hb2) (by omega))
    refine CT.fact (p := 0 < (rs.getD (Q.getD i 0) rx0).xs.length → (rs.getD (Q.getD i 0) rx0).a.isSome = true) (fun w hH h => ((hH.fragp (.there (.there (.there .here)))).2 _ (getDm (by omega))).isSome (j := 0) (by rw [flat_len stv_len]; omega)) (fun hba => ?_)
    refine CT.skip (PX.then_n (CT.seq (CT.block (CT.seq (CT.region ?_)))))
    refine Wl.q rfl rfl (OpQ.move rfl) ?_
    refine Wl.q rfl rfl (OpQ.move rfl) ?_
    refine Wl.q rfl rfl (OpQ.move rfl) ?_
    refine Wl.q rfl rfl (OpQ.index1 zf0 zf1 rfl rfl (by omega) (hqa (by omega))) ?_
    refine Wl.q rfl rfl (OpQ.loadRow zf8 rfl .here (getMap zn Q 0 (j := i) hi)) ?_
    refine Wl.q rfl rfl (OpQ.index1 zf53 zf52 rfl rfl (by omega) rfl) ?_
    refine Wl.q rfl rfl (OpQ.loadG zf55 rfl (fun w hH => (hH.fragp (.there (.there (.there .here)))).1) (getMap rxv rs rx0 (j := Q.getD i 0) (by omega))) ?_
    refine Wl.q rfl rfl (OpQ.len zf50 rfl) ?_
    refine Wl.q rfl rfl (OpQ.move rfl) ?_
    refine Wl.nil (PX.then_n (CT.block ?_))
    refine CT.loop (ι := Nat × List Nat × List Nat × Option Addr × Nat) (fun (k, Q2, F, a', c') => k ≤ (rs.getD (Q.getD i 0) rx0).xs.length ∧ FinI S.sq Q2 F i ∧ i < Q2.length ∧ Q.getD i 0 = Q2.getD i 0 ∧ ∀ j, j < k → ((rs.getD (Q.getD i 0) rx0).xs.getD j (0, 0)).1 ∈ Q2) (fun (k, Q2, F, a', c') => [(4, .slice (some ⟨b20, 0, none⟩) S.rs.length S.rs.length), (9, .slice (some ⟨b55, 0, none⟩) S.rs.length S.rs.length), (10, .slice (some ⟨b59, 0, none⟩) S.rs.length S.rs.length), (11, .slice a' (Q2).length c'), (14, .int .i64 ((i : Nat) : Int)), (89, rxv (rs.getD (Q.getD i 0) rx0)), (90, .int .i64 (((rs.getD (Q.getD i 0) rx0).xs.length : Nat) : Int)), (91, .int .i64 ((k : Nat) : Int))]) (fun (k, Q2, F, a', c') => [.row 3 1 (.slice a' (Q2).length c') (Q2).length ((Q2).map zn), .row 4 1 (.slice (some ⟨b59, 0, none⟩) S.rs.length S.rs.length) S.rs.length ((eL S.rs.length (Q2)).map bo), .row 3 1 (.slice (some ⟨b55, 0, none⟩) S.rs.length S.rs.length) S.rs.length ((F).map zn), .frag bs (befM b20 rs), .row 30 7 (vb b1) 1 (svc S)]) (fun (k, Q2, F, a', c') => (rs.getD (Q.getD i 0) rx0).xs.length - k) (0, Q, F, a', c') ⟨Nat.zero_le _, hf, hi, rfl, fun j hj => by omega⟩ ⟨rfl, rfl, rfl, rfl, rfl, rfl, rfl, rfl, trivial⟩ (HSub.refl _) (fun ⟨k, Q2, F, a', c'⟩ ⟨hk, hf, hi, hqi, hcur⟩ K4 hK4 => ?_)
    dsimp only
    refine CT.seq (CT.region ?_)
    refine Wl.q rfl rfl (OpQ.lss rfl rfl) ?_
    refine Wl.nil (PX.then_n (CT.seq ?_))
    refine CT.cond rfl (fun h92 => ?_) (fun h92 => ?_)
    ·
     have h92 := of_decide_eq_true h92
     have hpb : ((rs.getD (Q.getD i 0) rx0).xs.getD k (0, 0)) ∈ bef S.sq S.sq.n 0 (Q.getD i 0) := by rw [← hbe _ hqin]; exact getDm (by omega)
     have hpn : ((rs.getD (Q.getD i 0) rx0).xs.getD k (0, 0)).1 < S.rs.length := by have := (bef_mem.1 hpb).1.1; rwa [S.n_eq] at this
     have hQl2 : Q2.length ≤ S.rs.length := by have := hf.le; rwa [S.n_eq] at this
     have hFl : F.length = S.rs.length := by rw [hf.fl, S.n_eq]
     refine CT.skip (PX.then_n (CT.seq (CT.block (CT.seq (CT.region ?_)))))
     refine Wl.q rfl rfl (OpQ.index zf50 zf57 rfl rfl (by omega) (hba (by omega))) ?_
     refine Wl.q rfl rfl (OpQ.loadAggG (cs := stv ((rs.getD (Q.getD i 0) rx0).xs.getD k (0, 0))) zf58 zf57 rfl (fun w hH => (hH.fragp (.there (.there (.there .here)))).2 (rs.getD (Q.getD i 0) rx0) (getDm (by omega))) (flat_cells stv_len (rs.getD (Q.getD i 0) rx0).xs (0, 0) (by omega))) ?_
     refine Wl.g rfl rfl (OpG.alloc (zs := [.int .i64 0, .int .i64 0]) zf51 rfl rfl) ?_
     rintro b16 _
     refine Wl.g rfl rfl (OpG.storeV (b := b16) zf57 rfl rfl rfl rfl (by repeat (first | exact Upd.here | apply Upd.there))) ?_
     rintro _ _
     refine Wl.nil (PX.then_n (CT.seq (CT.region ?_)))
     refine Wl.q rfl rfl (OpQ.move rfl) ?_
     refine Wl.q rfl rfl (OpQ.fieldAddr zf59 rfl) ?_
     refine Wl.q rfl rfl (OpQ.loadF (b := b16) zf8 rfl (by repeat (first | exact Has.here | apply Has.there)) (by rfl)) ?_
     refine Wl.q rfl rfl (OpQ.index1 zf25 zf44 rfl rfl (by omega) rfl) ?_
     refine Wl.q rfl rfl (OpQ.loadRow zf45 rfl (.there (.there .here)) (getMap bo (eL S.rs.length Q2) false (j := ((rs.getD (Q.getD i 0) rx0).xs.getD k (0, 0)).1) (by rw [eL_len]; exact hpn))) ?_
     refine Wl.know 99 (v' := .bool (decide (((rs.getD (Q.getD i 0) rx0).xs.getD k (0, 0)).1 ∈ Q2))) rfl (congrArg Value.bool (eL_get hpn)) ?_
     refine Wl.q rfl rfl (OpQ.not rfl) ?_
     refine Wl.nil (PX.then_n ?_)
     refine CT.cond rfl (fun h100 => ?_) (fun h100 => ?_)
     ·
      have hnq : ((rs.getD (Q.getD i 0) rx0).xs.getD k (0, 0)).1 ∉ Q2 := by simpa using h100
      refine CT.seq (CT.region ?_)
      refine Wl.q rfl rfl (OpQ.move rfl) ?_
      refine Wl.q rfl rfl (OpQ.fieldAddr zf59 rfl) ?_
      refine Wl.q rfl rfl (OpQ.loadF (b := b16) zf8 rfl (by repeat (first | exact Has.here | apply Has.there)) (by rfl)) ?_
      refine Wl.q rfl rfl (OpQ.index1 zf25 zf44 rfl rfl (by omega) rfl) ?_
      refine Wl.g rfl rfl (OpG.storeRow (a := some ⟨b59, 0, none⟩) zf44 rfl rfl rfl (by repeat (first | exact Upd.here | apply Upd.there)) (by rw [List.length_map, eL_len]; exact hpn)) ?_
      rintro _ _
      refine Wl.nil (PX.then_n (CT.seq (CT.region ?_)))
      refine Wl.q rfl rfl (OpQ.move rfl) ?_
      refine Wl.q rfl rfl (OpQ.fieldAddr zf59 rfl) ?_
      refine Wl.q rfl rfl (OpQ.loadF (b := b16) zf8 rfl (by repeat (first | exact Has.here | apply Has.there)) (by rfl)) ?_
      refine Wl.q rfl rfl (OpQ.fieldAddr zf60 rfl) ?_
      refine Wl.q rfl rfl (OpQ.loadF (b := b16) zf8 rfl (by repeat (first | exact Has.here | apply Has.there)) (by rfl)) ?_
      refine Wl.q rfl rfl (OpQ.index1 zf0 zf1 rfl rfl (by omega) rfl) ?_
      refine Wl.g rfl rfl (OpG.storeRow (a := some ⟨b55, 0, none⟩) zf1 rfl rfl rfl (by repeat (first | exact Upd.here | apply Upd.there)) (by rw [List.length_map, hFl]; exact hpn)) ?_
      rintro _ _
      refine Wl.nil (PX.then_n (CT.region ?_))
      refine Wl.q rfl rfl (OpQ.move rfl) ?_
      refine Wl.q rfl rfl (OpQ.fieldAddr zf59 rfl) ?_
      refine Wl.q rfl rfl (OpQ.loadF (b := b16) zf8 rfl (by repeat (first | exact Has.here | apply Has.there)) (by rfl)) ?_
      refine Wl.g rfl rfl (OpG.lit1 zf0 zf16 rfl rfl rfl) ?_
      rintro b114 _
      refine Wl.g rfl rfl (OpG.append zf0 zf16 (by rfl) (by decide) rfl rfl (p := 2) rfl (fun w hH => hH.rd .here) ⟨rfl, (by simp [Value.oneCell']), (by omega), (by omega)⟩ (nm := (Q2 ++ [((rs.getD (Q.getD i 0) rx0).xs.getD k (0, 0)).1]).length) (by simp) (all := (Q2 ++ [((rs.getD (Q.getD i 0) rx0).xs.getD k (0, 0)).1]).map zn) (by simp)) ?_
      rintro ⟨a115, c115⟩ h115
      refine Wl.q rfl rfl (OpQ.assign rfl) ?_
      refine Wl.nil (PX.block_n (PX.then_n (CT.region ?_)))
      refine Wl.q rfl rfl (OpQ.add rfl rfl (by omega)) ?_
      refine Wl.q rfl rfl (OpQ.move rfl) ?_
      refine Wl.nil ?_
      refine PX.as (fun _ h => h.take (.cons (.there (.there .here)) (.cons (.there (.there .here)) (.cons (.there (.there .here)) (.cons (.there (.there .here)) (.cons (.there (.there .here)) .nil)))))) ?_
      exact PX.loop hK4 (k + 1, Q2 ++ [((rs.getD (Q.getD i 0) rx0).xs.getD k (0, 0)).1], F.set ((rs.getD (Q.getD i 0) rx0).xs.getD k (0, 0)).1 ((rs.getD (Q.getD i 0) rx0).xs.getD k (0, 0)).2, a115, c115) ⟨by omega, hf.put hi hnq (by rw [← hqi]; exact hpb), by rw [List.length_append]; omega, by rw [hqi]; exact (getD_app hi).symm, fun j hj => by rcases Nat.lt_or_ge j k with h1 | h1; exact List.mem_append_left _ (hcur j h1); obtain rfl : j = k := (by omega); exact List.mem_append_right _ List.mem_cons_self⟩ (show (rs.getD (Q.getD i 0) rx0).xs.length - (k + 1) < (rs.getD (Q.getD i 0) rx0).xs.length - k by omega) ⟨rfl, rfl, rfl, (lkV rfl (by rw [List.length_append])), rfl, rfl, rfl, rfl, trivial⟩ (by dsimp only; rw [← eL_put, List.map_set, List.length_append]; exact HSub.refl _)
     ·
      have hin : ((rs.getD (Q.getD i 0) rx0).xs.getD k (0, 0)).1 ∈ Q2 := by simpa using h100
      refine CT.skip (PX.block_n (PX.then_n (CT.region ?_)))
      refine Wl.q rfl rfl (OpQ.add rfl rfl (by omega)) ?_
      refine Wl.q rfl rfl (OpQ.move rfl) ?_
      refine Wl.nil ?_
      refine PX.as (fun _ h => h.take (.cons (.there .here) (.cons (.there .here) (.cons (.there .here) (.cons (.there .here) (.cons (.there .here) .nil)))))) ?_
      exact PX.loop hK4 (k + 1, Q2, F, a', c') ⟨by omega, hf, hi, hqi, fun j hj => by rcases Nat.lt_or_ge j k with h1 | h1; exact hcur j h1; obtain rfl : j = k := (by omega); exact hin⟩ (show (rs.getD (Q.getD i 0) rx0).xs.length - (k + 1) < (rs.getD (Q.getD i 0) rx0).xs.length - k by omega) ⟨rfl, rfl, rfl, rfl, rfl, rfl, rfl, rfl, trivial⟩ (HSub.refl _)
    ·
     have h92 := of_decide_eq_false h92
     refine CT.exit (PX.then_x (PX.then_x (PX.block_x (PX.block_n (PX.then_n (CT.region ?_))))))
     refine Wl.q rfl rfl (OpQ.move rfl) ?_
     refine Wl.q rfl rfl (OpQ.add rfl rfl (by omega)) ?_
     refine Wl.q rfl rfl (OpQ.assign rfl) ?_
     refine Wl.nil ?_
     exact PX.loop hK3 (i + 1, Q2, F, a', c') (hf.next hi (fun p hp => by rw [← hqi, ← hbe _ hqin] at hp; obtain ⟨j, hj, rfl⟩ := List.mem_iff_getElem.1 hp; have := hcur j (by omega); rwa [List.getD_eq_getElem?_getD, List.getElem?_eq_getElem hj] at this)) (show S.rs.length - (i + 1) < S.rs.length - i by omega) ⟨rfl, rfl, rfl, rfl, rfl, trivial⟩ (HSub.refl _)
   ·
    have h80 := of_decide_eq_false h80
    have hend : Q.length ≤ i := by omega
    refine CT.exit (PX.then_x (PX.then_x (PX.block_x (PX.then_n (CT.seq (CT.region ?_))))))
    refine Wl.q rfl rfl (OpQ.move rfl) ?_
    refine Wl.q rfl rfl (OpQ.move rfl) ?_
    refine Wl.q rfl rfl (OpQ.assign rfl) ?_
    refine Wl.q rfl rfl (OpQ.assign rfl) ?_
    refine Wl.nil (PX.then_n (CT.ret ?_))
    refine PX.ret2 rfl rfl rfl (fun w' hH => ?_)
    have hE : eL S.rs.length Q = coL S.sq := by rw [← S.n_eq]; exact hf.eL hv.fit hend
    exact ⟨(F, b55, b59, fun q => Q.idxOf q), hf.firsts hv.fit hend, rfl, (hH.take (.cons (.there (.there .here)) (.cons (.there .here) .nil))).post.conv (.keep rfl (.keep (row_eq (by rw [hE])) .nil))⟩

end Go.Proofs.Ytamolakhpcofhaa

