/-
  What functions of the program compute, each by its walk. Conditions: those that each theorem names.
-/
import Derived.Test.YtamolakhpcofhaaXE8
import Derived.Test.YtamolakhpcofhaaXF
set_option linter.unusedSimpArgs false
namespace Go.Proofs.Ytamolakhpcofhaa
open Go Go.Eng Go.Am Go.Sq
open Go.Tl (mayL Wd okW okB bo)

set_option maxRecDepth 100000 in
set_option maxHeartbeats 1000000 in
/-- semigroup/sequential.prefixes -/
theorem prefixes_spec (w : World) (S : Sv) (hS : Stays [] w (svm S)) (hv : S.sq.Ok 4096) (hall : ∀ r, r < S.sq.n → S.sq.tr.co S.L r = true) : Calls Try.prog 34 #[svv S] w (fun e w' => ∃ i : List Wd × Nat, S.sq.Pf i.1 ∧ e = .returned (.slice (some ⟨i.2, 0, none⟩) S.rs.length S.rs.length) ∧ Post [] [.row 9 1 (.slice (some ⟨i.2, 0, none⟩) S.rs.length S.rs.length) S.rs.length (i.1.map sv)] w w') := by
 obtain ⟨hb1, hb2, hb3, hb4⟩ := hv.bnd
 obtain ⟨hlo, hle, hlf⟩ := hv.lens
 have hns : 0 < S.rs.length → S.na.isSome = true := fun h => hS.now.n.isSome (j := 0) (by rw [List.length_map]; exact h)
 have hos : 0 < S.os.length → S.oa.isSome = true := fun h => hS.now.o.isSome (j := 0) (by rw [List.length_map]; exact h)
 have hes : 0 < S.en.length → S.ea.isSome = true := fun h => hS.now.e.isSome (j := 0) (by rw [List.length_map]; exact h)
 have hfs : 0 < S.fi.length → S.fa.isSome = true := fun h => hS.now.f.isSome (j := 0) (by rw [List.length_map]; exact h)
 have hrs : ∀ q, q < S.rs.length → 0 < (S.rs.getD q rx0).xs.length → (S.rs.getD q rx0).a.isSome = true := fun q hq h => (hS.now.r _ (getDm hq)).isSome (j := 0) (by rw [List.length_map]; exact h)
 have hus : ∀ q, q < S.os.length → 0 < (S.os.getD q rx0).xs.length → (S.os.getD q rx0).a.isSome = true := fun q hq h => (hS.now.u _ (getDm hq)).isSome (j := 0) (by rw [List.length_map]; exact h)
 have hnn : S.sq.n = S.rs.length := S.n_eq
 refine enter (args := [svv S]) [] 133 Try.func34 rfl rfl rfl ?_
 refine CT.seq (CT.region ?_)
 refine Wl.g rfl rfl (OpG.box (size := 7) rfl rfl rfl) ?_
 rintro b1 _
 refine Wl.q rfl rfl (OpQ.assign rfl) ?_
 refine Wl.nil (PX.then_n (CT.seq (CT.region ?_)))
 refine Wl.q rfl rfl (OpQ.fieldAddr zf30 rfl) ?_
 refine Wl.q rfl rfl (OpQ.loadF (b := b1) zf31 rfl (by repeat (first | exact Has.here | apply Has.there)) (by rfl)) ?_
 refine Wl.q rfl rfl (OpQ.len zf21 rfl) ?_
 refine Wl.g rfl rfl (OpG.make1 zf21 zf22 rfl rfl rfl rfl (by omega) (by omega)) ?_
 rintro b21 _
 refine Wl.q rfl rfl (OpQ.assign rfl) ?_
 refine Wl.nil (PX.then_n (CT.seq (CT.seq (CT.region ?_))))
 refine Wl.q rfl rfl (OpQ.fieldAddr zf30 rfl) ?_
 refine Wl.q rfl rfl (OpQ.loadF (b := b1) zf31 rfl (by repeat (first | exact Has.here | apply Has.there)) (by rfl)) ?_
 refine Wl.q rfl rfl (OpQ.len zf21 rfl) ?_
 refine Wl.q rfl rfl (OpQ.move rfl) ?_
 refine Wl.nil (PX.then_n (CT.block ?_))
 refine CT.as (fun _ h => h.nilfam S.rs.length (rch 3 zn) ⟨1, rfl⟩) ?_
 refine CT.loop (ι := Nat × List (Rx Nat)) (fun (q, rs) => q ≤ S.rs.length ∧ Bg S.sq q 0 rs) (fun (q, rs) => [(1, .pointer (some ⟨b1, 0, none⟩)), (3, .slice (some ⟨b21, 0, none⟩) S.rs.length S.rs.length), (23, .slice S.na S.rs.length S.nc), (24, .int .i64 ((S.rs.length : Nat) : Int)), (25, .int .i64 ((q : Nat) : Int))]) (fun (q, rs) => .row 22 1 (.slice (some ⟨b21, 0, none⟩) S.rs.length S.rs.length) S.rs.length (rs.map rxv) :: .row 30 7 (vb b1) 1 (svc S) :: rs.map (rch 3 zn)) (fun (q, rs) => S.rs.length - q) (0, List.replicate S.rs.length rx0) ⟨Nat.zero_le _, by have := Bg.start S.sq; rwa [S.n_eq] at this⟩ ⟨rfl, rfl, rfl, rfl, rfl, trivial⟩ (.keep (row_eq (by rw [List.map_replicate]; rfl)) (HSub.refl _)) (fun ⟨q, rs⟩ ⟨hq, hbf⟩ K0 hK0 => ?_)
 dsimp only
 refine CT.seq (CT.region ?_)
 refine Wl.q rfl rfl (OpQ.lss rfl rfl) ?_
 refine Wl.nil (PX.then_n (CT.seq ?_))
 refine CT.cond rfl (fun h26 => ?_) (fun h26 => ?_)
 ·
  have h26 := of_decide_eq_true h26
  have hrl := hv.rlen (q := q) (by omega)
  have hol := hv.olen (q := q) (by omega)
  have hqn : q < S.sq.n := by rw [S.n_eq]; omega
  refine CT.skip (PX.then_n (CT.seq (CT.block (CT.seq (CT.region ?_)))))
  refine Wl.q rfl rfl (OpQ.move rfl) ?_
  refine Wl.q rfl rfl (OpQ.index1 zf21 zf32 rfl rfl (by omega) (hns (by omega))) ?_
  refine Wl.q rfl rfl (OpQ.loadG zf10 rfl (fun w hH => (hH.use hS).n) (getMap rxv S.rs rx0 (j := q) (by omega))) ?_
  refine Wl.q rfl rfl (OpQ.assign rfl) ?_
  refine Wl.q rfl rfl (OpQ.assign rfl) ?_
  refine Wl.nil (PX.then_n (CT.seq (CT.region ?_)))
  refine Wl.q rfl rfl (OpQ.move rfl) ?_
  refine Wl.q rfl rfl (OpQ.len zf0 rfl) ?_
  refine Wl.know 31 (v' := .int .i64 ((S.L : Nat) : Int)) rfl (congrArg (Value.int .i64) (by rw [hrl])) ?_
  refine Wl.q rfl rfl (OpQ.move rfl) ?_
  refine Wl.nil (PX.then_n (CT.block ?_))
  refine CT.loop (ι := Nat × List (Rx Nat)) (fun (x, rs) => x ≤ S.L ∧ Bg S.sq q x rs) (fun (x, rs) => [(1, .pointer (some ⟨b1, 0, none⟩)), (3, .slice (some ⟨b21, 0, none⟩) S.rs.length S.rs.length), (23, .slice S.na S.rs.length S.nc), (24, .int .i64 ((S.rs.length : Nat) : Int)), (25, .int .i64 ((q : Nat) : Int)), (4, .int .i64 ((q : Nat) : Int)), (30, rxv (S.rs.getD q rx0)), (31, .int .i64 ((S.L : Nat) : Int)), (32, .int .i64 ((x : Nat) : Int))]) (fun (x, rs) => .row 22 1 (.slice (some ⟨b21, 0, none⟩) S.rs.length S.rs.length) S.rs.length (rs.map rxv) :: .row 30 7 (vb b1) 1 (svc S) :: rs.map (rch 3 zn)) (fun (x, rs) => S.L - x) (0, rs) ⟨Nat.zero_le _, hbf⟩ ⟨rfl, rfl, rfl, rfl, rfl, rfl, rfl, rfl, rfl, trivial⟩ (HSub.refl _) (fun ⟨x, rs⟩ ⟨hx, hbf⟩ K1 hK1 => ?_)
  dsimp only
  refine CT.seq (CT.region ?_)
  refine Wl.q rfl rfl (OpQ.lss rfl rfl) ?_
  refine Wl.nil (PX.then_n (CT.seq ?_))
  refine CT.cond rfl (fun h33 => ?_) (fun h33 => ?_)
  ·
   have h33 := of_decide_eq_true h33
   refine CT.skip (PX.then_n (CT.seq (CT.block (CT.seq (CT.region ?_)))))
   refine Wl.q rfl rfl (OpQ.index1 zf0 zf1 rfl rfl (by omega) (hrs q (by omega) (by omega))) ?_
   refine Wl.q rfl rfl (OpQ.loadG zf8 rfl (fun w hH => (hH.use hS).r _ (getDm (show q < S.rs.length by omega))) (getMap zo (S.rs.getD q rx0).xs none (j := x) (by omega))) ?_
   refine Wl.know 35 (v' := zo (S.sq.to q x)) rfl (congrArg zo (S.to_eq q x).symm) ?_
   refine Wl.q rfl rfl (OpQ.assign rfl) ?_
   refine Wl.nil (PX.then_n (CT.seq (CT.region ?_)))
   refine Wl.q rfl rfl (OpQ.move rfl) ?_
   refine Wl.q rfl rfl (OpQ.neq rfl rfl) ?_
   refine Wl.nil (PX.then_n ?_)
   refine CT.cond rfl (fun h37 => ?_) (fun h37 => ?_)
   ·
    have h37 := of_nd_t h37
    obtain ⟨r, hto⟩ := oi_some h37
    have hr := hv.lt q x r hqn (show x < S.sq.L by show x < S.L; omega) hto
    have hrl2 : r < rs.length := by rw [hbf.len]; exact hr
    have hrn : r < S.rs.length := by rw [← S.n_eq]; exact hr
    have hbl : (rs.getD r rx0).xs.length ≤ 512 * 6 + 6 := by
     rw [hbf.at_ r hr, List.length_map]
     exact Nat.le_trans (bef_len _ _ _ _) (Nat.add_le_add (Nat.mul_le_mul (by omega) hb2) (by omega))
    refine CT.know 7 (v' := zn r) rfl (by rw [hto]; rfl) ?_
    refine CT.region ?_
    refine Wl.q rfl rfl (OpQ.move rfl) ?_
    refine Wl.q rfl rfl (OpQ.move rfl) ?_
    refine Wl.q rfl rfl (OpQ.move rfl) ?_
    refine Wl.q rfl rfl (OpQ.move rfl) ?_
    refine Wl.q rfl rfl (OpQ.index1 zf21 zf32 rfl rfl (by omega) rfl) ?_
    refine Wl.q rfl rfl (OpQ.loadRow zf10 rfl .here (getMap rxv rs rx0 (j := r) hrl2)) ?_
    refine Wl.q rfl rfl (OpQ.move rfl) ?_
    refine Wl.g rfl rfl (OpG.lit1 zf0 zf16 rfl rfl rfl) ?_
    rintro b45 _
    refine Wl.g rfl rfl (OpG.append zf0 zf16 (by rfl) (by decide) rfl rfl (p := 3 + r) (fam_get (A := [.row 3 1 (.slice (some ⟨b45, 0, none⟩) 1 1) 1 [.int .i64 ((q : Nat) : Int)], .row 22 1 (.slice (some ⟨b21, 0, none⟩) S.rs.length S.rs.length) S.rs.length (rs.map rxv), .row 30 7 (vb b1) 1 (svc S)]) (ch := (rch 3 zn)) (j := r) hrl2 rfl) (fun w hH => hH.rd .here) ⟨rfl, (by simp [Value.oneCell']), (by omega), (by omega)⟩ (nm := ((rs.getD r rx0).xs ++ [q]).length) (by rw [List.length_append]; rfl) (all := ((rs.getD r rx0).xs ++ [q]).map zn) (by rw [List.map_append]; rfl)) ?_
    rintro ⟨a46, c46⟩ h46
    refine Wl.as (fun _ h => HOk.famPut (A := [.row 3 1 (.slice (some ⟨b45, 0, none⟩) 1 1) 1 [.int .i64 ((q : Nat) : Int)], .row 22 1 (.slice (some ⟨b21, 0, none⟩) S.rs.length S.rs.length) S.rs.length (rs.map rxv), .row 30 7 (vb b1) 1 (svc S)]) (ch := (rch 3 zn)) (rs := rs) (j := r) (⟨a46, c46, (rs.getD r rx0).xs ++ [q]⟩ : Rx Nat) h rfl rfl rfl) ?_
    refine Wl.q rfl rfl (OpQ.index1 zf21 zf32 rfl rfl (by omega) rfl) ?_
    refine Wl.g rfl rfl (OpG.storeRow (a := some ⟨b21, 0, none⟩) zf32 rfl rfl rfl (by repeat (first | exact Upd.here | apply Upd.there)) (by rw [List.length_map]; exact hrl2)) ?_
    rintro _ _
    refine Wl.nil (PX.block_n (PX.then_n (CT.region ?_)))
    refine Wl.q rfl rfl (OpQ.add rfl rfl (by omega)) ?_
    refine Wl.q rfl rfl (OpQ.move rfl) ?_
    refine Wl.nil ?_
    exact PX.loop hK1 (x + 1, rs.set r (⟨a46, c46, (rs.getD r rx0).xs ++ [q]⟩ : Rx Nat)) ⟨by omega, hbf.put hto hr rfl⟩ (show S.L - (x + 1) < S.L - x by omega) ⟨rfl, rfl, rfl, rfl, rfl, rfl, rfl, rfl, rfl, trivial⟩ (.drop (.keep (row_eq List.map_set) (HSub.refl _)))
   ·
    have h37 := of_nd_f h37
    refine CT.skip (PX.block_n (PX.then_n (CT.region ?_)))
    refine Wl.q rfl rfl (OpQ.add rfl rfl (by omega)) ?_
    refine Wl.q rfl rfl (OpQ.move rfl) ?_
    refine Wl.nil ?_
    exact PX.loop hK1 (x + 1, rs) ⟨by omega, hbf.keep (oi_neg.1 h37)⟩ (show S.L - (x + 1) < S.L - x by omega) ⟨rfl, rfl, rfl, rfl, rfl, rfl, rfl, rfl, rfl, trivial⟩ (HSub.refl _)
  ·
   have h33 := of_decide_eq_false h33
   refine CT.exit (PX.then_x (PX.then_x (PX.block_x (PX.block_n (PX.then_n (CT.region ?_))))))
   refine Wl.q rfl rfl (OpQ.add rfl rfl (by omega)) ?_
   refine Wl.q rfl rfl (OpQ.move rfl) ?_
   refine Wl.nil ?_
   exact PX.loop hK0 (q + 1, rs) ⟨by omega, by have := hbf; rw [show x = S.sq.L from (show x = S.L by omega)] at this; exact this.row⟩ (show S.rs.length - (q + 1) < S.rs.length - q by omega) ⟨rfl, rfl, rfl, rfl, rfl, trivial⟩ (HSub.refl _)
 ·
  have h26 := of_decide_eq_false h26
  obtain rfl : q = S.rs.length := by omega
  refine CT.as (fun _ h => HOk.begB (A := [.row 30 7 (vb b1) 1 (svc S)]) h) ?_
  generalize blks _ = bs
  have hbe : ∀ r, r < S.sq.n → (rs.getD r rx0).xs = befS S.sq r := fun r hr => by rw [hbf.at_ r hr, ← S.n_eq]; rfl
  have hrsl : rs.length = S.rs.length := by rw [hbf.len, S.n_eq]
  refine CT.exit (PX.then_x (PX.then_x (PX.block_x (PX.then_n (CT.seq (CT.region ?_))))))
  refine Wl.q rfl rfl (OpQ.fieldAddr zf30 rfl) ?_
  refine Wl.q rfl rfl (OpQ.loadF (b := b1) zf31 rfl (by repeat (first | exact Has.here | apply Has.there)) (by rfl)) ?_
  refine Wl.q rfl rfl (OpQ.len zf21 rfl) ?_
  refine Wl.g rfl rfl (OpG.make1 zf17 zf18 rfl rfl rfl rfl (by omega) (by omega)) ?_
  rintro b53 _
  refine Wl.q rfl rfl (OpQ.assign rfl) ?_
  refine Wl.nil (PX.then_n (CT.seq (CT.region ?_)))
  refine Wl.q rfl rfl (OpQ.fieldAddr zf30 rfl) ?_
  refine Wl.q rfl rfl (OpQ.loadF (b := b1) zf31 rfl (by repeat (first | exact Has.here | apply Has.there)) (by rfl)) ?_
  refine Wl.q rfl rfl (OpQ.len zf21 rfl) ?_
  refine Wl.g rfl rfl (OpG.make1 zf25 zf26 rfl rfl rfl rfl (by omega) (by omega)) ?_
  rintro b57 _
  refine Wl.q rfl rfl (OpQ.assign rfl) ?_
  refine Wl.nil (PX.then_n (CT.seq (CT.region ?_)))
  refine Wl.q rfl rfl (OpQ.fieldAddr zf30 rfl) ?_
  refine Wl.q rfl rfl (OpQ.loadF (b := b1) zf31 rfl (by repeat (first | exact Has.here | apply Has.there)) (by rfl)) ?_
  refine Wl.q rfl rfl (OpQ.len zf21 rfl) ?_
  refine Wl.g rfl rfl (OpG.make1 zf25 zf26 rfl rfl rfl rfl (by omega) (by omega)) ?_
  rintro b61 _
  refine Wl.q rfl rfl (OpQ.assign rfl) ?_
  refine Wl.nil (PX.then_n (CT.seq (CT.region ?_)))
  refine Wl.q rfl rfl (OpQ.assign rfl) ?_
  refine Wl.nil (PX.then_n (CT.seq (CT.seq (CT.region ?_))))
  refine Wl.q rfl rfl (OpQ.fieldAddr zf42 rfl) ?_
  refine Wl.q rfl rfl (OpQ.loadF (b := b1) zf43 rfl (by repeat (first | exact Has.here | apply Has.there)) (by rfl)) ?_
  refine Wl.q rfl rfl (OpQ.len zf25 rfl) ?_
  refine Wl.q rfl rfl (OpQ.move rfl) ?_
  refine Wl.nil (PX.then_n (CT.block ?_))
  refine CT.nilrow 3 1 ?_
  refine CT.loop (ι := Nat × Option Addr × Nat) (fun (q, a', c') => q ≤ S.rs.length) (fun (q, a', c') => [(1, .pointer (some ⟨b1, 0, none⟩)), (3, .slice (some ⟨b21, 0, none⟩) S.rs.length S.rs.length), (8, .slice (some ⟨b53, 0, none⟩) S.rs.length S.rs.length), (9, .slice (some ⟨b57, 0, none⟩) S.rs.length S.rs.length), (10, .slice (some ⟨b61, 0, none⟩) S.rs.length S.rs.length), (11, .slice a' ((List.range q).filter S.sq.e).length c'), (63, .slice S.ea S.en.length S.ec), (64, .int .i64 ((S.en.length : Nat) : Int)), (65, .int .i64 ((q : Nat) : Int))]) (fun (q, a', c') => [.row 3 1 (.slice a' ((List.range q).filter S.sq.e).length c') ((List.range q).filter S.sq.e).length (((List.range q).filter S.sq.e).map zn), .row 4 1 (.slice (some ⟨b61, 0, none⟩) S.rs.length S.rs.length) S.rs.length ((pfK S.sq q).map bo), .row 4 1 (.slice (some ⟨b57, 0, none⟩) S.rs.length S.rs.length) S.rs.length ((pfK S.sq q).map bo), .row 9 1 (.slice (some ⟨b53, 0, none⟩) S.rs.length S.rs.length) S.rs.length ((pfP S.sq q).map sv), .frag bs (begM b21 rs), .row 30 7 (vb b1) 1 (svc S)]) (fun (q, a', c') => S.rs.length - q) (0, none, 0) (Nat.zero_le _) ⟨rfl, rfl, rfl, rfl, rfl, rfl, rfl, rfl, rfl, trivial⟩ (.keep rfl (.keep (row_eq (by rw [pfK_zero, hnn, List.map_replicate])) (.keep (row_eq (by rw [pfK_zero, hnn, List.map_replicate])) (.keep (row_eq (by rw [pfP_zero, hnn, List.map_replicate])) (HSub.refl _))))) (fun ⟨q, a', c'⟩ hq K2 hK2 => ?_)
  dsimp only
  refine CT.seq (CT.region ?_)
  refine Wl.q rfl rfl (OpQ.lss rfl rfl) ?_
  refine Wl.nil (PX.then_n (CT.seq ?_))
  refine CT.cond rfl (fun h66 => ?_) (fun h66 => ?_)
  ·
   have h66 := of_decide_eq_true h66
   refine CT.skip (PX.then_n (CT.seq (CT.block (CT.seq (CT.region ?_)))))
   refine Wl.q rfl rfl (OpQ.move rfl) ?_
   refine Wl.q rfl rfl (OpQ.index1 zf25 zf44 rfl rfl (by omega) (hes (by omega))) ?_
   refine Wl.q rfl rfl (OpQ.loadG zf45 rfl (fun w hH => (hH.use hS).e) (getMap bo S.en false (j := q) (by omega))) ?_
   refine Wl.know 69 (v' := .bool (S.sq.e q)) rfl rfl ?_
   refine Wl.q rfl rfl (OpQ.assign rfl) ?_
   refine Wl.q rfl rfl (OpQ.assign rfl) ?_
   refine Wl.nil (PX.then_n (CT.seq (CT.region ?_)))
   refine Wl.q rfl rfl (OpQ.move rfl) ?_
   refine Wl.nil (PX.then_n ?_)
   refine CT.cond rfl (fun h70 => ?_) (fun h70 => ?_)
   ·
    have he : S.sq.e q = true := h70
    have hql : ((List.range q).filter S.sq.e).length ≤ q := by have := List.length_filter_le S.sq.e (List.range q); rwa [List.length_range] at this
    refine CT.seq (CT.region ?_)
    refine Wl.q rfl rfl (OpQ.move rfl) ?_
    refine Wl.q rfl rfl (OpQ.move rfl) ?_
    refine Wl.q rfl rfl (OpQ.move rfl) ?_
    refine Wl.q rfl rfl (OpQ.move rfl) ?_
    refine Wl.q rfl rfl (OpQ.fieldAddr zf41 rfl) ?_
    refine Wl.q rfl rfl (OpQ.loadF (b := b1) zf37 rfl (by repeat (first | exact Has.here | apply Has.there)) (by rfl)) ?_
    refine Wl.q rfl rfl (OpQ.move rfl) ?_
    refine Wl.q rfl rfl (OpQ.index1 zf17 zf38 rfl rfl (by omega) (hfs (by omega))) ?_
    refine Wl.q rfl rfl (OpQ.loadG zf39 rfl (fun w hH => (hH.use hS).f) (getMap sv S.fi [] (j := q) (by omega))) ?_
    refine Wl.know 79 (v' := sv (S.sq.f q)) rfl rfl ?_
    refine Wl.q rfl rfl (OpQ.index1 zf17 zf38 rfl rfl (by omega) rfl) ?_
    refine Wl.g rfl rfl (OpG.storeRow (a := some ⟨b53, 0, none⟩) zf38 rfl rfl rfl (by repeat (first | exact Upd.here | apply Upd.there)) (by rw [List.length_map, pfP_len, hnn]; omega)) ?_
    rintro _ _
    refine Wl.q rfl rfl (OpQ.index1 zf25 zf44 rfl rfl (by omega) rfl) ?_
    refine Wl.g rfl rfl (OpG.storeRow (a := some ⟨b57, 0, none⟩) zf44 rfl rfl rfl (by repeat (first | exact Upd.here | apply Upd.there)) (by rw [List.length_map, pfK_len, hnn]; omega)) ?_
    rintro _ _
    refine Wl.nil (PX.then_n (CT.seq (CT.region ?_)))
    refine Wl.q rfl rfl (OpQ.move rfl) ?_
    refine Wl.q rfl rfl (OpQ.move rfl) ?_
    refine Wl.q rfl rfl (OpQ.index1 zf25 zf44 rfl rfl (by omega) rfl) ?_
    refine Wl.g rfl rfl (OpG.storeRow (a := some ⟨b61, 0, none⟩) zf44 rfl rfl rfl (by repeat (first | exact Upd.here | apply Upd.there)) (by rw [List.length_map, pfK_len, hnn]; omega)) ?_
    rintro _ _
    refine Wl.nil (PX.then_n (CT.region ?_))
    refine Wl.q rfl rfl (OpQ.move rfl) ?_
    refine Wl.q rfl rfl (OpQ.move rfl) ?_
    refine Wl.g rfl rfl (OpG.lit1 zf0 zf16 rfl rfl rfl) ?_
    rintro b87 _
    refine Wl.g rfl rfl (OpG.append zf0 zf16 (by rfl) (by decide) rfl rfl (p := 1) rfl (fun w hH => hH.rd .here) ⟨rfl, (by simp [Value.oneCell']), (by omega), (by omega)⟩ (nm := ((List.range q).filter S.sq.e ++ [q]).length) (by simp) (all := ((List.range q).filter S.sq.e ++ [q]).map zn) (by simp)) ?_
    rintro ⟨a88, c88⟩ h88
    refine Wl.q rfl rfl (OpQ.assign rfl) ?_
    refine Wl.nil (PX.block_n (PX.then_n (CT.region ?_)))
    refine Wl.q rfl rfl (OpQ.add rfl rfl (by omega)) ?_
    refine Wl.q rfl rfl (OpQ.move rfl) ?_
    refine Wl.nil ?_
    exact PX.loop hK2 (q + 1, a88, c88) (by omega) (show S.rs.length - (q + 1) < S.rs.length - q by omega) ⟨rfl, rfl, rfl, rfl, rfl, (lkV rfl (by rw [filt_t he])), rfl, rfl, rfl, trivial⟩ (by dsimp only; rw [filt_t he, ← pfK_put he, ← pfP_put he]; exact .drop (HSub.refl _))
   ·
    have he : S.sq.e q = false := h70
    refine CT.skip (PX.block_n (PX.then_n (CT.region ?_)))
    refine Wl.q rfl rfl (OpQ.add rfl rfl (by omega)) ?_
    refine Wl.q rfl rfl (OpQ.move rfl) ?_
    refine Wl.nil ?_
    exact PX.loop hK2 (q + 1, a', c') (by omega) (show S.rs.length - (q + 1) < S.rs.length - q by omega) ⟨rfl, rfl, rfl, rfl, rfl, (lkV rfl (by rw [filt_f he])), rfl, rfl, rfl, trivial⟩ (by dsimp only; rw [filt_f he, ← pfK_keep he, ← pfP_keep he]; exact HSub.refl _)
  ·
   have h66 := of_decide_eq_false h66
   obtain rfl : q = S.rs.length := by omega
   refine CT.exit (PX.then_x (PX.then_x (PX.block_x (PX.then_n (CT.seq (CT.seq (CT.region ?_)))))))
   refine Wl.q rfl rfl (OpQ.assign rfl) ?_
   refine Wl.nil (PX.then_n (CT.block ?_))
   refine CT.loop (ι := Nat × List Wd × List Bool × List Bool × List Nat × Option Addr × Nat) (fun (i, P, K, W, Qu, a', c') => PfI S.sq 4096 P K W Qu i 0 []) (fun (i, P, K, W, Qu, a', c') => [(1, .pointer (some ⟨b1, 0, none⟩)), (3, .slice (some ⟨b21, 0, none⟩) S.rs.length S.rs.length), (8, .slice (some ⟨b53, 0, none⟩) S.rs.length S.rs.length), (9, .slice (some ⟨b57, 0, none⟩) S.rs.length S.rs.length), (10, .slice (some ⟨b61, 0, none⟩) S.rs.length S.rs.length), (11, .slice a' (Qu).length c'), (14, .int .i64 ((i : Nat) : Int))]) (fun (i, P, K, W, Qu, a', c') => [.row 3 1 (.slice a' (Qu).length c') (Qu).length ((Qu).map zn), .row 4 1 (.slice (some ⟨b61, 0, none⟩) S.rs.length S.rs.length) S.rs.length ((W).map bo), .row 4 1 (.slice (some ⟨b57, 0, none⟩) S.rs.length S.rs.length) S.rs.length ((K).map bo), .row 9 1 (.slice (some ⟨b53, 0, none⟩) S.rs.length S.rs.length) S.rs.length ((P).map sv), .frag bs (begM b21 rs), .row 30 7 (vb b1) 1 (svc S)]) (fun (i, P, K, W, Qu, a', c') => 2 * msP S.sq 4096 P K + (Qu.length - i)) (0, pfP S.sq S.rs.length, pfK S.sq S.rs.length, pfK S.sq S.rs.length, (List.range S.rs.length).filter S.sq.e, a', c') (by have := PfI.start hv (by omega) 0; rwa [hnn] at this) ⟨rfl, rfl, rfl, rfl, rfl, rfl, rfl, trivial⟩ (HSub.refl _) (fun ⟨i, P, K, W, Qu, a', c'⟩ hpf K3 hK3 => ?_)
   dsimp only
   refine CT.fact (p := 0 < Qu.length → a'.isSome = true) (fun w hH h => (hH.rd .here).isSome (j := 0) (by rw [List.length_map]; exact h)) (fun hqa => ?_)
   have hPl : P.length = S.rs.length := by rw [hpf.pl, hnn]
   have hKl : K.length = S.rs.length := by rw [hpf.kl, hnn]
   have hWl : W.length = S.rs.length := by rw [hpf.wl, hnn]
   have hqm := hpf.qm
   have hnb : S.sq.n * (4096 * S.sq.n + 1) ≤ 512 * (4096 * 512 + 1) := Nat.mul_le_mul (by omega) (by omega)
   refine CT.seq (CT.seq (CT.region ?_))
   refine Wl.q rfl rfl (OpQ.move rfl) ?_
   refine Wl.q rfl rfl (OpQ.move rfl) ?_
   refine Wl.q rfl rfl (OpQ.len zf0 rfl) ?_
   refine Wl.q rfl rfl (OpQ.lss rfl rfl) ?_
   refine Wl.nil (PX.then_n ?_)
   refine CT.cond rfl (fun h93 => ?_) (fun h93 => ?_)
   ·
    have h93 := of_decide_eq_true h93
    have hi : i < Qu.length := by omega
    have hpp := hpf.pop hi
    obtain ⟨r, hrq⟩ : ∃ r, r = Qu.getD i 0 := ⟨_, rfl⟩
    have hrn : r < S.sq.n := by rw [hrq]; exact hpf.ql _ (getDm hi)
    have hrn2 : r < S.rs.length := by rw [← hnn]; exact hrn
    rw [← hrq, ← hbe r hrn] at hpp
    have hBl : (rs.getD r rx0).xs.length ≤ 512 * 6 + 6 := by
     rw [hbe r hrn, befS, List.length_map]
     exact Nat.le_trans (bef_len _ _ _ _) (Nat.add_le_add (Nat.mul_le_mul (by omega) hb2) (by omega))
    refine CT.fact (p := 0 < (rs.getD r rx0).xs.length → (rs.getD r rx0).a.isSome = true) (fun w hH h => ((hH.fragp (.there (.there (.there (.there .here))))).2 _ (getDm (by omega))).isSome (j := 0) (by rw [List.length_map]; exact h)) (fun hba => ?_)
    refine CT.skip (PX.then_n (CT.seq (CT.block (CT.seq (CT.region ?_)))))
    refine Wl.q rfl rfl (OpQ.move rfl) ?_
    refine Wl.q rfl rfl (OpQ.move rfl) ?_
    refine Wl.q rfl rfl (OpQ.index1 zf0 zf1 rfl rfl (by omega) (hqa (by omega))) ?_
    refine Wl.q rfl rfl (OpQ.loadRow zf8 rfl .here (getMap zn Qu 0 (j := i) hi)) ?_
    refine Wl.know 99 (v' := .int .i64 ((r : Nat) : Int)) rfl (congrArg zn hrq.symm) ?_
    refine Wl.q rfl rfl (OpQ.assign rfl) ?_
    refine Wl.nil (PX.then_n (CT.seq (CT.region ?_)))
    refine Wl.q rfl rfl (OpQ.move rfl) ?_
    refine Wl.q rfl rfl (OpQ.move rfl) ?_
    refine Wl.q rfl rfl (OpQ.index1 zf25 zf44 rfl rfl (by omega) rfl) ?_
    refine Wl.g rfl rfl (OpG.storeRow (a := some ⟨b61, 0, none⟩) zf44 rfl rfl rfl (by repeat (first | exact Upd.here | apply Upd.there)) (by rw [List.length_map, hWl]; exact hrn2)) ?_
    rintro _ _
    refine Wl.nil (PX.then_n (CT.seq (CT.region ?_)))
    refine Wl.q rfl rfl (OpQ.move rfl) ?_
    refine Wl.q rfl rfl (OpQ.move rfl) ?_
    refine Wl.q rfl rfl (OpQ.index1 zf21 zf32 rfl rfl (by omega) rfl) ?_
    refine Wl.q rfl rfl (OpQ.loadG zf10 rfl (fun w hH => (hH.fragp (.there (.there (.there (.there .here))))).1) (getMap rxv rs rx0 (j := r) (by omega))) ?_
    refine Wl.q rfl rfl (OpQ.len zf0 rfl) ?_
    refine Wl.q rfl rfl (OpQ.move rfl) ?_
    refine Wl.nil (PX.then_n (CT.block ?_))
    obtain ⟨P0, hP0⟩ : ∃ P0, P0 = P := ⟨_, rfl⟩
    obtain ⟨K0, hK0⟩ : ∃ K0, K0 = K := ⟨_, rfl⟩
    refine CT.loop (ι := Nat × List Wd × List Bool × List Bool × List Nat × Option Addr × Nat) (fun (k, P, K, W, Q2, a', c') => k ≤ (rs.getD r rx0).xs.length ∧ PfI S.sq 4096 P K W Q2 (i + 1) r ((rs.getD r rx0).xs.drop k) ∧ msP S.sq 4096 P K ≤ msP S.sq 4096 P0 K0 ∧ Q2.length + msP S.sq 4096 P K ≤ Qu.length + msP S.sq 4096 P0 K0) (fun (k, P, K, W, Q2, a', c') => [(1, .pointer (some ⟨b1, 0, none⟩)), (3, .slice (some ⟨b21, 0, none⟩) S.rs.length S.rs.length), (8, .slice (some ⟨b53, 0, none⟩) S.rs.length S.rs.length), (9, .slice (some ⟨b57, 0, none⟩) S.rs.length S.rs.length), (10, .slice (some ⟨b61, 0, none⟩) S.rs.length S.rs.length), (11, .slice a' (Q2).length c'), (14, .int .i64 ((i : Nat) : Int)), (106, rxv (rs.getD r rx0)), (107, .int .i64 (((rs.getD r rx0).xs.length : Nat) : Int)), (108, .int .i64 ((k : Nat) : Int))]) (fun (k, P, K, W, Q2, a', c') => [.row 3 1 (.slice a' (Q2).length c') (Q2).length ((Q2).map zn), .row 4 1 (.slice (some ⟨b61, 0, none⟩) S.rs.length S.rs.length) S.rs.length ((W).map bo), .row 4 1 (.slice (some ⟨b57, 0, none⟩) S.rs.length S.rs.length) S.rs.length ((K).map bo), .row 9 1 (.slice (some ⟨b53, 0, none⟩) S.rs.length S.rs.length) S.rs.length ((P).map sv), .frag bs (begM b21 rs), .row 30 7 (vb b1) 1 (svc S)]) (fun (k, P, K, W, Q2, a', c') => (rs.getD r rx0).xs.length - k) (0, P, K, W.set r false, Qu, a', c') ⟨Nat.zero_le _, by rw [List.drop_zero]; exact hpp, by rw [hP0, hK0]; exact Nat.le_refl _, by rw [hP0, hK0]; exact Nat.le_refl _⟩ ⟨rfl, rfl, rfl, rfl, rfl, rfl, rfl, rfl, rfl, rfl, trivial⟩ (.keep rfl (.keep (row_eq List.map_set) (HSub.refl _))) (fun ⟨k, P, K, W, Q2, a', c'⟩ ⟨hk, hpf, hms1, hms2⟩ K4 hK4 => ?_)
    dsimp only
    have hPl2 : P.length = S.rs.length := by rw [hpf.pl, hnn]
    have hKl2 : K.length = S.rs.length := by rw [hpf.kl, hnn]
    have hWl2 : W.length = S.rs.length := by rw [hpf.wl, hnn]
    have hqm2 := hpf.qm
    have hil2 := hpf.il
    refine CT.seq (CT.region ?_)
    refine Wl.q rfl rfl (OpQ.lss rfl rfl) ?_
    refine Wl.nil (PX.then_n (CT.seq ?_))
    refine CT.cond rfl (fun h109 => ?_) (fun h109 => ?_)
    ·
     have h109 := of_decide_eq_true h109
     have hkl : k < (rs.getD r rx0).xs.length := by omega
     have hqb : ((rs.getD r rx0).xs.getD k 0) ∈ befS S.sq r := by rw [← hbe r hrn]; exact getDm hkl
     have hqn : ((rs.getD r rx0).xs.getD k 0) < S.sq.n := (befS_mem.1 hqb).1
     have hqn2 : ((rs.getD r rx0).xs.getD k 0) < S.rs.length := by rw [← hnn]; exact hqn
     have hst : ImpI S.sq ((rs.getD r rx0).xs.getD k 0) P K S.L (impL S.sq ((rs.getD r rx0).xs.getD k 0) (P, K, false) S.L) := impL_ok hv.fit hall hqn hpf.pl hpf.kl S.L (Nat.le_refl _)
     have hdr : (rs.getD r rx0).xs.drop k = ((rs.getD r rx0).xs.getD k 0) :: (rs.getD r rx0).xs.drop (k + 1) := drop_s hkl
     rw [hdr] at hpf
     have hPb : ∀ p, (P.getD p []).length ≤ 4000000 := fun p => by have := hpf.len p; have := Nat.mul_le_mul_left 4096 (show S.sq.n ≤ 512 by omega); omega
     refine CT.skip (PX.then_n (CT.seq (CT.block (CT.seq (CT.region ?_)))))
     refine Wl.q rfl rfl (OpQ.index1 zf0 zf1 rfl rfl (by omega) (hba (by omega))) ?_
     refine Wl.q rfl rfl (OpQ.loadG zf8 rfl (fun w hH => (hH.fragp (.there (.there (.there (.there .here))))).2 (rs.getD r rx0) (getDm (by omega))) (getMap zn (rs.getD r rx0).xs 0 (j := k) hkl)) ?_
     refine Wl.q rfl rfl (OpQ.assign rfl) ?_
     refine Wl.nil (PX.then_n (CT.seq (CT.region ?_)))
     refine Wl.q rfl rfl (OpQ.loadV (b := b1) zf29 zf28 rfl (by repeat (first | exact Has.here | apply Has.there)) (by rfl)) ?_
     refine Wl.know 112 (v' := svv S) rfl rfl ?_
     refine Wl.q rfl rfl (OpQ.move rfl) ?_
     refine Wl.q rfl rfl (OpQ.move rfl) ?_
     refine Wl.q rfl rfl (OpQ.move rfl) ?_
     refine Wl.g rfl rfl (OpG.callX zf90 rfl (.cons (.there (.there (.there .here))) (.cons (.there (.there .here)) .nil)) (fun _ => (.cons (.cons .nil))) (fun w hH hp => improve_spec w S b53 b57 P K (hH.stays hS (.cons (.there (.there (.there .here))) (.cons (.there (.there .here)) .nil))) hv hPl2 hKl2 hPb ((rs.getD r rx0).xs.getD k 0) hqn2 hp)) ?_
     rintro _ _
     refine Wl.know 116 (v' := .bool (impL S.sq ((rs.getD r rx0).xs.getD k 0) (P, K, false) S.L).2.2) rfl rfl ?_
     refine Wl.q rfl rfl (OpQ.move rfl) ?_
     refine Wl.split 117 rfl (fun hg117 => ?_) (fun hg117 => ?_)
     ·
      have hch : (impL S.sq ((rs.getD r rx0).xs.getD k 0) (P, K, false) S.L).2.2 = true := hg117
      refine Wl.q rfl rfl (OpQ.move rfl) ?_
      refine Wl.q rfl rfl (OpQ.move rfl) ?_
      refine Wl.q rfl rfl (OpQ.index1 zf25 zf44 rfl rfl (by omega) rfl) ?_
      refine Wl.q rfl rfl (OpQ.loadRow zf45 rfl (.there (.there (.there .here))) (getMap bo W false (j := ((rs.getD r rx0).xs.getD k 0)) (by rw [hWl2]; exact hqn2))) ?_
      refine Wl.q rfl rfl (OpQ.not rfl) ?_
      refine Wl.q rfl rfl (OpQ.pickT rfl rfl) ?_
      refine Wl.nil (PX.then_n ?_)
      refine CT.cond rfl (fun h123 => ?_) (fun h123 => ?_)
      ·
       have hwq : W.getD ((rs.getD r rx0).xs.getD k 0) false = false := (Bool.not_eq_true' _).mp h123
       have hpi := PfI.imp (W' := W.set ((rs.getD r rx0).xs.getD k 0) true) (Qu' := Q2 ++ [((rs.getD r rx0).xs.getD k 0)]) hv hpf hqn hst (.inl ⟨hch, hwq, rfl, rfl⟩)
       refine CT.seq (CT.region ?_)
       refine Wl.q rfl rfl (OpQ.move rfl) ?_
       refine Wl.q rfl rfl (OpQ.move rfl) ?_
       refine Wl.q rfl rfl (OpQ.index1 zf25 zf44 rfl rfl (by omega) rfl) ?_
       refine Wl.g rfl rfl (OpG.storeRow (a := some ⟨b61, 0, none⟩) zf44 rfl rfl rfl (by repeat (first | exact Upd.here | apply Upd.there)) (by rw [List.length_map, hWl2]; exact hqn2)) ?_
       rintro _ _
       refine Wl.nil (PX.then_n (CT.region ?_))
       refine Wl.q rfl rfl (OpQ.move rfl) ?_
       refine Wl.q rfl rfl (OpQ.move rfl) ?_
       refine Wl.g rfl rfl (OpG.lit1 zf0 zf16 rfl rfl rfl) ?_
       rintro b129 _
       refine Wl.g rfl rfl (OpG.append zf0 zf16 (by rfl) (by decide) rfl rfl (p := 3) rfl (fun w hH => hH.rd .here) ⟨rfl, (by simp [Value.oneCell']), (by omega), (by omega)⟩ (nm := (Q2 ++ [((rs.getD r rx0).xs.getD k 0)]).length) (by simp) (all := (Q2 ++ [((rs.getD r rx0).xs.getD k 0)]).map zn) (by simp)) ?_
       rintro ⟨a130, c130⟩ h130
       refine Wl.q rfl rfl (OpQ.assign rfl) ?_
       refine Wl.nil (PX.block_n (PX.then_n (CT.region ?_)))
       refine Wl.q rfl rfl (OpQ.add rfl rfl (by omega)) ?_
       refine Wl.q rfl rfl (OpQ.move rfl) ?_
       refine Wl.nil ?_
       refine PX.as (fun _ h => h.take (.cons (.there (.there (.there .here))) (.cons (.there (.there (.there .here))) (.cons (.there (.there .here)) (.cons (.there .here) (.cons (.there .here) (.cons (.there .here) .nil))))))) ?_
       exact PX.loop hK4 (k + 1, (impL S.sq ((rs.getD r rx0).xs.getD k 0) (P, K, false) S.L).1, (impL S.sq ((rs.getD r rx0).xs.getD k 0) (P, K, false) S.L).2.1, (W.set ((rs.getD r rx0).xs.getD k 0) true), (Q2 ++ [((rs.getD r rx0).xs.getD k 0)]), a130, c130) ⟨hkl, hpi.1, Nat.le_trans hpi.2.1 hms1, Nat.le_trans hpi.2.2 hms2⟩ (show (rs.getD r rx0).xs.length - (k + 1) < (rs.getD r rx0).xs.length - k by omega) ⟨rfl, rfl, rfl, rfl, rfl, rfl, rfl, rfl, rfl, rfl, trivial⟩ (.keep rfl (.keep (row_eq List.map_set) (HSub.refl _)))
      ·
       have hno : (impL S.sq ((rs.getD r rx0).xs.getD k 0) (P, K, false) S.L).2.2 = false ∨ W.getD ((rs.getD r rx0).xs.getD k 0) false = true := .inr ((Bool.not_eq_false' _).mp h123)
       have hpi := PfI.imp (W' := W) (Qu' := Q2) hv hpf hqn hst (.inr ⟨hno, rfl, rfl⟩)
       refine CT.skip (PX.block_n (PX.then_n (CT.region ?_)))
       refine Wl.q rfl rfl (OpQ.add rfl rfl (by omega)) ?_
       refine Wl.q rfl rfl (OpQ.move rfl) ?_
       refine Wl.nil ?_
       refine PX.as (fun _ h => h.take (.cons (.there (.there .here)) (.cons (.there (.there .here)) (.cons (.there .here) (.cons .here (.cons .here (.cons .here .nil))))))) ?_
       exact PX.loop hK4 (k + 1, (impL S.sq ((rs.getD r rx0).xs.getD k 0) (P, K, false) S.L).1, (impL S.sq ((rs.getD r rx0).xs.getD k 0) (P, K, false) S.L).2.1, W, Q2, a', c') ⟨hkl, hpi.1, Nat.le_trans hpi.2.1 hms1, Nat.le_trans hpi.2.2 hms2⟩ (show (rs.getD r rx0).xs.length - (k + 1) < (rs.getD r rx0).xs.length - k by omega) ⟨rfl, rfl, rfl, rfl, rfl, rfl, rfl, rfl, rfl, rfl, trivial⟩ (HSub.refl _)
     ·
      have hno : (impL S.sq ((rs.getD r rx0).xs.getD k 0) (P, K, false) S.L).2.2 = false ∨ W.getD ((rs.getD r rx0).xs.getD k 0) false = true := .inl hg117
      have hpi := PfI.imp (W' := W) (Qu' := Q2) hv hpf hqn hst (.inr ⟨hno, rfl, rfl⟩)
      refine Wl.skip rfl rfl ?_
      refine Wl.skip rfl rfl ?_
      refine Wl.skip rfl rfl ?_
      refine Wl.skip rfl rfl ?_
      refine Wl.skip rfl rfl ?_
      refine Wl.q rfl rfl (OpQ.pickF rfl rfl) ?_
      refine Wl.nil (PX.then_n ?_)
      refine CT.condF rfl ?_
      refine CT.skip (PX.block_n (PX.then_n (CT.region ?_)))
      refine Wl.q rfl rfl (OpQ.add rfl rfl (by omega)) ?_
      refine Wl.q rfl rfl (OpQ.move rfl) ?_
      refine Wl.nil ?_
      refine PX.as (fun _ h => h.take (.cons (.there (.there .here)) (.cons (.there (.there .here)) (.cons (.there .here) (.cons .here (.cons .here (.cons .here .nil))))))) ?_
      exact PX.loop hK4 (k + 1, (impL S.sq ((rs.getD r rx0).xs.getD k 0) (P, K, false) S.L).1, (impL S.sq ((rs.getD r rx0).xs.getD k 0) (P, K, false) S.L).2.1, W, Q2, a', c') ⟨hkl, hpi.1, Nat.le_trans hpi.2.1 hms1, Nat.le_trans hpi.2.2 hms2⟩ (show (rs.getD r rx0).xs.length - (k + 1) < (rs.getD r rx0).xs.length - k by omega) ⟨rfl, rfl, rfl, rfl, rfl, rfl, rfl, rfl, rfl, rfl, trivial⟩ (HSub.refl _)
    ·
     have h109 := of_decide_eq_false h109
     refine CT.exit (PX.then_x (PX.then_x (PX.block_x (PX.block_n (PX.then_n (CT.region ?_))))))
     refine Wl.q rfl rfl (OpQ.move rfl) ?_
     refine Wl.q rfl rfl (OpQ.add rfl rfl (by omega)) ?_
     refine Wl.q rfl rfl (OpQ.assign rfl) ?_
     refine Wl.nil ?_
     exact PX.loop hK3 (i + 1, P, K, W, Q2, a', c') (by have h := hpf; rw [show k = (rs.getD r rx0).xs.length by omega, List.drop_length] at h; exact h.any 0) (by dsimp only; rw [← hP0, ← hK0]; omega) ⟨rfl, rfl, rfl, rfl, rfl, rfl, rfl, trivial⟩ (HSub.refl _)
   ·
    have h93 := of_decide_eq_false h93
    have hpd := hpf.done hv hall (by omega)
    refine CT.exit (PX.then_x (PX.then_x (PX.block_x (PX.then_n (CT.seq (CT.region ?_))))))
    refine Wl.q rfl rfl (OpQ.move rfl) ?_
    refine Wl.q rfl rfl (OpQ.assign rfl) ?_
    refine Wl.nil (PX.then_n (CT.ret ?_))
    refine PX.ret1 rfl rfl (fun w' hH => ?_)
    exact ⟨(P, b53), hpd, rfl, (hH.take (.cons (.there (.there (.there .here))) .nil)).post⟩

end Go.Proofs.Ytamolakhpcofhaa

