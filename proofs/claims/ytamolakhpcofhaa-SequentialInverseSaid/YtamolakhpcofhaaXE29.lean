/-
  What functions of the program compute, each by its walk. Conditions: those that each theorem names.
-/
import Derived.Test.YtamolakhpcofhaaMod1
import Derived.Test.YtamolakhpcofhaaXC5
import Derived.Test.YtamolakhpcofhaaXC9
import Derived.Test.YtamolakhpcofhaaXE17
import Derived.Test.YtamolakhpcofhaaXE20
import Derived.Test.YtamolakhpcofhaaXE4
import Derived.Test.YtamolakhpcofhaaXF
set_option linter.unusedSimpArgs false
namespace Go.Proofs.Ytamolakhpcofhaa
open Go Go.Eng Go.Am Go.Sq
open Go.Tp (zi)
open Go.Tl (mayL Wd okW okB bo)

set_option maxRecDepth 100000 in
/-- semigroup/sequential.Inverse$1 -/
theorem irun_spec (w : World) (D : Dv) (hD : Stays [] w (dvm D)) (hv : D.Ok) (b : Nat) (hb : Stays [] w (fun w => Rd w (some ⟨b, 0, none⟩) (dvc D))) (p : Nat) (hp : p < D.fin.length) (ws : Wd) (hws : okT 4096 ws) (ho : okO D.L ws) : Calls Try.prog 59 #[.int .i64 ((p : Nat) : Int), sv ws, .pointer (some ⟨b, 0, none⟩)] w (fun e w' => e = .returned (.int .i64 (((D.da.sy.run p (wl ws)) : Nat) : Int)) ∧ Ext [] w w') := by
 have hns : 0 < D.rs.length → D.na.isSome = true := fun h => hD.now.2.1.isSome (j := 0) (by rw [List.length_map]; exact h)
 have hrs : ∀ q, q < D.rs.length → 0 < (D.rs.getD q rw0).xs.length → (D.rs.getD q rw0).a.isSome = true := fun q hq h => (hD.now.2.2 _ (getDm hq)).isSome (j := 0) (by rw [List.length_map]; exact h)
 have hin : InW D.da.L (wl ws) := by
  have h := wl_inO (L := D.da.L) hws (by rw [← hv.L_eq]; exact ho)
  exact h
 have hwsl := hws.1
 have hlen := hv.len
 refine enter (args := [.int .i64 ((p : Nat) : Int), sv ws, .pointer (some ⟨b, 0, none⟩)]) [] 25 Try.func59 rfl rfl rfl ?_
 refine CT.seq (CT.region ?_)
 refine Wl.q rfl rfl (OpQ.assign rfl) ?_
 refine Wl.nil (PX.then_n (CT.seq (CT.seq (CT.region ?_))))
 refine Wl.q rfl rfl (OpQ.move rfl) ?_
 refine Wl.q rfl rfl (OpQ.lenSv zf4 rfl) ?_
 refine Wl.q rfl rfl (OpQ.move rfl) ?_
 refine Wl.nil (PX.then_n (CT.block ?_))
 refine CT.loop (ι := Nat) (fun k => k ≤ ws.length) (fun k => [(0, .int .i64 ((D.da.sy.run p ((wl ws).take k) : Nat) : Int)), (1, sv ws), (2, .pointer (some ⟨b, 0, none⟩)), (8, .int .i64 ((ws.length : Nat) : Int)), (9, .int .i64 ((k : Nat) : Int))]) (fun _ => []) (fun k => ws.length - k) 0 (Nat.zero_le _) ⟨rfl, rfl, rfl, rfl, rfl, trivial⟩ (HSub.none _) (fun k hk K0 hK0 => ?_)
 refine CT.seq (CT.region ?_)
 refine Wl.q rfl rfl (OpQ.lss rfl rfl) ?_
 refine Wl.nil (PX.then_n (CT.seq ?_))
 refine CT.cond rfl (fun h10 => ?_) (fun h10 => ?_)
 ·
  have h10 := of_decide_eq_true h10
  have hkl : k < ws.length := by omega
  have hbb := hws.2 _ (getDm (d := 0) hkl)
  have hbo := ho _ (getDm (d := 0) hkl)
  have hxL : ((((ws.getD k 0).toNat - 97) : Nat) : Int) < D.L := by omega
  have hrun : D.da.sy.run p ((wl ws).take k) < D.fin.length := hv.daOk.run_lt (fun y hy => hin y (List.mem_of_mem_take hy)) hp
  have hto := hv.to (q := D.da.sy.run p ((wl ws).take k)) (x := ((ws.getD k 0).toNat - 97)) hrun hxL
  have hrw := (hv.row _ hrun).1
  have hst := run_take D.da.sy p hkl
  refine CT.skip (PX.then_n (CT.seq (CT.block (CT.seq (CT.region ?_)))))
  refine Wl.q rfl rfl (OpQ.move rfl) ?_
  refine Wl.q rfl rfl (OpQ.assign rfl) ?_
  refine Wl.nil (PX.then_n ?_)
  refine CT.draw 12 zf6 ?_
  refine RA.q 0 (by kernel_rfl) rfl rfl rfl (.refl _) (OpQ.fieldAddr zf19 rfl) ?_
  refine RA.q 1 (by kernel_rfl) rfl rfl rfl (.refl _) (OpQ.loadG (a := some ⟨b, 0, none⟩) (j := 3) zf20 rfl (fun w hH => hH.use hb) rfl) ?_
  refine RA.q 2 (by kernel_rfl) rfl rfl rfl (.refl _) (OpQ.move rfl) ?_
  refine RA.q 3 (by kernel_rfl) rfl rfl rfl (.refl _) (OpQ.index1 zf21 zf23 rfl rfl (by omega) (hns (by omega))) ?_
  refine RA.q 4 (by kernel_rfl) rfl rfl rfl (.refl _) (OpQ.loadG zf10 rfl (fun w hH => (hH.use hD).2.1) (getMap rv D.rs rw0 (j := (D.da.sy.run p ((wl ws).take k))) (by omega))) ?_
  refine RA.q 5 (by kernel_rfl) rfl rfl rfl (.refl _) (OpQ.move rfl) ?_
  refine RA.q 6 (by kernel_rfl) rfl rfl rfl (.refl _) (OpQ.move rfl) ?_
  refine RA.q 7 (by kernel_rfl) rfl rfl rfl (.refl _) (OpQ.indexSvN zf4 rfl rfl (by omega)) ?_
  refine RA.q 8 (by kernel_rfl) rfl rfl rfl (.refl _) (OpQ.sub8 rfl rfl (by omega)) ?_
  refine RA.know 20 (v' := .int .u8 ((((ws.getD k 0).toNat - 97) : Nat) : Int)) rfl (congrArg (Value.int .u8) (by omega)) ?_
  refine RA.q 9 (by kernel_rfl) rfl rfl rfl (.refl _) (OpQ.indexK1 zf0 zf1 rfl rfl (by omega) (hrs _ (by omega) (by omega))) ?_
  refine RA.q 10 (by kernel_rfl) rfl rfl rfl (.refl _) (OpQ.loadG zf8 rfl (fun w hH => (hH.use hD).2.2 _ (getDm (show (D.da.sy.run p ((wl ws).take k)) < D.rs.length by omega))) (getMap zz (D.rs.getD (D.da.sy.run p ((wl ws).take k)) rw0).xs 0 (j := ((ws.getD k 0).toNat - 97)) (by omega))) ?_
  refine RA.know 22 (v' := .int .i64 (((D.da.to (D.da.sy.run p ((wl ws).take k)) ((ws.getD k 0).toNat - 97)) : Nat) : Int)) rfl (congrArg (Value.int .i64) hto) ?_
  refine RA.q 11 (by kernel_rfl) rfl rfl rfl (.refl _) (OpQ.assign rfl) ?_
  refine RA.tail ?_
  refine RT.done (by kernel_rfl) ?_
  refine PX.block_n (PX.then_n (CT.region ?_))
  refine Wl.q rfl rfl (OpQ.add rfl rfl (by omega)) ?_
  refine Wl.q rfl rfl (OpQ.move rfl) ?_
  refine Wl.nil ?_
  exact PX.loop hK0 (k + 1) (by omega) (by first | omega | (dsimp only; omega)) ⟨(lkV rfl (congrArg (fun m : Nat => Value.int .i64 (m : Int)) hst.symm)), rfl, rfl, rfl, rfl, trivial⟩ (HSub.none _)
 ·
  have h10 := of_decide_eq_false h10
  refine CT.exit (PX.then_x (PX.then_x (PX.block_x (PX.then_n (CT.seq (CT.region ?_))))))
  refine Wl.q rfl rfl (OpQ.move rfl) ?_
  refine Wl.q rfl rfl (OpQ.assign rfl) ?_
  refine Wl.nil (PX.then_n (CT.ret ?_))
  refine PX.ret1 rfl rfl (fun w' hH => ?_)
  obtain rfl : k = ws.length := by omega
  exact ⟨by rw [List.take_of_length_le (Nat.le_of_eq (wl_len ws))], hH.ext⟩

set_option maxRecDepth 100000 in
/-- semigroup/sequential.Inverse$2 -/
theorem istep_spec (w : World) (S : Sv) (hS : Stays [] w (svm S)) (hv : S.sq.Ok 4096) (D : Dv) (hD : Stays [] w (dvm D)) (hvD : D.Ok) (ho : S.sq.Over D.L) (hnD : D.fin.length ≤ 512) (bg bn bm br : Nat) (hbg : Stays [] w (fun w => Rd w (some ⟨bg, 0, none⟩) (svc S))) (hbn : Stays [] w (fun w => Rd w (some ⟨bn, 0, none⟩) [.int .i64 ((D.da.n : Nat) : Int)])) (hbm : Stays [] w (fun w => Rd w (some ⟨bm, 0, none⟩) (dvc D))) (hbr : Stays [] w (fun w => Rd w (some ⟨br, 0, none⟩) [.func (.func 59) #[] #[.pointer (some ⟨bm, 0, none⟩)]])) (s : Int) (hs : s = -1 ∨ ∃ q p, q < S.sq.n ∧ p < D.da.n ∧ s = ((q * D.da.n + p : Nat) : Int)) (x : Nat) (hx : x < S.L) : Calls Try.prog 60 #[zz s, .int .i64 ((x : Nat) : Int), .pointer (some ⟨bg, 0, none⟩), .pointer (some ⟨bn, 0, none⟩), .pointer (some ⟨br, 0, none⟩)] w (fun e w' => e = .returned (zz (ivf S.sq D.da s x)) ∧ Ext [] w w') := by
 obtain ⟨hb1, hb2, hb3, hb4⟩ := hv.bnd
 obtain ⟨hlo, hle, hlf⟩ := hv.lens
 have hns : 0 < S.rs.length → S.na.isSome = true := fun h => hS.now.n.isSome (j := 0) (by rw [List.length_map]; exact h)
 have hos : 0 < S.os.length → S.oa.isSome = true := fun h => hS.now.o.isSome (j := 0) (by rw [List.length_map]; exact h)
 have hes : 0 < S.en.length → S.ea.isSome = true := fun h => hS.now.e.isSome (j := 0) (by rw [List.length_map]; exact h)
 have hfs : 0 < S.fi.length → S.fa.isSome = true := fun h => hS.now.f.isSome (j := 0) (by rw [List.length_map]; exact h)
 have hrs : ∀ q, q < S.rs.length → 0 < (S.rs.getD q rx0).xs.length → (S.rs.getD q rx0).a.isSome = true := fun q hq h => (hS.now.r _ (getDm hq)).isSome (j := 0) (by rw [List.length_map]; exact h)
 have hus : ∀ q, q < S.os.length → 0 < (S.os.getD q rx0).xs.length → (S.os.getD q rx0).a.isSome = true := fun q hq h => (hS.now.u _ (getDm hq)).isSome (j := 0) (by rw [List.length_map]; exact h)
 refine enter (args := [zz s, .int .i64 ((x : Nat) : Int), .pointer (some ⟨bg, 0, none⟩), .pointer (some ⟨bn, 0, none⟩), .pointer (some ⟨br, 0, none⟩)]) [] 51 Try.func60 rfl rfl rfl ?_
 refine CT.seq (CT.region ?_)
 refine Wl.q rfl rfl (OpQ.assign rfl) ?_
 refine Wl.nil (PX.then_n (CT.seq (CT.seq ?_)))
 refine CT.draw 15 zf6 ?_
 refine RA.q 0 (by kernel_rfl) rfl rfl rfl (.refl _) (OpQ.move rfl) ?_
 refine RA.q 1 (by kernel_rfl) rfl rfl rfl (.refl _) (OpQ.eql rfl rfl) ?_
 refine RA.q 2 (by kernel_rfl) rfl rfl rfl (.refl _) (OpQ.move rfl) ?_
 refine RA.split 10 rfl (fun hg10 => ?_) (fun hg10 => ?_)
 ·
  have hg10 := of_decide_eq_true hg10
  subst hg10
  refine RA.skip 3 (by kernel_rfl) rfl rfl rfl (.refl _) ?_
  refine RA.skip 4 (by kernel_rfl) rfl rfl rfl (.refl _) ?_
  refine RA.skip 5 (by kernel_rfl) rfl rfl rfl (.refl _) ?_
  refine RA.skip 6 (by kernel_rfl) rfl rfl rfl (.refl _) ?_
  refine RA.skip 7 (by kernel_rfl) rfl rfl rfl (.refl _) ?_
  refine RA.skip 8 (by kernel_rfl) rfl rfl rfl (.refl _) ?_
  refine RA.skip 9 (by kernel_rfl) rfl rfl rfl (.refl _) ?_
  refine RA.skip 10 (by kernel_rfl) rfl rfl rfl (.refl _) ?_
  refine RA.skip 11 (by kernel_rfl) rfl rfl rfl (.refl _) ?_
  refine RA.skip 12 (by kernel_rfl) rfl rfl rfl (.refl _) ?_
  refine RA.skip 13 (by kernel_rfl) rfl rfl rfl (.refl _) ?_
  refine RA.q 14 (by kernel_rfl) rfl rfl rfl (.refl _) (OpQ.pickT rfl rfl) ?_
  refine RA.tail ?_
  refine RT.done (by kernel_rfl) ?_
  refine PX.then_n ?_
  refine CT.condT rfl ?_
  refine CT.seq (CT.region ?_)
  refine Wl.q rfl rfl (OpQ.assign rfl) ?_
  refine Wl.nil (PX.then_n (CT.ret (PX.then_r ?_)))
  refine PX.ret1 rfl rfl (fun w' hH => ?_)
  exact ⟨by rw [show ivf S.sq D.da (-1) x = -1 from if_pos rfl], hH.ext⟩
 ·
  have hg10 := of_decide_eq_false hg10
  obtain ⟨q, p, hqn, hpn, rfl⟩ : ∃ q p, q < S.sq.n ∧ p < D.da.n ∧ s = ((q * D.da.n + p : Nat) : Int) := hs.resolve_left (by omega)
  have hqr : q < S.rs.length := by rw [← S.n_eq]; exact hqn
  have hpn2 : p < D.fin.length := hpn
  have hdn : D.da.n = D.fin.length := rfl
  have hqm : q * D.da.n + p < 512 * 512 + 512 := by have := Nat.mul_le_mul (show q ≤ 512 by omega) (show D.da.n ≤ 512 by omega); omega
  have hrl := hv.rlen (q := q) (by omega)
  have hol := hv.olen (q := q) (by omega)
  refine RA.q 3 (by kernel_rfl) rfl rfl rfl (.refl _) (OpQ.fieldAddr zf63 rfl) ?_
  refine RA.q 4 (by kernel_rfl) rfl rfl rfl (.refl _) (OpQ.loadG (a := some ⟨bg, 0, none⟩) (j := 3) zf20 rfl (fun w hH => hH.use hbg) rfl) ?_
  refine RA.q 5 (by kernel_rfl) rfl rfl rfl (.refl _) (OpQ.move rfl) ?_
  refine RA.q 6 (by kernel_rfl) rfl rfl rfl (.refl _) (OpQ.loadG (a := some ⟨bn, 0, none⟩) (j := 0) zf8 rfl (fun w hH => hH.use hbn) rfl) ?_
  refine RA.q 7 (by kernel_rfl) rfl rfl rfl (.refl _) (OpQ.quo rfl rfl ⟨by omega, by rw [qp_tdiv hpn]; omega, by rw [qp_tdiv hpn]; omega⟩) ?_
  refine RA.know 15 (v' := .int .i64 ((q : Nat) : Int)) rfl (congrArg (Value.int .i64) (qp_tdiv hpn)) ?_
  refine RA.q 8 (by kernel_rfl) rfl rfl rfl (.refl _) (OpQ.index1 zf21 zf23 rfl rfl (by omega) (hns (by omega))) ?_
  refine RA.q 9 (by kernel_rfl) rfl rfl rfl (.refl _) (OpQ.loadG zf10 rfl (fun w hH => (hH.use hS).n) (getMap rxv S.rs rx0 (j := q) (by omega))) ?_
  refine RA.q 10 (by kernel_rfl) rfl rfl rfl (.refl _) (OpQ.move rfl) ?_
  refine RA.q 11 (by kernel_rfl) rfl rfl rfl (.refl _) (OpQ.index1 zf0 zf1 rfl rfl (by omega) (hrs q (by omega) (by omega))) ?_
  refine RA.q 12 (by kernel_rfl) rfl rfl rfl (.refl _) (OpQ.loadG zf8 rfl (fun w hH => (hH.use hS).r _ (getDm (show q < S.rs.length by omega))) (getMap zo (S.rs.getD q rx0).xs none (j := x) (by omega))) ?_
  refine RA.know 20 (v' := zo (S.sq.to q x)) rfl (congrArg zo (S.to_eq q x).symm) ?_
  refine RA.q 13 (by kernel_rfl) rfl rfl rfl (.refl _) (OpQ.eql rfl rfl) ?_
  refine RA.q 14 (by kernel_rfl) rfl rfl rfl (.refl _) (OpQ.pickF rfl rfl) ?_
  refine RA.tail ?_
  refine RT.done (by kernel_rfl) ?_
  refine PX.then_n ?_
  refine CT.cond rfl (fun h22 => ?_) (fun h22 => ?_)
  ·
   have h22 := of_decide_eq_true h22
   have hno : S.sq.to q x = none := oi_neg.1 h22
   refine CT.seq (CT.region ?_)
   refine Wl.q rfl rfl (OpQ.assign rfl) ?_
   refine Wl.nil (PX.then_n (CT.ret (PX.then_r ?_)))
   refine PX.ret1 rfl rfl (fun w' hH => ?_)
   exact ⟨by rw [ivf_none hpn hno], hH.ext⟩
  ·
   have h22 := of_decide_eq_false h22
   obtain ⟨r, hto⟩ := oi_some h22
   have hr := hv.lt q x r hqn (show x < S.sq.L from hx) hto
   have hot := hv.to' q x hqn (show x < S.sq.L from hx)
   have hoo := ho.o q x hqn (show x < S.sq.L from hx)
   have hn5x := hv.n5
   have hrm : r * D.da.n ≤ 512 * 512 := Nat.mul_le_mul (show r ≤ 512 by omega) (show D.da.n ≤ 512 by omega)
   have hrl2 : D.da.sy.run p (wl (S.sq.o q x)) < D.da.n := iv_lt hv hvD.daOk (by rw [← hvD.L_eq]; exact ho) hqn hpn (show x < S.sq.L from hx)
   refine CT.skip (PX.then_n (CT.seq ?_))
   refine CT.draw 29 zf6 ?_
   refine RA.q 0 (by kernel_rfl) rfl rfl rfl (.refl _) (OpQ.fieldAddr zf63 rfl) ?_
   refine RA.q 1 (by kernel_rfl) rfl rfl rfl (.refl _) (OpQ.loadG (a := some ⟨bg, 0, none⟩) (j := 3) zf20 rfl (fun w hH => hH.use hbg) rfl) ?_
   refine RA.q 2 (by kernel_rfl) rfl rfl rfl (.refl _) (OpQ.move rfl) ?_
   refine RA.q 3 (by kernel_rfl) rfl rfl rfl (.refl _) (OpQ.loadG (a := some ⟨bn, 0, none⟩) (j := 0) zf8 rfl (fun w hH => hH.use hbn) rfl) ?_
   refine RA.q 4 (by kernel_rfl) rfl rfl rfl (.refl _) (OpQ.quo rfl rfl ⟨by omega, by rw [qp_tdiv hpn]; omega, by rw [qp_tdiv hpn]; omega⟩) ?_
   refine RA.know 27 (v' := .int .i64 ((q : Nat) : Int)) rfl (congrArg (Value.int .i64) (qp_tdiv hpn)) ?_
   refine RA.q 5 (by kernel_rfl) rfl rfl rfl (.refl _) (OpQ.index1 zf21 zf23 rfl rfl (by omega) (hns (by omega))) ?_
   refine RA.q 6 (by kernel_rfl) rfl rfl rfl (.refl _) (OpQ.loadG zf10 rfl (fun w hH => (hH.use hS).n) (getMap rxv S.rs rx0 (j := q) (by omega))) ?_
   refine RA.q 7 (by kernel_rfl) rfl rfl rfl (.refl _) (OpQ.move rfl) ?_
   refine RA.q 8 (by kernel_rfl) rfl rfl rfl (.refl _) (OpQ.index1 zf0 zf1 rfl rfl (by omega) (hrs q (by omega) (by omega))) ?_
   refine RA.q 9 (by kernel_rfl) rfl rfl rfl (.refl _) (OpQ.loadG zf8 rfl (fun w hH => (hH.use hS).r _ (getDm (show q < S.rs.length by omega))) (getMap zo (S.rs.getD q rx0).xs none (j := x) (by omega))) ?_
   refine RA.know 32 (v' := .int .i64 ((r : Nat) : Int)) rfl ((congrArg zo (S.to_eq q x).symm).trans (by rw [hto]; rfl)) ?_
   refine RA.q 10 (by kernel_rfl) rfl rfl rfl (.refl _) (OpQ.loadG (a := some ⟨bn, 0, none⟩) (j := 0) zf8 rfl (fun w hH => hH.use hbn) rfl) ?_
   refine RA.q 11 (by kernel_rfl) rfl rfl rfl (.refl _) (OpQ.mul rfl rfl (by constructor <;> (rw [← Int.natCast_mul]; omega))) ?_
   refine RA.know 34 (v' := .int .i64 (((r * D.da.n) : Nat) : Int)) rfl (congrArg (Value.int .i64) (Int.natCast_mul r D.da.n).symm) ?_
   refine RA.q 12 (by kernel_rfl) rfl rfl rfl (.refl _) (OpQ.loadG (a := some ⟨br, 0, none⟩) (j := 0) zf120 rfl (fun w hH => hH.use hbr) rfl) ?_
   refine RA.q 13 (by kernel_rfl) rfl rfl rfl (.refl _) (OpQ.move rfl) ?_
   refine RA.q 14 (by kernel_rfl) rfl rfl rfl (.refl _) (OpQ.loadG (a := some ⟨bn, 0, none⟩) (j := 0) zf8 rfl (fun w hH => hH.use hbn) rfl) ?_
   refine RA.q 15 (by kernel_rfl) rfl rfl rfl (.refl _) (OpQ.rem rfl rfl (by omega)) ?_
   refine RA.know 38 (v' := .int .i64 ((p : Nat) : Int)) rfl (congrArg (Value.int .i64) (qp_tmod hpn)) ?_
   refine RA.q 16 (by kernel_rfl) rfl rfl rfl (.refl _) (OpQ.fieldAddr zf65 rfl) ?_
   refine RA.q 17 (by kernel_rfl) rfl rfl rfl (.refl _) (OpQ.loadG (a := some ⟨bg, 0, none⟩) (j := 4) zf66 rfl (fun w hH => hH.use hbg) rfl) ?_
   refine RA.q 18 (by kernel_rfl) rfl rfl rfl (.refl _) (OpQ.move rfl) ?_
   refine RA.q 19 (by kernel_rfl) rfl rfl rfl (.refl _) (OpQ.loadG (a := some ⟨bn, 0, none⟩) (j := 0) zf8 rfl (fun w hH => hH.use hbn) rfl) ?_
   refine RA.q 20 (by kernel_rfl) rfl rfl rfl (.refl _) (OpQ.quo rfl rfl ⟨by omega, by rw [qp_tdiv hpn]; omega, by rw [qp_tdiv hpn]; omega⟩) ?_
   refine RA.know 43 (v' := .int .i64 ((q : Nat) : Int)) rfl (congrArg (Value.int .i64) (qp_tdiv hpn)) ?_
   refine RA.q 21 (by kernel_rfl) rfl rfl rfl (.refl _) (OpQ.index1 zf67 zf68 rfl rfl (by omega) (hos (by omega))) ?_
   refine RA.q 22 (by kernel_rfl) rfl rfl rfl (.refl _) (OpQ.loadG zf69 rfl (fun w hH => (hH.use hS).o) (getMap rxv S.os rx0 (j := q) (by omega))) ?_
   refine RA.q 23 (by kernel_rfl) rfl rfl rfl (.refl _) (OpQ.move rfl) ?_
   refine RA.q 24 (by kernel_rfl) rfl rfl rfl (.refl _) (OpQ.index1 zf70 zf71 rfl rfl (by omega) (hus q (by omega) (by omega))) ?_
   refine RA.q 25 (by kernel_rfl) rfl rfl rfl (.refl _) (OpQ.loadG zf72 rfl (fun w hH => (hH.use hS).u _ (getDm (show q < S.os.length by omega))) (getMap sv (S.os.getD q rx0).xs [] (j := x) (by omega))) ?_
   refine RA.know 48 (v' := sv (S.sq.o q x)) rfl (congrArg sv (S.o_eq q x).symm) ?_
   refine RA.f 26 (by kernel_rfl) rfl rfl rfl (OpG.callFV rfl zf119 rfl (fun w hH => irun_spec w D (hH.stays0 hD) hvD bm (hH.stays0 hbm) p hpn2 (S.sq.o q x) hot hoo)) (fun _ _ => (.refl _)) ?_
   rintro _ _
   refine RA.q 27 (by kernel_rfl) rfl rfl rfl (.refl _) (OpQ.add rfl rfl (by omega)) ?_
   refine RA.q 28 (by kernel_rfl) rfl rfl rfl (.refl _) (OpQ.assign rfl) ?_
   refine RA.tail ?_
   refine RT.done (by kernel_rfl) ?_
   refine PX.then_n (CT.ret ?_)
   refine PX.ret1 rfl rfl (fun w' hH => ?_)
   exact ⟨by rw [ivf_some hpn hto]; exact congrArg (fun z => Ending.returned (Value.int .i64 z)) (by push_cast; rfl), hH.ext⟩

set_option maxRecDepth 100000 in
/-- semigroup/sequential.Inverse$3 -/
theorem ifinal_spec (w : World) (S : Sv) (hS : Stays [] w (svm S)) (hv : S.sq.Ok 4096) (D : Dv) (hD : Stays [] w (dvm D)) (hvD : D.Ok) (ho : S.sq.Over D.L) (hnD : D.fin.length ≤ 512) (bg bn bm br : Nat) (hbg : Stays [] w (fun w => Rd w (some ⟨bg, 0, none⟩) (svc S))) (hbn : Stays [] w (fun w => Rd w (some ⟨bn, 0, none⟩) [.int .i64 ((D.da.n : Nat) : Int)])) (hbm : Stays [] w (fun w => Rd w (some ⟨bm, 0, none⟩) (dvc D))) (hbr : Stays [] w (fun w => Rd w (some ⟨br, 0, none⟩) [.func (.func 59) #[] #[.pointer (some ⟨bm, 0, none⟩)]])) (s : Int) (hs : s = -1 ∨ ∃ q p, q < S.sq.n ∧ p < D.da.n ∧ s = ((q * D.da.n + p : Nat) : Int)) : Calls Try.prog 61 #[zz s, .pointer (some ⟨bg, 0, none⟩), .pointer (some ⟨bn, 0, none⟩), .pointer (some ⟨bm, 0, none⟩), .pointer (some ⟨br, 0, none⟩)] w (fun e w' => e = .returned (.bool (ive S.sq D.da s)) ∧ Ext [] w w') := by
 obtain ⟨hb1, hb2, hb3, hb4⟩ := hv.bnd
 obtain ⟨hlo, hle, hlf⟩ := hv.lens
 have hns : 0 < S.rs.length → S.na.isSome = true := fun h => hS.now.n.isSome (j := 0) (by rw [List.length_map]; exact h)
 have hos : 0 < S.os.length → S.oa.isSome = true := fun h => hS.now.o.isSome (j := 0) (by rw [List.length_map]; exact h)
 have hes : 0 < S.en.length → S.ea.isSome = true := fun h => hS.now.e.isSome (j := 0) (by rw [List.length_map]; exact h)
 have hfs : 0 < S.fi.length → S.fa.isSome = true := fun h => hS.now.f.isSome (j := 0) (by rw [List.length_map]; exact h)
 have hrs : ∀ q, q < S.rs.length → 0 < (S.rs.getD q rx0).xs.length → (S.rs.getD q rx0).a.isSome = true := fun q hq h => (hS.now.r _ (getDm hq)).isSome (j := 0) (by rw [List.length_map]; exact h)
 have hus : ∀ q, q < S.os.length → 0 < (S.os.getD q rx0).xs.length → (S.os.getD q rx0).a.isSome = true := fun q hq h => (hS.now.u _ (getDm hq)).isSome (j := 0) (by rw [List.length_map]; exact h)
 have hfD : 0 < D.fin.length → D.fa.isSome = true := fun h => hD.now.1.isSome (j := 0) (by rw [List.length_map]; exact h)
 refine enter (args := [zz s, .pointer (some ⟨bg, 0, none⟩), .pointer (some ⟨bn, 0, none⟩), .pointer (some ⟨bm, 0, none⟩), .pointer (some ⟨br, 0, none⟩)]) [] 36 Try.func61 rfl rfl rfl ?_
 refine CT.seq (CT.region ?_)
 refine Wl.q rfl rfl (OpQ.assign rfl) ?_
 refine Wl.nil (PX.then_n (CT.seq ?_))
 refine CT.draw 30 zf6 ?_
 refine RA.q 0 (by kernel_rfl) rfl rfl rfl (.refl _) (OpQ.move rfl) ?_
 refine RA.q 1 (by kernel_rfl) rfl rfl rfl (.refl _) (OpQ.neq rfl rfl) ?_
 refine RA.q 2 (by kernel_rfl) rfl rfl rfl (.refl _) (OpQ.move rfl) ?_
 refine RA.split 9 rfl (fun hg9 => ?_) (fun hg9 => ?_)
 ·
  have hg9 := of_nd_t hg9
  obtain ⟨q, p, hqn, hpn, rfl⟩ : ∃ q p, q < S.sq.n ∧ p < D.da.n ∧ s = ((q * D.da.n + p : Nat) : Int) := hs.resolve_left (by omega)
  have hqr : q < S.rs.length := by rw [← S.n_eq]; exact hqn
  have hpn2 : p < D.fin.length := hpn
  have hdn : D.da.n = D.fin.length := rfl
  have hqm : q * D.da.n + p < 512 * 512 + 512 := by have := Nat.mul_le_mul (show q ≤ 512 by omega) (show D.da.n ≤ 512 by omega); omega
  have hrl := hv.rlen (q := q) (by omega)
  have hol := hv.olen (q := q) (by omega)
  have hft := hv.tf q hqn
  have hfo := ho.f q hqn
  have hfr : D.da.sy.run p (wl (S.sq.f q)) < D.fin.length := iv_ltF hv hvD.daOk (by rw [← hvD.L_eq]; exact ho) hqn hpn
  refine RA.q 3 (by kernel_rfl) rfl rfl rfl (.refl _) (OpQ.fieldAddr zf75 rfl) ?_
  refine RA.q 4 (by kernel_rfl) rfl rfl rfl (.refl _) (OpQ.loadG (a := some ⟨bg, 0, none⟩) (j := 5) zf17 rfl (fun w hH => hH.use hbg) rfl) ?_
  refine RA.q 5 (by kernel_rfl) rfl rfl rfl (.refl _) (OpQ.move rfl) ?_
  refine RA.q 6 (by kernel_rfl) rfl rfl rfl (.refl _) (OpQ.loadG (a := some ⟨bn, 0, none⟩) (j := 0) zf8 rfl (fun w hH => hH.use hbn) rfl) ?_
  refine RA.q 7 (by kernel_rfl) rfl rfl rfl (.refl _) (OpQ.quo rfl rfl ⟨by omega, by rw [qp_tdiv hpn]; omega, by rw [qp_tdiv hpn]; omega⟩) ?_
  refine RA.know 14 (v' := .int .i64 ((q : Nat) : Int)) rfl (congrArg (Value.int .i64) (qp_tdiv hpn)) ?_
  refine RA.q 8 (by kernel_rfl) rfl rfl rfl (.refl _) (OpQ.index1 zf18 zf29 rfl rfl (by omega) (hes (by omega))) ?_
  refine RA.q 9 (by kernel_rfl) rfl rfl rfl (.refl _) (OpQ.loadG zf30 rfl (fun w hH => (hH.use hS).e) (getMap bo S.en false (j := q) (by omega))) ?_
  refine RA.know 16 (v' := .bool (S.sq.e q)) rfl rfl ?_
  refine RA.q 10 (by kernel_rfl) rfl rfl rfl (.refl _) (OpQ.pickT rfl rfl) ?_
  refine RA.q 11 (by kernel_rfl) rfl rfl rfl (.refl _) (OpQ.move rfl) ?_
  refine RA.split 18 rfl (fun hg18 => ?_) (fun hg18 => ?_)
  ·
   refine RA.q 12 (by kernel_rfl) rfl rfl rfl (.refl _) (OpQ.fieldAddr zf16 rfl) ?_
   refine RA.q 13 (by kernel_rfl) rfl rfl rfl (.refl _) (OpQ.loadG (a := some ⟨bm, 0, none⟩) (j := 2) zf17 rfl (fun w hH => hH.use hbm) rfl) ?_
   refine RA.q 14 (by kernel_rfl) rfl rfl rfl (.refl _) (OpQ.loadG (a := some ⟨br, 0, none⟩) (j := 0) zf120 rfl (fun w hH => hH.use hbr) rfl) ?_
   refine RA.q 15 (by kernel_rfl) rfl rfl rfl (.refl _) (OpQ.move rfl) ?_
   refine RA.q 16 (by kernel_rfl) rfl rfl rfl (.refl _) (OpQ.loadG (a := some ⟨bn, 0, none⟩) (j := 0) zf8 rfl (fun w hH => hH.use hbn) rfl) ?_
   refine RA.q 17 (by kernel_rfl) rfl rfl rfl (.refl _) (OpQ.rem rfl rfl (by omega)) ?_
   refine RA.know 24 (v' := .int .i64 ((p : Nat) : Int)) rfl (congrArg (Value.int .i64) (qp_tmod hpn)) ?_
   refine RA.q 18 (by kernel_rfl) rfl rfl rfl (.refl _) (OpQ.fieldAddr zf74 rfl) ?_
   refine RA.q 19 (by kernel_rfl) rfl rfl rfl (.refl _) (OpQ.loadG (a := some ⟨bg, 0, none⟩) (j := 6) zf69 rfl (fun w hH => hH.use hbg) rfl) ?_
   refine RA.q 20 (by kernel_rfl) rfl rfl rfl (.refl _) (OpQ.move rfl) ?_
   refine RA.q 21 (by kernel_rfl) rfl rfl rfl (.refl _) (OpQ.loadG (a := some ⟨bn, 0, none⟩) (j := 0) zf8 rfl (fun w hH => hH.use hbn) rfl) ?_
   refine RA.q 22 (by kernel_rfl) rfl rfl rfl (.refl _) (OpQ.quo rfl rfl ⟨by omega, by rw [qp_tdiv hpn]; omega, by rw [qp_tdiv hpn]; omega⟩) ?_
   refine RA.know 29 (v' := .int .i64 ((q : Nat) : Int)) rfl (congrArg (Value.int .i64) (qp_tdiv hpn)) ?_
   refine RA.q 23 (by kernel_rfl) rfl rfl rfl (.refl _) (OpQ.index1 zf70 zf71 rfl rfl (by omega) (hfs (by omega))) ?_
   refine RA.q 24 (by kernel_rfl) rfl rfl rfl (.refl _) (OpQ.loadG zf72 rfl (fun w hH => (hH.use hS).f) (getMap sv S.fi [] (j := q) (by omega))) ?_
   refine RA.know 31 (v' := sv (S.sq.f q)) rfl rfl ?_
   refine RA.f 25 (by kernel_rfl) rfl rfl rfl (OpG.callFV rfl zf119 rfl (fun w hH => irun_spec w D (hH.stays0 hD) hvD bm (hH.stays0 hbm) p hpn2 (S.sq.f q) hft hfo)) (fun _ _ => (.refl _)) ?_
   rintro _ _
   refine RA.q 26 (by kernel_rfl) rfl rfl rfl (.refl _) (OpQ.index1 zf18 zf29 rfl rfl (by omega) (hfD (by omega))) ?_
   refine RA.q 27 (by kernel_rfl) rfl rfl rfl (.refl _) (OpQ.loadG zf30 rfl (fun w hH => (hH.use hD).1) (getMap bo D.fin false (j := (D.da.sy.run p (wl (S.sq.f q)))) (by omega))) ?_
   refine RA.q 28 (by kernel_rfl) rfl rfl rfl (.refl _) (OpQ.pickT rfl rfl) ?_
   refine RA.q 29 (by kernel_rfl) rfl rfl rfl (.refl _) (OpQ.assign rfl) ?_
   refine RA.tail ?_
   refine RT.done (by kernel_rfl) ?_
   refine PX.then_n (CT.ret ?_)
   refine PX.ret1 rfl rfl (fun w' hH => ?_)
   exact ⟨by rw [ive_eq hpn, show S.sq.e q = true from hg18]; rfl, hH.ext⟩
  ·
   refine RA.skip 12 (by kernel_rfl) rfl rfl rfl (.refl _) ?_
   refine RA.skip 13 (by kernel_rfl) rfl rfl rfl (.refl _) ?_
   refine RA.skip 14 (by kernel_rfl) rfl rfl rfl (.refl _) ?_
   refine RA.skip 15 (by kernel_rfl) rfl rfl rfl (.refl _) ?_
   refine RA.skip 16 (by kernel_rfl) rfl rfl rfl (.refl _) ?_
   refine RA.skip 17 (by kernel_rfl) rfl rfl rfl (.refl _) ?_
   refine RA.skip 18 (by kernel_rfl) rfl rfl rfl (.refl _) ?_
   refine RA.skip 19 (by kernel_rfl) rfl rfl rfl (.refl _) ?_
   refine RA.skip 20 (by kernel_rfl) rfl rfl rfl (.refl _) ?_
   refine RA.skip 21 (by kernel_rfl) rfl rfl rfl (.refl _) ?_
   refine RA.skip 22 (by kernel_rfl) rfl rfl rfl (.refl _) ?_
   refine RA.skip 23 (by kernel_rfl) rfl rfl rfl (.refl _) ?_
   refine RA.skip 24 (by kernel_rfl) rfl rfl rfl (.refl _) ?_
   refine RA.skip 25 (by kernel_rfl) rfl rfl rfl (.refl _) ?_
   refine RA.skip 26 (by kernel_rfl) rfl rfl rfl (.refl _) ?_
   refine RA.skip 27 (by kernel_rfl) rfl rfl rfl (.refl _) ?_
   refine RA.q 28 (by kernel_rfl) rfl rfl rfl (.refl _) (OpQ.pickF rfl rfl) ?_
   refine RA.q 29 (by kernel_rfl) rfl rfl rfl (.refl _) (OpQ.assign rfl) ?_
   refine RA.tail ?_
   refine RT.done (by kernel_rfl) ?_
   refine PX.then_n (CT.ret ?_)
   refine PX.ret1 rfl rfl (fun w' hH => ?_)
   exact ⟨by rw [ive_eq hpn, show S.sq.e q = false from hg18]; rfl, hH.ext⟩
 ·
  have hg9 := of_nd_f hg9
  subst hg9
  refine RA.skip 3 (by kernel_rfl) rfl rfl rfl (.refl _) ?_
  refine RA.skip 4 (by kernel_rfl) rfl rfl rfl (.refl _) ?_
  refine RA.skip 5 (by kernel_rfl) rfl rfl rfl (.refl _) ?_
  refine RA.skip 6 (by kernel_rfl) rfl rfl rfl (.refl _) ?_
  refine RA.skip 7 (by kernel_rfl) rfl rfl rfl (.refl _) ?_
  refine RA.skip 8 (by kernel_rfl) rfl rfl rfl (.refl _) ?_
  refine RA.skip 9 (by kernel_rfl) rfl rfl rfl (.refl _) ?_
  refine RA.q 10 (by kernel_rfl) rfl rfl rfl (.refl _) (OpQ.pickF rfl rfl) ?_
  refine RA.q 11 (by kernel_rfl) rfl rfl rfl (.refl _) (OpQ.move rfl) ?_
  refine RA.skip 12 (by kernel_rfl) rfl rfl rfl (.refl _) ?_
  refine RA.skip 13 (by kernel_rfl) rfl rfl rfl (.refl _) ?_
  refine RA.skip 14 (by kernel_rfl) rfl rfl rfl (.refl _) ?_
  refine RA.skip 15 (by kernel_rfl) rfl rfl rfl (.refl _) ?_
  refine RA.skip 16 (by kernel_rfl) rfl rfl rfl (.refl _) ?_
  refine RA.skip 17 (by kernel_rfl) rfl rfl rfl (.refl _) ?_
  refine RA.skip 18 (by kernel_rfl) rfl rfl rfl (.refl _) ?_
  refine RA.skip 19 (by kernel_rfl) rfl rfl rfl (.refl _) ?_
  refine RA.skip 20 (by kernel_rfl) rfl rfl rfl (.refl _) ?_
  refine RA.skip 21 (by kernel_rfl) rfl rfl rfl (.refl _) ?_
  refine RA.skip 22 (by kernel_rfl) rfl rfl rfl (.refl _) ?_
  refine RA.skip 23 (by kernel_rfl) rfl rfl rfl (.refl _) ?_
  refine RA.skip 24 (by kernel_rfl) rfl rfl rfl (.refl _) ?_
  refine RA.skip 25 (by kernel_rfl) rfl rfl rfl (.refl _) ?_
  refine RA.skip 26 (by kernel_rfl) rfl rfl rfl (.refl _) ?_
  refine RA.skip 27 (by kernel_rfl) rfl rfl rfl (.refl _) ?_
  refine RA.q 28 (by kernel_rfl) rfl rfl rfl (.refl _) (OpQ.pickF rfl rfl) ?_
  refine RA.q 29 (by kernel_rfl) rfl rfl rfl (.refl _) (OpQ.assign rfl) ?_
  refine RA.tail ?_
  refine RT.done (by kernel_rfl) ?_
  refine PX.then_n (CT.ret ?_)
  refine PX.ret1 rfl rfl (fun w' hH => ?_)
  exact ⟨rfl, hH.ext⟩

end Go.Proofs.Ytamolakhpcofhaa

