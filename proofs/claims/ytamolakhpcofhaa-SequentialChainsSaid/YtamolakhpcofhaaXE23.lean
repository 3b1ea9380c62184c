/-
  What functions of the program compute, each by its walk. Conditions: those that each theorem names.
-/
import Derived.Test.YtamolakhpcofhaaMod1
import Derived.Test.YtamolakhpcofhaaXE3
import Derived.Test.YtamolakhpcofhaaXE20
set_option linter.unusedSimpArgs false
namespace Go.Proofs.Ytamolakhpcofhaa
open Go Go.Eng Go.Am Go.Sq
open Go.Tp (zi)
open Go.Tl (mayL Wd okW okB bo)

theorem RW_mkP : MapKey Try.prog 82 kp := MapKey.struct (n := 2) (by kernel_rfl) (fun p : Nat × Nat => [(p.1 : Int), (p.2 : Int)]) (fun _ => rfl) kp_inj
theorem RW_un76 : Try.prog.underlying 76 = some (.slice 82) := by kernel_rfl
theorem RW_in82 : (Try.prog.info? 82).map (fun i => (i.zero, i.size, i.bytes)) = some (some (.agg #[.int .i64 0, .int .i64 0]), 2, 16) := by kernel_rfl
theorem RW_mixed : Try.prog.follows .mixedOrders = true := by kernel_rfl
theorem RW_fa78_4 : fieldB Try.prog 78 4 = some 22 := by kernel_rfl
theorem RW_sc75 : scalarB Try.prog 75 = some true := by kernel_rfl
theorem RW_ag82 : isAggB Try.prog 82 = some true := by kernel_rfl
theorem RW_sz82 : sizeB Try.prog 82 = some 2 := by kernel_rfl
theorem RW_un75 : Try.prog.underlying 75 = some (.map 82 3) := by kernel_rfl
theorem RW_in3 : (Try.prog.info? 3).map (fun i => (i.zero, i.size, i.bytes)) = some (some (.int .i64 0), 1, 8) := by kernel_rfl
theorem RW_fa78_3 : fieldB Try.prog 78 3 = some 21 := by kernel_rfl
theorem RW_sc76 : scalarB Try.prog 76 = some true := by kernel_rfl
theorem RW_sz76 : sizeB Try.prog 76 = some 1 := by kernel_rfl
theorem RW_fa78_5 : fieldB Try.prog 78 5 = some 23 := by kernel_rfl
theorem RW_sc4 : scalarB Try.prog 4 = some true := by kernel_rfl
theorem RW_sz4 : sizeB Try.prog 4 = some 1 := by kernel_rfl
set_option maxRecDepth 100000 in
/-- (*semigroup/sequential.composer).add -/
theorem cadd_spec (w : World) (b m : Nat) (F G : Sv) (h0 h1 h2 h3 h4 h5 h6 : Value) (l : List (Nat × Nat)) (a : Option Addr) (c : Nat) (hpre : Pre [.row 78 24 (vb b) 1 [zn F.L, zn F.s, sv F.init, .slice F.na F.rs.length F.nc, .slice F.oa F.os.length F.oc, .slice F.ea F.en.length F.ec, .slice F.fa F.fi.length F.fc, zn G.L, zn G.s, sv G.init, .slice G.na G.rs.length G.nc, .slice G.oa G.os.length G.oc, .slice G.ea G.en.length G.ec, .slice G.fa G.fi.length G.fc, h0, h1, h2, h3, h4, h5, h6, .slice a l.length c, .map (some m), .bool true], .row 82 2 (.slice a l.length c) l.length (l.flatMap stv), .blk m (mapO kp (itA 0 l))] w) (hl : l.length < 512) (x : Nat × Nat) : Calls Try.prog 43 #[.pointer (some ⟨b, 0, none⟩), kp x] w (fun e w' => ∃ i : Option Addr × Nat, True ∧ e = .returned (.int .i64 (((addN l x).2 : Nat) : Int)) ∧ Post (blks [.row 78 24 (vb b) 1 [zn F.L, zn F.s, sv F.init, .slice F.na F.rs.length F.nc, .slice F.oa F.os.length F.oc, .slice F.ea F.en.length F.ec, .slice F.fa F.fi.length F.fc, zn G.L, zn G.s, sv G.init, .slice G.na G.rs.length G.nc, .slice G.oa G.os.length G.oc, .slice G.ea G.en.length G.ec, .slice G.fa G.fi.length G.fc, h0, h1, h2, h3, h4, h5, h6, .slice a l.length c, .map (some m), .bool true], .row 82 2 (.slice a l.length c) l.length (l.flatMap stv), .blk m (mapO kp (itA 0 l))]) [.row 78 24 (vb b) 1 [zn F.L, zn F.s, sv F.init, .slice F.na F.rs.length F.nc, .slice F.oa F.os.length F.oc, .slice F.ea F.en.length F.ec, .slice F.fa F.fi.length F.fc, zn G.L, zn G.s, sv G.init, .slice G.na G.rs.length G.nc, .slice G.oa G.os.length G.oc, .slice G.ea G.en.length G.ec, .slice G.fa G.fi.length G.fc, h0, h1, h2, h3, h4, h5, h6, .slice i.1 (addN l x).1.length i.2, .map (some m), .bool true], .row 82 2 (.slice i.1 (addN l x).1.length i.2) (addN l x).1.length ((addN l x).1.flatMap stv), .blk m (mapO kp (itA 0 (addN l x).1))] w w') := by
 refine enterX (args := [.pointer (some ⟨b, 0, none⟩), kp x]) hpre 55 Try.func43 rfl rfl rfl ?_
 refine CT.seq ?_
 refine CT.region ?_
 refine Wl.g rfl rfl (OpG.box (size := 2) rfl rfl rfl) ?_
 rintro b3 _
 refine Wl.q rfl rfl (OpQ.assign rfl) ?_
 refine Wl.nil ?_
 refine PX.then_n ?_
 refine CT.seq ?_
 refine CT.draw 11 RW_mixed ?_
 refine RA.q 0 (by kernel_rfl) rfl rfl rfl (.refl _) (OpQ.move rfl) ?_
 refine RA.q 1 (by kernel_rfl) rfl rfl rfl (.refl _) (OpQ.nilCheckP rfl) ?_
 refine RA.q 2 (by kernel_rfl) rfl rfl rfl (.refl _) (OpQ.fieldAddr RW_fa78_4 rfl) ?_
 refine RA.q 3 (by kernel_rfl) rfl rfl rfl (.refl _) (OpQ.loadF (b := b) RW_sc75 rfl (by repeat (first | exact Has.here | apply Has.there)) (by rfl)) ?_
 refine RA.q 4 (by kernel_rfl) rfl rfl rfl (.refl _) (OpQ.loadV (b := b3) RW_ag82 RW_sz82 rfl (by repeat (first | exact Has.here | apply Has.there)) (by rfl)) ?_
 refine RA.q 5 (by kernel_rfl) rfl rfl rfl (.refl _) (OpQ.lookup (f := kp) (x := x) (l := (itA 0 l)) RW_mkP RW_un75 RW_in3 rfl rfl (by repeat (first | exact Has.here | apply Has.there)) (by rw [if_pos rfl, getA_itA, ix_val, ix_is])) ?_
 refine RA.q 6 (by kernel_rfl) rfl rfl rfl (.refl _) (OpQ.move rfl) ?_
 refine RA.q 7 (by kernel_rfl) rfl rfl rfl (.refl _) (OpQ.extract rfl rfl) ?_
 refine RA.q 8 (by kernel_rfl) rfl rfl rfl (.refl _) (OpQ.extract rfl rfl) ?_
 refine RA.q 9 (by kernel_rfl) rfl rfl rfl (.refl _) (OpQ.assign rfl) ?_
 refine RA.q 10 (by kernel_rfl) rfl rfl rfl (.refl _) (OpQ.assign rfl) ?_
 refine RA.tail ?_
 refine RT.done (by kernel_rfl) ?_
 refine PX.then_n ?_
 refine CT.seq ?_
 refine CT.seq ?_
 refine CT.region ?_
 refine Wl.q rfl rfl (OpQ.move rfl) ?_
 refine Wl.q rfl rfl (OpQ.not rfl) ?_
 refine Wl.nil ?_
 refine PX.then_n ?_
 refine CT.cond rfl (fun h17 => ?_) (fun h17 => ?_)
 ·
  have hix : ixA x 0 l = none := by simpa using h17
  have hnx := ixA_none hix
  refine CT.seq ?_
  refine CT.region ?_
  refine Wl.q rfl rfl (OpQ.move rfl) ?_
  refine Wl.q rfl rfl (OpQ.nilCheckP rfl) ?_
  refine Wl.q rfl rfl (OpQ.fieldAddr RW_fa78_3 rfl) ?_
  refine Wl.q rfl rfl (OpQ.loadF (b := b) RW_sc76 rfl (by repeat (first | exact Has.here | apply Has.there)) (by rfl)) ?_
  refine Wl.q rfl rfl (OpQ.len RW_un76 rfl) ?_
  refine Wl.q rfl rfl (OpQ.assign rfl) ?_
  refine Wl.nil ?_
  refine PX.then_n ?_
  refine CT.seq ?_
  refine CT.draw 6 RW_mixed ?_
  refine RA.q 0 (by kernel_rfl) rfl rfl rfl (.refl _) (OpQ.move rfl) ?_
  refine RA.q 1 (by kernel_rfl) rfl rfl rfl (.refl _) (OpQ.nilCheckP rfl) ?_
  refine RA.q 2 (by kernel_rfl) rfl rfl rfl (.refl _) (OpQ.fieldAddr RW_fa78_4 rfl) ?_
  refine RA.q 3 (by kernel_rfl) rfl rfl rfl (.refl _) (OpQ.loadF (b := b) RW_sc75 rfl (by repeat (first | exact Has.here | apply Has.there)) (by rfl)) ?_
  refine RA.q 4 (by kernel_rfl) rfl rfl rfl (.refl _) (OpQ.loadV (b := b3) RW_ag82 RW_sz82 rfl (by repeat (first | exact Has.here | apply Has.there)) (by rfl)) ?_
  refine RA.q 5 (by kernel_rfl) rfl rfl rfl (.refl _) (OpQ.move rfl) ?_
  refine RA.tail ?_
  refine RT.f 6 (by kernel_rfl) rfl rfl rfl (OpG.mapNew (f := kp) (x := x) (l := (itA 0 l)) RW_mkP RW_un75 rfl rfl rfl (by rw [getA_itA, hix]; rfl) (by repeat (first | exact Upd.here | apply Upd.there))) ?_
  rintro _ _
  refine RT.done (by kernel_rfl) ?_
  refine PX.then_n ?_
  refine CT.seq ?_
  refine CT.draw' (Hc := [.row 82 2 (vb b3) 1 [zn x.1, zn x.2], .row 78 24 (vb b) 1 [zn F.L, zn F.s, sv F.init, .slice F.na F.rs.length F.nc, .slice F.oa F.os.length F.oc, .slice F.ea F.en.length F.ec, .slice F.fa F.fi.length F.fc, zn G.L, zn G.s, sv G.init, .slice G.na G.rs.length G.nc, .slice G.oa G.os.length G.oc, .slice G.ea G.en.length G.ec, .slice G.fa G.fi.length G.fc, h0, h1, h2, h3, h4, h5, h6, .slice a l.length c, .map (some m), .bool true], .blk m (mapO kp (itA 0 l ++ [(x, .int .i64 ((l.length : Nat) : Int))]))]) 8 RW_mixed ?_
  refine RA.q 0 (by kernel_rfl) rfl rfl rfl (.cons_cons _ (.cons_cons _ (.cons _ (.cons_cons _ (.refl _))))) (OpQ.move rfl) ?_
  refine RA.q 1 (by kernel_rfl) rfl rfl rfl (.cons_cons _ (.cons_cons _ (.cons _ (.cons_cons _ (.refl _))))) (OpQ.move rfl) ?_
  refine RA.q 2 (by kernel_rfl) rfl rfl rfl (.cons_cons _ (.cons_cons _ (.cons _ (.cons_cons _ (.refl _))))) (OpQ.nilCheckP rfl) ?_
  refine RA.q 3 (by kernel_rfl) rfl rfl rfl (.cons_cons _ (.cons_cons _ (.cons _ (.cons_cons _ (.refl _))))) (OpQ.fieldAddr RW_fa78_3 rfl) ?_
  refine RA.q 4 (by kernel_rfl) rfl rfl rfl (.cons_cons _ (.cons_cons _ (.cons _ (.cons_cons _ (.refl _))))) (OpQ.loadF (b := b) RW_sc76 rfl (by repeat (first | exact Has.here | apply Has.there)) (by rfl)) ?_
  refine RA.q 5 (by kernel_rfl) rfl rfl rfl (.cons_cons _ (.cons_cons _ (.cons _ (.cons_cons _ (.refl _))))) (OpQ.loadV (b := b3) RW_ag82 RW_sz82 rfl (by repeat (first | exact Has.here | apply Has.there)) (by rfl)) ?_
  refine RA.f 6 (by kernel_rfl) rfl rfl rfl (OpG.litS1 RW_un76 RW_in82 rfl (by decide) rfl) (fun _ _ => (.cons _ (.cons_cons _ (.cons_cons _ (.cons _ (.cons_cons _ (.refl _))))))) ?_
  rintro b35 _
  refine RA.f 7 (by kernel_rfl) rfl rfl rfl (OpG.append RW_un76 RW_in82 (by rfl) (by decide) rfl rfl (p := 3) rfl (fun w hH => hH.rd .here) ⟨rfl, (by simp [Value.oneCell']), (by omega), (by omega)⟩ (nm := (l ++ [x]).length) (by rw [List.length_append]; rfl) (all := (l ++ [x]).flatMap stv) (by rw [List.flatMap_append]; rfl)) (fun _ _ => (.cons _ (.cons_cons _ (.cons_cons _ (.cons _ (.cons_cons _ (.refl _))))))) ?_
  rintro ⟨a36, c36⟩ h36
  refine RA.tail ?_
  refine RT.q 8 (by kernel_rfl) rfl rfl rfl (OpQ.nilCheckP rfl) ?_
  refine RT.q 9 (by kernel_rfl) rfl rfl rfl (OpQ.fieldAddr RW_fa78_3 rfl) ?_
  refine RT.f 10 (by kernel_rfl) rfl rfl rfl (OpG.storeRow (a := some ⟨b, 0, none⟩) RW_sz76 rfl rfl rfl (by repeat (first | exact Upd.here | apply Upd.there)) (by simp)) ?_
  rintro _ _
  refine RT.done (by kernel_rfl) ?_
  refine PX.then_n ?_
  refine CT.region ?_
  refine Wl.q rfl rfl (OpQ.move rfl) ?_
  refine Wl.q rfl rfl (OpQ.move rfl) ?_
  refine Wl.q rfl rfl (OpQ.nilCheckP rfl) ?_
  refine Wl.q rfl rfl (OpQ.fieldAddr RW_fa78_5 rfl) ?_
  refine Wl.q rfl rfl (OpQ.loadF (b := b) RW_sc4 rfl (by repeat (first | exact Has.here | apply Has.there)) (by rfl)) ?_
  refine Wl.know 43 (v' := .bool true) rfl (congrArg Value.bool rfl) ?_
  refine Wl.q rfl rfl (OpQ.move rfl) ?_
  refine Wl.q rfl rfl (OpQ.move rfl) ?_
  refine Wl.q rfl rfl (OpQ.nilCheckP rfl) ?_
  refine Wl.q rfl rfl (OpQ.fieldAddr RW_fa78_3 rfl) ?_
  refine Wl.q rfl rfl (OpQ.loadF (b := b) RW_sc76 rfl (by repeat (first | exact Has.here | apply Has.there)) (by rfl)) ?_
  refine Wl.q rfl rfl (OpQ.len RW_un76 rfl) ?_
  refine Wl.q rfl rfl (OpQ.leq rfl rfl) ?_
  refine Wl.know 50 (v' := .bool true) rfl (congrArg Value.bool (decide_eq_true (by rw [List.length_append]; show ((l.length + 1 : Nat) : Int) ≤ 512; omega))) ?_
  refine Wl.q rfl rfl (OpQ.pickT rfl rfl) ?_
  refine Wl.q rfl rfl (OpQ.nilCheckP rfl) ?_
  refine Wl.q rfl rfl (OpQ.fieldAddr RW_fa78_5 rfl) ?_
  refine Wl.g rfl rfl (OpG.storeRow (a := some ⟨b, 0, none⟩) RW_sz4 rfl rfl rfl (by repeat (first | exact Upd.here | apply Upd.there)) (by simp)) ?_
  rintro _ _
  refine Wl.nil ?_
  refine PX.then_n ?_
  refine CT.seq ?_
  refine CT.region ?_
  refine Wl.q rfl rfl (OpQ.move rfl) ?_
  refine Wl.q rfl rfl (OpQ.assign rfl) ?_
  refine Wl.nil ?_
  refine PX.then_n ?_
  refine CT.ret ?_
  refine PX.ret1 rfl rfl (fun w' hH => ?_)
  exact ⟨(a36, c36), trivial, by rw [addN_out hnx], (hH.take (.cons (.there (.there .here)) (.cons (.there (.there .here)) (.cons (.there (.there .here)) .nil)))).post.conv (by rw [addN_out hnx, itA_snoc, Nat.zero_add]; exact HSub.refl _)⟩
 ·
  have hix : ¬ ixA x 0 l = none := fun hh => by rw [hh] at h17; exact absurd h17 (by decide)
  obtain ⟨hx1, hx2⟩ := ix_in hix
  refine CT.skip ?_
  refine PX.then_n ?_
  refine CT.seq ?_
  refine CT.region ?_
  refine Wl.q rfl rfl (OpQ.move rfl) ?_
  refine Wl.q rfl rfl (OpQ.assign rfl) ?_
  refine Wl.nil ?_
  refine PX.then_n ?_
  refine CT.ret ?_
  refine PX.ret1 rfl rfl (fun w' hH => ?_)
  exact ⟨(a, c), trivial, by rw [hx2]; rfl, (hH.take (.cons (.there .here) (.cons (.there .here) (.cons (.there .here) .nil)))).post.conv (by rw [hx1]; exact HSub.refl _)⟩

theorem RW_un9 : Try.prog.underlying 9 = some .string := by kernel_rfl
set_option maxRecDepth 100000 in
/-- (*semigroup/sequential.composer).written -/
theorem cwritten_spec (w : World) (p : Value) (u v : Wd) (huv : u.length + v.length ≤ 4096) : Calls Try.prog 42 #[p, sv u, sv v] w (fun e w' => e = .returned (sv (u ++ v)) ∧ Ext [] w w') := by
 refine enter (args := [p, sv u, sv v]) [] 19 Try.func42 rfl rfl rfl ?_
 refine CT.seq ?_
 refine CT.region ?_
 refine Wl.q rfl rfl (OpQ.assign rfl) ?_
 refine Wl.nil ?_
 refine PX.then_n ?_
 refine CT.seq ?_
 refine CT.seq ?_
 refine CT.region ?_
 refine Wl.q rfl rfl (OpQ.move rfl) ?_
 refine Wl.q rfl rfl (OpQ.lenSv RW_un9 rfl) ?_
 refine Wl.q rfl rfl (OpQ.move rfl) ?_
 refine Wl.q rfl rfl (OpQ.lenSv RW_un9 rfl) ?_
 refine Wl.q rfl rfl (OpQ.add rfl rfl (by omega)) ?_
 refine Wl.q rfl rfl (OpQ.gtr rfl rfl) ?_
 refine Wl.know 12 (v' := .bool false) rfl (congrArg Value.bool (decide_eq_false (by omega))) ?_
 refine Wl.nil ?_
 refine PX.then_n ?_
 refine CT.condF rfl ?_
 refine CT.skip ?_
 refine PX.then_n ?_
 refine CT.seq ?_
 refine CT.region ?_
 refine Wl.q rfl rfl (OpQ.move rfl) ?_
 refine Wl.q rfl rfl (OpQ.move rfl) ?_
 refine Wl.q rfl rfl (OpQ.concat rfl rfl (by omega)) ?_
 refine Wl.q rfl rfl (OpQ.assign rfl) ?_
 refine Wl.nil ?_
 refine PX.then_n ?_
 refine CT.ret ?_
 refine PX.ret1 rfl rfl (fun w' hH => ?_)
 exact ⟨rfl, hH.ext⟩

end Go.Proofs.Ytamolakhpcofhaa

