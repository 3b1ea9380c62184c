/-
  What functions of the program compute, each by its walk. Conditions: those that each theorem names.
-/
import Derived.Test.YtamolakhpcofhaaXE10
import Derived.Test.YtamolakhpcofhaaXE11
import Derived.Test.YtamolakhpcofhaaEng1
import Derived.Test.YtamolakhpcofhaaEng
import Derived.Test.YtamolakhpcofhaaMod1
set_option linter.unusedSimpArgs false
namespace Go.Proofs.Ytamolakhpcofhaa
open Go Go.Eng Go.Am Go.Sq
open Go.Tl (mayL Wd okW okB bo)

theorem RL_un25 : Try.prog.underlying 25 = some (.slice 22) := by kernel_rfl
theorem RL_in22 : (Try.prog.info? 22).map (fun i => (i.zero, i.size, i.bytes)) = some (some (.slice none 0 0), 1, 24) := by kernel_rfl
theorem RL_un26 : Try.prog.underlying 26 = some (.slice 28) := by kernel_rfl
theorem RL_in28 : (Try.prog.info? 28).map (fun i => (i.zero, i.size, i.bytes)) = some (some (.slice none 0 0), 1, 24) := by kernel_rfl
theorem RL_un27 : Try.prog.underlying 27 = some (.slice 4) := by kernel_rfl
theorem RL_in4 : (Try.prog.info? 4).map (fun i => (i.zero, i.size, i.bytes)) = some (some (.bool false), 1, 1) := by kernel_rfl
theorem RL_un28 : Try.prog.underlying 28 = some (.slice 9) := by kernel_rfl
theorem RL_in9 : (Try.prog.info? 9).map (fun i => (i.zero, i.size, i.bytes)) = some (some (.string ⟨#[]⟩), 1, 16) := by kernel_rfl
theorem RL_pl30 : placesB Try.prog 30 = some (#[.int .i64 0, .int .i64 0, .string ⟨#[]⟩, .slice none 0 0, .slice none 0 0, .slice none 0 0, .slice none 0 0], [(0, 1), (1, 1), (2, 1), (3, 1), (4, 1), (5, 1), (6, 1)]) := by kernel_rfl
theorem RL_in30 : (Try.prog.info? 30).map (fun i => (i.zero, i.size, i.bytes)) = some (some (.agg #[.int .i64 0, .int .i64 0, .string ⟨#[]⟩, .slice none 0 0, .slice none 0 0, .slice none 0 0, .slice none 0 0]), 7, 128) := by kernel_rfl
theorem RL_un22 : Try.prog.underlying 22 = some (.slice 3) := by kernel_rfl
theorem RL_sz9 : sizeB Try.prog 9 = some 1 := by kernel_rfl
theorem RL_ag30 : isAggB Try.prog 30 = some true := by kernel_rfl
theorem RL_sz30 : sizeB Try.prog 30 = some 7 := by kernel_rfl
theorem RL_go12 : isGo Try.prog 12 = true := by kernel_rfl
theorem RL_go36 : isGo Try.prog 36 = true := by kernel_rfl
theorem RL_mixed : Try.prog.follows .mixedOrders = true := by kernel_rfl
theorem RL_fa30_0 : fieldB Try.prog 30 0 = some 0 := by kernel_rfl
theorem RL_sc3 : scalarB Try.prog 3 = some true := by kernel_rfl
theorem RL_fa30_1 : fieldB Try.prog 30 1 = some 1 := by kernel_rfl
theorem RL_sz3 : sizeB Try.prog 3 = some 1 := by kernel_rfl
theorem RL_fa30_2 : fieldB Try.prog 30 2 = some 2 := by kernel_rfl
theorem RL_sc9 : scalarB Try.prog 9 = some true := by kernel_rfl
theorem RL_fa30_3 : fieldB Try.prog 30 3 = some 3 := by kernel_rfl
theorem RL_sc25 : scalarB Try.prog 25 = some true := by kernel_rfl
theorem RL_sz22 : sizeB Try.prog 22 = some 1 := by kernel_rfl
theorem RL_sc22 : scalarB Try.prog 22 = some true := by kernel_rfl
theorem RL_go37 : isGo Try.prog 37 = true := by kernel_rfl
theorem RL_fa30_4 : fieldB Try.prog 30 4 = some 4 := by kernel_rfl
theorem RL_sc26 : scalarB Try.prog 26 = some true := by kernel_rfl
theorem RL_sz28 : sizeB Try.prog 28 = some 1 := by kernel_rfl
theorem RL_sc28 : scalarB Try.prog 28 = some true := by kernel_rfl
theorem RL_fa30_5 : fieldB Try.prog 30 5 = some 5 := by kernel_rfl
theorem RL_sc27 : scalarB Try.prog 27 = some true := by kernel_rfl
theorem RL_fa30_6 : fieldB Try.prog 30 6 = some 6 := by kernel_rfl
theorem RL_sz4 : sizeB Try.prog 4 = some 1 := by kernel_rfl
theorem RL_sc4 : scalarB Try.prog 4 = some true := by kernel_rfl
theorem RL_go32 : isGo Try.prog 32 = true := by kernel_rfl
set_option maxRecDepth 100000 in
set_option maxHeartbeats 1000000 in
/-- semigroup/sequential.Minimal -/
theorem sminimal_spec (w : World) {M : Nat} (S : Sv) (hS : Stays [] w (svm S)) (hv : S.sq.Ok M) (hM4 : M ≤ 4096) (hMn : (S.sq.n + 1) * M ≤ 4096) : Calls Try.prog 13 #[svv S] w (fun e w' => ∃ i : Sv, (IsMini S.sq i.sq ∧ i.sq.Ok ((S.sq.n + 1) * M) ∧ i.sq.n ≤ S.sq.n ∧ ∀ g, IsNorm S.sq g → i.sq.n ≤ g.n) ∧ e = .returned (.tuple #[svv i, .int .i64 ((0 : Nat) : Int)]) ∧ Post [] (svH i 3 22 4 9 28) w w') := by
 obtain ⟨hb1, hb2, hb3, hb4⟩ := hv.bnd
 obtain ⟨hlo, hle, hlf⟩ := hv.lens
 have hns : 0 < S.rs.length → S.na.isSome = true := fun h => hS.now.n.isSome (j := 0) (by rw [List.length_map]; exact h)
 have hos : 0 < S.os.length → S.oa.isSome = true := fun h => hS.now.o.isSome (j := 0) (by rw [List.length_map]; exact h)
 have hes : 0 < S.en.length → S.ea.isSome = true := fun h => hS.now.e.isSome (j := 0) (by rw [List.length_map]; exact h)
 have hfs : 0 < S.fi.length → S.fa.isSome = true := fun h => hS.now.f.isSome (j := 0) (by rw [List.length_map]; exact h)
 have hrs : ∀ q, q < S.rs.length → 0 < (S.rs.getD q rx0).xs.length → (S.rs.getD q rx0).a.isSome = true := fun q hq h => (hS.now.r _ (getDm hq)).isSome (j := 0) (by rw [List.length_map]; exact h)
 have hus : ∀ q, q < S.os.length → 0 < (S.os.getD q rx0).xs.length → (S.os.getD q rx0).a.isSome = true := fun q hq h => (hS.now.u _ (getDm hq)).isSome (j := 0) (by rw [List.length_map]; exact h)
 refine enter (args := [svv S]) [] 125 Try.func13 rfl rfl rfl ?_
 refine CT.seq ?_
 refine CT.region ?_
 refine Wl.g rfl rfl (OpG.box (size := 7) rfl rfl rfl) ?_
 rintro b1 _
 refine Wl.g rfl rfl (OpG.alloc (zs := [.int .i64 0, .int .i64 0, .string ⟨#[]⟩, .slice none 0 0, .slice none 0 0, .slice none 0 0, .slice none 0 0]) RL_in30 rfl rfl) ?_
 rintro b2 _
 refine Wl.q rfl rfl (OpQ.assign rfl) ?_
 refine Wl.nil ?_
 refine PX.then_n ?_
 refine CT.seq ?_
 refine CT.region ?_
 refine Wl.q rfl rfl (OpQ.loadV (b := b1) RL_ag30 RL_sz30 rfl (by repeat (first | exact Has.here | apply Has.there)) (by rfl)) ?_
 refine Wl.know 16 (v' := svv S) rfl rfl ?_
 refine Wl.g rfl rfl (OpG.callX RL_go12 rfl .nil (fun _ => (App.of _ _)) (fun w hH hp => normal_spec w S (hH.stays0 hS) hv hM4 hMn)) ?_
 rintro G hG
 obtain ⟨hGN, hGM⟩ := hG
 refine Wl.as (fun _ h => HOk.bindR (A := [.row 30 7 (vb b2) 1 [.int .i64 0, .int .i64 0, .string ⟨#[]⟩, .slice none 0 0, .slice none 0 0, .slice none 0 0, .slice none 0 0], .row 30 7 (vb b1) 1 (svc S)]) (L := svH G 3 22 4 9 28) (p := svm G) (HOk.swap (A := svH G 3 22 4 9 28) h) (fun w hk => svm_of hk)) ?_
 generalize blks _ = bs
 have hGo := hGM.mono hMn
 obtain ⟨hGb, hGe, hGL⟩ := IsNorm.bis hGN hGo
 obtain ⟨gb1, gb2, gb3, gb4⟩ := hGo.bnd
 obtain ⟨glo, gle, glf⟩ := hGo.lens
 refine Wl.fact (p := Nn G) (fun w hH => svm.nn (hH.fragp .here)) (fun gnn => ?_)
 have hgn : G.sq.n = G.rs.length := G.n_eq
 refine Wl.q rfl rfl (OpQ.move rfl) ?_
 refine Wl.q rfl rfl (OpQ.extract rfl rfl) ?_
 refine Wl.know 18 (v' := svv G) rfl rfl ?_
 refine Wl.q rfl rfl (OpQ.extract rfl rfl) ?_
 refine Wl.know 19 (v' := .int .i64 ((0 : Nat) : Int)) rfl rfl ?_
 refine Wl.g rfl rfl (OpG.alloc (zs := [.int .i64 0, .int .i64 0, .string ⟨#[]⟩, .slice none 0 0, .slice none 0 0, .slice none 0 0, .slice none 0 0]) RL_in30 rfl rfl) ?_
 rintro b4 _
 refine Wl.g rfl rfl (OpG.storeV (b := b4) RL_sz30 rfl rfl rfl rfl (by repeat (first | exact Upd.here | apply Upd.there))) ?_
 rintro _ _
 refine Wl.q rfl rfl (OpQ.assign rfl) ?_
 refine Wl.nil ?_
 refine PX.then_n ?_
 refine CT.seq ?_
 refine CT.seq ?_
 refine CT.region ?_
 refine Wl.q rfl rfl (OpQ.move rfl) ?_
 refine Wl.q rfl rfl (OpQ.neq rfl rfl) ?_
 refine Wl.know 21 (v' := .bool false) rfl (congrArg Value.bool (by decide)) ?_
 refine Wl.nil ?_
 refine PX.then_n ?_
 refine CT.condF rfl ?_
 refine CT.skip ?_
 refine PX.then_n ?_
 refine CT.seq ?_
 refine CT.region ?_
 refine Wl.q rfl rfl (OpQ.loadV (b := b4) RL_ag30 RL_sz30 rfl (by repeat (first | exact Has.here | apply Has.there)) (by rfl)) ?_
 refine Wl.know 25 (v' := svv G) rfl rfl ?_
 refine Wl.g rfl rfl (OpG.callX RL_go36 rfl .nil (fun _ => (.cons .nil)) (fun w hH hp => equivalent_spec w G (Stays.frag (hH.staysK0 (.there .here))) hGo hGb)) ?_
 rintro ⟨c, bc⟩ hc
 dsimp only at hc
 have hcl : c.length = G.rs.length := hc.len.trans hgn
 have hfo : FO c := hc.fo
 have htop : topL c ≤ G.rs.length := by
  have := fo_top_le hfo (Nat.le_refl c.length)
  rwa [List.take_length, hcl] at this
 refine Wl.q rfl rfl (OpQ.move rfl) ?_
 refine Wl.q rfl rfl (OpQ.extract rfl rfl) ?_
 refine Wl.know 27 (v' := .slice (some ⟨bc, 0, none⟩) G.rs.length G.rs.length) rfl rfl ?_
 refine Wl.q rfl rfl (OpQ.extract rfl rfl) ?_
 refine Wl.know 28 (v' := .int .i64 ((topL c : Nat) : Int)) rfl rfl ?_
 refine Wl.q rfl rfl (OpQ.assign rfl) ?_
 refine Wl.q rfl rfl (OpQ.assign rfl) ?_
 refine Wl.nil ?_
 refine PX.then_n ?_
 refine CT.seq ?_
 refine CT.draw 19 RL_mixed ?_
 refine RA.q 0 (by kernel_rfl) rfl rfl rfl (.refl _) (OpQ.fieldAddr RL_fa30_0 rfl) ?_
 refine RA.q 1 (by kernel_rfl) rfl rfl rfl (.refl _) (OpQ.loadF (b := b4) RL_sc3 rfl (by repeat (first | exact Has.here | apply Has.there)) (by rfl)) ?_
 refine RA.q 2 (by kernel_rfl) rfl rfl rfl (.refl _) (OpQ.move rfl) ?_
 refine RA.q 3 (by kernel_rfl) rfl rfl rfl (.refl _) (OpQ.fieldAddr RL_fa30_1 rfl) ?_
 refine RA.q 4 (by kernel_rfl) rfl rfl rfl (.refl _) (OpQ.loadF (b := b4) RL_sc3 rfl (by repeat (first | exact Has.here | apply Has.there)) (by rfl)) ?_
 refine RA.q 5 (by kernel_rfl) rfl rfl rfl (.refl _) (OpQ.index1 RL_un22 RL_sz3 rfl rfl (by omega) rfl) ?_
 refine RA.q 6 (by kernel_rfl) rfl rfl rfl (.refl _) (OpQ.loadRow RL_sc3 rfl .here (getMap zn c 0 (j := G.s) (by omega))) ?_
 refine RA.q 7 (by kernel_rfl) rfl rfl rfl (.refl _) (OpQ.fieldAddr RL_fa30_2 rfl) ?_
 refine RA.q 8 (by kernel_rfl) rfl rfl rfl (.refl _) (OpQ.loadF (b := b4) RL_sc9 rfl (by repeat (first | exact Has.here | apply Has.there)) (by rfl)) ?_
 refine RA.q 9 (by kernel_rfl) rfl rfl rfl (.refl _) (OpQ.move rfl) ?_
 refine RA.q 11 (by kernel_rfl) rfl rfl rfl (.refl _) (OpQ.move rfl) ?_
 refine RA.q 13 (by kernel_rfl) rfl rfl rfl (.refl _) (OpQ.move rfl) ?_
 refine RA.q 15 (by kernel_rfl) rfl rfl rfl (.refl _) (OpQ.move rfl) ?_
 refine RA.as (L := [dmy, dmy, dmy, dmy, dmy, dmy] ++ ([.row 3 1 (.slice (some ⟨bc, 0, none⟩) G.rs.length G.rs.length) G.rs.length (c.map zn), .row 30 7 (vb b4) 1 (svc G), .frag bs (svm G), .row 30 7 (vb b2) 1 [.int .i64 0, .int .i64 0, .string ⟨#[]⟩, .slice none 0 0, .slice none 0 0, .slice none 0 0, .slice none 0 0], .row 30 7 (vb b1) 1 (svc S)])) (fun _ h => h.dmy 6) ?_
 refine RA.many (it := fun | 10 => Itm.new 39 0 10 (fun b => .slice (some ⟨b, 0, none⟩) (topL c) (topL c)) (fun b => .row 22 1 (.slice (some ⟨b, 0, none⟩) (topL c) (topL c)) (topL c) (List.replicate (topL c) (.slice none 0 0))) | 12 => Itm.new 41 1 12 (fun b => .slice (some ⟨b, 0, none⟩) (topL c) (topL c)) (fun b => .row 28 1 (.slice (some ⟨b, 0, none⟩) (topL c) (topL c)) (topL c) (List.replicate (topL c) (.slice none 0 0))) | 14 => Itm.new 43 2 14 (fun b => .slice (some ⟨b, 0, none⟩) (topL c) (topL c)) (fun b => .row 4 1 (.slice (some ⟨b, 0, none⟩) (topL c) (topL c)) (topL c) (List.replicate (topL c) (.bool false))) | 16 => Itm.new 45 3 16 (fun b => .slice (some ⟨b, 0, none⟩) (topL c) (topL c)) (fun b => .row 9 1 (.slice (some ⟨b, 0, none⟩) (topL c) (topL c)) (topL c) (List.replicate (topL c) (sv []))) | 17 => ⟨46, 4, [10, 12, 14, 16], fun g => .agg #[zn G.L, zn (c.getD G.s 0), sv G.init, .slice (some ⟨(g 10).2, 0, none⟩) (topL c) (topL c), .slice (some ⟨(g 12).2, 0, none⟩) (topL c) (topL c), .slice (some ⟨(g 14).2, 0, none⟩) (topL c) (topL c), .slice (some ⟨(g 16).2, 0, none⟩) (topL c) (topL c)], fun _ => dmy, fun _ => True⟩ | 18 => Itm.new 8 5 18 (fun b => .pointer (some ⟨b, 0, none⟩)) (fun b => .row 30 7 (vb b) 1 [.int .i64 0, .int .i64 0, .string ⟨#[]⟩, .slice none 0 0, .slice none 0 0, .slice none 0 0, .slice none 0 0]) | _ => Itm.none) (A := [dmy, dmy, dmy, dmy, dmy, dmy]) [10, 12, 14, 16, 17, 18] 6 rfl (by kernel_rfl) rfl (all_cons Itm.loc_new (all_cons Itm.loc_new (all_cons Itm.loc_new (all_cons Itm.loc_new (all_cons (fun g g' h => ⟨(by show Value.agg _ = Value.agg _; rw [h 10 (.inr (.head _)), h 12 (.inr (.tail _ (.head _))), h 14 (.inr (.tail _ (.tail _ (.head _)))), h 16 (.inr (.tail _ (.tail _ (.tail _ (.head _)))))]), rfl, fun h => h⟩) (all_cons Itm.loc_new all_nil)))))) (all_cons (Good.new' rfl rfl (Nat.lt_of_lt_of_le (by decide) (Nat.le_add_left 6 _)) (fun D g hD => OpG.make1 RL_un25 RL_in22 rfl (ev_base rfl rfl hD) (ev_base rfl rfl hD) rfl (by omega) (by omega))) (all_cons (Good.new' rfl rfl (Nat.lt_of_lt_of_le (by decide) (Nat.le_add_left 6 _)) (fun D g hD => OpG.make1 RL_un26 RL_in28 rfl (ev_base rfl rfl hD) (ev_base rfl rfl hD) rfl (by omega) (by omega))) (all_cons (Good.new' rfl rfl (Nat.lt_of_lt_of_le (by decide) (Nat.le_add_left 6 _)) (fun D g hD => OpG.make1 RL_un27 RL_in4 rfl (ev_base rfl rfl hD) (ev_base rfl rfl hD) rfl (by omega) (by omega))) (all_cons (Good.new' rfl rfl (Nat.lt_of_lt_of_le (by decide) (Nat.le_add_left 6 _)) (fun D g hD => OpG.make1 RL_un28 RL_in9 rfl (ev_base rfl rfl hD) (ev_base rfl rfl hD) rfl (by omega) (by omega))) (all_cons (Good.quiet rfl (fun _ => rfl) rfl (.tail _ (.tail _ (.tail _ (.tail _ (.head _))))) (fun _ => trivial) (fun g g' h => (by show Value.agg _ = Value.agg _; rw [h 10 (.head _), h 12 (.tail _ (.head _)), h 14 (.tail _ (.tail _ (.head _))), h 16 (.tail _ (.tail _ (.tail _ (.head _))))])) (fun D g hD hd => OpQ.build (cells := #[zn G.L, zn (c.getD G.s 0), sv G.init, .slice (some ⟨(g 10).2, 0, none⟩) (topL c) (topL c), .slice (some ⟨(g 12).2, 0, none⟩) (topL c) (topL c), .slice (some ⟨(g 14).2, 0, none⟩) (topL c) (topL c), .slice (some ⟨(g 16).2, 0, none⟩) (topL c) (topL c)]) RL_pl30 (evParts_cons (ev_base rfl rfl hD) (evParts_cons (ev_base rfl rfl hD) (evParts_cons (ev_base rfl rfl hD) (evParts_cons (ev_dep rfl hD (hd 10 (.head _)) rfl rfl) (evParts_cons (ev_dep rfl hD (hd 12 (.tail _ (.head _))) rfl rfl) (evParts_cons (ev_dep rfl hD (hd 14 (.tail _ (.tail _ (.head _)))) rfl rfl) (evParts_cons (ev_dep rfl hD (hd 16 (.tail _ (.tail _ (.tail _ (.head _))))) rfl rfl) evParts_nil))))))) (by kernel_rfl)) rfl) (all_cons (Good.new' rfl rfl (Nat.lt_of_lt_of_le (by decide) (Nat.le_add_left 6 _)) (fun D g hD => OpG.alloc RL_in30 rfl rfl)) all_nil)))))) (fun g _ => ?_)
 show RA _ _ _ _ _ _ _ ((39, .slice (some ⟨(g 10).2, 0, none⟩) (topL c) (topL c)) :: (41, .slice (some ⟨(g 12).2, 0, none⟩) (topL c) (topL c)) :: (43, .slice (some ⟨(g 14).2, 0, none⟩) (topL c) (topL c)) :: (45, .slice (some ⟨(g 16).2, 0, none⟩) (topL c) (topL c)) :: (46, .agg #[zn G.L, zn (c.getD G.s 0), sv G.init, .slice (some ⟨(g 10).2, 0, none⟩) (topL c) (topL c), .slice (some ⟨(g 12).2, 0, none⟩) (topL c) (topL c), .slice (some ⟨(g 14).2, 0, none⟩) (topL c) (topL c), .slice (some ⟨(g 16).2, 0, none⟩) (topL c) (topL c)]) :: (8, .pointer (some ⟨(g 18).2, 0, none⟩)) :: _) ([.row 22 1 (.slice (some ⟨(g 10).2, 0, none⟩) (topL c) (topL c)) (topL c) (List.replicate (topL c) (.slice none 0 0)), .row 28 1 (.slice (some ⟨(g 12).2, 0, none⟩) (topL c) (topL c)) (topL c) (List.replicate (topL c) (.slice none 0 0)), .row 4 1 (.slice (some ⟨(g 14).2, 0, none⟩) (topL c) (topL c)) (topL c) (List.replicate (topL c) (.bool false)), .row 9 1 (.slice (some ⟨(g 16).2, 0, none⟩) (topL c) (topL c)) (topL c) (List.replicate (topL c) (sv [])), dmy, .row 30 7 (vb ((g 18).2)) 1 [.int .i64 0, .int .i64 0, .string ⟨#[]⟩, .slice none 0 0, .slice none 0 0, .slice none 0 0, .slice none 0 0]] ++ [.row 3 1 (.slice (some ⟨bc, 0, none⟩) G.rs.length G.rs.length) G.rs.length (c.map zn), .row 30 7 (vb b4) 1 (svc G), .frag bs (svm G), .row 30 7 (vb b2) 1 [.int .i64 0, .int .i64 0, .string ⟨#[]⟩, .slice none 0 0, .slice none 0 0, .slice none 0 0, .slice none 0 0], .row 30 7 (vb b1) 1 (svc S)])
 generalize (g 10).2 = b39
 generalize (g 12).2 = b41
 generalize (g 14).2 = b43
 generalize (g 16).2 = b45
 generalize (g 18).2 = b8
 refine RA.tail ?_
 refine RT.f 19 (by kernel_rfl) rfl rfl rfl (OpG.storeV (b := b8) RL_sz30 rfl rfl rfl rfl (by repeat (first | exact Upd.here | apply Upd.there))) ?_
 rintro _ _
 refine RT.done (by kernel_rfl) ?_
 refine PX.then_n ?_
 refine CT.seq ?_
 refine CT.seq ?_
 refine CT.region ?_
 refine Wl.q rfl rfl (OpQ.move rfl) ?_
 refine Wl.q rfl rfl (OpQ.len RL_un22 rfl) ?_
 refine Wl.q rfl rfl (OpQ.move rfl) ?_
 refine Wl.nil ?_
 refine PX.then_n ?_
 refine CT.block ?_
 refine CT.as (fun _ h => h.take (.cons (.there (.there (.there (.there (.there .here))))) (.cons (.there (.there (.there (.there (.there .here))))) (.cons (.there (.there (.there (.there (.there (.there .here)))))) (.cons (.there (.there (.there (.there (.there .here))))) (.cons (.there (.there (.there (.there (.there .here))))) (.cons (.there (.there (.there (.there (.there .here))))) (.cons .here (.cons .here (.cons .here (.cons .here .nil))))))))))) ?_
 refine CT.as (fun _ h => h.nilfam (topL c) (rch 3 zo) ⟨1, rfl⟩) ?_
 refine CT.as (fun _ h => h.nilfam (topL c) (rch 9 sv) ⟨1, rfl⟩) ?_
 refine CT.loop (ι := Nat × List (Rx (Option Nat)) × List (Rx Wd)) (fun (q, rs, os) => q ≤ G.rs.length ∧ MiI G.sq c q rs os) (fun (q, rs, os) => [(2, .pointer (some ⟨b2, 0, none⟩)), (4, .pointer (some ⟨b4, 0, none⟩)), (6, .slice (some ⟨bc, 0, none⟩) G.rs.length G.rs.length), (8, .pointer (some ⟨b8, 0, none⟩)), (47, .slice (some ⟨bc, 0, none⟩) G.rs.length G.rs.length), (48, .int .i64 ((G.rs.length : Nat) : Int)), (49, .int .i64 ((q : Nat) : Int))]) (fun (q, rs, os) => [.row 30 7 (vb b8) 1 [zn G.L, zn (c.getD G.s 0), sv G.init, .slice (some ⟨b39, 0, none⟩) (topL c) (topL c), .slice (some ⟨b41, 0, none⟩) (topL c) (topL c), .slice (some ⟨b43, 0, none⟩) (topL c) (topL c), .slice (some ⟨b45, 0, none⟩) (topL c) (topL c)], .row 3 1 (.slice (some ⟨bc, 0, none⟩) G.rs.length G.rs.length) G.rs.length (c.map zn), .frag bs (svm G), .row 30 7 (vb b4) 1 (svc G), .row 30 7 (vb b2) 1 [.int .i64 0, .int .i64 0, .string ⟨#[]⟩, .slice none 0 0, .slice none 0 0, .slice none 0 0, .slice none 0 0], .row 30 7 (vb b1) 1 (svc S), .row 22 1 (.slice (some ⟨b39, 0, none⟩) (topL c) (topL c)) (topL c) (rs.map rxv), .row 28 1 (.slice (some ⟨b41, 0, none⟩) (topL c) (topL c)) (topL c) (os.map rxv), .row 4 1 (.slice (some ⟨b43, 0, none⟩) (topL c) (topL c)) (topL c) ((eP G.sq c (q)).map bo), .row 9 1 (.slice (some ⟨b45, 0, none⟩) (topL c) (topL c)) (topL c) ((fP G.sq c (q)).map sv)] ++ (fam 3 zo rs ++ fam 9 sv os)) (fun (q, rs, os) => G.rs.length - q) (0, List.replicate (topL c) rx0, List.replicate (topL c) rx0) ⟨Nat.zero_le _, MiI.start _ _⟩ ⟨rfl, rfl, rfl, rfl, rfl, rfl, rfl, trivial⟩ (.keep rfl (.keep rfl (.keep rfl (.keep rfl (.keep rfl (.keep rfl (.keep (row_eq (by rw [List.map_replicate]; rfl)) (.keep (row_eq (by rw [List.map_replicate]; rfl)) (.keep (row_eq eP_zero) (.keep (row_eq fP_zero) (HSub.refl _))))))))))) (fun ⟨q, rs, os⟩ ⟨hq, hmi⟩ K0 hK0 => ?_)
 dsimp only
 refine CT.seq ?_
 refine CT.region ?_
 refine Wl.q rfl rfl (OpQ.lss rfl rfl) ?_
 refine Wl.nil ?_
 refine PX.then_n ?_
 refine CT.seq ?_
 refine CT.cond rfl (fun h50 => ?_) (fun h50 => ?_)
 ·
  have h50 := of_decide_eq_true h50
  have hqn : q < G.rs.length := by omega
  have hqd : q < G.sq.n := by rw [hgn]; exact hqn
  have hcq := hfo q (by omega)
  have hct : c.getD q 0 < topL c := topL_all c (by omega)
  have hrl := hGo.rlen (q := q) hqn
  have hol := hGo.olen (q := q) hqn
  refine CT.skip ?_
  refine PX.then_n ?_
  refine CT.seq ?_
  refine CT.block ?_
  refine CT.seq ?_
  refine CT.region ?_
  refine Wl.q rfl rfl (OpQ.move rfl) ?_
  refine Wl.q rfl rfl (OpQ.index1 RL_un22 RL_sz3 rfl rfl (by omega) rfl) ?_
  refine Wl.q rfl rfl (OpQ.loadRow RL_sc3 rfl (.there .here) (getMap zn c 0 (j := q) (by omega))) ?_
  refine Wl.know 53 (v' := .int .i64 (((c.getD q 0) : Nat) : Int)) rfl rfl ?_
  refine Wl.q rfl rfl (OpQ.assign rfl) ?_
  refine Wl.q rfl rfl (OpQ.assign rfl) ?_
  refine Wl.nil ?_
  refine PX.then_n ?_
  refine CT.seq ?_
  refine CT.seq ?_
  refine CT.region ?_
  refine Wl.q rfl rfl (OpQ.fieldAddr RL_fa30_3 rfl) ?_
  refine Wl.q rfl rfl (OpQ.loadF (b := b8) RL_sc25 rfl (by repeat (first | exact Has.here | apply Has.there)) (by rfl)) ?_
  refine Wl.q rfl rfl (OpQ.move rfl) ?_
  refine Wl.q rfl rfl (OpQ.index1 RL_un25 RL_sz22 rfl rfl (by omega) rfl) ?_
  refine Wl.q rfl rfl (OpQ.loadRow RL_sc22 rfl (.there (.there (.there (.there (.there (.there .here)))))) (getMap rxv rs rx0 (j := (c.getD q 0)) (by rw [hmi.rl]; exact hct))) ?_
  refine Wl.q rfl rfl (OpQ.neqNilS RL_un22 rfl rfl) ?_
  refine Wl.nil ?_
  refine PX.then_n ?_
  refine CT.cond rfl (fun h59 => ?_) (fun h59 => ?_)
  ·
   have hold : c.getD q 0 < topL (c.take q) := Nat.lt_of_not_le fun h => by rw [hmi.new _ h] at h59; cases h59
   refine CT.exit ?_
   refine PX.then_x ?_
   refine PX.block_x ?_
   refine PX.then_n ?_
   refine CT.region ?_
   refine Wl.q rfl rfl (OpQ.add rfl rfl (by omega)) ?_
   refine Wl.q rfl rfl (OpQ.move rfl) ?_
   refine Wl.nil ?_
   exact PX.loop hK0 (q + 1, rs, os) ⟨by omega, hmi.keep (by omega) hold⟩ (show G.rs.length - (q + 1) < G.rs.length - q by omega) ⟨rfl, rfl, rfl, rfl, rfl, rfl, rfl, trivial⟩ (by dsimp only; rw [eP_old hold, fP_old hold]; exact HSub.refl _)
  ·
   have hnew : c.getD q 0 = topL (c.take q) := Nat.le_antisymm hcq (Nat.le_of_not_lt fun h => by rw [hmi.old _ h] at h59; cases h59)
   refine CT.skip ?_
   refine PX.then_n ?_
   refine CT.seq ?_
   refine CT.region ?_
   refine Wl.q rfl rfl (OpQ.fieldAddr RL_fa30_0 rfl) ?_
   refine Wl.q rfl rfl (OpQ.loadF (b := b4) RL_sc3 rfl (by repeat (first | exact Has.here | apply Has.there)) (by rfl)) ?_
   refine Wl.g rfl rfl (OpG.callX RL_go37 rfl .nil (fun _ => (.cons (.cons .nil))) (fun w hH hp => row_spec w G.L gb2)) ?_
   rintro ⟨b14, b15⟩ _
   refine Wl.q rfl rfl (OpQ.move rfl) ?_
   refine Wl.q rfl rfl (OpQ.extract rfl rfl) ?_
   refine Wl.know 64 (v' := .slice (some ⟨b14, 0, none⟩) G.L G.L) rfl rfl ?_
   refine Wl.q rfl rfl (OpQ.extract rfl rfl) ?_
   refine Wl.know 65 (v' := .slice (some ⟨b15, 0, none⟩) G.L G.L) rfl rfl ?_
   refine Wl.q rfl rfl (OpQ.assign rfl) ?_
   refine Wl.q rfl rfl (OpQ.assign rfl) ?_
   refine Wl.nil ?_
   refine PX.then_n ?_
   refine CT.seq ?_
   refine CT.region ?_
   refine Wl.q rfl rfl (OpQ.move rfl) ?_
   refine Wl.q rfl rfl (OpQ.fieldAddr RL_fa30_4 rfl) ?_
   refine Wl.q rfl rfl (OpQ.loadF (b := b4) RL_sc26 rfl (by repeat (first | exact Has.here | apply Has.there)) (by rfl)) ?_
   refine Wl.q rfl rfl (OpQ.move rfl) ?_
   refine Wl.q rfl rfl (OpQ.index1 RL_un26 RL_sz28 rfl rfl (by omega) (gnn.o (by omega))) ?_
   refine Wl.q rfl rfl (OpQ.loadG RL_sc28 rfl (fun w hH => (hH.fragp (.there (.there (.there (.there .here))))).o) (getMap rxv G.os rx0 (j := q) (by omega))) ?_
   refine Wl.know 71 (v' := .slice (G.os.getD q rx0).a G.L (G.os.getD q rx0).cp) rfl (by show Value.slice _ _ _ = _; rw [hol]) ?_
   refine Wl.g rfl rfl (OpG.copyR (news := (orw G.sq q).map sv) RL_un28 RL_sz9 rfl rfl (by rw [List.length_map, orw_len]; rfl) (ones_map (fun _ => rfl) _) (fun w hH => by have := (hH.fragp (.there (.there (.there (.there .here))))).u _ (getDm (d := rx0) (show q < G.os.length by omega)); rwa [orw_eq hGo hqn] at this) (by repeat (first | exact Upd.here | apply Upd.there))) ?_
   rintro _ _
   refine Wl.nil ?_
   refine PX.then_n ?_
   refine CT.seq ?_
   refine CT.seq ?_
   refine CT.region ?_
   refine Wl.q rfl rfl (OpQ.fieldAddr RL_fa30_3 rfl) ?_
   refine Wl.q rfl rfl (OpQ.loadF (b := b4) RL_sc25 rfl (by repeat (first | exact Has.here | apply Has.there)) (by rfl)) ?_
   refine Wl.q rfl rfl (OpQ.move rfl) ?_
   refine Wl.q rfl rfl (OpQ.index1 RL_un25 RL_sz22 rfl rfl (by omega) (gnn.n (by omega))) ?_
   refine Wl.q rfl rfl (OpQ.loadG RL_sc22 rfl (fun w hH => (hH.fragp (.there (.there (.there (.there .here))))).n) (getMap rxv G.rs rx0 (j := q) (by omega))) ?_
   refine Wl.q rfl rfl (OpQ.len RL_un22 rfl) ?_
   refine Wl.know 78 (v' := .int .i64 ((G.L : Nat) : Int)) rfl (congrArg (Value.int .i64) (by rw [hrl])) ?_
   refine Wl.q rfl rfl (OpQ.move rfl) ?_
   refine Wl.nil ?_
   refine PX.then_n ?_
   refine CT.block ?_
   refine CT.loop (ι := Nat) (fun x => x ≤ G.L) (fun x => [(2, .pointer (some ⟨b2, 0, none⟩)), (4, .pointer (some ⟨b4, 0, none⟩)), (6, .slice (some ⟨bc, 0, none⟩) G.rs.length G.rs.length), (8, .pointer (some ⟨b8, 0, none⟩)), (47, .slice (some ⟨bc, 0, none⟩) G.rs.length G.rs.length), (48, .int .i64 ((G.rs.length : Nat) : Int)), (49, .int .i64 ((q : Nat) : Int)), (9, .int .i64 ((q : Nat) : Int)), (10, .int .i64 (((c.getD q 0) : Nat) : Int)), (11, .slice (some ⟨b14, 0, none⟩) G.L G.L), (12, .slice (some ⟨b15, 0, none⟩) G.L G.L), (77, rxv (G.rs.getD q rx0)), (78, .int .i64 ((G.L : Nat) : Int)), (79, .int .i64 ((x : Nat) : Int))]) (fun x => .row 3 1 (.slice (some ⟨b14, 0, none⟩) G.L G.L) G.L ((qnL G.sq c q x).map zo) :: .row 9 1 (.slice (some ⟨b15, 0, none⟩) G.L G.L) G.L ((orw G.sq q).map sv) :: ([.row 30 7 (vb b8) 1 [zn G.L, zn (c.getD G.s 0), sv G.init, .slice (some ⟨b39, 0, none⟩) (topL c) (topL c), .slice (some ⟨b41, 0, none⟩) (topL c) (topL c), .slice (some ⟨b43, 0, none⟩) (topL c) (topL c), .slice (some ⟨b45, 0, none⟩) (topL c) (topL c)], .row 3 1 (.slice (some ⟨bc, 0, none⟩) G.rs.length G.rs.length) G.rs.length (c.map zn), .frag bs (svm G), .row 30 7 (vb b4) 1 (svc G), .row 30 7 (vb b2) 1 [.int .i64 0, .int .i64 0, .string ⟨#[]⟩, .slice none 0 0, .slice none 0 0, .slice none 0 0, .slice none 0 0], .row 30 7 (vb b1) 1 (svc S), .row 22 1 (.slice (some ⟨b39, 0, none⟩) (topL c) (topL c)) (topL c) (rs.map rxv), .row 28 1 (.slice (some ⟨b41, 0, none⟩) (topL c) (topL c)) (topL c) (os.map rxv), .row 4 1 (.slice (some ⟨b43, 0, none⟩) (topL c) (topL c)) (topL c) ((eP G.sq c (q)).map bo), .row 9 1 (.slice (some ⟨b45, 0, none⟩) (topL c) (topL c)) (topL c) ((fP G.sq c (q)).map sv)] ++ (fam 3 zo rs ++ fam 9 sv os))) (fun x => G.L - x) 0 (Nat.zero_le _) ⟨rfl, rfl, rfl, rfl, rfl, rfl, rfl, rfl, rfl, rfl, rfl, rfl, rfl, rfl, trivial⟩ (.keep (row_eq (by rw [qnL_zero]; rfl)) (HSub.refl _)) (fun x hx K1 hK1 => ?_)
   refine CT.seq ?_
   refine CT.region ?_
   refine Wl.q rfl rfl (OpQ.lss rfl rfl) ?_
   refine Wl.nil ?_
   refine PX.then_n ?_
   refine CT.seq ?_
   refine CT.cond rfl (fun h80 => ?_) (fun h80 => ?_)
   ·
    have h80 := of_decide_eq_true h80
    refine CT.skip ?_
    refine PX.then_n ?_
    refine CT.seq ?_
    refine CT.block ?_
    refine CT.seq ?_
    refine CT.region ?_
    refine Wl.q rfl rfl (OpQ.move rfl) ?_
    refine Wl.q rfl rfl (OpQ.index1 RL_un22 RL_sz3 rfl rfl (by omega) (gnn.r q hqn (by omega))) ?_
    refine Wl.q rfl rfl (OpQ.loadG RL_sc3 rfl (fun w hH => (hH.fragp (.there (.there (.there (.there .here))))).r _ (getDm hqn)) (getMap zo (G.rs.getD q rx0).xs none (j := x) (by omega))) ?_
    refine Wl.know 83 (v' := zo (G.sq.to q x)) rfl (congrArg zo (G.to_eq q x).symm) ?_
    refine Wl.q rfl rfl (OpQ.assign rfl) ?_
    refine Wl.q rfl rfl (OpQ.assign rfl) ?_
    refine Wl.nil ?_
    refine PX.then_n ?_
    refine CT.seq ?_
    refine CT.region ?_
    refine Wl.q rfl rfl (OpQ.move rfl) ?_
    refine Wl.q rfl rfl (OpQ.neq rfl rfl) ?_
    refine Wl.nil ?_
    refine PX.then_n ?_
    refine CT.cond rfl (fun h85 => ?_) (fun h85 => ?_)
    ·
     have h85 := of_nd_t h85
     obtain ⟨r, hto⟩ := oi_some h85
     have hr := hGo.lt q x r hqd (show x < G.sq.L by show x < G.L; omega) hto
     refine CT.know 14 (v' := zn r) rfl (by rw [hto]; rfl) ?_
     refine CT.region ?_
     refine Wl.q rfl rfl (OpQ.move rfl) ?_
     refine Wl.q rfl rfl (OpQ.move rfl) ?_
     refine Wl.q rfl rfl (OpQ.move rfl) ?_
     refine Wl.q rfl rfl (OpQ.move rfl) ?_
     refine Wl.q rfl rfl (OpQ.index1 RL_un22 RL_sz3 rfl rfl (by omega) rfl) ?_
     refine Wl.q rfl rfl (OpQ.loadRow RL_sc3 rfl (.there (.there (.there .here))) (getMap zn c 0 (j := r) (by omega))) ?_
     refine Wl.q rfl rfl (OpQ.index1 RL_un22 RL_sz3 rfl rfl (by omega) rfl) ?_
     refine Wl.g rfl rfl (OpG.storeRow RL_sz3 rfl rfl rfl .here (by rw [List.length_map, qnL_len]; show x < G.L; omega)) ?_
     rintro _ _
     refine Wl.nil ?_
     refine PX.block_n ?_
     refine PX.then_n ?_
     refine CT.region ?_
     refine Wl.q rfl rfl (OpQ.add rfl rfl (by omega)) ?_
     refine Wl.q rfl rfl (OpQ.move rfl) ?_
     refine Wl.nil ?_
     exact PX.loop hK1 (x + 1) (by omega) (by first | omega | (dsimp only; omega)) ⟨rfl, rfl, rfl, rfl, rfl, rfl, rfl, rfl, rfl, rfl, rfl, rfl, rfl, rfl, trivial⟩ (.keep (row_eq (qnL_put hto).symm) (HSub.refl _))
    ·
     have h85 := of_nd_f h85
     have hto : G.sq.to q x = none := oi_neg.1 h85
     refine CT.skip ?_
     refine PX.block_n ?_
     refine PX.then_n ?_
     refine CT.region ?_
     refine Wl.q rfl rfl (OpQ.add rfl rfl (by omega)) ?_
     refine Wl.q rfl rfl (OpQ.move rfl) ?_
     refine Wl.nil ?_
     exact PX.loop hK1 (x + 1) (by omega) (by first | omega | (dsimp only; omega)) ⟨rfl, rfl, rfl, rfl, rfl, rfl, rfl, rfl, rfl, rfl, rfl, rfl, rfl, rfl, trivial⟩ (.keep (row_eq (by rw [qnL_keep hto])) (HSub.refl _))
   ·
    have h80 := of_decide_eq_false h80
    obtain rfl : x = G.L := by omega
    refine CT.mem (.keep (row_eq (xs := (nrow G.sq c q).map zo) (by rw [show qnL G.sq c q G.L = nrow G.sq c q from qnL_end _ _ _])) (HSub.refl _)) ?_
    refine CT.exit ?_
    refine PX.then_x ?_
    refine PX.then_x ?_
    refine PX.block_x ?_
    refine PX.then_n ?_
    refine CT.draw' (Hc := [.row 30 7 (vb b8) 1 [zn G.L, zn (c.getD G.s 0), sv G.init, .slice (some ⟨b39, 0, none⟩) (topL c) (topL c), .slice (some ⟨b41, 0, none⟩) (topL c) (topL c), .slice (some ⟨b43, 0, none⟩) (topL c) (topL c), .slice (some ⟨b45, 0, none⟩) (topL c) (topL c)], .row 3 1 (.slice (some ⟨bc, 0, none⟩) G.rs.length G.rs.length) G.rs.length (c.map zn), .frag bs (svm G), .row 30 7 (vb b4) 1 (svc G)]) 31 RL_mixed ?_
    refine RA.q 0 (by kernel_rfl) rfl rfl rfl (.cons _ (.cons _ (.cons_cons _ (.cons_cons _ (.cons_cons _ (.cons_cons _ (List.nil_sublist _))))))) (OpQ.fieldAddr RL_fa30_3 rfl) ?_
    refine RA.q 1 (by kernel_rfl) rfl rfl rfl (.cons _ (.cons _ (.cons_cons _ (.cons_cons _ (.cons_cons _ (.cons_cons _ (List.nil_sublist _))))))) (OpQ.loadF (b := b8) RL_sc25 rfl (by repeat (first | exact Has.here | apply Has.there)) (by rfl)) ?_
    refine RA.q 2 (by kernel_rfl) rfl rfl rfl (.cons _ (.cons _ (.cons_cons _ (.cons_cons _ (.cons_cons _ (.cons_cons _ (List.nil_sublist _))))))) (OpQ.move rfl) ?_
    refine RA.q 3 (by kernel_rfl) rfl rfl rfl (.cons _ (.cons _ (.cons_cons _ (.cons_cons _ (.cons_cons _ (.cons_cons _ (List.nil_sublist _))))))) (OpQ.fieldAddr RL_fa30_4 rfl) ?_
    refine RA.q 4 (by kernel_rfl) rfl rfl rfl (.cons _ (.cons _ (.cons_cons _ (.cons_cons _ (.cons_cons _ (.cons_cons _ (List.nil_sublist _))))))) (OpQ.loadF (b := b8) RL_sc26 rfl (by repeat (first | exact Has.here | apply Has.there)) (by rfl)) ?_
    refine RA.q 5 (by kernel_rfl) rfl rfl rfl (.cons _ (.cons _ (.cons_cons _ (.cons_cons _ (.cons_cons _ (.cons_cons _ (List.nil_sublist _))))))) (OpQ.move rfl) ?_
    refine RA.q 6 (by kernel_rfl) rfl rfl rfl (.cons _ (.cons _ (.cons_cons _ (.cons_cons _ (.cons_cons _ (.cons_cons _ (List.nil_sublist _))))))) (OpQ.fieldAddr RL_fa30_5 rfl) ?_
    refine RA.q 7 (by kernel_rfl) rfl rfl rfl (.cons _ (.cons _ (.cons_cons _ (.cons_cons _ (.cons_cons _ (.cons_cons _ (List.nil_sublist _))))))) (OpQ.loadF (b := b8) RL_sc27 rfl (by repeat (first | exact Has.here | apply Has.there)) (by rfl)) ?_
    refine RA.q 8 (by kernel_rfl) rfl rfl rfl (.cons _ (.cons _ (.cons_cons _ (.cons_cons _ (.cons_cons _ (.cons_cons _ (List.nil_sublist _))))))) (OpQ.move rfl) ?_
    refine RA.q 9 (by kernel_rfl) rfl rfl rfl (.cons _ (.cons _ (.cons_cons _ (.cons_cons _ (.cons_cons _ (.cons_cons _ (List.nil_sublist _))))))) (OpQ.fieldAddr RL_fa30_6 rfl) ?_
    refine RA.q 10 (by kernel_rfl) rfl rfl rfl (.cons _ (.cons _ (.cons_cons _ (.cons_cons _ (.cons_cons _ (.cons_cons _ (List.nil_sublist _))))))) (OpQ.loadF (b := b8) RL_sc28 rfl (by repeat (first | exact Has.here | apply Has.there)) (by rfl)) ?_
    refine RA.q 11 (by kernel_rfl) rfl rfl rfl (.cons _ (.cons _ (.cons_cons _ (.cons_cons _ (.cons_cons _ (.cons_cons _ (List.nil_sublist _))))))) (OpQ.move rfl) ?_
    refine RA.q 12 (by kernel_rfl) rfl rfl rfl (.cons _ (.cons _ (.cons_cons _ (.cons_cons _ (.cons_cons _ (.cons_cons _ (List.nil_sublist _))))))) (OpQ.move rfl) ?_
    refine RA.q 13 (by kernel_rfl) rfl rfl rfl (.cons _ (.cons _ (.cons_cons _ (.cons_cons _ (.cons_cons _ (.cons_cons _ (List.nil_sublist _))))))) (OpQ.move rfl) ?_
    refine RA.q 14 (by kernel_rfl) rfl rfl rfl (.cons _ (.cons _ (.cons_cons _ (.cons_cons _ (.cons_cons _ (.cons_cons _ (List.nil_sublist _))))))) (OpQ.fieldAddr RL_fa30_5 rfl) ?_
    refine RA.q 15 (by kernel_rfl) rfl rfl rfl (.cons _ (.cons _ (.cons_cons _ (.cons_cons _ (.cons_cons _ (.cons_cons _ (List.nil_sublist _))))))) (OpQ.loadF (b := b4) RL_sc27 rfl (by repeat (first | exact Has.here | apply Has.there)) (by rfl)) ?_
    refine RA.q 16 (by kernel_rfl) rfl rfl rfl (.cons _ (.cons _ (.cons_cons _ (.cons_cons _ (.cons_cons _ (.cons_cons _ (List.nil_sublist _))))))) (OpQ.move rfl) ?_
    refine RA.q 17 (by kernel_rfl) rfl rfl rfl (.cons _ (.cons _ (.cons_cons _ (.cons_cons _ (.cons_cons _ (.cons_cons _ (List.nil_sublist _))))))) (OpQ.index1 RL_un27 RL_sz4 rfl rfl (by omega) (gnn.e (by omega))) ?_
    refine RA.q 18 (by kernel_rfl) rfl rfl rfl (.cons _ (.cons _ (.cons_cons _ (.cons_cons _ (.cons_cons _ (.cons_cons _ (List.nil_sublist _))))))) (OpQ.loadG RL_sc4 rfl (fun w hH => (hH.fragp (.there (.there .here))).e) (getMap bo G.en false (j := q) (by omega))) ?_
    refine RA.know 112 (v' := .bool (G.sq.e q)) rfl rfl ?_
    refine RA.q 19 (by kernel_rfl) rfl rfl rfl (.cons _ (.cons _ (.cons_cons _ (.cons_cons _ (.cons_cons _ (.cons_cons _ (List.nil_sublist _))))))) (OpQ.fieldAddr RL_fa30_6 rfl) ?_
    refine RA.q 20 (by kernel_rfl) rfl rfl rfl (.cons _ (.cons _ (.cons_cons _ (.cons_cons _ (.cons_cons _ (.cons_cons _ (List.nil_sublist _))))))) (OpQ.loadF (b := b4) RL_sc28 rfl (by repeat (first | exact Has.here | apply Has.there)) (by rfl)) ?_
    refine RA.q 21 (by kernel_rfl) rfl rfl rfl (.cons _ (.cons _ (.cons_cons _ (.cons_cons _ (.cons_cons _ (.cons_cons _ (List.nil_sublist _))))))) (OpQ.move rfl) ?_
    refine RA.q 22 (by kernel_rfl) rfl rfl rfl (.cons _ (.cons _ (.cons_cons _ (.cons_cons _ (.cons_cons _ (.cons_cons _ (List.nil_sublist _))))))) (OpQ.index1 RL_un28 RL_sz9 rfl rfl (by omega) (gnn.f (by omega))) ?_
    refine RA.q 23 (by kernel_rfl) rfl rfl rfl (.cons _ (.cons _ (.cons_cons _ (.cons_cons _ (.cons_cons _ (.cons_cons _ (List.nil_sublist _))))))) (OpQ.loadG RL_sc9 rfl (fun w hH => (hH.fragp (.there (.there .here))).f) (getMap sv G.fi [] (j := q) (by omega))) ?_
    refine RA.know 117 (v' := sv (G.sq.f q)) rfl rfl ?_
    refine RA.q 24 (by kernel_rfl) rfl rfl rfl (.cons _ (.cons _ (.cons_cons _ (.cons_cons _ (.cons_cons _ (.cons_cons _ (List.nil_sublist _))))))) (OpQ.index1 RL_un25 RL_sz22 rfl rfl (by omega) rfl) ?_
    refine RA.f 25 (by kernel_rfl) rfl rfl rfl (OpG.storeRow RL_sz22 rfl rfl rfl (.there (.there (.there (.there (.there (.there (.there (.there .here)))))))) (by rw [List.length_map, hmi.rl]; exact hct)) (fun _ _ => (.cons _ (.cons _ (.cons_cons _ (.cons_cons _ (.cons_cons _ (.cons_cons _ (List.nil_sublist _)))))))) ?_
    rintro _ _
    refine RA.q 26 (by kernel_rfl) rfl rfl rfl (.cons _ (.cons _ (.cons_cons _ (.cons_cons _ (.cons_cons _ (.cons_cons _ (List.nil_sublist _))))))) (OpQ.index1 RL_un26 RL_sz28 rfl rfl (by omega) rfl) ?_
    refine RA.f 27 (by kernel_rfl) rfl rfl rfl (OpG.storeRow RL_sz28 rfl rfl rfl (.there (.there (.there (.there (.there (.there (.there (.there (.there .here))))))))) (by rw [List.length_map, hmi.ol]; exact hct)) (fun _ _ => (.cons _ (.cons _ (.cons_cons _ (.cons_cons _ (.cons_cons _ (.cons_cons _ (List.nil_sublist _)))))))) ?_
    rintro _ _
    refine RA.q 28 (by kernel_rfl) rfl rfl rfl (.cons _ (.cons _ (.cons_cons _ (.cons_cons _ (.cons_cons _ (.cons_cons _ (List.nil_sublist _))))))) (OpQ.index1 RL_un27 RL_sz4 rfl rfl (by omega) rfl) ?_
    refine RA.f 29 (by kernel_rfl) rfl rfl rfl (OpG.storeRow RL_sz4 rfl rfl rfl (.there (.there (.there (.there (.there (.there (.there (.there (.there (.there .here)))))))))) (by rw [List.length_map, eP_len hfo (by omega)]; exact hct)) (fun _ _ => (.cons _ (.cons _ (.cons_cons _ (.cons_cons _ (.cons_cons _ (.cons_cons _ (List.nil_sublist _)))))))) ?_
    rintro _ _
    refine RA.q 30 (by kernel_rfl) rfl rfl rfl (.cons _ (.cons _ (.cons_cons _ (.cons_cons _ (.cons_cons _ (.cons_cons _ (List.nil_sublist _))))))) (OpQ.index1 RL_un28 RL_sz9 rfl rfl (by omega) rfl) ?_
    refine RA.tail ?_
    refine RT.f 31 (by kernel_rfl) rfl rfl rfl (OpG.storeRow RL_sz9 rfl rfl rfl (.there (.there (.there (.there (.there (.there (.there (.there (.there (.there (.there .here))))))))))) (by rw [List.length_map, fP_len hfo (by omega)]; exact hct)) ?_
    rintro _ _
    refine RT.done (by kernel_rfl) ?_
    refine PX.block_n ?_
    refine PX.then_n ?_
    refine CT.region ?_
    refine Wl.q rfl rfl (OpQ.add rfl rfl (by omega)) ?_
    refine Wl.q rfl rfl (OpQ.move rfl) ?_
    refine Wl.nil ?_
    refine PX.mem (H' := .row 3 1 (.slice (some ⟨b14, 0, none⟩) G.L G.L) G.L ((nrow G.sq c q).map zo) :: .row 9 1 (.slice (some ⟨b15, 0, none⟩) G.L G.L) G.L ((orw G.sq q).map sv) :: ([.row 30 7 (vb b8) 1 [zn G.L, zn (c.getD G.s 0), sv G.init, .slice (some ⟨b39, 0, none⟩) (topL c) (topL c), .slice (some ⟨b41, 0, none⟩) (topL c) (topL c), .slice (some ⟨b43, 0, none⟩) (topL c) (topL c), .slice (some ⟨b45, 0, none⟩) (topL c) (topL c)], .row 3 1 (.slice (some ⟨bc, 0, none⟩) G.rs.length G.rs.length) G.rs.length (c.map zn), .frag bs (svm G), .row 30 7 (vb b4) 1 (svc G), .row 30 7 (vb b2) 1 [.int .i64 0, .int .i64 0, .string ⟨#[]⟩, .slice none 0 0, .slice none 0 0, .slice none 0 0, .slice none 0 0], .row 30 7 (vb b1) 1 (svc S), .row 22 1 (.slice (some ⟨b39, 0, none⟩) (topL c) (topL c)) (topL c) ((rs.set (c.getD q 0) (⟨some ⟨b14, 0, none⟩, G.L, nrow G.sq c q⟩ : Rx (Option Nat))).map rxv), .row 28 1 (.slice (some ⟨b41, 0, none⟩) (topL c) (topL c)) (topL c) ((os.set (c.getD q 0) (⟨some ⟨b15, 0, none⟩, G.L, orw G.sq q⟩ : Rx Wd)).map rxv), .row 4 1 (.slice (some ⟨b43, 0, none⟩) (topL c) (topL c)) (topL c) ((eP G.sq c (q + 1)).map bo), .row 9 1 (.slice (some ⟨b45, 0, none⟩) (topL c) (topL c)) (topL c) ((fP G.sq c (q + 1)).map sv)] ++ (fam 3 zo rs ++ fam 9 sv os))) (.keep rfl (.keep rfl (.keep rfl (.keep rfl (.keep rfl (.keep rfl (.keep rfl (.keep rfl (.keep (row_eq (by rw [List.map_set, show rxv (⟨some ⟨b14, 0, none⟩, G.L, nrow G.sq c q⟩ : Rx (Option Nat)) = .slice (some ⟨b14, 0, none⟩) G.L G.L from by simp only [rxv, nrow_len]; rfl]; rfl)) (.keep (row_eq (by rw [List.map_set, show rxv (⟨some ⟨b15, 0, none⟩, G.L, orw G.sq q⟩ : Rx Wd) = .slice (some ⟨b15, 0, none⟩) G.L G.L from by simp only [rxv, orw_len]; rfl]; rfl)) (.keep (row_eq (eP_put hfo (by omega) hnew).symm) (.keep (row_eq (fP_put hfo (by omega) hnew).symm) (HSub.refl _))))))))))))) ?_
    refine PX.as (fun _ h => HOk.fam2set (A := [.row 30 7 (vb b8) 1 [zn G.L, zn (c.getD G.s 0), sv G.init, .slice (some ⟨b39, 0, none⟩) (topL c) (topL c), .slice (some ⟨b41, 0, none⟩) (topL c) (topL c), .slice (some ⟨b43, 0, none⟩) (topL c) (topL c), .slice (some ⟨b45, 0, none⟩) (topL c) (topL c)], .row 3 1 (.slice (some ⟨bc, 0, none⟩) G.rs.length G.rs.length) G.rs.length (c.map zn), .frag bs (svm G), .row 30 7 (vb b4) 1 (svc G), .row 30 7 (vb b2) 1 [.int .i64 0, .int .i64 0, .string ⟨#[]⟩, .slice none 0 0, .slice none 0 0, .slice none 0 0, .slice none 0 0], .row 30 7 (vb b1) 1 (svc S), .row 22 1 (.slice (some ⟨b39, 0, none⟩) (topL c) (topL c)) (topL c) ((rs.set (c.getD q 0) (⟨some ⟨b14, 0, none⟩, G.L, nrow G.sq c q⟩ : Rx (Option Nat))).map rxv), .row 28 1 (.slice (some ⟨b41, 0, none⟩) (topL c) (topL c)) (topL c) ((os.set (c.getD q 0) (⟨some ⟨b15, 0, none⟩, G.L, orw G.sq q⟩ : Rx Wd)).map rxv), .row 4 1 (.slice (some ⟨b43, 0, none⟩) (topL c) (topL c)) (topL c) ((eP G.sq c (q + 1)).map bo), .row 9 1 (.slice (some ⟨b45, 0, none⟩) (topL c) (topL c)) (topL c) ((fP G.sq c (q + 1)).map sv)]) (r := (⟨some ⟨b14, 0, none⟩, G.L, nrow G.sq c q⟩ : Rx (Option Nat))) (o := (⟨some ⟨b15, 0, none⟩, G.L, orw G.sq q⟩ : Rx Wd)) h (by simp only [rch, rxv, nrow_len]; rfl) (by simp only [rch, rxv, orw_len]; rfl) (by rw [hmi.rl]; exact hct) (by rw [hmi.ol]; exact hct)) ?_
    exact PX.loop hK0 (q + 1, (rs.set (c.getD q 0) (⟨some ⟨b14, 0, none⟩, G.L, nrow G.sq c q⟩ : Rx (Option Nat))), (os.set (c.getD q 0) (⟨some ⟨b15, 0, none⟩, G.L, orw G.sq q⟩ : Rx Wd))) ⟨by omega, hmi.put hfo (by omega) hnew rfl rfl rfl⟩ (show G.rs.length - (q + 1) < G.rs.length - q by omega) ⟨rfl, rfl, rfl, rfl, rfl, rfl, rfl, trivial⟩ (HSub.refl _)
 ·
  have h50 := of_decide_eq_false h50
  obtain rfl : q = G.rs.length := by omega
  have hmi2 := hmi
  rw [← hgn] at hmi2
  obtain ⟨d1, d2, d3, d4⟩ := quo_done hc hmi2
  have hDq : (⟨G.L, c.getD G.s 0, G.init, some ⟨b39, 0, none⟩, topL c, rs, some ⟨b41, 0, none⟩, topL c, os, some ⟨b43, 0, none⟩, topL c, eP G.sq c G.rs.length, some ⟨b45, 0, none⟩, topL c, fP G.sq c G.rs.length⟩ : Sv).sq = quoQ G.sq c := by
   show Sq.mk _ _ _ (eP _ _ _) (fP _ _ _) (rs.map (·.xs)) (os.map (·.xs)) = _
   rw [← hgn, d1, d2, d3, d4]; rfl
  have hDo : (⟨G.L, c.getD G.s 0, G.init, some ⟨b39, 0, none⟩, topL c, rs, some ⟨b41, 0, none⟩, topL c, os, some ⟨b43, 0, none⟩, topL c, eP G.sq c G.rs.length, some ⟨b45, 0, none⟩, topL c, fP G.sq c G.rs.length⟩ : Sv).sq.Ok 4096 := by rw [hDq]; exact quoQ_ok hc hGo
  have hel : (eP G.sq c G.rs.length).length = topL c := eP_len hfo (by omega)
  have hfl : (fP G.sq c G.rs.length).length = topL c := fP_len hfo (by omega)
  have hrl2 := hmi.rl
  have hol2 := hmi.ol
  refine CT.mem (H' := [.row 30 7 (vb b8) 1 [zn G.L, zn (c.getD G.s 0), sv G.init, .slice (some ⟨b39, 0, none⟩) (topL c) (topL c), .slice (some ⟨b41, 0, none⟩) (topL c) (topL c), .slice (some ⟨b43, 0, none⟩) (topL c) (topL c), .slice (some ⟨b45, 0, none⟩) (topL c) (topL c)], .row 30 7 (vb b2) 1 [.int .i64 0, .int .i64 0, .string ⟨#[]⟩, .slice none 0 0, .slice none 0 0, .slice none 0 0, .slice none 0 0]] ++ svH (⟨G.L, c.getD G.s 0, G.init, some ⟨b39, 0, none⟩, topL c, rs, some ⟨b41, 0, none⟩, topL c, os, some ⟨b43, 0, none⟩, topL c, eP G.sq c G.rs.length, some ⟨b45, 0, none⟩, topL c, fP G.sq c G.rs.length⟩ : Sv) 3 22 4 9 28) (.keep rfl (.drop (.drop (.drop (.keep rfl (.drop (.keep (by simp only [hrl2]) (.keep (by simp only [hol2]) (.keep (by simp only [hel]) (.keep (by simp only [hfl]) (HSub.refl _))))))))))) ?_
  refine CT.exit ?_
  refine PX.then_x ?_
  refine PX.then_x ?_
  refine PX.block_x ?_
  refine PX.then_n ?_
  refine CT.seq ?_
  refine CT.region ?_
  refine Wl.q rfl rfl (OpQ.loadV (b := b8) RL_ag30 RL_sz30 rfl (by repeat (first | exact Has.here | apply Has.there)) (by rfl)) ?_
  refine Wl.know 123 (v' := svv (⟨G.L, c.getD G.s 0, G.init, some ⟨b39, 0, none⟩, topL c, rs, some ⟨b41, 0, none⟩, topL c, os, some ⟨b43, 0, none⟩, topL c, eP G.sq c G.rs.length, some ⟨b45, 0, none⟩, topL c, fP G.sq c G.rs.length⟩ : Sv)) rfl (by simp only [svv, svc, hrl2, hol2, hel, hfl]) ?_
  refine Wl.g rfl rfl (OpG.callX RL_go32 rfl .nil (fun _ => (App.of _ _)) (fun w hH hp => strim_spec w (⟨G.L, c.getD G.s 0, G.init, some ⟨b39, 0, none⟩, topL c, rs, some ⟨b41, 0, none⟩, topL c, os, some ⟨b43, 0, none⟩, topL c, eP G.sq c G.rs.length, some ⟨b45, 0, none⟩, topL c, fP G.sq c G.rs.length⟩ : Sv) (HOk.svmS (A := [_, _]) hH) hDo)) ?_
  rintro i124 h124
  refine Wl.as (fun _ h => HOk.swap (A := svH i124 3 22 4 9 28) (h.sublist (List.Sublist.append_left (HSub.sub (L := [.row 30 7 (vb b2) 1 [.int .i64 0, .int .i64 0, .string ⟨#[]⟩, .slice none 0 0, .slice none 0 0, .slice none 0 0, .slice none 0 0]]) (.drop (.keep rfl (HSub.none _)))) _))) ?_
  rw [hDq] at h124
  refine Wl.g rfl rfl (OpG.storeV (b := b2) RL_sz30 rfl rfl rfl rfl (by repeat (first | exact Upd.here | apply Upd.there))) ?_
  rintro _ _
  refine Wl.q rfl rfl (OpQ.assign rfl) ?_
  refine Wl.nil ?_
  refine PX.then_n ?_
  refine CT.ret ?_
  refine PX.retC2 rfl rfl rfl (by repeat (first | exact Has.here | apply Has.there)) RL_ag30 RL_sz30 (by rfl) (fun w' hH => ?_)
  have hmn := quoQ_min hc hGb hGe (by rw [hgn]; exact gb4) h124
  obtain ⟨hok, hnn⟩ := IsTrim.ok (quoQ_ok hc hGM) h124
  rw [quoQ_n hc] at hnn
  have hnG := IsNorm.n_le hv hGN
  exact ⟨i124, ⟨IsNorm.mini hGN hGL hmn, hok, by omega, fun g hg => by rw [hg.unique hGN]; omega⟩, rfl, (HOk.behind (A := [_]) hH).post⟩

end Go.Proofs.Ytamolakhpcofhaa

