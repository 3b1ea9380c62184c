/-
  What functions of the program compute, each by its walk. Conditions: those that each theorem names.
-/
import Derived.Test.YtlmbcdjmdgbmjaaMod
import Derived.Test.YtlmbcdjmdgbmjaaXB13
set_option linter.unusedSimpArgs false
namespace Go.Proofs.Ytlmbcdjmdgbmjaa
open Go Go.Eng Go.Am
open Go.Tl (mayL bo)

theorem AN_un119 : Try.prog.underlying 119 = some (.array 8 77) := by kernel_rfl
theorem AN_un77 : Try.prog.underlying 77 = some (.int .u64) := by kernel_rfl
theorem AN_sz77 : sizeB Try.prog 77 = some 1 := by kernel_rfl
theorem AN_mkA : MapKey Try.prog 119 kw := MapKey.lw AN_un119 AN_un77 AN_sz77
theorem AN_ag119 : isAggB Try.prog 119 = some true := by kernel_rfl
theorem AN_sz119 : sizeB Try.prog 119 = some 8 := by kernel_rfl
theorem AN_un120 : Try.prog.underlying 120 = some (.slice 119) := by kernel_rfl
theorem AN_in119 : (Try.prog.info? 119).map (fun i => (i.zero, i.size, i.bytes)) = some (some (.agg #[.int .u64 0, .int .u64 0, .int .u64 0, .int .u64 0, .int .u64 0, .int .u64 0, .int .u64 0, .int .u64 0]), 8, 64) := by kernel_rfl
theorem AN_un49 : Try.prog.underlying 49 = some (.slice 4) := by kernel_rfl
theorem AN_in4 : (Try.prog.info? 4).map (fun i => (i.zero, i.size, i.bytes)) = some (some (.bool false), 1, 1) := by kernel_rfl
theorem AN_sz3 : sizeB Try.prog 3 = some 1 := by kernel_rfl
theorem AN_in52 : (Try.prog.info? 52).map (fun i => (i.zero, i.size, i.bytes)) = some (some (.agg #[.int .i64 0, .int .i64 0, .slice none 0 0, .slice none 0 0]), 4, 64) := by kernel_rfl
theorem AN_fa52_2 : fieldB Try.prog 52 2 = some 2 := by kernel_rfl
theorem AN_sc49 : scalarB Try.prog 49 = some true := by kernel_rfl
theorem AN_sz4 : sizeB Try.prog 4 = some 1 := by kernel_rfl
theorem AN_sc4 : scalarB Try.prog 4 = some true := by kernel_rfl
theorem AN_mixed : Try.prog.follows .mixedOrders = true := by kernel_rfl
theorem AN_sc77 : scalarB Try.prog 77 = some true := by kernel_rfl
theorem AN_fa52_0 : fieldB Try.prog 52 0 = some 0 := by kernel_rfl
theorem AN_sc3 : scalarB Try.prog 3 = some true := by kernel_rfl
theorem AN_pl52 : placesB Try.prog 52 = some (#[.int .i64 0, .int .i64 0, .slice none 0 0, .slice none 0 0], [(0, 1), (1, 1), (2, 1), (3, 1)]) := by kernel_rfl
theorem AN_sz52 : sizeB Try.prog 52 = some 4 := by kernel_rfl
theorem AN_un121 : Try.prog.underlying 121 = some (.map 119 3) := by kernel_rfl
theorem AN_fa52_1 : fieldB Try.prog 52 1 = some 1 := by kernel_rfl
theorem AN_sz49 : sizeB Try.prog 49 = some 1 := by kernel_rfl
theorem AN_un25 : Try.prog.underlying 25 = some (.slice 3) := by kernel_rfl
theorem AN_in3 : (Try.prog.info? 3).map (fun i => (i.zero, i.size, i.bytes)) = some (some (.int .i64 0), 1, 8) := by kernel_rfl
theorem AN_fa52_3 : fieldB Try.prog 52 3 = some 3 := by kernel_rfl
theorem AN_sc50 : scalarB Try.prog 50 = some true := by kernel_rfl
theorem AN_un50 : Try.prog.underlying 50 = some (.slice 25) := by kernel_rfl
theorem AN_sz25 : sizeB Try.prog 25 = some 1 := by kernel_rfl
theorem AN_sc25 : scalarB Try.prog 25 = some true := by kernel_rfl
theorem AN_in25 : (Try.prog.info? 25).map (fun i => (i.zero, i.size, i.bytes)) = some (some (.slice none 0 0), 1, 24) := by kernel_rfl
theorem AN_sz50 : sizeB Try.prog 50 = some 1 := by kernel_rfl
theorem AN_ag52 : isAggB Try.prog 52 = some true := by kernel_rfl
theorem AN_go68 : isGo Try.prog 68 = true := by kernel_rfl
set_option maxRecDepth 100000 in
/-- semigroup/temporal.reverse -/
theorem reverseT_spec (w : World) (D : Dv) (hD : Stays [] w (dvm D)) (hv : D.Ok) (h5 : D.fin.length ≤ 512) (hc : D.da.Canon) (m : Da) (hm : IsMin D.da.L (revS D.da) D.da.fi m) (hm5 : m.n ≤ 512) : Calls Try.prog 51 #[dvv D] w (fun e w' => ∃ i : Dv × List Nat, (i.1.Ok ∧ i.1.fin.length ≤ 512 ∧ IsMin D.da.L (revS D.da) D.da.fi i.1.da) ∧ e = .returned (.tuple #[dvv i.1, .bool true]) ∧ Post [] [.frag i.2 (dvm i.1)] w w') := by
 have hfs : 0 < D.fin.length → D.fa.isSome = true := fun h => hD.now.1.isSome (j := 0) (by rw [List.length_map]; exact h)
 have hns : 0 < D.rs.length → D.na.isSome = true := fun h => hD.now.2.1.isSome (j := 0) (by rw [List.length_map]; exact h)
 have hrs : ∀ q, q < D.rs.length → 0 < (D.rs.getD q rw0).xs.length → (D.rs.getD q rw0).a.isSome = true := fun q hq h => (hD.now.2.2 _ (getDm hq)).isSome (j := 0) (by rw [List.length_map]; exact h)
 have hmv := hv.may
 have hlen := hv.len
 have hst := hv.st
 have hLe := hv.L_eq
 have hsn : D.da.s < D.fin.length := hv.daOk.st
 have hwl : ∀ k, (bfs (wT D.da).f D.da.L (w0 D.da) k).length ≤ 512 := fun k => Nat.le_trans (w_len hv.daOk hc hv.pos h5 hm k) hm5
 refine enter (args := [dvv D]) [] 146 Try.func51 rfl rfl rfl ?_
 refine CT.seq ?_
 refine CT.region ?_
 refine Wl.g rfl rfl (OpG.box (size := 4) rfl rfl rfl) ?_
 rintro b1 _
 refine Wl.g rfl rfl (OpG.alloc (zs := [.int .i64 0, .int .i64 0, .slice none 0 0, .slice none 0 0]) AN_in52 rfl rfl) ?_
 rintro b2 _
 refine Wl.q rfl rfl (OpQ.assign rfl) ?_
 refine Wl.nil ?_
 refine PX.then_n ?_
 refine CT.seq ?_
 refine CT.region ?_
 refine Wl.g rfl rfl (OpG.alloc (zs := [.int .u64 0, .int .u64 0, .int .u64 0, .int .u64 0, .int .u64 0, .int .u64 0, .int .u64 0, .int .u64 0]) AN_in119 rfl rfl) ?_
 rintro b4 _
 refine Wl.nil ?_
 refine PX.then_n ?_
 refine CT.seq ?_
 refine CT.seq ?_
 refine CT.region ?_
 refine Wl.q rfl rfl (OpQ.fieldAddr AN_fa52_2 rfl) ?_
 refine Wl.q rfl rfl (OpQ.loadF (b := b1) AN_sc49 rfl (by repeat (first | exact Has.here | apply Has.there)) (by rfl)) ?_
 refine Wl.q rfl rfl (OpQ.len AN_un49 rfl) ?_
 refine Wl.q rfl rfl (OpQ.move rfl) ?_
 refine Wl.nil ?_
 refine PX.then_n ?_
 refine CT.block ?_
 refine CT.loop (ι := Nat) (fun i => i ≤ D.fin.length) (fun i => [(1, .pointer (some ⟨b1, 0, none⟩)), (2, .pointer (some ⟨b2, 0, none⟩)), (4, .pointer (some ⟨b4, 0, none⟩)), (20, .slice D.fa D.fin.length D.fc), (21, .int .i64 ((D.fin.length : Nat) : Int)), (22, .int .i64 ((i : Nat) : Int))]) (fun i => [.row 119 8 (vb b4) 1 ((wS D.da.fi i).map u), .row 52 4 (vb b2) 1 [.int .i64 0, .int .i64 0, .slice none 0 0, .slice none 0 0], .row 52 4 (vb b1) 1 (dvc D)]) (fun i => D.fin.length - i) 0 (Nat.zero_le _) ⟨rfl, rfl, rfl, rfl, rfl, rfl, trivial⟩ (HSub.refl _) (fun i hi K0 hK0 => ?_)
 refine CT.seq ?_
 refine CT.region ?_
 refine Wl.q rfl rfl (OpQ.lss rfl rfl) ?_
 refine Wl.nil ?_
 refine PX.then_n ?_
 refine CT.seq ?_
 refine CT.cond rfl (fun h23 => ?_) (fun h23 => ?_)
 ·
  have h23 := of_decide_eq_true h23
  refine CT.skip ?_
  refine PX.then_n ?_
  refine CT.seq ?_
  refine CT.block ?_
  refine CT.seq ?_
  refine CT.region ?_
  refine Wl.q rfl rfl (OpQ.move rfl) ?_
  refine Wl.q rfl rfl (OpQ.index1 AN_un49 AN_sz4 rfl rfl (by omega) (hfs (by omega))) ?_
  refine Wl.q rfl rfl (OpQ.loadG AN_sc4 rfl (fun w hH => (hH.use hD).1) (getMap bo D.fin false (j := i) (by omega))) ?_
  refine Wl.know 26 (v' := .bool (D.da.fi i)) rfl rfl ?_
  refine Wl.q rfl rfl (OpQ.assign rfl) ?_
  refine Wl.q rfl rfl (OpQ.assign rfl) ?_
  refine Wl.nil ?_
  refine PX.then_n ?_
  refine CT.seq ?_
  refine CT.region ?_
  refine Wl.q rfl rfl (OpQ.move rfl) ?_
  refine Wl.nil ?_
  refine PX.then_n ?_
  refine CT.cond rfl (fun h27 => ?_) (fun h27 => ?_)
  ·
   refine CT.draw 9 AN_mixed ?_
   refine RA.q 0 (by kernel_rfl) rfl rfl rfl (.refl _) (OpQ.move rfl) ?_
   refine RA.q 1 (by kernel_rfl) rfl rfl rfl (.refl _) (OpQ.quo rfl rfl ⟨by decide, by rw [tdiv64]; omega, by rw [tdiv64]; omega⟩) ?_
   refine RA.know 29 (v' := .int .i64 (((i / 64) : Nat) : Int)) rfl (congrArg (Value.int .i64) (tdiv64 (i))) ?_
   refine RA.q 2 (by kernel_rfl) rfl rfl rfl (.refl _) (OpQ.indexArr1 AN_un119 AN_sz77 rfl rfl (by omega)) ?_
   refine RA.q 3 (by kernel_rfl) rfl rfl rfl (.refl _) (OpQ.loadF (b := b4) AN_sc77 rfl (by repeat (first | exact Has.here | apply Has.there)) (getMap u (wS D.da.fi i) 0#64 (j := i / 64) (by rw [wS_len]; omega))) ?_
   refine RA.q 4 (by kernel_rfl) rfl rfl rfl (.refl _) (OpQ.move rfl) ?_
   refine RA.q 5 (by kernel_rfl) rfl rfl rfl (.refl _) (OpQ.rem rfl rfl (by decide)) ?_
   refine RA.know 33 (v' := .int .i64 (((i % 64) : Nat) : Int)) rfl (congrArg (Value.int .i64) (tmod64 (i))) ?_
   refine RA.q 6 (by kernel_rfl) rfl rfl rfl (.refl _) (OpQ.ushlN (p := 1#64) rfl rfl) ?_
   refine RA.q 7 (by kernel_rfl) rfl rfl rfl (.refl _) (OpQ.uor rfl rfl) ?_
   refine RA.q 8 (by kernel_rfl) rfl rfl rfl (.refl _) (OpQ.indexArr1 AN_un119 AN_sz77 rfl rfl (by omega)) ?_
   refine RA.tail ?_
   refine RT.f 9 (by kernel_rfl) rfl rfl rfl (OpG.storeRow (a := some ⟨b4, 0, none⟩) AN_sz77 rfl rfl rfl (by repeat (first | exact Upd.here | apply Upd.there)) (by rw [List.length_map, wS_len]; omega)) ?_
   rintro _ _
   refine RT.done (by kernel_rfl) ?_
   refine PX.block_n ?_
   refine PX.then_n ?_
   refine CT.region ?_
   refine Wl.q rfl rfl (OpQ.add rfl rfl (by omega)) ?_
   refine Wl.q rfl rfl (OpQ.move rfl) ?_
   refine Wl.nil ?_
   exact PX.loop hK0 (i + 1) (by omega) (by first | omega | (dsimp only; omega)) ⟨rfl, rfl, rfl, rfl, rfl, rfl, trivial⟩ (.keep (row_eq (wS_put h27).symm) (HSub.refl _))
  ·
   refine CT.skip ?_
   refine PX.block_n ?_
   refine PX.then_n ?_
   refine CT.region ?_
   refine Wl.q rfl rfl (OpQ.add rfl rfl (by omega)) ?_
   refine Wl.q rfl rfl (OpQ.move rfl) ?_
   refine Wl.nil ?_
   exact PX.loop hK0 (i + 1) (by omega) (by first | omega | (dsimp only; omega)) ⟨rfl, rfl, rfl, rfl, rfl, rfl, trivial⟩ (.keep (row_eq (by rw [wS_keep h27])) (HSub.refl _))
 ·
  have h23 := of_decide_eq_false h23
  obtain rfl : i = D.fin.length := by omega
  refine CT.exit ?_
  refine PX.then_x ?_
  refine PX.then_x ?_
  refine PX.block_x ?_
  refine PX.then_n ?_
  refine CT.seq ?_
  refine CT.region ?_
  refine Wl.q rfl rfl (OpQ.fieldAddr AN_fa52_0 rfl) ?_
  refine Wl.q rfl rfl (OpQ.loadF (b := b1) AN_sc3 rfl (by repeat (first | exact Has.here | apply Has.there)) (by rfl)) ?_
  refine Wl.q rfl rfl (OpQ.build (cells := #[.int .i64 D.L, .int .i64 0, .slice none 0 0, .slice none 0 0]) AN_pl52 rfl rfl) ?_
  refine Wl.g rfl rfl (OpG.alloc (zs := [.int .i64 0, .int .i64 0, .slice none 0 0, .slice none 0 0]) AN_in52 rfl rfl) ?_
  rintro b7 _
  refine Wl.g rfl rfl (OpG.storeV (b := b7) AN_sz52 rfl rfl rfl rfl (by repeat (first | exact Upd.here | apply Upd.there))) ?_
  rintro _ _
  refine Wl.nil ?_
  refine PX.then_n ?_
  refine CT.seq ?_
  refine CT.region ?_
  refine Wl.q rfl rfl (OpQ.loadV (b := b4) AN_ag119 AN_sz119 rfl (by repeat (first | exact Has.here | apply Has.there)) (by rw [List.length_map, wS_len])) ?_
  refine Wl.g rfl rfl (OpG.litS1 AN_un120 AN_in119 rfl (by decide) (by rw [List.length_map, wS_len])) ?_
  rintro b42 _
  refine Wl.q rfl rfl (OpQ.assign rfl) ?_
  refine Wl.nil ?_
  refine PX.then_n ?_
  refine CT.seq ?_
  refine CT.region ?_
  refine Wl.g rfl rfl (OpG.makeMap (f := kw)) ?_
  rintro b43 _
  refine Wl.q rfl rfl (OpQ.loadV (b := b4) AN_ag119 AN_sz119 rfl (by repeat (first | exact Has.here | apply Has.there)) (by rw [List.length_map, wS_len])) ?_
  refine Wl.know 44 (v' := kw (w0 D.da)) rfl (kw_agg (w0 D.da)) ?_
  refine Wl.g rfl rfl (OpG.insNew (f := kw) (x := (w0 D.da)) (l := []) AN_mkA AN_un121 rfl rfl rfl rfl (by repeat (first | exact Upd.here | apply Upd.there))) ?_
  rintro _ _
  refine Wl.q rfl rfl (OpQ.move rfl) ?_
  refine Wl.q rfl rfl (OpQ.assign rfl) ?_
  refine Wl.nil ?_
  refine PX.then_n ?_
  refine CT.seq ?_
  refine CT.seq ?_
  refine CT.region ?_
  refine Wl.q rfl rfl (OpQ.assign rfl) ?_
  refine Wl.nil ?_
  refine PX.then_n ?_
  refine CT.block ?_
  refine CT.nilrow 4 1 ?_
  refine CT.nilrow 25 1 ?_
  refine CT.as (fun _ h => h.bind0 (p := rws []) (rws_nil)) ?_
  refine CT.as (fun _ h => h.take (.cons .here (.cons (.there .here) (.cons .here (.cons (.there (.there .here)) (.cons (.there .here) (.cons .here (.cons (.there .here) (.cons (.there .here) .nil))))))))) ?_
  refine CT.loop (ι := Nat × Option Addr × Nat × Option Addr × Nat × List Bool × Option Addr × Nat × List Rw × List Nat) (fun (i, a', c', fa', fc', fl, na', nc', rs, bs) => Going (wT D.da).f D.da.L (w0 D.da) (i * D.da.L) ∧ i ≤ (bfs (wT D.da).f D.da.L (w0 D.da) (i * D.da.L)).length ∧ fl = ((bfs (wT D.da).f D.da.L (w0 D.da) (i * D.da.L)).take i).map (wT D.da).fin ∧ XRows (wT D.da).f D.da.L (w0 D.da) (bfs (wT D.da).f D.da.L (w0 D.da) (i * D.da.L)) i (rs.map (·.xs))) (fun (i, a', c', fa', fc', fl, na', nc', rs, bs) => [(1, .pointer (some ⟨b1, 0, none⟩)), (2, .pointer (some ⟨b2, 0, none⟩)), (7, .pointer (some ⟨b7, 0, none⟩)), (8, .slice a' (bfs (wT D.da).f D.da.L (w0 D.da) (i * D.da.L)).length c'), (9, .map (some b43)), (10, .int .i64 ((i : Nat) : Int))]) (fun (i, a', c', fa', fc', fl, na', nc', rs, bs) => [.frag bs (rws rs), .row 4 1 (.slice fa' (i) fc') (i) ((fl).map bo), .row 25 1 (.slice na' (i) nc') (i) ((rs).map rv), .row 52 4 (vb b7) 1 [.int .i64 D.L, .int .i64 0, .slice fa' (i) fc', .slice na' (i) nc'], .row 119 8 (.slice a' (bfs (wT D.da).f D.da.L (w0 D.da) (i * D.da.L)).length c') (bfs (wT D.da).f D.da.L (w0 D.da) (i * D.da.L)).length ((bfs (wT D.da).f D.da.L (w0 D.da) (i * D.da.L)).flatMap lwv), .blk b43 (mapO kw (itA 0 (bfs (wT D.da).f D.da.L (w0 D.da) (i * D.da.L)))), .row 52 4 (vb b2) 1 [.int .i64 0, .int .i64 0, .slice none 0 0, .slice none 0 0], .row 52 4 (vb b1) 1 (dvc D)]) (fun (i, a', c', fa', fc', fl, na', nc', rs, bs) => 512 - i) (0, some ⟨b42, 0, none⟩, 1, none, 0, [], none, 0, [], []) ⟨by rw [Nat.zero_mul]; exact Going.zero, Nat.zero_le _, rfl, XRows.start _⟩ ⟨rfl, rfl, rfl, (lkV rfl (by rw [Nat.zero_mul]; rfl)), rfl, rfl, trivial⟩ (by dsimp only; rw [Nat.zero_mul]; exact (.keep rfl (.keep rfl (.keep rfl (.keep rfl (.keep (row_eq (show [w0 D.da].flatMap lwv = _ by rw [List.flatMap_cons]; exact List.append_nil _)) (HSub.refl _))))))) (fun ⟨i, a', c', fa', fc', fl, na', nc', rs, bs⟩ ⟨hg, hi, hfl, hrows⟩ K1 hK1 => ?_)
  dsimp only
  refine CT.fact (p := a'.isSome = true) (fun w hH => (hH.rd (.there (.there (.there (.there .here))))).isSome (j := 0) (by rw [flat_len lwv_len]; have := bfs_pos (f := (wT D.da).f) (L := D.da.L) (s := (w0 D.da)) (i * D.da.L); omega)) (fun hia => ?_)
  have hfll : fl.length = i := by rw [hfl, List.length_map, List.length_take, Nat.min_eq_left hi]
  have hrll : rs.length = i := by have := hrows.len; rwa [List.length_map] at this
  have hw0 := hwl (i * D.da.L)
  refine CT.seq ?_
  refine CT.seq ?_
  refine CT.region ?_
  refine Wl.q rfl rfl (OpQ.move rfl) ?_
  refine Wl.q rfl rfl (OpQ.move rfl) ?_
  refine Wl.q rfl rfl (OpQ.len AN_un120 rfl) ?_
  refine Wl.q rfl rfl (OpQ.lss rfl rfl) ?_
  refine Wl.nil ?_
  refine PX.then_n ?_
  refine CT.cond rfl (fun h49 => ?_) (fun h49 => ?_)
  ·
   have h49 := of_decide_eq_true h49
   have hlt : i < (bfs (wT D.da).f D.da.L (w0 D.da) (i * D.da.L)).length := by omega
   refine CT.skip ?_
   refine PX.then_n ?_
   refine CT.seq ?_
   refine CT.block ?_
   refine CT.seq ?_
   refine CT.draw' (Hc := [.row 52 4 (vb b7) 1 [.int .i64 D.L, .int .i64 0, .slice fa' (i) fc', .slice na' (i) nc'], .row 119 8 (.slice a' (bfs (wT D.da).f D.da.L (w0 D.da) (i * D.da.L)).length c') (bfs (wT D.da).f D.da.L (w0 D.da) (i * D.da.L)).length ((bfs (wT D.da).f D.da.L (w0 D.da) (i * D.da.L)).flatMap lwv), .row 52 4 (vb b1) 1 (dvc D)]) 19 AN_mixed ?_
   refine RA.q 0 (by kernel_rfl) rfl rfl rfl (.cons _ (.cons _ (.cons _ (.cons_cons _ (.cons_cons _ (.cons _ (.cons _ (.cons_cons _ (.refl _))))))))) (OpQ.fieldAddr AN_fa52_2 rfl) ?_
   refine RA.q 1 (by kernel_rfl) rfl rfl rfl (.cons _ (.cons _ (.cons _ (.cons_cons _ (.cons_cons _ (.cons _ (.cons _ (.cons_cons _ (.refl _))))))))) (OpQ.loadF (b := b7) AN_sc49 rfl (by repeat (first | exact Has.here | apply Has.there)) (by rfl)) ?_
   refine RA.q 2 (by kernel_rfl) rfl rfl rfl (.cons _ (.cons _ (.cons _ (.cons_cons _ (.cons_cons _ (.cons _ (.cons _ (.cons_cons _ (.refl _))))))))) (OpQ.move rfl) ?_
   refine RA.q 3 (by kernel_rfl) rfl rfl rfl (.cons _ (.cons _ (.cons _ (.cons_cons _ (.cons_cons _ (.cons _ (.cons _ (.cons_cons _ (.refl _))))))))) (OpQ.move rfl) ?_
   refine RA.q 4 (by kernel_rfl) rfl rfl rfl (.cons _ (.cons _ (.cons _ (.cons_cons _ (.cons_cons _ (.cons _ (.cons _ (.cons_cons _ (.refl _))))))))) (OpQ.fieldAddr AN_fa52_1 rfl) ?_
   refine RA.q 5 (by kernel_rfl) rfl rfl rfl (.cons _ (.cons _ (.cons _ (.cons_cons _ (.cons_cons _ (.cons _ (.cons _ (.cons_cons _ (.refl _))))))))) (OpQ.loadF (b := b1) AN_sc3 rfl (by repeat (first | exact Has.here | apply Has.there)) (by rfl)) ?_
   refine RA.know 57 (v' := .int .i64 ((D.da.s : Nat) : Int)) rfl (congrArg (Value.int .i64) hv.s_eq) ?_
   refine RA.q 6 (by kernel_rfl) rfl rfl rfl (.cons _ (.cons _ (.cons _ (.cons_cons _ (.cons_cons _ (.cons _ (.cons _ (.cons_cons _ (.refl _))))))))) (OpQ.quo rfl rfl ⟨by decide, by rw [tdiv64]; omega, by rw [tdiv64]; omega⟩) ?_
   refine RA.know 58 (v' := .int .i64 (((D.da.s / 64) : Nat) : Int)) rfl (congrArg (Value.int .i64) (tdiv64 (D.da.s))) ?_
   refine RA.q 7 (by kernel_rfl) rfl rfl rfl (.cons _ (.cons _ (.cons _ (.cons_cons _ (.cons_cons _ (.cons _ (.cons _ (.cons_cons _ (.refl _))))))))) (OpQ.index AN_un120 AN_sz119 rfl rfl (by omega) hia) ?_
   refine RA.q 8 (by kernel_rfl) rfl rfl rfl (.cons _ (.cons _ (.cons _ (.cons_cons _ (.cons_cons _ (.cons _ (.cons _ (.cons_cons _ (.refl _))))))))) (OpQ.indexArr1 AN_un119 AN_sz77 rfl rfl (by omega)) ?_
   refine RA.q 9 (by kernel_rfl) rfl rfl rfl (.cons _ (.cons _ (.cons _ (.cons_cons _ (.cons_cons _ (.cons _ (.cons _ (.cons_cons _ (.refl _))))))))) (OpQ.loadGF AN_sc77 rfl (fun w hH => hH.rd (.there .here)) (lw_cell (z := (w0 D.da)) hlt (by omega))) ?_
   refine RA.q 10 (by kernel_rfl) rfl rfl rfl (.cons _ (.cons _ (.cons _ (.cons_cons _ (.cons_cons _ (.cons _ (.cons _ (.cons_cons _ (.refl _))))))))) (OpQ.fieldAddr AN_fa52_1 rfl) ?_
   refine RA.q 11 (by kernel_rfl) rfl rfl rfl (.cons _ (.cons _ (.cons _ (.cons_cons _ (.cons_cons _ (.cons _ (.cons _ (.cons_cons _ (.refl _))))))))) (OpQ.loadF (b := b1) AN_sc3 rfl (by repeat (first | exact Has.here | apply Has.there)) (by rfl)) ?_
   refine RA.know 63 (v' := .int .i64 ((D.da.s : Nat) : Int)) rfl (congrArg (Value.int .i64) hv.s_eq) ?_
   refine RA.q 12 (by kernel_rfl) rfl rfl rfl (.cons _ (.cons _ (.cons _ (.cons_cons _ (.cons_cons _ (.cons _ (.cons _ (.cons_cons _ (.refl _))))))))) (OpQ.rem rfl rfl (by decide)) ?_
   refine RA.know 64 (v' := .int .i64 (((D.da.s % 64) : Nat) : Int)) rfl (congrArg (Value.int .i64) (tmod64 (D.da.s))) ?_
   refine RA.q 13 (by kernel_rfl) rfl rfl rfl (.cons _ (.cons _ (.cons _ (.cons_cons _ (.cons_cons _ (.cons _ (.cons _ (.cons_cons _ (.refl _))))))))) (OpQ.ushrN rfl rfl) ?_
   refine RA.q 14 (by kernel_rfl) rfl rfl rfl (.cons _ (.cons _ (.cons _ (.cons_cons _ (.cons_cons _ (.cons _ (.cons _ (.cons_cons _ (.refl _))))))))) (OpQ.uand (q := 1#64) rfl rfl) ?_
   refine RA.q 15 (by kernel_rfl) rfl rfl rfl (.cons _ (.cons _ (.cons _ (.cons_cons _ (.cons_cons _ (.cons _ (.cons _ (.cons_cons _ (.refl _))))))))) (OpQ.ueql (q := 1#64) rfl rfl) ?_
   refine RA.know 67 (v' := .bool ((wT D.da).fin ((bfs (wT D.da).f D.da.L (w0 D.da) (i * D.da.L)).getD i (w0 D.da)))) rfl (congrArg Value.bool (has_bit _ _)) ?_
   refine RA.f 16 (by kernel_rfl) rfl rfl rfl (OpG.lit1 AN_un49 AN_in4 rfl rfl rfl) (fun _ _ => (.cons _ (.cons _ (.cons _ (.cons _ (.cons_cons _ (.cons_cons _ (.cons _ (.cons _ (.cons_cons _ (.refl _))))))))))) ?_
   rintro b68 _
   refine RA.f 17 (by kernel_rfl) rfl rfl rfl (OpG.append AN_un49 AN_in4 (by rfl) (by decide) rfl rfl (p := 2) rfl (fun w hH => hH.rd .here) ⟨rfl, (by simp [Value.oneCell']), (by omega), (by omega)⟩ (nm := i + 1) rfl (all := (fl ++ [(wT D.da).fin ((bfs (wT D.da).f D.da.L (w0 D.da) (i * D.da.L)).getD i (w0 D.da))]).map bo) (by simp)) (fun _ _ => (.cons _ (.cons _ (.cons _ (.cons _ (.cons_cons _ (.cons_cons _ (.cons _ (.cons _ (.cons_cons _ (.refl _))))))))))) ?_
   rintro ⟨a69, c69⟩ h69
   refine RA.q 18 (by kernel_rfl) rfl rfl rfl (.cons _ (.cons _ (.cons _ (.cons _ (.cons_cons _ (.cons_cons _ (.cons _ (.cons _ (.cons_cons _ (.refl _)))))))))) (OpQ.fieldAddr AN_fa52_2 rfl) ?_
   refine RA.tail ?_
   refine RT.f 19 (by kernel_rfl) rfl rfl rfl (OpG.storeRow (a := some ⟨b7, 0, none⟩) AN_sz49 rfl rfl rfl (by repeat (first | exact Upd.here | apply Upd.there)) (by simp)) ?_
   rintro _ _
   refine RT.done (by kernel_rfl) ?_
   refine PX.then_n ?_
   refine CT.seq ?_
   refine CT.region ?_
   refine Wl.q rfl rfl (OpQ.fieldAddr AN_fa52_0 rfl) ?_
   refine Wl.q rfl rfl (OpQ.loadF (b := b1) AN_sc3 rfl (by repeat (first | exact Has.here | apply Has.there)) (by rfl)) ?_
   refine Wl.know 72 (v' := .int .i64 ((D.da.L : Nat) : Int)) rfl (congrArg (Value.int .i64) hLe) ?_
   refine Wl.g rfl rfl (OpG.make1 AN_un25 AN_in3 rfl rfl rfl rfl (by omega) (by omega)) ?_
   rintro b73 _
   refine Wl.q rfl rfl (OpQ.assign rfl) ?_
   refine Wl.nil ?_
   refine PX.then_n ?_
   refine CT.seq ?_
   refine CT.seq ?_
   refine CT.region ?_
   refine Wl.q rfl rfl (OpQ.move rfl) ?_
   refine Wl.q rfl rfl (OpQ.len AN_un25 rfl) ?_
   refine Wl.q rfl rfl (OpQ.move rfl) ?_
   refine Wl.nil ?_
   refine PX.then_n ?_
   refine CT.block ?_
   refine CT.as (fun _ h => h.take (.cons .here (.cons (.there .here) (.cons (.there .here) (.cons (.there .here) (.cons (.there .here) (.cons (.there .here) (.cons (.there .here) (.cons (.there .here) (.cons (.there .here) .nil)))))))))) ?_
   refine CT.loop (ι := Nat × Option Addr × Nat) (fun (x, a', c') => x ≤ D.da.L) (fun (x, a', c') => [(1, .pointer (some ⟨b1, 0, none⟩)), (2, .pointer (some ⟨b2, 0, none⟩)), (7, .pointer (some ⟨b7, 0, none⟩)), (8, .slice a' (bfs (wT D.da).f D.da.L (w0 D.da) (i * D.da.L + x)).length c'), (9, .map (some b43)), (10, .int .i64 ((i : Nat) : Int)), (11, .slice (some ⟨b73, 0, none⟩) D.da.L D.da.L), (75, .int .i64 ((D.da.L : Nat) : Int)), (76, .int .i64 ((x : Nat) : Int))]) (fun (x, a', c') => [.row 3 1 (.slice (some ⟨b73, 0, none⟩) D.da.L D.da.L) D.da.L ((rowP (wT D.da).f D.da.L (bfs (wT D.da).f D.da.L (w0 D.da) (i * D.da.L + x)) ((bfs (wT D.da).f D.da.L (w0 D.da) (i * D.da.L)).getD i (w0 D.da)) x).map zz), .frag bs (rws rs), .row 4 1 (.slice a69 (i + 1) c69) (i + 1) ((fl ++ [(wT D.da).fin ((bfs (wT D.da).f D.da.L (w0 D.da) (i * D.da.L)).getD i (w0 D.da))]).map bo), .row 25 1 (.slice na' (i) nc') (i) ((rs).map rv), .row 52 4 (vb b7) 1 [.int .i64 D.L, .int .i64 0, .slice a69 (i + 1) c69, .slice na' (i) nc'], .row 119 8 (.slice a' (bfs (wT D.da).f D.da.L (w0 D.da) (i * D.da.L + x)).length c') (bfs (wT D.da).f D.da.L (w0 D.da) (i * D.da.L + x)).length ((bfs (wT D.da).f D.da.L (w0 D.da) (i * D.da.L + x)).flatMap lwv), .blk b43 (mapO kw (itA 0 (bfs (wT D.da).f D.da.L (w0 D.da) (i * D.da.L + x)))), .row 52 4 (vb b2) 1 [.int .i64 0, .int .i64 0, .slice none 0 0, .slice none 0 0], .row 52 4 (vb b1) 1 (dvc D)]) (fun (x, a', c') => D.da.L - x) (0, a', c') (Nat.zero_le _) ⟨rfl, rfl, rfl, rfl, rfl, rfl, rfl, rfl, rfl, trivial⟩ (.keep (row_eq (by rw [rowP_zero]; simp)) (HSub.refl _)) (fun ⟨x, a', c'⟩ hx K2 hK2 => ?_)
   dsimp only
   refine CT.fact (p := a'.isSome = true) (fun w hH => (hH.rd (.there (.there (.there (.there (.there .here)))))).isSome (j := 0) (by rw [flat_len lwv_len]; have := bfs_pos (f := (wT D.da).f) (L := D.da.L) (s := (w0 D.da)) (i * D.da.L + x); omega)) (fun hia => ?_)
   refine CT.seq ?_
   refine CT.region ?_
   refine Wl.q rfl rfl (OpQ.lss rfl rfl) ?_
   refine Wl.nil ?_
   refine PX.then_n ?_
   refine CT.seq ?_
   refine CT.cond rfl (fun h77 => ?_) (fun h77 => ?_)
   ·
    have h77 := of_decide_eq_true h77
    have hxl : x < D.da.L := by omega
    have hltx : i < (bfs (wT D.da).f D.da.L (w0 D.da) (i * D.da.L + x)).length := Nat.lt_of_lt_of_le hlt (bfs_le (by omega))
    have hat : (bfs (wT D.da).f D.da.L (w0 D.da) (i * D.da.L + x)).getD i (w0 D.da) = ((bfs (wT D.da).f D.da.L (w0 D.da) (i * D.da.L)).getD i (w0 D.da)) := bfs_get (by omega) hlt _
    have hwx := hwl (i * D.da.L + x)
    refine CT.skip ?_
    refine PX.then_n ?_
    refine CT.seq ?_
    refine CT.block ?_
    refine CT.seq ?_
    refine CT.region ?_
    refine Wl.q rfl rfl (OpQ.move rfl) ?_
    refine Wl.q rfl rfl (OpQ.assign rfl) ?_
    refine Wl.nil ?_
    refine PX.then_n ?_
    refine CT.seq ?_
    refine CT.region ?_
    refine Wl.g rfl rfl (OpG.alloc (zs := [.int .u64 0, .int .u64 0, .int .u64 0, .int .u64 0, .int .u64 0, .int .u64 0, .int .u64 0, .int .u64 0]) AN_in119 rfl rfl) ?_
    rintro b13 _
    refine Wl.nil ?_
    refine PX.then_n ?_
    refine CT.seq ?_
    refine CT.seq ?_
    refine CT.region ?_
    refine Wl.q rfl rfl (OpQ.fieldAddr AN_fa52_3 rfl) ?_
    refine Wl.q rfl rfl (OpQ.loadF (b := b1) AN_sc50 rfl (by repeat (first | exact Has.here | apply Has.there)) (by rfl)) ?_
    refine Wl.q rfl rfl (OpQ.len AN_un50 rfl) ?_
    refine Wl.q rfl rfl (OpQ.move rfl) ?_
    refine Wl.nil ?_
    refine PX.then_n ?_
    refine CT.block ?_
    refine CT.loop (ι := Nat) (fun p => p ≤ D.fin.length) (fun p => [(1, .pointer (some ⟨b1, 0, none⟩)), (2, .pointer (some ⟨b2, 0, none⟩)), (7, .pointer (some ⟨b7, 0, none⟩)), (8, .slice a' (bfs (wT D.da).f D.da.L (w0 D.da) (i * D.da.L + x)).length c'), (9, .map (some b43)), (10, .int .i64 ((i : Nat) : Int)), (11, .slice (some ⟨b73, 0, none⟩) D.da.L D.da.L), (12, .int .i64 ((x : Nat) : Int)), (13, .pointer (some ⟨b13, 0, none⟩)), (75, .int .i64 ((D.da.L : Nat) : Int)), (76, .int .i64 ((x : Nat) : Int)), (80, .slice D.na D.rs.length D.nc), (81, .int .i64 ((D.rs.length : Nat) : Int)), (82, .int .i64 ((p : Nat) : Int))]) (fun p => [.row 119 8 (vb b13) 1 ((wS (fun p => wB ((bfs (wT D.da).f D.da.L (w0 D.da) (i * D.da.L)).getD i (w0 D.da)).1 (D.da.to p x)) p).map u), .row 3 1 (.slice (some ⟨b73, 0, none⟩) D.da.L D.da.L) D.da.L ((rowP (wT D.da).f D.da.L (bfs (wT D.da).f D.da.L (w0 D.da) (i * D.da.L + x)) ((bfs (wT D.da).f D.da.L (w0 D.da) (i * D.da.L)).getD i (w0 D.da)) x).map zz), .frag bs (rws rs), .row 4 1 (.slice a69 (i + 1) c69) (i + 1) ((fl ++ [(wT D.da).fin ((bfs (wT D.da).f D.da.L (w0 D.da) (i * D.da.L)).getD i (w0 D.da))]).map bo), .row 25 1 (.slice na' (i) nc') (i) ((rs).map rv), .row 52 4 (vb b7) 1 [.int .i64 D.L, .int .i64 0, .slice a69 (i + 1) c69, .slice na' (i) nc'], .row 119 8 (.slice a' (bfs (wT D.da).f D.da.L (w0 D.da) (i * D.da.L + x)).length c') (bfs (wT D.da).f D.da.L (w0 D.da) (i * D.da.L + x)).length ((bfs (wT D.da).f D.da.L (w0 D.da) (i * D.da.L + x)).flatMap lwv), .blk b43 (mapO kw (itA 0 (bfs (wT D.da).f D.da.L (w0 D.da) (i * D.da.L + x)))), .row 52 4 (vb b2) 1 [.int .i64 0, .int .i64 0, .slice none 0 0, .slice none 0 0], .row 52 4 (vb b1) 1 (dvc D)]) (fun p => D.fin.length - p) 0 (Nat.zero_le _) ⟨rfl, rfl, rfl, rfl, rfl, rfl, rfl, rfl, rfl, rfl, rfl, rfl, rfl, rfl, trivial⟩ (HSub.refl _) (fun p hp K3 hK3 => ?_)
    refine CT.seq ?_
    refine CT.region ?_
    refine Wl.q rfl rfl (OpQ.lss rfl rfl) ?_
    refine Wl.nil ?_
    refine PX.then_n ?_
    refine CT.seq ?_
    refine CT.cond rfl (fun h83 => ?_) (fun h83 => ?_)
    ·
     have h83 := of_decide_eq_true h83
     have hpl : p < D.fin.length := by omega
     have hrw := (hv.row p hpl).1
     have hto := hv.to (x := x) hpl (by omega)
     have htn : D.da.to p x < D.fin.length := hv.daOk.lt p x hpl hxl
     refine CT.skip ?_
     refine PX.then_n ?_
     refine CT.seq ?_
     refine CT.block ?_
     refine CT.seq ?_
     refine CT.region ?_
     refine Wl.q rfl rfl (OpQ.move rfl) ?_
     refine Wl.q rfl rfl (OpQ.index1 AN_un50 AN_sz25 rfl rfl (by omega) (hns (by omega))) ?_
     refine Wl.q rfl rfl (OpQ.loadG AN_sc25 rfl (fun w hH => (hH.use hD).2.1) (getMap rv D.rs rw0 (j := p) (by omega))) ?_
     refine Wl.q rfl rfl (OpQ.assign rfl) ?_
     refine Wl.q rfl rfl (OpQ.assign rfl) ?_
     refine Wl.nil ?_
     refine PX.then_n ?_
     refine CT.seq ?_
     refine CT.region ?_
     refine Wl.q rfl rfl (OpQ.move rfl) ?_
     refine Wl.q rfl rfl (OpQ.move rfl) ?_
     refine Wl.q rfl rfl (OpQ.index1 AN_un25 AN_sz3 rfl rfl (by omega) (hrs p (by omega) (by omega))) ?_
     refine Wl.q rfl rfl (OpQ.loadG AN_sc3 rfl (fun w hH => (hH.use hD).2.2 _ (getDm (show p < D.rs.length by omega))) (getMap zz (D.rs.getD p rw0).xs 0 (j := x) (by omega))) ?_
     refine Wl.know 90 (v' := .int .i64 (((D.da.to p x) : Nat) : Int)) rfl (congrArg (Value.int .i64) hto) ?_
     refine Wl.q rfl rfl (OpQ.assign rfl) ?_
     refine Wl.nil ?_
     refine PX.then_n ?_
     refine CT.draw 20 AN_mixed ?_
     refine RA.q 0 (by kernel_rfl) rfl rfl rfl (.refl _) (OpQ.move rfl) ?_
     refine RA.q 1 (by kernel_rfl) rfl rfl rfl (.refl _) (OpQ.quo rfl rfl ⟨by decide, by rw [tdiv64]; omega, by rw [tdiv64]; omega⟩) ?_
     refine RA.know 92 (v' := .int .i64 (((p / 64) : Nat) : Int)) rfl (congrArg (Value.int .i64) (tdiv64 (p))) ?_
     refine RA.q 2 (by kernel_rfl) rfl rfl rfl (.refl _) (OpQ.indexArr1 AN_un119 AN_sz77 rfl rfl (by omega)) ?_
     refine RA.q 3 (by kernel_rfl) rfl rfl rfl (.refl _) (OpQ.loadF (b := b13) AN_sc77 rfl (by repeat (first | exact Has.here | apply Has.there)) (getMap u (wS (fun p => wB ((bfs (wT D.da).f D.da.L (w0 D.da) (i * D.da.L)).getD i (w0 D.da)).1 (D.da.to p x)) p) 0#64 (j := p / 64) (by rw [wS_len]; omega))) ?_
     refine RA.q 4 (by kernel_rfl) rfl rfl rfl (.refl _) (OpQ.move rfl) ?_
     refine RA.q 5 (by kernel_rfl) rfl rfl rfl (.refl _) (OpQ.move rfl) ?_
     refine RA.q 6 (by kernel_rfl) rfl rfl rfl (.refl _) (OpQ.move rfl) ?_
     refine RA.q 7 (by kernel_rfl) rfl rfl rfl (.refl _) (OpQ.quo rfl rfl ⟨by decide, by rw [tdiv64]; omega, by rw [tdiv64]; omega⟩) ?_
     refine RA.know 98 (v' := .int .i64 (((D.da.to p x / 64) : Nat) : Int)) rfl (congrArg (Value.int .i64) (tdiv64 (D.da.to p x))) ?_
     refine RA.q 8 (by kernel_rfl) rfl rfl rfl (.refl _) (OpQ.index AN_un120 AN_sz119 rfl rfl (by omega) hia) ?_
     refine RA.q 9 (by kernel_rfl) rfl rfl rfl (.refl _) (OpQ.indexArr1 AN_un119 AN_sz77 rfl rfl (by omega)) ?_
     refine RA.q 10 (by kernel_rfl) rfl rfl rfl (.refl _) (OpQ.loadGF AN_sc77 rfl (fun w hH => hH.rd (.there (.there (.there (.there (.there (.there .here))))))) (lw_cell (z := (w0 D.da)) hltx (by omega))) ?_
     refine RA.know 101 (v' := u (((bfs (wT D.da).f D.da.L (w0 D.da) (i * D.da.L)).getD i (w0 D.da)).1.getD (D.da.to p x / 64) 0#64)) rfl (congrArg (fun A : LW => u (A.1.getD (D.da.to p x / 64) 0#64)) hat) ?_
     refine RA.q 11 (by kernel_rfl) rfl rfl rfl (.refl _) (OpQ.move rfl) ?_
     refine RA.q 12 (by kernel_rfl) rfl rfl rfl (.refl _) (OpQ.rem rfl rfl (by decide)) ?_
     refine RA.know 103 (v' := .int .i64 (((D.da.to p x % 64) : Nat) : Int)) rfl (congrArg (Value.int .i64) (tmod64 (D.da.to p x))) ?_
     refine RA.q 13 (by kernel_rfl) rfl rfl rfl (.refl _) (OpQ.ushrN rfl rfl) ?_
     refine RA.q 14 (by kernel_rfl) rfl rfl rfl (.refl _) (OpQ.uand (q := 1#64) rfl rfl) ?_
     refine RA.q 15 (by kernel_rfl) rfl rfl rfl (.refl _) (OpQ.move rfl) ?_
     refine RA.q 16 (by kernel_rfl) rfl rfl rfl (.refl _) (OpQ.rem rfl rfl (by decide)) ?_
     refine RA.know 107 (v' := .int .i64 (((p % 64) : Nat) : Int)) rfl (congrArg (Value.int .i64) (tmod64 (p))) ?_
     refine RA.q 17 (by kernel_rfl) rfl rfl rfl (.refl _) (OpQ.ushlN rfl rfl) ?_
     refine RA.q 18 (by kernel_rfl) rfl rfl rfl (.refl _) (OpQ.uor rfl rfl) ?_
     refine RA.q 19 (by kernel_rfl) rfl rfl rfl (.refl _) (OpQ.indexArr1 AN_un119 AN_sz77 rfl rfl (by omega)) ?_
     refine RA.tail ?_
     refine RT.f 20 (by kernel_rfl) rfl rfl rfl (OpG.storeRow (a := some ⟨b13, 0, none⟩) AN_sz77 rfl rfl rfl (by repeat (first | exact Upd.here | apply Upd.there)) (by rw [List.length_map, wS_len]; omega)) ?_
     rintro _ _
     refine RT.done (by kernel_rfl) ?_
     refine PX.block_n ?_
     refine PX.then_n ?_
     refine CT.region ?_
     refine Wl.q rfl rfl (OpQ.add rfl rfl (by omega)) ?_
     refine Wl.q rfl rfl (OpQ.move rfl) ?_
     refine Wl.nil ?_
     exact PX.loop hK3 (p + 1) (by omega) (by first | omega | (dsimp only; omega)) ⟨rfl, rfl, rfl, rfl, rfl, rfl, rfl, rfl, rfl, rfl, rfl, rfl, rfl, rfl, trivial⟩ (.keep (row_eq (wS_or (g := (fun p => wB ((bfs (wT D.da).f D.da.L (w0 D.da) (i * D.da.L)).getD i (w0 D.da)).1 (D.da.to p x))) (i := p) (a := ((bfs (wT D.da).f D.da.L (w0 D.da) (i * D.da.L)).getD i (w0 D.da)).1.getD (D.da.to p x / 64) 0#64) (j := D.da.to p x % 64) rfl).symm) (HSub.refl _))
    ·
     have h83 := of_decide_eq_false h83
     obtain rfl : p = D.fin.length := by omega
     refine CT.exit ?_
     refine PX.then_x ?_
     refine PX.then_x ?_
     refine PX.block_x ?_
     refine PX.then_n ?_
     refine CT.seq ?_
     refine CT.region ?_
     refine Wl.q rfl rfl (OpQ.move rfl) ?_
     refine Wl.q rfl rfl (OpQ.loadV (b := b13) AN_ag119 AN_sz119 rfl (by repeat (first | exact Has.here | apply Has.there)) (by rw [List.length_map, wS_len])) ?_
     refine Wl.know 114 (v' := kw ((wT D.da).f ((bfs (wT D.da).f D.da.L (w0 D.da) (i * D.da.L)).getD i (w0 D.da)) x)) rfl (kw_agg ((wT D.da).f ((bfs (wT D.da).f D.da.L (w0 D.da) (i * D.da.L)).getD i (w0 D.da)) x)) ?_
     refine Wl.q rfl rfl (OpQ.lookup (f := kw) (x := ((wT D.da).f ((bfs (wT D.da).f D.da.L (w0 D.da) (i * D.da.L)).getD i (w0 D.da)) x)) (l := (itA 0 (bfs (wT D.da).f D.da.L (w0 D.da) (i * D.da.L + x)))) AN_mkA AN_un121 AN_in3 rfl rfl (by repeat (first | exact Has.here | apply Has.there)) (by rw [if_pos rfl, getA_itA, ix_val, ix_is])) ?_
     refine Wl.q rfl rfl (OpQ.move rfl) ?_
     refine Wl.q rfl rfl (OpQ.extract rfl rfl) ?_
     refine Wl.q rfl rfl (OpQ.extract rfl rfl) ?_
     refine Wl.q rfl rfl (OpQ.assign rfl) ?_
     refine Wl.q rfl rfl (OpQ.assign rfl) ?_
     refine Wl.nil ?_
     refine PX.then_n ?_
     refine CT.seq ?_
     refine CT.seq ?_
     refine CT.region ?_
     refine Wl.q rfl rfl (OpQ.move rfl) ?_
     refine Wl.q rfl rfl (OpQ.not rfl) ?_
     refine Wl.nil ?_
     refine PX.then_n ?_
     refine CT.cond rfl (fun h119 => ?_) (fun h119 => ?_)
     ·
      have hix : ixA ((wT D.da).f ((bfs (wT D.da).f D.da.L (w0 D.da) (i * D.da.L)).getD i (w0 D.da)) x) 0 (bfs (wT D.da).f D.da.L (w0 D.da) (i * D.da.L + x)) = none := by simpa using h119
      have hnx := ixA_none hix
      have hs2 : (bfs (wT D.da).f D.da.L (w0 D.da) (i * D.da.L + (x + 1))) = (bfs (wT D.da).f D.da.L (w0 D.da) (i * D.da.L + x)) ++ [((wT D.da).f ((bfs (wT D.da).f D.da.L (w0 D.da) (i * D.da.L)).getD i (w0 D.da)) x)] := by rw [show i * D.da.L + (x + 1) = i * D.da.L + x + 1 from rfl, bfs_addx hxl hlt, addN_out hnx]
      have hwx1 := hwl (i * D.da.L + (x + 1))
      rw [hs2, List.length_append, List.length_singleton] at hwx1
      refine CT.seq ?_
      refine CT.seq ?_
      refine CT.region ?_
      refine Wl.q rfl rfl (OpQ.move rfl) ?_
      refine Wl.q rfl rfl (OpQ.len AN_un120 rfl) ?_
      refine Wl.q rfl rfl (OpQ.eql rfl rfl) ?_
      refine Wl.know 122 (v' := .bool false) rfl (congrArg Value.bool (decide_eq_false (by omega))) ?_
      refine Wl.nil ?_
      refine PX.then_n ?_
      refine CT.condF rfl ?_
      refine CT.skip ?_
      refine PX.then_n ?_
      refine CT.seq ?_
      refine CT.region ?_
      refine Wl.q rfl rfl (OpQ.move rfl) ?_
      refine Wl.q rfl rfl (OpQ.len AN_un120 rfl) ?_
      refine Wl.q rfl rfl (OpQ.assign rfl) ?_
      refine Wl.nil ?_
      refine PX.then_n ?_
      refine CT.seq ?_
      refine CT.region ?_
      refine Wl.q rfl rfl (OpQ.move rfl) ?_
      refine Wl.q rfl rfl (OpQ.loadV (b := b13) AN_ag119 AN_sz119 rfl (by repeat (first | exact Has.here | apply Has.there)) (by rw [List.length_map, wS_len])) ?_
      refine Wl.know 127 (v' := kw ((wT D.da).f ((bfs (wT D.da).f D.da.L (w0 D.da) (i * D.da.L)).getD i (w0 D.da)) x)) rfl (kw_agg ((wT D.da).f ((bfs (wT D.da).f D.da.L (w0 D.da) (i * D.da.L)).getD i (w0 D.da)) x)) ?_
      refine Wl.q rfl rfl (OpQ.move rfl) ?_
      refine Wl.g rfl rfl (OpG.mapNew (f := kw) (x := ((wT D.da).f ((bfs (wT D.da).f D.da.L (w0 D.da) (i * D.da.L)).getD i (w0 D.da)) x)) (l := (itA 0 (bfs (wT D.da).f D.da.L (w0 D.da) (i * D.da.L + x)))) AN_mkA AN_un121 rfl rfl rfl (by rw [getA_itA, hix]; rfl) (by repeat (first | exact Upd.here | apply Upd.there))) ?_
      rintro _ _
      refine Wl.nil ?_
      refine PX.then_n ?_
      refine CT.region ?_
      refine Wl.q rfl rfl (OpQ.move rfl) ?_
      refine Wl.q rfl rfl (OpQ.loadV (b := b13) AN_ag119 AN_sz119 rfl (by repeat (first | exact Has.here | apply Has.there)) (by rw [List.length_map, wS_len])) ?_
      refine Wl.g rfl rfl (OpG.litS1 AN_un120 AN_in119 rfl (by decide) (by rw [List.length_map, wS_len])) ?_
      rintro b131 _
      refine Wl.g rfl rfl (OpG.append AN_un120 AN_in119 (by rfl) (by decide) rfl rfl (p := 7) rfl (fun w hH => hH.rd .here) ⟨by rw [List.length_map, wS_len], ones_map (fun _ => rfl) _, (by omega), (by omega)⟩ (nm := ((bfs (wT D.da).f D.da.L (w0 D.da) (i * D.da.L + x)).length + 1)) rfl (all := ((bfs (wT D.da).f D.da.L (w0 D.da) (i * D.da.L + x)) ++ [((wT D.da).f ((bfs (wT D.da).f D.da.L (w0 D.da) (i * D.da.L)).getD i (w0 D.da)) x)]).flatMap lwv) (by rw [List.flatMap_append]; simp; rfl)) ?_
      rintro ⟨a132, c132⟩ h132
      refine Wl.q rfl rfl (OpQ.assign rfl) ?_
      refine Wl.nil ?_
      refine PX.then_n ?_
      refine CT.region ?_
      refine Wl.q rfl rfl (OpQ.move rfl) ?_
      refine Wl.q rfl rfl (OpQ.move rfl) ?_
      refine Wl.q rfl rfl (OpQ.move rfl) ?_
      refine Wl.q rfl rfl (OpQ.index1 AN_un25 AN_sz3 rfl rfl (by omega) rfl) ?_
      refine Wl.g rfl rfl (OpG.storeRow (a := some ⟨b73, 0, none⟩) AN_sz3 rfl rfl rfl (by repeat (first | exact Upd.here | apply Upd.there)) (by rw [List.length_map, rowP_len]; exact hxl)) ?_
      rintro _ _
      refine Wl.nil ?_
      refine PX.block_n ?_
      refine PX.then_n ?_
      refine CT.region ?_
      refine Wl.q rfl rfl (OpQ.add rfl rfl (by omega)) ?_
      refine Wl.q rfl rfl (OpQ.move rfl) ?_
      refine Wl.nil ?_
      refine PX.as (fun _ h => h.take (.cons (.there (.there .here)) (.cons (.there (.there .here)) (.cons (.there (.there .here)) (.cons (.there (.there .here)) (.cons (.there (.there .here)) (.cons (.there (.there .here)) (.cons (.there (.there .here)) (.cons (.there (.there .here)) (.cons (.there (.there .here)) .nil)))))))))) ?_
      exact PX.loop hK2 (x + 1, a132, c132) (show x + 1 ≤ D.da.L by omega) (show D.da.L - (x + 1) < D.da.L - x by omega) ⟨rfl, rfl, rfl, (lkV rfl (by rw [hs2, List.length_append]; rfl)), rfl, rfl, rfl, rfl, rfl, trivial⟩ (.keep (row_eq (rowP_put (l := (bfs (wT D.da).f D.da.L (w0 D.da) (i * D.da.L + x))) (m := (bfs (wT D.da).f D.da.L (w0 D.da) (i * D.da.L + (x + 1)))) ⟨_, hs2⟩ (bfs_row_mem (Nat.le_of_lt hxl) hlt) (v := (((bfs (wT D.da).f D.da.L (w0 D.da) (i * D.da.L + x)).length : Nat) : Int)) (by rw [hs2, idxOf_out hnx]; simp)).symm) (by rw [hs2, itA_snoc, List.length_append, Nat.zero_add]; exact HSub.refl _))
     ·
      have hix : ¬ ixA ((wT D.da).f ((bfs (wT D.da).f D.da.L (w0 D.da) (i * D.da.L)).getD i (w0 D.da)) x) 0 (bfs (wT D.da).f D.da.L (w0 D.da) (i * D.da.L + x)) = none := by intro h; rw [h] at h119; simp at h119
      obtain ⟨hx1, hx2⟩ := ix_in hix
      have hs2 : (bfs (wT D.da).f D.da.L (w0 D.da) (i * D.da.L + (x + 1))) = (bfs (wT D.da).f D.da.L (w0 D.da) (i * D.da.L + x)) := by rw [show i * D.da.L + (x + 1) = i * D.da.L + x + 1 from rfl, bfs_addx hxl hlt, hx1]
      refine CT.skip ?_
      refine PX.then_n ?_
      refine CT.region ?_
      refine Wl.q rfl rfl (OpQ.move rfl) ?_
      refine Wl.q rfl rfl (OpQ.move rfl) ?_
      refine Wl.q rfl rfl (OpQ.move rfl) ?_
      refine Wl.q rfl rfl (OpQ.index1 AN_un25 AN_sz3 rfl rfl (by omega) rfl) ?_
      refine Wl.g rfl rfl (OpG.storeRow (a := some ⟨b73, 0, none⟩) AN_sz3 rfl rfl rfl (by repeat (first | exact Upd.here | apply Upd.there)) (by rw [List.length_map, rowP_len]; exact hxl)) ?_
      rintro _ _
      refine Wl.nil ?_
      refine PX.block_n ?_
      refine PX.then_n ?_
      refine CT.region ?_
      refine Wl.q rfl rfl (OpQ.add rfl rfl (by omega)) ?_
      refine Wl.q rfl rfl (OpQ.move rfl) ?_
      refine Wl.nil ?_
      refine PX.as (fun _ h => h.take (.cons (.there .here) (.cons (.there .here) (.cons (.there .here) (.cons (.there .here) (.cons (.there .here) (.cons (.there .here) (.cons (.there .here) (.cons (.there .here) (.cons (.there .here) .nil)))))))))) ?_
      exact PX.loop hK2 (x + 1, a', c') (show x + 1 ≤ D.da.L by omega) (show D.da.L - (x + 1) < D.da.L - x by omega) ⟨rfl, rfl, rfl, (lkV rfl (by rw [hs2])), rfl, rfl, rfl, rfl, rfl, trivial⟩ (.keep (row_eq (rowP_put (l := (bfs (wT D.da).f D.da.L (w0 D.da) (i * D.da.L + x))) (m := (bfs (wT D.da).f D.da.L (w0 D.da) (i * D.da.L + (x + 1)))) ⟨[], by rw [hs2, List.append_nil]⟩ (bfs_row_mem (Nat.le_of_lt hxl) hlt) (v := (((ixA ((wT D.da).f ((bfs (wT D.da).f D.da.L (w0 D.da) (i * D.da.L)).getD i (w0 D.da)) x) 0 (bfs (wT D.da).f D.da.L (w0 D.da) (i * D.da.L + x))).getD 0 : Nat) : Int)) (by rw [hx2, addN_idx, hx1, hs2])).symm) (by rw [hs2]; exact HSub.refl _))
   ·
    have h77 := of_decide_eq_false h77
    obtain rfl : x = D.da.L := by omega
    have hrows2 := (hrows.grow hi (bfs_pre (i * D.da.L) D.da.L)).snoc (fun y hy => by rw [bfs_get (show i * D.da.L ≤ i * D.da.L + D.da.L by omega) hlt]; exact bfs_row_mem (Nat.le_refl _) hlt y hy)
    rw [bfs_get (show i * D.da.L ≤ i * D.da.L + D.da.L by omega) hlt] at hrows2
    refine CT.exit ?_
    refine PX.then_x ?_
    refine PX.then_x ?_
    refine PX.block_x ?_
    refine PX.then_n ?_
    refine CT.region ?_
    refine Wl.q rfl rfl (OpQ.fieldAddr AN_fa52_3 rfl) ?_
    refine Wl.q rfl rfl (OpQ.loadF (b := b7) AN_sc50 rfl (by repeat (first | exact Has.here | apply Has.there)) (by rfl)) ?_
    refine Wl.q rfl rfl (OpQ.move rfl) ?_
    refine Wl.g rfl rfl (OpG.lit1 AN_un50 AN_in25 rfl rfl rfl) ?_
    rintro b141 _
    refine Wl.g rfl rfl (OpG.append AN_un50 AN_in25 (by rfl) (by decide) rfl rfl (p := 4) rfl (fun w hH => hH.rd .here) ⟨rfl, (by simp [Value.oneCell']), (by omega), (by omega)⟩ (nm := i + 1) rfl (all := (rs ++ [(⟨some ⟨b73, 0, none⟩, D.da.L, rowP (wT D.da).f D.da.L (bfs (wT D.da).f D.da.L (w0 D.da) (i * D.da.L + D.da.L)) ((bfs (wT D.da).f D.da.L (w0 D.da) (i * D.da.L)).getD i (w0 D.da)) D.da.L⟩ : Rw)]).map rv) (by simp [rowP_len])) ?_
    rintro ⟨a142, c142⟩ h142
    refine Wl.q rfl rfl (OpQ.fieldAddr AN_fa52_3 rfl) ?_
    refine Wl.g rfl rfl (OpG.storeRow (a := some ⟨b7, 0, none⟩) AN_sz50 rfl rfl rfl (by repeat (first | exact Upd.here | apply Upd.there)) (by simp)) ?_
    rintro _ _
    refine Wl.nil ?_
    refine PX.block_n ?_
    refine PX.then_n ?_
    refine CT.region ?_
    refine Wl.q rfl rfl (OpQ.move rfl) ?_
    refine Wl.q rfl rfl (OpQ.add rfl rfl (by omega)) ?_
    refine Wl.q rfl rfl (OpQ.assign rfl) ?_
    refine Wl.nil ?_
    refine PX.as (fun _ h => h.bind (L := [.frag bs (rws rs), .row 3 1 (.slice (some ⟨b73, 0, none⟩) D.da.L D.da.L) D.da.L ((rowP (wT D.da).f D.da.L (bfs (wT D.da).f D.da.L (w0 D.da) (i * D.da.L + D.da.L)) ((bfs (wT D.da).f D.da.L (w0 D.da) (i * D.da.L)).getD i (w0 D.da)) D.da.L).map zz)]) (p := rws (rs ++ [(⟨some ⟨b73, 0, none⟩, D.da.L, rowP (wT D.da).f D.da.L (bfs (wT D.da).f D.da.L (w0 D.da) (i * D.da.L + D.da.L)) ((bfs (wT D.da).f D.da.L (w0 D.da) (i * D.da.L)).getD i (w0 D.da)) D.da.L⟩ : Rw)])) (.cons (.there (.there .here)) (.cons (.there .here) .nil)) (fun w hk => rws_snoc (r := (⟨some ⟨b73, 0, none⟩, D.da.L, rowP (wT D.da).f D.da.L (bfs (wT D.da).f D.da.L (w0 D.da) (i * D.da.L + D.da.L)) ((bfs (wT D.da).f D.da.L (w0 D.da) (i * D.da.L)).getD i (w0 D.da)) D.da.L⟩ : Rw)) ((hk _ List.mem_cons_self).2 w (fun _ _ => rfl)) (Rd.of_owns (hk _ (List.mem_cons_of_mem _ List.mem_cons_self))))) ?_
    refine PX.as (fun _ h => h.take (.cons .here (.cons (.there .here) (.cons (.there .here) (.cons (.there .here) (.cons (.there .here) (.cons (.there .here) (.cons (.there .here) (.cons (.there .here) .nil))))))))) ?_
    exact PX.loop hK1 (i + 1, a', c', a69, c69, fl ++ [(wT D.da).fin ((bfs (wT D.da).f D.da.L (w0 D.da) (i * D.da.L)).getD i (w0 D.da))], a142, c142, rs ++ [(⟨some ⟨b73, 0, none⟩, D.da.L, rowP (wT D.da).f D.da.L (bfs (wT D.da).f D.da.L (w0 D.da) (i * D.da.L + D.da.L)) ((bfs (wT D.da).f D.da.L (w0 D.da) (i * D.da.L)).getD i (w0 D.da)) D.da.L⟩ : Rw)], _) ⟨hg.next hlt, by have := bfs_le (f := (wT D.da).f) (L := D.da.L) (s := (w0 D.da)) (show i * D.da.L ≤ (i + 1) * D.da.L by rw [Nat.add_mul]; omega); omega, fl_next hfl hlt bfs_succ_row, by rw [List.map_append, Nat.add_mul, Nat.one_mul]; exact hrows2⟩ (show 512 - (i + 1) < 512 - i by have := hwl (i * D.da.L); omega) ⟨rfl, rfl, rfl, (lkV rfl (by rw [Nat.add_mul, Nat.one_mul])), rfl, rfl, trivial⟩ (by dsimp only; rw [Nat.add_mul, Nat.one_mul]; exact HSub.refl _)
  ·
   have h49 := of_decide_eq_false h49
   have hii : i = (bfs (wT D.da).f D.da.L (w0 D.da) (i * D.da.L)).length := by omega
   have hK : Done (wT D.da).f D.da.L (w0 D.da) (i * D.da.L) := Done.of hv.pos hg hii
   have hIs : Dv.Is ⟨D.L, 0, fa', fc', fl, na', nc', rs⟩ (autoD (wT D.da).f D.da.L (w0 D.da) (i * D.da.L) (wT D.da).fin) := ⟨hLe, rfl, by show fl = _; rw [hfl, List.take_of_length_le (Nat.le_of_eq hii.symm)]; rfl, hrows.auto' hii (wT D.da).fin⟩
   have hval : dvv ⟨D.L, 0, fa', fc', fl, na', nc', rs⟩ = .agg #[.int .i64 D.L, .int .i64 0, .slice fa' i fc', .slice na' i nc'] := by
    show Value.agg #[.int .i64 D.L, .int .i64 0, .slice fa' fl.length fc', .slice na' rs.length nc'] = _
    rw [hfll, hrll]
   obtain ⟨hv3, h53⟩ := wq_ok hv hK hIs (hwl _)
   refine CT.exit ?_
   refine PX.then_x ?_
   refine PX.then_x ?_
   refine PX.block_x ?_
   refine PX.then_n ?_
   refine CT.seq ?_
   refine CT.region ?_
   refine Wl.q rfl rfl (OpQ.loadV (b := b7) AN_ag52 AN_sz52 rfl (by repeat (first | exact Has.here | apply Has.there)) (by rfl)) ?_
   refine Wl.know 144 (v' := dvv ⟨D.L, 0, fa', fc', fl, na', nc', rs⟩) rfl hval.symm ?_
   refine Wl.g rfl rfl (OpG.callX AN_go68 rfl .nil (fun _ => (.cons .nil)) (fun w hH hp => minimize_spec w ⟨D.L, 0, fa', fc', fl, na', nc', rs⟩ (fun w2 he => ⟨Stays.rd (hH.staysK0 (.there .here)) w2 he, Stays.rd (hH.staysK0 (.there (.there .here))) w2 he, Stays.frag (hH.staysK0 .here) w2 he⟩) hv3 h53)) ?_
   rintro ⟨D4, bs4⟩ h4
   dsimp only at h4
   obtain ⟨hv4, hm4⟩ := h4
   refine Wl.know 145 (v' := dvv D4) rfl rfl ?_
   refine Wl.g rfl rfl (OpG.storeV (b := b2) AN_sz52 rfl rfl rfl rfl (by repeat (first | exact Upd.here | apply Upd.there))) ?_
   rintro _ _
   refine Wl.q rfl rfl (OpQ.assign rfl) ?_
   refine Wl.nil ?_
   refine PX.then_n ?_
   refine CT.ret ?_
   refine PX.retC2 rfl rfl rfl (by repeat (first | exact Has.here | apply Has.there)) AN_ag52 AN_sz52 (by rfl) (fun w' hH => ?_)
   exact ⟨(D4, bs4), ⟨hv4, (wq_min hv h5 hK hIs (hwl _) hm4).1, (wq_min hv h5 hK hIs (hwl _) hm4).2⟩, rfl, (hH.take (.cons .here .nil)).post⟩

end Go.Proofs.Ytlmbcdjmdgbmjaa

