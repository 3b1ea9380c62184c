/-
  What functions of the program compute, each by its walk. Conditions: those that each theorem names.
-/
import Derived.Test.YtlmbcdjmdgbmjaaMod
import Derived.Test.YtlmbcdjmdgbmjaaXB8
import Derived.Test.YtlmbcdjmdgbmjaaXQ2
set_option linter.unusedSimpArgs false
namespace Go.Proofs.Ytlmbcdjmdgbmjaa
open Go Go.Eng Go.Am
open Go.Tl (mayL bo Tm tv okL vdF evL)

theorem AI_un62 : Try.prog.underlying 62 = some (.slice 5) := by kernel_rfl
theorem AI_un5 : Try.prog.underlying 5 = some (.int .u8) := by kernel_rfl
theorem AI_un9 : Try.prog.underlying 9 = some .string := by kernel_rfl
theorem AI_un49 : Try.prog.underlying 49 = some (.slice 4) := by kernel_rfl
theorem AI_in5 : (Try.prog.info? 5).map (fun i => (i.zero, i.size, i.bytes)) = some (some (.int .u8 0), 1, 1) := by kernel_rfl
theorem AI_sz4 : sizeB Try.prog 4 = some 1 := by kernel_rfl
theorem AI_sc4 : scalarB Try.prog 4 = some true := by kernel_rfl
theorem AI_sz5 : sizeB Try.prog 5 = some 1 := by kernel_rfl
set_option maxRecDepth 100000 in
/-- semigroup/semigroupref39.key -/
theorem key39_spec (w : World) (v : List Bool) (va : Option Addr) (vc : Nat) (hr : Stays [] w (fun w => Rd w va (v.map bo))) (hl : v.length ≤ 200000) : Calls Try.prog 46 #[.slice va v.length vc] w (fun e w' => e = .returned (bkv v) ∧ Ext [] w w') := by
 have hva : 0 < v.length → va.isSome = true := fun h => hr.now.isSome (j := 0) (by rw [List.length_map]; exact h)
 refine enter (args := [.slice va v.length vc]) [] 23 Try.func46 rfl rfl rfl ?_
 refine CT.seq ?_
 refine CT.region ?_
 refine Wl.q rfl rfl (OpQ.assign rfl) ?_
 refine Wl.nil ?_
 refine PX.then_n ?_
 refine CT.seq ?_
 refine CT.region ?_
 refine Wl.q rfl rfl (OpQ.move rfl) ?_
 refine Wl.q rfl rfl (OpQ.len AI_un49 rfl) ?_
 refine Wl.g rfl rfl (OpG.make1 AI_un62 AI_in5 rfl rfl rfl rfl (by omega) (by omega)) ?_
 rintro b8 _
 refine Wl.q rfl rfl (OpQ.assign rfl) ?_
 refine Wl.nil ?_
 refine PX.then_n ?_
 refine CT.seq ?_
 refine CT.seq ?_
 refine CT.region ?_
 refine Wl.q rfl rfl (OpQ.move rfl) ?_
 refine Wl.q rfl rfl (OpQ.len AI_un49 rfl) ?_
 refine Wl.q rfl rfl (OpQ.move rfl) ?_
 refine Wl.nil ?_
 refine PX.then_n ?_
 refine CT.block ?_
 refine CT.loop (ι := Nat) (fun i => i ≤ v.length) (fun i => [(3, .slice (some ⟨b8, 0, none⟩) v.length v.length), (9, .slice va v.length vc), (10, .int .i64 ((v.length : Nat) : Int)), (11, .int .i64 ((i : Nat) : Int))]) (fun i => [.row 5 1 (.slice (some ⟨b8, 0, none⟩) v.length v.length) v.length ((bkP v v.length i).map bv)]) (fun i => v.length - i) 0 (Nat.zero_le _) ⟨rfl, rfl, rfl, rfl, trivial⟩ (.keep (row_eq (by rw [bkP_zero])) (HSub.refl _)) (fun i hi K0 hK0 => ?_)
 refine CT.seq ?_
 refine CT.region ?_
 refine Wl.q rfl rfl (OpQ.lss rfl rfl) ?_
 refine Wl.nil ?_
 refine PX.then_n ?_
 refine CT.seq ?_
 refine CT.cond rfl (fun h12 => ?_) (fun h12 => ?_)
 ·
  have h12 := of_decide_eq_true h12
  refine CT.skip ?_
  refine PX.then_n ?_
  refine CT.seq ?_
  refine CT.block ?_
  refine CT.seq ?_
  refine CT.region ?_
  refine Wl.q rfl rfl (OpQ.move rfl) ?_
  refine Wl.q rfl rfl (OpQ.index1 AI_un49 AI_sz4 rfl rfl (by omega) (hva (by omega))) ?_
  refine Wl.q rfl rfl (OpQ.loadG AI_sc4 rfl (fun w hH => hH.use hr) (getMap bo v false (j := i) (by omega))) ?_
  refine Wl.q rfl rfl (OpQ.assign rfl) ?_
  refine Wl.q rfl rfl (OpQ.assign rfl) ?_
  refine Wl.nil ?_
  refine PX.then_n ?_
  refine CT.seq ?_
  refine CT.region ?_
  refine Wl.q rfl rfl (OpQ.move rfl) ?_
  refine Wl.nil ?_
  refine PX.then_n ?_
  refine CT.cond rfl (fun h16 => ?_) (fun h16 => ?_)
  ·
   refine CT.region ?_
   refine Wl.q rfl rfl (OpQ.move rfl) ?_
   refine Wl.q rfl rfl (OpQ.move rfl) ?_
   refine Wl.q rfl rfl (OpQ.index1 AI_un62 AI_sz5 rfl rfl (by omega) rfl) ?_
   refine Wl.g rfl rfl (OpG.storeRow AI_sz5 rfl rfl rfl .here (by rw [List.length_map]; simp [bkP]; omega)) ?_
   rintro _ _
   refine Wl.nil ?_
   refine PX.block_n ?_
   refine PX.then_n ?_
   refine CT.region ?_
   refine Wl.q rfl rfl (OpQ.add rfl rfl (by omega)) ?_
   refine Wl.q rfl rfl (OpQ.move rfl) ?_
   refine Wl.nil ?_
   exact PX.loop hK0 (i + 1) (by omega) (by first | omega | (dsimp only; omega)) ⟨rfl, rfl, rfl, rfl, trivial⟩ (.keep (row_eq (bkP_put h16).symm) (HSub.refl _))
  ·
   refine CT.skip ?_
   refine PX.block_n ?_
   refine PX.then_n ?_
   refine CT.region ?_
   refine Wl.q rfl rfl (OpQ.add rfl rfl (by omega)) ?_
   refine Wl.q rfl rfl (OpQ.move rfl) ?_
   refine Wl.nil ?_
   exact PX.loop hK0 (i + 1) (by omega) (by first | omega | (dsimp only; omega)) ⟨rfl, rfl, rfl, rfl, trivial⟩ (.keep (row_eq (by rw [bkP_keep h16])) (HSub.refl _))
 ·
  have h12 := of_decide_eq_false h12
  obtain rfl : i = v.length := by omega
  refine CT.mem (.keep (row_eq (xs := (bk v).map bv) (by rw [bkP_end])) (HSub.refl _)) ?_
  refine CT.exit ?_
  refine PX.then_x ?_
  refine PX.then_x ?_
  refine PX.block_x ?_
  refine PX.then_n ?_
  refine CT.seq ?_
  refine CT.region ?_
  refine Wl.q rfl rfl (OpQ.move rfl) ?_
  refine Wl.know 21 (v' := .slice (some ⟨b8, 0, none⟩) (bk v).length v.length) rfl (by rw [bk_len]) ?_
  refine Wl.q rfl rfl (OpQ.convBS (l := bk v) AI_un62 AI_un5 AI_un9 rfl (fun w hH => hH.rd .here)) ?_
  refine Wl.q rfl rfl (OpQ.assign rfl) ?_
  refine Wl.nil ?_
  refine PX.then_n ?_
  refine CT.ret ?_
  refine PX.ret1 rfl rfl (fun w' hH => ?_)
  exact ⟨rfl, hH.ext⟩

theorem AI_mkB : MapKey Try.prog 9 bkv := MapKey.bk (by kernel_rfl)
theorem AI_un83 : Try.prog.underlying 83 = some (.slice 49) := by kernel_rfl
theorem AI_in49 : (Try.prog.info? 49).map (fun i => (i.zero, i.size, i.bytes)) = some (some (.slice none 0 0), 1, 24) := by kernel_rfl
theorem AI_un50 : Try.prog.underlying 50 = some (.slice 25) := by kernel_rfl
theorem AI_in25 : (Try.prog.info? 25).map (fun i => (i.zero, i.size, i.bytes)) = some (some (.slice none 0 0), 1, 24) := by kernel_rfl
theorem AI_in4 : (Try.prog.info? 4).map (fun i => (i.zero, i.size, i.bytes)) = some (some (.bool false), 1, 1) := by kernel_rfl
theorem AI_in52 : (Try.prog.info? 52).map (fun i => (i.zero, i.size, i.bytes)) = some (some (.agg #[.int .i64 0, .int .i64 0, .slice none 0 0, .slice none 0 0]), 4, 64) := by kernel_rfl
theorem AI_go19 : isGo Try.prog 19 = true := by kernel_rfl
theorem AI_pl52 : placesB Try.prog 52 = some (#[.int .i64 0, .int .i64 0, .slice none 0 0, .slice none 0 0], [(0, 1), (1, 1), (2, 1), (3, 1)]) := by kernel_rfl
theorem AI_sz52 : sizeB Try.prog 52 = some 4 := by kernel_rfl
theorem AI_ag52 : isAggB Try.prog 52 = some true := by kernel_rfl
theorem AI_go43 : isGo Try.prog 43 = true := by kernel_rfl
theorem AI_sz49 : sizeB Try.prog 49 = some 1 := by kernel_rfl
theorem AI_sc49 : scalarB Try.prog 49 = some true := by kernel_rfl
theorem AI_go46 : isGo Try.prog 46 = true := by kernel_rfl
theorem AI_un85 : Try.prog.underlying 85 = some (.map 9 3) := by kernel_rfl
theorem AI_in3 : (Try.prog.info? 3).map (fun i => (i.zero, i.size, i.bytes)) = some (some (.int .i64 0), 1, 8) := by kernel_rfl
theorem AI_un25 : Try.prog.underlying 25 = some (.slice 3) := by kernel_rfl
theorem AI_mixed : Try.prog.follows .mixedOrders = true := by kernel_rfl
theorem AI_fa52_2 : fieldB Try.prog 52 2 = some 2 := by kernel_rfl
theorem AI_fa52_3 : fieldB Try.prog 52 3 = some 3 := by kernel_rfl
theorem AI_sc50 : scalarB Try.prog 50 = some true := by kernel_rfl
theorem AI_sz50 : sizeB Try.prog 50 = some 1 := by kernel_rfl
theorem AI_go47 : isGo Try.prog 47 = true := by kernel_rfl
theorem AI_go48 : isGo Try.prog 48 = true := by kernel_rfl
set_option maxRecDepth 100000 in
/-- semigroup/semigroupref39.Dfa -/
theorem dfa39_spec (w : World) (a : Option Addr) (cp : Nat) (xs : List Tm) (hr : Stays [] w (fun w => Rd w a (xs.flatMap tv))) (hl : xs.length ≤ 9223372036854775807) (root L : Int) : Calls Try.prog 25 #[.slice a xs.length cp, .int .i64 (root), .int .i64 (L)] w (fun e w' => ∃ i : Dv × List Nat × Int, (i.2.2 = 0 → Made xs root L i.1) ∧ e = .returned (.tuple #[dvv i.1, .int .i64 i.2.2]) ∧ Post [] [.frag i.2.1 (dvm i.1)] w w') := by
 refine enter (args := [.slice a xs.length cp, .int .i64 (root), .int .i64 (L)]) [] 119 Try.func25 rfl rfl rfl ?_
 refine CT.seq ?_
 refine CT.region ?_
 refine Wl.g rfl rfl (OpG.alloc (zs := [.int .i64 0, .int .i64 0, .slice none 0 0, .slice none 0 0]) AI_in52 rfl rfl) ?_
 rintro b6 _
 refine Wl.q rfl rfl (OpQ.assign rfl) ?_
 refine Wl.nil ?_
 refine PX.then_n ?_
 refine CT.seq ?_
 refine CT.seq ?_
 refine CT.region ?_
 refine Wl.q rfl rfl (OpQ.move rfl) ?_
 refine Wl.q rfl rfl (OpQ.move rfl) ?_
 refine Wl.q rfl rfl (OpQ.move rfl) ?_
 refine Wl.g rfl rfl (OpG.callV AI_go19 rfl (fun w hH => validateR_spec w a cp xs (hH.use hr) hl root L)) ?_
 rintro _ _
 refine Wl.q rfl rfl (OpQ.assign rfl) ?_
 refine Wl.nil ?_
 refine PX.then_n ?_
 refine CT.seq ?_
 refine CT.region ?_
 refine Wl.q rfl rfl (OpQ.move rfl) ?_
 refine Wl.q rfl rfl (OpQ.neq rfl rfl) ?_
 refine Wl.nil ?_
 refine PX.then_n ?_
 refine CT.cond rfl (fun h26 => ?_) (fun h26 => ?_)
 ·
  have h26 := of_nd_t h26
  refine CT.seq ?_
  refine CT.region ?_
  refine Wl.q rfl rfl (OpQ.build (cells := #[.int .i64 0, .int .i64 0, .slice none 0 0, .slice none 0 0]) AI_pl52 rfl rfl) ?_
  refine Wl.q rfl rfl (OpQ.move rfl) ?_
  refine Wl.g rfl rfl (OpG.storeV (b := b6) AI_sz52 rfl rfl rfl rfl (by repeat (first | exact Upd.here | apply Upd.there))) ?_
  rintro _ _
  refine Wl.q rfl rfl (OpQ.assign rfl) ?_
  refine Wl.nil ?_
  refine PX.then_n ?_
  refine CT.ret ?_
  refine PX.then_r ?_
  refine PX.retC2 rfl rfl rfl (by repeat (first | exact Has.here | apply Has.there)) AI_ag52 AI_sz52 (by rfl) (fun w' hH => ?_)
  exact ⟨(dv0, [], vdF xs root L), fun h => absurd h h26, rfl, ((hH.bind0 (p := dvm dv0) dvm0).take (.cons .here .nil)).post⟩
 ·
  have h26 := of_nd_f h26
  obtain ⟨hmv, hl2, hok, hr0, hr1⟩ := vd_zeroL h26
  have hL1 : 0 < L.toNat := by omega
  have hLe : L = ((L.toNat : Nat) : Int) := by omega
  have hroot : root = ((root.toNat : Nat) : Int) := by omega
  refine CT.skip ?_
  refine PX.then_n ?_
  refine CT.seq ?_
  refine CT.region ?_
  refine Wl.q rfl rfl (OpQ.move rfl) ?_
  refine Wl.q rfl rfl (OpQ.build (cells := #[_, .int .i64 0, .slice none 0 0, .slice none 0 0]) AI_pl52 rfl rfl) ?_
  refine Wl.g rfl rfl (OpG.alloc (zs := [.int .i64 0, .int .i64 0, .slice none 0 0, .slice none 0 0]) AI_in52 rfl rfl) ?_
  rintro b9 _
  refine Wl.g rfl rfl (OpG.storeV (b := b9) AI_sz52 rfl rfl rfl rfl (by repeat (first | exact Upd.here | apply Upd.there))) ?_
  rintro _ _
  refine Wl.nil ?_
  refine PX.then_n ?_
  refine CT.seq ?_
  refine CT.region ?_
  refine Wl.q rfl rfl (OpQ.move rfl) ?_
  refine Wl.g rfl rfl (OpG.callR AI_go43 rfl (fun w hH => before_spec w a cp xs (hH.use hr) hl2 (-1) none 0 [] (Rd.nil _ _) (fun h => absurd rfl h) hok)) ?_
  rintro ⟨a32, c32⟩ h32
  refine Wl.g rfl rfl (OpG.lit1 AI_un83 AI_in49 rfl rfl rfl) ?_
  rintro b33 _
  refine Wl.q rfl rfl (OpQ.assign rfl) ?_
  refine Wl.nil ?_
  refine PX.then_n ?_
  refine CT.seq ?_
  refine CT.region ?_
  refine Wl.g rfl rfl (OpG.makeMap (f := bkv)) ?_
  rintro b34 _
  refine Wl.q rfl rfl (OpQ.move rfl) ?_
  refine Wl.q rfl rfl (OpQ.index1 AI_un83 AI_sz49 rfl rfl (by omega) rfl) ?_
  refine Wl.q rfl rfl (OpQ.loadRow AI_sc49 rfl (.there .here) rfl) ?_
  refine Wl.g rfl rfl (OpG.callV AI_go46 rfl (fun w hH => by have h := key39_spec w (v0 xs) a32 c32 ((Stays.rd (hH.staysK0 (.there (.there .here))))) (by rw [v0_len]; omega); rw [v0_len] at h; exact h)) ?_
  rintro _ _
  refine Wl.g rfl rfl (OpG.insNew (f := bkv) (x := (v0 xs)) (l := []) AI_mkB AI_un85 rfl rfl rfl rfl (by repeat (first | exact Upd.here | apply Upd.there))) ?_
  rintro _ _
  refine Wl.q rfl rfl (OpQ.move rfl) ?_
  refine Wl.q rfl rfl (OpQ.assign rfl) ?_
  refine Wl.nil ?_
  refine PX.then_n ?_
  refine CT.seq ?_
  refine CT.seq ?_
  refine CT.region ?_
  refine Wl.q rfl rfl (OpQ.assign rfl) ?_
  refine Wl.nil ?_
  refine PX.then_n ?_
  refine CT.block ?_
  refine CT.mem (.keep rfl (.keep (row_eq (xs := [(⟨a32, c32, (v0 xs)⟩ : Bw)].map bwv) (by show [Value.slice a32 ((v0 xs)).length c32] = [Value.slice a32 xs.length c32]; rw [v0_len])) (HSub.refl _))) ?_
  refine CT.as (fun _ h => h.bind (L := [.row 4 1 (.slice a32 xs.length c32) xs.length ((v0 xs).map bo)]) (p := bws [(⟨a32, c32, (v0 xs)⟩ : Bw)]) (.cons (.there (.there .here)) .nil) (fun w hk r hr2 => by rw [List.mem_singleton] at hr2; subst hr2; exact Rd.of_owns (hk _ List.mem_cons_self))) ?_
  refine CT.nilrow 4 1 ?_
  refine CT.nilrow 25 1 ?_
  refine CT.as (fun _ h => h.bind0 (p := rws []) (rws_nil)) ?_
  refine CT.as (fun _ h => h.take (.cons .here (.cons (.there .here) (.cons .here (.cons (.there (.there (.there .here))) (.cons .here (.cons (.there .here) (.cons .here (.cons .here .nil))))))))) ?_
  refine CT.loop (ι := Nat × Option Addr × Nat × Option Addr × Nat × List Bool × Option Addr × Nat × List Rw × List Nat × List Bw × List Nat) (fun (i, a', c', fa', fc', fl, na', nc', rs, bs, vs, gs) => Going (vS xs root.toNat).f L.toNat (v0 xs) (i * L.toNat) ∧ i ≤ (bfs (vS xs root.toNat).f L.toNat (v0 xs) (i * L.toNat)).length ∧ fl = ((bfs (vS xs root.toNat).f L.toNat (v0 xs) (i * L.toNat)).take i).map (vS xs root.toNat).fin ∧ XRows (vS xs root.toNat).f L.toNat (v0 xs) (bfs (vS xs root.toNat).f L.toNat (v0 xs) (i * L.toNat)) i (rs.map (·.xs)) ∧ (bfs (vS xs root.toNat).f L.toNat (v0 xs) (i * L.toNat)).length ≤ 20000 ∧ vs.map (·.xs) = (bfs (vS xs root.toNat).f L.toNat (v0 xs) (i * L.toNat))) (fun (i, a', c', fa', fc', fl, na', nc', rs, bs, vs, gs) => [(0, .slice a xs.length cp), (1, .int .i64 (root)), (2, .int .i64 (L)), (6, .pointer (some ⟨b6, 0, none⟩)), (9, .pointer (some ⟨b9, 0, none⟩)), (10, .slice a' (bfs (vS xs root.toNat).f L.toNat (v0 xs) (i * L.toNat)).length c'), (11, .map (some b34)), (12, .int .i64 ((i : Nat) : Int))]) (fun (i, a', c', fa', fc', fl, na', nc', rs, bs, vs, gs) => [.frag bs (rws rs), .row 4 1 (.slice fa' i fc') i (fl.map bo), .row 25 1 (.slice na' i nc') i (rs.map rv), .row 52 4 (vb b9) 1 [.int .i64 L, .int .i64 0, .slice fa' i fc', .slice na' i nc'], .frag gs (bws vs), .row 49 1 (.slice a' (bfs (vS xs root.toNat).f L.toNat (v0 xs) (i * L.toNat)).length c') (bfs (vS xs root.toNat).f L.toNat (v0 xs) (i * L.toNat)).length (vs.map bwv), .blk b34 (mapO bkv (itA 0 (bfs (vS xs root.toNat).f L.toNat (v0 xs) (i * L.toNat)))), .row 52 4 (vb b6) 1 [.int .i64 0, .int .i64 0, .slice none 0 0, .slice none 0 0]]) (fun (i, a', c', fa', fc', fl, na', nc', rs, bs, vs, gs) => 20000 - i) (0, some ⟨b33, 0, none⟩, 1, none, 0, [], none, 0, [], [], [⟨a32, c32, (v0 xs)⟩], _) ⟨by rw [Nat.zero_mul]; exact Going.zero, Nat.zero_le _, rfl, XRows.start _, by rw [Nat.zero_mul]; exact Nat.succ_le_succ (Nat.zero_le _), by rw [Nat.zero_mul]; rfl⟩ ⟨rfl, rfl, rfl, rfl, rfl, (lkV rfl (by rw [Nat.zero_mul]; rfl)), rfl, rfl, trivial⟩ (by dsimp only; rw [Nat.zero_mul]; exact HSub.refl _) (fun ⟨i, a', c', fa', fc', fl, na', nc', rs, bs, vs, gs⟩ ⟨hg, hi, hfl, hrows, h20, hvs⟩ K0 hK0 => ?_)
  dsimp only
  refine CT.fact (p := a'.isSome = true) (fun w hH => (hH.rd (.there (.there (.there (.there (.there .here)))))).isSome (j := 0) (by rw [List.length_map]; have h := congrArg List.length hvs; rw [List.length_map] at h; rw [h]; exact bfs_pos _)) (fun hia => ?_)
  have hfll : fl.length = i := by rw [hfl, List.length_map, List.length_take, Nat.min_eq_left hi]
  have hrll : rs.length = i := by have := hrows.len; rwa [List.length_map] at this
  refine CT.seq ?_
  refine CT.seq ?_
  refine CT.region ?_
  refine Wl.q rfl rfl (OpQ.move rfl) ?_
  refine Wl.q rfl rfl (OpQ.move rfl) ?_
  refine Wl.q rfl rfl (OpQ.len AI_un83 rfl) ?_
  refine Wl.q rfl rfl (OpQ.lss rfl rfl) ?_
  refine Wl.nil ?_
  refine PX.then_n ?_
  refine CT.cond rfl (fun h43 => ?_) (fun h43 => ?_)
  ·
   have h43 := of_decide_eq_true h43
   have hlt : i < (bfs (vS xs root.toNat).f L.toNat (v0 xs) (i * L.toNat)).length := by omega
   refine CT.skip ?_
   refine PX.then_n ?_
   refine CT.seq ?_
   refine CT.block ?_
   refine CT.seq ?_
   refine CT.region ?_
   refine Wl.q rfl rfl (OpQ.assign rfl) ?_
   refine Wl.nil ?_
   refine PX.then_n ?_
   refine CT.seq ?_
   refine CT.seq ?_
   refine CT.region ?_
   refine Wl.q rfl rfl (OpQ.assign rfl) ?_
   refine Wl.nil ?_
   refine PX.then_n ?_
   refine CT.block ?_
   refine CT.nilrow 3 1 ?_
   refine CT.loop (ι := Nat × Option Addr × Nat × Option Addr × Nat × List Bw × List Nat) (fun (x, a', c', ra, rc, vs, gs) => x ≤ L.toNat ∧ (bfs (vS xs root.toNat).f L.toNat (v0 xs) (i * L.toNat + x)).length ≤ 20000 + x ∧ vs.map (·.xs) = (bfs (vS xs root.toNat).f L.toNat (v0 xs) (i * L.toNat + x))) (fun (x, a', c', ra, rc, vs, gs) => [(0, .slice a xs.length cp), (1, .int .i64 (root)), (2, .int .i64 (L)), (6, .pointer (some ⟨b6, 0, none⟩)), (9, .pointer (some ⟨b9, 0, none⟩)), (10, .slice a' (bfs (vS xs root.toNat).f L.toNat (v0 xs) (i * L.toNat + x)).length c'), (11, .map (some b34)), (12, .int .i64 ((i : Nat) : Int)), (13, .slice ra x rc), (14, .int .i64 ((x : Nat) : Int))]) (fun (x, a', c', ra, rc, vs, gs) => [.row 3 1 (.slice ra x rc) (x) ((rowG (vS xs root.toNat).f (bfs (vS xs root.toNat).f L.toNat (v0 xs) (i * L.toNat + x)) ((bfs (vS xs root.toNat).f L.toNat (v0 xs) (i * L.toNat)).getD i (v0 xs)) (x)).map zz), .frag bs (rws rs), .row 4 1 (.slice fa' i fc') i (fl.map bo), .row 25 1 (.slice na' i nc') i (rs.map rv), .row 52 4 (vb b9) 1 [.int .i64 L, .int .i64 0, .slice fa' i fc', .slice na' i nc'], .frag gs (bws vs), .row 49 1 (.slice a' (bfs (vS xs root.toNat).f L.toNat (v0 xs) (i * L.toNat + x)).length c') (bfs (vS xs root.toNat).f L.toNat (v0 xs) (i * L.toNat + x)).length (vs.map bwv), .blk b34 (mapO bkv (itA 0 (bfs (vS xs root.toNat).f L.toNat (v0 xs) (i * L.toNat + x)))), .row 52 4 (vb b6) 1 [.int .i64 0, .int .i64 0, .slice none 0 0, .slice none 0 0]]) (fun (x, a', c', ra, rc, vs, gs) => L.toNat - x) (0, a', c', none, 0, vs, gs) ⟨Nat.zero_le _, h20, hvs⟩ ⟨rfl, rfl, rfl, rfl, rfl, rfl, rfl, rfl, rfl, rfl, trivial⟩ (HSub.refl _) (fun ⟨x, a', c', ra, rc, vs, gs⟩ ⟨hx, h20, hvs⟩ K1 hK1 => ?_)
   dsimp only
   refine CT.fact (p := a'.isSome = true) (fun w hH => (hH.rd (.there (.there (.there (.there (.there (.there .here))))))).isSome (j := 0) (by rw [List.length_map]; have h := congrArg List.length hvs; rw [List.length_map] at h; rw [h]; exact bfs_pos _)) (fun hia => ?_)
   have hvl : vs.length = (bfs (vS xs root.toNat).f L.toNat (v0 xs) (i * L.toNat + x)).length := by have := congrArg List.length hvs; rwa [List.length_map] at this
   have hltx : i < (bfs (vS xs root.toNat).f L.toNat (v0 xs) (i * L.toNat + x)).length := Nat.lt_of_lt_of_le hlt (bfs_le (by omega))
   have hat : (bfs (vS xs root.toNat).f L.toNat (v0 xs) (i * L.toNat + x)).getD i (v0 xs) = ((bfs (vS xs root.toNat).f L.toNat (v0 xs) (i * L.toNat)).getD i (v0 xs)) := bfs_get (by omega) hlt _
   have hvx : (vs.getD i bw0).xs = ((bfs (vS xs root.toNat).f L.toNat (v0 xs) (i * L.toNat)).getD i (v0 xs)) := (bws_xs hvs (i := i) hltx (v0 xs)).trans hat
   have hxl2 : (vs.getD i bw0).xs.length = xs.length := by rw [hvx]; exact vS_all hL1 _ _ (getDm hlt)
   refine CT.seq ?_
   refine CT.seq ?_
   refine CT.region ?_
   refine Wl.q rfl rfl (OpQ.move rfl) ?_
   refine Wl.q rfl rfl (OpQ.move rfl) ?_
   refine Wl.q rfl rfl (OpQ.lss rfl rfl) ?_
   refine Wl.nil ?_
   refine PX.then_n ?_
   refine CT.cond rfl (fun h48 => ?_) (fun h48 => ?_)
   ·
    have h48 := of_decide_eq_true h48
    have hxl : x < L.toNat := by omega
    have hTT : evL xs (x : Int) (vs.getD i bw0).xs (List.replicate xs.length false) xs.length = ((vS xs root.toNat).f ((bfs (vS xs root.toNat).f L.toNat (v0 xs) (i * L.toNat)).getD i (v0 xs)) x) := by rw [hvx]; rfl
    refine CT.skip ?_
    refine PX.then_n ?_
    refine CT.seq ?_
    refine CT.block ?_
    refine CT.seq ?_
    refine CT.region ?_
    refine Wl.q rfl rfl (OpQ.move rfl) ?_
    refine Wl.q rfl rfl (OpQ.move rfl) ?_
    refine Wl.q rfl rfl (OpQ.move rfl) ?_
    refine Wl.q rfl rfl (OpQ.move rfl) ?_
    refine Wl.q rfl rfl (OpQ.index1 AI_un83 AI_sz49 rfl rfl (by omega) hia) ?_
    refine Wl.q rfl rfl (OpQ.loadRow AI_sc49 rfl (.there (.there (.there (.there (.there (.there .here)))))) (getMap bwv vs bw0 (j := i) (by omega))) ?_
    refine Wl.know 56 (v' := bwv (vs.getD i bw0)) rfl rfl ?_
    refine Wl.g rfl rfl (OpG.callR AI_go43 rfl (fun w hH => (show Calls _ _ _ w (fun e w' => New 4 1 w w' e xs.length (((vS xs root.toNat).f ((bfs (vS xs root.toNat).f L.toNat (v0 xs) (i * L.toNat)).getD i (v0 xs)) x).map bo)) from by rw [← hTT]; exact before_spec w a cp xs (hH.use hr) hl2 (x : Int) (vs.getD i bw0).a (vs.getD i bw0).cp (vs.getD i bw0).xs (hH.fragp (.there (.there (.there (.there (.there .here))))) (vs.getD i bw0) (getDm (by omega))) (fun _ => hxl2) hok))) ?_
    rintro ⟨a57, c57⟩ h57
    refine Wl.q rfl rfl (OpQ.assign rfl) ?_
    refine Wl.nil ?_
    refine PX.then_n ?_
    refine CT.seq ?_
    refine CT.region ?_
    refine Wl.q rfl rfl (OpQ.move rfl) ?_
    refine Wl.q rfl rfl (OpQ.move rfl) ?_
    refine Wl.g rfl rfl (OpG.callV AI_go46 rfl (fun w hH => by have h := key39_spec w ((vS xs root.toNat).f ((bfs (vS xs root.toNat).f L.toNat (v0 xs) (i * L.toNat)).getD i (v0 xs)) x) a57 c57 (Stays.rd (hH.staysK0 .here)) (by rw [vS_len]; omega); rw [vS_len] at h; exact h)) ?_
    rintro _ _
    refine Wl.q rfl rfl (OpQ.lookup (f := bkv) (x := ((vS xs root.toNat).f ((bfs (vS xs root.toNat).f L.toNat (v0 xs) (i * L.toNat)).getD i (v0 xs)) x)) (l := (itA 0 (bfs (vS xs root.toNat).f L.toNat (v0 xs) (i * L.toNat + x)))) AI_mkB AI_un85 AI_in3 rfl rfl (by repeat (first | exact Has.here | apply Has.there)) (by rw [if_pos rfl, getA_itA, ix_val, ix_is])) ?_
    refine Wl.q rfl rfl (OpQ.move rfl) ?_
    refine Wl.q rfl rfl (OpQ.extract rfl rfl) ?_
    refine Wl.q rfl rfl (OpQ.extract rfl rfl) ?_
    refine Wl.q rfl rfl (OpQ.assign rfl) ?_
    refine Wl.q rfl rfl (OpQ.assign rfl) ?_
    refine Wl.nil ?_
    refine PX.then_n ?_
    refine CT.seq ?_
    refine CT.seq ?_
    refine CT.region ?_
    refine Wl.q rfl rfl (OpQ.move rfl) ?_
    refine Wl.q rfl rfl (OpQ.not rfl) ?_
    refine Wl.nil ?_
    refine PX.then_n ?_
    refine CT.cond rfl (fun h66 => ?_) (fun h66 => ?_)
    ·
     have hix : ixA ((vS xs root.toNat).f ((bfs (vS xs root.toNat).f L.toNat (v0 xs) (i * L.toNat)).getD i (v0 xs)) x) 0 (bfs (vS xs root.toNat).f L.toNat (v0 xs) (i * L.toNat + x)) = none := by simpa using h66
     have hnx := ixA_none hix
     have hs2 : (bfs (vS xs root.toNat).f L.toNat (v0 xs) (i * L.toNat + (x + 1))) = (bfs (vS xs root.toNat).f L.toNat (v0 xs) (i * L.toNat + x)) ++ [((vS xs root.toNat).f ((bfs (vS xs root.toNat).f L.toNat (v0 xs) (i * L.toNat)).getD i (v0 xs)) x)] := by rw [show i * L.toNat + (x + 1) = i * L.toNat + x + 1 from rfl, bfs_addx hxl hlt, addN_out hnx]
     have hrow : (rowG (vS xs root.toNat).f (bfs (vS xs root.toNat).f L.toNat (v0 xs) (i * L.toNat + x)) ((bfs (vS xs root.toNat).f L.toNat (v0 xs) (i * L.toNat)).getD i (v0 xs)) x).map zz ++ [.int .i64 (((bfs (vS xs root.toNat).f L.toNat (v0 xs) (i * L.toNat + x)).length : Nat) : Int)] = (rowG (vS xs root.toNat).f (bfs (vS xs root.toNat).f L.toNat (v0 xs) (i * L.toNat + (x + 1))) ((bfs (vS xs root.toNat).f L.toNat (v0 xs) (i * L.toNat)).getD i (v0 xs)) (x + 1)).map zz := by rw [← rowG_put (l := (bfs (vS xs root.toNat).f L.toNat (v0 xs) (i * L.toNat + x))) (m := (bfs (vS xs root.toNat).f L.toNat (v0 xs) (i * L.toNat + (x + 1)))) ⟨_, hs2⟩ (bfs_row_mem (Nat.le_of_lt hxl) hlt) (v := (((bfs (vS xs root.toNat).f L.toNat (v0 xs) (i * L.toNat + x)).length : Nat) : Int)) (by rw [hs2, idxOf_out hnx]; simp), List.map_append]; rfl
     refine CT.seq ?_
     refine CT.region ?_
     refine Wl.q rfl rfl (OpQ.move rfl) ?_
     refine Wl.q rfl rfl (OpQ.len AI_un83 rfl) ?_
     refine Wl.q rfl rfl (OpQ.assign rfl) ?_
     refine Wl.nil ?_
     refine PX.then_n ?_
     refine CT.seq ?_
     refine CT.region ?_
     refine Wl.q rfl rfl (OpQ.move rfl) ?_
     refine Wl.q rfl rfl (OpQ.move rfl) ?_
     refine Wl.g rfl rfl (OpG.callV AI_go46 rfl (fun w hH => by have h := key39_spec w ((vS xs root.toNat).f ((bfs (vS xs root.toNat).f L.toNat (v0 xs) (i * L.toNat)).getD i (v0 xs)) x) a57 c57 (Stays.rd (hH.staysK0 .here)) (by rw [vS_len]; omega); rw [vS_len] at h; exact h)) ?_
     rintro _ _
     refine Wl.q rfl rfl (OpQ.move rfl) ?_
     refine Wl.g rfl rfl (OpG.mapNew (f := bkv) (x := ((vS xs root.toNat).f ((bfs (vS xs root.toNat).f L.toNat (v0 xs) (i * L.toNat)).getD i (v0 xs)) x)) (l := (itA 0 (bfs (vS xs root.toNat).f L.toNat (v0 xs) (i * L.toNat + x)))) AI_mkB AI_un85 rfl rfl rfl (by rw [getA_itA, hix]; rfl) (by repeat (first | exact Upd.here | apply Upd.there))) ?_
     rintro _ _
     refine Wl.nil ?_
     refine PX.then_n ?_
     refine CT.region ?_
     refine Wl.q rfl rfl (OpQ.move rfl) ?_
     refine Wl.q rfl rfl (OpQ.move rfl) ?_
     refine Wl.g rfl rfl (OpG.lit1 AI_un83 AI_in49 rfl rfl rfl) ?_
     rintro b75 _
     refine Wl.g rfl rfl (OpG.append AI_un83 AI_in49 (by rfl) (by decide) rfl rfl (p := 8) rfl (fun w hH => hH.rd .here) ⟨rfl, (by simp [Value.oneCell']), (by omega), (by omega)⟩ (nm := ((bfs (vS xs root.toNat).f L.toNat (v0 xs) (i * L.toNat + x)).length + 1)) rfl (all := (vs ++ [(⟨a57, c57, ((vS xs root.toNat).f ((bfs (vS xs root.toNat).f L.toNat (v0 xs) (i * L.toNat)).getD i (v0 xs)) x)⟩ : Bw)]).map bwv) (by simp [vS_len])) ?_
     rintro ⟨a76, c76⟩ h76
     refine Wl.q rfl rfl (OpQ.assign rfl) ?_
     refine Wl.nil ?_
     refine PX.then_n ?_
     refine CT.region ?_
     refine Wl.q rfl rfl (OpQ.move rfl) ?_
     refine Wl.q rfl rfl (OpQ.move rfl) ?_
     refine Wl.g rfl rfl (OpG.lit1 AI_un25 AI_in3 rfl rfl rfl) ?_
     rintro b79 _
     refine Wl.g rfl rfl (OpG.append AI_un25 AI_in3 (by rfl) (by decide) rfl rfl (p := 3) rfl (fun w hH => hH.rd .here) ⟨rfl, (by simp [Value.oneCell']), (by omega), (by omega)⟩ (nm := x + 1) rfl (all := (rowG (vS xs root.toNat).f (bfs (vS xs root.toNat).f L.toNat (v0 xs) (i * L.toNat + (x + 1))) ((bfs (vS xs root.toNat).f L.toNat (v0 xs) (i * L.toNat)).getD i (v0 xs)) (x + 1)).map zz) hrow) ?_
     rintro ⟨a80, c80⟩ h80
     refine Wl.q rfl rfl (OpQ.assign rfl) ?_
     refine Wl.nil ?_
     refine PX.block_n ?_
     refine PX.then_n ?_
     refine CT.region ?_
     refine Wl.q rfl rfl (OpQ.move rfl) ?_
     refine Wl.q rfl rfl (OpQ.add rfl rfl (by omega)) ?_
     refine Wl.q rfl rfl (OpQ.assign rfl) ?_
     refine Wl.nil ?_
     refine PX.as (fun _ h => h.bind (L := [.frag gs (bws vs), .row 4 1 (.slice a57 xs.length c57) xs.length (((vS xs root.toNat).f ((bfs (vS xs root.toNat).f L.toNat (v0 xs) (i * L.toNat)).getD i (v0 xs)) x).map bo)]) (p := bws (vs ++ [(⟨a57, c57, ((vS xs root.toNat).f ((bfs (vS xs root.toNat).f L.toNat (v0 xs) (i * L.toNat)).getD i (v0 xs)) x)⟩ : Bw)])) (.cons (.there (.there (.there (.there (.there (.there (.there (.there .here)))))))) (.cons (.there (.there .here)) .nil)) (fun w hk => bws_snoc (r := (⟨a57, c57, ((vS xs root.toNat).f ((bfs (vS xs root.toNat).f L.toNat (v0 xs) (i * L.toNat)).getD i (v0 xs)) x)⟩ : Bw)) ((hk _ List.mem_cons_self).2 w (fun _ _ => rfl)) (Rd.of_owns (hk _ (List.mem_cons_of_mem _ List.mem_cons_self))))) ?_
     refine PX.as (fun _ h => h.take (.cons (.there (.there (.there .here))) (.cons (.there (.there (.there .here))) (.cons (.there (.there (.there .here))) (.cons (.there (.there (.there .here))) (.cons (.there (.there (.there .here))) (.cons .here (.cons (.there (.there .here)) (.cons (.there (.there .here)) (.cons (.there (.there .here)) .nil)))))))))) ?_
     exact PX.loop hK1 (x + 1, a76, c76, a80, c80, vs ++ [(⟨a57, c57, ((vS xs root.toNat).f ((bfs (vS xs root.toNat).f L.toNat (v0 xs) (i * L.toNat)).getD i (v0 xs)) x)⟩ : Bw)], _) ⟨by omega, by show (bfs _ _ _ (_ + (x + 1))).length ≤ 20000 + (x + 1); rw [hs2, List.length_append, List.length_singleton]; omega, by show _ = bfs _ _ _ (_ + (x + 1)); rw [hs2, List.map_append, hvs]; rfl⟩ (show L.toNat - (x + 1) < L.toNat - x by omega) ⟨rfl, rfl, rfl, rfl, rfl, (lkV rfl (by rw [hs2, List.length_append]; rfl)), rfl, rfl, rfl, rfl, trivial⟩ (by dsimp only; rw [hs2, itA_snoc, List.length_append, Nat.zero_add]; exact HSub.refl _)
    ·
     have hix : ¬ ixA ((vS xs root.toNat).f ((bfs (vS xs root.toNat).f L.toNat (v0 xs) (i * L.toNat)).getD i (v0 xs)) x) 0 (bfs (vS xs root.toNat).f L.toNat (v0 xs) (i * L.toNat + x)) = none := by intro h; rw [h] at h66; simp at h66
     obtain ⟨hx1, hx2⟩ := ix_in hix
     have hs2 : (bfs (vS xs root.toNat).f L.toNat (v0 xs) (i * L.toNat + (x + 1))) = (bfs (vS xs root.toNat).f L.toNat (v0 xs) (i * L.toNat + x)) := by rw [show i * L.toNat + (x + 1) = i * L.toNat + x + 1 from rfl, bfs_addx hxl hlt, hx1]
     have hrow : (rowG (vS xs root.toNat).f (bfs (vS xs root.toNat).f L.toNat (v0 xs) (i * L.toNat + x)) ((bfs (vS xs root.toNat).f L.toNat (v0 xs) (i * L.toNat)).getD i (v0 xs)) x).map zz ++ [.int .i64 (((ixA ((vS xs root.toNat).f ((bfs (vS xs root.toNat).f L.toNat (v0 xs) (i * L.toNat)).getD i (v0 xs)) x) 0 (bfs (vS xs root.toNat).f L.toNat (v0 xs) (i * L.toNat + x))).getD 0 : Nat) : Int)] = (rowG (vS xs root.toNat).f (bfs (vS xs root.toNat).f L.toNat (v0 xs) (i * L.toNat + (x + 1))) ((bfs (vS xs root.toNat).f L.toNat (v0 xs) (i * L.toNat)).getD i (v0 xs)) (x + 1)).map zz := by rw [← rowG_put (l := (bfs (vS xs root.toNat).f L.toNat (v0 xs) (i * L.toNat + x))) (m := (bfs (vS xs root.toNat).f L.toNat (v0 xs) (i * L.toNat + (x + 1)))) ⟨[], by rw [hs2, List.append_nil]⟩ (bfs_row_mem (Nat.le_of_lt hxl) hlt) (v := (((ixA ((vS xs root.toNat).f ((bfs (vS xs root.toNat).f L.toNat (v0 xs) (i * L.toNat)).getD i (v0 xs)) x) 0 (bfs (vS xs root.toNat).f L.toNat (v0 xs) (i * L.toNat + x))).getD 0 : Nat) : Int)) (by rw [hx2, addN_idx, hx1, hs2]), List.map_append]; rfl
     refine CT.skip ?_
     refine PX.then_n ?_
     refine CT.region ?_
     refine Wl.q rfl rfl (OpQ.move rfl) ?_
     refine Wl.q rfl rfl (OpQ.move rfl) ?_
     refine Wl.g rfl rfl (OpG.lit1 AI_un25 AI_in3 rfl rfl rfl) ?_
     rintro b79 _
     refine Wl.g rfl rfl (OpG.append AI_un25 AI_in3 (by rfl) (by decide) rfl rfl (p := 2) rfl (fun w hH => hH.rd .here) ⟨rfl, (by simp [Value.oneCell']), (by omega), (by omega)⟩ (nm := x + 1) rfl (all := (rowG (vS xs root.toNat).f (bfs (vS xs root.toNat).f L.toNat (v0 xs) (i * L.toNat + (x + 1))) ((bfs (vS xs root.toNat).f L.toNat (v0 xs) (i * L.toNat)).getD i (v0 xs)) (x + 1)).map zz) hrow) ?_
     rintro ⟨a80, c80⟩ h80
     refine Wl.q rfl rfl (OpQ.assign rfl) ?_
     refine Wl.nil ?_
     refine PX.block_n ?_
     refine PX.then_n ?_
     refine CT.region ?_
     refine Wl.q rfl rfl (OpQ.move rfl) ?_
     refine Wl.q rfl rfl (OpQ.add rfl rfl (by omega)) ?_
     refine Wl.q rfl rfl (OpQ.assign rfl) ?_
     refine Wl.nil ?_
     refine PX.as (fun _ h => h.take (.cons (.there (.there .here)) (.cons (.there (.there .here)) (.cons (.there (.there .here)) (.cons (.there (.there .here)) (.cons (.there (.there .here)) (.cons (.there (.there .here)) (.cons (.there (.there .here)) (.cons (.there (.there .here)) (.cons (.there (.there .here)) .nil)))))))))) ?_
     exact PX.loop hK1 (x + 1, a', c', a80, c80, vs, gs) ⟨by omega, by show (bfs _ _ _ (_ + (x + 1))).length ≤ 20000 + (x + 1); rw [hs2]; omega, by show _ = bfs _ _ _ (_ + (x + 1)); rw [hs2, hvs]⟩ (show L.toNat - (x + 1) < L.toNat - x by omega) ⟨rfl, rfl, rfl, rfl, rfl, (lkV rfl (by rw [hs2])), rfl, rfl, rfl, rfl, trivial⟩ (by dsimp only; rw [hs2]; exact HSub.refl _)
   ·
    have h48 := of_decide_eq_false h48
    obtain rfl : x = L.toNat := by omega
    have hrows2 := (hrows.grow hi (bfs_pre (i * L.toNat) L.toNat)).snoc (fun y hy => by rw [bfs_get (show i * L.toNat ≤ i * L.toNat + L.toNat by omega) hlt]; exact bfs_row_mem (Nat.le_refl _) hlt y hy)
    rw [bfs_get (show i * L.toNat ≤ i * L.toNat + L.toNat by omega) hlt] at hrows2
    refine CT.fact (p := (vs.getD i bw0).a.isSome = true) (fun w hH => (hH.fragp (.there (.there (.there (.there (.there .here))))) (vs.getD i bw0) (getDm (by omega))).isSome (j := 0) (by rw [List.length_map]; omega)) (fun hXa => ?_)
    refine CT.exit ?_
    refine PX.then_x ?_
    refine PX.then_x ?_
    refine PX.block_x ?_
    refine PX.then_n ?_
    refine CT.seq ?_
    refine CT.draw' (Hc := [.row 52 4 (vb b9) 1 [.int .i64 L, .int .i64 0, .slice fa' i fc', .slice na' i nc'], .frag gs (bws vs), .row 49 1 (.slice a' (bfs (vS xs root.toNat).f L.toNat (v0 xs) (i * L.toNat + L.toNat)).length c') (bfs (vS xs root.toNat).f L.toNat (v0 xs) (i * L.toNat + L.toNat)).length (vs.map bwv)]) 17 AI_mixed ?_
    refine RA.q 0 (by kernel_rfl) rfl rfl rfl (.cons _ (.cons _ (.cons _ (.cons _ (.cons_cons _ (.cons_cons _ (.cons_cons _ (.cons _ (.cons _ (.refl _)))))))))) (OpQ.fieldAddr AI_fa52_2 rfl) ?_
    refine RA.q 1 (by kernel_rfl) rfl rfl rfl (.cons _ (.cons _ (.cons _ (.cons _ (.cons_cons _ (.cons_cons _ (.cons_cons _ (.cons _ (.cons _ (.refl _)))))))))) (OpQ.loadF (b := b9) AI_sc49 rfl (by repeat (first | exact Has.here | apply Has.there)) (by rfl)) ?_
    refine RA.q 2 (by kernel_rfl) rfl rfl rfl (.cons _ (.cons _ (.cons _ (.cons _ (.cons_cons _ (.cons_cons _ (.cons_cons _ (.cons _ (.cons _ (.refl _)))))))))) (OpQ.move rfl) ?_
    refine RA.q 3 (by kernel_rfl) rfl rfl rfl (.cons _ (.cons _ (.cons _ (.cons _ (.cons_cons _ (.cons_cons _ (.cons_cons _ (.cons _ (.cons _ (.refl _)))))))))) (OpQ.move rfl) ?_
    refine RA.q 4 (by kernel_rfl) rfl rfl rfl (.cons _ (.cons _ (.cons _ (.cons _ (.cons_cons _ (.cons_cons _ (.cons_cons _ (.cons _ (.cons _ (.refl _)))))))))) (OpQ.index1 AI_un83 AI_sz49 rfl rfl (by omega) hia) ?_
    refine RA.q 5 (by kernel_rfl) rfl rfl rfl (.cons _ (.cons _ (.cons _ (.cons _ (.cons_cons _ (.cons_cons _ (.cons_cons _ (.cons _ (.cons _ (.refl _)))))))))) (OpQ.loadRow AI_sc49 rfl (.there (.there .here)) (getMap bwv vs bw0 (j := i) (by omega))) ?_
    refine RA.know 86 (v' := bwv (vs.getD i bw0)) rfl rfl ?_
    refine RA.q 6 (by kernel_rfl) rfl rfl rfl (.cons _ (.cons _ (.cons _ (.cons _ (.cons_cons _ (.cons_cons _ (.cons_cons _ (.cons _ (.cons _ (.refl _)))))))))) (OpQ.move rfl) ?_
    refine RA.q 7 (by kernel_rfl) rfl rfl rfl (.cons _ (.cons _ (.cons _ (.cons _ (.cons_cons _ (.cons_cons _ (.cons_cons _ (.cons _ (.cons _ (.refl _)))))))))) (OpQ.index1 AI_un49 AI_sz4 rfl rfl (by omega) hXa) ?_
    refine RA.q 8 (by kernel_rfl) rfl rfl rfl (.cons _ (.cons _ (.cons _ (.cons _ (.cons_cons _ (.cons_cons _ (.cons_cons _ (.cons _ (.cons _ (.refl _)))))))))) (OpQ.loadG AI_sc4 rfl (fun w hH => hH.fragp (.there .here) (vs.getD i bw0) (getDm (by omega))) (getMap bo (vs.getD i bw0).xs false (j := root.toNat) (by omega))) ?_
    refine RA.know 89 (v' := .bool ((vS xs root.toNat).fin ((bfs (vS xs root.toNat).f L.toNat (v0 xs) (i * L.toNat)).getD i (v0 xs)))) rfl (congrArg Value.bool (by rw [hvx]; rfl)) ?_
    refine RA.q 11 (by kernel_rfl) rfl rfl rfl (.cons _ (.cons _ (.cons _ (.cons _ (.cons_cons _ (.cons_cons _ (.cons_cons _ (.cons _ (.cons _ (.refl _)))))))))) (OpQ.fieldAddr AI_fa52_3 rfl) ?_
    refine RA.q 12 (by kernel_rfl) rfl rfl rfl (.cons _ (.cons _ (.cons _ (.cons _ (.cons_cons _ (.cons_cons _ (.cons_cons _ (.cons _ (.cons _ (.refl _)))))))))) (OpQ.loadF (b := b9) AI_sc50 rfl (by repeat (first | exact Has.here | apply Has.there)) (by rfl)) ?_
    refine RA.q 13 (by kernel_rfl) rfl rfl rfl (.cons _ (.cons _ (.cons _ (.cons _ (.cons_cons _ (.cons_cons _ (.cons_cons _ (.cons _ (.cons _ (.refl _)))))))))) (OpQ.move rfl) ?_
    refine RA.two 9 14 (by kernel_rfl) rfl rfl rfl (OpG.lit1 AI_un49 AI_in4 rfl rfl rfl) (fun _ _ => (.cons _ (.cons _ (.cons _ (.cons _ (.cons _ (.cons_cons _ (.cons_cons _ (.cons_cons _ (.cons _ (.cons _ (.refl _)))))))))))) rfl rfl rfl (OpG.lit1 AI_un50 AI_in25 rfl rfl rfl) (fun _ _ => (.cons _ (.cons _ (.cons _ (.cons _ (.cons _ (.cons_cons _ (.cons_cons _ (.cons_cons _ (.cons _ (.cons _ (.refl _)))))))))))) ?_ ?_
    ·
     rintro b90 _
     refine RA.two 10 14 (by kernel_rfl) rfl rfl rfl (OpG.append AI_un49 AI_in4 (by rfl) (by decide) rfl rfl (p := 3) rfl (fun w hH => hH.rd .here) ⟨rfl, (by simp [Value.oneCell']), (by omega), (by omega)⟩ (nm := i + 1) rfl (all := (fl ++ [(vS xs root.toNat).fin ((bfs (vS xs root.toNat).f L.toNat (v0 xs) (i * L.toNat)).getD i (v0 xs))]).map bo) (by simp)) (fun _ _ => (.cons _ (.cons _ (.cons _ (.cons _ (.cons _ (.cons_cons _ (.cons_cons _ (.cons_cons _ (.cons _ (.cons _ (.refl _)))))))))))) rfl rfl rfl (OpG.lit1 AI_un50 AI_in25 rfl rfl rfl) (fun _ _ => (.cons _ (.cons _ (.cons _ (.cons _ (.cons _ (.cons _ (.cons_cons _ (.cons_cons _ (.cons_cons _ (.cons _ (.cons _ (.refl _))))))))))))) ?_ ?_
     ·
      rintro ⟨a91, c91⟩ h91
      refine RA.q 16 (by kernel_rfl) rfl rfl rfl (.cons _ (.cons _ (.cons _ (.cons _ (.cons _ (.cons_cons _ (.cons_cons _ (.cons_cons _ (.cons _ (.cons _ (.refl _))))))))))) (OpQ.fieldAddr AI_fa52_2 rfl) ?_
      refine RA.f 14 (by kernel_rfl) rfl rfl rfl (OpG.lit1 AI_un50 AI_in25 rfl rfl rfl) (fun _ _ => (.cons _ (.cons _ (.cons _ (.cons _ (.cons _ (.cons _ (.cons_cons _ (.cons_cons _ (.cons_cons _ (.cons _ (.cons _ (.refl _))))))))))))) ?_
      rintro b95 _
      refine RA.f 15 (by kernel_rfl) rfl rfl rfl (OpG.append AI_un50 AI_in25 (by rfl) (by decide) rfl rfl (p := 5) rfl (fun w hH => hH.rd .here) ⟨rfl, (by simp [Value.oneCell']), (by omega), (by omega)⟩ (nm := i + 1) rfl (all := (rs ++ [(⟨ra, rc, rowG (vS xs root.toNat).f (bfs (vS xs root.toNat).f L.toNat (v0 xs) (i * L.toNat + L.toNat)) ((bfs (vS xs root.toNat).f L.toNat (v0 xs) (i * L.toNat)).getD i (v0 xs)) L.toNat⟩ : Rw)]).map rv) (by simp [rowG_len])) (fun _ _ => (.cons _ (.cons _ (.cons _ (.cons _ (.cons _ (.cons _ (.cons_cons _ (.cons_cons _ (.cons_cons _ (.cons _ (.cons _ (.refl _))))))))))))) ?_
      rintro ⟨a96, c96⟩ h96
      refine RA.tail ?_
      refine RT.f 17 (by kernel_rfl) rfl rfl rfl (OpG.storeRow (a := some ⟨b9, 0, none⟩) AI_sz49 rfl rfl rfl (by repeat (first | exact Upd.here | apply Upd.there)) (by simp)) ?_
      rintro _ _
      refine RT.q 18 (by kernel_rfl) rfl rfl rfl (OpQ.fieldAddr AI_fa52_3 rfl) ?_
      refine RT.f 19 (by kernel_rfl) rfl rfl rfl (OpG.storeRow (a := some ⟨b9, 0, none⟩) AI_sz50 rfl rfl rfl (by repeat (first | exact Upd.here | apply Upd.there)) (by simp)) ?_
      rintro _ _
      refine RT.done (by kernel_rfl) ?_
      refine PX.then_n ?_
      refine CT.seq ?_
      refine CT.region ?_
      refine Wl.q rfl rfl (OpQ.move rfl) ?_
      refine Wl.q rfl rfl (OpQ.len AI_un83 rfl) ?_
      refine Wl.q rfl rfl (OpQ.gtr rfl rfl) ?_
      refine Wl.nil ?_
      refine PX.then_n ?_
      refine CT.cond rfl (fun h101 => ?_) (fun h101 => ?_)
      ·
       have h101 := of_decide_eq_true h101
       refine CT.seq ?_
       refine CT.region ?_
       refine Wl.q rfl rfl (OpQ.build (cells := #[.int .i64 0, .int .i64 0, .slice none 0 0, .slice none 0 0]) AI_pl52 rfl rfl) ?_
       refine Wl.g rfl rfl (OpG.storeV (b := b6) AI_sz52 rfl rfl rfl rfl (by repeat (first | exact Upd.here | apply Upd.there))) ?_
       rintro _ _
       refine Wl.q rfl rfl (OpQ.assign rfl) ?_
       refine Wl.nil ?_
       refine PX.then_n ?_
       refine CT.ret ?_
       refine PX.block_r ?_
       refine PX.then_r ?_
       refine PX.then_r ?_
       refine PX.block_r ?_
       refine PX.then_r ?_
       refine PX.retC2 rfl rfl rfl (by repeat (first | exact Has.here | apply Has.there)) AI_ag52 AI_sz52 (by rfl) (fun w' hH => ?_)
       exact ⟨(dv0, [], 3), fun h => absurd h (by decide), rfl, ((hH.bind0 (p := dvm dv0) dvm0).take (.cons .here .nil)).post⟩
      ·
       have h101 := of_decide_eq_false h101
       refine CT.skip ?_
       refine PX.block_n ?_
       refine PX.then_n ?_
       refine CT.region ?_
       refine Wl.q rfl rfl (OpQ.move rfl) ?_
       refine Wl.q rfl rfl (OpQ.add rfl rfl (by omega)) ?_
       refine Wl.q rfl rfl (OpQ.assign rfl) ?_
       refine Wl.nil ?_
       refine PX.as (fun _ h => h.bind (L := [.frag bs (rws rs), .row 3 1 (.slice ra L.toNat rc) (L.toNat) ((rowG (vS xs root.toNat).f (bfs (vS xs root.toNat).f L.toNat (v0 xs) (i * L.toNat + L.toNat)) ((bfs (vS xs root.toNat).f L.toNat (v0 xs) (i * L.toNat)).getD i (v0 xs)) (L.toNat)).map zz)]) (p := rws (rs ++ [(⟨ra, rc, rowG (vS xs root.toNat).f (bfs (vS xs root.toNat).f L.toNat (v0 xs) (i * L.toNat + L.toNat)) ((bfs (vS xs root.toNat).f L.toNat (v0 xs) (i * L.toNat)).getD i (v0 xs)) L.toNat⟩ : Rw)])) (.cons (.there (.there (.there .here))) (.cons (.there (.there .here)) .nil)) (fun w hk => rws_snoc (r := (⟨ra, rc, rowG (vS xs root.toNat).f (bfs (vS xs root.toNat).f L.toNat (v0 xs) (i * L.toNat + L.toNat)) ((bfs (vS xs root.toNat).f L.toNat (v0 xs) (i * L.toNat)).getD i (v0 xs)) L.toNat⟩ : Rw)) ((hk _ List.mem_cons_self).2 w (fun _ _ => rfl)) (by show Rd w ra _; exact Rd.of_owns (hk _ (List.mem_cons_of_mem _ List.mem_cons_self))))) ?_
       refine PX.as (fun _ h => h.take (.cons .here (.cons (.there (.there .here)) (.cons (.there (.there .here)) (.cons (.there (.there .here)) (.cons (.there (.there .here)) (.cons (.there (.there .here)) (.cons (.there (.there .here)) (.cons (.there (.there .here)) .nil))))))))) ?_
       exact PX.loop hK0 (i + 1, a', c', a91, c91, fl ++ [(vS xs root.toNat).fin ((bfs (vS xs root.toNat).f L.toNat (v0 xs) (i * L.toNat)).getD i (v0 xs))], a96, c96, rs ++ [(⟨ra, rc, rowG (vS xs root.toNat).f (bfs (vS xs root.toNat).f L.toNat (v0 xs) (i * L.toNat + L.toNat)) ((bfs (vS xs root.toNat).f L.toNat (v0 xs) (i * L.toNat)).getD i (v0 xs)) L.toNat⟩ : Rw)], _, vs, gs) ⟨hg.next hlt, by have := bfs_le (f := (vS xs root.toNat).f) (L := L.toNat) (s := (v0 xs)) (show i * L.toNat ≤ (i + 1) * L.toNat by rw [Nat.add_mul]; omega); omega, fl_next hfl hlt bfs_succ_row, by rw [List.map_append, Nat.add_mul, Nat.one_mul]; rw [← rowG_full] at hrows2; exact hrows2, by rw [Nat.add_mul, Nat.one_mul]; omega, by rw [Nat.add_mul, Nat.one_mul]; exact hvs⟩ (show 20000 - (i + 1) < 20000 - i by omega) ⟨rfl, rfl, rfl, rfl, rfl, (lkV rfl (by rw [Nat.add_mul, Nat.one_mul])), rfl, rfl, trivial⟩ (by dsimp only; rw [Nat.add_mul, Nat.one_mul]; exact HSub.refl _)
     ·
      rintro b95 _
      refine RA.f 10 (by kernel_rfl) rfl rfl rfl (OpG.append AI_un49 AI_in4 (by rfl) (by decide) rfl rfl (p := 4) rfl (fun w hH => hH.rd (.there .here)) ⟨rfl, (by simp [Value.oneCell']), (by omega), (by omega)⟩ (nm := i + 1) rfl (all := (fl ++ [(vS xs root.toNat).fin ((bfs (vS xs root.toNat).f L.toNat (v0 xs) (i * L.toNat)).getD i (v0 xs))]).map bo) (by simp)) (fun _ _ => (.cons _ (.cons _ (.cons _ (.cons _ (.cons _ (.cons _ (.cons_cons _ (.cons_cons _ (.cons_cons _ (.cons _ (.cons _ (.refl _))))))))))))) ?_
      rintro ⟨a91, c91⟩ h91
      refine RA.q 16 (by kernel_rfl) rfl rfl rfl (.cons _ (.cons _ (.cons _ (.cons _ (.cons _ (.cons _ (.cons_cons _ (.cons_cons _ (.cons_cons _ (.cons _ (.cons _ (.refl _)))))))))))) (OpQ.fieldAddr AI_fa52_2 rfl) ?_
      refine RA.f 15 (by kernel_rfl) rfl rfl rfl (OpG.append AI_un50 AI_in25 (by rfl) (by decide) rfl rfl (p := 5) rfl (fun w hH => hH.rd .here) ⟨rfl, (by simp [Value.oneCell']), (by omega), (by omega)⟩ (nm := i + 1) rfl (all := (rs ++ [(⟨ra, rc, rowG (vS xs root.toNat).f (bfs (vS xs root.toNat).f L.toNat (v0 xs) (i * L.toNat + L.toNat)) ((bfs (vS xs root.toNat).f L.toNat (v0 xs) (i * L.toNat)).getD i (v0 xs)) L.toNat⟩ : Rw)]).map rv) (by simp [rowG_len])) (fun _ _ => (.cons _ (.cons _ (.cons _ (.cons _ (.cons _ (.cons _ (.cons_cons _ (.cons_cons _ (.cons_cons _ (.cons _ (.cons _ (.refl _))))))))))))) ?_
      rintro ⟨a96, c96⟩ h96
      refine RA.tail ?_
      refine RT.f 17 (by kernel_rfl) rfl rfl rfl (OpG.storeRow (a := some ⟨b9, 0, none⟩) AI_sz49 rfl rfl rfl (by repeat (first | exact Upd.here | apply Upd.there)) (by simp)) ?_
      rintro _ _
      refine RT.q 18 (by kernel_rfl) rfl rfl rfl (OpQ.fieldAddr AI_fa52_3 rfl) ?_
      refine RT.f 19 (by kernel_rfl) rfl rfl rfl (OpG.storeRow (a := some ⟨b9, 0, none⟩) AI_sz50 rfl rfl rfl (by repeat (first | exact Upd.here | apply Upd.there)) (by simp)) ?_
      rintro _ _
      refine RT.done (by kernel_rfl) ?_
      refine PX.then_n ?_
      refine CT.seq ?_
      refine CT.region ?_
      refine Wl.q rfl rfl (OpQ.move rfl) ?_
      refine Wl.q rfl rfl (OpQ.len AI_un83 rfl) ?_
      refine Wl.q rfl rfl (OpQ.gtr rfl rfl) ?_
      refine Wl.nil ?_
      refine PX.then_n ?_
      refine CT.cond rfl (fun h101 => ?_) (fun h101 => ?_)
      ·
       have h101 := of_decide_eq_true h101
       refine CT.seq ?_
       refine CT.region ?_
       refine Wl.q rfl rfl (OpQ.build (cells := #[.int .i64 0, .int .i64 0, .slice none 0 0, .slice none 0 0]) AI_pl52 rfl rfl) ?_
       refine Wl.g rfl rfl (OpG.storeV (b := b6) AI_sz52 rfl rfl rfl rfl (by repeat (first | exact Upd.here | apply Upd.there))) ?_
       rintro _ _
       refine Wl.q rfl rfl (OpQ.assign rfl) ?_
       refine Wl.nil ?_
       refine PX.then_n ?_
       refine CT.ret ?_
       refine PX.block_r ?_
       refine PX.then_r ?_
       refine PX.then_r ?_
       refine PX.block_r ?_
       refine PX.then_r ?_
       refine PX.retC2 rfl rfl rfl (by repeat (first | exact Has.here | apply Has.there)) AI_ag52 AI_sz52 (by rfl) (fun w' hH => ?_)
       exact ⟨(dv0, [], 3), fun h => absurd h (by decide), rfl, ((hH.bind0 (p := dvm dv0) dvm0).take (.cons .here .nil)).post⟩
      ·
       have h101 := of_decide_eq_false h101
       refine CT.skip ?_
       refine PX.block_n ?_
       refine PX.then_n ?_
       refine CT.region ?_
       refine Wl.q rfl rfl (OpQ.move rfl) ?_
       refine Wl.q rfl rfl (OpQ.add rfl rfl (by omega)) ?_
       refine Wl.q rfl rfl (OpQ.assign rfl) ?_
       refine Wl.nil ?_
       refine PX.as (fun _ h => h.bind (L := [.frag bs (rws rs), .row 3 1 (.slice ra L.toNat rc) (L.toNat) ((rowG (vS xs root.toNat).f (bfs (vS xs root.toNat).f L.toNat (v0 xs) (i * L.toNat + L.toNat)) ((bfs (vS xs root.toNat).f L.toNat (v0 xs) (i * L.toNat)).getD i (v0 xs)) (L.toNat)).map zz)]) (p := rws (rs ++ [(⟨ra, rc, rowG (vS xs root.toNat).f (bfs (vS xs root.toNat).f L.toNat (v0 xs) (i * L.toNat + L.toNat)) ((bfs (vS xs root.toNat).f L.toNat (v0 xs) (i * L.toNat)).getD i (v0 xs)) L.toNat⟩ : Rw)])) (.cons (.there (.there (.there .here))) (.cons (.there (.there .here)) .nil)) (fun w hk => rws_snoc (r := (⟨ra, rc, rowG (vS xs root.toNat).f (bfs (vS xs root.toNat).f L.toNat (v0 xs) (i * L.toNat + L.toNat)) ((bfs (vS xs root.toNat).f L.toNat (v0 xs) (i * L.toNat)).getD i (v0 xs)) L.toNat⟩ : Rw)) ((hk _ List.mem_cons_self).2 w (fun _ _ => rfl)) (by show Rd w ra _; exact Rd.of_owns (hk _ (List.mem_cons_of_mem _ List.mem_cons_self))))) ?_
       refine PX.as (fun _ h => h.take (.cons .here (.cons (.there (.there .here)) (.cons (.there (.there .here)) (.cons (.there (.there .here)) (.cons (.there (.there .here)) (.cons (.there (.there .here)) (.cons (.there (.there .here)) (.cons (.there (.there .here)) .nil))))))))) ?_
       exact PX.loop hK0 (i + 1, a', c', a91, c91, fl ++ [(vS xs root.toNat).fin ((bfs (vS xs root.toNat).f L.toNat (v0 xs) (i * L.toNat)).getD i (v0 xs))], a96, c96, rs ++ [(⟨ra, rc, rowG (vS xs root.toNat).f (bfs (vS xs root.toNat).f L.toNat (v0 xs) (i * L.toNat + L.toNat)) ((bfs (vS xs root.toNat).f L.toNat (v0 xs) (i * L.toNat)).getD i (v0 xs)) L.toNat⟩ : Rw)], _, vs, gs) ⟨hg.next hlt, by have := bfs_le (f := (vS xs root.toNat).f) (L := L.toNat) (s := (v0 xs)) (show i * L.toNat ≤ (i + 1) * L.toNat by rw [Nat.add_mul]; omega); omega, fl_next hfl hlt bfs_succ_row, by rw [List.map_append, Nat.add_mul, Nat.one_mul]; rw [← rowG_full] at hrows2; exact hrows2, by rw [Nat.add_mul, Nat.one_mul]; omega, by rw [Nat.add_mul, Nat.one_mul]; exact hvs⟩ (show 20000 - (i + 1) < 20000 - i by omega) ⟨rfl, rfl, rfl, rfl, rfl, (lkV rfl (by rw [Nat.add_mul, Nat.one_mul])), rfl, rfl, trivial⟩ (by dsimp only; rw [Nat.add_mul, Nat.one_mul]; exact HSub.refl _)
    ·
     rintro b95 _
     refine RA.f 9 (by kernel_rfl) rfl rfl rfl (OpG.lit1 AI_un49 AI_in4 rfl rfl rfl) (fun _ _ => (.cons _ (.cons _ (.cons _ (.cons _ (.cons _ (.cons _ (.cons_cons _ (.cons_cons _ (.cons_cons _ (.cons _ (.cons _ (.refl _))))))))))))) ?_
     rintro b90 _
     refine RA.f 10 (by kernel_rfl) rfl rfl rfl (OpG.append AI_un49 AI_in4 (by rfl) (by decide) rfl rfl (p := 4) rfl (fun w hH => hH.rd .here) ⟨rfl, (by simp [Value.oneCell']), (by omega), (by omega)⟩ (nm := i + 1) rfl (all := (fl ++ [(vS xs root.toNat).fin ((bfs (vS xs root.toNat).f L.toNat (v0 xs) (i * L.toNat)).getD i (v0 xs))]).map bo) (by simp)) (fun _ _ => (.cons _ (.cons _ (.cons _ (.cons _ (.cons _ (.cons _ (.cons_cons _ (.cons_cons _ (.cons_cons _ (.cons _ (.cons _ (.refl _))))))))))))) ?_
     rintro ⟨a91, c91⟩ h91
     refine RA.q 16 (by kernel_rfl) rfl rfl rfl (.cons _ (.cons _ (.cons _ (.cons _ (.cons _ (.cons _ (.cons_cons _ (.cons_cons _ (.cons_cons _ (.cons _ (.cons _ (.refl _)))))))))))) (OpQ.fieldAddr AI_fa52_2 rfl) ?_
     refine RA.f 15 (by kernel_rfl) rfl rfl rfl (OpG.append AI_un50 AI_in25 (by rfl) (by decide) rfl rfl (p := 5) rfl (fun w hH => hH.rd (.there .here)) ⟨rfl, (by simp [Value.oneCell']), (by omega), (by omega)⟩ (nm := i + 1) rfl (all := (rs ++ [(⟨ra, rc, rowG (vS xs root.toNat).f (bfs (vS xs root.toNat).f L.toNat (v0 xs) (i * L.toNat + L.toNat)) ((bfs (vS xs root.toNat).f L.toNat (v0 xs) (i * L.toNat)).getD i (v0 xs)) L.toNat⟩ : Rw)]).map rv) (by simp [rowG_len])) (fun _ _ => (.cons _ (.cons _ (.cons _ (.cons _ (.cons _ (.cons _ (.cons_cons _ (.cons_cons _ (.cons_cons _ (.cons _ (.cons _ (.refl _))))))))))))) ?_
     rintro ⟨a96, c96⟩ h96
     refine RA.tail ?_
     refine RT.f 17 (by kernel_rfl) rfl rfl rfl (OpG.storeRow (a := some ⟨b9, 0, none⟩) AI_sz49 rfl rfl rfl (by repeat (first | exact Upd.here | apply Upd.there)) (by simp)) ?_
     rintro _ _
     refine RT.q 18 (by kernel_rfl) rfl rfl rfl (OpQ.fieldAddr AI_fa52_3 rfl) ?_
     refine RT.f 19 (by kernel_rfl) rfl rfl rfl (OpG.storeRow (a := some ⟨b9, 0, none⟩) AI_sz50 rfl rfl rfl (by repeat (first | exact Upd.here | apply Upd.there)) (by simp)) ?_
     rintro _ _
     refine RT.as (fun _ h => h.take (.cons (.there .here) (.cons .here (.cons .here (.cons .here (.cons .here (.cons .here (.cons .here (.cons .here (.cons .here (.cons .here (.cons .here .nil)))))))))))) ?_
     refine RT.done (by kernel_rfl) ?_
     refine PX.then_n ?_
     refine CT.seq ?_
     refine CT.region ?_
     refine Wl.q rfl rfl (OpQ.move rfl) ?_
     refine Wl.q rfl rfl (OpQ.len AI_un83 rfl) ?_
     refine Wl.q rfl rfl (OpQ.gtr rfl rfl) ?_
     refine Wl.nil ?_
     refine PX.then_n ?_
     refine CT.cond rfl (fun h101 => ?_) (fun h101 => ?_)
     ·
      have h101 := of_decide_eq_true h101
      refine CT.seq ?_
      refine CT.region ?_
      refine Wl.q rfl rfl (OpQ.build (cells := #[.int .i64 0, .int .i64 0, .slice none 0 0, .slice none 0 0]) AI_pl52 rfl rfl) ?_
      refine Wl.g rfl rfl (OpG.storeV (b := b6) AI_sz52 rfl rfl rfl rfl (by repeat (first | exact Upd.here | apply Upd.there))) ?_
      rintro _ _
      refine Wl.q rfl rfl (OpQ.assign rfl) ?_
      refine Wl.nil ?_
      refine PX.then_n ?_
      refine CT.ret ?_
      refine PX.block_r ?_
      refine PX.then_r ?_
      refine PX.then_r ?_
      refine PX.block_r ?_
      refine PX.then_r ?_
      refine PX.retC2 rfl rfl rfl (by repeat (first | exact Has.here | apply Has.there)) AI_ag52 AI_sz52 (by rfl) (fun w' hH => ?_)
      exact ⟨(dv0, [], 3), fun h => absurd h (by decide), rfl, ((hH.bind0 (p := dvm dv0) dvm0).take (.cons .here .nil)).post⟩
     ·
      have h101 := of_decide_eq_false h101
      refine CT.skip ?_
      refine PX.block_n ?_
      refine PX.then_n ?_
      refine CT.region ?_
      refine Wl.q rfl rfl (OpQ.move rfl) ?_
      refine Wl.q rfl rfl (OpQ.add rfl rfl (by omega)) ?_
      refine Wl.q rfl rfl (OpQ.assign rfl) ?_
      refine Wl.nil ?_
      refine PX.as (fun _ h => h.bind (L := [.frag bs (rws rs), .row 3 1 (.slice ra L.toNat rc) (L.toNat) ((rowG (vS xs root.toNat).f (bfs (vS xs root.toNat).f L.toNat (v0 xs) (i * L.toNat + L.toNat)) ((bfs (vS xs root.toNat).f L.toNat (v0 xs) (i * L.toNat)).getD i (v0 xs)) (L.toNat)).map zz)]) (p := rws (rs ++ [(⟨ra, rc, rowG (vS xs root.toNat).f (bfs (vS xs root.toNat).f L.toNat (v0 xs) (i * L.toNat + L.toNat)) ((bfs (vS xs root.toNat).f L.toNat (v0 xs) (i * L.toNat)).getD i (v0 xs)) L.toNat⟩ : Rw)])) (.cons (.there (.there (.there .here))) (.cons (.there (.there .here)) .nil)) (fun w hk => rws_snoc (r := (⟨ra, rc, rowG (vS xs root.toNat).f (bfs (vS xs root.toNat).f L.toNat (v0 xs) (i * L.toNat + L.toNat)) ((bfs (vS xs root.toNat).f L.toNat (v0 xs) (i * L.toNat)).getD i (v0 xs)) L.toNat⟩ : Rw)) ((hk _ List.mem_cons_self).2 w (fun _ _ => rfl)) (by show Rd w ra _; exact Rd.of_owns (hk _ (List.mem_cons_of_mem _ List.mem_cons_self))))) ?_
      refine PX.as (fun _ h => h.take (.cons .here (.cons (.there (.there .here)) (.cons (.there (.there .here)) (.cons (.there (.there .here)) (.cons (.there (.there .here)) (.cons (.there (.there .here)) (.cons (.there (.there .here)) (.cons (.there (.there .here)) .nil))))))))) ?_
      exact PX.loop hK0 (i + 1, a', c', a91, c91, fl ++ [(vS xs root.toNat).fin ((bfs (vS xs root.toNat).f L.toNat (v0 xs) (i * L.toNat)).getD i (v0 xs))], a96, c96, rs ++ [(⟨ra, rc, rowG (vS xs root.toNat).f (bfs (vS xs root.toNat).f L.toNat (v0 xs) (i * L.toNat + L.toNat)) ((bfs (vS xs root.toNat).f L.toNat (v0 xs) (i * L.toNat)).getD i (v0 xs)) L.toNat⟩ : Rw)], _, vs, gs) ⟨hg.next hlt, by have := bfs_le (f := (vS xs root.toNat).f) (L := L.toNat) (s := (v0 xs)) (show i * L.toNat ≤ (i + 1) * L.toNat by rw [Nat.add_mul]; omega); omega, fl_next hfl hlt bfs_succ_row, by rw [List.map_append, Nat.add_mul, Nat.one_mul]; rw [← rowG_full] at hrows2; exact hrows2, by rw [Nat.add_mul, Nat.one_mul]; omega, by rw [Nat.add_mul, Nat.one_mul]; exact hvs⟩ (show 20000 - (i + 1) < 20000 - i by omega) ⟨rfl, rfl, rfl, rfl, rfl, (lkV rfl (by rw [Nat.add_mul, Nat.one_mul])), rfl, rfl, trivial⟩ (by dsimp only; rw [Nat.add_mul, Nat.one_mul]; exact HSub.refl _)
  ·
   have h43 := of_decide_eq_false h43
   have hii : i = (bfs (vS xs root.toNat).f L.toNat (v0 xs) (i * L.toNat)).length := by omega
   have hK : Done (vS xs root.toNat).f L.toNat (v0 xs) (i * L.toNat) := Done.of hL1 hg hii
   have hfin : fl = (autoD (vS xs root.toNat).f L.toNat (v0 xs) (i * L.toNat) (vS xs root.toNat).fin).fin := by
    rw [hfl, List.take_of_length_le (Nat.le_of_eq hii.symm)]; rfl
   have hIs : Dv.Is ⟨L, 0, fa', fc', fl, na', nc', rs⟩ (autoD (vS xs root.toNat).f L.toNat (v0 xs) (i * L.toNat) (vS xs root.toNat).fin) := ⟨hLe, rfl, hfin, hrows.auto' hii (vS xs root.toNat).fin⟩
   have hv9 : Dv.Ok ⟨L, 0, fa', fc', fl, na', nc', rs⟩ := hIs.ok (autoD_ok hK _) (by show 1 ≤ L.toNat ∧ L.toNat ≤ 6; omega) (by rw [autoD_n]; omega)
   have hval : dvv ⟨L, 0, fa', fc', fl, na', nc', rs⟩ = .agg #[.int .i64 L, .int .i64 0, .slice fa' i fc', .slice na' i nc'] := by
    show Value.agg #[.int .i64 L, .int .i64 0, .slice fa' fl.length fc', .slice na' rs.length nc'] = _
    rw [hfll, hrll]
   refine CT.exit ?_
   refine PX.then_x ?_
   refine PX.then_x ?_
   refine PX.block_x ?_
   refine PX.then_n ?_
   refine CT.seq ?_
   refine CT.region ?_
   refine Wl.q rfl rfl (OpQ.loadV (b := b9) AI_ag52 AI_sz52 rfl (by repeat (first | exact Has.here | apply Has.there)) (by rfl)) ?_
   refine Wl.know 103 (v' := dvv ⟨L, 0, fa', fc', fl, na', nc', rs⟩) rfl hval.symm ?_
   refine Wl.g rfl rfl (OpG.callX AI_go47 rfl .nil (fun _ => (.cons .nil)) (fun w hH hp => minimizeR_spec w ⟨L, 0, fa', fc', fl, na', nc', rs⟩ (fun w2 he => ⟨Stays.rd (hH.staysK0 (.there .here)) w2 he, Stays.rd (hH.staysK0 (.there (.there .here))) w2 he, Stays.frag (hH.staysK0 .here) w2 he⟩) hv9)) ?_
   rintro ⟨D3, bs3⟩ h3
   dsimp only at h3
   obtain ⟨hv3, hm3⟩ := h3
   refine Wl.g rfl rfl (OpG.alloc (zs := [.int .i64 0, .int .i64 0, .slice none 0 0, .slice none 0 0]) AI_in52 rfl rfl) ?_
   rintro b18 _
   refine Wl.g rfl rfl (OpG.storeV (b := b18) AI_sz52 rfl rfl rfl rfl (by repeat (first | exact Upd.here | apply Upd.there))) ?_
   rintro _ _
   refine Wl.nil ?_
   refine PX.then_n ?_
   refine CT.seq ?_
   refine CT.seq ?_
   refine CT.region ?_
   refine Wl.q rfl rfl (OpQ.fieldAddr AI_fa52_2 rfl) ?_
   refine Wl.q rfl rfl (OpQ.loadF (b := b18) AI_sc49 rfl (by repeat (first | exact Has.here | apply Has.there)) (by rfl)) ?_
   refine Wl.q rfl rfl (OpQ.len AI_un49 rfl) ?_
   refine Wl.q rfl rfl (OpQ.gtr rfl rfl) ?_
   refine Wl.nil ?_
   refine PX.then_n ?_
   refine CT.cond rfl (fun h108 => ?_) (fun h108 => ?_)
   ·
    have h108 := of_decide_eq_true h108
    refine CT.seq ?_
    refine CT.region ?_
    refine Wl.q rfl rfl (OpQ.build (cells := #[.int .i64 0, .int .i64 0, .slice none 0 0, .slice none 0 0]) AI_pl52 rfl rfl) ?_
    refine Wl.g rfl rfl (OpG.storeV (b := b6) AI_sz52 rfl rfl rfl rfl (by repeat (first | exact Upd.here | apply Upd.there))) ?_
    rintro _ _
    refine Wl.q rfl rfl (OpQ.assign rfl) ?_
    refine Wl.nil ?_
    refine PX.then_n ?_
    refine CT.ret ?_
    refine PX.then_r ?_
    refine PX.retC2 rfl rfl rfl (by repeat (first | exact Has.here | apply Has.there)) AI_ag52 AI_sz52 (by rfl) (fun w' hH => ?_)
    exact ⟨(dv0, [], 3), fun h => absurd h (by decide), rfl, ((hH.bind0 (p := dvm dv0) dvm0).take (.cons .here .nil)).post⟩
   ·
    have h108 := of_decide_eq_false h108
    refine CT.skip ?_
    refine PX.then_n ?_
    refine CT.seq ?_
    refine CT.region ?_
    refine Wl.q rfl rfl (OpQ.loadV (b := b18) AI_ag52 AI_sz52 rfl (by repeat (first | exact Has.here | apply Has.there)) (by rfl)) ?_
    refine Wl.know 111 (v' := dvv D3) rfl rfl ?_
    refine Wl.g rfl rfl (OpG.callX AI_go48 rfl .nil (fun _ => (.cons .nil)) (fun w hH hp => dreverse_spec w D3 (Stays.frag (hH.staysK0 (.there .here))) hv3)) ?_
    rintro ⟨D4, bs4, er⟩ h4
    dsimp only at h4
    refine Wl.q rfl rfl (OpQ.move rfl) ?_
    refine Wl.q rfl rfl (OpQ.extract rfl rfl) ?_
    refine Wl.know 113 (v' := dvv D4) rfl rfl ?_
    refine Wl.q rfl rfl (OpQ.extract rfl rfl) ?_
    refine Wl.know 114 (v' := .int .i64 er) rfl rfl ?_
    refine Wl.g rfl rfl (OpG.alloc (zs := [.int .i64 0, .int .i64 0, .slice none 0 0, .slice none 0 0]) AI_in52 rfl rfl) ?_
    rintro b19 _
    refine Wl.g rfl rfl (OpG.storeV (b := b19) AI_sz52 rfl rfl rfl rfl (by repeat (first | exact Upd.here | apply Upd.there))) ?_
    rintro _ _
    refine Wl.q rfl rfl (OpQ.assign rfl) ?_
    refine Wl.nil ?_
    refine PX.then_n ?_
    refine CT.seq ?_
    refine CT.seq ?_
    refine CT.region ?_
    refine Wl.q rfl rfl (OpQ.move rfl) ?_
    refine Wl.q rfl rfl (OpQ.neq rfl rfl) ?_
    refine Wl.nil ?_
    refine PX.then_n ?_
    refine CT.cond rfl (fun h116 => ?_) (fun h116 => ?_)
    ·
     have h116 := of_nd_t h116
     refine CT.seq ?_
     refine CT.region ?_
     refine Wl.q rfl rfl (OpQ.build (cells := #[.int .i64 0, .int .i64 0, .slice none 0 0, .slice none 0 0]) AI_pl52 rfl rfl) ?_
     refine Wl.g rfl rfl (OpG.storeV (b := b6) AI_sz52 rfl rfl rfl rfl (by repeat (first | exact Upd.here | apply Upd.there))) ?_
     rintro _ _
     refine Wl.q rfl rfl (OpQ.assign rfl) ?_
     refine Wl.nil ?_
     refine PX.then_n ?_
     refine CT.ret ?_
     refine PX.then_r ?_
     refine PX.retC2 rfl rfl rfl (by repeat (first | exact Has.here | apply Has.there)) AI_ag52 AI_sz52 (by rfl) (fun w' hH => ?_)
     exact ⟨(dv0, [], 3), fun h => absurd h (by decide), rfl, ((hH.bind0 (p := dvm dv0) dvm0).take (.cons .here .nil)).post⟩
    ·
     have h116 := of_nd_f h116
     refine CT.skip ?_
     refine PX.then_n ?_
     refine CT.seq ?_
     refine CT.region ?_
     refine Wl.q rfl rfl (OpQ.loadV (b := b19) AI_ag52 AI_sz52 rfl (by repeat (first | exact Has.here | apply Has.there)) (by rfl)) ?_
     refine Wl.know 118 (v' := dvv D4) rfl rfl ?_
     refine Wl.g rfl rfl (OpG.storeV (b := b6) AI_sz52 rfl rfl rfl rfl (by repeat (first | exact Upd.here | apply Upd.there))) ?_
     rintro _ _
     refine Wl.q rfl rfl (OpQ.assign rfl) ?_
     refine Wl.nil ?_
     refine PX.then_n ?_
     refine CT.ret ?_
     refine PX.retC2 rfl rfl rfl (by repeat (first | exact Has.here | apply Has.there)) AI_ag52 AI_sz52 (by rfl) (fun w' hH => ?_)
     obtain ⟨hv4, hn4, hm4⟩ := h4 h116
     exact ⟨(D4, bs4, 0), fun _ => made_of h26 hK h20 hIs hm3 (by have h108c : ¬ ((D3.fin.length : Int) > 512) := h108; omega) hv4 hn4 hm4, rfl, (hH.take (.cons (.there .here) .nil)).post⟩

end Go.Proofs.Ytlmbcdjmdgbmjaa

