/-
  What functions of the program compute, each by its walk. Conditions: those that each theorem names.
-/
import Derived.Test.YtlmbcdjmdgbmjaaMod
import Derived.Test.YtlmbcdjmdgbmjaaXB10
set_option linter.unusedSimpArgs false
namespace Go.Proofs.Ytlmbcdjmdgbmjaa
open Go Go.Eng Go.Am
open Go.Tl (mayL bo Tm tv t0 tv_len okL vdF evL evL_len Wd)

theorem AK_mkS : MapKey Try.prog 9 sv := MapKey.str (by kernel_rfl)
theorem AK_un43 : Try.prog.underlying 43 = some (.slice 9) := by kernel_rfl
theorem AK_in9 : (Try.prog.info? 9).map (fun i => (i.zero, i.size, i.bytes)) = some (some (.string ⟨#[]⟩), 1, 16) := by kernel_rfl
theorem AK_un49 : Try.prog.underlying 49 = some (.slice 4) := by kernel_rfl
theorem AK_in4 : (Try.prog.info? 4).map (fun i => (i.zero, i.size, i.bytes)) = some (some (.bool false), 1, 1) := by kernel_rfl
theorem AK_go64 : isGo Try.prog 64 = true := by kernel_rfl
theorem AK_mixed : Try.prog.follows .mixedOrders = true := by kernel_rfl
theorem AK_un22 : Try.prog.underlying 22 = some (.slice 31) := by kernel_rfl
theorem AK_go33 : isGo Try.prog 33 = true := by kernel_rfl
theorem AK_pl113 : placesB Try.prog 113 = some (#[.int .i64 0, .slice none 0 0, .slice none 0 0], [(0, 1), (1, 1), (2, 1)]) := by kernel_rfl
theorem AK_go65 : isGo Try.prog 65 = true := by kernel_rfl
theorem AK_sz9 : sizeB Try.prog 9 = some 1 := by kernel_rfl
theorem AK_sc9 : scalarB Try.prog 9 = some true := by kernel_rfl
theorem AK_un85 : Try.prog.underlying 85 = some (.map 9 3) := by kernel_rfl
theorem AK_go66 : isGo Try.prog 66 = true := by kernel_rfl
theorem AK_fa113_2 : fieldB Try.prog 113 2 = some 2 := by kernel_rfl
theorem AK_sc49 : scalarB Try.prog 49 = some true := by kernel_rfl
theorem AK_sz4 : sizeB Try.prog 4 = some 1 := by kernel_rfl
theorem AK_sc4 : scalarB Try.prog 4 = some true := by kernel_rfl
theorem AK_sz49 : sizeB Try.prog 49 = some 1 := by kernel_rfl
theorem AK_in3 : (Try.prog.info? 3).map (fun i => (i.zero, i.size, i.bytes)) = some (some (.int .i64 0), 1, 8) := by kernel_rfl
theorem AK_fa113_1 : fieldB Try.prog 113 1 = some 1 := by kernel_rfl
theorem AK_sc25 : scalarB Try.prog 25 = some true := by kernel_rfl
theorem AK_un25 : Try.prog.underlying 25 = some (.slice 3) := by kernel_rfl
theorem AK_sz25 : sizeB Try.prog 25 = some 1 := by kernel_rfl
set_option maxRecDepth 100000 in
/-- semigroup/temporal.backwards -/
theorem backwards_spec (w : World) (a : Option Addr) (cp : Nat) (ys : List Tm) (hr : Stays [] w (fun w => Rd w a (ys.flatMap tv))) (hl : ys.length ≤ 200000) (h0 : 0 < ys.length) (hok : okL ys 6 = true) (L : Nat) (hL : 1 ≤ L ∧ L ≤ 6) (h20 : ∀ k, (bfs (pS ys).f L (p0 ys) k).length ≤ 20000) : Calls Try.prog 49 #[.slice a ys.length cp, .int .i64 ((L : Nat) : Int)] w (fun e w' => ∃ i : Nat × Nat × Option Addr × Nat × Option Addr × Nat, Done (pS ys).f L (p0 ys) i.1 ∧ e = .returned (.tuple #[.pointer (some ⟨i.2.1, 0, none⟩), .bool true]) ∧ Post [] [.row 113 3 (vb i.2.1) 1 [.int .i64 ((L : Nat) : Int), .slice i.2.2.1 (dfl (autoD (pS ys).f L (p0 ys) i.1 (pS ys).fin)).length i.2.2.2.1, .slice i.2.2.2.2.1 (autoD (pS ys).f L (p0 ys) i.1 (pS ys).fin).n i.2.2.2.2.2], .row 3 1 (.slice i.2.2.1 (dfl (autoD (pS ys).f L (p0 ys) i.1 (pS ys).fin)).length i.2.2.2.1) (dfl (autoD (pS ys).f L (p0 ys) i.1 (pS ys).fin)).length ((dfl (autoD (pS ys).f L (p0 ys) i.1 (pS ys).fin)).map zz), .row 4 1 (.slice i.2.2.2.2.1 (autoD (pS ys).f L (p0 ys) i.1 (pS ys).fin).n i.2.2.2.2.2) (autoD (pS ys).f L (p0 ys) i.1 (pS ys).fin).n ((autoD (pS ys).f L (p0 ys) i.1 (pS ys).fin).fin.map bo)] w w') := by
 have hkl : (kps ys).length ≤ 200000 := Nat.le_trans (kpl_len ys ys.length) hl
 have hLn : ((L : Nat) : Int) * ((ys.length : Nat) : Int) = ((L * ys.length : Nat) : Int) := (Int.natCast_mul _ _).symm
 have hLnb : L * ys.length ≤ 1200000 := Nat.le_trans (Nat.mul_le_mul hL.2 hl) (by decide)
 have hcnt : ∀ i, i ≤ 20000 → i * (L * ys.length) ≤ 24000000000 := fun i hi => Nat.le_trans (Nat.mul_le_mul hi hLnb) (by decide)
 refine enter (args := [.slice a ys.length cp, .int .i64 ((L : Nat) : Int)]) [] 127 Try.func49 rfl rfl rfl ?_
 refine CT.seq ?_
 refine CT.region ?_
 refine Wl.q rfl rfl (OpQ.assign rfl) ?_
 refine Wl.q rfl rfl (OpQ.assign rfl) ?_
 refine Wl.nil ?_
 refine PX.then_n ?_
 refine CT.seq ?_
 refine CT.region ?_
 refine Wl.q rfl rfl (OpQ.move rfl) ?_
 refine Wl.g rfl rfl (OpG.callX AK_go64 rfl .nil (fun _ => (.cons .nil)) (fun w hH hp => keep_spec w a cp ys (hH.stays0 hr) hl h0 hok)) ?_
 rintro ⟨ka, kc⟩ _
 refine Wl.q rfl rfl (OpQ.assign rfl) ?_
 refine Wl.nil ?_
 refine PX.then_n ?_
 refine CT.cut (ι := Nat × Nat) (Φ := fun _ => True) (E' := fun (b7, b8) => [(0, .slice a ys.length cp), (1, .int .i64 ((L : Nat) : Int)), (6, .slice ka (kps ys).length kc), (7, .slice (some ⟨b7, 0, none⟩) (List.replicate ys.length false).length ys.length), (8, .slice (some ⟨b8, 0, none⟩) ys.length ys.length)]) (H' := fun (b7, b8) => [.row 4 1 (.slice (some ⟨b8, 0, none⟩) ys.length ys.length) ys.length ((List.replicate ys.length false).map bo), .row 4 1 (.slice (some ⟨b7, 0, none⟩) (List.replicate ys.length false).length ys.length) (List.replicate ys.length false).length ((List.replicate ys.length false).map bo), .row 3 1 (.slice ka (kps ys).length kc) (kps ys).length ((kps ys).map zn)]) (fun K0 hK0 => ?_) (fun ⟨b7, b8⟩ _ => ?_)
 ·
  refine CT.draw 8 AK_mixed ?_
  refine RA.q 0 (by kernel_rfl) rfl rfl rfl (.refl _) (OpQ.move rfl) ?_
  refine RA.q 1 (by kernel_rfl) rfl rfl rfl (.refl _) (OpQ.len AK_un22 rfl) ?_
  refine RA.q 3 (by kernel_rfl) rfl rfl rfl (.refl _) (OpQ.move rfl) ?_
  refine RA.q 4 (by kernel_rfl) rfl rfl rfl (.refl _) (OpQ.len AK_un22 rfl) ?_
  refine RA.two 2 5 (by kernel_rfl) rfl rfl rfl (OpG.make1 AK_un49 AK_in4 rfl rfl rfl rfl (by omega) (by omega)) (fun _ _ => (.cons _ (.refl _))) rfl rfl rfl (OpG.make1 AK_un49 AK_in4 rfl rfl rfl rfl (by omega) (by omega)) (fun _ _ => (.cons _ (.refl _))) ?_ ?_
  ·
   rintro b22 _
   refine RA.q 6 (by kernel_rfl) rfl rfl rfl (.cons _ (.refl _)) (OpQ.assign rfl) ?_
   refine RA.f 5 (by kernel_rfl) rfl rfl rfl (OpG.make1 AK_un49 AK_in4 rfl rfl rfl rfl (by omega) (by omega)) (fun _ _ => (.cons _ (.cons _ (.refl _)))) ?_
   rintro b25 _
   refine RA.q 7 (by kernel_rfl) rfl rfl rfl (.cons _ (.cons _ (.refl _))) (OpQ.assign rfl) ?_
   refine RA.tail ?_
   refine RT.done (by kernel_rfl) ?_
   exact PX.cut hK0 (b22, b25) trivial ⟨rfl, rfl, rfl, (lkV rfl (by rw [List.length_replicate])), rfl, trivial⟩ (.keep (row_eq (by simp)) (by rw [List.length_replicate, List.map_replicate]; exact HSub.refl _))
  ·
   rintro b25 _
   refine RA.f 2 (by kernel_rfl) rfl rfl rfl (OpG.make1 AK_un49 AK_in4 rfl rfl rfl rfl (by omega) (by omega)) (fun _ _ => (.cons _ (.cons _ (.refl _)))) ?_
   rintro b22 _
   refine RA.q 6 (by kernel_rfl) rfl rfl rfl (.cons _ (.cons _ (.refl _))) (OpQ.assign rfl) ?_
   refine RA.q 7 (by kernel_rfl) rfl rfl rfl (.cons _ (.cons _ (.refl _))) (OpQ.assign rfl) ?_
   refine RA.tail ?_
   refine RT.as (fun _ h => h.take (.cons (.there .here) (.cons .here (.cons .here .nil)))) ?_
   refine RT.done (by kernel_rfl) ?_
   exact PX.cut hK0 (b22, b25) trivial ⟨rfl, rfl, rfl, (lkV rfl (by rw [List.length_replicate])), rfl, trivial⟩ (.keep (row_eq (by simp)) (by rw [List.length_replicate, List.map_replicate]; exact HSub.refl _))
 ·
  dsimp only
  refine CT.seq ?_
  refine CT.region ?_
  refine Wl.q rfl rfl (OpQ.move rfl) ?_
  refine Wl.q rfl rfl (OpQ.move rfl) ?_
  refine Wl.q rfl rfl (OpQ.move rfl) ?_
  refine Wl.g rfl rfl (OpG.callU AK_go33 rfl Upd.here (fun w hH hown => evaluate_spec w a cp ys (hH.use hr) hl (-1) (some ⟨b7, 0, none⟩) (List.replicate ys.length false).length ys.length (List.replicate ys.length false) (hH.rd (.there .here)) (fun _ => rfl) (fun _ => List.length_replicate) hok (some ⟨b8, 0, none⟩) ys.length (List.replicate ys.length false) List.length_replicate hown (hH.sep0 rfl hr.now .here) (hH.sep (.snd .here)))) ?_
  rintro _ _
  refine Wl.mem (.keep (row_eq (xs := (v0 ys).map bo) (by rw [v0]; exact congrArg (List.map bo) (Go.Tl.evL_any hok List.length_replicate List.length_replicate (fun h => absurd rfl h)))) (HSub.refl _)) ?_
  refine Wl.nil ?_
  refine PX.then_n ?_
  refine CT.seq ?_
  refine CT.region ?_
  refine Wl.q rfl rfl (OpQ.move rfl) ?_
  refine Wl.q rfl rfl (OpQ.build (cells := #[_, .slice none 0 0, .slice none 0 0]) AK_pl113 rfl rfl) ?_
  refine Wl.g rfl rfl (OpG.box (size := 3) rfl rfl rfl) ?_
  rintro b32 _
  refine Wl.q rfl rfl (OpQ.assign rfl) ?_
  refine Wl.nil ?_
  refine PX.then_n ?_
  refine CT.seq ?_
  refine CT.region ?_
  refine Wl.q rfl rfl (OpQ.move rfl) ?_
  refine Wl.q rfl rfl (OpQ.move rfl) ?_
  refine Wl.g rfl rfl (OpG.callV AK_go65 rfl (fun w hH => by have h := pack_spec w (kps ys) ka kc (Stays.rd (hH.staysK0 (.there (.there (.there .here))))) hkl (v0 ys) (some ⟨b8, 0, none⟩) ys.length (Stays.rd (hH.staysK0 (.there .here))) (fun k hk => by rw [v0_len]; exact kps_lt k hk); rw [v0_len] at h; exact h)) ?_
  rintro _ _
  refine Wl.know 35 (v' := sv (p0 ys)) rfl rfl ?_
  refine Wl.g rfl rfl (OpG.lit1 AK_un43 AK_in9 rfl rfl rfl) ?_
  rintro b36 _
  refine Wl.q rfl rfl (OpQ.assign rfl) ?_
  refine Wl.nil ?_
  refine PX.then_n ?_
  refine CT.seq ?_
  refine CT.region ?_
  refine Wl.g rfl rfl (OpG.makeMap (f := sv)) ?_
  rintro b37 _
  refine Wl.q rfl rfl (OpQ.move rfl) ?_
  refine Wl.q rfl rfl (OpQ.index1 AK_un43 AK_sz9 rfl rfl (by omega) rfl) ?_
  refine Wl.q rfl rfl (OpQ.loadRow AK_sc9 rfl (.there .here) rfl) ?_
  refine Wl.g rfl rfl (OpG.insNew (f := sv) (x := (p0 ys)) (l := []) AK_mkS AK_un85 rfl rfl rfl rfl (by repeat (first | exact Upd.here | apply Upd.there))) ?_
  rintro _ _
  refine Wl.q rfl rfl (OpQ.move rfl) ?_
  refine Wl.q rfl rfl (OpQ.assign rfl) ?_
  refine Wl.nil ?_
  refine PX.then_n ?_
  refine CT.seq ?_
  refine CT.region ?_
  refine Wl.q rfl rfl (OpQ.assign rfl) ?_
  refine Wl.nil ?_
  refine PX.then_n ?_
  refine CT.seq ?_
  refine CT.seq ?_
  refine CT.region ?_
  refine Wl.q rfl rfl (OpQ.assign rfl) ?_
  refine Wl.nil ?_
  refine PX.then_n ?_
  refine CT.block ?_
  refine CT.nilrow 4 1 ?_
  refine CT.nilrow 3 1 ?_
  refine CT.as (fun _ h => h.take (.cons (.there (.there (.there (.there (.there (.there .here)))))) (.cons (.there .here) (.cons .here (.cons (.there (.there .here)) (.cons (.there .here) (.cons .here (.cons .here (.cons .here .nil))))))))) ?_
  refine CT.loop (ι := Nat × Option Addr × Nat × Option Addr × Nat × Option Addr × Nat × List Bool × List (List Int) × List Bool × List Bool) (fun (i, a', c', fa', fc', na', nc', fl, xss, bf, v) => Going (pS ys).f L (p0 ys) (i * L) ∧ i ≤ (bfs (pS ys).f L (p0 ys) (i * L)).length ∧ fl = ((bfs (pS ys).f L (p0 ys) (i * L)).take i).map (pS ys).fin ∧ XRows (pS ys).f L (p0 ys) (bfs (pS ys).f L (p0 ys) (i * L)) i xss ∧ bf.length = ys.length ∧ v.length = ys.length) (fun (i, a', c', fa', fc', na', nc', fl, xss, bf, v) => [(0, .slice a ys.length cp), (1, .int .i64 ((L : Nat) : Int)), (6, .slice ka (kps ys).length kc), (7, .slice (some ⟨b7, 0, none⟩) bf.length ys.length), (8, .slice (some ⟨b8, 0, none⟩) ys.length ys.length), (9, .pointer (some ⟨b32, 0, none⟩)), (10, .slice a' (bfs (pS ys).f L (p0 ys) (i * L)).length c'), (11, .map (some b37)), (12, .int .i64 (((i * (L * ys.length)) : Nat) : Int)), (13, .int .i64 ((i : Nat) : Int))]) (fun (i, a', c', fa', fc', na', nc', fl, xss, bf, v) => [.row 4 1 (.slice (some ⟨b7, 0, none⟩) bf.length ys.length) bf.length (bf.map bo), .row 4 1 (.slice fa' (i) fc') (i) (fl.map bo), .row 3 1 (.slice na' (i * L) nc') (i * L) ((xss.flatten).map zz), .row 113 3 (vb b32) 1 [.int .i64 ((L : Nat) : Int), .slice na' (i * L) nc', .slice fa' (i) fc'], .row 9 1 (.slice a' (bfs (pS ys).f L (p0 ys) (i * L)).length c') (bfs (pS ys).f L (p0 ys) (i * L)).length ((bfs (pS ys).f L (p0 ys) (i * L)).map sv), .blk b37 (mapO sv (itA 0 (bfs (pS ys).f L (p0 ys) (i * L)))), .row 4 1 (.slice (some ⟨b8, 0, none⟩) ys.length ys.length) ys.length (v.map bo), .row 3 1 (.slice ka (kps ys).length kc) (kps ys).length ((kps ys).map zn)]) (fun (i, a', c', fa', fc', na', nc', fl, xss, bf, v) => 20000 - i) (0, some ⟨b36, 0, none⟩, 1, none, 0, none, 0, [], [], List.replicate ys.length false, v0 ys) ⟨by rw [Nat.zero_mul]; exact Going.zero, Nat.zero_le _, rfl, XRows.start _, List.length_replicate, v0_len ys⟩ ⟨rfl, rfl, rfl, rfl, rfl, rfl, (lkV rfl (by rw [Nat.zero_mul]; rfl)), rfl, (lkV rfl (by rw [Nat.zero_mul]; rfl)), rfl, trivial⟩ (by dsimp only; rw [Nat.zero_mul]; exact HSub.refl _) (fun ⟨i, a', c', fa', fc', na', nc', fl, xss, bf, v⟩ ⟨hg, hi, hfl, hrows, hbf, hv⟩ K1 hK1 => ?_)
  dsimp only
  refine CT.fact (p := a'.isSome = true) (fun w hH => (hH.rd (.there (.there (.there (.there .here))))).isSome (j := 0) (by rw [List.length_map]; exact bfs_pos _)) (fun hia => ?_)
  have hfll : fl.length = i := by rw [hfl, List.length_map, List.length_take, Nat.min_eq_left hi]
  have hxl := hrows.flat
  have h20i := h20 (i * L)
  refine CT.seq ?_
  refine CT.seq ?_
  refine CT.region ?_
  refine Wl.q rfl rfl (OpQ.move rfl) ?_
  refine Wl.q rfl rfl (OpQ.move rfl) ?_
  refine Wl.q rfl rfl (OpQ.len AK_un43 rfl) ?_
  refine Wl.q rfl rfl (OpQ.lss rfl rfl) ?_
  refine Wl.nil ?_
  refine PX.then_n ?_
  refine CT.cond rfl (fun h45 => ?_) (fun h45 => ?_)
  ·
   have h45 := of_decide_eq_true h45
   have hlt : i < (bfs (pS ys).f L (p0 ys) (i * L)).length := by omega
   have hlen0 : ((bfs (pS ys).f L (p0 ys) (i * L)).getD i (p0 ys)).length = ((kps ys).length + 7) / 8 := p_len hL.1 _ _ (getDm hlt)
   refine CT.skip ?_
   refine PX.then_n ?_
   refine CT.seq ?_
   refine CT.block ?_
   refine CT.seq ?_
   refine CT.region ?_
   refine Wl.q rfl rfl (OpQ.move rfl) ?_
   refine Wl.q rfl rfl (OpQ.move rfl) ?_
   refine Wl.q rfl rfl (OpQ.move rfl) ?_
   refine Wl.q rfl rfl (OpQ.len AK_un22 rfl) ?_
   refine Wl.q rfl rfl (OpQ.mul rfl rfl (by rw [hLn]; omega)) ?_
   refine Wl.know 52 (v' := .int .i64 (((L * ys.length) : Nat) : Int)) rfl (congrArg (Value.int .i64) hLn) ?_
   refine Wl.q rfl rfl (OpQ.add rfl rfl (by have h1 := hcnt i (by omega); have h2 := hLnb; generalize i * (L * ys.length) = p at *; generalize L * ys.length = q at *; omega)) ?_
   refine Wl.know 53 (v' := .int .i64 ((((i + 1) * (L * ys.length)) : Nat) : Int)) rfl (congrArg (Value.int .i64) (by rw [Nat.add_mul, Nat.one_mul, Int.natCast_add])) ?_
   refine Wl.q rfl rfl (OpQ.assign rfl) ?_
   refine Wl.nil ?_
   refine PX.then_n ?_
   refine CT.cut (ι := Unit) (Φ := fun _ => True) (E' := fun _ => [(0, .slice a ys.length cp), (1, .int .i64 ((L : Nat) : Int)), (6, .slice ka (kps ys).length kc), (7, .slice (some ⟨b7, 0, none⟩) bf.length ys.length), (8, .slice (some ⟨b8, 0, none⟩) ys.length ys.length), (9, .pointer (some ⟨b32, 0, none⟩)), (10, .slice a' (bfs (pS ys).f L (p0 ys) (i * L)).length c'), (11, .map (some b37)), (12, .int .i64 ((((i + 1) * (L * ys.length)) : Nat) : Int)), (13, .int .i64 ((i : Nat) : Int))]) (H' := fun _ => [.row 4 1 (.slice (some ⟨b7, 0, none⟩) bf.length ys.length) bf.length (bf.map bo), .row 4 1 (.slice fa' (i) fc') (i) (fl.map bo), .row 3 1 (.slice na' (i * L) nc') (i * L) ((xss.flatten).map zz), .row 113 3 (vb b32) 1 [.int .i64 ((L : Nat) : Int), .slice na' (i * L) nc', .slice fa' (i) fc'], .row 9 1 (.slice a' (bfs (pS ys).f L (p0 ys) (i * L)).length c') (bfs (pS ys).f L (p0 ys) (i * L)).length ((bfs (pS ys).f L (p0 ys) (i * L)).map sv), .blk b37 (mapO sv (itA 0 (bfs (pS ys).f L (p0 ys) (i * L)))), .row 4 1 (.slice (some ⟨b8, 0, none⟩) ys.length ys.length) ys.length (v.map bo), .row 3 1 (.slice ka (kps ys).length kc) (kps ys).length ((kps ys).map zn)]) (fun K2 hK2 => ?_) (fun _ _ => ?_)
   ·
    refine CT.seq ?_
    refine CT.region ?_
    refine Wl.q rfl rfl (OpQ.move rfl) ?_
    refine Wl.q rfl rfl (OpQ.gtr rfl rfl) ?_
    refine Wl.q rfl rfl (OpQ.move rfl) ?_
    refine Wl.split 56 rfl (fun hg56 => ?_) (fun hg56 => ?_)
    ·
     refine Wl.q rfl rfl (OpQ.move rfl) ?_
     refine Wl.q rfl rfl (OpQ.len AK_un43 rfl) ?_
     refine Wl.q rfl rfl (OpQ.gtr rfl rfl) ?_
     refine Wl.know 59 (v' := .bool false) rfl (congrArg Value.bool (decide_eq_false (by omega))) ?_
     refine Wl.q rfl rfl (OpQ.pickT rfl rfl) ?_
     refine Wl.nil ?_
     refine PX.then_n ?_
     refine CT.condF rfl ?_
     refine CT.skip ?_
     exact PX.cut hK2 () trivial ⟨rfl, rfl, rfl, rfl, rfl, rfl, rfl, rfl, rfl, rfl, trivial⟩ (HSub.refl _)
    ·
     refine Wl.skip rfl rfl ?_
     refine Wl.skip rfl rfl ?_
     refine Wl.skip rfl rfl ?_
     refine Wl.q rfl rfl (OpQ.pickF rfl rfl) ?_
     refine Wl.nil ?_
     refine PX.then_n ?_
     refine CT.condF rfl ?_
     refine CT.skip ?_
     exact PX.cut hK2 () trivial ⟨rfl, rfl, rfl, rfl, rfl, rfl, rfl, rfl, rfl, rfl, trivial⟩ (HSub.refl _)
   ·
    refine CT.seq ?_
    refine CT.region ?_
    refine Wl.q rfl rfl (OpQ.move rfl) ?_
    refine Wl.q rfl rfl (OpQ.move rfl) ?_
    refine Wl.q rfl rfl (OpQ.index1 AK_un43 AK_sz9 rfl rfl (by omega) hia) ?_
    refine Wl.q rfl rfl (OpQ.loadRow AK_sc9 rfl (.there (.there (.there (.there .here)))) (getMap sv (bfs (pS ys).f L (p0 ys) (i * L)) (p0 ys) (j := i) hlt)) ?_
    refine Wl.know 64 (v' := sv ((bfs (pS ys).f L (p0 ys) (i * L)).getD i (p0 ys))) rfl rfl ?_
    refine Wl.q rfl rfl (OpQ.move rfl) ?_
    refine Wl.q rfl rfl (OpQ.move rfl) ?_
    refine Wl.g rfl rfl (OpG.callX AK_go66 rfl (.cons .here .nil) (fun _ => (.cons .nil)) (fun w hH hp => unpack_spec w ((bfs (pS ys).f L (p0 ys) (i * L)).getD i (p0 ys)) (kps ys) ka kc b7 ys.length bf hp (Stays.rd (hH.staysK (.cons .here .nil) (.there (.there (.there (.there (.there (.there .here)))))))) hkl hlen0 (fun k hk => by rw [hbf]; exact kps_lt k hk))) ?_
    rintro _ _
    refine Wl.nil ?_
    refine PX.then_n ?_
    refine CT.seq ?_
    refine CT.draw' (Hc := [.row 4 1 (.slice (some ⟨b7, 0, none⟩) bf.length ys.length) bf.length ((unP (kps ys) ((bfs (pS ys).f L (p0 ys) (i * L)).getD i (p0 ys)) bf (kps ys).length).map bo), .row 113 3 (vb b32) 1 [.int .i64 ((L : Nat) : Int), .slice na' (i * L) nc', .slice fa' (i) fc']]) 15 AK_mixed ?_
    refine RA.q 0 (by kernel_rfl) rfl rfl rfl (.cons_cons _ (.cons _ (.cons _ (.cons_cons _ (.cons _ (.cons _ (.cons _ (.cons _ (.refl _))))))))) (OpQ.move rfl) ?_
    refine RA.q 1 (by kernel_rfl) rfl rfl rfl (.cons_cons _ (.cons _ (.cons _ (.cons_cons _ (.cons _ (.cons _ (.cons _ (.cons _ (.refl _))))))))) (OpQ.move rfl) ?_
    refine RA.q 2 (by kernel_rfl) rfl rfl rfl (.cons_cons _ (.cons _ (.cons _ (.cons_cons _ (.cons _ (.cons _ (.cons _ (.cons _ (.refl _))))))))) (OpQ.nilCheckP rfl) ?_
    refine RA.q 3 (by kernel_rfl) rfl rfl rfl (.cons_cons _ (.cons _ (.cons _ (.cons_cons _ (.cons _ (.cons _ (.cons _ (.cons _ (.refl _))))))))) (OpQ.fieldAddr AK_fa113_2 rfl) ?_
    refine RA.q 4 (by kernel_rfl) rfl rfl rfl (.cons_cons _ (.cons _ (.cons _ (.cons_cons _ (.cons _ (.cons _ (.cons _ (.cons _ (.refl _))))))))) (OpQ.loadF (b := b32) AK_sc49 rfl (by repeat (first | exact Has.here | apply Has.there)) (by rfl)) ?_
    refine RA.q 5 (by kernel_rfl) rfl rfl rfl (.cons_cons _ (.cons _ (.cons _ (.cons_cons _ (.cons _ (.cons _ (.cons _ (.cons _ (.refl _))))))))) (OpQ.move rfl) ?_
    refine RA.q 6 (by kernel_rfl) rfl rfl rfl (.cons_cons _ (.cons _ (.cons _ (.cons_cons _ (.cons _ (.cons _ (.cons _ (.cons _ (.refl _))))))))) (OpQ.move rfl) ?_
    refine RA.q 7 (by kernel_rfl) rfl rfl rfl (.cons_cons _ (.cons _ (.cons _ (.cons_cons _ (.cons _ (.cons _ (.cons _ (.cons _ (.refl _))))))))) (OpQ.len AK_un22 rfl) ?_
    refine RA.q 8 (by kernel_rfl) rfl rfl rfl (.cons_cons _ (.cons _ (.cons _ (.cons_cons _ (.cons _ (.cons _ (.cons _ (.cons _ (.refl _))))))))) (OpQ.sub rfl rfl (by omega)) ?_
    refine RA.know 76 (v' := .int .i64 (((ys.length - 1) : Nat) : Int)) rfl (congrArg (Value.int .i64) (by omega)) ?_
    refine RA.q 9 (by kernel_rfl) rfl rfl rfl (.cons_cons _ (.cons _ (.cons _ (.cons_cons _ (.cons _ (.cons _ (.cons _ (.cons _ (.refl _))))))))) (OpQ.index1 AK_un49 AK_sz4 rfl rfl (by omega) rfl) ?_
    refine RA.q 10 (by kernel_rfl) rfl rfl rfl (.cons_cons _ (.cons _ (.cons _ (.cons_cons _ (.cons _ (.cons _ (.cons _ (.cons _ (.refl _))))))))) (OpQ.loadRow AK_sc4 rfl .here (getMap bo (unP (kps ys) ((bfs (pS ys).f L (p0 ys) (i * L)).getD i (p0 ys)) bf (kps ys).length) false (j := ys.length - 1) (by rw [unP_len]; omega))) ?_
    refine RA.know 78 (v' := .bool ((pS ys).fin ((bfs (pS ys).f L (p0 ys) (i * L)).getD i (p0 ys)))) rfl (congrArg Value.bool (unP_fin h0 hbf)) ?_
    refine RA.f 11 (by kernel_rfl) rfl rfl rfl (OpG.lit1 AK_un49 AK_in4 rfl rfl rfl) (fun _ _ => (.cons _ (.cons_cons _ (.cons _ (.cons _ (.cons_cons _ (.cons _ (.cons _ (.cons _ (.cons _ (.refl _))))))))))) ?_
    rintro b79 _
    refine RA.f 12 (by kernel_rfl) rfl rfl rfl (OpG.append AK_un49 AK_in4 (by rfl) (by decide) rfl rfl (p := 2) rfl (fun w hH => hH.rd .here) ⟨rfl, (by simp [Value.oneCell']), (by omega), (by omega)⟩ (nm := i + 1) rfl (all := (fl ++ [(pS ys).fin ((bfs (pS ys).f L (p0 ys) (i * L)).getD i (p0 ys))]).map bo) (by simp)) (fun _ _ => (.cons _ (.cons_cons _ (.cons _ (.cons _ (.cons_cons _ (.cons _ (.cons _ (.cons _ (.cons _ (.refl _))))))))))) ?_
    rintro ⟨a80, c80⟩ h80
    refine RA.q 13 (by kernel_rfl) rfl rfl rfl (.cons _ (.cons_cons _ (.cons _ (.cons _ (.cons_cons _ (.cons _ (.cons _ (.cons _ (.cons _ (.refl _)))))))))) (OpQ.nilCheckP rfl) ?_
    refine RA.q 14 (by kernel_rfl) rfl rfl rfl (.cons _ (.cons_cons _ (.cons _ (.cons _ (.cons_cons _ (.cons _ (.cons _ (.cons _ (.cons _ (.refl _)))))))))) (OpQ.fieldAddr AK_fa113_2 rfl) ?_
    refine RA.tail ?_
    refine RT.f 15 (by kernel_rfl) rfl rfl rfl (OpG.storeRow (a := some ⟨b32, 0, none⟩) AK_sz49 rfl rfl rfl (by repeat (first | exact Upd.here | apply Upd.there)) (by simp)) ?_
    rintro _ _
    refine RT.done (by kernel_rfl) ?_
    refine PX.then_n ?_
    refine CT.seq ?_
    refine CT.region ?_
    refine Wl.q rfl rfl (OpQ.move rfl) ?_
    refine Wl.q rfl rfl (OpQ.move rfl) ?_
    refine Wl.nil ?_
    refine PX.then_n ?_
    refine CT.block ?_
    refine CT.as (fun _ h => h.take (.cons (.there .here) (.cons (.there .here) (.cons (.there .here) (.cons (.there .here) (.cons (.there .here) (.cons (.there .here) (.cons (.there .here) (.cons (.there .here) .nil))))))))) ?_
    refine CT.loop (ι := Nat × Option Addr × Nat × Option Addr × Nat × List Bool) (fun (x, a', c', na', nc', v) => x ≤ L ∧ v.length = ys.length) (fun (x, a', c', na', nc', v) => [(0, .slice a ys.length cp), (1, .int .i64 ((L : Nat) : Int)), (6, .slice ka (kps ys).length kc), (7, .slice (some ⟨b7, 0, none⟩) (unP (kps ys) ((bfs (pS ys).f L (p0 ys) (i * L)).getD i (p0 ys)) bf (kps ys).length).length ys.length), (8, .slice (some ⟨b8, 0, none⟩) ys.length ys.length), (9, .pointer (some ⟨b32, 0, none⟩)), (10, .slice a' (bfs (pS ys).f L (p0 ys) (i * L + x)).length c'), (11, .map (some b37)), (12, .int .i64 ((((i + 1) * (L * ys.length)) : Nat) : Int)), (13, .int .i64 ((i : Nat) : Int)), (83, .int .i64 ((L : Nat) : Int)), (84, .int .i64 ((x : Nat) : Int))]) (fun (x, a', c', na', nc', v) => [.row 4 1 (.slice (some ⟨b7, 0, none⟩) (unP (kps ys) ((bfs (pS ys).f L (p0 ys) (i * L)).getD i (p0 ys)) bf (kps ys).length).length ys.length) (unP (kps ys) ((bfs (pS ys).f L (p0 ys) (i * L)).getD i (p0 ys)) bf (kps ys).length).length ((unP (kps ys) ((bfs (pS ys).f L (p0 ys) (i * L)).getD i (p0 ys)) bf (kps ys).length).map bo), .row 4 1 (.slice a80 (i + 1) c80) (i + 1) ((fl ++ [(pS ys).fin ((bfs (pS ys).f L (p0 ys) (i * L)).getD i (p0 ys))]).map bo), .row 3 1 (.slice na' (i * L + x) nc') (i * L + x) ((xss.flatten ++ rowG (pS ys).f (bfs (pS ys).f L (p0 ys) (i * L + x)) ((bfs (pS ys).f L (p0 ys) (i * L)).getD i (p0 ys)) x).map zz), .row 113 3 (vb b32) 1 [.int .i64 ((L : Nat) : Int), .slice na' (i * L + x) nc', .slice a80 (i + 1) c80], .row 9 1 (.slice a' (bfs (pS ys).f L (p0 ys) (i * L + x)).length c') (bfs (pS ys).f L (p0 ys) (i * L + x)).length ((bfs (pS ys).f L (p0 ys) (i * L + x)).map sv), .blk b37 (mapO sv (itA 0 (bfs (pS ys).f L (p0 ys) (i * L + x)))), .row 4 1 (.slice (some ⟨b8, 0, none⟩) ys.length ys.length) ys.length (v.map bo), .row 3 1 (.slice ka (kps ys).length kc) (kps ys).length ((kps ys).map zn)]) (fun (x, a', c', na', nc', v) => L - x) (0, a', c', na', nc', v) ⟨Nat.zero_le _, hv⟩ ⟨rfl, rfl, rfl, (lkV rfl (by rw [unP_len])), rfl, rfl, rfl, rfl, rfl, rfl, rfl, rfl, trivial⟩ (by dsimp only; rw [unP_len, show rowG (pS ys).f (bfs (pS ys).f L (p0 ys) (i * L + 0)) ((bfs (pS ys).f L (p0 ys) (i * L)).getD i (p0 ys)) 0 = [] from rfl, List.append_nil]; exact HSub.refl _) (fun ⟨x, a', c', na', nc', v⟩ ⟨hx, hv⟩ K3 hK3 => ?_)
    dsimp only
    refine CT.seq ?_
    refine CT.region ?_
    refine Wl.q rfl rfl (OpQ.lss rfl rfl) ?_
    refine Wl.nil ?_
    refine PX.then_n ?_
    refine CT.seq ?_
    refine CT.cond rfl (fun h85 => ?_) (fun h85 => ?_)
    ·
     have h85 := of_decide_eq_true h85
     have hxl2 : x < L := by omega
     have h20x := h20 (i * L + x)
     have hiL : i * L ≤ 120000 := Nat.le_trans (Nat.mul_le_mul (show i ≤ 20000 by omega) hL.2) (by decide)
     have hb1 : (unP (kps ys) ((bfs (pS ys).f L (p0 ys) (i * L)).getD i (p0 ys)) bf (kps ys).length).length = ys.length := by rw [unP_len]; exact hbf
     have hxg := rowG_len (f := (pS ys).f) (bfs (pS ys).f L (p0 ys) (i * L + x)) ((bfs (pS ys).f L (p0 ys) (i * L)).getD i (p0 ys)) x
     refine CT.skip ?_
     refine PX.then_n ?_
     refine CT.seq ?_
     refine CT.block ?_
     refine CT.seq ?_
     refine CT.region ?_
     refine Wl.q rfl rfl (OpQ.move rfl) ?_
     refine Wl.q rfl rfl (OpQ.assign rfl) ?_
     refine Wl.nil ?_
     refine PX.then_n ?_
     refine CT.seq ?_
     refine CT.region ?_
     refine Wl.q rfl rfl (OpQ.move rfl) ?_
     refine Wl.q rfl rfl (OpQ.move rfl) ?_
     refine Wl.q rfl rfl (OpQ.move rfl) ?_
     refine Wl.q rfl rfl (OpQ.move rfl) ?_
     refine Wl.g rfl rfl (OpG.callU AK_go33 rfl (Upd.there (Upd.there (Upd.there (Upd.there (Upd.there (Upd.there Upd.here)))))) (fun w hH hown => evaluate_spec w a cp ys (hH.use hr) hl (x : Int) (some ⟨b7, 0, none⟩) (unP (kps ys) ((bfs (pS ys).f L (p0 ys) (i * L)).getD i (p0 ys)) bf (kps ys).length).length ys.length (unP (kps ys) ((bfs (pS ys).f L (p0 ys) (i * L)).getD i (p0 ys)) bf (kps ys).length) (hH.rd .here) (fun _ => rfl) (fun _ => hb1) hok (some ⟨b8, 0, none⟩) ys.length v hv hown (hH.sep0 rfl hr.now (.there (.there (.there (.there (.there (.there .here))))))) (hH.sep (.fst (.there (.there (.there (.there (.there .here))))))))) ?_
     rintro _ _
     refine Wl.nil ?_
     refine PX.then_n ?_
     refine CT.seq ?_
     refine CT.region ?_
     refine Wl.q rfl rfl (OpQ.move rfl) ?_
     refine Wl.q rfl rfl (OpQ.move rfl) ?_
     refine Wl.g rfl rfl (OpG.callV AK_go65 rfl (fun w hH => by have h := pack_spec w (kps ys) ka kc (Stays.rd (hH.staysK0 (.there (.there (.there (.there (.there (.there (.there .here))))))))) hkl (evL ys (x : Int) (unP (kps ys) ((bfs (pS ys).f L (p0 ys) (i * L)).getD i (p0 ys)) bf (kps ys).length) v ys.length) (some ⟨b8, 0, none⟩) ys.length (Stays.rd (hH.staysK0 (.there (.there (.there (.there (.there (.there .here)))))))) (fun k hk => by rw [evL_len, hv]; exact kps_lt k hk); rw [evL_len, hv] at h; exact h)) ?_
     rintro _ _
     refine Wl.know 94 (v' := sv ((pS ys).f ((bfs (pS ys).f L (p0 ys) (i * L)).getD i (p0 ys)) x)) rfl (congrArg sv (p_eval hok hbf hv x)) ?_
     refine Wl.q rfl rfl (OpQ.assign rfl) ?_
     refine Wl.nil ?_
     refine PX.then_n ?_
     refine CT.seq ?_
     refine CT.region ?_
     refine Wl.q rfl rfl (OpQ.move rfl) ?_
     refine Wl.q rfl rfl (OpQ.move rfl) ?_
     refine Wl.q rfl rfl (OpQ.lookup (f := sv) (x := ((pS ys).f ((bfs (pS ys).f L (p0 ys) (i * L)).getD i (p0 ys)) x)) (l := (itA 0 (bfs (pS ys).f L (p0 ys) (i * L + x)))) AK_mkS AK_un85 AK_in3 rfl rfl (by repeat (first | exact Has.here | apply Has.there)) (by rw [if_pos rfl, getA_itA, ix_val, ix_is])) ?_
     refine Wl.q rfl rfl (OpQ.move rfl) ?_
     refine Wl.q rfl rfl (OpQ.extract rfl rfl) ?_
     refine Wl.q rfl rfl (OpQ.extract rfl rfl) ?_
     refine Wl.q rfl rfl (OpQ.assign rfl) ?_
     refine Wl.q rfl rfl (OpQ.assign rfl) ?_
     refine Wl.nil ?_
     refine PX.then_n ?_
     refine CT.seq ?_
     refine CT.seq ?_
     refine CT.region ?_
     refine Wl.q rfl rfl (OpQ.move rfl) ?_
     refine Wl.q rfl rfl (OpQ.not rfl) ?_
     refine Wl.nil ?_
     refine PX.then_n ?_
     refine CT.cond rfl (fun h102 => ?_) (fun h102 => ?_)
     ·
      have hix : ixA ((pS ys).f ((bfs (pS ys).f L (p0 ys) (i * L)).getD i (p0 ys)) x) 0 (bfs (pS ys).f L (p0 ys) (i * L + x)) = none := by simpa using h102
      have hnx := ixA_none hix
      have hs2 : (bfs (pS ys).f L (p0 ys) (i * L + (x + 1))) = (bfs (pS ys).f L (p0 ys) (i * L + x)) ++ [((pS ys).f ((bfs (pS ys).f L (p0 ys) (i * L)).getD i (p0 ys)) x)] := by rw [show i * L + (x + 1) = i * L + x + 1 from rfl, bfs_addx hxl2 hlt, addN_out hnx]
      have hrow : (xss.flatten ++ rowG (pS ys).f (bfs (pS ys).f L (p0 ys) (i * L + x)) ((bfs (pS ys).f L (p0 ys) (i * L)).getD i (p0 ys)) x).map zz ++ [.int .i64 (((bfs (pS ys).f L (p0 ys) (i * L + x)).length : Nat) : Int)] = (xss.flatten ++ rowG (pS ys).f (bfs (pS ys).f L (p0 ys) (i * L + (x + 1))) ((bfs (pS ys).f L (p0 ys) (i * L)).getD i (p0 ys)) (x + 1)).map zz := by rw [← rowG_put (l := (bfs (pS ys).f L (p0 ys) (i * L + x))) (m := (bfs (pS ys).f L (p0 ys) (i * L + (x + 1)))) ⟨_, hs2⟩ (bfs_row_mem (Nat.le_of_lt hxl2) hlt) (v := (((bfs (pS ys).f L (p0 ys) (i * L + x)).length : Nat) : Int)) (by rw [hs2, idxOf_out hnx]; simp), ← List.append_assoc]; exact (List.map_append (f := zz) (l₂ := [_])).symm
      refine CT.seq ?_
      refine CT.seq ?_
      refine CT.region ?_
      refine Wl.q rfl rfl (OpQ.move rfl) ?_
      refine Wl.q rfl rfl (OpQ.len AK_un43 rfl) ?_
      refine Wl.q rfl rfl (OpQ.eql rfl rfl) ?_
      refine Wl.know 105 (v' := .bool false) rfl (congrArg Value.bool (decide_eq_false (by omega))) ?_
      refine Wl.nil ?_
      refine PX.then_n ?_
      refine CT.condF rfl ?_
      refine CT.skip ?_
      refine PX.then_n ?_
      refine CT.seq ?_
      refine CT.region ?_
      refine Wl.q rfl rfl (OpQ.move rfl) ?_
      refine Wl.q rfl rfl (OpQ.len AK_un43 rfl) ?_
      refine Wl.q rfl rfl (OpQ.assign rfl) ?_
      refine Wl.nil ?_
      refine PX.then_n ?_
      refine CT.seq ?_
      refine CT.region ?_
      refine Wl.q rfl rfl (OpQ.move rfl) ?_
      refine Wl.q rfl rfl (OpQ.move rfl) ?_
      refine Wl.q rfl rfl (OpQ.move rfl) ?_
      refine Wl.g rfl rfl (OpG.mapNew (f := sv) (x := ((pS ys).f ((bfs (pS ys).f L (p0 ys) (i * L)).getD i (p0 ys)) x)) (l := (itA 0 (bfs (pS ys).f L (p0 ys) (i * L + x)))) AK_mkS AK_un85 rfl rfl rfl (by rw [getA_itA, hix]; rfl) (by repeat (first | exact Upd.here | apply Upd.there))) ?_
      rintro _ _
      refine Wl.nil ?_
      refine PX.then_n ?_
      refine CT.region ?_
      refine Wl.q rfl rfl (OpQ.move rfl) ?_
      refine Wl.q rfl rfl (OpQ.move rfl) ?_
      refine Wl.g rfl rfl (OpG.lit1 AK_un43 AK_in9 rfl rfl rfl) ?_
      rintro b113 _
      refine Wl.g rfl rfl (OpG.append AK_un43 AK_in9 (by rfl) (by decide) rfl rfl (p := 5) rfl (fun w hH => hH.rd .here) ⟨rfl, (by simp [Value.oneCell']), (by omega), (by omega)⟩ (nm := ((bfs (pS ys).f L (p0 ys) (i * L + x)).length + 1)) rfl (all := ((bfs (pS ys).f L (p0 ys) (i * L + x)) ++ [((pS ys).f ((bfs (pS ys).f L (p0 ys) (i * L)).getD i (p0 ys)) x)]).map sv) (by simp)) ?_
      rintro ⟨a114, c114⟩ h114
      refine Wl.q rfl rfl (OpQ.assign rfl) ?_
      refine Wl.nil ?_
      refine PX.then_n ?_
      refine CT.region ?_
      refine Wl.q rfl rfl (OpQ.move rfl) ?_
      refine Wl.q rfl rfl (OpQ.move rfl) ?_
      refine Wl.q rfl rfl (OpQ.nilCheckP rfl) ?_
      refine Wl.q rfl rfl (OpQ.fieldAddr AK_fa113_1 rfl) ?_
      refine Wl.q rfl rfl (OpQ.loadF (b := b32) AK_sc25 rfl (by repeat (first | exact Has.here | apply Has.there)) (by rfl)) ?_
      refine Wl.q rfl rfl (OpQ.move rfl) ?_
      refine Wl.g rfl rfl (OpG.lit1 AK_un25 AK_in3 rfl rfl rfl) ?_
      rintro b121 _
      refine Wl.g rfl rfl (OpG.append AK_un25 AK_in3 (by rfl) (by decide) rfl rfl (p := 4) rfl (fun w hH => hH.rd .here) ⟨rfl, (by simp [Value.oneCell']), (by omega), (by omega)⟩ (nm := i * L + x + 1) rfl (all := (xss.flatten ++ rowG (pS ys).f (bfs (pS ys).f L (p0 ys) (i * L + (x + 1))) ((bfs (pS ys).f L (p0 ys) (i * L)).getD i (p0 ys)) (x + 1)).map zz) hrow) ?_
      rintro ⟨a122, c122⟩ h122
      refine Wl.q rfl rfl (OpQ.nilCheckP rfl) ?_
      refine Wl.q rfl rfl (OpQ.fieldAddr AK_fa113_1 rfl) ?_
      refine Wl.g rfl rfl (OpG.storeRow (a := some ⟨b32, 0, none⟩) AK_sz25 rfl rfl rfl (by repeat (first | exact Upd.here | apply Upd.there)) (by simp)) ?_
      rintro _ _
      refine Wl.nil ?_
      refine PX.block_n ?_
      refine PX.then_n ?_
      refine CT.region ?_
      refine Wl.q rfl rfl (OpQ.add rfl rfl (by omega)) ?_
      refine Wl.q rfl rfl (OpQ.move rfl) ?_
      refine Wl.nil ?_
      refine PX.as (fun _ h => h.take (.cons (.there (.there .here)) (.cons (.there (.there .here)) (.cons (.there (.there .here)) (.cons (.there (.there .here)) (.cons (.there (.there .here)) (.cons (.there (.there .here)) (.cons (.there (.there .here)) (.cons (.there (.there .here)) .nil))))))))) ?_
      exact PX.loop hK3 (x + 1, a114, c114, a122, c122, evL ys (x : Int) (unP (kps ys) ((bfs (pS ys).f L (p0 ys) (i * L)).getD i (p0 ys)) bf (kps ys).length) v ys.length) ⟨by omega, by show (evL _ _ _ _ _).length = _; rw [evL_len]; exact hv⟩ (show L - (x + 1) < L - x by omega) ⟨rfl, rfl, rfl, rfl, rfl, rfl, (lkV rfl (by rw [hs2, List.length_append]; rfl)), rfl, rfl, rfl, rfl, rfl, trivial⟩ (by dsimp only; rw [hs2, itA_snoc, List.length_append, Nat.zero_add]; exact HSub.refl _)
     ·
      have hix : ¬ ixA ((pS ys).f ((bfs (pS ys).f L (p0 ys) (i * L)).getD i (p0 ys)) x) 0 (bfs (pS ys).f L (p0 ys) (i * L + x)) = none := by intro h; rw [h] at h102; simp at h102
      obtain ⟨hx1, hx2⟩ := ix_in hix
      have hs2 : (bfs (pS ys).f L (p0 ys) (i * L + (x + 1))) = (bfs (pS ys).f L (p0 ys) (i * L + x)) := by rw [show i * L + (x + 1) = i * L + x + 1 from rfl, bfs_addx hxl2 hlt, hx1]
      have hrow : (xss.flatten ++ rowG (pS ys).f (bfs (pS ys).f L (p0 ys) (i * L + x)) ((bfs (pS ys).f L (p0 ys) (i * L)).getD i (p0 ys)) x).map zz ++ [.int .i64 (((ixA ((pS ys).f ((bfs (pS ys).f L (p0 ys) (i * L)).getD i (p0 ys)) x) 0 (bfs (pS ys).f L (p0 ys) (i * L + x))).getD 0 : Nat) : Int)] = (xss.flatten ++ rowG (pS ys).f (bfs (pS ys).f L (p0 ys) (i * L + (x + 1))) ((bfs (pS ys).f L (p0 ys) (i * L)).getD i (p0 ys)) (x + 1)).map zz := by rw [← rowG_put (l := (bfs (pS ys).f L (p0 ys) (i * L + x))) (m := (bfs (pS ys).f L (p0 ys) (i * L + (x + 1)))) ⟨[], by rw [hs2, List.append_nil]⟩ (bfs_row_mem (Nat.le_of_lt hxl2) hlt) (v := (((ixA ((pS ys).f ((bfs (pS ys).f L (p0 ys) (i * L)).getD i (p0 ys)) x) 0 (bfs (pS ys).f L (p0 ys) (i * L + x))).getD 0 : Nat) : Int)) (by rw [hx2, addN_idx, hx1, hs2]), ← List.append_assoc]; exact (List.map_append (f := zz) (l₂ := [_])).symm
      refine CT.skip ?_
      refine PX.then_n ?_
      refine CT.region ?_
      refine Wl.q rfl rfl (OpQ.move rfl) ?_
      refine Wl.q rfl rfl (OpQ.move rfl) ?_
      refine Wl.q rfl rfl (OpQ.nilCheckP rfl) ?_
      refine Wl.q rfl rfl (OpQ.fieldAddr AK_fa113_1 rfl) ?_
      refine Wl.q rfl rfl (OpQ.loadF (b := b32) AK_sc25 rfl (by repeat (first | exact Has.here | apply Has.there)) (by rfl)) ?_
      refine Wl.q rfl rfl (OpQ.move rfl) ?_
      refine Wl.g rfl rfl (OpG.lit1 AK_un25 AK_in3 rfl rfl rfl) ?_
      rintro b121 _
      refine Wl.g rfl rfl (OpG.append AK_un25 AK_in3 (by rfl) (by decide) rfl rfl (p := 3) rfl (fun w hH => hH.rd .here) ⟨rfl, (by simp [Value.oneCell']), (by omega), (by omega)⟩ (nm := i * L + x + 1) rfl (all := (xss.flatten ++ rowG (pS ys).f (bfs (pS ys).f L (p0 ys) (i * L + (x + 1))) ((bfs (pS ys).f L (p0 ys) (i * L)).getD i (p0 ys)) (x + 1)).map zz) hrow) ?_
      rintro ⟨a122, c122⟩ h122
      refine Wl.q rfl rfl (OpQ.nilCheckP rfl) ?_
      refine Wl.q rfl rfl (OpQ.fieldAddr AK_fa113_1 rfl) ?_
      refine Wl.g rfl rfl (OpG.storeRow (a := some ⟨b32, 0, none⟩) AK_sz25 rfl rfl rfl (by repeat (first | exact Upd.here | apply Upd.there)) (by simp)) ?_
      rintro _ _
      refine Wl.nil ?_
      refine PX.block_n ?_
      refine PX.then_n ?_
      refine CT.region ?_
      refine Wl.q rfl rfl (OpQ.add rfl rfl (by omega)) ?_
      refine Wl.q rfl rfl (OpQ.move rfl) ?_
      refine Wl.nil ?_
      refine PX.as (fun _ h => h.take (.cons (.there .here) (.cons (.there .here) (.cons (.there .here) (.cons (.there .here) (.cons (.there .here) (.cons (.there .here) (.cons (.there .here) (.cons (.there .here) .nil))))))))) ?_
      exact PX.loop hK3 (x + 1, a', c', a122, c122, evL ys (x : Int) (unP (kps ys) ((bfs (pS ys).f L (p0 ys) (i * L)).getD i (p0 ys)) bf (kps ys).length) v ys.length) ⟨by omega, by show (evL _ _ _ _ _).length = _; rw [evL_len]; exact hv⟩ (show L - (x + 1) < L - x by omega) ⟨rfl, rfl, rfl, rfl, rfl, rfl, (lkV rfl (by rw [hs2])), rfl, rfl, rfl, rfl, rfl, trivial⟩ (by dsimp only; rw [hs2]; exact HSub.refl _)
    ·
     have h85 := of_decide_eq_false h85
     obtain rfl : L = x := by omega
     have hrows2 := (hrows.grow hi (bfs_pre (i * L) L)).snoc (fun y hy => by rw [bfs_get (show i * L ≤ i * L + L by omega) hlt]; exact bfs_row_mem (Nat.le_refl _) hlt y hy)
     rw [bfs_get (show i * L ≤ i * L + L by omega) hlt] at hrows2
     refine CT.exit ?_
     refine PX.then_x ?_
     refine PX.then_x ?_
     refine PX.block_x ?_
     refine PX.block_n ?_
     refine PX.then_n ?_
     refine CT.region ?_
     refine Wl.q rfl rfl (OpQ.move rfl) ?_
     refine Wl.q rfl rfl (OpQ.add rfl rfl (by omega)) ?_
     refine Wl.q rfl rfl (OpQ.assign rfl) ?_
     refine Wl.nil ?_
     exact PX.loop hK1 (i + 1, a', c', a80, c80, na', nc', (fl ++ [(pS ys).fin ((bfs (pS ys).f L (p0 ys) (i * L)).getD i (p0 ys))]), xss ++ [rowG (pS ys).f (bfs (pS ys).f L (p0 ys) (i * L + L)) ((bfs (pS ys).f L (p0 ys) (i * L)).getD i (p0 ys)) L], (unP (kps ys) ((bfs (pS ys).f L (p0 ys) (i * L)).getD i (p0 ys)) bf (kps ys).length), v) ⟨hg.next hlt, by have := bfs_le (f := (pS ys).f) (L := L) (s := (p0 ys)) (show i * L ≤ (i + 1) * L by rw [Nat.add_mul]; omega); omega, fl_next hfl hlt bfs_succ_row, by rw [Nat.add_mul, Nat.one_mul]; rw [← rowG_full] at hrows2; exact hrows2, by rw [unP_len]; exact hbf, hv⟩ (show 20000 - (i + 1) < 20000 - i by omega) ⟨rfl, rfl, rfl, rfl, rfl, rfl, (lkV rfl (by rw [Nat.add_mul, Nat.one_mul])), rfl, rfl, rfl, trivial⟩ (by dsimp only; rw [Nat.add_mul, Nat.one_mul, List.flatten_append]; simp only [List.flatten_cons, List.flatten_nil, List.append_nil]; exact HSub.refl _)
  ·
   have h45 := of_decide_eq_false h45
   refine CT.exit ?_
   refine PX.then_x ?_
   refine PX.then_x ?_
   refine PX.block_x ?_
   refine PX.then_n ?_
   refine CT.seq ?_
   refine CT.region ?_
   refine Wl.q rfl rfl (OpQ.move rfl) ?_
   refine Wl.q rfl rfl (OpQ.assign rfl) ?_
   refine Wl.q rfl rfl (OpQ.assign rfl) ?_
   refine Wl.nil ?_
   refine PX.then_n ?_
   refine CT.ret ?_
   refine PX.ret2 rfl rfl rfl (fun w' hH => ?_)
   have hii : i = (bfs (pS ys).f L (p0 ys) (i * L)).length := by omega
   have hfin : fl = (autoD (pS ys).f L (p0 ys) (i * L) (pS ys).fin).fin := by
    rw [hfl, List.take_of_length_le (Nat.le_of_eq hii.symm)]; rfl
   have hK := Done.of hL.1 hg hii
   have hxss : xss.flatten = dfl (autoD (pS ys).f L (p0 ys) (i * L) (pS ys).fin) := congrArg List.flatten (hrows.auto' hii (pS ys).fin)
   have hn1 : (dfl (autoD (pS ys).f L (p0 ys) (i * L) (pS ys).fin)).length = i * L := by rw [← hxss]; exact hxl
   have hn2 : (autoD (pS ys).f L (p0 ys) (i * L) (pS ys).fin).n = i := by rw [autoD_n]; exact hii.symm
   exact ⟨(i * L, b32, na', nc', fa', fc'), hK, rfl, (hH.take (.cons (.there (.there (.there .here))) (.cons (.there (.there .here)) (.cons (.there .here) .nil)))).post.conv (by dsimp only; rw [hn1, hn2, ← hxss, ← hfin]; exact HSub.refl _)⟩

end Go.Proofs.Ytlmbcdjmdgbmjaa

