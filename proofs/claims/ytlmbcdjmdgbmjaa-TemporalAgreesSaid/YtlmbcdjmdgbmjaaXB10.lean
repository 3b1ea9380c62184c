/-
  What functions of the program compute, each by its walk. Conditions: those that each theorem names.
-/
import Derived.Test.YtlmbcdjmdgbmjaaMod
import Derived.Test.YtlmbcdjmdgbmjaaXB9
set_option linter.unusedSimpArgs false
namespace Go.Proofs.Ytlmbcdjmdgbmjaa
open Go Go.Eng Go.Am
open Go.Tl (mayL bo Tm tv t0 tv_len okL vdF evL Wd)

theorem AJ_un22 : Try.prog.underlying 22 = some (.slice 31) := by kernel_rfl
theorem AJ_un49 : Try.prog.underlying 49 = some (.slice 4) := by kernel_rfl
theorem AJ_in4 : (Try.prog.info? 4).map (fun i => (i.zero, i.size, i.bytes)) = some (some (.bool false), 1, 1) := by kernel_rfl
theorem AJ_sz4 : sizeB Try.prog 4 = some 1 := by kernel_rfl
theorem AJ_sz31 : sizeB Try.prog 31 = some 4 := by kernel_rfl
theorem AJ_ag31 : isAggB Try.prog 31 = some true := by kernel_rfl
theorem AJ_in31 : (Try.prog.info? 31).map (fun i => (i.zero, i.size, i.bytes)) = some (some (.agg #[.int .i64 0, .int .i64 0, .int .i64 0, .int .i64 0]), 4, 32) := by kernel_rfl
theorem AJ_fa31_0 : fieldB Try.prog 31 0 = some 0 := by kernel_rfl
theorem AJ_sc3 : scalarB Try.prog 3 = some true := by kernel_rfl
theorem AJ_fa31_2 : fieldB Try.prog 31 2 = some 2 := by kernel_rfl
theorem AJ_sc4 : scalarB Try.prog 4 = some true := by kernel_rfl
theorem AJ_un25 : Try.prog.underlying 25 = some (.slice 3) := by kernel_rfl
theorem AJ_in3 : (Try.prog.info? 3).map (fun i => (i.zero, i.size, i.bytes)) = some (some (.int .i64 0), 1, 8) := by kernel_rfl
set_option maxRecDepth 100000 in
/-- semigroup/temporal.keep -/
theorem keep_spec (w : World) (a : Option Addr) (cp : Nat) (xs : List Tm) (hr : Stays [] w (fun w => Rd w a (xs.flatMap tv))) (hl : xs.length ≤ 200000) (h0 : 0 < xs.length) (hok : okL xs 6 = true) : Calls Try.prog 64 #[.slice a xs.length cp] w (fun e w' => ∃ i : Option Addr × Nat, True ∧ e = .returned (.slice i.1 (kps xs).length i.2) ∧ Post [] [.row 3 1 (.slice i.1 (kps xs).length i.2) (kps xs).length ((kps xs).map zn)] w w') := by
 have sm : 0 < xs.length → a.isSome = true := fun h => hr.now.isSome (j := 0) (by rw [flat_len tv_len]; omega)
 refine enter (args := [.slice a xs.length cp]) [] 52 Try.func64 rfl rfl rfl ?_
 refine CT.seq ?_
 refine CT.region ?_
 refine Wl.q rfl rfl (OpQ.assign rfl) ?_
 refine Wl.nil ?_
 refine PX.then_n ?_
 refine CT.seq ?_
 refine CT.region ?_
 refine Wl.q rfl rfl (OpQ.move rfl) ?_
 refine Wl.q rfl rfl (OpQ.len AJ_un22 rfl) ?_
 refine Wl.g rfl rfl (OpG.make1 AJ_un49 AJ_in4 rfl rfl rfl rfl (by omega) (by omega)) ?_
 rintro b11 _
 refine Wl.q rfl rfl (OpQ.assign rfl) ?_
 refine Wl.nil ?_
 refine PX.then_n ?_
 refine CT.seq ?_
 refine CT.region ?_
 refine Wl.q rfl rfl (OpQ.move rfl) ?_
 refine Wl.q rfl rfl (OpQ.move rfl) ?_
 refine Wl.q rfl rfl (OpQ.len AJ_un22 rfl) ?_
 refine Wl.q rfl rfl (OpQ.sub rfl rfl (by omega)) ?_
 refine Wl.know 15 (v' := .int .i64 (((xs.length - 1) : Nat) : Int)) rfl (congrArg (Value.int .i64) (by omega)) ?_
 refine Wl.q rfl rfl (OpQ.index1 AJ_un49 AJ_sz4 rfl rfl (by omega) rfl) ?_
 refine Wl.g rfl rfl (OpG.storeRow AJ_sz4 rfl rfl rfl .here (by rw [List.length_replicate]; omega)) ?_
 rintro _ _
 refine Wl.nil ?_
 refine PX.then_n ?_
 refine CT.seq ?_
 refine CT.seq ?_
 refine CT.region ?_
 refine Wl.q rfl rfl (OpQ.move rfl) ?_
 refine Wl.q rfl rfl (OpQ.len AJ_un22 rfl) ?_
 refine Wl.q rfl rfl (OpQ.move rfl) ?_
 refine Wl.nil ?_
 refine PX.then_n ?_
 refine CT.block ?_
 refine CT.loop (ι := Nat) (fun i => i ≤ xs.length) (fun i => [(3, .slice (some ⟨b11, 0, none⟩) xs.length xs.length), (17, .slice a xs.length cp), (18, .int .i64 ((xs.length : Nat) : Int)), (19, .int .i64 ((i : Nat) : Int))]) (fun i => [.row 4 1 (.slice (some ⟨b11, 0, none⟩) xs.length xs.length) xs.length ((kpR xs i).map bo)]) (fun i => xs.length - i) 0 (Nat.zero_le _) ⟨rfl, rfl, rfl, rfl, trivial⟩ (.keep (row_eq (kpR_start xs).symm) (HSub.refl _)) (fun i hi K0 hK0 => ?_)
 refine CT.seq ?_
 refine CT.region ?_
 refine Wl.q rfl rfl (OpQ.lss rfl rfl) ?_
 refine Wl.nil ?_
 refine PX.then_n ?_
 refine CT.seq ?_
 refine CT.cond rfl (fun h20 => ?_) (fun h20 => ?_)
 ·
  have h20 := of_decide_eq_true h20
  have hil : i < xs.length := by omega
  have hoki := Go.Tl.okL_get hok hil
  refine CT.skip ?_
  refine PX.then_n ?_
  refine CT.seq ?_
  refine CT.block ?_
  refine CT.seq ?_
  refine CT.region ?_
  refine Wl.q rfl rfl (OpQ.move rfl) ?_
  refine Wl.q rfl rfl (OpQ.index AJ_un22 AJ_sz31 rfl rfl (by omega) (sm (by omega))) ?_
  refine Wl.q rfl rfl (OpQ.loadAggG (cs := (tv (xs.getD i t0))) AJ_ag31 AJ_sz31 rfl (fun w hH => hH.use hr) (flat_cells tv_len xs t0 (by omega))) ?_
  refine Wl.g rfl rfl (OpG.alloc (zs := [.int .i64 0, .int .i64 0, .int .i64 0, .int .i64 0]) AJ_in31 rfl rfl) ?_
  rintro b5 _
  refine Wl.q rfl rfl (OpQ.assign rfl) ?_
  refine Wl.g rfl rfl (OpG.storeV (b := b5) AJ_sz31 rfl rfl rfl rfl (by repeat (first | exact Upd.here | apply Upd.there))) ?_
  rintro _ _
  refine Wl.nil ?_
  refine PX.then_n ?_
  refine CT.seq ?_
  refine CT.region ?_
  refine Wl.q rfl rfl (OpQ.fieldAddr AJ_fa31_0 rfl) ?_
  refine Wl.q rfl rfl (OpQ.loadF (b := b5) AJ_sc3 rfl (by repeat (first | exact Has.here | apply Has.there)) (by rfl)) ?_
  refine Wl.nil ?_
  refine PX.then_n ?_
  refine CT.block ?_
  refine CT.seq ?_
  refine CT.region ?_
  refine Wl.q rfl rfl (OpQ.eql rfl rfl) ?_
  refine Wl.q rfl rfl (OpQ.assign rfl) ?_
  refine Wl.nil ?_
  refine PX.then_n ?_
  refine CT.cond rfl (fun h26 => ?_) (fun h26 => ?_)
  ·
   have h26 := of_decide_eq_true h26
   have ha7 := Go.Tl.ok_a hoki (by omega)
   refine CT.region ?_
   refine Wl.q rfl rfl (OpQ.move rfl) ?_
   refine Wl.q rfl rfl (OpQ.fieldAddr AJ_fa31_2 rfl) ?_
   refine Wl.q rfl rfl (OpQ.loadF (b := b5) AJ_sc3 rfl (by repeat (first | exact Has.here | apply Has.there)) (by rfl)) ?_
   refine Wl.q rfl rfl (OpQ.index1 AJ_un49 AJ_sz4 rfl rfl (by omega) rfl) ?_
   refine Wl.g rfl rfl (OpG.storeRow AJ_sz4 rfl rfl rfl (.there .here) (by rw [List.length_map, kpR_len]; omega)) ?_
   rintro _ _
   refine Wl.nil ?_
   refine PX.block_n ?_
   refine PX.block_n ?_
   refine PX.then_n ?_
   refine CT.region ?_
   refine Wl.q rfl rfl (OpQ.add rfl rfl (by omega)) ?_
   refine Wl.q rfl rfl (OpQ.move rfl) ?_
   refine Wl.nil ?_
   refine PX.as (fun _ h => h.take (.cons (.there .here) .nil)) ?_
   exact PX.loop hK0 (i + 1) (by omega) (by first | omega | (dsimp only; omega)) ⟨rfl, rfl, rfl, rfl, trivial⟩ (.keep (row_eq (kpR_put7 h26).symm) (HSub.refl _))
  ·
   have h26 := of_decide_eq_false h26
   refine CT.seq ?_
   refine CT.region ?_
   refine Wl.q rfl rfl (OpQ.eql rfl rfl) ?_
   refine Wl.q rfl rfl (OpQ.assign rfl) ?_
   refine Wl.nil ?_
   refine PX.then_n ?_
   refine CT.cond rfl (fun h32 => ?_) (fun h32 => ?_)
   ·
    have h32 := of_decide_eq_true h32
    refine CT.region ?_
    refine Wl.q rfl rfl (OpQ.move rfl) ?_
    refine Wl.q rfl rfl (OpQ.move rfl) ?_
    refine Wl.q rfl rfl (OpQ.index1 AJ_un49 AJ_sz4 rfl rfl (by omega) rfl) ?_
    refine Wl.g rfl rfl (OpG.storeRow AJ_sz4 rfl rfl rfl (.there .here) (by rw [List.length_map, kpR_len]; omega)) ?_
    rintro _ _
    refine Wl.nil ?_
    refine PX.block_n ?_
    refine PX.block_n ?_
    refine PX.then_n ?_
    refine CT.region ?_
    refine Wl.q rfl rfl (OpQ.add rfl rfl (by omega)) ?_
    refine Wl.q rfl rfl (OpQ.move rfl) ?_
    refine Wl.nil ?_
    refine PX.as (fun _ h => h.take (.cons (.there .here) .nil)) ?_
    exact PX.loop hK0 (i + 1) (by omega) (by first | omega | (dsimp only; omega)) ⟨rfl, rfl, rfl, rfl, trivial⟩ (.keep (row_eq (kpR_put8 h32).symm) (HSub.refl _))
   ·
    have h32 := of_decide_eq_false h32
    refine CT.skip ?_
    refine PX.block_n ?_
    refine PX.block_n ?_
    refine PX.then_n ?_
    refine CT.region ?_
    refine Wl.q rfl rfl (OpQ.add rfl rfl (by omega)) ?_
    refine Wl.q rfl rfl (OpQ.move rfl) ?_
    refine Wl.nil ?_
    refine PX.as (fun _ h => h.take (.cons (.there .here) .nil)) ?_
    exact PX.loop hK0 (i + 1) (by omega) (by first | omega | (dsimp only; omega)) ⟨rfl, rfl, rfl, rfl, trivial⟩ (.keep (row_eq (by rw [kpR_none h26 h32])) (HSub.refl _))
 ·
  have h20 := of_decide_eq_false h20
  refine CT.exit ?_
  refine PX.then_x ?_
  refine PX.then_x ?_
  refine PX.block_x ?_
  refine PX.then_n ?_
  refine CT.seq ?_
  refine CT.region ?_
  refine Wl.q rfl rfl (OpQ.assign rfl) ?_
  refine Wl.nil ?_
  refine PX.then_n ?_
  refine CT.seq ?_
  refine CT.seq ?_
  refine CT.region ?_
  refine Wl.q rfl rfl (OpQ.move rfl) ?_
  refine Wl.q rfl rfl (OpQ.len AJ_un49 rfl) ?_
  refine Wl.q rfl rfl (OpQ.move rfl) ?_
  refine Wl.nil ?_
  refine PX.then_n ?_
  refine CT.block ?_
  obtain rfl : i = xs.length := by omega
  refine CT.nilrow 3 1 ?_
  refine CT.loop (ι := Nat × Option Addr × Nat) (fun (j, sa, sc) => j ≤ xs.length) (fun (j, sa, sc) => [(3, .slice (some ⟨b11, 0, none⟩) xs.length xs.length), (6, .slice sa (kpl xs j).length sc), (38, .slice (some ⟨b11, 0, none⟩) xs.length xs.length), (39, .int .i64 ((xs.length : Nat) : Int)), (40, .int .i64 ((j : Nat) : Int))]) (fun (j, sa, sc) => [.row 3 1 (.slice sa (kpl xs j).length sc) (kpl xs j).length ((kpl xs j).map zn), .row 4 1 (.slice (some ⟨b11, 0, none⟩) xs.length xs.length) xs.length ((kpR xs xs.length).map bo)]) (fun (j, sa, sc) => xs.length - j) (0, none, 0) (Nat.zero_le _) ⟨rfl, rfl, rfl, rfl, rfl, trivial⟩ (HSub.refl _) (fun ⟨j, sa, sc⟩ hj K1 hK1 => ?_)
  dsimp only
  refine CT.seq ?_
  refine CT.region ?_
  refine Wl.q rfl rfl (OpQ.lss rfl rfl) ?_
  refine Wl.nil ?_
  refine PX.then_n ?_
  refine CT.seq ?_
  refine CT.cond rfl (fun h41 => ?_) (fun h41 => ?_)
  ·
   have h41 := of_decide_eq_true h41
   have hjl : j < xs.length := by omega
   have hkl := kpl_len xs j
   refine CT.skip ?_
   refine PX.then_n ?_
   refine CT.seq ?_
   refine CT.block ?_
   refine CT.seq ?_
   refine CT.region ?_
   refine Wl.q rfl rfl (OpQ.move rfl) ?_
   refine Wl.q rfl rfl (OpQ.index1 AJ_un49 AJ_sz4 rfl rfl (by omega) rfl) ?_
   refine Wl.q rfl rfl (OpQ.loadRow AJ_sc4 rfl (.there .here) (getMap bo (kpR xs xs.length) false (j := j) (by rw [kpR_len]; exact hjl))) ?_
   refine Wl.know 44 (v' := .bool (kpB xs xs.length j)) rfl (congrArg Value.bool (kpR_get hjl)) ?_
   refine Wl.q rfl rfl (OpQ.assign rfl) ?_
   refine Wl.q rfl rfl (OpQ.assign rfl) ?_
   refine Wl.nil ?_
   refine PX.then_n ?_
   refine CT.seq ?_
   refine CT.region ?_
   refine Wl.q rfl rfl (OpQ.move rfl) ?_
   refine Wl.nil ?_
   refine PX.then_n ?_
   refine CT.cond rfl (fun h45 => ?_) (fun h45 => ?_)
   ·
    refine CT.region ?_
    refine Wl.q rfl rfl (OpQ.move rfl) ?_
    refine Wl.q rfl rfl (OpQ.move rfl) ?_
    refine Wl.g rfl rfl (OpG.lit1 AJ_un25 AJ_in3 rfl rfl rfl) ?_
    rintro b48 _
    refine Wl.g rfl rfl (OpG.append AJ_un25 AJ_in3 (by rfl) (by decide) rfl rfl (p := 1) rfl (fun w hH => hH.rd .here) ⟨rfl, (by simp [Value.oneCell']), by omega, by omega⟩ (nm := ((kpl xs j).length + 1)) rfl (all := (kpl xs j ++ [j]).map zn) (by simp)) ?_
    rintro ⟨a49, c49⟩ h49
    refine Wl.q rfl rfl (OpQ.assign rfl) ?_
    refine Wl.nil ?_
    refine PX.block_n ?_
    refine PX.then_n ?_
    refine CT.region ?_
    refine Wl.q rfl rfl (OpQ.add rfl rfl (by omega)) ?_
    refine Wl.q rfl rfl (OpQ.move rfl) ?_
    refine Wl.nil ?_
    have hks := kpl_s xs j
    rw [if_pos h45] at hks
    refine PX.as (fun _ h => h.take (.cons (.there .here) (.cons (.there .here) .nil))) ?_
    exact PX.loop hK1 (j + 1, a49, c49) (by omega) (show xs.length - (j + 1) < xs.length - j by omega) ⟨rfl, (lkV rfl (by rw [hks, List.length_append]; rfl)), rfl, rfl, rfl, trivial⟩ (by dsimp only; rw [hks, List.length_append]; exact HSub.refl _)
   ·
    refine CT.skip ?_
    refine PX.block_n ?_
    refine PX.then_n ?_
    refine CT.region ?_
    refine Wl.q rfl rfl (OpQ.add rfl rfl (by omega)) ?_
    refine Wl.q rfl rfl (OpQ.move rfl) ?_
    refine Wl.nil ?_
    have hks := kpl_s xs j
    rw [if_neg (by rw [h45]; decide)] at hks
    exact PX.loop hK1 (j + 1, sa, sc) (by omega) (show xs.length - (j + 1) < xs.length - j by omega) ⟨rfl, (lkV rfl (by rw [hks])), rfl, rfl, rfl, trivial⟩ (by dsimp only; rw [hks]; exact HSub.refl _)
  ·
   have h41 := of_decide_eq_false h41
   obtain rfl : j = xs.length := by omega
   refine CT.exit ?_
   refine PX.then_x ?_
   refine PX.then_x ?_
   refine PX.block_x ?_
   refine PX.then_n ?_
   refine CT.seq ?_
   refine CT.region ?_
   refine Wl.q rfl rfl (OpQ.move rfl) ?_
   refine Wl.q rfl rfl (OpQ.assign rfl) ?_
   refine Wl.nil ?_
   refine PX.then_n ?_
   refine CT.ret ?_
   refine PX.ret1 rfl rfl (fun w' hH => ?_)
   exact ⟨(sa, sc), trivial, rfl, (hH.take (.cons .here .nil)).post⟩

theorem AJ_un62 : Try.prog.underlying 62 = some (.slice 5) := by kernel_rfl
theorem AJ_un5 : Try.prog.underlying 5 = some (.int .u8) := by kernel_rfl
theorem AJ_un9 : Try.prog.underlying 9 = some .string := by kernel_rfl
theorem AJ_in5 : (Try.prog.info? 5).map (fun i => (i.zero, i.size, i.bytes)) = some (some (.int .u8 0), 1, 1) := by kernel_rfl
theorem AJ_sz3 : sizeB Try.prog 3 = some 1 := by kernel_rfl
theorem AJ_mixed : Try.prog.follows .mixedOrders = true := by kernel_rfl
theorem AJ_sz5 : sizeB Try.prog 5 = some 1 := by kernel_rfl
theorem AJ_sc5 : scalarB Try.prog 5 = some true := by kernel_rfl
set_option maxRecDepth 100000 in
/-- semigroup/temporal.pack -/
theorem pack_spec (w : World) (ks : List Nat) (ka : Option Addr) (kc : Nat) (hk : Stays [] w (fun w => Rd w ka (ks.map zn))) (hl : ks.length ≤ 200000) (v : List Bool) (va : Option Addr) (vc : Nat) (hv : Stays [] w (fun w => Rd w va (v.map bo))) (hlt : ∀ k ∈ ks, k < v.length) : Calls Try.prog 65 #[.slice ka ks.length kc, .slice va v.length vc] w (fun e w' => e = .returned (sv (pk ks v)) ∧ Ext [] w w') := by
 have hka : 0 < ks.length → ka.isSome = true := fun h => hk.now.isSome (j := 0) (by rw [List.length_map]; exact h)
 have hva : 0 < v.length → va.isSome = true := fun h => hv.now.isSome (j := 0) (by rw [List.length_map]; exact h)
 refine enter (args := [.slice ka ks.length kc, .slice va v.length vc]) [] 37 Try.func65 rfl rfl rfl ?_
 refine CT.seq ?_
 refine CT.region ?_
 refine Wl.q rfl rfl (OpQ.assign rfl) ?_
 refine Wl.nil ?_
 refine PX.then_n ?_
 refine CT.seq ?_
 refine CT.region ?_
 refine Wl.q rfl rfl (OpQ.move rfl) ?_
 refine Wl.q rfl rfl (OpQ.len AJ_un25 rfl) ?_
 refine Wl.q rfl rfl (OpQ.add rfl rfl (by omega)) ?_
 refine Wl.q rfl rfl (OpQ.quo rfl rfl ⟨by decide, by rw [tdiv8]; omega, by rw [tdiv8]; omega⟩) ?_
 refine Wl.know 11 (v' := .int .i64 ((((ks.length + 7) / 8) : Nat) : Int)) rfl (congrArg (Value.int .i64) (tdiv8 ks.length)) ?_
 refine Wl.g rfl rfl (OpG.make1 AJ_un62 AJ_in5 rfl rfl rfl rfl (by omega) (by omega)) ?_
 rintro b12 _
 refine Wl.q rfl rfl (OpQ.assign rfl) ?_
 refine Wl.nil ?_
 refine PX.then_n ?_
 refine CT.seq ?_
 refine CT.seq ?_
 refine CT.region ?_
 refine Wl.q rfl rfl (OpQ.move rfl) ?_
 refine Wl.q rfl rfl (OpQ.len AJ_un25 rfl) ?_
 refine Wl.q rfl rfl (OpQ.move rfl) ?_
 refine Wl.nil ?_
 refine PX.then_n ?_
 refine CT.block ?_
 refine CT.loop (ι := Nat) (fun i => i ≤ ks.length) (fun i => [(1, .slice va v.length vc), (5, .slice (some ⟨b12, 0, none⟩) ((ks.length + 7) / 8) ((ks.length + 7) / 8)), (13, .slice ka ks.length kc), (14, .int .i64 ((ks.length : Nat) : Int)), (15, .int .i64 ((i : Nat) : Int))]) (fun i => [.row 5 1 (.slice (some ⟨b12, 0, none⟩) ((ks.length + 7) / 8) ((ks.length + 7) / 8)) ((ks.length + 7) / 8) ((pkP ks v i).map b8v)]) (fun i => ks.length - i) 0 (Nat.zero_le _) ⟨rfl, rfl, rfl, rfl, rfl, trivial⟩ (.keep (row_eq (by rw [pkP, List.map_replicate]; rfl)) (HSub.refl _)) (fun i hi K0 hK0 => ?_)
 refine CT.seq ?_
 refine CT.region ?_
 refine Wl.q rfl rfl (OpQ.lss rfl rfl) ?_
 refine Wl.nil ?_
 refine PX.then_n ?_
 refine CT.seq ?_
 refine CT.cond rfl (fun h16 => ?_) (fun h16 => ?_)
 ·
  have h16 := of_decide_eq_true h16
  have hil : i < ks.length := by omega
  have hki : ks.getD i 0 < v.length := hlt _ (getDm hil)
  refine CT.skip ?_
  refine PX.then_n ?_
  refine CT.seq ?_
  refine CT.block ?_
  refine CT.seq ?_
  refine CT.region ?_
  refine Wl.q rfl rfl (OpQ.move rfl) ?_
  refine Wl.q rfl rfl (OpQ.index1 AJ_un25 AJ_sz3 rfl rfl (by omega) (hka (by omega))) ?_
  refine Wl.q rfl rfl (OpQ.loadG AJ_sc3 rfl (fun w hH => hH.use hk) (getMap zn ks 0 (j := i) (by omega))) ?_
  refine Wl.know 19 (v' := .int .i64 (((ks.getD i 0) : Nat) : Int)) rfl rfl ?_
  refine Wl.q rfl rfl (OpQ.assign rfl) ?_
  refine Wl.q rfl rfl (OpQ.assign rfl) ?_
  refine Wl.nil ?_
  refine PX.then_n ?_
  refine CT.seq ?_
  refine CT.region ?_
  refine Wl.q rfl rfl (OpQ.move rfl) ?_
  refine Wl.q rfl rfl (OpQ.move rfl) ?_
  refine Wl.q rfl rfl (OpQ.index1 AJ_un49 AJ_sz4 rfl rfl (by omega) (hva (by omega))) ?_
  refine Wl.q rfl rfl (OpQ.loadG AJ_sc4 rfl (fun w hH => hH.use hv) (getMap bo v false (j := ks.getD i 0) (by omega))) ?_
  refine Wl.know 23 (v' := .bool (v.getD (ks.getD i 0) false)) rfl rfl ?_
  refine Wl.nil ?_
  refine PX.then_n ?_
  refine CT.cond rfl (fun h23 => ?_) (fun h23 => ?_)
  ·
   refine CT.draw 10 AJ_mixed ?_
   refine RA.q 0 (by kernel_rfl) rfl rfl rfl (.refl _) (OpQ.move rfl) ?_
   refine RA.q 1 (by kernel_rfl) rfl rfl rfl (.refl _) (OpQ.move rfl) ?_
   refine RA.q 2 (by kernel_rfl) rfl rfl rfl (.refl _) (OpQ.quo rfl rfl ⟨by decide, by rw [tdiv8']; omega, by rw [tdiv8']; omega⟩) ?_
   refine RA.know 26 (v' := .int .i64 (((i / 8) : Nat) : Int)) rfl (congrArg (Value.int .i64) (tdiv8' i)) ?_
   refine RA.q 3 (by kernel_rfl) rfl rfl rfl (.refl _) (OpQ.index1 AJ_un62 AJ_sz5 rfl rfl (by omega) rfl) ?_
   refine RA.q 4 (by kernel_rfl) rfl rfl rfl (.refl _) (OpQ.loadRow AJ_sc5 rfl .here (getMap b8v (pkP ks v i) 0#8 (j := i / 8) (by rw [pkP_len]; omega))) ?_
   refine RA.q 5 (by kernel_rfl) rfl rfl rfl (.refl _) (OpQ.move rfl) ?_
   refine RA.q 6 (by kernel_rfl) rfl rfl rfl (.refl _) (OpQ.rem rfl rfl (by decide)) ?_
   refine RA.know 30 (v' := .int .i64 (((i % 8) : Nat) : Int)) rfl (congrArg (Value.int .i64) (tmod8 i)) ?_
   refine RA.q 7 (by kernel_rfl) rfl rfl rfl (.refl _) (OpQ.shl8 (p := 1#8) rfl rfl (by omega)) ?_
   refine RA.q 8 (by kernel_rfl) rfl rfl rfl (.refl _) (OpQ.or8 rfl rfl) ?_
   refine RA.q 9 (by kernel_rfl) rfl rfl rfl (.refl _) (OpQ.index1 AJ_un62 AJ_sz5 rfl rfl (by omega) rfl) ?_
   refine RA.tail ?_
   refine RT.f 10 (by kernel_rfl) rfl rfl rfl (OpG.storeRow AJ_sz5 rfl rfl rfl .here (by rw [List.length_map, pkP_len]; omega)) ?_
   rintro _ _
   refine RT.done (by kernel_rfl) ?_
   refine PX.block_n ?_
   refine PX.then_n ?_
   refine CT.region ?_
   refine Wl.q rfl rfl (OpQ.add rfl rfl (by omega)) ?_
   refine Wl.q rfl rfl (OpQ.move rfl) ?_
   refine Wl.nil ?_
   exact PX.loop hK0 (i + 1) (by omega) (by first | omega | (dsimp only; omega)) ⟨rfl, rfl, rfl, rfl, rfl, trivial⟩ (.keep (row_eq (pkP_put h23).symm) (HSub.refl _))
  ·
   refine CT.skip ?_
   refine PX.block_n ?_
   refine PX.then_n ?_
   refine CT.region ?_
   refine Wl.q rfl rfl (OpQ.add rfl rfl (by omega)) ?_
   refine Wl.q rfl rfl (OpQ.move rfl) ?_
   refine Wl.nil ?_
   exact PX.loop hK0 (i + 1) (by omega) (by first | omega | (dsimp only; omega)) ⟨rfl, rfl, rfl, rfl, rfl, trivial⟩ (.keep (row_eq (by rw [pkP_keep h23])) (HSub.refl _))
 ·
  have h16 := of_decide_eq_false h16
  obtain rfl : i = ks.length := by omega
  refine CT.mem (.keep (row_eq (xs := (pk ks v).map bv) (by rw [pk, ← pk_bytes])) (HSub.refl _)) ?_
  refine CT.exit ?_
  refine PX.then_x ?_
  refine PX.then_x ?_
  refine PX.block_x ?_
  refine PX.then_n ?_
  refine CT.seq ?_
  refine CT.region ?_
  refine Wl.q rfl rfl (OpQ.move rfl) ?_
  refine Wl.know 35 (v' := .slice (some ⟨b12, 0, none⟩) (pk ks v).length ((ks.length + 7) / 8)) rfl (by rw [pk_len]) ?_
  refine Wl.q rfl rfl (OpQ.convBS (l := pk ks v) AJ_un62 AJ_un5 AJ_un9 rfl (fun w hH => hH.rd .here)) ?_
  refine Wl.q rfl rfl (OpQ.assign rfl) ?_
  refine Wl.nil ?_
  refine PX.then_n ?_
  refine CT.ret ?_
  refine PX.ret1 rfl rfl (fun w' hH => ?_)
  exact ⟨rfl, hH.ext⟩

set_option maxRecDepth 100000 in
/-- semigroup/temporal.unpack -/
theorem unpack_spec (w : World) (s : Wd) (ks : List Nat) (ka : Option Addr) (kc b bc : Nat) (bf : List Bool) (hpre : Pre [.row 4 1 (.slice (some ⟨b, 0, none⟩) bf.length bc) bf.length (bf.map bo)] w) (hk : Stays (blks [.row 4 1 (.slice (some ⟨b, 0, none⟩) bf.length bc) bf.length (bf.map bo)]) w (fun w => Rd w ka (ks.map zn))) (hl : ks.length ≤ 200000) (hs : s.length = ((ks.length + 7) / 8)) (hlt : ∀ k ∈ ks, k < bf.length) : Calls Try.prog 66 #[sv s, .slice ka ks.length kc, .slice (some ⟨b, 0, none⟩) bf.length bc] w (fun e w' => ∃ _i : Unit, True ∧ e = .returned (.tuple #[]) ∧ Post (blks [.row 4 1 (.slice (some ⟨b, 0, none⟩) bf.length bc) bf.length (bf.map bo)]) [.row 4 1 (.slice (some ⟨b, 0, none⟩) bf.length bc) bf.length ((unP ks s bf ks.length).map bo)] w w') := by
 have hka : 0 < ks.length → ka.isSome = true := fun h => hk.now.isSome (j := 0) (by rw [List.length_map]; exact h)
 refine enterX (args := [sv s, .slice ka ks.length kc, .slice (some ⟨b, 0, none⟩) bf.length bc]) hpre 28 Try.func66 rfl rfl rfl ?_
 refine CT.seq ?_
 refine CT.region ?_
 refine Wl.q rfl rfl (OpQ.move rfl) ?_
 refine Wl.q rfl rfl (OpQ.len AJ_un25 rfl) ?_
 refine Wl.q rfl rfl (OpQ.move rfl) ?_
 refine Wl.nil ?_
 refine PX.then_n ?_
 refine CT.block ?_
 refine CT.loop (ι := Nat) (fun i => i ≤ ks.length) (fun i => [(0, sv s), (2, .slice (some ⟨b, 0, none⟩) bf.length bc), (8, .slice ka ks.length kc), (9, .int .i64 ((ks.length : Nat) : Int)), (10, .int .i64 ((i : Nat) : Int))]) (fun i => [.row 4 1 (.slice (some ⟨b, 0, none⟩) bf.length bc) bf.length ((unP ks s bf i).map bo)]) (fun i => ks.length - i) 0 (Nat.zero_le _) ⟨rfl, rfl, rfl, rfl, rfl, trivial⟩ (HSub.refl _) (fun i hi K0 hK0 => ?_)
 refine CT.seq ?_
 refine CT.region ?_
 refine Wl.q rfl rfl (OpQ.lss rfl rfl) ?_
 refine Wl.nil ?_
 refine PX.then_n ?_
 refine CT.seq ?_
 refine CT.cond rfl (fun h11 => ?_) (fun h11 => ?_)
 ·
  have h11 := of_decide_eq_true h11
  have hil : i < ks.length := by omega
  have hki : ks.getD i 0 < bf.length := hlt _ (getDm hil)
  refine CT.skip ?_
  refine PX.then_n ?_
  refine CT.seq ?_
  refine CT.block ?_
  refine CT.seq ?_
  refine CT.region ?_
  refine Wl.q rfl rfl (OpQ.move rfl) ?_
  refine Wl.q rfl rfl (OpQ.index1 AJ_un25 AJ_sz3 rfl rfl (by omega) (hka (by omega))) ?_
  refine Wl.q rfl rfl (OpQ.loadG AJ_sc3 rfl (fun w hH => hH.use hk) (getMap zn ks 0 (j := i) (by omega))) ?_
  refine Wl.know 14 (v' := .int .i64 (((ks.getD i 0) : Nat) : Int)) rfl rfl ?_
  refine Wl.q rfl rfl (OpQ.assign rfl) ?_
  refine Wl.q rfl rfl (OpQ.assign rfl) ?_
  refine Wl.nil ?_
  refine PX.then_n ?_
  refine CT.region ?_
  refine Wl.q rfl rfl (OpQ.move rfl) ?_
  refine Wl.q rfl rfl (OpQ.move rfl) ?_
  refine Wl.q rfl rfl (OpQ.move rfl) ?_
  refine Wl.q rfl rfl (OpQ.move rfl) ?_
  refine Wl.q rfl rfl (OpQ.quo rfl rfl ⟨by decide, by rw [tdiv8']; omega, by rw [tdiv8']; omega⟩) ?_
  refine Wl.know 19 (v' := .int .i64 (((i / 8) : Nat) : Int)) rfl (congrArg (Value.int .i64) (tdiv8' i)) ?_
  refine Wl.q rfl rfl (OpQ.indexSvN AJ_un9 rfl rfl (by omega)) ?_
  refine Wl.know 20 (v' := b8v (s.getD (i / 8) 0).toBitVec) rfl rfl ?_
  refine Wl.q rfl rfl (OpQ.move rfl) ?_
  refine Wl.q rfl rfl (OpQ.rem rfl rfl (by decide)) ?_
  refine Wl.know 22 (v' := .int .i64 (((i % 8) : Nat) : Int)) rfl (congrArg (Value.int .i64) (tmod8 i)) ?_
  refine Wl.q rfl rfl (OpQ.shr8 rfl rfl (by omega)) ?_
  refine Wl.q rfl rfl (OpQ.and8 (q := 1#8) rfl rfl) ?_
  refine Wl.q rfl rfl (OpQ.eql rfl rfl) ?_
  refine Wl.know 25 (v' := .bool (ub s i)) rfl (congrArg Value.bool (ub_bit _ _)) ?_
  refine Wl.q rfl rfl (OpQ.index1 AJ_un49 AJ_sz4 rfl rfl (by omega) rfl) ?_
  refine Wl.g rfl rfl (OpG.storeRow AJ_sz4 rfl rfl rfl .here (by rw [List.length_map, unP_len]; omega)) ?_
  rintro _ _
  refine Wl.nil ?_
  refine PX.block_n ?_
  refine PX.then_n ?_
  refine CT.region ?_
  refine Wl.q rfl rfl (OpQ.add rfl rfl (by omega)) ?_
  refine Wl.q rfl rfl (OpQ.move rfl) ?_
  refine Wl.nil ?_
  exact PX.loop hK0 (i + 1) (by omega) (by first | omega | (dsimp only; omega)) ⟨rfl, rfl, rfl, rfl, rfl, trivial⟩ (.keep (row_eq (unP_put rfl).symm) (HSub.refl _))
 ·
  have h11 := of_decide_eq_false h11
  obtain rfl : i = ks.length := by omega
  refine CT.exit ?_
  refine PX.then_x ?_
  refine PX.then_x ?_
  refine PX.block_x ?_
  refine PX.end0 rfl (fun w' hH => ?_)
  exact ⟨(), trivial, rfl, hH.post⟩

end Go.Proofs.Ytlmbcdjmdgbmjaa

