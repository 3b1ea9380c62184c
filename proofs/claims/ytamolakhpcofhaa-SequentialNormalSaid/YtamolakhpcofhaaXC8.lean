/-
  What functions of the program compute, each by its walk. Conditions: those that each theorem names.
-/
import Derived.Test.YtamolakhpcofhaaMod
import Derived.Test.YtamolakhpcofhaaXC2
set_option linter.unusedSimpArgs false
namespace Go.Proofs.Ytamolakhpcofhaa
open Go Go.Eng Go.Am
open Go.Tp (zi)
open Go.Tl (mayL Wd okW okB bo)

theorem SH_un22 : Try.prog.underlying 22 = some (.slice 3) := by kernel_rfl
theorem SH_in3 : (Try.prog.info? 3).map (fun i => (i.zero, i.size, i.bytes)) = some (some (.int .i64 0), 1, 8) := by kernel_rfl
theorem SH_mixed : Try.prog.follows .mixedOrders = true := by kernel_rfl
theorem SH_sz3 : sizeB Try.prog 3 = some 1 := by kernel_rfl
theorem SH_sc3 : scalarB Try.prog 3 = some true := by kernel_rfl
set_option maxRecDepth 100000 in
/-- semigroup/sequential.split -/
theorem split_spec (w : World) (b cap : Nat) (c : List Nat) (hpre : Pre [.row 3 1 (.slice (some ⟨b, 0, none⟩) c.length cap) c.length ((c).map zn)] w) (k : List Nat) (ka : Option Addr) (kc : Nat) (hk : Stays (blks [.row 3 1 (.slice (some ⟨b, 0, none⟩) c.length cap) c.length ((c).map zn)]) w (fun w => Rd w ka (k.map zn))) (N M : Nat) (hN : N ≤ 512) (hM : M ≤ 513) (hc : ∀ i, i < c.length → c.getD i 0 < N) (hkl : k.length = c.length) (hk2 : ∀ i, i < c.length → k.getD i 0 < M) (hl : c.length ≤ 30000) : Calls Try.prog 75 #[.slice (some ⟨b, 0, none⟩) c.length cap, .slice ka k.length kc, .int .i64 ((N : Nat) : Int), .int .i64 ((M : Nat) : Int)] w (fun e w' => ∃ _i : Unit, True ∧ e = .returned (.int .i64 (((ded (spk c k M)).length : Nat) : Int)) ∧ Post (blks [.row 3 1 (.slice (some ⟨b, 0, none⟩) c.length cap) c.length ((c).map zn)]) [.row 3 1 (.slice (some ⟨b, 0, none⟩) c.length cap) c.length ((lab (spk c k M)).map zn)] w w') := by
 have hka : 0 < k.length → ka.isSome = true := fun h => hk.now.isSome (j := 0) (by rw [List.length_map]; exact h)
 have hNM : N * M ≤ 262656 := Nat.mul_le_mul hN hM
 have hNMc : ((N : Nat) : Int) * ((M : Nat) : Int) = ((N * M : Nat) : Int) := (Int.natCast_mul _ _).symm
 have hkk : (spk c k M).length = c.length := spk_len c k M
 refine enterX (args := [.slice (some ⟨b, 0, none⟩) c.length cap, .slice ka k.length kc, .int .i64 ((N : Nat) : Int), .int .i64 ((M : Nat) : Int)]) hpre 54 Try.func75 rfl rfl rfl ?_
 refine CT.seq ?_
 refine CT.region ?_
 refine Wl.q rfl rfl (OpQ.assign rfl) ?_
 refine Wl.nil ?_
 refine PX.then_n ?_
 refine CT.seq ?_
 refine CT.region ?_
 refine Wl.q rfl rfl (OpQ.move rfl) ?_
 refine Wl.q rfl rfl (OpQ.move rfl) ?_
 refine Wl.q rfl rfl (OpQ.mul rfl rfl (by rw [hNMc]; omega)) ?_
 refine Wl.know 15 (v' := .int .i64 (((N * M) : Nat) : Int)) rfl (congrArg (Value.int .i64) hNMc) ?_
 refine Wl.g rfl rfl (OpG.make1 SH_un22 SH_in3 rfl rfl rfl rfl (by omega) (by omega)) ?_
 rintro b16 _
 refine Wl.q rfl rfl (OpQ.assign rfl) ?_
 refine Wl.nil ?_
 refine PX.then_n ?_
 refine CT.seq ?_
 refine CT.region ?_
 refine Wl.q rfl rfl (OpQ.assign rfl) ?_
 refine Wl.nil ?_
 refine PX.then_n ?_
 refine CT.seq ?_
 refine CT.seq ?_
 refine CT.region ?_
 refine Wl.q rfl rfl (OpQ.move rfl) ?_
 refine Wl.q rfl rfl (OpQ.len SH_un22 rfl) ?_
 refine Wl.q rfl rfl (OpQ.move rfl) ?_
 refine Wl.nil ?_
 refine PX.then_n ?_
 refine CT.block ?_
 refine CT.loop (ι := Nat) (fun i => i ≤ c.length) (fun i => [(0, .slice (some ⟨b, 0, none⟩) c.length cap), (1, .slice ka k.length kc), (3, .int .i64 ((M : Nat) : Int)), (9, .slice (some ⟨b16, 0, none⟩) (N * M) (N * M)), (10, .int .i64 (((ded ((spk c k M).take i)).length : Nat) : Int)), (17, .slice (some ⟨b, 0, none⟩) c.length cap), (18, .int .i64 ((c.length : Nat) : Int)), (19, .int .i64 ((i : Nat) : Int))]) (fun i => [.row 3 1 (.slice (some ⟨b16, 0, none⟩) (N * M) (N * M)) (N * M) ((spT (spk c k M) (N * M) i).map zz), .row 3 1 (.slice (some ⟨b, 0, none⟩) c.length cap) c.length ((spC (spk c k M) c i).map zn)]) (fun i => c.length - i) 0 (Nat.zero_le _) ⟨rfl, rfl, rfl, rfl, rfl, rfl, rfl, rfl, trivial⟩ (.keep (row_eq (tabI_zz _ _).symm) (.keep (row_eq (by rw [spC_zero])) (HSub.refl _))) (fun i hi K0 hK0 => ?_)
 refine CT.seq ?_
 refine CT.region ?_
 refine Wl.q rfl rfl (OpQ.lss rfl rfl) ?_
 refine Wl.nil ?_
 refine PX.then_n ?_
 refine CT.seq ?_
 refine CT.cond rfl (fun h20 => ?_) (fun h20 => ?_)
 ·
  have h20 := of_decide_eq_true h20
  have hil : i < c.length := by omega
  have hik : i < (spk c k M).length := by omega
  have hgk := spk_get (k := k) (M := M) hil
  have hki := hk2 i hil
  have hxl : ((spk c k M).getD i 0) < N * M := by rw [hgk]; exact spk_lt (hc i hil) hki
  have hcm : c.getD i 0 * M ≤ 262656 := Nat.mul_le_mul (Nat.le_trans (Nat.le_of_lt (hc i hil)) hN) hM
  have hmem : ((spk c k M).getD i 0) ∈ ded ((spk c k M).take (i + 1)) := mem_ded.2 (by rw [take_snoc (spk c k M) 0 hik]; exact List.mem_append_right _ (List.mem_singleton_self _))
  have hdl : (ded ((spk c k M).take i)).length ≤ i := by have h1 := lab_top ((spk c k M).take i); rw [← h1, lab_take]; exact fo_top_le (lab_fo (spk c k M)) (by rw [lab_len]; omega)
  refine CT.skip ?_
  refine PX.then_n ?_
  refine CT.seq ?_
  refine CT.block ?_
  refine CT.seq ?_
  refine CT.region ?_
  refine Wl.q rfl rfl (OpQ.move rfl) ?_
  refine Wl.q rfl rfl (OpQ.assign rfl) ?_
  refine Wl.nil ?_
  refine PX.then_n ?_
  refine CT.seq ?_
  refine CT.draw 12 SH_mixed ?_
  refine RA.q 0 (by kernel_rfl) rfl rfl rfl (.refl _) (OpQ.move rfl) ?_
  refine RA.q 1 (by kernel_rfl) rfl rfl rfl (.refl _) (OpQ.move rfl) ?_
  refine RA.q 2 (by kernel_rfl) rfl rfl rfl (.refl _) (OpQ.index1 SH_un22 SH_sz3 rfl rfl (by omega) rfl) ?_
  refine RA.q 3 (by kernel_rfl) rfl rfl rfl (.refl _) (OpQ.loadRow SH_sc3 rfl (.there .here) (getMap zn (spC (spk c k M) c i) 0 (j := i) (by rw [spC_len hkk hi]; exact hil))) ?_
  refine RA.know 25 (v' := .int .i64 (((c.getD i 0) : Nat) : Int)) rfl (congrArg zn (spC_at hkk hil)) ?_
  refine RA.q 4 (by kernel_rfl) rfl rfl rfl (.refl _) (OpQ.move rfl) ?_
  refine RA.q 5 (by kernel_rfl) rfl rfl rfl (.refl _) (OpQ.mul rfl rfl (by rw [← Int.natCast_mul]; omega)) ?_
  refine RA.know 27 (v' := .int .i64 (((c.getD i 0 * M) : Nat) : Int)) rfl (congrArg (Value.int .i64) (Int.natCast_mul _ _).symm) ?_
  refine RA.q 6 (by kernel_rfl) rfl rfl rfl (.refl _) (OpQ.move rfl) ?_
  refine RA.q 7 (by kernel_rfl) rfl rfl rfl (.refl _) (OpQ.move rfl) ?_
  refine RA.q 8 (by kernel_rfl) rfl rfl rfl (.refl _) (OpQ.index1 SH_un22 SH_sz3 rfl rfl (by omega) (hka (by omega))) ?_
  refine RA.q 9 (by kernel_rfl) rfl rfl rfl (.refl _) (OpQ.loadG SH_sc3 rfl (fun w hH => hH.use hk) (getMap zn k 0 (j := i) (by omega))) ?_
  refine RA.know 31 (v' := .int .i64 (((k.getD i 0) : Nat) : Int)) rfl rfl ?_
  refine RA.q 10 (by kernel_rfl) rfl rfl rfl (.refl _) (OpQ.add rfl rfl (by omega)) ?_
  refine RA.know 32 (v' := .int .i64 ((((spk c k M).getD i 0) : Nat) : Int)) rfl (congrArg (Value.int .i64) (by rw [hgk, Int.natCast_add])) ?_
  refine RA.q 11 (by kernel_rfl) rfl rfl rfl (.refl _) (OpQ.assign rfl) ?_
  refine RA.tail ?_
  refine RT.done (by kernel_rfl) ?_
  refine PX.then_n ?_
  refine CT.cut (ι := Unit) (Φ := fun _ => True) (E' := fun _ => [(0, .slice (some ⟨b, 0, none⟩) c.length cap), (1, .slice ka k.length kc), (3, .int .i64 ((M : Nat) : Int)), (9, .slice (some ⟨b16, 0, none⟩) (N * M) (N * M)), (10, .int .i64 (((ded ((spk c k M).take (i + 1))).length : Nat) : Int)), (17, .slice (some ⟨b, 0, none⟩) c.length cap), (18, .int .i64 ((c.length : Nat) : Int)), (19, .int .i64 ((i : Nat) : Int)), (11, .int .i64 ((i : Nat) : Int)), (12, .int .i64 ((((spk c k M).getD i 0) : Nat) : Int))]) (H' := fun _ => [.row 3 1 (.slice (some ⟨b16, 0, none⟩) (N * M) (N * M)) (N * M) ((spT (spk c k M) (N * M) (i + 1)).map zz), .row 3 1 (.slice (some ⟨b, 0, none⟩) c.length cap) c.length ((spC (spk c k M) c i).map zn)]) (fun K1 hK1 => ?_) (fun _ _ => ?_)
  ·
   refine CT.seq ?_
   refine CT.region ?_
   refine Wl.q rfl rfl (OpQ.move rfl) ?_
   refine Wl.q rfl rfl (OpQ.move rfl) ?_
   refine Wl.q rfl rfl (OpQ.index1 SH_un22 SH_sz3 rfl rfl (by omega) rfl) ?_
   refine Wl.q rfl rfl (OpQ.loadRow SH_sc3 rfl .here (getMap zz (spT (spk c k M) (N * M) i) 0 (j := ((spk c k M).getD i 0)) (by rw [spT_len]; exact hxl))) ?_
   refine Wl.know 36 (v' := .int .i64 (if ((spk c k M).getD i 0) ∈ ded ((spk c k M).take i) then (((ded ((spk c k M).take i)).idxOf ((spk c k M).getD i 0) + 1 : Nat) : Int) else 0)) rfl (congrArg (Value.int .i64) (spT_get hxl)) ?_
   refine Wl.q rfl rfl (OpQ.eql rfl rfl) ?_
   refine Wl.nil ?_
   refine PX.then_n ?_
   refine CT.cond rfl (fun h37 => ?_) (fun h37 => ?_)
   ·
    have h37 := of_decide_eq_true h37
    have hnm : ((spk c k M).getD i 0) ∉ ded ((spk c k M).take i) := fun h => by rw [if_pos h] at h37; omega
    have hd1 : (ded ((spk c k M).take (i + 1))).length = (ded ((spk c k M).take i)).length + 1 := by rw [take_snoc (spk c k M) 0 hik, ded_snoc, if_neg hnm, List.length_append]; rfl
    refine CT.seq ?_
    refine CT.region ?_
    refine Wl.q rfl rfl (OpQ.move rfl) ?_
    refine Wl.q rfl rfl (OpQ.add rfl rfl (by omega)) ?_
    refine Wl.know 39 (v' := .int .i64 ((((ded ((spk c k M).take i)).length + 1) : Nat) : Int)) rfl (congrArg (Value.int .i64) (by push_cast; rfl)) ?_
    refine Wl.q rfl rfl (OpQ.assign rfl) ?_
    refine Wl.nil ?_
    refine PX.then_n ?_
    refine CT.region ?_
    refine Wl.q rfl rfl (OpQ.move rfl) ?_
    refine Wl.q rfl rfl (OpQ.move rfl) ?_
    refine Wl.q rfl rfl (OpQ.move rfl) ?_
    refine Wl.q rfl rfl (OpQ.index1 SH_un22 SH_sz3 rfl rfl (by omega) rfl) ?_
    refine Wl.g rfl rfl (OpG.storeRow SH_sz3 rfl rfl rfl .here (by rw [List.length_map, spT_len]; exact hxl)) ?_
    rintro _ _
    refine Wl.nil ?_
    exact PX.cut hK1 () trivial ⟨rfl, rfl, rfl, rfl, (lkV rfl (by rw [hd1])), rfl, rfl, rfl, rfl, rfl, trivial⟩ (.keep (row_eq (spT_put hik hnm).symm) (HSub.refl _))
   ·
    have h37 := of_decide_eq_false h37
    have hm : ((spk c k M).getD i 0) ∈ ded ((spk c k M).take i) := Classical.byContradiction fun h => h37 (if_neg h)
    have hd1 : ded ((spk c k M).take (i + 1)) = ded ((spk c k M).take i) := by rw [take_snoc (spk c k M) 0 hik, ded_snoc, if_pos hm]
    refine CT.skip ?_
    exact PX.cut hK1 () trivial ⟨rfl, rfl, rfl, rfl, (lkV rfl (by rw [hd1])), rfl, rfl, rfl, rfl, rfl, trivial⟩ (.keep (row_eq (by rw [spT_keep hik hm])) (HSub.refl _))
  ·
   refine CT.region ?_
   refine Wl.q rfl rfl (OpQ.move rfl) ?_
   refine Wl.q rfl rfl (OpQ.move rfl) ?_
   refine Wl.q rfl rfl (OpQ.move rfl) ?_
   refine Wl.q rfl rfl (OpQ.move rfl) ?_
   refine Wl.q rfl rfl (OpQ.index1 SH_un22 SH_sz3 rfl rfl (by omega) rfl) ?_
   refine Wl.q rfl rfl (OpQ.loadRow SH_sc3 rfl .here (getMap zz (spT (spk c k M) (N * M) (i + 1)) 0 (j := ((spk c k M).getD i 0)) (by rw [spT_len]; exact hxl))) ?_
   refine Wl.know 49 (v' := .int .i64 ((((ded ((spk c k M).take (i + 1))).idxOf ((spk c k M).getD i 0) + 1) : Nat) : Int)) rfl (congrArg (Value.int .i64) (by rw [spT_get hxl, if_pos hmem])) ?_
   refine Wl.q rfl rfl (OpQ.sub rfl rfl (by have h1 : (ded ((spk c k M).take (i + 1))).idxOf ((spk c k M).getD i 0) < (ded ((spk c k M).take (i + 1))).length := List.idxOf_lt_length_of_mem hmem; have h2 := fo_top_le (lab_fo (spk c k M)) (q := i + 1) (by rw [lab_len]; omega); rw [← lab_take, lab_top] at h2; omega)) ?_
   refine Wl.know 50 (v' := .int .i64 ((((ded ((spk c k M).take (i + 1))).idxOf ((spk c k M).getD i 0)) : Nat) : Int)) rfl (congrArg (Value.int .i64) (by push_cast; omega)) ?_
   refine Wl.q rfl rfl (OpQ.index1 SH_un22 SH_sz3 rfl rfl (by omega) rfl) ?_
   refine Wl.g rfl rfl (OpG.storeRow SH_sz3 rfl rfl rfl (.there .here) (by rw [List.length_map, spC_len hkk hi]; exact hil)) ?_
   rintro _ _
   refine Wl.nil ?_
   refine PX.block_n ?_
   refine PX.then_n ?_
   refine CT.region ?_
   refine Wl.q rfl rfl (OpQ.add rfl rfl (by omega)) ?_
   refine Wl.q rfl rfl (OpQ.move rfl) ?_
   refine Wl.nil ?_
   exact PX.loop hK0 (i + 1) (by omega) (by first | omega | (dsimp only; omega)) ⟨rfl, rfl, rfl, rfl, rfl, rfl, rfl, rfl, trivial⟩ (.keep rfl (.keep (row_eq (spC_put hkk hil rfl).symm) (HSub.refl _)))
 ·
  have h20 := of_decide_eq_false h20
  obtain rfl : i = c.length := by omega
  refine CT.exit ?_
  refine PX.then_x ?_
  refine PX.then_x ?_
  refine PX.block_x ?_
  refine PX.then_n ?_
  refine CT.seq ?_
  refine CT.region ?_
  refine Wl.q rfl rfl (OpQ.move rfl) ?_
  refine Wl.q rfl rfl (OpQ.assign rfl) ?_
  refine Wl.nil ?_
  refine PX.then_n ?_
  refine CT.ret ?_
  refine PX.ret1 rfl rfl (fun w' hH => ?_)
  exact ⟨(), trivial, by rw [← hkk, List.take_length], (hH.take (.cons (.there .here) .nil)).post.conv (by rw [spC_end hkk]; exact HSub.refl _)⟩

theorem splitN_spec (w : World) (b cap n : Nat) (c : List Nat) (hcn : c.length = n) (hpre : Pre [.row 3 1 (.slice (some ⟨b, 0, none⟩) n cap) n ((c).map zn)] w) (k : List Nat) (ka : Option Addr) (kc : Nat) (hk : Stays (blks [.row 3 1 (.slice (some ⟨b, 0, none⟩) n cap) n ((c).map zn)]) w (fun w => Rd w ka (k.map zn))) (N M : Nat) (hN : N ≤ 512) (hM : M ≤ 513) (hc : ∀ i, i < n → c.getD i 0 < N) (hkl : k.length = n) (hk2 : ∀ i, i < n → k.getD i 0 < M) (hl : n ≤ 30000) : Calls Try.prog 75 #[.slice (some ⟨b, 0, none⟩) n cap, .slice ka n kc, .int .i64 ((N : Nat) : Int), .int .i64 ((M : Nat) : Int)] w (fun e w' => ∃ _i : Unit, True ∧ e = .returned (.int .i64 ((topL (lab (spk c k M)) : Nat) : Int)) ∧ Post (blks [.row 3 1 (.slice (some ⟨b, 0, none⟩) n cap) n ((c).map zn)]) [.row 3 1 (.slice (some ⟨b, 0, none⟩) n cap) n ((lab (spk c k M)).map zn)] w w') := by
 subst hcn
 have h := split_spec w b cap c hpre k ka kc hk N M hN hM hc hkl hk2 hl
 rw [hkl] at h
 rw [lab_top]
 exact h

end Go.Proofs.Ytamolakhpcofhaa

