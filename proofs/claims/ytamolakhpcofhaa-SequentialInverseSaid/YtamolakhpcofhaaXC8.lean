/-
  What functions of the program compute, each by its walk. Conditions: those that each theorem names.
-/
import Derived.Test.YtamolakhpcofhaaMod
import Derived.Test.YtamolakhpcofhaaXC2
import Derived.Test.YtamolakhpcofhaaXF
set_option linter.unusedSimpArgs false
namespace Go.Proofs.Ytamolakhpcofhaa
open Go Go.Eng Go.Am
open Go.Tp (zi)
open Go.Tl (mayL Wd okW okB bo)

set_option maxRecDepth 100000 in
/-- semigroup/sequential.split -/
theorem split_spec (w : World) (b cap : Nat) (c : List Nat) (hpre : Pre [.row 3 1 (.slice (some ⟨b, 0, none⟩) c.length cap) c.length ((c).map zn)] w) (k : List Nat) (ka : Option Addr) (kc : Nat) (hk : Stays (blks [.row 3 1 (.slice (some ⟨b, 0, none⟩) c.length cap) c.length ((c).map zn)]) w (fun w => Rd w ka (k.map zn))) (N M : Nat) (hN : N ≤ 512) (hM : M ≤ 513) (hc : ∀ i, i < c.length → c.getD i 0 < N) (hkl : k.length = c.length) (hk2 : ∀ i, i < c.length → k.getD i 0 < M) (hl : c.length ≤ 30000) : Calls Try.prog 75 #[.slice (some ⟨b, 0, none⟩) c.length cap, .slice ka k.length kc, .int .i64 ((N : Nat) : Int), .int .i64 ((M : Nat) : Int)] w (fun e w' => ∃ _i : Unit, True ∧ e = .returned (.int .i64 (((ded (spk c k M)).length : Nat) : Int)) ∧ Post (blks [.row 3 1 (.slice (some ⟨b, 0, none⟩) c.length cap) c.length ((c).map zn)]) [.row 3 1 (.slice (some ⟨b, 0, none⟩) c.length cap) c.length ((lab (spk c k M)).map zn)] w w') := by
 have hka : 0 < k.length → ka.isSome = true := fun h => hk.now.isSome (j := 0) (by rw [List.length_map]; exact h)
 have hNM : N * M ≤ 262656 := Nat.mul_le_mul hN hM
 have hNMc : ((N : Nat) : Int) * ((M : Nat) : Int) = ((N * M : Nat) : Int) := (Int.natCast_mul _ _).symm
 have hkk : (spk c k M).length = c.length := spk_len c k M
 refine enterX (args := [.slice (some ⟨b, 0, none⟩) c.length cap, .slice ka k.length kc, .int .i64 ((N : Nat) : Int), .int .i64 ((M : Nat) : Int)]) hpre 54 Try.func75 rfl rfl rfl ?_
 refine CT.seq (CT.region ?_)
 refine Wl.q rfl rfl (OpQ.assign rfl) ?_
 refine Wl.nil (PX.then_n (CT.seq (CT.region ?_)))
 refine Wl.q rfl rfl (OpQ.move rfl) ?_
 refine Wl.q rfl rfl (OpQ.move rfl) ?_
 refine Wl.q rfl rfl (OpQ.mul rfl rfl (by rw [hNMc]; omega)) ?_
 refine Wl.know 15 (v' := .int .i64 (((N * M) : Nat) : Int)) rfl (congrArg (Value.int .i64) hNMc) ?_
 refine Wl.g rfl rfl (OpG.make1 zf0 zf32 rfl rfl rfl rfl (by omega) (by omega)) ?_
 rintro b16 _
 refine Wl.q rfl rfl (OpQ.assign rfl) ?_
 refine Wl.nil (PX.then_n (CT.seq (CT.region ?_)))
 refine Wl.q rfl rfl (OpQ.assign rfl) ?_
 refine Wl.nil (PX.then_n (CT.seq (CT.seq (CT.region ?_))))
 refine Wl.q rfl rfl (OpQ.move rfl) ?_
 refine Wl.q rfl rfl (OpQ.len zf0 rfl) ?_
 refine Wl.q rfl rfl (OpQ.move rfl) ?_
 refine Wl.nil (PX.then_n (CT.block ?_))
 refine CT.loop (ι := Nat) (fun i => i ≤ c.length) (fun i => [(0, .slice (some ⟨b, 0, none⟩) c.length cap), (1, .slice ka k.length kc), (3, .int .i64 ((M : Nat) : Int)), (9, .slice (some ⟨b16, 0, none⟩) (N * M) (N * M)), (10, .int .i64 (((ded ((spk c k M).take i)).length : Nat) : Int)), (17, .slice (some ⟨b, 0, none⟩) c.length cap), (18, .int .i64 ((c.length : Nat) : Int)), (19, .int .i64 ((i : Nat) : Int))]) (fun i => [.row 3 1 (.slice (some ⟨b16, 0, none⟩) (N * M) (N * M)) (N * M) ((spT (spk c k M) (N * M) i).map zz), .row 3 1 (.slice (some ⟨b, 0, none⟩) c.length cap) c.length ((spC (spk c k M) c i).map zn)]) (fun i => c.length - i) 0 (Nat.zero_le _) ⟨rfl, rfl, rfl, rfl, rfl, rfl, rfl, rfl, trivial⟩ (.keep (row_eq (tabI_zz _ _).symm) (.keep (row_eq (by rw [spC_zero])) (HSub.refl _))) (fun i hi K0 hK0 => ?_)
 refine CT.seq (CT.region ?_)
 refine Wl.q rfl rfl (OpQ.lss rfl rfl) ?_
 refine Wl.nil (PX.then_n (CT.seq ?_))
 refine CT.cond rfl (fun h20 => ?_) (fun h20 => ?_)
 ·
  have h20 := of_decide_eq_true h20
  have hil : i < c.length := by omega
  have hik : i < (spk c k M).length := by omega
  have hgk := spk_get (k := k) (M := M) hil
  have hki := hk2 i hil
  have hxl : ((spk c k M).getD i 0) < N * M := by rw [hgk]; exact spk_lt (hc i hil) hki
  have hcm : c.getD i 0 * M ≤ 262656 := Nat.mul_le_mul (Nat.le_trans (Nat.le_of_lt (hc i hil)) hN) hM
  have hmem : ((spk c k M).getD i 0) ∈ ded ((spk c k M).take (i + 1)) := mem_ded.2 (by rw [take_snoc (spk c k M) 0 hik]; exact List.mem_append_right _ (List.mem_singleton_self _))
  have hdl : (ded ((spk c k M).take i)).length ≤ i := by have h1 := lab_top ((spk c k M).take i); rw [← h1, lab_take]; exact fo_top_le (lab_fo (spk c k M)) (by rw [lab_len]; omega)
  refine CT.skip (PX.then_n (CT.seq (CT.block (CT.seq (CT.region ?_)))))
  refine Wl.q rfl rfl (OpQ.move rfl) ?_
  refine Wl.q rfl rfl (OpQ.assign rfl) ?_
  refine Wl.nil (PX.then_n (CT.seq ?_))
  refine CT.draw 12 zf6 ?_
  refine RA.q 0 (by kernel_rfl) rfl rfl rfl (.refl _) (OpQ.move rfl) ?_
  refine RA.q 1 (by kernel_rfl) rfl rfl rfl (.refl _) (OpQ.move rfl) ?_
  refine RA.q 2 (by kernel_rfl) rfl rfl rfl (.refl _) (OpQ.index1 zf0 zf1 rfl rfl (by omega) rfl) ?_
  refine RA.q 3 (by kernel_rfl) rfl rfl rfl (.refl _) (OpQ.loadRow zf8 rfl (.there .here) (getMap zn (spC (spk c k M) c i) 0 (j := i) (by rw [spC_len hkk hi]; exact hil))) ?_
  refine RA.know 25 (v' := .int .i64 (((c.getD i 0) : Nat) : Int)) rfl (congrArg zn (spC_at hkk hil)) ?_
  refine RA.q 4 (by kernel_rfl) rfl rfl rfl (.refl _) (OpQ.move rfl) ?_
  refine RA.q 5 (by kernel_rfl) rfl rfl rfl (.refl _) (OpQ.mul rfl rfl (by rw [← Int.natCast_mul]; omega)) ?_
  refine RA.know 27 (v' := .int .i64 (((c.getD i 0 * M) : Nat) : Int)) rfl (congrArg (Value.int .i64) (Int.natCast_mul _ _).symm) ?_
  refine RA.q 6 (by kernel_rfl) rfl rfl rfl (.refl _) (OpQ.move rfl) ?_
  refine RA.q 7 (by kernel_rfl) rfl rfl rfl (.refl _) (OpQ.move rfl) ?_
  refine RA.q 8 (by kernel_rfl) rfl rfl rfl (.refl _) (OpQ.index1 zf0 zf1 rfl rfl (by omega) (hka (by omega))) ?_
  refine RA.q 9 (by kernel_rfl) rfl rfl rfl (.refl _) (OpQ.loadG zf8 rfl (fun w hH => hH.use hk) (getMap zn k 0 (j := i) (by omega))) ?_
  refine RA.know 31 (v' := .int .i64 (((k.getD i 0) : Nat) : Int)) rfl rfl ?_
  refine RA.q 10 (by kernel_rfl) rfl rfl rfl (.refl _) (OpQ.add rfl rfl (by omega)) ?_
  refine RA.know 32 (v' := .int .i64 ((((spk c k M).getD i 0) : Nat) : Int)) rfl (congrArg (Value.int .i64) (by rw [hgk, Int.natCast_add])) ?_
  refine RA.q 11 (by kernel_rfl) rfl rfl rfl (.refl _) (OpQ.assign rfl) ?_
  refine RA.tail ?_
  refine RT.done (by kernel_rfl) ?_
  refine PX.then_n ?_
  refine CT.cut (ι := Unit) (Φ := fun _ => True) (E' := fun _ => [(0, .slice (some ⟨b, 0, none⟩) c.length cap), (1, .slice ka k.length kc), (3, .int .i64 ((M : Nat) : Int)), (9, .slice (some ⟨b16, 0, none⟩) (N * M) (N * M)), (10, .int .i64 (((ded ((spk c k M).take (i + 1))).length : Nat) : Int)), (17, .slice (some ⟨b, 0, none⟩) c.length cap), (18, .int .i64 ((c.length : Nat) : Int)), (19, .int .i64 ((i : Nat) : Int)), (11, .int .i64 ((i : Nat) : Int)), (12, .int .i64 ((((spk c k M).getD i 0) : Nat) : Int))]) (H' := fun _ => [.row 3 1 (.slice (some ⟨b16, 0, none⟩) (N * M) (N * M)) (N * M) ((spT (spk c k M) (N * M) (i + 1)).map zz), .row 3 1 (.slice (some ⟨b, 0, none⟩) c.length cap) c.length ((spC (spk c k M) c i).map zn)]) (fun K1 hK1 => ?_) (fun _ _ => ?_)
  ·
   refine CT.seq (CT.region ?_)
   refine Wl.q rfl rfl (OpQ.move rfl) ?_
   refine Wl.q rfl rfl (OpQ.move rfl) ?_
   refine Wl.q rfl rfl (OpQ.index1 zf0 zf1 rfl rfl (by omega) rfl) ?_
   refine Wl.q rfl rfl (OpQ.loadRow zf8 rfl .here (getMap zz (spT (spk c k M) (N * M) i) 0 (j := ((spk c k M).getD i 0)) (by rw [spT_len]; exact hxl))) ?_
   refine Wl.know 36 (v' := .int .i64 (if ((spk c k M).getD i 0) ∈ ded ((spk c k M).take i) then (((ded ((spk c k M).take i)).idxOf ((spk c k M).getD i 0) + 1 : Nat) : Int) else 0)) rfl (congrArg (Value.int .i64) (spT_get hxl)) ?_
   refine Wl.q rfl rfl (OpQ.eql rfl rfl) ?_
   refine Wl.nil (PX.then_n ?_)
   refine CT.cond rfl (fun h37 => ?_) (fun h37 => ?_)
   ·
    have h37 := of_decide_eq_true h37
    have hnm : ((spk c k M).getD i 0) ∉ ded ((spk c k M).take i) := fun h => by rw [if_pos h] at h37; omega
    have hd1 : (ded ((spk c k M).take (i + 1))).length = (ded ((spk c k M).take i)).length + 1 := by rw [take_snoc (spk c k M) 0 hik, ded_snoc, if_neg hnm, List.length_append]; rfl
    refine CT.seq (CT.region ?_)
    refine Wl.q rfl rfl (OpQ.move rfl) ?_
    refine Wl.q rfl rfl (OpQ.add rfl rfl (by omega)) ?_
    refine Wl.know 39 (v' := .int .i64 ((((ded ((spk c k M).take i)).length + 1) : Nat) : Int)) rfl (congrArg (Value.int .i64) (by push_cast; rfl)) ?_
    refine Wl.q rfl rfl (OpQ.assign rfl) ?_
    refine Wl.nil (PX.then_n (CT.region ?_))
    refine Wl.q rfl rfl (OpQ.move rfl) ?_
    refine Wl.q rfl rfl (OpQ.move rfl) ?_
    refine Wl.q rfl rfl (OpQ.move rfl) ?_
    refine Wl.q rfl rfl (OpQ.index1 zf0 zf1 rfl rfl (by omega) rfl) ?_
    refine Wl.g rfl rfl (OpG.storeRow zf1 rfl rfl rfl .here (by rw [List.length_map, spT_len]; exact hxl)) ?_
    rintro _ _
    refine Wl.nil ?_
    exact PX.cut hK1 () trivial ⟨rfl, rfl, rfl, rfl, (lkV rfl (by rw [hd1])), rfl, rfl, rfl, rfl, rfl, trivial⟩ (.keep (row_eq (spT_put hik hnm).symm) (HSub.refl _))
   ·
    have h37 := of_decide_eq_false h37
    have hm : ((spk c k M).getD i 0) ∈ ded ((spk c k M).take i) := Classical.byContradiction fun h => h37 (if_neg h)
    have hd1 : ded ((spk c k M).take (i + 1)) = ded ((spk c k M).take i) := by rw [take_snoc (spk c k M) 0 hik, ded_snoc, if_pos hm]
    refine CT.skip ?_
    exact PX.cut hK1 () trivial ⟨rfl, rfl, rfl, rfl, (lkV rfl (by rw [hd1])), rfl, rfl, rfl, rfl, rfl, trivial⟩ (.keep (row_eq (by rw [spT_keep hik hm])) (HSub.refl _))
  ·
   refine CT.region ?_
   refine Wl.q rfl rfl (OpQ.move rfl) ?_
   refine Wl.q rfl rfl (OpQ.move rfl) ?_
   refine Wl.q rfl rfl (OpQ.move rfl) ?_
   refine Wl.q rfl rfl (OpQ.move rfl) ?_
   refine Wl.q rfl rfl (OpQ.index1 zf0 zf1 rfl rfl (by omega) rfl) ?_
   refine Wl.q rfl rfl (OpQ.loadRow zf8 rfl .here (getMap zz (spT (spk c k M) (N * M) (i + 1)) 0 (j := ((spk c k M).getD i 0)) (by rw [spT_len]; exact hxl))) ?_
   refine Wl.know 49 (v' := .int .i64 ((((ded ((spk c k M).take (i + 1))).idxOf ((spk c k M).getD i 0) + 1) : Nat) : Int)) rfl (congrArg (Value.int .i64) (by rw [spT_get hxl, if_pos hmem])) ?_
   refine Wl.q rfl rfl (OpQ.sub rfl rfl (by have h1 : (ded ((spk c k M).take (i + 1))).idxOf ((spk c k M).getD i 0) < (ded ((spk c k M).take (i + 1))).length := List.idxOf_lt_length_of_mem hmem; have h2 := fo_top_le (lab_fo (spk c k M)) (q := i + 1) (by rw [lab_len]; omega); rw [← lab_take, lab_top] at h2; omega)) ?_
   refine Wl.know 50 (v' := .int .i64 ((((ded ((spk c k M).take (i + 1))).idxOf ((spk c k M).getD i 0)) : Nat) : Int)) rfl (congrArg (Value.int .i64) (by push_cast; omega)) ?_
   refine Wl.q rfl rfl (OpQ.index1 zf0 zf1 rfl rfl (by omega) rfl) ?_
   refine Wl.g rfl rfl (OpG.storeRow zf1 rfl rfl rfl (.there .here) (by rw [List.length_map, spC_len hkk hi]; exact hil)) ?_
   rintro _ _
   refine Wl.nil (PX.block_n (PX.then_n (CT.region ?_)))
   refine Wl.q rfl rfl (OpQ.add rfl rfl (by omega)) ?_
   refine Wl.q rfl rfl (OpQ.move rfl) ?_
   refine Wl.nil ?_
   exact PX.loop hK0 (i + 1) (by omega) (by first | omega | (dsimp only; omega)) ⟨rfl, rfl, rfl, rfl, rfl, rfl, rfl, rfl, trivial⟩ (.keep rfl (.keep (row_eq (spC_put hkk hil rfl).symm) (HSub.refl _)))
 ·
  have h20 := of_decide_eq_false h20
  obtain rfl : i = c.length := by omega
  refine CT.exit (PX.then_x (PX.then_x (PX.block_x (PX.then_n (CT.seq (CT.region ?_))))))
  refine Wl.q rfl rfl (OpQ.move rfl) ?_
  refine Wl.q rfl rfl (OpQ.assign rfl) ?_
  refine Wl.nil (PX.then_n (CT.ret ?_))
  refine PX.ret1 rfl rfl (fun w' hH => ?_)
  exact ⟨(), trivial, by rw [← hkk, List.take_length], (hH.take (.cons (.there .here) .nil)).post.conv (by rw [spC_end hkk]; exact HSub.refl _)⟩

theorem splitN_spec (w : World) (b cap n : Nat) (c : List Nat) (hcn : c.length = n) (hpre : Pre [.row 3 1 (.slice (some ⟨b, 0, none⟩) n cap) n ((c).map zn)] w) (k : List Nat) (ka : Option Addr) (kc : Nat) (hk : Stays (blks [.row 3 1 (.slice (some ⟨b, 0, none⟩) n cap) n ((c).map zn)]) w (fun w => Rd w ka (k.map zn))) (N M : Nat) (hN : N ≤ 512) (hM : M ≤ 513) (hc : ∀ i, i < n → c.getD i 0 < N) (hkl : k.length = n) (hk2 : ∀ i, i < n → k.getD i 0 < M) (hl : n ≤ 30000) : Calls Try.prog 75 #[.slice (some ⟨b, 0, none⟩) n cap, .slice ka n kc, .int .i64 ((N : Nat) : Int), .int .i64 ((M : Nat) : Int)] w (fun e w' => ∃ _i : Unit, True ∧ e = .returned (.int .i64 ((topL (lab (spk c k M)) : Nat) : Int)) ∧ Post (blks [.row 3 1 (.slice (some ⟨b, 0, none⟩) n cap) n ((c).map zn)]) [.row 3 1 (.slice (some ⟨b, 0, none⟩) n cap) n ((lab (spk c k M)).map zn)] w w') := by
 subst hcn
 have h := split_spec w b cap c hpre k ka kc hk N M hN hM hc hkl hk2 hl
 rw [hkl] at h
 rw [lab_top]
 exact h

set_option maxRecDepth 100000 in
/-- (*semigroup/sequential.machine).classes -/
theorem classesT_spec (w : World) (d : Da) (hd : d.Ok) (hL : 1 ≤ d.L ∧ d.L ≤ 6) (hn : d.n ≤ 20000) (b : Nat) (na : Option Addr) (nc : Nat) (fa : Option Addr) (fc : Nat) (hm : Stays [] w (fun w => Rd w (some ⟨b, 0, none⟩) [.int .i64 ((d.L : Nat) : Int), .slice na (dfl d).length nc, .slice fa d.n fc])) (hmn : Stays [] w (fun w => Rd w na ((dfl d).map zz))) (hmf : Stays [] w (fun w => Rd w fa (d.fin.map bo))) (h512 : ∀ c, Coarse d c → topL c ≤ 512) : Calls Try.prog 88 #[.pointer (some ⟨b, 0, none⟩)] w (fun e w' => ∃ i : List Nat × Option Addr × Nat, (Cls d i.1 ∧ topL i.1 ≤ 512) ∧ e = .returned (.tuple #[.slice i.2.1 d.n i.2.2, .int .i64 ((topL i.1 : Nat) : Int)]) ∧ Post [] [.row 3 1 (.slice i.2.1 d.n i.2.2) d.n (i.1.map zn)] w w') := by
 have hfs : 0 < d.n → fa.isSome = true := fun h => hmf.now.isSome (j := 0) (by rw [List.length_map]; exact h)
 have hdl := dfl_len hd
 have hns : 0 < (dfl d).length → na.isSome = true := fun h => hmn.now.isSome (j := 0) (by rw [List.length_map]; exact h)
 have hpn := hd.pos_n
 have hLL : d.L ≤ 6 := hL.2
 refine enter (args := [.pointer (some ⟨b, 0, none⟩)]) [] 95 Try.func88 rfl rfl rfl ?_
 refine CT.seq (CT.region ?_)
 refine Wl.q rfl rfl (OpQ.assign rfl) ?_
 refine Wl.q rfl rfl (OpQ.assign rfl) ?_
 refine Wl.nil (PX.then_n (CT.seq (CT.region ?_)))
 refine Wl.q rfl rfl (OpQ.move rfl) ?_
 refine Wl.q rfl rfl (OpQ.nilCheckP rfl) ?_
 refine Wl.q rfl rfl (OpQ.fieldAddr zf57 rfl) ?_
 refine Wl.q rfl rfl (OpQ.loadG (a := some ⟨b, 0, none⟩) (j := 2) zf17 rfl (fun w hH => hH.use hm) rfl) ?_
 refine Wl.q rfl rfl (OpQ.len zf18 rfl) ?_
 refine Wl.g rfl rfl (OpG.make1 zf0 zf32 rfl rfl rfl rfl (by omega) (by omega)) ?_
 rintro b17 _
 refine Wl.q rfl rfl (OpQ.assign rfl) ?_
 refine Wl.nil (PX.then_n (CT.seq (CT.region ?_)))
 refine Wl.q rfl rfl (OpQ.move rfl) ?_
 refine Wl.q rfl rfl (OpQ.nilCheckP rfl) ?_
 refine Wl.q rfl rfl (OpQ.fieldAddr zf57 rfl) ?_
 refine Wl.q rfl rfl (OpQ.loadG (a := some ⟨b, 0, none⟩) (j := 2) zf17 rfl (fun w hH => hH.use hm) rfl) ?_
 refine Wl.q rfl rfl (OpQ.len zf18 rfl) ?_
 refine Wl.g rfl rfl (OpG.make1 zf0 zf32 rfl rfl rfl rfl (by omega) (by omega)) ?_
 rintro b23 _
 refine Wl.q rfl rfl (OpQ.assign rfl) ?_
 refine Wl.nil (PX.then_n (CT.seq (CT.seq (CT.region ?_))))
 refine Wl.q rfl rfl (OpQ.move rfl) ?_
 refine Wl.q rfl rfl (OpQ.nilCheckP rfl) ?_
 refine Wl.q rfl rfl (OpQ.fieldAddr zf57 rfl) ?_
 refine Wl.q rfl rfl (OpQ.loadG (a := some ⟨b, 0, none⟩) (j := 2) zf17 rfl (fun w hH => hH.use hm) rfl) ?_
 refine Wl.q rfl rfl (OpQ.len zf18 rfl) ?_
 refine Wl.q rfl rfl (OpQ.move rfl) ?_
 refine Wl.nil (PX.then_n (CT.block ?_))
 refine CT.loop (ι := Nat) (fun i => i ≤ d.n) (fun i => [(0, .pointer (some ⟨b, 0, none⟩)), (4, .slice (some ⟨b17, 0, none⟩) d.n d.n), (5, .slice (some ⟨b23, 0, none⟩) d.n d.n), (27, .slice fa d.n fc), (28, .int .i64 ((d.n : Nat) : Int)), (29, .int .i64 ((i : Nat) : Int))]) (fun i => [.row 3 1 (.slice (some ⟨b23, 0, none⟩) d.n d.n) d.n ((finK d i).map zn), .row 3 1 (.slice (some ⟨b17, 0, none⟩) d.n d.n) d.n ((List.replicate d.n 0).map zn)]) (fun i => d.n - i) 0 (Nat.zero_le _) ⟨rfl, rfl, rfl, rfl, rfl, rfl, trivial⟩ (.keep (row_eq (finK_start d)) (.keep (row_eq (by rw [List.map_replicate]; rfl)) (HSub.refl _))) (fun i hi K0 hK0 => ?_)
 refine CT.seq (CT.region ?_)
 refine Wl.q rfl rfl (OpQ.lss rfl rfl) ?_
 refine Wl.nil (PX.then_n (CT.seq ?_))
 refine CT.cond rfl (fun h30 => ?_) (fun h30 => ?_)
 ·
  have h30 := of_decide_eq_true h30
  refine CT.skip (PX.then_n (CT.seq (CT.block (CT.seq (CT.region ?_)))))
  refine Wl.q rfl rfl (OpQ.move rfl) ?_
  refine Wl.q rfl rfl (OpQ.index1 zf18 zf29 rfl rfl (by omega) (hfs (by omega))) ?_
  refine Wl.q rfl rfl (OpQ.loadG zf30 rfl (fun w hH => hH.use hmf) (getMap bo d.fin false (j := i) (by show i < d.n; omega))) ?_
  refine Wl.know 33 (v' := .bool (d.fi i)) rfl rfl ?_
  refine Wl.q rfl rfl (OpQ.assign rfl) ?_
  refine Wl.q rfl rfl (OpQ.assign rfl) ?_
  refine Wl.nil (PX.then_n (CT.seq (CT.region ?_)))
  refine Wl.q rfl rfl (OpQ.move rfl) ?_
  refine Wl.nil (PX.then_n ?_)
  refine CT.cond rfl (fun h34 => ?_) (fun h34 => ?_)
  ·
   refine CT.region ?_
   refine Wl.q rfl rfl (OpQ.move rfl) ?_
   refine Wl.q rfl rfl (OpQ.move rfl) ?_
   refine Wl.q rfl rfl (OpQ.index1 zf0 zf1 rfl rfl (by omega) rfl) ?_
   refine Wl.g rfl rfl (OpG.storeRow zf1 rfl rfl rfl .here (by rw [List.length_map]; simp [finK]; omega)) ?_
   rintro _ _
   refine Wl.nil (PX.block_n (PX.then_n (CT.region ?_)))
   refine Wl.q rfl rfl (OpQ.add rfl rfl (by omega)) ?_
   refine Wl.q rfl rfl (OpQ.move rfl) ?_
   refine Wl.nil ?_
   exact PX.loop hK0 (i + 1) (by omega) (by first | omega | (dsimp only; omega)) ⟨rfl, rfl, rfl, rfl, rfl, rfl, trivial⟩ (.keep (row_eq (finK_put h34).symm) (HSub.refl _))
  ·
   refine CT.skip (PX.block_n (PX.then_n (CT.region ?_)))
   refine Wl.q rfl rfl (OpQ.add rfl rfl (by omega)) ?_
   refine Wl.q rfl rfl (OpQ.move rfl) ?_
   refine Wl.nil ?_
   exact PX.loop hK0 (i + 1) (by omega) (by first | omega | (dsimp only; omega)) ⟨rfl, rfl, rfl, rfl, rfl, rfl, trivial⟩ (.keep (row_eq (by rw [finK_keep h34])) (HSub.refl _))
 ·
  have h30 := of_decide_eq_false h30
  obtain rfl : i = d.n := by omega
  rw [finK_end]
  refine CT.exit (PX.then_x (PX.then_x (PX.block_x (PX.then_n (CT.seq (CT.region ?_))))))
  refine Wl.q rfl rfl (OpQ.move rfl) ?_
  refine Wl.q rfl rfl (OpQ.move rfl) ?_
  refine Wl.g rfl rfl (OpG.callX zf58 rfl (.cons (.there .here) .nil) (fun _ => (.cons .nil)) (fun w hH hp => splitN_spec w b17 d.n d.n (List.replicate d.n 0) List.length_replicate hp (finL d) (some ⟨b23, 0, none⟩) d.n (Stays.rd (hH.staysK (.cons (.there .here) .nil) .here)) 1 2 (by omega) (by omega) (fun i hi => by simp [List.getD_eq_getElem?_getD, List.getElem?_replicate, hi]) (finL_len d) (fun i hi => by rw [finL_get hi]; split <;> omega) (by omega))) ?_
  rintro _ _
  refine Wl.know 41 (v' := .int .i64 ((topL (lab (finL d)) : Nat) : Int)) rfl (congrArg (Value.int .i64) (by rw [spk_zero])) ?_
  refine Wl.mem (.keep (row_eq (xs := (lab (finL d)).map zn) (by rw [spk_zero])) (HSub.refl _)) ?_
  refine Wl.q rfl rfl (OpQ.assign rfl) ?_
  refine Wl.nil (PX.then_n (CT.seq (CT.seq (CT.region ?_))))
  refine Wl.q rfl rfl (OpQ.assign rfl) ?_
  refine Wl.nil (PX.then_n (CT.block ?_))
  refine CT.loop (ι := List Nat × List Nat × Nat) (fun (c, kk, t) => Coarse d c ∧ kk.length = d.n ∧ (topL c ≤ t → Cls d c)) (fun (c, kk, t) => [(0, .pointer (some ⟨b, 0, none⟩)), (4, .slice (some ⟨b17, 0, none⟩) d.n d.n), (5, .slice (some ⟨b23, 0, none⟩) d.n d.n), (8, .int .i64 ((topL c : Nat) : Int)), (9, .int .i64 ((t : Nat) : Int))]) (fun (c, kk, t) => [.row 3 1 (.slice (some ⟨b17, 0, none⟩) d.n d.n) d.n ((c).map zn), .row 3 1 (.slice (some ⟨b23, 0, none⟩) d.n d.n) d.n ((kk).map zn)]) (fun (c, kk, t) => 513 - t) (lab (finL d), finL d, 0) ⟨finL_coarse d, finL_len d, fun h => absurd h (by have := lab_pos (c := lab (finL d)) (by rw [lab_len, finL_len]; exact hpn); omega)⟩ ⟨rfl, rfl, rfl, rfl, rfl, trivial⟩ (HSub.refl _) (fun ⟨c, kk, t⟩ ⟨hco, hkk, hcl⟩ K1 hK1 => ?_)
  dsimp only
  have h5c := h512 c hco
  refine CT.seq (CT.seq (CT.region ?_))
  refine Wl.q rfl rfl (OpQ.move rfl) ?_
  refine Wl.q rfl rfl (OpQ.move rfl) ?_
  refine Wl.q rfl rfl (OpQ.lss rfl rfl) ?_
  refine Wl.q rfl rfl (OpQ.move rfl) ?_
  refine Wl.split 45 rfl (fun hg45 => ?_) (fun hg45 => ?_)
  ·
   have hg45 := of_decide_eq_true hg45
   refine Wl.q rfl rfl (OpQ.move rfl) ?_
   refine Wl.q rfl rfl (OpQ.leq rfl rfl) ?_
   refine Wl.know 47 (v' := .bool true) rfl (congrArg Value.bool (decide_eq_true (by omega))) ?_
   refine Wl.q rfl rfl (OpQ.pickT rfl rfl) ?_
   refine Wl.nil (PX.then_n ?_)
   refine CT.condT rfl ?_
   refine CT.skip (PX.then_n (CT.block (CT.seq (CT.region ?_))))
   refine Wl.q rfl rfl (OpQ.move rfl) ?_
   refine Wl.q rfl rfl (OpQ.assign rfl) ?_
   refine Wl.nil (PX.then_n (CT.seq (CT.region ?_)))
   refine Wl.q rfl rfl (OpQ.assign rfl) ?_
   refine Wl.nil (PX.then_n (CT.block ?_))
   refine CT.loop (ι := List Nat × List Nat × Nat) (fun (c', kk, x) => x ≤ d.L ∧ Sp d c c' x ∧ kk.length = d.n) (fun (c', kk, x) => [(0, .pointer (some ⟨b, 0, none⟩)), (4, .slice (some ⟨b17, 0, none⟩) d.n d.n), (5, .slice (some ⟨b23, 0, none⟩) d.n d.n), (8, .int .i64 ((topL c' : Nat) : Int)), (9, .int .i64 ((topL c : Nat) : Int)), (10, .int .i64 ((x : Nat) : Int))]) (fun (c', kk, x) => [.row 3 1 (.slice (some ⟨b17, 0, none⟩) d.n d.n) d.n ((c').map zn), .row 3 1 (.slice (some ⟨b23, 0, none⟩) d.n d.n) d.n ((kk).map zn)]) (fun (c', kk, x) => d.L - x) (c, kk, 0) ⟨Nat.zero_le _, Sp.start hco, hkk⟩ ⟨rfl, rfl, rfl, rfl, rfl, rfl, trivial⟩ (HSub.refl _) (fun ⟨c', kk, x⟩ ⟨hx, hsp, hkk⟩ K2 hK2 => ?_)
   dsimp only
   have h5x := h512 c' hsp.co
   refine CT.seq (CT.seq (CT.region ?_))
   refine Wl.q rfl rfl (OpQ.move rfl) ?_
   refine Wl.q rfl rfl (OpQ.move rfl) ?_
   refine Wl.q rfl rfl (OpQ.nilCheckP rfl) ?_
   refine Wl.q rfl rfl (OpQ.fieldAddr zf59 rfl) ?_
   refine Wl.q rfl rfl (OpQ.loadG (a := some ⟨b, 0, none⟩) (j := 0) zf8 rfl (fun w hH => hH.use hm) rfl) ?_
   refine Wl.q rfl rfl (OpQ.lss rfl rfl) ?_
   refine Wl.q rfl rfl (OpQ.move rfl) ?_
   refine Wl.split 56 rfl (fun hg56 => ?_) (fun hg56 => ?_)
   ·
    have hg56 := of_decide_eq_true hg56
    refine Wl.q rfl rfl (OpQ.move rfl) ?_
    refine Wl.q rfl rfl (OpQ.leq rfl rfl) ?_
    refine Wl.know 58 (v' := .bool true) rfl (congrArg Value.bool (decide_eq_true (by omega))) ?_
    refine Wl.q rfl rfl (OpQ.pickT rfl rfl) ?_
    refine Wl.nil (PX.then_n ?_)
    refine CT.condT rfl ?_
    refine CT.skip (PX.then_n (CT.seq (CT.block (CT.seq (CT.seq (CT.region ?_))))))
    refine Wl.q rfl rfl (OpQ.move rfl) ?_
    refine Wl.q rfl rfl (OpQ.len zf0 rfl) ?_
    refine Wl.q rfl rfl (OpQ.move rfl) ?_
    refine Wl.nil (PX.then_n (CT.block ?_))
    refine CT.loop (ι := Nat) (fun i => i ≤ d.n) (fun i => [(0, .pointer (some ⟨b, 0, none⟩)), (4, .slice (some ⟨b17, 0, none⟩) d.n d.n), (5, .slice (some ⟨b23, 0, none⟩) d.n d.n), (8, .int .i64 ((topL c' : Nat) : Int)), (9, .int .i64 ((topL c : Nat) : Int)), (10, .int .i64 ((x : Nat) : Int)), (63, .int .i64 ((d.n : Nat) : Int)), (64, .int .i64 ((i : Nat) : Int))]) (fun i => [.row 3 1 (.slice (some ⟨b17, 0, none⟩) d.n d.n) d.n ((c').map zn), .row 3 1 (.slice (some ⟨b23, 0, none⟩) d.n d.n) d.n ((toL d c' x i ++ kk.drop i).map zn)]) (fun i => d.n - i) 0 (Nat.zero_le _) ⟨rfl, rfl, rfl, rfl, rfl, rfl, rfl, rfl, trivial⟩ (.keep rfl (.keep (row_eq (by rw [show toL d c' x 0 = [] from rfl, List.drop_zero, List.nil_append])) (HSub.refl _))) (fun i hi K3 hK3 => ?_)
    refine CT.seq (CT.region ?_)
    refine Wl.q rfl rfl (OpQ.lss rfl rfl) ?_
    refine Wl.nil (PX.then_n (CT.seq ?_))
    refine CT.cond rfl (fun h65 => ?_) (fun h65 => ?_)
    ·
     have h65 := of_decide_eq_true h65
     have hil : i < d.n := by omega
     have hxL : x < d.L := by omega
     have htl : d.to i x < d.n := hd.lt i x hil hxL
     have hiL : i * d.L ≤ 120000 := Nat.le_trans (Nat.mul_le_mul (show i ≤ 20000 by omega) hLL) (by decide)
     have hix : i * d.L + x < (dfl d).length := by rw [hdl]; have := Nat.mul_le_mul_right d.L (show i + 1 ≤ d.n from hil); rw [Nat.add_mul] at this; omega
     have hiLc : ((i : Nat) : Int) * ((d.L : Nat) : Int) = ((i * d.L : Nat) : Int) := (Int.natCast_mul _ _).symm
     refine CT.skip (PX.then_n (CT.seq (CT.block (CT.seq (CT.region ?_)))))
     refine Wl.q rfl rfl (OpQ.move rfl) ?_
     refine Wl.q rfl rfl (OpQ.assign rfl) ?_
     refine Wl.nil (PX.then_n ?_)
     refine CT.draw 20 zf6 ?_
     refine RA.q 0 (by kernel_rfl) rfl rfl rfl (.refl _) (OpQ.move rfl) ?_
     refine RA.q 1 (by kernel_rfl) rfl rfl rfl (.refl _) (OpQ.move rfl) ?_
     refine RA.q 2 (by kernel_rfl) rfl rfl rfl (.refl _) (OpQ.move rfl) ?_
     refine RA.q 3 (by kernel_rfl) rfl rfl rfl (.refl _) (OpQ.move rfl) ?_
     refine RA.q 4 (by kernel_rfl) rfl rfl rfl (.refl _) (OpQ.nilCheckP rfl) ?_
     refine RA.q 5 (by kernel_rfl) rfl rfl rfl (.refl _) (OpQ.fieldAddr zf60 rfl) ?_
     refine RA.q 6 (by kernel_rfl) rfl rfl rfl (.refl _) (OpQ.loadG (a := some ⟨b, 0, none⟩) (j := 1) zf10 rfl (fun w hH => hH.use hm) rfl) ?_
     refine RA.q 7 (by kernel_rfl) rfl rfl rfl (.refl _) (OpQ.move rfl) ?_
     refine RA.q 8 (by kernel_rfl) rfl rfl rfl (.refl _) (OpQ.move rfl) ?_
     refine RA.q 9 (by kernel_rfl) rfl rfl rfl (.refl _) (OpQ.nilCheckP rfl) ?_
     refine RA.q 10 (by kernel_rfl) rfl rfl rfl (.refl _) (OpQ.fieldAddr zf59 rfl) ?_
     refine RA.q 11 (by kernel_rfl) rfl rfl rfl (.refl _) (OpQ.loadG (a := some ⟨b, 0, none⟩) (j := 0) zf8 rfl (fun w hH => hH.use hm) rfl) ?_
     refine RA.q 12 (by kernel_rfl) rfl rfl rfl (.refl _) (OpQ.mul rfl rfl (by rw [hiLc]; omega)) ?_
     refine RA.know 79 (v' := .int .i64 (((i * d.L) : Nat) : Int)) rfl (congrArg (Value.int .i64) hiLc) ?_
     refine RA.q 13 (by kernel_rfl) rfl rfl rfl (.refl _) (OpQ.move rfl) ?_
     refine RA.q 14 (by kernel_rfl) rfl rfl rfl (.refl _) (OpQ.add rfl rfl (by omega)) ?_
     refine RA.know 81 (v' := .int .i64 (((i * d.L + x) : Nat) : Int)) rfl (congrArg (Value.int .i64) (by rw [Int.natCast_add])) ?_
     refine RA.q 15 (by kernel_rfl) rfl rfl rfl (.refl _) (OpQ.index1 zf0 zf1 rfl rfl (by omega) (hns (by omega))) ?_
     refine RA.q 16 (by kernel_rfl) rfl rfl rfl (.refl _) (OpQ.loadG zf8 rfl (fun w hH => hH.use hmn) (getMap zz (dfl d) 0 (j := i * d.L + x) hix)) ?_
     refine RA.know 83 (v' := .int .i64 (((d.to i x) : Nat) : Int)) rfl (congrArg (Value.int .i64) (dfl_get hd hil hxL)) ?_
     refine RA.q 17 (by kernel_rfl) rfl rfl rfl (.refl _) (OpQ.index1 zf0 zf1 rfl rfl (by omega) rfl) ?_
     refine RA.q 18 (by kernel_rfl) rfl rfl rfl (.refl _) (OpQ.loadRow zf8 rfl .here (getMap zn c' 0 (j := d.to i x) (by rw [hsp.co.len]; exact htl))) ?_
     refine RA.q 19 (by kernel_rfl) rfl rfl rfl (.refl _) (OpQ.index1 zf0 zf1 rfl rfl (by omega) rfl) ?_
     refine RA.tail ?_
     refine RT.f 20 (by kernel_rfl) rfl rfl rfl (OpG.storeRow zf1 rfl rfl rfl (.there .here) (by rw [List.length_map, toP_len hkk hi]; exact hil)) ?_
     rintro _ _
     refine RT.done (by kernel_rfl) ?_
     refine PX.block_n (PX.then_n (CT.region ?_))
     refine Wl.q rfl rfl (OpQ.add rfl rfl (by omega)) ?_
     refine Wl.q rfl rfl (OpQ.move rfl) ?_
     refine Wl.nil ?_
     exact PX.loop hK3 (i + 1) (by omega) (by first | omega | (dsimp only; omega)) ⟨rfl, rfl, rfl, rfl, rfl, rfl, rfl, rfl, trivial⟩ (.keep rfl (.keep (row_eq (toP_put hkk hil).symm) (HSub.refl _)))
    ·
     have h65 := of_decide_eq_false h65
     obtain rfl : i = d.n := by omega
     refine CT.mem (.keep rfl (.keep (row_eq (xs := (toL d c' x d.n).map zn) (by rw [show kk.drop d.n = [] from List.drop_eq_nil_of_le (by omega), List.append_nil])) (HSub.refl _))) ?_
     refine CT.exit (PX.then_x (PX.then_x (PX.block_x (PX.then_n (CT.region ?_)))))
     refine Wl.q rfl rfl (OpQ.move rfl) ?_
     refine Wl.q rfl rfl (OpQ.move rfl) ?_
     refine Wl.q rfl rfl (OpQ.move rfl) ?_
     refine Wl.q rfl rfl (OpQ.move rfl) ?_
     refine Wl.g rfl rfl (OpG.callX zf58 rfl (.cons .here .nil) (fun _ => (.cons .nil)) (fun w hH hp => splitN_spec w b17 d.n d.n c' hsp.co.len hp (toL d c' x d.n) (some ⟨b23, 0, none⟩) d.n (Stays.rd (hH.staysK (.cons .here .nil) .here)) (topL c') (topL c') h5x (Nat.le_succ_of_le h5x) (fun i hi => topL_all c' (by rw [hsp.co.len]; exact hi)) (toL_len _ _ _ _) (fun i hi => by rw [toL_get hi]; exact topL_all c' (by rw [hsp.co.len]; exact hd.lt i x hi (by omega))) (by omega))) ?_
     rintro _ _
     refine Wl.q rfl rfl (OpQ.assign rfl) ?_
     refine Wl.nil (PX.block_n (PX.then_n (CT.region ?_)))
     refine Wl.q rfl rfl (OpQ.move rfl) ?_
     refine Wl.q rfl rfl (OpQ.add rfl rfl (by omega)) ?_
     refine Wl.q rfl rfl (OpQ.assign rfl) ?_
     refine Wl.nil ?_
     exact PX.loop hK2 ((lab (spk c' (toL d c' x d.n) (topL c'))), toL d c' x d.n, x + 1) ⟨by omega, hsp.step hd (by omega), toL_len _ _ _ _⟩ (show d.L - (x + 1) < d.L - x by omega) ⟨rfl, rfl, rfl, rfl, rfl, rfl, trivial⟩ (HSub.refl _)
   ·
    have hg56 := of_decide_eq_false hg56
    refine Wl.skip rfl rfl ?_
    refine Wl.skip rfl rfl ?_
    refine Wl.q rfl rfl (OpQ.pickF rfl rfl) ?_
    refine Wl.nil (PX.then_n ?_)
    refine CT.condF rfl ?_
    refine CT.exit (PX.then_x (PX.then_x (PX.block_x (PX.block_n ?_))))
    exact PX.loop hK1 (c', kk, topL c) ⟨hsp.co, hkk, fun h => Sp.done hd (by rw [show d.L = x by omega]; exact hsp) h⟩ (show 513 - topL c < 513 - t by omega) ⟨rfl, rfl, rfl, rfl, rfl, trivial⟩ (HSub.refl _)
  ·
   have hg45 := of_decide_eq_false hg45
   refine Wl.skip rfl rfl ?_
   refine Wl.skip rfl rfl ?_
   refine Wl.q rfl rfl (OpQ.pickF rfl rfl) ?_
   refine Wl.nil (PX.then_n ?_)
   refine CT.condF rfl ?_
   refine CT.exit (PX.then_x (PX.then_x (PX.block_x (PX.then_n (CT.seq (CT.region ?_))))))
   refine Wl.q rfl rfl (OpQ.move rfl) ?_
   refine Wl.q rfl rfl (OpQ.move rfl) ?_
   refine Wl.q rfl rfl (OpQ.assign rfl) ?_
   refine Wl.q rfl rfl (OpQ.assign rfl) ?_
   refine Wl.nil (PX.then_n (CT.ret ?_))
   refine PX.ret2 rfl rfl rfl (fun w' hH => ?_)
   exact ⟨(c, some ⟨b17, 0, none⟩, d.n), ⟨hcl (by omega), h5c⟩, rfl, (hH.take (.cons .here .nil)).post⟩

end Go.Proofs.Ytamolakhpcofhaa

