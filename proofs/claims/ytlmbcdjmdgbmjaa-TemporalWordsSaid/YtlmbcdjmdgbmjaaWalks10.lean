/-
  What functions of the packages temporal and semigroupref39 compute, each by its walk. Conditions: those that each theorem names.
-/
import Derived.Test.YtlmbcdjmdgbmjaaMod
import Derived.Test.YtlmbcdjmdgbmjaaLaws4
set_option linter.unusedSimpArgs false
namespace Go.Proofs.Ytlmbcdjmdgbmjaa
open Go Go.Eng Go.Tl
open Go.Tp (zi)

theorem M_un3 : Try.prog.underlying 3 = some (.int .i64) := by kernel_rfl
theorem M_un77 : Try.prog.underlying 77 = some (.int .u64) := by kernel_rfl
theorem M_in80 : (Try.prog.info? 80).map (fun i => (i.zero, i.size, i.bytes)) = some (some (.agg #[.int .u64 0, .int .u64 0, .int .u64 0, .int .u64 0, .int .u64 0, .int .u64 0, .int .u64 0, .int .u64 0, .int .u64 0, .int .u64 0, .int .u64 0, .int .u64 0]), 12, 96) := by kernel_rfl
theorem M_fa41_0 : fieldB Try.prog 41 0 = some 0 := by kernel_rfl
theorem M_sc25 : scalarB Try.prog 25 = some true := by kernel_rfl
theorem M_un25 : Try.prog.underlying 25 = some (.slice 3) := by kernel_rfl
theorem M_sz3 : sizeB Try.prog 3 = some 1 := by kernel_rfl
theorem M_sc3 : scalarB Try.prog 3 = some true := by kernel_rfl
theorem M_mixed : Try.prog.follows .mixedOrders = true := by kernel_rfl
theorem M_fa80_0 : fieldB Try.prog 80 0 = some 0 := by kernel_rfl
theorem M_un78 : Try.prog.underlying 78 = some (.array 6 77) := by kernel_rfl
theorem M_sz77 : sizeB Try.prog 77 = some 1 := by kernel_rfl
theorem M_sc77 : scalarB Try.prog 77 = some true := by kernel_rfl
theorem M_fa41_1 : fieldB Try.prog 41 1 = some 1 := by kernel_rfl
theorem M_fa80_1 : fieldB Try.prog 80 1 = some 6 := by kernel_rfl
theorem M_ag80 : isAggB Try.prog 80 = some true := by kernel_rfl
theorem M_sz80 : sizeB Try.prog 80 = some 12 := by kernel_rfl
set_option maxRecDepth 100000 in
/-- semigroup/monomial.movesOf -/
theorem moves_spec (w : World) (m_ : Mo) (hm : Stays [] w (MoR m_)) (he : moE m_ 6 = 0) : Calls Try.prog 45 #[.agg (mov m_).toArray] w (fun e w' => ∃ T : Nat → BitVec 64, Tab T (LF m_.sets m_.sets.length 0) (GF m_.lets m_.lets.length) ∧ e = .returned (.agg (tcl T).toArray) ∧ Ext [] w w') := by
  obtain ⟨_, hll, hsl, hst, hlt⟩ := mo_parts he
  refine enter (args := [.agg (mov m_).toArray]) [] 55 Try.func45 rfl rfl rfl ?_
  refine CT.seq ?_
  -- region 0: pairs.go:17
  refine CT.region ?_
  refine Wl.g rfl rfl (OpG.box (size := 2) rfl rfl rfl) ?_
  rintro b1 _
  refine Wl.g rfl rfl (OpG.alloc (zs := [.int .u64 0, .int .u64 0, .int .u64 0, .int .u64 0, .int .u64 0, .int .u64 0, .int .u64 0, .int .u64 0, .int .u64 0, .int .u64 0, .int .u64 0, .int .u64 0]) M_in80 rfl rfl) ?_
  rintro b2 _
  refine Wl.nil ?_
  refine PX.then_n ?_
  refine CT.seq ?_
  -- region 1: pairs.go:18
  refine CT.region ?_
  refine Wl.g rfl rfl (OpG.alloc (zs := [.int .u64 0, .int .u64 0, .int .u64 0, .int .u64 0, .int .u64 0, .int .u64 0, .int .u64 0, .int .u64 0, .int .u64 0, .int .u64 0, .int .u64 0, .int .u64 0]) M_in80 rfl rfl) ?_
  rintro b3 _
  refine Wl.nil ?_
  refine PX.then_n ?_
  refine CT.seq ?_
  refine CT.seq ?_
  -- region 2: pairs.go:19
  refine CT.region ?_
  refine Wl.q rfl rfl (OpQ.fieldAddr M_fa41_0 rfl) ?_
  refine Wl.q rfl rfl (OpQ.loadF (b := b1) M_sc25 rfl (by repeat (first | exact Has.here | apply Has.there)) (by rfl)) ?_
  refine Wl.q rfl rfl (OpQ.len M_un25 rfl) ?_
  refine Wl.q rfl rfl (OpQ.move rfl) ?_
  refine Wl.nil ?_
  refine PX.then_n ?_
  refine CT.block ?_
  -- the loop at region 3
  refine CT.loop (ι := Nat × (Nat → BitVec 64)) (fun (k, T) => k ≤ m_.sets.length ∧ Tab T (LF m_.sets k 0) (GF m_.lets 0)) (fun (k, T) => [(1, .pointer (some ⟨b1, 0, none⟩)), (2, .pointer (some ⟨b2, 0, none⟩)), (3, .pointer (some ⟨b3, 0, none⟩)), (10, .slice m_.sa m_.sets.length m_.sc), (11, .int .i64 (m_.sets.length : Int)), (12, .int .i64 (k : Int))]) (fun (k, T) => [.row 80 12 (vb b3) 1 (tcl T), .row 80 12 (vb b2) 1 (tcl (fun _ => 0#64)), .row 41 2 (vb b1) 1 (mov m_)]) (fun (k, T) => m_.sets.length - k) (0, fun _ => 0#64) ⟨Nat.zero_le _, tab_zero _ _⟩ ⟨rfl, rfl, rfl, rfl, rfl, rfl, trivial⟩ (.keep rfl (.keep rfl (.keep rfl .nil))) (fun ⟨k, T⟩ ⟨hk, hT⟩ K0 hK0 => ?_)
  dsimp only
  refine CT.seq ?_
  -- region 3: pairs.go:19
  refine CT.region ?_
  refine Wl.q rfl rfl (OpQ.lss rfl rfl) ?_
  refine Wl.nil ?_
  refine PX.then_n ?_
  refine CT.seq ?_
  refine CT.cond rfl (fun h13 => ?_) (fun h13 => ?_)
  · -- if t13: then
    have h13 := of_decide_eq_true h13
    refine CT.skip ?_
    refine PX.then_n ?_
    refine CT.seq ?_
    refine CT.block ?_
    refine CT.seq ?_
    -- region 4: pairs.go:19
    refine CT.region ?_
    refine Wl.q rfl rfl (OpQ.move rfl) ?_
    refine Wl.q rfl rfl (OpQ.index1 M_un25 M_sz3 rfl rfl (by omega) (hm.now.1.isSome (j := 0) (by rw [List.length_map]; omega))) ?_
    refine Wl.q rfl rfl (OpQ.loadG M_sc3 rfl (fun w hH => (hH.use hm).1) (getMap zi m_.sets 0 (j := k) (by omega))) ?_
    refine Wl.q rfl rfl (OpQ.assign rfl) ?_
    refine Wl.q rfl rfl (OpQ.assign rfl) ?_
    refine Wl.nil ?_
    refine PX.then_n ?_
    refine CT.seq ?_
    -- region 5: pairs.go:20
    refine CT.region ?_
    refine Wl.q rfl rfl (OpQ.move rfl) ?_
    refine Wl.nil ?_
    refine PX.then_n ?_
    refine CT.block ?_
    -- the loop at region 6
    have hsk := okS_get hst (j := k) (by omega)
    refine CT.loop (ι := Nat × (Nat → BitVec 64)) (fun (j, T2) => j ≤ 6 ∧ Tab T2 (LF m_.sets k j) (GF m_.lets 0)) (fun (j, T2) => [(1, .pointer (some ⟨b1, 0, none⟩)), (2, .pointer (some ⟨b2, 0, none⟩)), (3, .pointer (some ⟨b3, 0, none⟩)), (4, .int .i64 (k : Int)), (5, .int .i64 (m_.sets.getD k 0)), (10, .slice m_.sa m_.sets.length m_.sc), (11, .int .i64 (m_.sets.length : Int)), (12, .int .i64 (k : Int)), (17, .int .i64 (j : Int))]) (fun (j, T2) => [.row 80 12 (vb b3) 1 (tcl T2), .row 80 12 (vb b2) 1 (tcl (fun _ => 0#64)), .row 41 2 (vb b1) 1 (mov m_)]) (fun (j, T2) => 6 - j) (0, T) ⟨Nat.zero_le _, hT⟩ ⟨rfl, rfl, rfl, rfl, rfl, rfl, rfl, rfl, rfl, trivial⟩ (HSub.refl _) (fun ⟨j, T2⟩ ⟨hj, hT2⟩ K1 hK1 => ?_)
    dsimp only
    refine CT.seq ?_
    -- region 6: pairs.go:20
    refine CT.region ?_
    refine Wl.q rfl rfl (OpQ.lss rfl rfl) ?_
    refine Wl.nil ?_
    refine PX.then_n ?_
    refine CT.seq ?_
    refine CT.cond rfl (fun h18 => ?_) (fun h18 => ?_)
    · -- if t18: then
      have h18 := of_decide_eq_true h18
      refine CT.skip ?_
      refine PX.then_n ?_
      refine CT.seq ?_
      refine CT.block ?_
      refine CT.seq ?_
      -- region 7: pairs.go:20
      refine CT.region ?_
      refine Wl.q rfl rfl (OpQ.move rfl) ?_
      refine Wl.q rfl rfl (OpQ.assign rfl) ?_
      refine Wl.nil ?_
      refine PX.then_n ?_
      -- region 8, drawn: pairs.go:21
      refine CT.draw 14 M_mixed ?_
      refine RA.q 0 (by kernel_rfl) rfl rfl rfl (.refl _) (OpQ.move rfl) ?_
      refine RA.q 1 (by kernel_rfl) rfl rfl rfl (.refl _) (OpQ.fieldAddr M_fa80_0 rfl) ?_
      refine RA.q 2 (by kernel_rfl) rfl rfl rfl (.refl _) (OpQ.indexArr1 M_un78 M_sz77 rfl rfl (by omega)) ?_
      refine RA.know 22 rfl (add_ptr _ _ _) ?_
      refine RA.q 3 (by kernel_rfl) rfl rfl rfl (.refl _) (OpQ.loadF (b := b3) M_sc77 rfl (by repeat (first | exact Has.here | apply Has.there)) (by rw [Nat.zero_add, Int.toNat_natCast]; exact tcl_get T2 (by omega))) ?_
      refine RA.q 4 (by kernel_rfl) rfl rfl rfl (.refl _) (OpQ.move rfl) ?_
      refine RA.know 24 (v' := .int .i64 (((m_.sets.getD k 0).toNat : Nat) : Int)) rfl (congrArg (Value.int .i64) (by omega)) ?_
      refine RA.q 5 (by kernel_rfl) rfl rfl rfl (.refl _) (OpQ.move rfl) ?_
      refine RA.q 6 (by kernel_rfl) rfl rfl rfl (.refl _) (OpQ.ishr rfl rfl (by omega)) ?_
      refine RA.q 7 (by kernel_rfl) rfl rfl rfl (.refl _) (OpQ.iand1 rfl rfl) ?_
      refine RA.q 8 (by kernel_rfl) rfl rfl rfl (.refl _) (OpQ.conv rfl (conv_nat_u M_un3 M_un77 _ (by omega))) ?_
      refine RA.know 28 (v' := u (bb (hasB (m_.sets.getD k 0) j))) rfl (hasB_u _ _) ?_
      refine RA.q 9 (by kernel_rfl) rfl rfl rfl (.refl _) (OpQ.move rfl) ?_
      refine RA.q 10 (by kernel_rfl) rfl rfl rfl (.refl _) (OpQ.ushlN rfl rfl) ?_
      refine RA.q 11 (by kernel_rfl) rfl rfl rfl (.refl _) (OpQ.uor rfl rfl) ?_
      refine RA.q 12 (by kernel_rfl) rfl rfl rfl (.refl _) (OpQ.fieldAddr M_fa80_0 rfl) ?_
      refine RA.q 13 (by kernel_rfl) rfl rfl rfl (.refl _) (OpQ.indexArr1 M_un78 M_sz77 rfl rfl (by omega)) ?_
      refine RA.know 33 rfl (add_ptr _ _ _) ?_
      refine RA.tail ?_
      refine RT.f 14 (by kernel_rfl) rfl rfl rfl (OpG.storeRow (a := some ⟨b3, 0, none⟩) M_sz77 rfl rfl rfl (by repeat (first | exact Upd.here | apply Upd.there)) (by show 0 + (j : Int).toNat < 12; omega)) ?_
      rintro _ _
      refine RT.done (by kernel_rfl) ?_
      refine PX.block_n ?_
      refine PX.then_n ?_
      -- region 9: pairs.go:20
      refine CT.region ?_
      refine Wl.q rfl rfl (OpQ.add rfl rfl (by omega)) ?_
      refine Wl.q rfl rfl (OpQ.move rfl) ?_
      refine Wl.nil ?_
      exact PX.loop hK1 (j + 1, upd T2 j (T2 j ||| bb (hasB (m_.sets.getD k 0) j) <<< k)) ⟨by omega, tab_lo hT2 (by omega)⟩ (show 6 - (j + 1) < 6 - j by omega) ⟨rfl, rfl, rfl, rfl, rfl, rfl, rfl, rfl, rfl, trivial⟩ (.keep (row_eq (by rw [Nat.zero_add, Int.toNat_natCast]; exact (tcl_set _ _ _).symm)) (.keep rfl (.keep rfl .nil)))
    · -- if t18: else
      have h18 := of_decide_eq_false h18
      refine CT.exit ?_
      refine PX.then_x ?_
      refine PX.then_x ?_
      refine PX.block_x ?_
      refine PX.block_n ?_
      refine PX.then_n ?_
      -- region 10: pairs.go:19
      refine CT.region ?_
      refine Wl.q rfl rfl (OpQ.add rfl rfl (by omega)) ?_
      refine Wl.q rfl rfl (OpQ.move rfl) ?_
      refine Wl.nil ?_
      exact PX.loop hK0 (k + 1, T2) ⟨by omega, tab_row hT2 (by omega)⟩ (show m_.sets.length - (k + 1) < m_.sets.length - k by omega) ⟨rfl, rfl, rfl, rfl, rfl, rfl, trivial⟩ (HSub.refl _)
  · -- if t13: else
    have h13 := of_decide_eq_false h13
    refine CT.exit ?_
    refine PX.then_x ?_
    refine PX.then_x ?_
    refine PX.block_x ?_
    refine PX.then_n ?_
    refine CT.seq ?_
    refine CT.seq ?_
    -- region 11: pairs.go:24
    refine CT.region ?_
    refine Wl.q rfl rfl (OpQ.fieldAddr M_fa41_1 rfl) ?_
    refine Wl.q rfl rfl (OpQ.loadF (b := b1) M_sc25 rfl (by repeat (first | exact Has.here | apply Has.there)) (by rfl)) ?_
    refine Wl.q rfl rfl (OpQ.len M_un25 rfl) ?_
    refine Wl.q rfl rfl (OpQ.move rfl) ?_
    refine Wl.nil ?_
    refine PX.then_n ?_
    refine CT.block ?_
    -- the loop at region 12
    obtain rfl : k = m_.sets.length := by omega
    refine CT.loop (ι := Nat × (Nat → BitVec 64)) (fun (q, T) => q ≤ m_.lets.length ∧ Tab T (LF m_.sets m_.sets.length 0) (GF m_.lets q)) (fun (q, T) => [(1, .pointer (some ⟨b1, 0, none⟩)), (2, .pointer (some ⟨b2, 0, none⟩)), (3, .pointer (some ⟨b3, 0, none⟩)), (37, .slice m_.la m_.lets.length m_.lc), (38, .int .i64 (m_.lets.length : Int)), (39, .int .i64 (q : Int))]) (fun (q, T) => [.row 80 12 (vb b3) 1 (tcl T), .row 80 12 (vb b2) 1 (tcl (fun _ => 0#64)), .row 41 2 (vb b1) 1 (mov m_)]) (fun (q, T) => m_.lets.length - q) (0, T) ⟨Nat.zero_le _, hT⟩ ⟨rfl, rfl, rfl, rfl, rfl, rfl, trivial⟩ (HSub.refl _) (fun ⟨q, T⟩ ⟨hq, hT⟩ K2 hK2 => ?_)
    dsimp only
    refine CT.seq ?_
    -- region 12: pairs.go:24
    refine CT.region ?_
    refine Wl.q rfl rfl (OpQ.lss rfl rfl) ?_
    refine Wl.nil ?_
    refine PX.then_n ?_
    refine CT.seq ?_
    refine CT.cond rfl (fun h40 => ?_) (fun h40 => ?_)
    · -- if t40: then
      have h40 := of_decide_eq_true h40
      have hlq : 0 ≤ (m_.lets.getD q 0) ∧ (m_.lets.getD q 0) < 6 := okA_get hlt (j := q) (by omega)
      refine CT.skip ?_
      refine PX.then_n ?_
      refine CT.seq ?_
      refine CT.block ?_
      refine CT.seq ?_
      -- region 13: pairs.go:24
      refine CT.region ?_
      refine Wl.q rfl rfl (OpQ.move rfl) ?_
      refine Wl.q rfl rfl (OpQ.index1 M_un25 M_sz3 rfl rfl (by omega) (hm.now.2.isSome (j := 0) (by rw [List.length_map]; omega))) ?_
      refine Wl.q rfl rfl (OpQ.loadG M_sc3 rfl (fun w hH => (hH.use hm).2) (getMap zi m_.lets 0 (j := q) (by omega))) ?_
      refine Wl.q rfl rfl (OpQ.assign rfl) ?_
      refine Wl.q rfl rfl (OpQ.assign rfl) ?_
      refine Wl.nil ?_
      refine PX.then_n ?_
      -- region 14, drawn: pairs.go:25
      refine CT.draw 9 M_mixed ?_
      refine RA.q 0 (by kernel_rfl) rfl rfl rfl (.refl _) (OpQ.move rfl) ?_
      refine RA.q 1 (by kernel_rfl) rfl rfl rfl (.refl _) (OpQ.fieldAddr M_fa80_1 rfl) ?_
      refine RA.q 2 (by kernel_rfl) rfl rfl rfl (.refl _) (OpQ.indexArr1 M_un78 M_sz77 rfl rfl (by omega)) ?_
      refine RA.know 46 rfl (add_ptr _ _ _) ?_
      refine RA.q 3 (by kernel_rfl) rfl rfl rfl (.refl _) (OpQ.loadF (b := b3) M_sc77 rfl (by repeat (first | exact Has.here | apply Has.there)) (tcl_get T (by omega))) ?_
      refine RA.q 4 (by kernel_rfl) rfl rfl rfl (.refl _) (OpQ.move rfl) ?_
      refine RA.q 5 (by kernel_rfl) rfl rfl rfl (.refl _) (OpQ.ushlN (p := 1#64) rfl rfl) ?_
      refine RA.q 6 (by kernel_rfl) rfl rfl rfl (.refl _) (OpQ.uor rfl rfl) ?_
      refine RA.q 7 (by kernel_rfl) rfl rfl rfl (.refl _) (OpQ.fieldAddr M_fa80_1 rfl) ?_
      refine RA.q 8 (by kernel_rfl) rfl rfl rfl (.refl _) (OpQ.indexArr1 M_un78 M_sz77 rfl rfl (by omega)) ?_
      refine RA.know 52 rfl (add_ptr _ _ _) ?_
      refine RA.tail ?_
      refine RT.f 9 (by kernel_rfl) rfl rfl rfl (OpG.storeRow (a := some ⟨b3, 0, none⟩) M_sz77 rfl rfl rfl (by repeat (first | exact Upd.here | apply Upd.there)) (by show 6 + (m_.lets.getD q 0).toNat < 12; omega)) ?_
      rintro _ _
      refine RT.done (by kernel_rfl) ?_
      refine PX.block_n ?_
      refine PX.then_n ?_
      -- region 15: pairs.go:24
      refine CT.region ?_
      refine Wl.q rfl rfl (OpQ.add rfl rfl (by omega)) ?_
      refine Wl.q rfl rfl (OpQ.move rfl) ?_
      refine Wl.nil ?_
      exact PX.loop hK2 (q + 1, upd T (6 + (m_.lets.getD q 0).toNat) (T (6 + (m_.lets.getD q 0).toNat) ||| 1#64 <<< q)) ⟨by omega, tab_st hT hlq⟩ (show m_.lets.length - (q + 1) < m_.lets.length - q by omega) ⟨rfl, rfl, rfl, rfl, rfl, rfl, trivial⟩ (.keep (row_eq (tcl_set _ _ _).symm) (.keep rfl (.keep rfl .nil)))
    · -- if t40: else
      have h40 := of_decide_eq_false h40
      refine CT.exit ?_
      refine PX.then_x ?_
      refine PX.then_x ?_
      refine PX.block_x ?_
      refine PX.then_n ?_
      refine CT.seq ?_
      -- region 16: pairs.go:27
      refine CT.region ?_
      refine Wl.q rfl rfl (OpQ.loadV (b := b3) M_ag80 M_sz80 rfl (by repeat (first | exact Has.here | apply Has.there)) (by rfl)) ?_
      refine Wl.g rfl rfl (OpG.storeV (b := b2) M_sz80 rfl rfl rfl rfl (by repeat (first | exact Upd.here | apply Upd.there))) ?_
      rintro _ _
      refine Wl.nil ?_
      refine PX.then_n ?_
      refine CT.ret ?_
      refine PX.retC rfl rfl (by repeat (first | exact Has.here | apply Has.there)) M_ag80 M_sz80 (by rfl) (fun w' hH => ?_)
      obtain rfl : q = m_.lets.length := by omega
      exact ⟨T, hT, rfl, hH.ext⟩

theorem M_ag41 : isAggB Try.prog 41 = some true := by kernel_rfl
theorem M_sz41 : sizeB Try.prog 41 = some 2 := by kernel_rfl
theorem M_go35 : isGo Try.prog 35 = true := by kernel_rfl
theorem M_go31 : isGo Try.prog 31 = true := by kernel_rfl
theorem M_go45 : isGo Try.prog 45 = true := by kernel_rfl
theorem M_un9 : Try.prog.underlying 9 = some .string := by kernel_rfl
set_option maxRecDepth 100000 in
/-- semigroup/monomial.Match -/
theorem matchM_spec (w : World) (m_ : Mo) (hm : Stays [] w (MoR m_)) (ws : Wd) (hn : ws.length ≤ 9223372036854775807) : Calls Try.prog 24 #[.agg (mov m_).toArray, sv ws] w (fun e w' => e = .returned (.bool (matC m_ ws)) ∧ Ext [] w w') := by
  refine enter (args := [.agg (mov m_).toArray, sv ws]) [] 50 Try.func24 rfl rfl rfl ?_
  refine CT.seq ?_
  -- region 0: monomial.go:42
  refine CT.region ?_
  refine Wl.g rfl rfl (OpG.box (size := 2) rfl rfl rfl) ?_
  rintro b2 _
  refine Wl.q rfl rfl (OpQ.assign rfl) ?_
  refine Wl.nil ?_
  refine PX.then_n ?_
  refine CT.seq ?_
  refine CT.seq ?_
  -- region 1: monomial.go:43
  refine CT.region ?_
  refine Wl.q rfl rfl (OpQ.loadV (b := b2) M_ag41 M_sz41 rfl (by repeat (first | exact Has.here | apply Has.there)) (by rfl)) ?_
  refine Wl.g rfl rfl (OpG.callV M_go35 rfl (fun w hH => movalid_spec w m_ (hH.stays0 hm) 6)) ?_
  rintro _ _
  refine Wl.q rfl rfl (OpQ.neq rfl rfl) ?_
  refine Wl.q rfl rfl (OpQ.move rfl) ?_
  refine Wl.split 12 rfl (fun hg12 => ?_) (fun hg12 => ?_)
  · -- t12 = True
    have hg12 := of_nd_t hg12
    refine Wl.skip rfl rfl ?_
    refine Wl.skip rfl rfl ?_
    refine Wl.skip rfl rfl ?_
    refine Wl.q rfl rfl (OpQ.pickT rfl rfl) ?_
    refine Wl.nil ?_
    refine PX.then_n ?_
    refine CT.condT rfl ?_
    refine CT.seq ?_
    -- region 2: monomial.go:44
    refine CT.region ?_
    refine Wl.q rfl rfl (OpQ.assign rfl) ?_
    refine Wl.nil ?_
    refine PX.then_n ?_
    refine CT.ret ?_
    refine PX.then_r ?_
    refine PX.ret1 rfl rfl (fun w' hH => ?_)
    exact ⟨ret_b (matC_no (.inl (by omega))).symm, hH.ext⟩
  · -- t12 = False
    have hg12 := of_nd_f hg12
    refine Wl.q rfl rfl (OpQ.move rfl) ?_
    refine Wl.g rfl rfl (OpG.callV M_go31 rfl (fun w hH => wvalid_spec w ws hn 6)) ?_
    rintro _ _
    refine Wl.q rfl rfl (OpQ.not rfl) ?_
    refine Wl.q rfl rfl (OpQ.pickF rfl rfl) ?_
    refine Wl.nil ?_
    refine PX.then_n ?_
    refine CT.cond rfl (fun h16 => ?_) (fun h16 => ?_)
    · -- if t16: then
      refine CT.seq ?_
      -- region 2: monomial.go:44
      refine CT.region ?_
      refine Wl.q rfl rfl (OpQ.assign rfl) ?_
      refine Wl.nil ?_
      refine PX.then_n ?_
      refine CT.ret ?_
      refine PX.then_r ?_
      refine PX.ret1 rfl rfl (fun w' hH => ?_)
      exact ⟨ret_b (matC_no (.inr (by simpa using h16))).symm, hH.ext⟩
    · -- if t16: else
      have he : moE m_ 6 = 0 := by omega
      have hok : okW ws 6 = true := by simpa using h16
      obtain ⟨_, hll, hsl, hst, hlt⟩ := mo_parts he
      refine CT.skip ?_
      refine PX.then_n ?_
      refine CT.seq ?_
      -- region 3: monomial.go:46
      refine CT.region ?_
      refine Wl.q rfl rfl (OpQ.loadV (b := b2) M_ag41 M_sz41 rfl (by repeat (first | exact Has.here | apply Has.there)) (by rfl)) ?_
      refine Wl.g rfl rfl (OpG.call M_go45 rfl (fun w hH => (moves_spec w m_ (hH.stays0 hm) he).mono fun e w' ⟨T, h1, h2, h3⟩ => ⟨T, h1, h2, hH.ext_nil h3⟩)) ?_
      rintro T hT
      refine Wl.know 18 (v' := .agg (tcl T).toArray) rfl rfl ?_
      refine Wl.g rfl rfl (OpG.alloc (zs := [.int .u64 0, .int .u64 0, .int .u64 0, .int .u64 0, .int .u64 0, .int .u64 0, .int .u64 0, .int .u64 0, .int .u64 0, .int .u64 0, .int .u64 0, .int .u64 0]) M_in80 rfl rfl) ?_
      rintro b5 _
      refine Wl.g rfl rfl (OpG.storeV (b := b5) M_sz80 rfl rfl rfl rfl (by repeat (first | exact Upd.here | apply Upd.there))) ?_
      rintro _ _
      refine Wl.nil ?_
      refine PX.then_n ?_
      refine CT.seq ?_
      -- region 4: monomial.go:47
      refine CT.region ?_
      refine Wl.q rfl rfl (OpQ.assign rfl) ?_
      refine Wl.nil ?_
      refine PX.then_n ?_
      refine CT.seq ?_
      refine CT.seq ?_
      -- region 5: monomial.go:48
      refine CT.region ?_
      refine Wl.q rfl rfl (OpQ.move rfl) ?_
      refine Wl.q rfl rfl (OpQ.lenSv M_un9 rfl) ?_
      refine Wl.q rfl rfl (OpQ.move rfl) ?_
      refine Wl.nil ?_
      refine PX.then_n ?_
      refine CT.block ?_
      -- the loop at region 6
      refine CT.loop (ι := Nat × BitVec 64) (fun (k, v) => k ≤ ws.length ∧ Bits v m_.sets.length (stF m_.sets m_.lets (ws.take k) nst0)) (fun (k, v) => [(1, sv ws), (2, .pointer (some ⟨b2, 0, none⟩)), (5, .pointer (some ⟨b5, 0, none⟩)), (6, u v), (20, .int .i64 (ws.length : Int)), (21, .int .i64 (k : Int))]) (fun (k, v) => [.row 80 12 (vb b5) 1 (tcl T), .row 41 2 (vb b2) 1 (mov m_)]) (fun (k, v) => ws.length - k) (0, 1#64) ⟨Nat.zero_le _, bits_start _⟩ ⟨rfl, rfl, rfl, rfl, rfl, rfl, trivial⟩ (HSub.refl _) (fun ⟨k, v⟩ ⟨hk, hv⟩ K0 hK0 => ?_)
      dsimp only
      refine CT.seq ?_
      -- region 6: monomial.go:48
      refine CT.region ?_
      refine Wl.q rfl rfl (OpQ.lss rfl rfl) ?_
      refine Wl.nil ?_
      refine PX.then_n ?_
      refine CT.seq ?_
      refine CT.cond rfl (fun h22 => ?_) (fun h22 => ?_)
      · -- if t22: then
        have h22 := of_decide_eq_true h22
        refine CT.skip ?_
        refine PX.then_n ?_
        refine CT.seq ?_
        refine CT.block ?_
        refine CT.seq ?_
        -- region 7: monomial.go:48
        refine CT.region ?_
        refine Wl.q rfl rfl (OpQ.move rfl) ?_
        refine Wl.q rfl rfl (OpQ.assign rfl) ?_
        refine Wl.nil ?_
        refine PX.then_n ?_
        refine CT.seq ?_
        -- region 8: monomial.go:49
        refine CT.region ?_
        refine Wl.q rfl rfl (OpQ.move rfl) ?_
        refine Wl.q rfl rfl (OpQ.move rfl) ?_
        refine Wl.q rfl rfl (OpQ.indexSvN M_un9 rfl rfl (by omega)) ?_
        have hcb := okW_let hok (j := k) (by omega)
        have hlb : ltB (ws.getD k 0) < 6 := by rw [ltB]; omega
        refine Wl.q rfl rfl (OpQ.sub8 rfl rfl (by omega)) ?_
        refine Wl.know 27 (v' := .int .u8 ((ltB (ws.getD k 0) : Nat) : Int)) rfl (congrArg (Value.int .u8) (by rw [ltB]; omega)) ?_
        refine Wl.q rfl rfl (OpQ.assign rfl) ?_
        refine Wl.nil ?_
        refine PX.then_n ?_
        -- region 9, drawn: monomial.go:50
        refine CT.draw 15 M_mixed ?_
        refine RA.q 0 (by kernel_rfl) rfl rfl rfl (.refl _) (OpQ.move rfl) ?_
        refine RA.q 1 (by kernel_rfl) rfl rfl rfl (.refl _) (OpQ.move rfl) ?_
        refine RA.q 2 (by kernel_rfl) rfl rfl rfl (.refl _) (OpQ.fieldAddr M_fa80_0 rfl) ?_
        refine RA.q 3 (by kernel_rfl) rfl rfl rfl (.refl _) (OpQ.indexArr1 M_un78 M_sz77 rfl rfl (by omega)) ?_
        refine RA.know 31 rfl (add_ptr _ _ _) ?_
        refine RA.q 4 (by kernel_rfl) rfl rfl rfl (.refl _) (OpQ.loadF (b := b5) M_sc77 rfl (by repeat (first | exact Has.here | apply Has.there)) (by rw [Nat.zero_add, Int.toNat_natCast]; exact tcl_get T (by omega))) ?_
        refine RA.q 5 (by kernel_rfl) rfl rfl rfl (.refl _) (OpQ.uand rfl rfl) ?_
        refine RA.q 6 (by kernel_rfl) rfl rfl rfl (.refl _) (OpQ.move rfl) ?_
        refine RA.q 7 (by kernel_rfl) rfl rfl rfl (.refl _) (OpQ.move rfl) ?_
        refine RA.q 8 (by kernel_rfl) rfl rfl rfl (.refl _) (OpQ.fieldAddr M_fa80_1 rfl) ?_
        refine RA.q 9 (by kernel_rfl) rfl rfl rfl (.refl _) (OpQ.indexArr1 M_un78 M_sz77 rfl rfl (by omega)) ?_
        refine RA.know 37 rfl (add_ptr _ _ _) ?_
        refine RA.q 10 (by kernel_rfl) rfl rfl rfl (.refl _) (OpQ.loadF (b := b5) M_sc77 rfl (by repeat (first | exact Has.here | apply Has.there)) (by rw [Int.toNat_natCast]; exact tcl_get T (by omega))) ?_
        refine RA.q 11 (by kernel_rfl) rfl rfl rfl (.refl _) (OpQ.uand rfl rfl) ?_
        refine RA.q 12 (by kernel_rfl) rfl rfl rfl (.refl _) (OpQ.ushlN (n := 1) rfl rfl) ?_
        refine RA.q 13 (by kernel_rfl) rfl rfl rfl (.refl _) (OpQ.uor rfl rfl) ?_
        refine RA.q 14 (by kernel_rfl) rfl rfl rfl (.refl _) (OpQ.assign rfl) ?_
        refine RA.tail ?_
        refine RT.done (by kernel_rfl) ?_
        refine PX.block_n ?_
        refine PX.then_n ?_
        -- region 10: monomial.go:48
        refine CT.region ?_
        refine Wl.q rfl rfl (OpQ.add rfl rfl (by omega)) ?_
        refine Wl.q rfl rfl (OpQ.move rfl) ?_
        refine Wl.nil ?_
        exact PX.loop hK0 (k + 1, v &&& T (ltB (ws.getD k 0)) ||| (v &&& T (6 + ltB (ws.getD k 0))) <<< 1) ⟨by omega, by rw [stF_take (c := ws.getD k 0) (by simp [List.getD, show k < ws.length by omega])]; exact bits_step hsl hll hlb hT hv⟩ (show ws.length - (k + 1) < ws.length - k by omega) ⟨rfl, rfl, rfl, rfl, rfl, rfl, trivial⟩ (HSub.refl _)
      · -- if t22: else
        have h22 := of_decide_eq_false h22
        refine CT.exit ?_
        refine PX.then_x ?_
        refine PX.then_x ?_
        refine PX.block_x ?_
        refine PX.then_n ?_
        refine CT.seq ?_
        -- region 11: monomial.go:52
        refine CT.region ?_
        refine Wl.q rfl rfl (OpQ.move rfl) ?_
        refine Wl.q rfl rfl (OpQ.fieldAddr M_fa41_1 rfl) ?_
        refine Wl.q rfl rfl (OpQ.loadF (b := b2) M_sc25 rfl (by repeat (first | exact Has.here | apply Has.there)) (by rfl)) ?_
        refine Wl.q rfl rfl (OpQ.len M_un25 rfl) ?_
        refine Wl.q rfl rfl (OpQ.ushrN rfl rfl) ?_
        refine Wl.q rfl rfl (OpQ.uand (q := 1#64) rfl rfl) ?_
        refine Wl.q rfl rfl (OpQ.ueql (q := 1#64) rfl rfl) ?_
        refine Wl.q rfl rfl (OpQ.assign rfl) ?_
        refine Wl.nil ?_
        refine PX.then_n ?_
        refine CT.ret ?_
        refine PX.ret1 rfl rfl (fun w' hH => ?_)
        obtain rfl : k = ws.length := by omega
        exact ⟨ret_b (by rw [bits_top, hv m_.lets.length (by omega), List.take_length, stF_mat hsl, matC_yes he hok]), hH.ext⟩

end Go.Proofs.Ytlmbcdjmdgbmjaa
