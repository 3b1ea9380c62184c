/-
  What functions of the packages firstorder, semigroupref38 and semigroupmade compute, each by its walk. Conditions: those that each theorem names.
-/
import Derived.Test.YtdcjemjfliaaiaaMod
import Derived.Test.YtdcjemjfliaaiaaWalks15
set_option linter.unusedSimpArgs false
namespace Go.Proofs.Ytdcjemjfliaaiaa
open Go Go.Eng Go.Fo Go.Sf
open Go.Tp (zi)
open Go.Tl (vf mayL Wd okW okB vf_t vf_f bo)

theorem AD_un102 : Try.prog.underlying 102 = some (.slice 105) := by kernel_rfl
theorem AD_in105 : (Try.prog.info? 105).map (fun i => (i.zero, i.size, i.bytes)) = some (some (.agg #[.int .u64 0, .int .u64 0]), 2, 16) := by kernel_rfl
theorem AD_sz105 : sizeB Try.prog 105 = some 2 := by kernel_rfl
theorem AD_un9 : Try.prog.underlying 9 = some .string := by kernel_rfl
theorem AD_fa72_0 : fieldB Try.prog 72 0 = some 0 := by kernel_rfl
theorem AD_sc3 : scalarB Try.prog 3 = some true := by kernel_rfl
theorem AD_ag105 : isAggB Try.prog 105 = some true := by kernel_rfl
theorem AD_go60 : isGo Try.prog 60 = true := by kernel_rfl
theorem AD_mixed : Try.prog.follows .mixedOrders = true := by kernel_rfl
theorem AD_un5 : Try.prog.underlying 5 = some (.int .u8) := by kernel_rfl
theorem AD_un3 : Try.prog.underlying 3 = some (.int .i64) := by kernel_rfl
theorem AD_fa72_1 : fieldB Try.prog 72 1 = some 1 := by kernel_rfl
theorem AD_go61 : isGo Try.prog 61 = true := by kernel_rfl
theorem AD_fa72_2 : fieldB Try.prog 72 2 = some 2 := by kernel_rfl
theorem AD_un99 : Try.prog.underlying 99 = some (.slice 102) := by kernel_rfl
theorem AD_sz102 : sizeB Try.prog 102 = some 1 := by kernel_rfl
theorem AD_sc102 : scalarB Try.prog 102 = some true := by kernel_rfl
theorem AD_fa72_3 : fieldB Try.prog 72 3 = some 3 := by kernel_rfl
theorem AD_go62 : isGo Try.prog 62 = true := by kernel_rfl
theorem AD_go63 : isGo Try.prog 63 = true := by kernel_rfl
theorem AD_go48 : isGo Try.prog 48 = true := by kernel_rfl
theorem AD_go64 : isGo Try.prog 64 = true := by kernel_rfl
set_option maxRecDepth 100000 in
/-- semigroup/starfree.evaluate -/
theorem sevaluate_spec (w : World) (n : Nd) (i0 : Nat) (hok : okN n i0 6 = true) (ta : Option Addr) (tc : Nat) (ts : List Oc) (hts : Rd w ta (ts.map ocv)) (ws : Wd) (hws : ws.length ≤ 64) (hwk : okW ws 6 = true) (sa sb : Nat → Nat → Bool) (hA : Sf.hA n.op = true → n.a.toNat < ts.length ∧ TC ws.length sa (ts.getD n.a.toNat oc0) ∧ Rd w (ts.getD n.a.toNat oc0).a ((ts.getD n.a.toNat oc0).cs.flatMap cv)) (hB : Sf.hB n.op = true → n.b.toNat < ts.length ∧ TC ws.length sb (ts.getD n.b.toNat oc0) ∧ Rd w (ts.getD n.b.toNat oc0).a ((ts.getD n.b.toNat oc0).cs.flatMap cv)) : Calls Try.prog 47 #[.agg (nv n).toArray, .slice ta ts.length tc, sv ws] w (fun e w' => ∃ i : List C2 × Option Addr × Nat, TC ws.length (memS n ws sa sb) ⟨i.2.1, i.2.2, i.1⟩ ∧ e = .returned (.slice i.2.1 i.1.length i.2.2) ∧ Post [] [.row 105 2 (.slice i.2.1 i.1.length i.2.2) i.1.length (i.1.flatMap cv)] w w') := by
  obtain ⟨ho, _, pa, pb⟩ := okN_parts hok
  have st : 0 < ts.length → ta.isSome = true := fun h => hts.isSome (j := 0) (by rw [List.length_map]; exact h)
  refine enter (args := [.agg (nv n).toArray, .slice ta ts.length tc, sv ws]) [] 166 Try.func47 rfl rfl rfl ?_
  refine CT.seq ?_
  -- region 0: table.go:43
  refine CT.region ?_
  refine Wl.g rfl rfl (OpG.box (size := 4) rfl rfl rfl) ?_
  rintro b3 _
  refine Wl.q rfl rfl (OpQ.assign rfl) ?_
  refine Wl.nil ?_
  refine PX.then_n ?_
  refine CT.seq ?_
  -- region 1: table.go:44
  refine CT.region ?_
  refine Wl.q rfl rfl (OpQ.move rfl) ?_
  refine Wl.q rfl rfl (OpQ.lenSv AD_un9 rfl) ?_
  refine Wl.q rfl rfl (OpQ.add rfl rfl (by omega)) ?_
  refine Wl.know 12 (v' := .int .i64 (((ws.length + 1) : Nat) : Int)) rfl (congrArg (Value.int .i64) (by omega)) ?_
  refine Wl.g rfl rfl (OpG.makeN AD_un102 AD_in105 rfl rfl (by decide) rfl rfl rfl (by omega) (by omega)) ?_
  rintro b13 _
  refine Wl.q rfl rfl (OpQ.assign rfl) ?_
  refine Wl.nil ?_
  refine PX.then_n ?_
  refine CT.seq ?_
  refine CT.seq ?_
  -- region 2: table.go:45
  refine CT.region ?_
  refine Wl.q rfl rfl (OpQ.move rfl) ?_
  refine Wl.q rfl rfl (OpQ.len AD_un102 rfl) ?_
  refine Wl.q rfl rfl (OpQ.move rfl) ?_
  refine Wl.nil ?_
  refine PX.then_n ?_
  refine CT.block ?_
  -- the loop at region 3
  refine CT.loop (ι := Nat × List C2) (fun (i, cs) => i ≤ (ws.length + 1) ∧ IRs n ws sa sb i cs) (fun (i, cs) => [(1, .slice ta ts.length tc), (2, sv ws), (3, .pointer (some ⟨b3, 0, none⟩)), (7, .slice (some ⟨b13, 0, none⟩) (ws.length + 1) (ws.length + 1)), (15, .int .i64 (((ws.length + 1) : Nat) : Int)), (16, .int .i64 (i : Int))]) (fun (i, cs) => [.row 105 2 (.slice (some ⟨b13, 0, none⟩) (ws.length + 1) (ws.length + 1)) (ws.length + 1) ((cs).flatMap cv), .row 72 4 (vb b3) 1 (nv n)]) (fun (i, cs) => (ws.length + 1) - i) (0, List.replicate (ws.length + 1) c20) ⟨Nat.zero_le _, IR.start _ _⟩ ⟨rfl, rfl, rfl, rfl, rfl, rfl, trivial⟩ (.keep (row_eq (rep2 _).symm) (.keep rfl .nil)) (fun ⟨i, cs⟩ ⟨hi, hcs⟩ K0 hK0 => ?_)
  dsimp only
  refine CT.seq ?_
  -- region 3: table.go:45
  refine CT.region ?_
  refine Wl.q rfl rfl (OpQ.lss rfl rfl) ?_
  refine Wl.nil ?_
  refine PX.then_n ?_
  refine CT.seq ?_
  refine CT.cond rfl (fun h17 => ?_) (fun h17 => ?_)
  · -- if t17: then
    have h17 := of_decide_eq_true h17
    have hi1 : i < (ws.length + 1) := by omega
    refine CT.skip ?_
    refine PX.then_n ?_
    refine CT.cut (ι := List C2) (Φ := fun cs2 => IRe n ws sa sb i cs2) (E' := fun _ => [(1, .slice ta ts.length tc), (2, sv ws), (3, .pointer (some ⟨b3, 0, none⟩)), (7, .slice (some ⟨b13, 0, none⟩) (ws.length + 1) (ws.length + 1)), (15, .int .i64 (((ws.length + 1) : Nat) : Int)), (16, .int .i64 (i : Int))]) (H' := fun cs2 => [.row 105 2 (.slice (some ⟨b13, 0, none⟩) (ws.length + 1) (ws.length + 1)) (ws.length + 1) ((cs2).flatMap cv), .row 72 4 (vb b3) 1 (nv n)]) (fun K1 hK1 => ?_) (fun cs2 hcs2 => ?_)
    · -- up to the join
      refine CT.block ?_
      refine CT.seq ?_
      -- region 4: table.go:45
      refine CT.region ?_
      refine Wl.q rfl rfl (OpQ.move rfl) ?_
      refine Wl.q rfl rfl (OpQ.assign rfl) ?_
      refine Wl.nil ?_
      refine PX.then_n ?_
      refine CT.seq ?_
      -- region 5: table.go:46
      refine CT.region ?_
      refine Wl.q rfl rfl (OpQ.fieldAddr AD_fa72_0 rfl) ?_
      refine Wl.q rfl rfl (OpQ.loadF (b := b3) AD_sc3 rfl (by repeat (first | exact Has.here | apply Has.there)) (by rfl)) ?_
      refine Wl.nil ?_
      refine PX.then_n ?_
      refine CT.block ?_
      refine CT.seq ?_
      -- region 6: table.go:47
      refine CT.region ?_
      refine Wl.q rfl rfl (OpQ.eql rfl rfl) ?_
      refine Wl.q rfl rfl (OpQ.assign rfl) ?_
      refine Wl.nil ?_
      refine PX.then_n ?_
      refine CT.cond rfl (fun h21 => ?_) (fun h21 => ?_)
      · -- if t21: then
        have h21 := of_decide_eq_true h21
        -- region 7: table.go:48
        refine CT.region ?_
        refine Wl.q rfl rfl (OpQ.move rfl) ?_
        refine Wl.q rfl rfl (OpQ.move rfl) ?_
        refine Wl.q rfl rfl (OpQ.move rfl) ?_
        refine Wl.q rfl rfl (OpQ.move rfl) ?_
        refine Wl.q rfl rfl (OpQ.index AD_un102 AD_sz105 rfl rfl (by omega) rfl) ?_
        refine Wl.q rfl rfl (OpQ.loadAggG (cs := (cv (cs.getD i c20))) AD_ag105 AD_sz105 rfl (fun w hH => hH.rd .here) (flat_cells cv_len cs c20 (by rw [hcs.len]; omega))) ?_
        refine Wl.q rfl rfl (OpQ.move rfl) ?_
        refine Wl.g rfl rfl (OpG.callV AD_go60 rfl (fun w hH => cwith_spec w (cs.getD i c20) (i) (by omega))) ?_
        rintro _ _
        refine Wl.q rfl rfl (OpQ.index AD_un102 AD_sz105 rfl rfl (by omega) rfl) ?_
        refine Wl.g rfl rfl (OpG.storeAggRow (j := i * 2) (cs := cv (wc (cs.getD i c20) i)) AD_sz105 rfl rfl rfl (by rw [flat_len cv_len, hcs.len]; show i * 2 + 2 ≤ (ws.length + 1) * 2; omega) (by show 0 < 2; decide) (by repeat (first | exact Upd.here | apply Upd.there))) ?_
        rintro _ _
        refine Wl.nil ?_
        refine PX.block_n ?_
        refine PX.block_n ?_
        exact PX.cut hK1 (cs.set i (wc (cs.getD i c20) i)) (ir_unit hcs hi1 hws h21) ⟨rfl, rfl, rfl, rfl, rfl, rfl, trivial⟩ (.keep (row_eq (flat_set cv_len cs (by rw [hcs.len]; omega) _)) (.keep rfl .nil))
      · -- if t21: else
        have h21 := of_decide_eq_false h21
        refine CT.seq ?_
        -- region 8: table.go:49
        refine CT.region ?_
        refine Wl.q rfl rfl (OpQ.eql rfl rfl) ?_
        refine Wl.q rfl rfl (OpQ.assign rfl) ?_
        refine Wl.nil ?_
        refine PX.then_n ?_
        refine CT.cond rfl (fun h32 => ?_) (fun h32 => ?_)
        · -- if t32: then
          have h32 := of_decide_eq_true h32
          refine CT.seq ?_
          -- region 9, drawn: table.go:50
          refine CT.draw 14 AD_mixed ?_
          refine RA.q 0 (by kernel_rfl) rfl rfl rfl (.refl _) (OpQ.move rfl) ?_
          refine RA.q 1 (by kernel_rfl) rfl rfl rfl (.refl _) (OpQ.move rfl) ?_
          refine RA.q 2 (by kernel_rfl) rfl rfl rfl (.refl _) (OpQ.lenSv AD_un9 rfl) ?_
          refine RA.q 3 (by kernel_rfl) rfl rfl rfl (.refl _) (OpQ.lss rfl rfl) ?_
          refine RA.q 4 (by kernel_rfl) rfl rfl rfl (.refl _) (OpQ.move rfl) ?_
          refine RA.split 38 rfl (fun hg38 => ?_) (fun hg38 => ?_)
          · -- t38 = True
            have hg38 := of_decide_eq_true hg38
            have hg38 : i < ws.length := by omega
            have hu := Tl.okW_get hwk (j := i) (by omega)
            refine RA.q 5 (by kernel_rfl) rfl rfl rfl (.refl _) (OpQ.move rfl) ?_
            refine RA.q 6 (by kernel_rfl) rfl rfl rfl (.refl _) (OpQ.move rfl) ?_
            refine RA.q 7 (by kernel_rfl) rfl rfl rfl (.refl _) (OpQ.indexSvN AD_un9 rfl rfl (by omega)) ?_
            refine RA.q 8 (by kernel_rfl) rfl rfl rfl (.refl _) (OpQ.sub8 rfl rfl (by omega)) ?_
            refine RA.q 9 (by kernel_rfl) rfl rfl rfl (.refl _) (OpQ.conv rfl (conv_u8_i64 AD_un5 AD_un3 _ (by omega))) ?_
            refine RA.q 10 (by kernel_rfl) rfl rfl rfl (.refl _) (OpQ.fieldAddr AD_fa72_1 rfl) ?_
            refine RA.q 11 (by kernel_rfl) rfl rfl rfl (.refl _) (OpQ.loadF (b := b3) AD_sc3 rfl (by repeat (first | exact Has.here | apply Has.there)) (by rfl)) ?_
            refine RA.q 12 (by kernel_rfl) rfl rfl rfl (.refl _) (OpQ.eql rfl rfl) ?_
            refine RA.q 13 (by kernel_rfl) rfl rfl rfl (.refl _) (OpQ.pickT rfl rfl) ?_
            refine RA.tail ?_
            refine RT.done (by kernel_rfl) ?_
            refine PX.then_n ?_
            refine CT.cond rfl (fun h47 => ?_) (fun h47 => ?_)
            · -- if t47: then
              have h47 : byteI ws i = n.lt := of_decide_eq_true h47
              -- region 10: table.go:51
              refine CT.region ?_
              refine Wl.q rfl rfl (OpQ.move rfl) ?_
              refine Wl.q rfl rfl (OpQ.move rfl) ?_
              refine Wl.q rfl rfl (OpQ.move rfl) ?_
              refine Wl.q rfl rfl (OpQ.move rfl) ?_
              refine Wl.q rfl rfl (OpQ.index AD_un102 AD_sz105 rfl rfl (by omega) rfl) ?_
              refine Wl.q rfl rfl (OpQ.loadAggG (cs := (cv (cs.getD i c20))) AD_ag105 AD_sz105 rfl (fun w hH => hH.rd .here) (flat_cells cv_len cs c20 (by rw [hcs.len]; omega))) ?_
              refine Wl.q rfl rfl (OpQ.move rfl) ?_
              refine Wl.q rfl rfl (OpQ.add rfl rfl (by omega)) ?_
              refine Wl.g rfl rfl (OpG.callV AD_go60 rfl (fun w hH => cwith_spec w (cs.getD i c20) (i + 1) (by omega))) ?_
              rintro _ _
              refine Wl.q rfl rfl (OpQ.index AD_un102 AD_sz105 rfl rfl (by omega) rfl) ?_
              refine Wl.g rfl rfl (OpG.storeAggRow (j := i * 2) (cs := cv (wc (cs.getD i c20) (i + 1))) AD_sz105 rfl rfl rfl (by rw [flat_len cv_len, hcs.len]; show i * 2 + 2 ≤ (ws.length + 1) * 2; omega) (by show 0 < 2; decide) (by repeat (first | exact Upd.here | apply Upd.there))) ?_
              rintro _ _
              refine Wl.nil ?_
              refine PX.block_n ?_
              refine PX.block_n ?_
              exact PX.cut hK1 (cs.set i (wc (cs.getD i c20) (i + 1))) (ir_letter hcs hi1 hws h32 hg38 h47) ⟨rfl, rfl, rfl, rfl, rfl, rfl, trivial⟩ (.keep (row_eq (flat_set cv_len cs (by rw [hcs.len]; omega) _)) (.keep rfl .nil))
            · -- if t47: else
              have h47 : ¬ byteI ws i = n.lt := of_decide_eq_false h47
              refine CT.skip ?_
              refine PX.block_n ?_
              refine PX.block_n ?_
              exact PX.cut hK1 (cs) (ir_letter_no hcs h32 (fun hh => h47 hh.2)) ⟨rfl, rfl, rfl, rfl, rfl, rfl, trivial⟩ (HSub.refl _)
          · -- t38 = False
            have hg38 := of_decide_eq_false hg38
            have hg38 : ¬ i < ws.length := by omega
            refine RA.skip 5 (by kernel_rfl) rfl rfl rfl (.refl _) ?_
            refine RA.skip 6 (by kernel_rfl) rfl rfl rfl (.refl _) ?_
            refine RA.skip 7 (by kernel_rfl) rfl rfl rfl (.refl _) ?_
            refine RA.skip 8 (by kernel_rfl) rfl rfl rfl (.refl _) ?_
            refine RA.skip 9 (by kernel_rfl) rfl rfl rfl (.refl _) ?_
            refine RA.skip 10 (by kernel_rfl) rfl rfl rfl (.refl _) ?_
            refine RA.skip 11 (by kernel_rfl) rfl rfl rfl (.refl _) ?_
            refine RA.skip 12 (by kernel_rfl) rfl rfl rfl (.refl _) ?_
            refine RA.q 13 (by kernel_rfl) rfl rfl rfl (.refl _) (OpQ.pickF rfl rfl) ?_
            refine RA.tail ?_
            refine RT.done (by kernel_rfl) ?_
            refine PX.then_n ?_
            refine CT.condF rfl ?_
            refine CT.skip ?_
            refine PX.block_n ?_
            refine PX.block_n ?_
            exact PX.cut hK1 (cs) (ir_letter_no hcs h32 (fun hh => hg38 hh.1)) ⟨rfl, rfl, rfl, rfl, rfl, rfl, trivial⟩ (HSub.refl _)
        · -- if t32: else
          have h32 := of_decide_eq_false h32
          refine CT.seq ?_
          -- region 11: table.go:53
          refine CT.region ?_
          refine Wl.q rfl rfl (OpQ.eql rfl rfl) ?_
          refine Wl.q rfl rfl (OpQ.assign rfl) ?_
          refine Wl.nil ?_
          refine PX.then_n ?_
          refine CT.cond rfl (fun h58 => ?_) (fun h58 => ?_)
          · -- if t58: then
            have h58 := of_decide_eq_true h58
            -- region 12: table.go:54
            refine CT.region ?_
            refine Wl.q rfl rfl (OpQ.move rfl) ?_
            refine Wl.q rfl rfl (OpQ.move rfl) ?_
            refine Wl.q rfl rfl (OpQ.move rfl) ?_
            refine Wl.q rfl rfl (OpQ.move rfl) ?_
            refine Wl.q rfl rfl (OpQ.lenSv AD_un9 rfl) ?_
            refine Wl.g rfl rfl (OpG.call AD_go61 rfl (fun w hH => (between_spec w i ws.length (by omega)).mono fun e w' ⟨c, h1, h2, h3⟩ => ⟨c, h1, h2, hH.ext_nil h3⟩)) ?_
            rintro c65 hc65
            refine Wl.know 65 (v' := .agg (cv c65).toArray) rfl rfl ?_
            refine Wl.q rfl rfl (OpQ.index AD_un102 AD_sz105 rfl rfl (by omega) rfl) ?_
            refine Wl.g rfl rfl (OpG.storeAggRow (j := i * 2) (cs := cv c65) AD_sz105 rfl rfl rfl (by rw [flat_len cv_len, hcs.len]; show i * 2 + 2 ≤ (ws.length + 1) * 2; omega) (by show 0 < 2; decide) (by repeat (first | exact Upd.here | apply Upd.there))) ?_
            rintro _ _
            refine Wl.nil ?_
            refine PX.block_n ?_
            refine PX.block_n ?_
            exact PX.cut hK1 (cs.set i c65) (ir_all hcs hi1 h58 hc65) ⟨rfl, rfl, rfl, rfl, rfl, rfl, trivial⟩ (.keep (row_eq (flat_set cv_len cs (by rw [hcs.len]; omega) _)) (.keep rfl .nil))
          · -- if t58: else
            have h58 := of_decide_eq_false h58
            refine CT.seq ?_
            -- region 13: table.go:55
            refine CT.region ?_
            refine Wl.q rfl rfl (OpQ.eql rfl rfl) ?_
            refine Wl.q rfl rfl (OpQ.assign rfl) ?_
            refine Wl.nil ?_
            refine PX.then_n ?_
            refine CT.cond rfl (fun h67 => ?_) (fun h67 => ?_)
            · -- if t67: then
              have h67 := of_decide_eq_true h67
              obtain ⟨ha1, ha2, ha3⟩ := hA (by rw [Sf.hA, decide_eq_true_eq]; omega)
              have pa := pa (by omega)
              obtain ⟨hb1, hb2, hb3⟩ := hB (by rw [Sf.hB, decide_eq_true_eq]; omega)
              have pb := pb (by omega)
              -- region 14, drawn: table.go:56
              refine CT.draw 20 AD_mixed ?_
              refine RA.q 0 (by kernel_rfl) rfl rfl rfl (.refl _) (OpQ.move rfl) ?_
              refine RA.q 1 (by kernel_rfl) rfl rfl rfl (.refl _) (OpQ.move rfl) ?_
              refine RA.q 2 (by kernel_rfl) rfl rfl rfl (.refl _) (OpQ.move rfl) ?_
              refine RA.q 3 (by kernel_rfl) rfl rfl rfl (.refl _) (OpQ.fieldAddr AD_fa72_2 rfl) ?_
              refine RA.q 4 (by kernel_rfl) rfl rfl rfl (.refl _) (OpQ.loadF (b := b3) AD_sc3 rfl (by repeat (first | exact Has.here | apply Has.there)) (by rfl)) ?_
              refine RA.q 5 (by kernel_rfl) rfl rfl rfl (.refl _) (OpQ.index1 AD_un99 AD_sz102 rfl rfl (by omega) (st (by omega))) ?_
              refine RA.q 6 (by kernel_rfl) rfl rfl rfl (.refl _) (OpQ.loadG AD_sc102 rfl (fun w hH => hH.rd0 hts rfl) (getMap ocv ts oc0 (j := n.a.toNat) (by omega))) ?_
              refine RA.q 7 (by kernel_rfl) rfl rfl rfl (.refl _) (OpQ.move rfl) ?_
              refine RA.q 8 (by kernel_rfl) rfl rfl rfl (.refl _) (OpQ.index AD_un102 AD_sz105 rfl rfl (by rw [ha2.len]; omega) ha2.some) ?_
              refine RA.q 9 (by kernel_rfl) rfl rfl rfl (.refl _) (OpQ.loadAggG (cs := (cv ((ts.getD n.a.toNat oc0).cs.getD i c20))) AD_ag105 AD_sz105 rfl (fun w hH => hH.rd0 ha3 rfl) (flat_cells cv_len (ts.getD n.a.toNat oc0).cs c20 (by rw [ha2.len]; omega))) ?_
              refine RA.q 10 (by kernel_rfl) rfl rfl rfl (.refl _) (OpQ.move rfl) ?_
              refine RA.q 11 (by kernel_rfl) rfl rfl rfl (.refl _) (OpQ.fieldAddr AD_fa72_3 rfl) ?_
              refine RA.q 12 (by kernel_rfl) rfl rfl rfl (.refl _) (OpQ.loadF (b := b3) AD_sc3 rfl (by repeat (first | exact Has.here | apply Has.there)) (by rfl)) ?_
              refine RA.q 13 (by kernel_rfl) rfl rfl rfl (.refl _) (OpQ.index1 AD_un99 AD_sz102 rfl rfl (by omega) (st (by omega))) ?_
              refine RA.q 14 (by kernel_rfl) rfl rfl rfl (.refl _) (OpQ.loadG AD_sc102 rfl (fun w hH => hH.rd0 hts rfl) (getMap ocv ts oc0 (j := n.b.toNat) (by omega))) ?_
              refine RA.q 15 (by kernel_rfl) rfl rfl rfl (.refl _) (OpQ.move rfl) ?_
              refine RA.q 16 (by kernel_rfl) rfl rfl rfl (.refl _) (OpQ.index AD_un102 AD_sz105 rfl rfl (by rw [hb2.len]; omega) hb2.some) ?_
              refine RA.q 17 (by kernel_rfl) rfl rfl rfl (.refl _) (OpQ.loadAggG (cs := (cv ((ts.getD n.b.toNat oc0).cs.getD i c20))) AD_ag105 AD_sz105 rfl (fun w hH => hH.rd0 hb3 rfl) (flat_cells cv_len (ts.getD n.b.toNat oc0).cs c20 (by rw [hb2.len]; omega))) ?_
              refine RA.f 18 (by kernel_rfl) rfl rfl rfl (OpG.callV AD_go62 rfl (fun w hH => cunion_spec w ((ts.getD n.a.toNat oc0).cs.getD i c20) ((ts.getD n.b.toNat oc0).cs.getD i c20))) (fun _ _ => (.refl _)) ?_
              rintro _ _
              refine RA.q 19 (by kernel_rfl) rfl rfl rfl (.refl _) (OpQ.index AD_un102 AD_sz105 rfl rfl (by omega) rfl) ?_
              refine RA.tail ?_
              refine RT.f 20 (by kernel_rfl) rfl rfl rfl (OpG.storeAggRow (j := i * 2) (cs := cv (c2or ((ts.getD n.a.toNat oc0).cs.getD i c20) ((ts.getD n.b.toNat oc0).cs.getD i c20))) AD_sz105 rfl rfl rfl (by rw [flat_len cv_len, hcs.len]; show i * 2 + 2 ≤ (ws.length + 1) * 2; omega) (by show 0 < 2; decide) (by repeat (first | exact Upd.here | apply Upd.there))) ?_
              rintro _ _
              refine RT.done (by kernel_rfl) ?_
              refine PX.block_n ?_
              refine PX.block_n ?_
              exact PX.cut hK1 (cs.set i (c2or ((ts.getD n.a.toNat oc0).cs.getD i c20) ((ts.getD n.b.toNat oc0).cs.getD i c20))) (ir_or hcs hi1 h67 ha2 hb2) ⟨rfl, rfl, rfl, rfl, rfl, rfl, trivial⟩ (.keep (row_eq (flat_set cv_len cs (by rw [hcs.len]; omega) _)) (.keep rfl .nil))
            · -- if t67: else
              have h67 := of_decide_eq_false h67
              refine CT.seq ?_
              -- region 15: table.go:57
              refine CT.region ?_
              refine Wl.q rfl rfl (OpQ.eql rfl rfl) ?_
              refine Wl.q rfl rfl (OpQ.assign rfl) ?_
              refine Wl.nil ?_
              refine PX.then_n ?_
              refine CT.cond rfl (fun h89 => ?_) (fun h89 => ?_)
              · -- if t89: then
                have h89 := of_decide_eq_true h89
                obtain ⟨ha1, ha2, ha3⟩ := hA (by rw [Sf.hA, decide_eq_true_eq]; omega)
                have pa := pa (by omega)
                obtain ⟨hb1, hb2, hb3⟩ := hB (by rw [Sf.hB, decide_eq_true_eq]; omega)
                have pb := pb (by omega)
                -- region 16, drawn: table.go:58
                refine CT.draw 20 AD_mixed ?_
                refine RA.q 0 (by kernel_rfl) rfl rfl rfl (.refl _) (OpQ.move rfl) ?_
                refine RA.q 1 (by kernel_rfl) rfl rfl rfl (.refl _) (OpQ.move rfl) ?_
                refine RA.q 2 (by kernel_rfl) rfl rfl rfl (.refl _) (OpQ.move rfl) ?_
                refine RA.q 3 (by kernel_rfl) rfl rfl rfl (.refl _) (OpQ.fieldAddr AD_fa72_2 rfl) ?_
                refine RA.q 4 (by kernel_rfl) rfl rfl rfl (.refl _) (OpQ.loadF (b := b3) AD_sc3 rfl (by repeat (first | exact Has.here | apply Has.there)) (by rfl)) ?_
                refine RA.q 5 (by kernel_rfl) rfl rfl rfl (.refl _) (OpQ.index1 AD_un99 AD_sz102 rfl rfl (by omega) (st (by omega))) ?_
                refine RA.q 6 (by kernel_rfl) rfl rfl rfl (.refl _) (OpQ.loadG AD_sc102 rfl (fun w hH => hH.rd0 hts rfl) (getMap ocv ts oc0 (j := n.a.toNat) (by omega))) ?_
                refine RA.q 7 (by kernel_rfl) rfl rfl rfl (.refl _) (OpQ.move rfl) ?_
                refine RA.q 8 (by kernel_rfl) rfl rfl rfl (.refl _) (OpQ.index AD_un102 AD_sz105 rfl rfl (by rw [ha2.len]; omega) ha2.some) ?_
                refine RA.q 9 (by kernel_rfl) rfl rfl rfl (.refl _) (OpQ.loadAggG (cs := (cv ((ts.getD n.a.toNat oc0).cs.getD i c20))) AD_ag105 AD_sz105 rfl (fun w hH => hH.rd0 ha3 rfl) (flat_cells cv_len (ts.getD n.a.toNat oc0).cs c20 (by rw [ha2.len]; omega))) ?_
                refine RA.q 10 (by kernel_rfl) rfl rfl rfl (.refl _) (OpQ.move rfl) ?_
                refine RA.q 11 (by kernel_rfl) rfl rfl rfl (.refl _) (OpQ.fieldAddr AD_fa72_3 rfl) ?_
                refine RA.q 12 (by kernel_rfl) rfl rfl rfl (.refl _) (OpQ.loadF (b := b3) AD_sc3 rfl (by repeat (first | exact Has.here | apply Has.there)) (by rfl)) ?_
                refine RA.q 13 (by kernel_rfl) rfl rfl rfl (.refl _) (OpQ.index1 AD_un99 AD_sz102 rfl rfl (by omega) (st (by omega))) ?_
                refine RA.q 14 (by kernel_rfl) rfl rfl rfl (.refl _) (OpQ.loadG AD_sc102 rfl (fun w hH => hH.rd0 hts rfl) (getMap ocv ts oc0 (j := n.b.toNat) (by omega))) ?_
                refine RA.q 15 (by kernel_rfl) rfl rfl rfl (.refl _) (OpQ.move rfl) ?_
                refine RA.q 16 (by kernel_rfl) rfl rfl rfl (.refl _) (OpQ.index AD_un102 AD_sz105 rfl rfl (by rw [hb2.len]; omega) hb2.some) ?_
                refine RA.q 17 (by kernel_rfl) rfl rfl rfl (.refl _) (OpQ.loadAggG (cs := (cv ((ts.getD n.b.toNat oc0).cs.getD i c20))) AD_ag105 AD_sz105 rfl (fun w hH => hH.rd0 hb3 rfl) (flat_cells cv_len (ts.getD n.b.toNat oc0).cs c20 (by rw [hb2.len]; omega))) ?_
                refine RA.f 18 (by kernel_rfl) rfl rfl rfl (OpG.callV AD_go63 rfl (fun w hH => cmeet_spec w ((ts.getD n.a.toNat oc0).cs.getD i c20) ((ts.getD n.b.toNat oc0).cs.getD i c20))) (fun _ _ => (.refl _)) ?_
                rintro _ _
                refine RA.q 19 (by kernel_rfl) rfl rfl rfl (.refl _) (OpQ.index AD_un102 AD_sz105 rfl rfl (by omega) rfl) ?_
                refine RA.tail ?_
                refine RT.f 20 (by kernel_rfl) rfl rfl rfl (OpG.storeAggRow (j := i * 2) (cs := cv (c2and ((ts.getD n.a.toNat oc0).cs.getD i c20) ((ts.getD n.b.toNat oc0).cs.getD i c20))) AD_sz105 rfl rfl rfl (by rw [flat_len cv_len, hcs.len]; show i * 2 + 2 ≤ (ws.length + 1) * 2; omega) (by show 0 < 2; decide) (by repeat (first | exact Upd.here | apply Upd.there))) ?_
                rintro _ _
                refine RT.done (by kernel_rfl) ?_
                refine PX.block_n ?_
                refine PX.block_n ?_
                exact PX.cut hK1 (cs.set i (c2and ((ts.getD n.a.toNat oc0).cs.getD i c20) ((ts.getD n.b.toNat oc0).cs.getD i c20))) (ir_and hcs hi1 h89 ha2 hb2) ⟨rfl, rfl, rfl, rfl, rfl, rfl, trivial⟩ (.keep (row_eq (flat_set cv_len cs (by rw [hcs.len]; omega) _)) (.keep rfl .nil))
              · -- if t89: else
                have h89 := of_decide_eq_false h89
                refine CT.seq ?_
                -- region 17: table.go:59
                refine CT.region ?_
                refine Wl.q rfl rfl (OpQ.eql rfl rfl) ?_
                refine Wl.q rfl rfl (OpQ.assign rfl) ?_
                refine Wl.nil ?_
                refine PX.then_n ?_
                refine CT.cond rfl (fun h111 => ?_) (fun h111 => ?_)
                · -- if t111: then
                  have h111 := of_decide_eq_true h111
                  obtain ⟨ha1, ha2, ha3⟩ := hA (by rw [Sf.hA, decide_eq_true_eq]; omega)
                  have pa := pa (by omega)
                  obtain ⟨hb1, hb2, hb3⟩ := hB (by rw [Sf.hB, decide_eq_true_eq]; omega)
                  have pb := pb (by omega)
                  refine CT.seq ?_
                  -- region 18: table.go:60
                  refine CT.region ?_
                  refine Wl.q rfl rfl (OpQ.move rfl) ?_
                  refine Wl.q rfl rfl (OpQ.assign rfl) ?_
                  refine Wl.nil ?_
                  refine PX.then_n ?_
                  refine CT.block ?_
                  -- the loop at region 19
                  refine CT.loop (ι := Nat × List C2) (fun (j, cs3) => i ≤ j ∧ j ≤ (ws.length + 1) ∧ IR (ws.length + 1) i (ph n ws sa sb) (pj ws sa sb i j) cs3) (fun (j, cs3) => [(1, .slice ta ts.length tc), (2, sv ws), (3, .pointer (some ⟨b3, 0, none⟩)), (7, .slice (some ⟨b13, 0, none⟩) (ws.length + 1) (ws.length + 1)), (15, .int .i64 (((ws.length + 1) : Nat) : Int)), (16, .int .i64 (i : Int)), (8, .int .i64 (i : Int)), (9, .int .i64 (j : Int))]) (fun (j, cs3) => [.row 105 2 (.slice (some ⟨b13, 0, none⟩) (ws.length + 1) (ws.length + 1)) (ws.length + 1) ((cs3).flatMap cv), .row 72 4 (vb b3) 1 (nv n)]) (fun (j, cs3) => (ws.length + 1) - j) (i, cs) ⟨Nat.le_refl _, by omega, ir_cat0 hcs⟩ ⟨rfl, rfl, rfl, rfl, rfl, rfl, rfl, rfl, trivial⟩ (HSub.refl _) (fun ⟨j, cs3⟩ ⟨hij, hj, hcs⟩ K2 hK2 => ?_)
                  dsimp only
                  refine CT.seq ?_
                  refine CT.seq ?_
                  -- region 19: table.go:60
                  refine CT.region ?_
                  refine Wl.q rfl rfl (OpQ.move rfl) ?_
                  refine Wl.q rfl rfl (OpQ.move rfl) ?_
                  refine Wl.q rfl rfl (OpQ.lenSv AD_un9 rfl) ?_
                  refine Wl.q rfl rfl (OpQ.leq rfl rfl) ?_
                  refine Wl.nil ?_
                  refine PX.then_n ?_
                  refine CT.cond rfl (fun h117 => ?_) (fun h117 => ?_)
                  · -- if t117: then
                    have h117 := of_decide_eq_true h117
                    refine CT.skip ?_
                    refine PX.then_n ?_
                    refine CT.seq ?_
                    refine CT.block ?_
                    refine CT.seq ?_
                    -- region 21: table.go:61
                    refine CT.region ?_
                    refine Wl.q rfl rfl (OpQ.move rfl) ?_
                    refine Wl.q rfl rfl (OpQ.fieldAddr AD_fa72_2 rfl) ?_
                    refine Wl.q rfl rfl (OpQ.loadF (b := b3) AD_sc3 rfl (by repeat (first | exact Has.here | apply Has.there)) (by rfl)) ?_
                    refine Wl.q rfl rfl (OpQ.index1 AD_un99 AD_sz102 rfl rfl (by omega) (st (by omega))) ?_
                    refine Wl.q rfl rfl (OpQ.loadG AD_sc102 rfl (fun w hH => hH.rd0 hts rfl) (getMap ocv ts oc0 (j := n.a.toNat) (by omega))) ?_
                    refine Wl.q rfl rfl (OpQ.move rfl) ?_
                    refine Wl.q rfl rfl (OpQ.index AD_un102 AD_sz105 rfl rfl (by rw [ha2.len]; omega) ha2.some) ?_
                    refine Wl.q rfl rfl (OpQ.loadAggG (cs := (cv ((ts.getD n.a.toNat oc0).cs.getD i c20))) AD_ag105 AD_sz105 rfl (fun w hH => hH.rd0 ha3 rfl) (flat_cells cv_len (ts.getD n.a.toNat oc0).cs c20 (by rw [ha2.len]; omega))) ?_
                    refine Wl.q rfl rfl (OpQ.move rfl) ?_
                    refine Wl.g rfl rfl (OpG.callV AD_go48 rfl (fun w hH => chas_spec w ((ts.getD n.a.toNat oc0).cs.getD i c20) j (by omega))) ?_
                    rintro _ _
                    refine Wl.know 129 (v' := .bool (sa i j)) rfl (congrArg Value.bool (has_in ha2 hi1 hij (by omega) hws)) ?_
                    refine Wl.nil ?_
                    refine PX.then_n ?_
                    refine CT.cond rfl (fun h129 => ?_) (fun h129 => ?_)
                    · -- if t129: then
                      -- region 22, drawn: table.go:62
                      refine CT.draw 16 AD_mixed ?_
                      refine RA.q 0 (by kernel_rfl) rfl rfl rfl (.refl _) (OpQ.move rfl) ?_
                      refine RA.q 1 (by kernel_rfl) rfl rfl rfl (.refl _) (OpQ.move rfl) ?_
                      refine RA.q 2 (by kernel_rfl) rfl rfl rfl (.refl _) (OpQ.move rfl) ?_
                      refine RA.q 3 (by kernel_rfl) rfl rfl rfl (.refl _) (OpQ.move rfl) ?_
                      refine RA.q 4 (by kernel_rfl) rfl rfl rfl (.refl _) (OpQ.index AD_un102 AD_sz105 rfl rfl (by omega) rfl) ?_
                      refine RA.q 5 (by kernel_rfl) rfl rfl rfl (.refl _) (OpQ.loadAggG (cs := (cv (cs3.getD i c20))) AD_ag105 AD_sz105 rfl (fun w hH => hH.rd .here) (flat_cells cv_len cs3 c20 (by rw [hcs.len]; omega))) ?_
                      refine RA.q 6 (by kernel_rfl) rfl rfl rfl (.refl _) (OpQ.move rfl) ?_
                      refine RA.q 7 (by kernel_rfl) rfl rfl rfl (.refl _) (OpQ.fieldAddr AD_fa72_3 rfl) ?_
                      refine RA.q 8 (by kernel_rfl) rfl rfl rfl (.refl _) (OpQ.loadF (b := b3) AD_sc3 rfl (by repeat (first | exact Has.here | apply Has.there)) (by rfl)) ?_
                      refine RA.q 9 (by kernel_rfl) rfl rfl rfl (.refl _) (OpQ.index1 AD_un99 AD_sz102 rfl rfl (by omega) (st (by omega))) ?_
                      refine RA.q 10 (by kernel_rfl) rfl rfl rfl (.refl _) (OpQ.loadG AD_sc102 rfl (fun w hH => hH.rd0 hts rfl) (getMap ocv ts oc0 (j := n.b.toNat) (by omega))) ?_
                      refine RA.q 11 (by kernel_rfl) rfl rfl rfl (.refl _) (OpQ.move rfl) ?_
                      refine RA.q 12 (by kernel_rfl) rfl rfl rfl (.refl _) (OpQ.index AD_un102 AD_sz105 rfl rfl (by rw [hb2.len]; omega) hb2.some) ?_
                      refine RA.q 13 (by kernel_rfl) rfl rfl rfl (.refl _) (OpQ.loadAggG (cs := (cv ((ts.getD n.b.toNat oc0).cs.getD j c20))) AD_ag105 AD_sz105 rfl (fun w hH => hH.rd0 hb3 rfl) (flat_cells cv_len (ts.getD n.b.toNat oc0).cs c20 (by rw [hb2.len]; omega))) ?_
                      refine RA.f 14 (by kernel_rfl) rfl rfl rfl (OpG.callV AD_go62 rfl (fun w hH => cunion_spec w (cs3.getD i c20) ((ts.getD n.b.toNat oc0).cs.getD j c20))) (fun _ _ => (.refl _)) ?_
                      rintro _ _
                      refine RA.q 15 (by kernel_rfl) rfl rfl rfl (.refl _) (OpQ.index AD_un102 AD_sz105 rfl rfl (by omega) rfl) ?_
                      refine RA.tail ?_
                      refine RT.f 16 (by kernel_rfl) rfl rfl rfl (OpG.storeAggRow (j := i * 2) (cs := cv (c2or (cs3.getD i c20) ((ts.getD n.b.toNat oc0).cs.getD j c20))) AD_sz105 rfl rfl rfl (by rw [flat_len cv_len, hcs.len]; show i * 2 + 2 ≤ (ws.length + 1) * 2; omega) (by show 0 < 2; decide) (by repeat (first | exact Upd.here | apply Upd.there))) ?_
                      rintro _ _
                      refine RT.done (by kernel_rfl) ?_
                      refine PX.block_n ?_
                      refine PX.then_n ?_
                      -- region 20: table.go:60
                      refine CT.region ?_
                      refine Wl.q rfl rfl (OpQ.move rfl) ?_
                      refine Wl.q rfl rfl (OpQ.add rfl rfl (by omega)) ?_
                      refine Wl.q rfl rfl (OpQ.assign rfl) ?_
                      refine Wl.nil ?_
                      exact PX.loop hK2 (j + 1, cs3.set i (c2or (cs3.getD i c20) ((ts.getD n.b.toNat oc0).cs.getD j c20))) ⟨by omega, by omega, ir_cat1 hcs hi1 hij (by omega) h129 hb2⟩ (show (ws.length + 1) - (j + 1) < (ws.length + 1) - j by omega) ⟨rfl, rfl, rfl, rfl, rfl, rfl, rfl, rfl, trivial⟩ (.keep (row_eq (flat_set cv_len cs3 (by rw [hcs.len]; omega) _)) (.keep rfl .nil))
                    · -- if t129: else
                      refine CT.skip ?_
                      refine PX.block_n ?_
                      refine PX.then_n ?_
                      -- region 20: table.go:60
                      refine CT.region ?_
                      refine Wl.q rfl rfl (OpQ.move rfl) ?_
                      refine Wl.q rfl rfl (OpQ.add rfl rfl (by omega)) ?_
                      refine Wl.q rfl rfl (OpQ.assign rfl) ?_
                      refine Wl.nil ?_
                      exact PX.loop hK2 (j + 1, cs3) ⟨by omega, by omega, ir_cat2 hcs h129⟩ (show (ws.length + 1) - (j + 1) < (ws.length + 1) - j by omega) ⟨rfl, rfl, rfl, rfl, rfl, rfl, rfl, rfl, trivial⟩ (HSub.refl _)
                  · -- if t117: else
                    have h117 := of_decide_eq_false h117
                    refine CT.exit ?_
                    refine PX.then_x ?_
                    refine PX.then_x ?_
                    refine PX.block_x ?_
                    refine PX.block_n ?_
                    refine PX.block_n ?_
                    obtain rfl : j = (ws.length + 1) := by omega
                    exact PX.cut hK1 (cs3) (ir_cat3 hcs h111) ⟨rfl, rfl, rfl, rfl, rfl, rfl, trivial⟩ (HSub.refl _)
                · -- if t111: else
                  have h111 := of_decide_eq_false h111
                  refine CT.seq ?_
                  -- region 23: table.go:65
                  refine CT.region ?_
                  refine Wl.q rfl rfl (OpQ.eql rfl rfl) ?_
                  refine Wl.q rfl rfl (OpQ.assign rfl) ?_
                  refine Wl.nil ?_
                  refine PX.then_n ?_
                  refine CT.cond rfl (fun h146 => ?_) (fun h146 => ?_)
                  · -- if t146: then
                    have h146 := of_decide_eq_true h146
                    obtain ⟨ha1, ha2, ha3⟩ := hA (by rw [Sf.hA, decide_eq_true_eq]; omega)
                    have pa := pa (by omega)
                    -- region 24, drawn: table.go:66
                    refine CT.draw 16 AD_mixed ?_
                    refine RA.q 0 (by kernel_rfl) rfl rfl rfl (.refl _) (OpQ.move rfl) ?_
                    refine RA.q 1 (by kernel_rfl) rfl rfl rfl (.refl _) (OpQ.move rfl) ?_
                    refine RA.q 2 (by kernel_rfl) rfl rfl rfl (.refl _) (OpQ.move rfl) ?_
                    refine RA.q 3 (by kernel_rfl) rfl rfl rfl (.refl _) (OpQ.move rfl) ?_
                    refine RA.q 4 (by kernel_rfl) rfl rfl rfl (.refl _) (OpQ.lenSv AD_un9 rfl) ?_
                    refine RA.q 6 (by kernel_rfl) rfl rfl rfl (.refl _) (OpQ.move rfl) ?_
                    refine RA.q 7 (by kernel_rfl) rfl rfl rfl (.refl _) (OpQ.fieldAddr AD_fa72_2 rfl) ?_
                    refine RA.q 8 (by kernel_rfl) rfl rfl rfl (.refl _) (OpQ.loadF (b := b3) AD_sc3 rfl (by repeat (first | exact Has.here | apply Has.there)) (by rfl)) ?_
                    refine RA.q 9 (by kernel_rfl) rfl rfl rfl (.refl _) (OpQ.index1 AD_un99 AD_sz102 rfl rfl (by omega) (st (by omega))) ?_
                    refine RA.q 10 (by kernel_rfl) rfl rfl rfl (.refl _) (OpQ.loadG AD_sc102 rfl (fun w hH => hH.rd0 hts rfl) (getMap ocv ts oc0 (j := n.a.toNat) (by omega))) ?_
                    refine RA.q 11 (by kernel_rfl) rfl rfl rfl (.refl _) (OpQ.move rfl) ?_
                    refine RA.q 12 (by kernel_rfl) rfl rfl rfl (.refl _) (OpQ.index AD_un102 AD_sz105 rfl rfl (by rw [ha2.len]; omega) ha2.some) ?_
                    refine RA.q 13 (by kernel_rfl) rfl rfl rfl (.refl _) (OpQ.loadAggG (cs := (cv ((ts.getD n.a.toNat oc0).cs.getD i c20))) AD_ag105 AD_sz105 rfl (fun w hH => hH.rd0 ha3 rfl) (flat_cells cv_len (ts.getD n.a.toNat oc0).cs c20 (by rw [ha2.len]; omega))) ?_
                    refine RA.f 5 (by kernel_rfl) rfl rfl rfl (OpG.call AD_go61 rfl (fun w hH => (between_spec w i ws.length (by omega)).mono fun e w' ⟨c, h1, h2, h3⟩ => ⟨c, h1, h2, hH.ext_nil h3⟩)) (fun _ _ => (.refl _)) ?_
                    rintro c153 hc153
                    refine RA.know 153 (v' := .agg (cv c153).toArray) rfl rfl ?_
                    refine RA.f 14 (by kernel_rfl) rfl rfl rfl (OpG.callV AD_go64 rfl (fun w hH => cwithout_spec w c153 ((ts.getD n.a.toNat oc0).cs.getD i c20))) (fun _ _ => (.refl _)) ?_
                    rintro _ _
                    refine RA.q 15 (by kernel_rfl) rfl rfl rfl (.refl _) (OpQ.index AD_un102 AD_sz105 rfl rfl (by omega) rfl) ?_
                    refine RA.tail ?_
                    refine RT.f 16 (by kernel_rfl) rfl rfl rfl (OpG.storeAggRow (j := i * 2) (cs := cv (c2no c153 ((ts.getD n.a.toNat oc0).cs.getD i c20))) AD_sz105 rfl rfl rfl (by rw [flat_len cv_len, hcs.len]; show i * 2 + 2 ≤ (ws.length + 1) * 2; omega) (by show 0 < 2; decide) (by repeat (first | exact Upd.here | apply Upd.there))) ?_
                    rintro _ _
                    refine RT.done (by kernel_rfl) ?_
                    refine PX.block_n ?_
                    refine PX.block_n ?_
                    exact PX.cut hK1 (cs.set i (c2no c153 ((ts.getD n.a.toNat oc0).cs.getD i c20))) (ir_not hcs hi1 h146 hc153 ha2) ⟨rfl, rfl, rfl, rfl, rfl, rfl, trivial⟩ (.keep (row_eq (flat_set cv_len cs (by rw [hcs.len]; omega) _)) (.keep rfl .nil))
                  · -- if t146: else
                    have h146 := of_decide_eq_false h146
                    refine CT.skip ?_
                    refine PX.block_n ?_
                    refine PX.block_n ?_
                    exact PX.cut hK1 (cs) (ir_none hcs ho h21 h32 h58 h67 h89 h111 h146) ⟨rfl, rfl, rfl, rfl, rfl, rfl, trivial⟩ (HSub.refl _)
    · -- from the join on
      -- region 25: table.go:45
      refine CT.region ?_
      refine Wl.q rfl rfl (OpQ.add rfl rfl (by omega)) ?_
      refine Wl.q rfl rfl (OpQ.move rfl) ?_
      refine Wl.nil ?_
      exact PX.loop hK0 (i + 1, cs2) ⟨by omega, hcs2.next⟩ (show (ws.length + 1) - (i + 1) < (ws.length + 1) - i by omega) ⟨rfl, rfl, rfl, rfl, rfl, rfl, trivial⟩ (HSub.refl _)
  · -- if t17: else
    have h17 := of_decide_eq_false h17
    refine CT.exit ?_
    refine PX.then_x ?_
    refine PX.then_x ?_
    refine PX.block_x ?_
    refine PX.then_n ?_
    refine CT.seq ?_
    -- region 26: table.go:69
    refine CT.region ?_
    refine Wl.q rfl rfl (OpQ.move rfl) ?_
    refine Wl.q rfl rfl (OpQ.assign rfl) ?_
    refine Wl.nil ?_
    refine PX.then_n ?_
    refine CT.ret ?_
    refine PX.ret1 rfl rfl (fun w' hH => ?_)
    obtain rfl : i = (ws.length + 1) := by omega
    exact ⟨(cs, some ⟨b13, 0, none⟩, (ws.length + 1)), hcs.tc rfl, by rw [show cs.length = (ws.length + 1) from hcs.len], hH.post.sub (.keep (row_len (show cs.length = (ws.length + 1) from hcs.len)) (.drop .nil))⟩

end Go.Proofs.Ytdcjemjfliaaiaa
