/-
  What functions of the packages temporal and semigroupref39 compute, each by its walk. Conditions: those that each theorem names.
-/
import Derived.Test.YtlmbcdjmdgbmjaaWalks10
set_option linter.unusedSimpArgs false
namespace Go.Proofs.Ytlmbcdjmdgbmjaa
open Go Go.Eng Go.Tl
open Go.Tp (zi)

theorem N_go12 : isGo Try.prog 12 = true := by kernel_rfl
theorem N_go13 : isGo Try.prog 13 = true := by kernel_rfl
theorem N_go17 : isGo Try.prog 17 = true := by kernel_rfl
theorem N_go15 : isGo Try.prog 15 = true := by kernel_rfl
theorem N_go18 : isGo Try.prog 18 = true := by kernel_rfl
theorem N_un35 : Try.prog.underlying 35 = some (.slice 41) := by kernel_rfl
theorem N_sz41 : sizeB Try.prog 41 = some 2 := by kernel_rfl
theorem N_ag41 : isAggB Try.prog 41 = some true := by kernel_rfl
theorem N_in41 : (Try.prog.info? 41).map (fun i => (i.zero, i.size, i.bytes)) = some (some (.agg #[.slice none 0 0, .slice none 0 0]), 2, 48) := by kernel_rfl
theorem N_go24 : isGo Try.prog 24 = true := by kernel_rfl
theorem N_go16 : isGo Try.prog 16 = true := by kernel_rfl
theorem N_un4 : Try.prog.underlying 4 = some .bool := by kernel_rfl
theorem N_go11 : isGo Try.prog 11 = true := by kernel_rfl
set_option maxRecDepth 100000 in
/-- semigroup/semigrouplaw39.TemporalWords -/
theorem TemporalWords_spec (w : World) (a : Option Addr) (cp : Nat) (l : List Int) (hrl : Rd w a (l.map zi)) (hl : l.length ≤ cp) (a2 : Option Addr) (cp2 : Nat) (l2 : List Int) (hrl2 : Rd w a2 (l2.map zi)) (hl2 : l2.length ≤ cp2) : Calls Try.prog 7 #[.slice a l.length cp, .slice a2 l2.length cp2] w (fun e w' => e = .returned (.bool true) ∧ Ext [] w w') := by
  refine enter (args := [.slice a l.length cp, .slice a2 l2.length cp2]) [] 60 Try.func7 rfl rfl rfl ?_
  refine CT.seq ?_
  -- region 0: law.go:137
  refine CT.region ?_
  refine Wl.q rfl rfl (OpQ.assign rfl) ?_
  refine Wl.nil ?_
  refine PX.then_n ?_
  refine CT.seq ?_
  -- region 1: law.go:138
  refine CT.region ?_
  refine Wl.q rfl rfl (OpQ.move rfl) ?_
  refine Wl.g rfl rfl (OpG.callX N_go12 rfl .nil (fun _ => (.cons .nil)) (fun w hH hp => new_spec w a cp l hl)) ?_
  rintro ⟨b16, k16⟩ h16
  dsimp only at h16
  obtain ⟨hk16, hk16m⟩ := h16
  have hrT16 : Stays [] w (fun w => Rd w a ((l.take k16).map zi)) := Rd.stays (by rw [List.map_take]; exact hrl.take _)
  have hle16 : (l.take k16).length = k16 := by rw [List.length_take]; omega
  refine Wl.q rfl rfl (OpQ.assign rfl) ?_
  refine Wl.nil ?_
  refine PX.then_n ?_
  refine CT.seq ?_
  -- region 2: law.go:139
  refine CT.region ?_
  refine Wl.q rfl rfl (OpQ.move rfl) ?_
  refine Wl.g rfl rfl (OpG.callX N_go13 rfl (.cons .here .nil) (fun _ => (.cons .nil)) (fun w hH hp => next_spec w b16 a k16 cp (l.take k16) hle16 (by omega) (hH.stays hrT16 (.cons .here .nil)) 0 (Nat.zero_le _) hp (3) (by omega))) ?_
  rintro ⟨r18, p18⟩ h18
  dsimp only at h18
  obtain ⟨⟨h18a, h18b⟩, h18p⟩ := h18
  refine Wl.know 18 (v' := .int .i64 r18) rfl rfl ?_
  obtain ⟨L, hLL⟩ : ∃ L : Nat, 1 + r18 = L := ⟨(1 + r18).toNat, by omega⟩
  refine Wl.q rfl rfl (OpQ.add rfl rfl (by omega)) ?_
  refine Wl.know 19 (v' := .int .i64 (L : Int)) rfl (congrArg (Value.int .i64) hLL) ?_
  refine Wl.q rfl rfl (OpQ.assign rfl) ?_
  refine Wl.nil ?_
  refine PX.then_n ?_
  refine CT.seq ?_
  -- region 3: law.go:140
  refine CT.region ?_
  refine Wl.q rfl rfl (OpQ.move rfl) ?_
  refine Wl.q rfl rfl (OpQ.move rfl) ?_
  refine Wl.g rfl rfl (OpG.callX N_go17 rfl (.cons .here .nil) (fun _ => (.cons (.cons (.cons .nil)))) (fun w hH hp => monos_spec w b16 a k16 cp (l.take k16) hle16 (by omega) (hH.stays hrT16 (.cons .here .nil)) p18 h18p hp L (by omega))) ?_
  rintro ⟨ms, p22, a22, c22, bs22⟩ h22
  dsimp only at h22
  obtain ⟨⟨h22m, h22l⟩, h22p⟩ := h22
  refine Wl.know 22 (v' := .slice a22 ms.length c22) rfl rfl ?_
  refine Wl.q rfl rfl (OpQ.assign rfl) ?_
  refine Wl.nil ?_
  refine PX.then_n ?_
  refine CT.seq ?_
  -- region 4: law.go:141
  refine CT.region ?_
  refine Wl.q rfl rfl (OpQ.move rfl) ?_
  refine Wl.g rfl rfl (OpG.callX N_go12 rfl .nil (fun _ => (.cons .nil)) (fun w hH hp => new_spec w a2 cp2 l2 hl2)) ?_
  rintro ⟨b24, k24⟩ h24
  dsimp only at h24
  obtain ⟨hk24, hk24m⟩ := h24
  have hrT24 : Stays [] w (fun w => Rd w a2 ((l2.take k24).map zi)) := Rd.stays (by rw [List.map_take]; exact hrl2.take _)
  have hle24 : (l2.take k24).length = k24 := by rw [List.length_take]; omega
  refine Wl.q rfl rfl (OpQ.move rfl) ?_
  refine Wl.g rfl rfl (OpG.callX N_go15 rfl (.cons .here .nil) (fun _ => (.cons .nil)) (fun w hH hp => word_spec w b24 a2 k24 cp2 (l2.take k24) hle24 (by omega) (hH.stays hrT24 (.cons .here .nil)) 0 (Nat.zero_le _) hp (L : Int) 20 (by omega) (by omega))) ?_
  rintro ⟨ws, p26⟩ h26
  dsimp only at h26
  obtain ⟨⟨hwl, hwk0⟩, h26p⟩ := h26
  refine Wl.know 26 (v' := sv ws) rfl rfl ?_
  refine Wl.q rfl rfl (OpQ.assign rfl) ?_
  refine Wl.nil ?_
  refine PX.then_n ?_
  refine CT.seq ?_
  -- region 5: law.go:142
  refine CT.region ?_
  refine Wl.q rfl rfl (OpQ.move rfl) ?_
  refine Wl.q rfl rfl (OpQ.move rfl) ?_
  have hwk := okW_mono hwk0 (m := 6) (by omega) (by decide)
  have hz : moL ms (L : Int) = 0 := moL_zero (by omega) (by omega) h22m
  refine Wl.g rfl rfl (OpG.callX N_go18 rfl .nil (fun _ => (.cons .nil)) (fun w hH hp => of_spec w a22 c22 ms (fun w' he => ⟨(Stays.rd (hH.staysK0 (.there .here)) w' he), (Stays.frag (hH.staysK0 (.there (.there .here))) w' he)⟩) (owns_cap (hH.holds _ (Has.mem (Has.there Has.here))).1) (L : Int) (by omega))) ?_
  rintro ⟨xs30, r30, a30, c30⟩ h30
  dsimp only at h30
  obtain ⟨_, h30b⟩ := h30
  obtain ⟨hok6, _, hrl30, hcost, hval⟩ := h30b hz
  clear h30b
  have hn18 := nO_le h22m ms.length
  rw [List.take_length] at hn18
  obtain ⟨hfit, hfit4⟩ := cost_fit (L := L) (ms := ms) (by omega) (by omega)
  rw [Int.toNat_natCast] at hcost
  refine Wl.q rfl rfl (OpQ.move rfl) ?_
  refine Wl.q rfl rfl (OpQ.extract rfl rfl) ?_
  refine Wl.know 31 (v' := .slice a30 xs30.length c30) rfl rfl ?_
  refine Wl.q rfl rfl (OpQ.extract rfl rfl) ?_
  refine Wl.know 32 (v' := .int .i64 ((r30 : Nat) : Int)) rfl rfl ?_
  refine Wl.q rfl rfl (OpQ.extract rfl rfl) ?_
  refine Wl.know 33 (v' := .int .i64 (0)) rfl (congrArg (Value.int .i64) hz) ?_
  refine Wl.q rfl rfl (OpQ.assign rfl) ?_
  refine Wl.q rfl rfl (OpQ.assign rfl) ?_
  refine Wl.q rfl rfl (OpQ.assign rfl) ?_
  refine Wl.nil ?_
  refine PX.then_n ?_
  refine CT.seq ?_
  -- region 6: law.go:143
  refine CT.region ?_
  refine Wl.q rfl rfl (OpQ.assign rfl) ?_
  refine Wl.nil ?_
  refine PX.then_n ?_
  refine CT.seq ?_
  refine CT.seq ?_
  -- region 7: law.go:144
  refine CT.region ?_
  refine Wl.q rfl rfl (OpQ.move rfl) ?_
  refine Wl.q rfl rfl (OpQ.len N_un35 rfl) ?_
  refine Wl.q rfl rfl (OpQ.move rfl) ?_
  refine Wl.nil ?_
  refine PX.then_n ?_
  refine CT.block ?_
  -- the loop at region 8
  refine CT.fact (p := 0 < ms.length → a22.isSome = true) (fun w hH h0 => (hH.rd (.there (.there .here))).isSome (j := 0) (by rw [flat_len mov_len]; exact Nat.mul_pos h0 (by decide))) (fun hsa => ?_)
  refine CT.loop (ι := Nat) (fun j => j ≤ ms.length) (fun j => [(8, sv ws), (9, .slice a30 xs30.length c30), (10, .int .i64 ((r30 : Nat) : Int)), (11, .int .i64 (0)), (12, .bool (anyC (ms.take j) ws)), (34, .slice a22 ms.length c22), (35, .int .i64 (ms.length : Int)), (36, .int .i64 (j : Int))]) (fun j => [.row 31 4 (.slice a30 xs30.length c30) xs30.length (xs30.flatMap tv), .row 41 2 (.slice a22 ms.length c22) ms.length (ms.flatMap mov), .frag bs22 (mos ms)]) (fun j => ms.length - j) 0 (Nat.zero_le _) ⟨rfl, rfl, rfl, rfl, rfl, rfl, rfl, rfl, trivial⟩ (.keep rfl (.drop (.keep rfl (.keep rfl (.drop .nil))))) (fun j hj K0 hK0 => ?_)
  refine CT.seq ?_
  -- region 8: law.go:144
  refine CT.region ?_
  refine Wl.q rfl rfl (OpQ.lss rfl rfl) ?_
  refine Wl.nil ?_
  refine PX.then_n ?_
  refine CT.seq ?_
  refine CT.cond rfl (fun h37 => ?_) (fun h37 => ?_)
  · -- if t37: then
    have h37 := of_decide_eq_true h37
    refine CT.skip ?_
    refine PX.then_n ?_
    refine CT.seq ?_
    refine CT.block ?_
    refine CT.seq ?_
    -- region 9: law.go:144
    refine CT.region ?_
    refine Wl.q rfl rfl (OpQ.index N_un35 N_sz41 rfl rfl (by omega) (hsa (by omega))) ?_
    refine Wl.q rfl rfl (OpQ.loadAggG (cs := mov (ms.getD j m0)) N_ag41 N_sz41 rfl (fun w hH => hH.rd (.there .here)) (flat_cells mov_len ms m0 (by omega))) ?_
    refine Wl.g rfl rfl (OpG.alloc (zs := [.slice none 0 0, .slice none 0 0]) N_in41 rfl rfl) ?_
    rintro b14 _
    refine Wl.g rfl rfl (OpG.storeV (b := b14) N_sz41 rfl rfl rfl rfl (by repeat (first | exact Upd.here | apply Upd.there))) ?_
    rintro _ _
    refine Wl.nil ?_
    refine PX.then_n ?_
    -- region 10: law.go:145
    refine CT.region ?_
    refine Wl.q rfl rfl (OpQ.move rfl) ?_
    refine Wl.q rfl rfl (OpQ.move rfl) ?_
    refine Wl.split 41 rfl (fun hg41 => ?_) (fun hg41 => ?_)
    · -- t41 = True
      refine Wl.skip rfl rfl ?_
      refine Wl.skip rfl rfl ?_
      refine Wl.skip rfl rfl ?_
      refine Wl.q rfl rfl (OpQ.pickT rfl rfl) ?_
      refine Wl.q rfl rfl (OpQ.assign rfl) ?_
      refine Wl.nil ?_
      refine PX.block_n ?_
      refine PX.then_n ?_
      -- region 11: law.go:144
      refine CT.region ?_
      refine Wl.q rfl rfl (OpQ.add rfl rfl (by omega)) ?_
      refine Wl.q rfl rfl (OpQ.move rfl) ?_
      refine Wl.nil ?_
      exact PX.loop hK0 (j + 1) (by omega) (by first | omega | (dsimp only; omega)) ⟨rfl, rfl, rfl, rfl, (lkV rfl (congrArg Value.bool (by rw [anyC_take (by omega), hg41, Bool.true_or]))), rfl, rfl, rfl, trivial⟩ (.drop (HSub.refl _))
    · -- t41 = False
      refine Wl.q rfl rfl (OpQ.loadV (b := b14) N_ag41 N_sz41 rfl (by repeat (first | exact Has.here | apply Has.there)) (by rfl)) ?_
      refine Wl.q rfl rfl (OpQ.move rfl) ?_
      refine Wl.g rfl rfl (OpG.callV N_go24 rfl (fun w hH => matchM_spec w (ms.getD j m0) ((Stays.frag (hH.staysK0 (.there (.there (.there .here))))).mono (fun w h => h _ (getD_mem' (by omega)))) ws (by omega))) ?_
      rintro _ _
      refine Wl.q rfl rfl (OpQ.pickF rfl rfl) ?_
      refine Wl.q rfl rfl (OpQ.assign rfl) ?_
      refine Wl.nil ?_
      refine PX.block_n ?_
      refine PX.then_n ?_
      -- region 11: law.go:144
      refine CT.region ?_
      refine Wl.q rfl rfl (OpQ.add rfl rfl (by omega)) ?_
      refine Wl.q rfl rfl (OpQ.move rfl) ?_
      refine Wl.nil ?_
      exact PX.loop hK0 (j + 1) (by omega) (by first | omega | (dsimp only; omega)) ⟨rfl, rfl, rfl, rfl, (lkV rfl (congrArg Value.bool (by rw [anyC_take (by omega), hg41, Bool.false_or]))), rfl, rfl, rfl, trivial⟩ (.drop (HSub.refl _))
  · -- if t37: else
    have h37 := of_decide_eq_false h37
    obtain rfl : j = ms.length := by omega
    refine CT.exit ?_
    refine PX.then_x ?_
    refine PX.then_x ?_
    refine PX.block_x ?_
    refine PX.then_n ?_
    refine CT.seq ?_
    -- region 12: law.go:147
    refine CT.region ?_
    refine Wl.q rfl rfl (OpQ.move rfl) ?_
    refine Wl.q rfl rfl (OpQ.eql rfl rfl) ?_
    refine Wl.know 48 (v' := .bool true) rfl (congrArg Value.bool (by decide)) ?_
    refine Wl.q rfl rfl (OpQ.move rfl) ?_
    refine Wl.q rfl rfl (OpQ.move rfl) ?_
    refine Wl.q rfl rfl (OpQ.move rfl) ?_
    refine Wl.q rfl rfl (OpQ.move rfl) ?_
    refine Wl.g rfl rfl (OpG.callV N_go16 rfl (fun w hH => holds_spec w a30 c30 xs30 (hH.rd .here) (by omega) (owns_cap (hH.holds _ (Has.mem Has.here)).1) (r30 : Int) ws (by omega))) ?_
    rintro _ _
    refine Wl.q rfl rfl (OpQ.move rfl) ?_
    refine Wl.q rfl rfl (OpQ.eqlB N_un4 rfl rfl) ?_
    refine Wl.know 55 (v' := .bool true) rfl (congrArg Value.bool (by rw [of_law h22m hwk hok6 (by omega) hrl30 hval]; simp)) ?_
    refine Wl.q rfl rfl (OpQ.pickT rfl rfl) ?_
    refine Wl.q rfl rfl (OpQ.move rfl) ?_
    refine Wl.g rfl rfl (OpG.callV N_go11 rfl (fun w hH => known_spec w)) ?_
    rintro _ _
    refine Wl.know 58 (v' := .bool true) rfl (congrArg Value.bool rfl) ?_
    refine Wl.q rfl rfl (OpQ.pickT rfl rfl) ?_
    refine Wl.q rfl rfl (OpQ.assign rfl) ?_
    refine Wl.nil ?_
    refine PX.then_n ?_
    refine CT.ret ?_
    refine PX.ret1 rfl rfl (fun w' hH => ?_)
    exact ⟨rfl, hH.ext⟩

end Go.Proofs.Ytlmbcdjmdgbmjaa
