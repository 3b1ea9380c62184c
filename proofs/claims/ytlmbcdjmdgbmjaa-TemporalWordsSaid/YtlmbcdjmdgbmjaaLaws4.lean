/-
  What functions of the packages temporal and semigroupref39 compute, each by its walk. Conditions: those that each theorem names.
-/
import Derived.Test.YtlmbcdjmdgbmjaaMod
import Derived.Test.YtlmbcdjmdgbmjaaWalks9
import Derived.Test.YtlmbcdjmdgbmjaaLaws
set_option linter.unusedSimpArgs false
namespace Go.Proofs.Ytlmbcdjmdgbmjaa
open Go Go.Eng Go.Tl
open Go.Tp (zi)

theorem L_go12 : isGo Try.prog 12 = true := by kernel_rfl
theorem L_go13 : isGo Try.prog 13 = true := by kernel_rfl
theorem L_go17 : isGo Try.prog 17 = true := by kernel_rfl
theorem L_go18 : isGo Try.prog 18 = true := by kernel_rfl
theorem L_un35 : Try.prog.underlying 35 = some (.slice 41) := by kernel_rfl
theorem L_sz41 : sizeB Try.prog 41 = some 2 := by kernel_rfl
theorem L_ag41 : isAggB Try.prog 41 = some true := by kernel_rfl
theorem L_in41 : (Try.prog.info? 41).map (fun i => (i.zero, i.size, i.bytes)) = some (some (.agg #[.slice none 0 0, .slice none 0 0]), 2, 48) := by kernel_rfl
theorem L_fa41_1 : fieldB Try.prog 41 1 = some 1 := by kernel_rfl
theorem L_sc25 : scalarB Try.prog 25 = some true := by kernel_rfl
theorem L_un25 : Try.prog.underlying 25 = some (.slice 3) := by kernel_rfl
theorem L_go19 : isGo Try.prog 19 = true := by kernel_rfl
theorem L_un22 : Try.prog.underlying 22 = some (.slice 31) := by kernel_rfl
theorem L_go20 : isGo Try.prog 20 = true := by kernel_rfl
theorem L_un43 : Try.prog.underlying 43 = some (.slice 9) := by kernel_rfl
theorem L_sz9 : sizeB Try.prog 9 = some 1 := by kernel_rfl
theorem L_sc9 : scalarB Try.prog 9 = some true := by kernel_rfl
theorem L_go21 : isGo Try.prog 21 = true := by kernel_rfl
theorem L_go22 : isGo Try.prog 22 = true := by kernel_rfl
theorem L_un4 : Try.prog.underlying 4 = some .bool := by kernel_rfl
theorem L_go11 : isGo Try.prog 11 = true := by kernel_rfl
set_option maxRecDepth 100000 in
/-- semigroup/semigrouplaw39.TemporalOf -/
theorem TemporalOf_spec (w : World) (a : Option Addr) (cp : Nat) (l : List Int) (hrl : Rd w a (l.map zi)) (hl : l.length ≤ cp) : Calls Try.prog 5 #[.slice a l.length cp] w (fun e w' => e = .returned (.bool true) ∧ Ext [] w w') := by
  refine enter (args := [.slice a l.length cp]) [] 93 Try.func5 rfl rfl rfl ?_
  refine CT.seq ?_
  -- region 0: law.go:112
  refine CT.region ?_
  refine Wl.q rfl rfl (OpQ.assign rfl) ?_
  refine Wl.nil ?_
  refine PX.then_n ?_
  refine CT.seq ?_
  -- region 1: law.go:113
  refine CT.region ?_
  refine Wl.q rfl rfl (OpQ.move rfl) ?_
  refine Wl.g rfl rfl (OpG.callX L_go12 rfl .nil (fun _ => (.cons .nil)) (fun w hH hp => new_spec w a cp l hl)) ?_
  rintro ⟨b18, k18⟩ h18
  dsimp only at h18
  obtain ⟨hk18, hk18m⟩ := h18
  have hrT18 : Stays [] w (fun w => Rd w a ((l.take k18).map zi)) := Rd.stays (by rw [List.map_take]; exact hrl.take _)
  have hle18 : (l.take k18).length = k18 := by rw [List.length_take]; omega
  refine Wl.q rfl rfl (OpQ.assign rfl) ?_
  refine Wl.nil ?_
  refine PX.then_n ?_
  refine CT.seq ?_
  -- region 2: law.go:114
  refine CT.region ?_
  refine Wl.q rfl rfl (OpQ.move rfl) ?_
  refine Wl.g rfl rfl (OpG.callX L_go13 rfl (.cons .here .nil) (fun _ => (.cons .nil)) (fun w hH hp => next_spec w b18 a k18 cp (l.take k18) hle18 (by omega) (hH.stays hrT18 (.cons .here .nil)) 0 (Nat.zero_le _) hp (2) (by omega))) ?_
  rintro ⟨r20, p20⟩ h20
  dsimp only at h20
  obtain ⟨⟨h20a, h20b⟩, h20p⟩ := h20
  refine Wl.know 20 (v' := .int .i64 r20) rfl rfl ?_
  obtain ⟨L, hLL⟩ : ∃ L : Nat, 1 + r20 = L := ⟨(1 + r20).toNat, by omega⟩
  refine Wl.q rfl rfl (OpQ.add rfl rfl (by omega)) ?_
  refine Wl.know 21 (v' := .int .i64 (L : Int)) rfl (congrArg (Value.int .i64) hLL) ?_
  refine Wl.q rfl rfl (OpQ.assign rfl) ?_
  refine Wl.nil ?_
  refine PX.then_n ?_
  refine CT.seq ?_
  -- region 3: law.go:115
  refine CT.region ?_
  refine Wl.q rfl rfl (OpQ.move rfl) ?_
  refine Wl.q rfl rfl (OpQ.move rfl) ?_
  refine Wl.g rfl rfl (OpG.callX L_go17 rfl (.cons .here .nil) (fun _ => (.cons (.cons (.cons .nil)))) (fun w hH hp => monos_spec w b18 a k18 cp (l.take k18) hle18 (by omega) (hH.stays hrT18 (.cons .here .nil)) p20 h20p hp L (by omega))) ?_
  rintro ⟨ms, p24, a24, c24, bs24⟩ h24
  dsimp only at h24
  obtain ⟨⟨h24m, h24l⟩, h24p⟩ := h24
  refine Wl.know 24 (v' := .slice a24 ms.length c24) rfl rfl ?_
  refine Wl.q rfl rfl (OpQ.assign rfl) ?_
  refine Wl.nil ?_
  refine PX.then_n ?_
  refine CT.seq ?_
  -- region 4: law.go:116
  refine CT.region ?_
  refine Wl.q rfl rfl (OpQ.move rfl) ?_
  refine Wl.q rfl rfl (OpQ.move rfl) ?_
  have hz : moL ms (L : Int) = 0 := moL_zero (by omega) (by omega) h24m
  refine Wl.g rfl rfl (OpG.callX L_go18 rfl .nil (fun _ => (.cons .nil)) (fun w hH hp => of_spec w a24 c24 ms (fun w' he => ⟨(Stays.rd (hH.staysK0 .here) w' he), (Stays.frag (hH.staysK0 (.there .here)) w' he)⟩) (owns_cap (hH.holds _ (Has.mem Has.here)).1) (L : Int) (by omega))) ?_
  rintro ⟨xs28, r28, a28, c28⟩ h28
  dsimp only at h28
  obtain ⟨_, h28b⟩ := h28
  obtain ⟨hok6, hokL, hrl28, hcost, hval⟩ := h28b hz
  clear h28b
  have hn18 := nO_le h24m ms.length
  rw [List.take_length] at hn18
  obtain ⟨hfit, hfit4⟩ := cost_fit (L := L) (ms := ms) (by omega) (by omega)
  rw [Int.toNat_natCast] at hcost
  refine Wl.q rfl rfl (OpQ.move rfl) ?_
  refine Wl.q rfl rfl (OpQ.extract rfl rfl) ?_
  refine Wl.know 29 (v' := .slice a28 xs28.length c28) rfl rfl ?_
  refine Wl.q rfl rfl (OpQ.extract rfl rfl) ?_
  refine Wl.know 30 (v' := .int .i64 ((r28 : Nat) : Int)) rfl rfl ?_
  refine Wl.q rfl rfl (OpQ.extract rfl rfl) ?_
  refine Wl.know 31 (v' := .int .i64 (0)) rfl (congrArg (Value.int .i64) hz) ?_
  refine Wl.q rfl rfl (OpQ.assign rfl) ?_
  refine Wl.q rfl rfl (OpQ.assign rfl) ?_
  refine Wl.q rfl rfl (OpQ.assign rfl) ?_
  refine Wl.nil ?_
  refine PX.then_n ?_
  refine CT.seq ?_
  -- region 5: law.go:117
  refine CT.region ?_
  refine Wl.q rfl rfl (OpQ.assign rfl) ?_
  refine Wl.nil ?_
  refine PX.then_n ?_
  refine CT.seq ?_
  refine CT.seq ?_
  -- region 6: law.go:118
  refine CT.region ?_
  refine Wl.q rfl rfl (OpQ.move rfl) ?_
  refine Wl.q rfl rfl (OpQ.len L_un35 rfl) ?_
  refine Wl.q rfl rfl (OpQ.move rfl) ?_
  refine Wl.nil ?_
  refine PX.then_n ?_
  refine CT.block ?_
  -- the loop at region 7
  refine CT.fact (p := 0 < ms.length → a24.isSome = true) (fun w hH h0 => (hH.rd (.there .here)).isSome (j := 0) (by rw [flat_len mov_len]; exact Nat.mul_pos h0 (by decide))) (fun hsa => ?_)
  refine CT.loop (ι := Nat) (fun k => k ≤ ms.length) (fun k => [(4, .int .i64 (L : Int)), (5, .slice a24 ms.length c24), (6, .slice a28 xs28.length c28), (7, .int .i64 ((r28 : Nat) : Int)), (8, .int .i64 (0)), (9, .int .i64 ((nO (ms.take k) : Nat) : Int)), (32, .slice a24 ms.length c24), (33, .int .i64 (ms.length : Int)), (34, .int .i64 (k : Int))]) (fun k => [.row 31 4 (.slice a28 xs28.length c28) xs28.length (xs28.flatMap tv), .row 41 2 (.slice a24 ms.length c24) ms.length (ms.flatMap mov), .frag bs24 (mos ms)]) (fun k => ms.length - k) 0 (Nat.zero_le _) ⟨rfl, rfl, rfl, rfl, rfl, rfl, rfl, rfl, rfl, trivial⟩ (.keep rfl (.keep rfl (.keep rfl (.drop .nil)))) (fun k hk K0 hK0 => ?_)
  have hnk := nO_le h24m k
  refine CT.seq ?_
  -- region 7: law.go:118
  refine CT.region ?_
  refine Wl.q rfl rfl (OpQ.lss rfl rfl) ?_
  refine Wl.nil ?_
  refine PX.then_n ?_
  refine CT.seq ?_
  refine CT.cond rfl (fun h35 => ?_) (fun h35 => ?_)
  · -- if t35: then
    have h35 := of_decide_eq_true h35
    have hl4 := (h24m _ (getD_mem' (d := m0) (show k < ms.length by omega))).2
    refine CT.skip ?_
    refine PX.then_n ?_
    refine CT.seq ?_
    refine CT.block ?_
    refine CT.seq ?_
    -- region 8: law.go:118
    refine CT.region ?_
    refine Wl.q rfl rfl (OpQ.index L_un35 L_sz41 rfl rfl (by omega) (hsa (by omega))) ?_
    refine Wl.q rfl rfl (OpQ.loadAggG (cs := mov (ms.getD k m0)) L_ag41 L_sz41 rfl (fun w hH => hH.rd (.there .here)) (flat_cells mov_len ms m0 (by omega))) ?_
    refine Wl.g rfl rfl (OpG.alloc (zs := [.slice none 0 0, .slice none 0 0]) L_in41 rfl rfl) ?_
    rintro b11 _
    refine Wl.g rfl rfl (OpG.storeV (b := b11) L_sz41 rfl rfl rfl rfl (by repeat (first | exact Upd.here | apply Upd.there))) ?_
    rintro _ _
    refine Wl.nil ?_
    refine PX.then_n ?_
    -- region 9: law.go:119
    refine CT.region ?_
    refine Wl.q rfl rfl (OpQ.move rfl) ?_
    refine Wl.q rfl rfl (OpQ.fieldAddr L_fa41_1 rfl) ?_
    refine Wl.q rfl rfl (OpQ.loadF (b := b11) L_sc25 rfl (by repeat (first | exact Has.here | apply Has.there)) (by rfl)) ?_
    refine Wl.q rfl rfl (OpQ.len L_un25 rfl) ?_
    refine Wl.q rfl rfl (OpQ.add rfl rfl (by omega)) ?_
    refine Wl.q rfl rfl (OpQ.add rfl rfl (by omega)) ?_
    refine Wl.q rfl rfl (OpQ.assign rfl) ?_
    refine Wl.nil ?_
    refine PX.block_n ?_
    refine PX.then_n ?_
    -- region 10: law.go:118
    refine CT.region ?_
    refine Wl.q rfl rfl (OpQ.add rfl rfl (by omega)) ?_
    refine Wl.q rfl rfl (OpQ.move rfl) ?_
    refine Wl.nil ?_
    exact PX.loop hK0 (k + 1) (by omega) (by first | omega | (dsimp only; omega)) ⟨rfl, rfl, rfl, rfl, rfl, (lkV rfl (congrArg (Value.int .i64) (by rw [nO_take (by omega)]; omega))), rfl, rfl, rfl, trivial⟩ (.drop (HSub.refl _))
  · -- if t35: else
    have h35 := of_decide_eq_false h35
    obtain rfl : k = ms.length := by omega
    refine CT.exit ?_
    refine PX.then_x ?_
    refine PX.then_x ?_
    refine PX.block_x ?_
    refine PX.then_n ?_
    refine CT.seq ?_
    refine CT.seq ?_
    -- region 11: law.go:121
    refine CT.region ?_
    refine Wl.q rfl rfl (OpQ.move rfl) ?_
    refine Wl.q rfl rfl (OpQ.neq rfl rfl) ?_
    refine Wl.know 46 (v' := .bool false) rfl (congrArg Value.bool (by decide)) ?_
    refine Wl.q rfl rfl (OpQ.move rfl) ?_
    refine Wl.q rfl rfl (OpQ.move rfl) ?_
    refine Wl.q rfl rfl (OpQ.move rfl) ?_
    refine Wl.q rfl rfl (OpQ.move rfl) ?_
    refine Wl.g rfl rfl (OpG.callV L_go19 rfl (fun w hH => validateR_spec w a28 c28 xs28 (hH.rd .here) (by omega) (r28 : Int) (L : Int))) ?_
    rintro _ _
    refine Wl.know 51 (v' := .int .i64 (0)) rfl (congrArg (Value.int .i64) (vd_ok (by rw [mayL, decide_eq_true_eq]; omega) (by omega) hokL (by omega))) ?_
    refine Wl.q rfl rfl (OpQ.neq rfl rfl) ?_
    refine Wl.know 52 (v' := .bool false) rfl (congrArg Value.bool (by decide)) ?_
    refine Wl.q rfl rfl (OpQ.pickF rfl rfl) ?_
    refine Wl.q rfl rfl (OpQ.move rfl) ?_
    refine Wl.q rfl rfl (OpQ.move rfl) ?_
    refine Wl.q rfl rfl (OpQ.len L_un22 rfl) ?_
    refine Wl.q rfl rfl (OpQ.move rfl) ?_
    refine Wl.q rfl rfl (OpQ.add rfl rfl (by omega)) ?_
    refine Wl.q rfl rfl (OpQ.mul rfl rfl (by omega)) ?_
    refine Wl.know 59 (v' := .int .i64 ((2 * (L + 4) : Nat) : Int)) rfl (congrArg (Value.int .i64) (by omega)) ?_
    refine Wl.q rfl rfl (OpQ.move rfl) ?_
    refine Wl.q rfl rfl (OpQ.add rfl rfl (by omega)) ?_
    refine Wl.know 61 (v' := .int .i64 ((nO ms + 2 : Nat) : Int)) rfl (congrArg (Value.int .i64) (by rw [List.take_length]; omega)) ?_
    refine Wl.q rfl rfl (OpQ.mul rfl rfl (mul_fit hfit4)) ?_
    refine Wl.know 62 (v' := .int .i64 ((2 * (L + 4) * (nO ms + 2) : Nat) : Int)) rfl (congrArg (Value.int .i64) (Int.natCast_mul _ _).symm) ?_
    refine Wl.q rfl rfl (OpQ.gtr rfl rfl) ?_
    refine Wl.know 63 (v' := .bool false) rfl (congrArg Value.bool (decide_eq_false (by omega))) ?_
    refine Wl.q rfl rfl (OpQ.pickF rfl rfl) ?_
    refine Wl.nil ?_
    refine PX.then_n ?_
    refine CT.condF rfl ?_
    refine CT.skip ?_
    refine PX.then_n ?_
    refine CT.seq ?_
    refine CT.seq ?_
    -- region 13: law.go:124
    refine CT.region ?_
    refine Wl.q rfl rfl (OpQ.move rfl) ?_
    refine Wl.g rfl rfl (OpG.callX L_go20 rfl .nil (fun _ => (.cons .nil)) (fun w hH hp => words_spec w L 5 (by omega) (by omega) (tsz_small (by omega)))) ?_
    rintro ⟨ws66, a66, c66⟩ h66
    dsimp only at h66
    obtain ⟨h66, hw66⟩ := h66
    refine Wl.know 66 (v' := .slice a66 ws66.length c66) rfl rfl ?_
    refine Wl.q rfl rfl (OpQ.len L_un43 rfl) ?_
    refine Wl.q rfl rfl (OpQ.move rfl) ?_
    refine Wl.nil ?_
    refine PX.then_n ?_
    refine CT.block ?_
    -- the loop at region 14
    refine CT.fact (p := 0 < ws66.length → a66.isSome = true) (fun w hH h0 => (hH.rd .here).isSome (j := 0) (by rw [List.length_map]; exact h0)) (fun hsw => ?_)
    refine CT.loop (ι := Nat) (fun k => k ≤ ws66.length) (fun k => [(5, .slice a24 ms.length c24), (6, .slice a28 xs28.length c28), (7, .int .i64 ((r28 : Nat) : Int)), (66, .slice a66 ws66.length c66), (67, .int .i64 (ws66.length : Int)), (68, .int .i64 (k : Int))]) (fun k => [.row 9 1 (.slice a66 ws66.length c66) ws66.length (ws66.map sv), .row 31 4 (.slice a28 xs28.length c28) xs28.length (xs28.flatMap tv), .row 41 2 (.slice a24 ms.length c24) ms.length (ms.flatMap mov), .frag bs24 (mos ms)]) (fun k => ws66.length - k) 0 (Nat.zero_le _) ⟨rfl, rfl, rfl, rfl, rfl, rfl, trivial⟩ (.keep rfl (.keep rfl (.keep rfl (.keep rfl .nil)))) (fun k hk K1 hK1 => ?_)
    refine CT.seq ?_
    -- region 14: law.go:124
    refine CT.region ?_
    refine Wl.q rfl rfl (OpQ.lss rfl rfl) ?_
    refine Wl.nil ?_
    refine PX.then_n ?_
    refine CT.seq ?_
    refine CT.cond rfl (fun h69 => ?_) (fun h69 => ?_)
    · -- if t69: then
      have h69 := of_decide_eq_true h69
      obtain ⟨ws, hws⟩ : ∃ ws, ws = ws66.getD k [] := ⟨_, rfl⟩
      have hwg := okG_get h66 (show k < ws66.length by omega)
      rw [← hws] at hwg
      have hwl := hwg.2
      have hwk := okW_in (L := L) (by omega) hwg (by decide)
      refine CT.skip ?_
      refine PX.then_n ?_
      refine CT.seq ?_
      refine CT.block ?_
      refine CT.seq ?_
      -- region 15: law.go:124
      refine CT.region ?_
      refine Wl.q rfl rfl (OpQ.index1 L_un43 L_sz9 rfl rfl (by omega) (hsw (by omega))) ?_
      refine Wl.q rfl rfl (OpQ.loadRow L_sc9 rfl .here (getWd ws66 (i := k) (by omega))) ?_
      refine Wl.know 71 (v' := sv ws) rfl (congrArg sv hws.symm) ?_
      refine Wl.q rfl rfl (OpQ.assign rfl) ?_
      refine Wl.nil ?_
      refine PX.then_n ?_
      refine CT.seq ?_
      -- region 16: law.go:125
      refine CT.region ?_
      refine Wl.q rfl rfl (OpQ.assign rfl) ?_
      refine Wl.nil ?_
      refine PX.then_n ?_
      refine CT.seq ?_
      refine CT.seq ?_
      -- region 17: law.go:126
      refine CT.region ?_
      refine Wl.q rfl rfl (OpQ.move rfl) ?_
      refine Wl.q rfl rfl (OpQ.len L_un35 rfl) ?_
      refine Wl.q rfl rfl (OpQ.move rfl) ?_
      refine Wl.nil ?_
      refine PX.then_n ?_
      refine CT.block ?_
      -- the loop at region 18
      refine CT.loop (ι := Nat) (fun j => j ≤ ms.length) (fun j => [(5, .slice a24 ms.length c24), (6, .slice a28 xs28.length c28), (7, .int .i64 ((r28 : Nat) : Int)), (13, sv ws), (14, .bool (anyC (ms.take j) ws)), (66, .slice a66 ws66.length c66), (67, .int .i64 (ws66.length : Int)), (68, .int .i64 (k : Int)), (72, .slice a24 ms.length c24), (73, .int .i64 (ms.length : Int)), (74, .int .i64 (j : Int))]) (fun j => [.row 9 1 (.slice a66 ws66.length c66) ws66.length (ws66.map sv), .row 31 4 (.slice a28 xs28.length c28) xs28.length (xs28.flatMap tv), .row 41 2 (.slice a24 ms.length c24) ms.length (ms.flatMap mov), .frag bs24 (mos ms)]) (fun j => ms.length - j) 0 (Nat.zero_le _) ⟨rfl, rfl, rfl, rfl, rfl, rfl, rfl, rfl, rfl, rfl, rfl, trivial⟩ (HSub.refl _) (fun j hj K2 hK2 => ?_)
      refine CT.seq ?_
      -- region 18: law.go:126
      refine CT.region ?_
      refine Wl.q rfl rfl (OpQ.lss rfl rfl) ?_
      refine Wl.nil ?_
      refine PX.then_n ?_
      refine CT.seq ?_
      refine CT.cond rfl (fun h75 => ?_) (fun h75 => ?_)
      · -- if t75: then
        have h75 := of_decide_eq_true h75
        refine CT.skip ?_
        refine PX.then_n ?_
        refine CT.seq ?_
        refine CT.block ?_
        refine CT.seq ?_
        -- region 19: law.go:126
        refine CT.region ?_
        refine Wl.q rfl rfl (OpQ.index L_un35 L_sz41 rfl rfl (by omega) (hsa (by omega))) ?_
        refine Wl.q rfl rfl (OpQ.loadAggG (cs := mov (ms.getD j m0)) L_ag41 L_sz41 rfl (fun w hH => hH.rd (.there (.there .here))) (flat_cells mov_len ms m0 (by omega))) ?_
        refine Wl.g rfl rfl (OpG.alloc (zs := [.slice none 0 0, .slice none 0 0]) L_in41 rfl rfl) ?_
        rintro b16 _
        refine Wl.g rfl rfl (OpG.storeV (b := b16) L_sz41 rfl rfl rfl rfl (by repeat (first | exact Upd.here | apply Upd.there))) ?_
        rintro _ _
        refine Wl.nil ?_
        refine PX.then_n ?_
        -- region 20: law.go:127
        refine CT.region ?_
        refine Wl.q rfl rfl (OpQ.move rfl) ?_
        refine Wl.q rfl rfl (OpQ.move rfl) ?_
        refine Wl.split 79 rfl (fun hg79 => ?_) (fun hg79 => ?_)
        · -- t79 = True
          refine Wl.skip rfl rfl ?_
          refine Wl.skip rfl rfl ?_
          refine Wl.skip rfl rfl ?_
          refine Wl.q rfl rfl (OpQ.pickT rfl rfl) ?_
          refine Wl.q rfl rfl (OpQ.assign rfl) ?_
          refine Wl.nil ?_
          refine PX.block_n ?_
          refine PX.then_n ?_
          -- region 21: law.go:126
          refine CT.region ?_
          refine Wl.q rfl rfl (OpQ.add rfl rfl (by omega)) ?_
          refine Wl.q rfl rfl (OpQ.move rfl) ?_
          refine Wl.nil ?_
          exact PX.loop hK2 (j + 1) (by omega) (by first | omega | (dsimp only; omega)) ⟨rfl, rfl, rfl, rfl, (lkV rfl (congrArg Value.bool (by rw [anyC_take (by omega), hg79, Bool.true_or]))), rfl, rfl, rfl, rfl, rfl, rfl, trivial⟩ (.drop (HSub.refl _))
        · -- t79 = False
          refine Wl.q rfl rfl (OpQ.loadV (b := b16) L_ag41 L_sz41 rfl (by repeat (first | exact Has.here | apply Has.there)) (by rfl)) ?_
          refine Wl.q rfl rfl (OpQ.move rfl) ?_
          refine Wl.g rfl rfl (OpG.callV L_go21 rfl (fun w hH => match_spec w (ms.getD j m0) ((Stays.frag (hH.staysK0 (.there (.there (.there (.there .here)))))).mono (fun w h => h _ (getD_mem' (by omega)))) ws (by omega))) ?_
          rintro _ _
          refine Wl.q rfl rfl (OpQ.pickF rfl rfl) ?_
          refine Wl.q rfl rfl (OpQ.assign rfl) ?_
          refine Wl.nil ?_
          refine PX.block_n ?_
          refine PX.then_n ?_
          -- region 21: law.go:126
          refine CT.region ?_
          refine Wl.q rfl rfl (OpQ.add rfl rfl (by omega)) ?_
          refine Wl.q rfl rfl (OpQ.move rfl) ?_
          refine Wl.nil ?_
          exact PX.loop hK2 (j + 1) (by omega) (by first | omega | (dsimp only; omega)) ⟨rfl, rfl, rfl, rfl, (lkV rfl (congrArg Value.bool (by rw [anyC_take (by omega), hg79, Bool.false_or]))), rfl, rfl, rfl, rfl, rfl, rfl, trivial⟩ (.drop (HSub.refl _))
      · -- if t75: else
        have h75 := of_decide_eq_false h75
        obtain rfl : j = ms.length := by omega
        refine CT.exit ?_
        refine PX.then_x ?_
        refine PX.then_x ?_
        refine PX.block_x ?_
        refine PX.then_n ?_
        refine CT.seq ?_
        -- region 22: law.go:129
        refine CT.region ?_
        refine Wl.q rfl rfl (OpQ.move rfl) ?_
        refine Wl.q rfl rfl (OpQ.move rfl) ?_
        refine Wl.q rfl rfl (OpQ.move rfl) ?_
        refine Wl.g rfl rfl (OpG.callV L_go22 rfl (fun w hH => holdsR_spec w a28 c28 xs28 (hH.rd (.there .here)) (by omega) (r28 : Int) ws (by omega))) ?_
        rintro _ _
        refine Wl.q rfl rfl (OpQ.move rfl) ?_
        refine Wl.q rfl rfl (OpQ.neqB L_un4 rfl rfl) ?_
        refine Wl.know 90 (v' := .bool false) rfl (congrArg Value.bool (by rw [of_law h24m hwk hok6 (by omega) hrl28 hval]; simp)) ?_
        refine Wl.nil ?_
        refine PX.then_n ?_
        refine CT.condF rfl ?_
        refine CT.skip ?_
        refine PX.block_n ?_
        refine PX.then_n ?_
        -- region 24: law.go:124
        refine CT.region ?_
        refine Wl.q rfl rfl (OpQ.add rfl rfl (by omega)) ?_
        refine Wl.q rfl rfl (OpQ.move rfl) ?_
        refine Wl.nil ?_
        exact PX.loop hK1 (k + 1) (by omega) (by first | omega | (dsimp only; omega)) ⟨rfl, rfl, rfl, rfl, rfl, rfl, trivial⟩ (HSub.refl _)
    · -- if t69: else
      have h69 := of_decide_eq_false h69
      refine CT.exit ?_
      refine PX.then_x ?_
      refine PX.then_x ?_
      refine PX.block_x ?_
      refine PX.then_n ?_
      refine CT.seq ?_
      -- region 25: law.go:133
      refine CT.region ?_
      refine Wl.g rfl rfl (OpG.callV L_go11 rfl (fun w hH => known_spec w)) ?_
      rintro _ _
      refine Wl.know 92 (v' := .bool true) rfl (congrArg Value.bool rfl) ?_
      refine Wl.q rfl rfl (OpQ.assign rfl) ?_
      refine Wl.nil ?_
      refine PX.then_n ?_
      refine CT.ret ?_
      refine PX.ret1 rfl rfl (fun w' hH => ?_)
      exact ⟨rfl, hH.ext⟩

end Go.Proofs.Ytlmbcdjmdgbmjaa
