/-
  What functions of the packages temporal and semigroupref39 compute, each by its walk. Conditions: those that each theorem names.
-/
import Derived.Test.YtlmbcdjmdgbmjaaMod
import Derived.Test.YtlmbcdjmdgbmjaaWalks6
set_option linter.unusedSimpArgs false
namespace Go.Proofs.Ytlmbcdjmdgbmjaa
open Go Go.Eng Go.Tl
open Go.Tp (zi)

theorem G_un22 : Try.prog.underlying 22 = some (.slice 31) := by kernel_rfl
theorem G_in31 : (Try.prog.info? 31).map (fun i => (i.zero, i.size, i.bytes)) = some (some (.agg #[.int .i64 0, .int .i64 0, .int .i64 0, .int .i64 0]), 4, 32) := by kernel_rfl
theorem G_go12 : isGo Try.prog 12 = true := by kernel_rfl
theorem G_go13 : isGo Try.prog 13 = true := by kernel_rfl
theorem G_go14 : isGo Try.prog 14 = true := by kernel_rfl
theorem G_pl31 : placesB Try.prog 31 = some (#[.int .i64 0, .int .i64 0, .int .i64 0, .int .i64 0], [(0, 1), (1, 1), (2, 1), (3, 1)]) := by kernel_rfl
theorem G_go15 : isGo Try.prog 15 = true := by kernel_rfl
theorem G_go16 : isGo Try.prog 16 = true := by kernel_rfl
theorem G_un4 : Try.prog.underlying 4 = some .bool := by kernel_rfl
theorem G_go11 : isGo Try.prog 11 = true := by kernel_rfl
set_option maxRecDepth 100000 in
/-- semigroup/semigrouplaw39.TemporalUnfolds -/
theorem TemporalUnfolds_spec (w : World) (a : Option Addr) (cp : Nat) (l : List Int) (hrl : Rd w a (l.map zi)) (hl : l.length ≤ cp) (a2 : Option Addr) (cp2 : Nat) (l2 : List Int) (hrl2 : Rd w a2 (l2.map zi)) (hl2 : l2.length ≤ cp2) : Calls Try.prog 4 #[.slice a l.length cp, .slice a2 l2.length cp2] w (fun e w' => e = .returned (.bool true) ∧ Ext [] w w') := by
  refine enter (args := [.slice a l.length cp, .slice a2 l2.length cp2]) [] 61 Try.func4 rfl rfl rfl ?_
  refine CT.seq ?_
  -- region 0: law.go:166
  refine CT.region ?_
  refine Wl.q rfl rfl (OpQ.assign rfl) ?_
  refine Wl.nil ?_
  refine PX.then_n ?_
  refine CT.seq ?_
  -- region 1: law.go:167
  refine CT.region ?_
  refine Wl.q rfl rfl (OpQ.move rfl) ?_
  refine Wl.g rfl rfl (OpG.callX G_go12 rfl .nil (fun _ => (.cons .nil)) (fun w hH hp => new_spec w a cp l hl)) ?_
  rintro ⟨b13, k13⟩ h13
  dsimp only at h13
  obtain ⟨hk13, hk13m⟩ := h13
  have hrT13 : Stays [] w (fun w => Rd w a ((l.take k13).map zi)) := Rd.stays (by rw [List.map_take]; exact hrl.take _)
  have hle13 : (l.take k13).length = k13 := by rw [List.length_take]; omega
  refine Wl.q rfl rfl (OpQ.assign rfl) ?_
  refine Wl.nil ?_
  refine PX.then_n ?_
  refine CT.seq ?_
  -- region 2: law.go:168
  refine CT.region ?_
  refine Wl.q rfl rfl (OpQ.move rfl) ?_
  refine Wl.g rfl rfl (OpG.callX G_go13 rfl (.cons .here .nil) (fun _ => (.cons .nil)) (fun w hH hp => next_spec w b13 a k13 cp (l.take k13) hle13 (by omega) (hH.stays hrT13 (.cons .here .nil)) 0 (Nat.zero_le _) hp (2) (by omega))) ?_
  rintro ⟨r15, p15⟩ h15
  dsimp only at h15
  obtain ⟨⟨h15a, h15b⟩, h15p⟩ := h15
  refine Wl.know 15 (v' := .int .i64 r15) rfl rfl ?_
  refine Wl.q rfl rfl (OpQ.add rfl rfl (by omega)) ?_
  refine Wl.q rfl rfl (OpQ.assign rfl) ?_
  refine Wl.nil ?_
  refine PX.then_n ?_
  refine CT.seq ?_
  -- region 3: law.go:169
  refine CT.region ?_
  refine Wl.q rfl rfl (OpQ.move rfl) ?_
  refine Wl.q rfl rfl (OpQ.move rfl) ?_
  refine Wl.g rfl rfl (OpG.callX G_go14 rfl (.cons .here .nil) (fun _ => (.cons (.cons .nil))) (fun w hH hp => list_spec w b13 a k13 cp (l.take k13) hle13 (by omega) (hH.stays hrT13 (.cons .here .nil)) p15 h15p hp (1 + r15) 8 (by omega) (by omega))) ?_
  rintro ⟨xs, p19, a19, c19⟩ h19
  dsimp only at h19
  obtain ⟨⟨hok, hlen1, hlen8⟩, h19p⟩ := h19
  refine Wl.know 19 (v' := .slice a19 xs.length c19) rfl rfl ?_
  refine Wl.q rfl rfl (OpQ.assign rfl) ?_
  refine Wl.nil ?_
  refine PX.then_n ?_
  refine CT.seq ?_
  -- region 4: law.go:170
  refine CT.region ?_
  refine Wl.q rfl rfl (OpQ.move rfl) ?_
  refine Wl.q rfl rfl (OpQ.len G_un22 rfl) ?_
  refine Wl.q rfl rfl (OpQ.assign rfl) ?_
  refine Wl.nil ?_
  refine PX.then_n ?_
  refine CT.seq ?_
  -- region 5: law.go:171
  refine CT.region ?_
  refine Wl.q rfl rfl (OpQ.move rfl) ?_
  refine Wl.q rfl rfl (OpQ.move rfl) ?_
  refine Wl.g rfl rfl (OpG.callX G_go13 rfl (.cons (.there .here) .nil) (fun _ => (.cons .nil)) (fun w hH hp => next_spec w b13 a k13 cp (l.take k13) hle13 (by omega) (hH.stays hrT13 (.cons (.there .here) .nil)) p19 h19p hp ((xs.length : Int)) (by omega))) ?_
  rintro ⟨r24, p24⟩ h24
  dsimp only at h24
  obtain ⟨⟨h24a, h24b⟩, h24p⟩ := h24
  refine Wl.know 24 (v' := .int .i64 ((r24.toNat : Nat) : Int)) rfl (congrArg (Value.int .i64) (by omega)) ?_
  refine Wl.q rfl rfl (OpQ.move rfl) ?_
  refine Wl.q rfl rfl (OpQ.move rfl) ?_
  refine Wl.g rfl rfl (OpG.callX G_go13 rfl (.cons .here .nil) (fun _ => (.cons .nil)) (fun w hH hp => next_spec w b13 a k13 cp (l.take k13) hle13 (by omega) (hH.stays hrT13 (.cons .here .nil)) p24 h24p hp ((xs.length : Int)) (by omega))) ?_
  rintro ⟨r27, p27⟩ h27
  dsimp only at h27
  obtain ⟨⟨h27a, h27b⟩, h27p⟩ := h27
  refine Wl.know 27 (v' := .int .i64 ((r27.toNat : Nat) : Int)) rfl (congrArg (Value.int .i64) (by omega)) ?_
  refine Wl.q rfl rfl (OpQ.assign rfl) ?_
  refine Wl.q rfl rfl (OpQ.assign rfl) ?_
  refine Wl.nil ?_
  refine PX.then_n ?_
  refine CT.seq ?_
  -- region 6: law.go:172
  refine CT.region ?_
  refine Wl.q rfl rfl (OpQ.move rfl) ?_
  refine Wl.q rfl rfl (OpQ.move rfl) ?_
  refine Wl.q rfl rfl (OpQ.move rfl) ?_
  refine Wl.q rfl rfl (OpQ.build (cells := #[.int .i64 8, .int .i64 0, .int .i64 ((r24.toNat : Nat)), .int .i64 ((r27.toNat : Nat))]) G_pl31 rfl rfl) ?_
  refine Wl.q rfl rfl (OpQ.move rfl) ?_
  refine Wl.q rfl rfl (OpQ.build (cells := #[.int .i64 7, .int .i64 0, .int .i64 ((xs.length : Nat)), .int .i64 0]) G_pl31 rfl rfl) ?_
  refine Wl.q rfl rfl (OpQ.move rfl) ?_
  refine Wl.q rfl rfl (OpQ.move rfl) ?_
  refine Wl.q rfl rfl (OpQ.add rfl rfl (by omega)) ?_
  refine Wl.q rfl rfl (OpQ.build (cells := #[.int .i64 5, .int .i64 0, .int .i64 ((r24.toNat : Nat)), .int .i64 ((xs.length : Int) + 1)]) G_pl31 rfl rfl) ?_
  refine Wl.q rfl rfl (OpQ.move rfl) ?_
  refine Wl.q rfl rfl (OpQ.move rfl) ?_
  refine Wl.q rfl rfl (OpQ.add rfl rfl (by omega)) ?_
  refine Wl.q rfl rfl (OpQ.build (cells := #[.int .i64 6, .int .i64 0, .int .i64 ((r27.toNat : Nat)), .int .i64 ((xs.length : Int) + 2)]) G_pl31 rfl rfl) ?_
  refine Wl.g rfl rfl (OpG.litS (vs := (unfT xs.length r24.toNat r27.toNat).flatMap tv) G_un22 G_in31 rfl (by decide) (by kernel_rfl) rfl) ?_
  rintro b42 _
  refine Wl.g rfl rfl (OpG.append G_un22 G_in31 (by rfl) (by decide) rfl rfl (p := 2) rfl (fun w hH => hH.rd .here) ⟨rfl, (by simp [Value.oneCell', unfT]), (by omega), (by omega)⟩ (nm := (xs ++ unfT xs.length r24.toNat r27.toNat).length) (by simp [unfT]) (all := (xs ++ unfT xs.length r24.toNat r27.toNat).flatMap tv) (by rw [List.flatMap_append])) ?_
  rintro ⟨a43, c43⟩ h43
  refine Wl.q rfl rfl (OpQ.assign rfl) ?_
  refine Wl.nil ?_
  refine PX.then_n ?_
  refine CT.seq ?_
  -- region 7: law.go:173
  refine CT.region ?_
  refine Wl.q rfl rfl (OpQ.move rfl) ?_
  refine Wl.g rfl rfl (OpG.callX G_go12 rfl .nil (fun _ => (.cons .nil)) (fun w hH hp => new_spec w a2 cp2 l2 hl2)) ?_
  rintro ⟨b45, k45⟩ h45
  dsimp only at h45
  obtain ⟨hk45, hk45m⟩ := h45
  have hrT45 : Stays [] w (fun w => Rd w a2 ((l2.take k45).map zi)) := Rd.stays (by rw [List.map_take]; exact hrl2.take _)
  have hle45 : (l2.take k45).length = k45 := by rw [List.length_take]; omega
  refine Wl.q rfl rfl (OpQ.move rfl) ?_
  refine Wl.g rfl rfl (OpG.callX G_go15 rfl (.cons .here .nil) (fun _ => (.cons .nil)) (fun w hH hp => word_spec w b45 a2 k45 cp2 (l2.take k45) hle45 (by omega) (hH.stays hrT45 (.cons .here .nil)) 0 (Nat.zero_le _) hp (1 + r15) 12 (by omega) (by omega))) ?_
  rintro ⟨ws, p47⟩ h47
  dsimp only at h47
  obtain ⟨⟨hwl, hwk⟩, h47p⟩ := h47
  refine Wl.know 47 (v' := sv ws) rfl rfl ?_
  refine Wl.q rfl rfl (OpQ.assign rfl) ?_
  refine Wl.nil ?_
  refine PX.then_n ?_
  refine CT.seq ?_
  -- region 8: law.go:174
  refine CT.region ?_
  refine Wl.q rfl rfl (OpQ.move rfl) ?_
  refine Wl.q rfl rfl (OpQ.move rfl) ?_
  refine Wl.q rfl rfl (OpQ.move rfl) ?_
  refine Wl.g rfl rfl (OpG.callV G_go16 rfl (fun w hH => holds_spec w a43 c43 (xs ++ unfT xs.length r24.toNat r27.toNat) (hH.rd (.there (.there (.there .here)))) (by simp [unfT]; omega) (owns_cap (hH.holds _ (Has.mem (.there (.there (.there .here))))).1) (xs.length : Int) ws (by omega))) ?_
  rintro _ _
  refine Wl.q rfl rfl (OpQ.move rfl) ?_
  refine Wl.q rfl rfl (OpQ.move rfl) ?_
  refine Wl.q rfl rfl (OpQ.add rfl rfl (by omega)) ?_
  refine Wl.q rfl rfl (OpQ.move rfl) ?_
  refine Wl.g rfl rfl (OpG.callV G_go16 rfl (fun w hH => holds_spec w a43 c43 (xs ++ unfT xs.length r24.toNat r27.toNat) (hH.rd (.there (.there (.there .here)))) (by simp [unfT]; omega) (owns_cap (hH.holds _ (Has.mem (.there (.there (.there .here))))).1) ((xs.length : Int) + 3) ws (by omega))) ?_
  rintro _ _
  refine Wl.q rfl rfl (OpQ.eqlB G_un4 rfl rfl) ?_
  refine Wl.know 57 (v' := .bool true) rfl (congrArg Value.bool (by rw [unf_holds (okL_mono hok (by omega)) (by omega) (by omega) (by omega)]; simp)) ?_
  refine Wl.q rfl rfl (OpQ.move rfl) ?_
  refine Wl.g rfl rfl (OpG.callV G_go11 rfl (fun w hH => known_spec w)) ?_
  rintro _ _
  refine Wl.know 59 (v' := .bool true) rfl (congrArg Value.bool rfl) ?_
  refine Wl.q rfl rfl (OpQ.pickT rfl rfl) ?_
  refine Wl.q rfl rfl (OpQ.assign rfl) ?_
  refine Wl.nil ?_
  refine PX.then_n ?_
  refine CT.ret ?_
  refine PX.ret1 rfl rfl (fun w' hH => ?_)
  exact ⟨rfl, hH.ext⟩

end Go.Proofs.Ytlmbcdjmdgbmjaa
