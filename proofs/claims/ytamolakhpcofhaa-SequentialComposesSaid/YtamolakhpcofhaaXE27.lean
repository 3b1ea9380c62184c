/-
  What functions of the program compute, each by its walk. Conditions: those that each theorem names.
-/
import Derived.Test.YtamolakhpcofhaaXE25
import Derived.Test.YtamolakhpcofhaaXE26
import Derived.Test.YtamolakhpcofhaaXE13
import Derived.Test.YtamolakhpcofhaaXE14
import Derived.Test.YtamolakhpcofhaaXE15
set_option linter.unusedSimpArgs false
namespace Go.Proofs.Ytamolakhpcofhaa
open Go Go.Eng Go.Am Go.Sq
open Go.Tp (zi)
open Go.Tl (mayL Wd okW okB bo)

theorem XA_go9 : isGo Try.prog 9 = true := by kernel_rfl
theorem XA_go11 : isGo Try.prog 11 = true := by kernel_rfl
theorem XA_go10 : isGo Try.prog 10 = true := by kernel_rfl
theorem XA_in30 : (Try.prog.info? 30).map (fun i => (i.zero, i.size, i.bytes)) = some (some (.agg #[.int .i64 0, .int .i64 0, .string ⟨#[]⟩, .slice none 0 0, .slice none 0 0, .slice none 0 0, .slice none 0 0]), 7, 128) := by kernel_rfl
theorem XA_sz30 : sizeB Try.prog 30 = some 7 := by kernel_rfl
theorem XA_go16 : isGo Try.prog 16 = true := by kernel_rfl
theorem XA_ag30 : isAggB Try.prog 30 = some true := by kernel_rfl
theorem XA_go17 : isGo Try.prog 17 = true := by kernel_rfl
theorem XA_go18 : isGo Try.prog 18 = true := by kernel_rfl
theorem XA_go14 : isGo Try.prog 14 = true := by kernel_rfl
theorem XA_go19 : isGo Try.prog 19 = true := by kernel_rfl
theorem XA_go15 : isGo Try.prog 15 = true := by kernel_rfl
theorem XA_un4 : Try.prog.underlying 4 = some .bool := by kernel_rfl
set_option maxRecDepth 100000 in
set_option maxHeartbeats 1000000 in
/-- semigroup/semigrouplaw42.SequentialComposes -/
theorem SequentialComposes_spec (w : World) (a : Option Addr) (cp : Nat) (l : List Int) (hrl : Rd w a (l.map zi)) (hl : l.length ≤ cp) (a2 : Option Addr) (cp2 : Nat) (l2 : List Int) (hrl2 : Rd w a2 (l2.map zi)) (hl2 : l2.length ≤ cp2) : Calls Try.prog 4 #[.slice a l.length cp, .slice a2 l2.length cp2] w (fun e w' => e = .returned (.bool true) ∧ Ext [] w w') := by
 refine enter (args := [.slice a l.length cp, .slice a2 l2.length cp2]) [] 94 Try.func4 rfl rfl rfl ?_
 refine CT.seq ?_
 refine CT.region ?_
 refine Wl.q rfl rfl (OpQ.assign rfl) ?_
 refine Wl.nil ?_
 refine PX.then_n ?_
 refine CT.seq ?_
 refine CT.region ?_
 refine Wl.q rfl rfl (OpQ.move rfl) ?_
 refine Wl.g rfl rfl (OpG.callX XA_go9 rfl .nil (fun _ => (.cons .nil)) (fun w hH hp => new_spec w a cp l hl)) ?_
 rintro ⟨b21, k21⟩ h21
 dsimp only at h21
 obtain ⟨hk21, hk21m⟩ := h21
 have hrT21 : Stays [] w (fun w => Rd w a ((l.take k21).map zi)) := Rd.stays (by rw [List.map_take]; exact hrl.take _)
 have hle21 : (l.take k21).length = k21 := by rw [List.length_take]; omega
 refine Wl.q rfl rfl (OpQ.assign rfl) ?_
 refine Wl.nil ?_
 refine PX.then_n ?_
 refine CT.seq ?_
 refine CT.region ?_
 refine Wl.q rfl rfl (OpQ.move rfl) ?_
 refine Wl.g rfl rfl (OpG.callX XA_go11 rfl (.cons .here .nil) (fun _ => (.cons .nil)) (fun w hH hp => next_spec w b21 a k21 cp (l.take k21) hle21 (by omega) (hH.stays hrT21 (.cons .here .nil)) 0 (Nat.zero_le _) hp (2) (by omega))) ?_
 rintro ⟨r23, p23⟩ h23
 dsimp only at h23
 obtain ⟨⟨h23a, h23b⟩, h23p⟩ := h23
 refine Wl.know 23 (v' := .int .i64 r23) rfl rfl ?_
 obtain ⟨L, hL⟩ : ∃ L : Nat, (L : Int) = 1 + r23 := ⟨(1 + r23).toNat, by omega⟩
 refine Wl.q rfl rfl (OpQ.add rfl rfl (by omega)) ?_
 refine Wl.know 24 (v' := .int .i64 ((L : Nat) : Int)) rfl (congrArg (Value.int .i64) hL.symm) ?_
 refine Wl.q rfl rfl (OpQ.assign rfl) ?_
 refine Wl.nil ?_
 refine PX.then_n ?_
 refine CT.seq ?_
 refine CT.region ?_
 refine Wl.q rfl rfl (OpQ.move rfl) ?_
 refine Wl.q rfl rfl (OpQ.move rfl) ?_
 refine Wl.g rfl rfl (OpG.callX XA_go10 rfl (.cons .here .nil) (fun _ => (App.of _ _)) (fun w hH hp => tseq_spec w b21 a k21 cp (l.take k21) hle21 (by omega) (hH.stays hrT21 (.cons .here .nil)) p23 h23p hp L (by omega) 4 2 (by omega) (by omega))) ?_
 rintro ⟨F, p27⟩ h27
 dsimp only at h27
 obtain ⟨⟨hFo, hFL, hFn, hFv⟩, h27p⟩ := h27
 refine Wl.know 27 (v' := svv F) rfl rfl ?_
 refine Wl.as (fun _ h => HOk.bindL (L := svH F 3 22 4 9 28) (F := [.row 57 2 (vb b21) 1 [.slice a k21 cp, .int .i64 ((p27 : Nat) : Int)]] ++ []) (p := svm F) (HOk.rot (A := [_]) (B := svH F 3 22 4 9 28) h) (fun w hk => svm_of hk)) ?_
 generalize blks _ = fF
 rw [← F.n_eq] at hFn
 refine Wl.q rfl rfl (OpQ.move rfl) ?_
 refine Wl.g rfl rfl (OpG.callX XA_go10 rfl (.cons (.there .here) .nil) (fun _ => (App.of _ _)) (fun w hH hp => tseq_spec w b21 a k21 cp (l.take k21) hle21 (by omega) (hH.stays hrT21 (.cons (.there .here) .nil)) p27 h27p hp 2 (by omega) 4 3 (by omega) (by omega))) ?_
 rintro ⟨G, p29⟩ h29
 dsimp only at h29
 obtain ⟨⟨hGo, hGL, hGn, hGv⟩, h29p⟩ := h29
 refine Wl.know 29 (v' := svv G) rfl rfl ?_
 refine Wl.as (fun _ h => HOk.bindL (L := svH G 3 22 4 9 28) (F := [.row 57 2 (vb b21) 1 [.slice a k21 cp, .int .i64 ((p29 : Nat) : Int)]] ++ [.frag fF (svm F)]) (p := svm G) (HOk.rot (A := [_]) (B := svH G 3 22 4 9 28) h) (fun w hk => svm_of hk)) ?_
 generalize blks _ = fG
 rw [← G.n_eq] at hGn
 have hFv2 : F.sq.Over G.L := by rw [hGL]; exact hFv
 have hFG : F.sq.n * G.sq.n ≤ 511 := Nat.le_trans (Nat.mul_le_mul (show F.sq.n ≤ 4 by omega) (show G.sq.n ≤ 4 by omega)) (by decide)
 refine Wl.g rfl rfl (OpG.alloc (zs := [.int .i64 0, .int .i64 0, .string ⟨#[]⟩, .slice none 0 0, .slice none 0 0, .slice none 0 0, .slice none 0 0]) XA_in30 rfl rfl) ?_
 rintro b7 _
 refine Wl.g rfl rfl (OpG.alloc (zs := [.int .i64 0, .int .i64 0, .string ⟨#[]⟩, .slice none 0 0, .slice none 0 0, .slice none 0 0, .slice none 0 0]) XA_in30 rfl rfl) ?_
 rintro b8 _
 refine Wl.g rfl rfl (OpG.storeV (b := b7) XA_sz30 rfl rfl rfl rfl (by repeat (first | exact Upd.here | apply Upd.there))) ?_
 rintro _ _
 refine Wl.g rfl rfl (OpG.storeV (b := b8) XA_sz30 rfl rfl rfl rfl (by repeat (first | exact Upd.here | apply Upd.there))) ?_
 rintro _ _
 refine Wl.nil ?_
 refine PX.then_n ?_
 refine CT.seq ?_
 refine CT.region ?_
 refine Wl.q rfl rfl (OpQ.move rfl) ?_
 refine Wl.g rfl rfl (OpG.callX XA_go9 rfl .nil (fun _ => (.cons .nil)) (fun w hH hp => new_spec w a2 cp2 l2 hl2)) ?_
 rintro ⟨b31, k31⟩ h31
 dsimp only at h31
 obtain ⟨hk31, hk31m⟩ := h31
 have hrT31 : Stays [] w (fun w => Rd w a2 ((l2.take k31).map zi)) := Rd.stays (by rw [List.map_take]; exact hrl2.take _)
 have hle31 : (l2.take k31).length = k31 := by rw [List.length_take]; omega
 refine Wl.q rfl rfl (OpQ.move rfl) ?_
 refine Wl.g rfl rfl (OpG.callX XA_go16 rfl (.cons .here .nil) (fun _ => (.cons .nil)) (fun w hH hp => word_spec w b31 a2 k31 cp2 (l2.take k31) hle31 (by omega) (hH.stays hrT31 (.cons .here .nil)) 0 (Nat.zero_le _) hp (L : Int) 10 (by omega) (by omega))) ?_
 rintro ⟨ws, p33⟩ h33
 dsimp only at h33
 obtain ⟨⟨hwl, hwk⟩, h33p⟩ := h33
 refine Wl.know 33 (v' := sv ws) rfl rfl ?_
 have hin : InW F.sq.L (wl ws) := by rw [show F.sq.L = L from hFL]; exact wl_in hwk
 have hy : okW (apv (F.sq.value (wl ws))).1 2 = true := val_okW hFo hFv (by decide) hin (by rw [wl_len]; omega)
 obtain ⟨FG, hFGe⟩ : ∃ o, o = ((F.sq.value (wl ws)).bind fun v => G.sq.value (wl v)) := ⟨_, rfl⟩
 refine Wl.q rfl rfl (OpQ.assign rfl) ?_
 refine Wl.nil ?_
 refine PX.then_n ?_
 refine CT.seq ?_
 refine CT.region ?_
 refine Wl.q rfl rfl (OpQ.loadV (b := b7) XA_ag30 XA_sz30 rfl (by repeat (first | exact Has.here | apply Has.there)) (by rfl)) ?_
 refine Wl.know 35 (v' := svv F) rfl rfl ?_
 refine Wl.q rfl rfl (OpQ.loadV (b := b8) XA_ag30 XA_sz30 rfl (by repeat (first | exact Has.here | apply Has.there)) (by rfl)) ?_
 refine Wl.know 36 (v' := svv G) rfl rfl ?_
 refine Wl.g rfl rfl (OpG.callX XA_go17 rfl .nil (fun _ => (App.of _ _)) (fun w hH hp => compose_spec w F (Stays.frag (hH.staysK0 (.there (.there (.there (.there (.there .here))))))) hFo G (Stays.frag (hH.staysK0 (.there (.there (.there .here))))) hGo (by decide) (by decide) hFv2 hFG)) ?_
 rintro C hC
 obtain ⟨hCo, hCL, hCn, _⟩ := IsComp.facts hFo hGo hFv2 (by omega) hC
 have hC4 : C.sq.Ok 4096 := hCo.mono (by decide)
 have hCL : C.L = L := hCL.trans hFL
 have hCv : C.sq.value (wl ws) = FG := by rw [hFGe]; exact hC.value hin
 refine Wl.as (fun _ h => HOk.bindL (L := svH C 3 22 4 9 28) (p := svm C) h (fun w hk => svm_of hk)) ?_
 generalize blks _ = fC
 refine Wl.q rfl rfl (OpQ.move rfl) ?_
 refine Wl.q rfl rfl (OpQ.extract rfl rfl) ?_
 refine Wl.know 38 (v' := svv C) rfl rfl ?_
 refine Wl.q rfl rfl (OpQ.extract rfl rfl) ?_
 refine Wl.know 39 (v' := .int .i64 ((0 : Nat) : Int)) rfl rfl ?_
 refine Wl.g rfl rfl (OpG.alloc (zs := [.int .i64 0, .int .i64 0, .string ⟨#[]⟩, .slice none 0 0, .slice none 0 0, .slice none 0 0, .slice none 0 0]) XA_in30 rfl rfl) ?_
 rintro b10 _
 refine Wl.g rfl rfl (OpG.storeV (b := b10) XA_sz30 rfl rfl rfl rfl (by repeat (first | exact Upd.here | apply Upd.there))) ?_
 rintro _ _
 refine Wl.q rfl rfl (OpQ.assign rfl) ?_
 refine Wl.nil ?_
 refine PX.then_n ?_
 refine CT.seq ?_
 refine CT.region ?_
 refine Wl.q rfl rfl (OpQ.loadV (b := b7) XA_ag30 XA_sz30 rfl (by repeat (first | exact Has.here | apply Has.there)) (by rfl)) ?_
 refine Wl.know 41 (v' := svv F) rfl rfl ?_
 refine Wl.q rfl rfl (OpQ.loadV (b := b8) XA_ag30 XA_sz30 rfl (by repeat (first | exact Has.here | apply Has.there)) (by rfl)) ?_
 refine Wl.know 42 (v' := svv G) rfl rfl ?_
 refine Wl.g rfl rfl (OpG.callX XA_go18 rfl .nil (fun _ => (App.of _ _)) (fun w hH hp => composeR_spec w F (Stays.frag (hH.staysK0 (.there (.there (.there (.there (.there (.there (.there .here))))))))) hFo G (Stays.frag (hH.staysK0 (.there (.there (.there (.there (.there .here))))))) hGo (by decide) (by decide) hFv2 hFG)) ?_
 rintro B hB
 have hCB : C.sq = B.sq := hC.unique hB
 refine Wl.as (fun _ h => HOk.bindL (L := svH B 3 22 4 9 28) (p := svm B) h (fun w hk => svm_of hk)) ?_
 generalize blks _ = fB
 refine Wl.q rfl rfl (OpQ.move rfl) ?_
 refine Wl.q rfl rfl (OpQ.extract rfl rfl) ?_
 refine Wl.know 44 (v' := svv B) rfl rfl ?_
 refine Wl.q rfl rfl (OpQ.extract rfl rfl) ?_
 refine Wl.know 45 (v' := .int .i64 ((0 : Nat) : Int)) rfl rfl ?_
 refine Wl.g rfl rfl (OpG.alloc (zs := [.int .i64 0, .int .i64 0, .string ⟨#[]⟩, .slice none 0 0, .slice none 0 0, .slice none 0 0, .slice none 0 0]) XA_in30 rfl rfl) ?_
 rintro b12 _
 refine Wl.g rfl rfl (OpG.storeV (b := b12) XA_sz30 rfl rfl rfl rfl (by repeat (first | exact Upd.here | apply Upd.there))) ?_
 rintro _ _
 refine Wl.q rfl rfl (OpQ.assign rfl) ?_
 refine Wl.nil ?_
 refine PX.then_n ?_
 refine CT.seq ?_
 refine CT.seq ?_
 refine CT.region ?_
 refine Wl.q rfl rfl (OpQ.move rfl) ?_
 refine Wl.q rfl rfl (OpQ.neq rfl rfl) ?_
 refine Wl.know 47 (v' := .bool false) rfl (congrArg Value.bool (by decide)) ?_
 refine Wl.q rfl rfl (OpQ.move rfl) ?_
 refine Wl.q rfl rfl (OpQ.move rfl) ?_
 refine Wl.q rfl rfl (OpQ.neq rfl rfl) ?_
 refine Wl.know 50 (v' := .bool false) rfl (congrArg Value.bool (by decide)) ?_
 refine Wl.q rfl rfl (OpQ.pickF rfl rfl) ?_
 refine Wl.q rfl rfl (OpQ.move rfl) ?_
 refine Wl.q rfl rfl (OpQ.loadV (b := b10) XA_ag30 XA_sz30 rfl (by repeat (first | exact Has.here | apply Has.there)) (by rfl)) ?_
 refine Wl.know 53 (v' := svv C) rfl rfl ?_
 refine Wl.q rfl rfl (OpQ.loadV (b := b12) XA_ag30 XA_sz30 rfl (by repeat (first | exact Has.here | apply Has.there)) (by rfl)) ?_
 refine Wl.know 54 (v' := svv B) rfl rfl ?_
 refine Wl.g rfl rfl (OpG.callV XA_go14 rfl (fun w hH => sameS_spec w C (Stays.frag (hH.staysK0 (.there (.there (.there .here))))) hC4 B (Stays.frag (hH.staysK0 (.there .here))) (by rw [← hCB]; exact hC4))) ?_
 rintro _ _
 refine Wl.know 55 (v' := .bool true) rfl (congrArg Value.bool (decide_eq_true hCB)) ?_
 refine Wl.q rfl rfl (OpQ.not rfl) ?_
 refine Wl.q rfl rfl (OpQ.pickF rfl rfl) ?_
 refine Wl.nil ?_
 refine PX.then_n ?_
 refine CT.condF rfl ?_
 refine CT.skip ?_
 refine PX.then_n ?_
 refine CT.seq ?_
 refine CT.region ?_
 refine Wl.q rfl rfl (OpQ.loadV (b := b10) XA_ag30 XA_sz30 rfl (by repeat (first | exact Has.here | apply Has.there)) (by rfl)) ?_
 refine Wl.know 59 (v' := svv C) rfl rfl ?_
 refine Wl.q rfl rfl (OpQ.move rfl) ?_
 refine Wl.g rfl rfl (OpG.callV XA_go19 rfl (fun w hH => apply_spec w C (Stays.frag (hH.staysK0 (.there (.there (.there .here))))) hC4 ws (by rw [hCL]; exact hwk))) ?_
 rintro _ _
 refine Wl.know 61 (v' := .tuple #[sv (apv FG).1, .bool (apv FG).2]) rfl (by rw [hCv]) ?_
 refine Wl.q rfl rfl (OpQ.move rfl) ?_
 refine Wl.q rfl rfl (OpQ.extract rfl rfl) ?_
 refine Wl.q rfl rfl (OpQ.extract rfl rfl) ?_
 refine Wl.q rfl rfl (OpQ.assign rfl) ?_
 refine Wl.q rfl rfl (OpQ.assign rfl) ?_
 refine Wl.nil ?_
 refine PX.then_n ?_
 refine CT.seq ?_
 refine CT.region ?_
 refine Wl.q rfl rfl (OpQ.loadV (b := b7) XA_ag30 XA_sz30 rfl (by repeat (first | exact Has.here | apply Has.there)) (by rfl)) ?_
 refine Wl.know 65 (v' := svv F) rfl rfl ?_
 refine Wl.q rfl rfl (OpQ.move rfl) ?_
 refine Wl.g rfl rfl (OpG.callV XA_go19 rfl (fun w hH => apply_spec w F (Stays.frag (hH.staysK0 (.there (.there (.there (.there (.there (.there (.there (.there (.there .here))))))))))) (hFo.mono (by decide)) ws (by rw [hFL]; exact hwk))) ?_
 rintro _ _
 refine Wl.q rfl rfl (OpQ.move rfl) ?_
 refine Wl.q rfl rfl (OpQ.extract rfl rfl) ?_
 refine Wl.q rfl rfl (OpQ.extract rfl rfl) ?_
 refine Wl.q rfl rfl (OpQ.assign rfl) ?_
 refine Wl.q rfl rfl (OpQ.assign rfl) ?_
 refine Wl.nil ?_
 refine PX.then_n ?_
 refine CT.seq ?_
 refine CT.region ?_
 refine Wl.q rfl rfl (OpQ.loadV (b := b8) XA_ag30 XA_sz30 rfl (by repeat (first | exact Has.here | apply Has.there)) (by rfl)) ?_
 refine Wl.know 71 (v' := svv G) rfl rfl ?_
 refine Wl.q rfl rfl (OpQ.move rfl) ?_
 refine Wl.g rfl rfl (OpG.callV XA_go19 rfl (fun w hH => apply_spec w G (Stays.frag (hH.staysK0 (.there (.there (.there (.there (.there (.there (.there .here))))))))) (hGo.mono (by decide)) (apv (F.sq.value (wl ws))).1 (by rw [hGL]; exact hy))) ?_
 rintro _ _
 refine Wl.q rfl rfl (OpQ.move rfl) ?_
 refine Wl.q rfl rfl (OpQ.extract rfl rfl) ?_
 refine Wl.q rfl rfl (OpQ.extract rfl rfl) ?_
 refine Wl.q rfl rfl (OpQ.assign rfl) ?_
 refine Wl.q rfl rfl (OpQ.assign rfl) ?_
 refine Wl.nil ?_
 refine PX.then_n ?_
 refine CT.seq ?_
 refine CT.seq ?_
 refine CT.region ?_
 refine Wl.q rfl rfl (OpQ.move rfl) ?_
 refine Wl.q rfl rfl (OpQ.not rfl) ?_
 refine Wl.nil ?_
 refine PX.then_n ?_
 refine CT.cond rfl (fun h77 => ?_) (fun h77 => ?_)
 ·
  have hFGn : FG = none := by
   rw [hFGe]
   cases e : F.sq.value (wl ws) with
   | none => rfl
   | some v => rw [e] at h77; cases h77
  refine CT.seq ?_
  refine CT.region ?_
  refine Wl.q rfl rfl (OpQ.move rfl) ?_
  refine Wl.q rfl rfl (OpQ.not rfl) ?_
  refine Wl.know 79 (v' := .bool true) rfl (congrArg Value.bool (by rw [hFGn]; rfl)) ?_
  refine Wl.q rfl rfl (OpQ.move rfl) ?_
  refine Wl.g rfl rfl (OpG.callV XA_go15 rfl (fun w hH => known_spec w)) ?_
  rintro _ _
  refine Wl.know 81 (v' := .bool true) rfl (congrArg Value.bool rfl) ?_
  refine Wl.q rfl rfl (OpQ.pickT rfl rfl) ?_
  refine Wl.q rfl rfl (OpQ.assign rfl) ?_
  refine Wl.nil ?_
  refine PX.then_n ?_
  refine CT.ret ?_
  refine PX.then_r ?_
  refine PX.ret1 rfl rfl (fun w' hH => ?_)
  exact ⟨rfl, hH.ext⟩
 ·
  have hz : G.sq.value (wl (apv (F.sq.value (wl ws))).1) = FG := by
   rw [hFGe]
   cases e : F.sq.value (wl ws) with
   | none => rw [e] at h77; cases h77
   | some v => rfl
  refine CT.skip ?_
  refine PX.then_n ?_
  refine CT.seq ?_
  refine CT.region ?_
  refine Wl.q rfl rfl (OpQ.move rfl) ?_
  refine Wl.q rfl rfl (OpQ.move rfl) ?_
  refine Wl.q rfl rfl (OpQ.eqlB XA_un4 rfl rfl) ?_
  refine Wl.know 85 (v' := .bool true) rfl (congrArg Value.bool (by rw [hz]; simp)) ?_
  refine Wl.q rfl rfl (OpQ.move rfl) ?_
  refine Wl.q rfl rfl (OpQ.move rfl) ?_
  refine Wl.q rfl rfl (OpQ.move rfl) ?_
  refine Wl.q rfl rfl (OpQ.eqlS rfl rfl) ?_
  refine Wl.know 89 (v' := .bool true) rfl (congrArg Value.bool (by rw [hz]; simp)) ?_
  refine Wl.q rfl rfl (OpQ.pickT rfl rfl) ?_
  refine Wl.q rfl rfl (OpQ.move rfl) ?_
  refine Wl.g rfl rfl (OpG.callV XA_go15 rfl (fun w hH => known_spec w)) ?_
  rintro _ _
  refine Wl.know 92 (v' := .bool true) rfl (congrArg Value.bool rfl) ?_
  refine Wl.q rfl rfl (OpQ.pickT rfl rfl) ?_
  refine Wl.q rfl rfl (OpQ.assign rfl) ?_
  refine Wl.nil ?_
  refine PX.then_n ?_
  refine CT.ret ?_
  refine PX.ret1 rfl rfl (fun w' hH => ?_)
  exact ⟨rfl, hH.ext⟩

end Go.Proofs.Ytamolakhpcofhaa

