/-
  What functions of the program compute, each by its walk. Conditions: those that each theorem names.
-/
import Derived.Test.YtamolakhpcofhaaXE30
import Derived.Test.YtamolakhpcofhaaXE28
import Derived.Test.YtamolakhpcofhaaXC6
import Derived.Test.YtamolakhpcofhaaXE25
import Derived.Test.YtamolakhpcofhaaXE14
import Derived.Test.YtamolakhpcofhaaXE15
set_option linter.unusedSimpArgs false
namespace Go.Proofs.Ytamolakhpcofhaa
open Go Go.Eng Go.Am Go.Sq
open Go.Tp (zi)
open Go.Tl (mayL Wd okW okB bo)

theorem XG_go9 : isGo Try.prog 9 = true := by kernel_rfl
theorem XG_go11 : isGo Try.prog 11 = true := by kernel_rfl
theorem XG_go10 : isGo Try.prog 10 = true := by kernel_rfl
theorem XG_go24 : isGo Try.prog 24 = true := by kernel_rfl
theorem XG_in30 : (Try.prog.info? 30).map (fun i => (i.zero, i.size, i.bytes)) = some (some (.agg #[.int .i64 0, .int .i64 0, .string ⟨#[]⟩, .slice none 0 0, .slice none 0 0, .slice none 0 0, .slice none 0 0]), 7, 128) := by kernel_rfl
theorem XG_in49 : (Try.prog.info? 49).map (fun i => (i.zero, i.size, i.bytes)) = some (some (.agg #[.int .i64 0, .int .i64 0, .slice none 0 0, .slice none 0 0]), 4, 64) := by kernel_rfl
theorem XG_sz30 : sizeB Try.prog 30 = some 7 := by kernel_rfl
theorem XG_sz49 : sizeB Try.prog 49 = some 4 := by kernel_rfl
theorem XG_ag30 : isAggB Try.prog 30 = some true := by kernel_rfl
theorem XG_go17 : isGo Try.prog 17 = true := by kernel_rfl
theorem XG_ag49 : isAggB Try.prog 49 = some true := by kernel_rfl
theorem XG_go25 : isGo Try.prog 25 = true := by kernel_rfl
theorem XG_go27 : isGo Try.prog 27 = true := by kernel_rfl
theorem XG_go15 : isGo Try.prog 15 = true := by kernel_rfl
set_option maxRecDepth 100000 in
set_option maxHeartbeats 1000000 in
/-- semigroup/semigrouplaw42.SequentialChains -/
theorem SequentialChains_spec (w : World) (a : Option Addr) (cp : Nat) (l : List Int) (hrl : Rd w a (l.map zi)) (hl : l.length ≤ cp) : Calls Try.prog 8 #[.slice a l.length cp] w (fun e w' => e = .returned (.bool true) ∧ Ext [] w w') := by
 refine enter (args := [.slice a l.length cp]) [] 68 Try.func8 rfl rfl rfl ?_
 refine CT.seq ?_
 refine CT.region ?_
 refine Wl.q rfl rfl (OpQ.assign rfl) ?_
 refine Wl.nil ?_
 refine PX.then_n ?_
 refine CT.seq ?_
 refine CT.region ?_
 refine Wl.q rfl rfl (OpQ.move rfl) ?_
 refine Wl.g rfl rfl (OpG.callX XG_go9 rfl .nil (fun _ => (.cons .nil)) (fun w hH hp => new_spec w a cp l hl)) ?_
 rintro ⟨b16, k16⟩ h16
 dsimp only at h16
 obtain ⟨hk16, hk16m⟩ := h16
 have hrT16 : Stays [] w (fun w => Rd w a ((l.take k16).map zi)) := Rd.stays (by rw [List.map_take]; exact hrl.take _)
 have hle16 : (l.take k16).length = k16 := by rw [List.length_take]; omega
 refine Wl.q rfl rfl (OpQ.assign rfl) ?_
 refine Wl.nil ?_
 refine PX.then_n ?_
 refine CT.seq ?_
 refine CT.region ?_
 refine Wl.q rfl rfl (OpQ.move rfl) ?_
 refine Wl.q rfl rfl (OpQ.move rfl) ?_
 refine Wl.g rfl rfl (OpG.callX XG_go11 rfl (.cons .here .nil) (fun _ => (.cons .nil)) (fun w hH hp => next_spec w b16 a k16 cp (l.take k16) hle16 (by omega) (hH.stays hrT16 (.cons .here .nil)) 0 (Nat.zero_le _) hp (2) (by omega))) ?_
 rintro ⟨r19, p19⟩ h19
 dsimp only at h19
 obtain ⟨⟨h19a, h19b⟩, h19p⟩ := h19
 refine Wl.know 19 (v' := .int .i64 r19) rfl rfl ?_
 obtain ⟨L, hL⟩ : ∃ L : Nat, (L : Int) = 1 + r19 := ⟨(1 + r19).toNat, by omega⟩
 refine Wl.q rfl rfl (OpQ.add rfl rfl (by omega)) ?_
 refine Wl.know 20 (v' := .int .i64 ((L : Nat) : Int)) rfl (congrArg (Value.int .i64) hL.symm) ?_
 refine Wl.g rfl rfl (OpG.callX XG_go10 rfl (.cons .here .nil) (fun _ => (App.of _ _)) (fun w hH hp => tseq_spec w b16 a k16 cp (l.take k16) hle16 (by omega) (hH.stays hrT16 (.cons .here .nil)) p19 h19p hp L (by omega) 3 2 (by omega) (by omega))) ?_
 rintro ⟨F, p21⟩ h21
 dsimp only at h21
 obtain ⟨⟨hFo, hFL, hFn, hFv⟩, h21p⟩ := h21
 refine Wl.know 21 (v' := svv F) rfl rfl ?_
 refine Wl.as (fun _ h => HOk.bindL (L := svH F 3 22 4 9 28) (F := [.row 57 2 (vb b16) 1 [.slice a k16 cp, .int .i64 ((p21 : Nat) : Int)]] ++ []) (p := svm F) (HOk.rot (A := [_]) (B := svH F 3 22 4 9 28) h) (fun w hk => svm_of hk)) ?_
 generalize blks _ = fF
 rw [← F.n_eq] at hFn
 have hF4 : F.sq.Ok 4096 := hFo.mono (by decide)
 refine Wl.q rfl rfl (OpQ.move rfl) ?_
 refine Wl.g rfl rfl (OpG.callX XG_go10 rfl (.cons (.there .here) .nil) (fun _ => (App.of _ _)) (fun w hH hp => tseq_spec w b16 a k16 cp (l.take k16) hle16 (by omega) (hH.stays hrT16 (.cons (.there .here) .nil)) p21 h21p hp 2 (by omega) 3 2 (by omega) (by omega))) ?_
 rintro ⟨G, p23⟩ h23
 dsimp only at h23
 obtain ⟨⟨hGo, hGL, hGn, hGv⟩, h23p⟩ := h23
 refine Wl.know 23 (v' := svv G) rfl rfl ?_
 refine Wl.as (fun _ h => HOk.bindL (L := svH G 3 22 4 9 28) (F := [.row 57 2 (vb b16) 1 [.slice a k16 cp, .int .i64 ((p23 : Nat) : Int)]] ++ [.frag fF (svm F)]) (p := svm G) (HOk.rot (A := [_]) (B := svH G 3 22 4 9 28) h) (fun w hk => svm_of hk)) ?_
 generalize blks _ = fG
 rw [← G.n_eq] at hGn
 have hG4 : G.sq.Ok 4096 := hGo.mono (by decide)
 have hFv2 : F.sq.Over G.L := by rw [hGL]; exact hFv
 have hFG9 : F.sq.n * G.sq.n ≤ 9 := Nat.mul_le_mul (show F.sq.n ≤ 3 by omega) (show G.sq.n ≤ 3 by omega)
 refine Wl.q rfl rfl (OpQ.move rfl) ?_
 refine Wl.g rfl rfl (OpG.callX XG_go24 rfl (.cons (.there .here) .nil) (fun _ => (.cons (.cons .nil))) (fun w hH hp => tdfa_spec w b16 a k16 cp (l.take k16) hle16 (by omega) (hH.stays hrT16 (.cons (.there .here) .nil)) p23 h23p hp 2 (by omega) 3 (by omega))) ?_
 rintro ⟨D, bD, p25⟩ h25
 dsimp only at h25
 obtain ⟨⟨hDo, hDL, hDn⟩, h25p⟩ := h25
 refine Wl.know 25 (v' := dvv D) rfl rfl ?_
 have hDL2 : ((D.da.L : Nat) : Int) = 2 := hDo.L_eq.symm.trans hDL
 have hD5 : D.fin.length ≤ 512 := by omega
 have hDn3 : D.da.n ≤ 3 := by show D.fin.length ≤ 3; omega
 have hoG : G.sq.Over D.da.L := by rw [hDL2]; exact hGv
 have hGD : G.sq.n * D.da.n ≤ 9 := Nat.mul_le_mul (show G.sq.n ≤ 3 by omega) hDn3
 refine Wl.g rfl rfl (OpG.alloc (zs := [.int .i64 0, .int .i64 0, .string ⟨#[]⟩, .slice none 0 0, .slice none 0 0, .slice none 0 0, .slice none 0 0]) XG_in30 rfl rfl) ?_
 rintro b4 _
 refine Wl.g rfl rfl (OpG.alloc (zs := [.int .i64 0, .int .i64 0, .string ⟨#[]⟩, .slice none 0 0, .slice none 0 0, .slice none 0 0, .slice none 0 0]) XG_in30 rfl rfl) ?_
 rintro b5 _
 refine Wl.g rfl rfl (OpG.alloc (zs := [.int .i64 0, .int .i64 0, .slice none 0 0, .slice none 0 0]) XG_in49 rfl rfl) ?_
 rintro b6 _
 refine Wl.g rfl rfl (OpG.storeV (b := b4) XG_sz30 rfl rfl rfl rfl (by repeat (first | exact Upd.here | apply Upd.there))) ?_
 rintro _ _
 refine Wl.g rfl rfl (OpG.storeV (b := b5) XG_sz30 rfl rfl rfl rfl (by repeat (first | exact Upd.here | apply Upd.there))) ?_
 rintro _ _
 refine Wl.g rfl rfl (OpG.storeV (b := b6) XG_sz49 rfl rfl rfl rfl (by repeat (first | exact Upd.here | apply Upd.there))) ?_
 rintro _ _
 refine Wl.nil ?_
 refine PX.then_n ?_
 refine CT.seq ?_
 refine CT.region ?_
 refine Wl.q rfl rfl (OpQ.loadV (b := b4) XG_ag30 XG_sz30 rfl (by repeat (first | exact Has.here | apply Has.there)) (by rfl)) ?_
 refine Wl.know 27 (v' := svv F) rfl rfl ?_
 refine Wl.q rfl rfl (OpQ.loadV (b := b5) XG_ag30 XG_sz30 rfl (by repeat (first | exact Has.here | apply Has.there)) (by rfl)) ?_
 refine Wl.know 28 (v' := svv G) rfl rfl ?_
 refine Wl.g rfl rfl (OpG.callX XG_go17 rfl .nil (fun _ => (App.of _ _)) (fun w hH hp => compose_spec w F (Stays.frag (hH.staysK0 (.there (.there (.there (.there (.there (.there .here)))))))) hFo G (Stays.frag (hH.staysK0 (.there (.there (.there (.there (.there .here))))))) hGo (by decide) (by decide) hFv2 (by omega))) ?_
 rintro C hC
 obtain ⟨hCo, hCL, hCn, hCv⟩ := IsComp.facts hFo hGo hFv2 (by omega) hC
 have hC4 : C.sq.Ok 4096 := hCo.mono (by decide)
 have hoC : C.sq.Over D.da.L := by rw [hDL2]; exact hCv 2 hGv
 have hCD : C.sq.n * D.da.n ≤ 500 := Nat.le_trans (Nat.mul_le_mul (Nat.le_trans hCn hFG9) hDn3) (by decide)
 refine Wl.as (fun _ h => HOk.bindL (L := svH C 3 22 4 9 28) (p := svm C) h (fun w hk => svm_of hk)) ?_
 generalize blks _ = fC
 refine Wl.q rfl rfl (OpQ.move rfl) ?_
 refine Wl.q rfl rfl (OpQ.extract rfl rfl) ?_
 refine Wl.know 30 (v' := svv C) rfl rfl ?_
 refine Wl.q rfl rfl (OpQ.extract rfl rfl) ?_
 refine Wl.know 31 (v' := .int .i64 ((0 : Nat) : Int)) rfl rfl ?_
 refine Wl.g rfl rfl (OpG.alloc (zs := [.int .i64 0, .int .i64 0, .string ⟨#[]⟩, .slice none 0 0, .slice none 0 0, .slice none 0 0, .slice none 0 0]) XG_in30 rfl rfl) ?_
 rintro b7 _
 refine Wl.g rfl rfl (OpG.storeV (b := b7) XG_sz30 rfl rfl rfl rfl (by repeat (first | exact Upd.here | apply Upd.there))) ?_
 rintro _ _
 refine Wl.q rfl rfl (OpQ.assign rfl) ?_
 refine Wl.nil ?_
 refine PX.then_n ?_
 refine CT.seq ?_
 refine CT.seq ?_
 refine CT.region ?_
 refine Wl.q rfl rfl (OpQ.move rfl) ?_
 refine Wl.q rfl rfl (OpQ.neq rfl rfl) ?_
 refine Wl.know 33 (v' := .bool false) rfl (congrArg Value.bool (by decide)) ?_
 refine Wl.nil ?_
 refine PX.then_n ?_
 refine CT.condF rfl ?_
 refine CT.skip ?_
 refine PX.then_n ?_
 refine CT.seq ?_
 refine CT.region ?_
 refine Wl.q rfl rfl (OpQ.loadV (b := b7) XG_ag30 XG_sz30 rfl (by repeat (first | exact Has.here | apply Has.there)) (by rfl)) ?_
 refine Wl.know 35 (v' := svv C) rfl rfl ?_
 refine Wl.q rfl rfl (OpQ.loadV (b := b6) XG_ag49 XG_sz49 rfl (by repeat (first | exact Has.here | apply Has.there)) (by rfl)) ?_
 refine Wl.know 36 (v' := dvv D) rfl rfl ?_
 refine Wl.g rfl rfl (OpG.callX XG_go25 rfl .nil (fun _ => (.cons .nil)) (fun w hH hp => inverse_spec w C (Stays.frag (hH.staysK0 (.there .here))) hC4 D (Stays.frag (hH.staysK0 (.there (.there (.there (.there (.there (.there .here)))))))) hDo hD5 hoC hCD)) ?_
 rintro ⟨A, bA⟩ hA
 dsimp only at hA
 obtain ⟨hAo, hAn, hAI⟩ := hA
 have hAn2 : A.fin.length ≤ 501 := Nat.le_trans hAn (Nat.succ_le_succ hCD)
 refine Wl.q rfl rfl (OpQ.move rfl) ?_
 refine Wl.q rfl rfl (OpQ.extract rfl rfl) ?_
 refine Wl.know 38 (v' := dvv A) rfl rfl ?_
 refine Wl.q rfl rfl (OpQ.extract rfl rfl) ?_
 refine Wl.know 39 (v' := .int .i64 ((0 : Nat) : Int)) rfl rfl ?_
 refine Wl.g rfl rfl (OpG.alloc (zs := [.int .i64 0, .int .i64 0, .slice none 0 0, .slice none 0 0]) XG_in49 rfl rfl) ?_
 rintro b9 _
 refine Wl.g rfl rfl (OpG.storeV (b := b9) XG_sz49 rfl rfl rfl rfl (by repeat (first | exact Upd.here | apply Upd.there))) ?_
 rintro _ _
 refine Wl.q rfl rfl (OpQ.assign rfl) ?_
 refine Wl.nil ?_
 refine PX.then_n ?_
 refine CT.seq ?_
 refine CT.region ?_
 refine Wl.q rfl rfl (OpQ.loadV (b := b5) XG_ag30 XG_sz30 rfl (by repeat (first | exact Has.here | apply Has.there)) (by rfl)) ?_
 refine Wl.know 41 (v' := svv G) rfl rfl ?_
 refine Wl.q rfl rfl (OpQ.loadV (b := b6) XG_ag49 XG_sz49 rfl (by repeat (first | exact Has.here | apply Has.there)) (by rfl)) ?_
 refine Wl.know 42 (v' := dvv D) rfl rfl ?_
 refine Wl.g rfl rfl (OpG.callX XG_go25 rfl .nil (fun _ => (.cons .nil)) (fun w hH hp => inverse_spec w G (Stays.frag (hH.staysK0 (.there (.there (.there (.there (.there (.there (.there (.there (.there .here))))))))))) hG4 D (Stays.frag (hH.staysK0 (.there (.there (.there (.there (.there (.there (.there (.there .here)))))))))) hDo hD5 hoG (by omega))) ?_
 rintro ⟨B, bB⟩ hB
 dsimp only at hB
 obtain ⟨hBo, hBn, hBI⟩ := hB
 have hBn2 : B.da.n ≤ 10 := by omega
 have hB5 : B.fin.length ≤ 512 := Nat.le_trans hBn2 (by decide)
 have hBL : B.da.L = 2 := hBI.letters.trans hGL
 have hoB : F.sq.Over B.da.L := by rw [hBL]; exact hFv
 have hFB : F.sq.n * B.da.n ≤ 500 := Nat.le_trans (Nat.mul_le_mul (show F.sq.n ≤ 3 by omega) hBn2) (by decide)
 refine Wl.q rfl rfl (OpQ.move rfl) ?_
 refine Wl.q rfl rfl (OpQ.extract rfl rfl) ?_
 refine Wl.know 44 (v' := dvv B) rfl rfl ?_
 refine Wl.q rfl rfl (OpQ.extract rfl rfl) ?_
 refine Wl.know 45 (v' := .int .i64 ((0 : Nat) : Int)) rfl rfl ?_
 refine Wl.g rfl rfl (OpG.alloc (zs := [.int .i64 0, .int .i64 0, .slice none 0 0, .slice none 0 0]) XG_in49 rfl rfl) ?_
 rintro b11 _
 refine Wl.g rfl rfl (OpG.storeV (b := b11) XG_sz49 rfl rfl rfl rfl (by repeat (first | exact Upd.here | apply Upd.there))) ?_
 rintro _ _
 refine Wl.q rfl rfl (OpQ.assign rfl) ?_
 refine Wl.nil ?_
 refine PX.then_n ?_
 refine CT.seq ?_
 refine CT.seq ?_
 refine CT.region ?_
 refine Wl.q rfl rfl (OpQ.move rfl) ?_
 refine Wl.q rfl rfl (OpQ.neq rfl rfl) ?_
 refine Wl.know 47 (v' := .bool false) rfl (congrArg Value.bool (by decide)) ?_
 refine Wl.q rfl rfl (OpQ.move rfl) ?_
 refine Wl.q rfl rfl (OpQ.move rfl) ?_
 refine Wl.q rfl rfl (OpQ.neq rfl rfl) ?_
 refine Wl.know 50 (v' := .bool false) rfl (congrArg Value.bool (by decide)) ?_
 refine Wl.q rfl rfl (OpQ.pickF rfl rfl) ?_
 refine Wl.nil ?_
 refine PX.then_n ?_
 refine CT.condF rfl ?_
 refine CT.skip ?_
 refine PX.then_n ?_
 refine CT.seq ?_
 refine CT.region ?_
 refine Wl.q rfl rfl (OpQ.loadV (b := b4) XG_ag30 XG_sz30 rfl (by repeat (first | exact Has.here | apply Has.there)) (by rfl)) ?_
 refine Wl.know 53 (v' := svv F) rfl rfl ?_
 refine Wl.q rfl rfl (OpQ.loadV (b := b11) XG_ag49 XG_sz49 rfl (by repeat (first | exact Has.here | apply Has.there)) (by rfl)) ?_
 refine Wl.know 54 (v' := dvv B) rfl rfl ?_
 refine Wl.g rfl rfl (OpG.callX XG_go25 rfl .nil (fun _ => (.cons .nil)) (fun w hH hp => inverse_spec w F (Stays.frag (hH.staysK0 (.there (.there (.there (.there (.there (.there (.there (.there (.there (.there (.there (.there .here)))))))))))))) hF4 B (Stays.frag (hH.staysK0 (.there .here))) hBo hB5 hoB hFB)) ?_
 rintro ⟨X, bX⟩ hX
 dsimp only at hX
 obtain ⟨hXo, hXn, hXI⟩ := hX
 have hAI2 : IsMin F.sq.L (langS (invP C.sq D.da)) [] A.da := by rw [← hCL]; exact hAI
 have hAX : A.da = X.da := lang_unique hAI2 hXI (fun w hw => inv_chain hFo hFv2 hC hBI hw)
 refine Wl.q rfl rfl (OpQ.move rfl) ?_
 refine Wl.q rfl rfl (OpQ.extract rfl rfl) ?_
 refine Wl.know 56 (v' := dvv X) rfl rfl ?_
 refine Wl.q rfl rfl (OpQ.extract rfl rfl) ?_
 refine Wl.know 57 (v' := .int .i64 ((0 : Nat) : Int)) rfl rfl ?_
 refine Wl.g rfl rfl (OpG.alloc (zs := [.int .i64 0, .int .i64 0, .slice none 0 0, .slice none 0 0]) XG_in49 rfl rfl) ?_
 rintro b13 _
 refine Wl.g rfl rfl (OpG.storeV (b := b13) XG_sz49 rfl rfl rfl rfl (by repeat (first | exact Upd.here | apply Upd.there))) ?_
 rintro _ _
 refine Wl.q rfl rfl (OpQ.assign rfl) ?_
 refine Wl.nil ?_
 refine PX.then_n ?_
 refine CT.seq ?_
 refine CT.region ?_
 refine Wl.q rfl rfl (OpQ.move rfl) ?_
 refine Wl.q rfl rfl (OpQ.eql rfl rfl) ?_
 refine Wl.know 59 (v' := .bool true) rfl (congrArg Value.bool (by decide)) ?_
 refine Wl.q rfl rfl (OpQ.move rfl) ?_
 refine Wl.q rfl rfl (OpQ.loadV (b := b9) XG_ag49 XG_sz49 rfl (by repeat (first | exact Has.here | apply Has.there)) (by rfl)) ?_
 refine Wl.know 61 (v' := dvv A) rfl rfl ?_
 refine Wl.q rfl rfl (OpQ.loadV (b := b13) XG_ag49 XG_sz49 rfl (by repeat (first | exact Has.here | apply Has.there)) (by rfl)) ?_
 refine Wl.know 62 (v' := dvv X) rfl rfl ?_
 refine Wl.g rfl rfl (OpG.callV XG_go27 rfl (fun w hH => same_spec w A X (Stays.frag (hH.staysK0 (.there (.there (.there (.there (.there .here))))))) (Stays.frag (hH.staysK0 (.there .here))) (by omega) (by have := hAo.len; omega) (fun q hq => by have := hAo.len; have := hAo.may; have := (hAo.row q (by omega)).1; omega))) ?_
 rintro _ _
 refine Wl.know 63 (v' := .bool true) rfl (congrArg Value.bool ((sameD_da hAo hXo).2 hAX)) ?_
 refine Wl.q rfl rfl (OpQ.pickT rfl rfl) ?_
 refine Wl.q rfl rfl (OpQ.move rfl) ?_
 refine Wl.g rfl rfl (OpG.callV XG_go15 rfl (fun w hH => known_spec w)) ?_
 rintro _ _
 refine Wl.know 66 (v' := .bool true) rfl (congrArg Value.bool rfl) ?_
 refine Wl.q rfl rfl (OpQ.pickT rfl rfl) ?_
 refine Wl.q rfl rfl (OpQ.assign rfl) ?_
 refine Wl.nil ?_
 refine PX.then_n ?_
 refine CT.ret ?_
 refine PX.ret1 rfl rfl (fun w' hH => ?_)
 exact ⟨rfl, hH.ext⟩

end Go.Proofs.Ytamolakhpcofhaa

