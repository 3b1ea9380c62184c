/-
  What functions of the program compute, each by its walk. Conditions: those that each theorem names.
-/
import Derived.Test.YtamolakhpcofhaaXE12
import Derived.Test.YtamolakhpcofhaaXE13
import Derived.Test.YtamolakhpcofhaaXE14
import Derived.Test.YtamolakhpcofhaaXE15
set_option linter.unusedSimpArgs false
namespace Go.Proofs.Ytamolakhpcofhaa
open Go Go.Eng Go.Am Go.Sq
open Go.Tp (zi)
open Go.Tl (mayL Wd okW okB bo)

theorem RP_go9 : isGo Try.prog 9 = true := by kernel_rfl
theorem RP_go11 : isGo Try.prog 11 = true := by kernel_rfl
theorem RP_go10 : isGo Try.prog 10 = true := by kernel_rfl
theorem RP_in30 : (Try.prog.info? 30).map (fun i => (i.zero, i.size, i.bytes)) = some (some (.agg #[.int .i64 0, .int .i64 0, .string ⟨#[]⟩, .slice none 0 0, .slice none 0 0, .slice none 0 0, .slice none 0 0]), 7, 128) := by kernel_rfl
theorem RP_sz30 : sizeB Try.prog 30 = some 7 := by kernel_rfl
theorem RP_ag30 : isAggB Try.prog 30 = some true := by kernel_rfl
theorem RP_go12 : isGo Try.prog 12 = true := by kernel_rfl
theorem RP_go13 : isGo Try.prog 13 = true := by kernel_rfl
theorem RP_go14 : isGo Try.prog 14 = true := by kernel_rfl
theorem RP_go15 : isGo Try.prog 15 = true := by kernel_rfl
set_option maxRecDepth 100000 in
set_option maxHeartbeats 1000000 in
/-- semigroup/semigrouplaw42.SequentialNormal -/
theorem SequentialNormal_spec (w : World) (a : Option Addr) (cp : Nat) (l : List Int) (hrl : Rd w a (l.map zi)) (hl : l.length ≤ cp) : Calls Try.prog 3 #[.slice a l.length cp] w (fun e w' => e = .returned (.bool true) ∧ Ext [] w w') := by
 refine enter (args := [.slice a l.length cp]) [] 81 Try.func3 rfl rfl rfl ?_
 refine CT.seq ?_
 refine CT.region ?_
 refine Wl.q rfl rfl (OpQ.assign rfl) ?_
 refine Wl.nil ?_
 refine PX.then_n ?_
 refine CT.seq ?_
 refine CT.region ?_
 refine Wl.q rfl rfl (OpQ.move rfl) ?_
 refine Wl.g rfl rfl (OpG.callX RP_go9 rfl .nil (fun _ => (.cons .nil)) (fun w hH hp => new_spec w a cp l hl)) ?_
 rintro ⟨b16, k16⟩ h16
 dsimp only at h16
 obtain ⟨hk16, hk16m⟩ := h16
 have hrT16 : Stays [] w (fun w => Rd w a ((l.take k16).map zi)) := Rd.stays (by rw [List.map_take]; exact hrl.take _)
 have hle16 : (l.take k16).length = k16 := by rw [List.length_take]; omega
 refine Wl.q rfl rfl (OpQ.assign rfl) ?_
 refine Wl.nil ?_
 refine PX.then_n ?_
 refine CT.seq ?_
 refine CT.region ?_
 refine Wl.q rfl rfl (OpQ.move rfl) ?_
 refine Wl.q rfl rfl (OpQ.move rfl) ?_
 refine Wl.g rfl rfl (OpG.callX RP_go11 rfl (.cons .here .nil) (fun _ => (.cons .nil)) (fun w hH hp => next_spec w b16 a k16 cp (l.take k16) hle16 (by omega) (hH.stays hrT16 (.cons .here .nil)) 0 (Nat.zero_le _) hp (2) (by omega))) ?_
 rintro ⟨r19, p19⟩ h19
 dsimp only at h19
 obtain ⟨⟨h19a, h19b⟩, h19p⟩ := h19
 refine Wl.know 19 (v' := .int .i64 r19) rfl rfl ?_
 obtain ⟨L, hL⟩ : ∃ L : Nat, (L : Int) = 1 + r19 := ⟨(1 + r19).toNat, by omega⟩
 refine Wl.q rfl rfl (OpQ.add rfl rfl (by omega)) ?_
 refine Wl.know 20 (v' := .int .i64 ((L : Nat) : Int)) rfl (congrArg (Value.int .i64) hL.symm) ?_
 refine Wl.g rfl rfl (OpG.callX RP_go10 rfl (.cons .here .nil) (fun _ => (App.of _ _)) (fun w hH hp => tseq_spec w b16 a k16 cp (l.take k16) hle16 (by omega) (hH.stays hrT16 (.cons .here .nil)) p19 h19p hp L (by omega) 5 2 (by omega) (by omega))) ?_
 rintro ⟨F, p21⟩ h21
 dsimp only at h21
 obtain ⟨⟨hFo, hFL, hFn⟩, h21p⟩ := h21
 refine Wl.know 21 (v' := svv F) rfl rfl ?_
 refine Wl.as (fun _ h => HOk.bindL (L := svH F 3 22 4 9 28) (F := []) (p := svm F) (HOk.behind (A := [_]) h) (fun w hk => svm_of hk)) ?_
 generalize blks _ = fF
 rw [← F.n_eq] at hFn
 have hFn5 : F.sq.n ≤ 5 := by omega
 refine Wl.g rfl rfl (OpG.alloc (zs := [.int .i64 0, .int .i64 0, .string ⟨#[]⟩, .slice none 0 0, .slice none 0 0, .slice none 0 0, .slice none 0 0]) RP_in30 rfl rfl) ?_
 rintro b4 _
 refine Wl.g rfl rfl (OpG.storeV (b := b4) RP_sz30 rfl rfl rfl rfl (by repeat (first | exact Upd.here | apply Upd.there))) ?_
 rintro _ _
 refine Wl.nil ?_
 refine PX.then_n ?_
 refine CT.seq ?_
 refine CT.region ?_
 refine Wl.q rfl rfl (OpQ.loadV (b := b4) RP_ag30 RP_sz30 rfl (by repeat (first | exact Has.here | apply Has.there)) (by rfl)) ?_
 refine Wl.know 23 (v' := svv F) rfl rfl ?_
 refine Wl.g rfl rfl (OpG.callX RP_go12 rfl .nil (fun _ => (App.of _ _)) (fun w hH hp => normal_spec w (M := 2) F (Stays.frag (hH.staysK0 (.there .here))) hFo (by decide) (by omega))) ?_
 rintro G hG
 obtain ⟨hGN, hGo⟩ := hG
 have hG12 : G.sq.Ok 12 := hGo.mono (by omega)
 have hGn := IsNorm.n_le hFo hGN
 refine Wl.as (fun _ h => HOk.bindL (L := svH G 3 22 4 9 28) (p := svm G) h (fun w hk => svm_of hk)) ?_
 generalize blks _ = fG
 refine Wl.q rfl rfl (OpQ.move rfl) ?_
 refine Wl.q rfl rfl (OpQ.extract rfl rfl) ?_
 refine Wl.know 25 (v' := svv G) rfl rfl ?_
 refine Wl.q rfl rfl (OpQ.extract rfl rfl) ?_
 refine Wl.know 26 (v' := .int .i64 ((0 : Nat) : Int)) rfl rfl ?_
 refine Wl.g rfl rfl (OpG.alloc (zs := [.int .i64 0, .int .i64 0, .string ⟨#[]⟩, .slice none 0 0, .slice none 0 0, .slice none 0 0, .slice none 0 0]) RP_in30 rfl rfl) ?_
 rintro b5 _
 refine Wl.g rfl rfl (OpG.storeV (b := b5) RP_sz30 rfl rfl rfl rfl (by repeat (first | exact Upd.here | apply Upd.there))) ?_
 rintro _ _
 refine Wl.q rfl rfl (OpQ.assign rfl) ?_
 refine Wl.nil ?_
 refine PX.then_n ?_
 refine CT.seq ?_
 refine CT.region ?_
 refine Wl.q rfl rfl (OpQ.loadV (b := b4) RP_ag30 RP_sz30 rfl (by repeat (first | exact Has.here | apply Has.there)) (by rfl)) ?_
 refine Wl.know 28 (v' := svv F) rfl rfl ?_
 refine Wl.g rfl rfl (OpG.callX RP_go13 rfl .nil (fun _ => (App.of _ _)) (fun w hH hp => minimal_spec w (M := 2) F (Stays.frag (hH.staysK0 (.there (.there (.there .here))))) hFo (by decide) (by omega))) ?_
 rintro MM hMM
 obtain ⟨hMI, hMo, hMn⟩ := hMM
 have hM12 : MM.sq.Ok 12 := hMo.mono (by omega)
 refine Wl.as (fun _ h => HOk.bindL (L := svH MM 3 22 4 9 28) (p := svm MM) h (fun w hk => svm_of hk)) ?_
 generalize blks _ = fMM
 refine Wl.q rfl rfl (OpQ.move rfl) ?_
 refine Wl.q rfl rfl (OpQ.extract rfl rfl) ?_
 refine Wl.know 30 (v' := svv MM) rfl rfl ?_
 refine Wl.q rfl rfl (OpQ.extract rfl rfl) ?_
 refine Wl.know 31 (v' := .int .i64 ((0 : Nat) : Int)) rfl rfl ?_
 refine Wl.g rfl rfl (OpG.alloc (zs := [.int .i64 0, .int .i64 0, .string ⟨#[]⟩, .slice none 0 0, .slice none 0 0, .slice none 0 0, .slice none 0 0]) RP_in30 rfl rfl) ?_
 rintro b7 _
 refine Wl.g rfl rfl (OpG.storeV (b := b7) RP_sz30 rfl rfl rfl rfl (by repeat (first | exact Upd.here | apply Upd.there))) ?_
 rintro _ _
 refine Wl.q rfl rfl (OpQ.assign rfl) ?_
 refine Wl.nil ?_
 refine PX.then_n ?_
 refine CT.seq ?_
 refine CT.seq ?_
 refine CT.region ?_
 refine Wl.q rfl rfl (OpQ.move rfl) ?_
 refine Wl.q rfl rfl (OpQ.neq rfl rfl) ?_
 refine Wl.know 33 (v' := .bool false) rfl (congrArg Value.bool (by decide)) ?_
 refine Wl.q rfl rfl (OpQ.move rfl) ?_
 refine Wl.q rfl rfl (OpQ.move rfl) ?_
 refine Wl.q rfl rfl (OpQ.neq rfl rfl) ?_
 refine Wl.know 36 (v' := .bool false) rfl (congrArg Value.bool (by decide)) ?_
 refine Wl.q rfl rfl (OpQ.pickF rfl rfl) ?_
 refine Wl.know 37 (v' := .bool false) rfl (congrArg Value.bool rfl) ?_
 refine Wl.nil ?_
 refine PX.then_n ?_
 refine CT.condF rfl ?_
 refine CT.skip ?_
 refine PX.then_n ?_
 refine CT.seq ?_
 refine CT.region ?_
 refine Wl.q rfl rfl (OpQ.loadV (b := b5) RP_ag30 RP_sz30 rfl (by repeat (first | exact Has.here | apply Has.there)) (by rfl)) ?_
 refine Wl.know 39 (v' := svv G) rfl rfl ?_
 refine Wl.g rfl rfl (OpG.callX RP_go12 rfl .nil (fun _ => (App.of _ _)) (fun w hH hp => normal_spec w (M := 12) G (Stays.frag (hH.staysK0 (.there (.there (.there .here))))) hG12 (by decide) (by omega))) ?_
 rintro GN hGN
 obtain ⟨hGNN, hGNo⟩ := hGN
 refine Wl.as (fun _ h => HOk.bindL (L := svH GN 3 22 4 9 28) (p := svm GN) h (fun w hk => svm_of hk)) ?_
 generalize blks _ = fGN
 refine Wl.q rfl rfl (OpQ.move rfl) ?_
 refine Wl.q rfl rfl (OpQ.extract rfl rfl) ?_
 refine Wl.know 41 (v' := svv GN) rfl rfl ?_
 refine Wl.q rfl rfl (OpQ.extract rfl rfl) ?_
 refine Wl.know 42 (v' := .int .i64 ((0 : Nat) : Int)) rfl rfl ?_
 refine Wl.g rfl rfl (OpG.alloc (zs := [.int .i64 0, .int .i64 0, .string ⟨#[]⟩, .slice none 0 0, .slice none 0 0, .slice none 0 0, .slice none 0 0]) RP_in30 rfl rfl) ?_
 rintro b9 _
 refine Wl.g rfl rfl (OpG.storeV (b := b9) RP_sz30 rfl rfl rfl rfl (by repeat (first | exact Upd.here | apply Upd.there))) ?_
 rintro _ _
 refine Wl.q rfl rfl (OpQ.assign rfl) ?_
 refine Wl.nil ?_
 refine PX.then_n ?_
 refine CT.seq ?_
 refine CT.region ?_
 refine Wl.q rfl rfl (OpQ.loadV (b := b7) RP_ag30 RP_sz30 rfl (by repeat (first | exact Has.here | apply Has.there)) (by rfl)) ?_
 refine Wl.know 44 (v' := svv MM) rfl rfl ?_
 refine Wl.g rfl rfl (OpG.callX RP_go12 rfl .nil (fun _ => (App.of _ _)) (fun w hH hp => normal_spec w (M := 12) MM (Stays.frag (hH.staysK0 (.there (.there (.there .here))))) hM12 (by decide) (by omega))) ?_
 rintro MN hMN
 obtain ⟨hMNN, hMNo⟩ := hMN
 refine Wl.as (fun _ h => HOk.bindL (L := svH MN 3 22 4 9 28) (p := svm MN) h (fun w hk => svm_of hk)) ?_
 generalize blks _ = fMN
 refine Wl.q rfl rfl (OpQ.move rfl) ?_
 refine Wl.q rfl rfl (OpQ.extract rfl rfl) ?_
 refine Wl.know 46 (v' := svv MN) rfl rfl ?_
 refine Wl.q rfl rfl (OpQ.extract rfl rfl) ?_
 refine Wl.know 47 (v' := .int .i64 ((0 : Nat) : Int)) rfl rfl ?_
 refine Wl.g rfl rfl (OpG.alloc (zs := [.int .i64 0, .int .i64 0, .string ⟨#[]⟩, .slice none 0 0, .slice none 0 0, .slice none 0 0, .slice none 0 0]) RP_in30 rfl rfl) ?_
 rintro b11 _
 refine Wl.g rfl rfl (OpG.storeV (b := b11) RP_sz30 rfl rfl rfl rfl (by repeat (first | exact Upd.here | apply Upd.there))) ?_
 rintro _ _
 refine Wl.q rfl rfl (OpQ.assign rfl) ?_
 refine Wl.nil ?_
 refine PX.then_n ?_
 refine CT.seq ?_
 refine CT.region ?_
 refine Wl.q rfl rfl (OpQ.loadV (b := b7) RP_ag30 RP_sz30 rfl (by repeat (first | exact Has.here | apply Has.there)) (by rfl)) ?_
 refine Wl.know 49 (v' := svv MM) rfl rfl ?_
 refine Wl.g rfl rfl (OpG.callX RP_go13 rfl .nil (fun _ => (App.of _ _)) (fun w hH hp => minimal_spec w (M := 12) MM (Stays.frag (hH.staysK0 (.there (.there (.there (.there (.there .here))))))) hM12 (by decide) (by omega))) ?_
 rintro M2 hM2
 obtain ⟨hM2I, hM2o, _⟩ := hM2
 have e1 : GN.sq = G.sq := IsNorm.again hGN hGNN
 have e2 : MN.sq = MM.sq := IsMini.norm hMI hMNN
 have e3 : M2.sq = MM.sq := IsMini.again hMI hM2I
 refine Wl.as (fun _ h => HOk.bindL (L := svH M2 3 22 4 9 28) (p := svm M2) h (fun w hk => svm_of hk)) ?_
 generalize blks _ = fM2
 refine Wl.q rfl rfl (OpQ.move rfl) ?_
 refine Wl.q rfl rfl (OpQ.extract rfl rfl) ?_
 refine Wl.know 51 (v' := svv M2) rfl rfl ?_
 refine Wl.q rfl rfl (OpQ.extract rfl rfl) ?_
 refine Wl.know 52 (v' := .int .i64 ((0 : Nat) : Int)) rfl rfl ?_
 refine Wl.g rfl rfl (OpG.alloc (zs := [.int .i64 0, .int .i64 0, .string ⟨#[]⟩, .slice none 0 0, .slice none 0 0, .slice none 0 0, .slice none 0 0]) RP_in30 rfl rfl) ?_
 rintro b13 _
 refine Wl.g rfl rfl (OpG.storeV (b := b13) RP_sz30 rfl rfl rfl rfl (by repeat (first | exact Upd.here | apply Upd.there))) ?_
 rintro _ _
 refine Wl.q rfl rfl (OpQ.assign rfl) ?_
 refine Wl.nil ?_
 refine PX.then_n ?_
 refine CT.seq ?_
 refine CT.region ?_
 refine Wl.q rfl rfl (OpQ.move rfl) ?_
 refine Wl.q rfl rfl (OpQ.eql rfl rfl) ?_
 refine Wl.know 54 (v' := .bool true) rfl (congrArg Value.bool (by decide)) ?_
 refine Wl.q rfl rfl (OpQ.move rfl) ?_
 refine Wl.q rfl rfl (OpQ.move rfl) ?_
 refine Wl.q rfl rfl (OpQ.eql rfl rfl) ?_
 refine Wl.know 57 (v' := .bool true) rfl (congrArg Value.bool (by decide)) ?_
 refine Wl.q rfl rfl (OpQ.pickT rfl rfl) ?_
 refine Wl.q rfl rfl (OpQ.move rfl) ?_
 refine Wl.q rfl rfl (OpQ.move rfl) ?_
 refine Wl.q rfl rfl (OpQ.eql rfl rfl) ?_
 refine Wl.know 61 (v' := .bool true) rfl (congrArg Value.bool (by decide)) ?_
 refine Wl.q rfl rfl (OpQ.pickT rfl rfl) ?_
 refine Wl.q rfl rfl (OpQ.move rfl) ?_
 refine Wl.q rfl rfl (OpQ.loadV (b := b5) RP_ag30 RP_sz30 rfl (by repeat (first | exact Has.here | apply Has.there)) (by rfl)) ?_
 refine Wl.know 64 (v' := svv G) rfl rfl ?_
 refine Wl.q rfl rfl (OpQ.loadV (b := b9) RP_ag30 RP_sz30 rfl (by repeat (first | exact Has.here | apply Has.there)) (by rfl)) ?_
 refine Wl.know 65 (v' := svv GN) rfl rfl ?_
 refine Wl.g rfl rfl (OpG.callV RP_go14 rfl (fun w hH => sameS_spec w G (Stays.frag (hH.staysK0 (.there (.there (.there (.there (.there (.there (.there (.there (.there .here))))))))))) (hG12.mono (by decide)) GN (Stays.frag (hH.staysK0 (.there (.there (.there (.there (.there .here))))))) (hGNo.mono (by omega)))) ?_
 rintro _ _
 refine Wl.know 66 (v' := .bool true) rfl (congrArg Value.bool (decide_eq_true e1.symm)) ?_
 refine Wl.q rfl rfl (OpQ.pickT rfl rfl) ?_
 refine Wl.q rfl rfl (OpQ.move rfl) ?_
 refine Wl.q rfl rfl (OpQ.loadV (b := b7) RP_ag30 RP_sz30 rfl (by repeat (first | exact Has.here | apply Has.there)) (by rfl)) ?_
 refine Wl.know 69 (v' := svv MM) rfl rfl ?_
 refine Wl.q rfl rfl (OpQ.loadV (b := b11) RP_ag30 RP_sz30 rfl (by repeat (first | exact Has.here | apply Has.there)) (by rfl)) ?_
 refine Wl.know 70 (v' := svv MN) rfl rfl ?_
 refine Wl.g rfl rfl (OpG.callV RP_go14 rfl (fun w hH => sameS_spec w MM (Stays.frag (hH.staysK0 (.there (.there (.there (.there (.there (.there (.there .here))))))))) (hM12.mono (by decide)) MN (Stays.frag (hH.staysK0 (.there (.there (.there .here))))) (hMNo.mono (by omega)))) ?_
 rintro _ _
 refine Wl.know 71 (v' := .bool true) rfl (congrArg Value.bool (decide_eq_true e2.symm)) ?_
 refine Wl.q rfl rfl (OpQ.pickT rfl rfl) ?_
 refine Wl.q rfl rfl (OpQ.move rfl) ?_
 refine Wl.q rfl rfl (OpQ.loadV (b := b7) RP_ag30 RP_sz30 rfl (by repeat (first | exact Has.here | apply Has.there)) (by rfl)) ?_
 refine Wl.know 74 (v' := svv MM) rfl rfl ?_
 refine Wl.q rfl rfl (OpQ.loadV (b := b13) RP_ag30 RP_sz30 rfl (by repeat (first | exact Has.here | apply Has.there)) (by rfl)) ?_
 refine Wl.know 75 (v' := svv M2) rfl rfl ?_
 refine Wl.g rfl rfl (OpG.callV RP_go14 rfl (fun w hH => sameS_spec w MM (Stays.frag (hH.staysK0 (.there (.there (.there (.there (.there (.there (.there .here))))))))) (hM12.mono (by decide)) M2 (Stays.frag (hH.staysK0 (.there .here))) (hM2o.mono (by omega)))) ?_
 rintro _ _
 refine Wl.know 76 (v' := .bool true) rfl (congrArg Value.bool (decide_eq_true e3.symm)) ?_
 refine Wl.q rfl rfl (OpQ.pickT rfl rfl) ?_
 refine Wl.q rfl rfl (OpQ.move rfl) ?_
 refine Wl.g rfl rfl (OpG.callV RP_go15 rfl (fun w hH => known_spec w)) ?_
 rintro _ _
 refine Wl.know 79 (v' := .bool true) rfl (congrArg Value.bool rfl) ?_
 refine Wl.q rfl rfl (OpQ.pickT rfl rfl) ?_
 refine Wl.q rfl rfl (OpQ.assign rfl) ?_
 refine Wl.nil ?_
 refine PX.then_n ?_
 refine CT.ret ?_
 refine PX.ret1 rfl rfl (fun w' hH => ?_)
 exact ⟨rfl, hH.ext⟩

end Go.Proofs.Ytamolakhpcofhaa

