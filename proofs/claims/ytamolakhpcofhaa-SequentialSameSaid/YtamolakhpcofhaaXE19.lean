/-
  What functions of the program compute, each by its walk. Conditions: those that each theorem names.
-/
import Derived.Test.YtamolakhpcofhaaXE12
import Derived.Test.YtamolakhpcofhaaXE14
import Derived.Test.YtamolakhpcofhaaXE15
import Derived.Test.YtamolakhpcofhaaXE18
import Derived.Test.YtamolakhpcofhaaXC2
set_option linter.unusedSimpArgs false
namespace Go.Proofs.Ytamolakhpcofhaa
open Go Go.Eng Go.Am Go.Sq
open Go.Tp (zi)
open Go.Tl (mayL Wd okW okB bo)

theorem RS_go9 : isGo Try.prog 9 = true := by kernel_rfl
theorem RS_go11 : isGo Try.prog 11 = true := by kernel_rfl
theorem RS_go10 : isGo Try.prog 10 = true := by kernel_rfl
theorem RS_in30 : (Try.prog.info? 30).map (fun i => (i.zero, i.size, i.bytes)) = some (some (.agg #[.int .i64 0, .int .i64 0, .string ⟨#[]⟩, .slice none 0 0, .slice none 0 0, .slice none 0 0, .slice none 0 0]), 7, 128) := by kernel_rfl
theorem RS_sz30 : sizeB Try.prog 30 = some 7 := by kernel_rfl
theorem RS_go16 : isGo Try.prog 16 = true := by kernel_rfl
theorem RS_ag30 : isAggB Try.prog 30 = some true := by kernel_rfl
theorem RS_go19 : isGo Try.prog 19 = true := by kernel_rfl
theorem RS_go29 : isGo Try.prog 29 = true := by kernel_rfl
theorem RS_go12 : isGo Try.prog 12 = true := by kernel_rfl
theorem RS_go13 : isGo Try.prog 13 = true := by kernel_rfl
theorem RS_go30 : isGo Try.prog 30 = true := by kernel_rfl
theorem RS_in49 : (Try.prog.info? 49).map (fun i => (i.zero, i.size, i.bytes)) = some (some (.agg #[.int .i64 0, .int .i64 0, .slice none 0 0, .slice none 0 0]), 4, 64) := by kernel_rfl
theorem RS_sz49 : sizeB Try.prog 49 = some 4 := by kernel_rfl
theorem RS_un4 : Try.prog.underlying 4 = some .bool := by kernel_rfl
theorem RS_ag49 : isAggB Try.prog 49 = some true := by kernel_rfl
theorem RS_go28 : isGo Try.prog 28 = true := by kernel_rfl
theorem RS_fa30_3 : fieldB Try.prog 30 3 = some 3 := by kernel_rfl
theorem RS_sc25 : scalarB Try.prog 25 = some true := by kernel_rfl
theorem RS_un25 : Try.prog.underlying 25 = some (.slice 22) := by kernel_rfl
theorem RS_go15 : isGo Try.prog 15 = true := by kernel_rfl
set_option maxRecDepth 100000 in
set_option maxHeartbeats 1000000 in
/-- semigroup/semigrouplaw42.SequentialSame -/
theorem SequentialSame_spec (w : World) (a : Option Addr) (cp : Nat) (l : List Int) (hrl : Rd w a (l.map zi)) (hl : l.length ≤ cp) (a2 : Option Addr) (cp2 : Nat) (l2 : List Int) (hrl2 : Rd w a2 (l2.map zi)) (hl2 : l2.length ≤ cp2) : Calls Try.prog 7 #[.slice a l.length cp, .slice a2 l2.length cp2] w (fun e w' => e = .returned (.bool true) ∧ Ext [] w w') := by
 refine enter (args := [.slice a l.length cp, .slice a2 l2.length cp2]) [] 142 Try.func7 rfl rfl rfl ?_
 refine CT.seq ?_
 refine CT.region ?_
 refine Wl.q rfl rfl (OpQ.assign rfl) ?_
 refine Wl.nil ?_
 refine PX.then_n ?_
 refine CT.seq ?_
 refine CT.region ?_
 refine Wl.q rfl rfl (OpQ.move rfl) ?_
 refine Wl.g rfl rfl (OpG.callX RS_go9 rfl .nil (fun _ => (.cons .nil)) (fun w hH hp => new_spec w a cp l hl)) ?_
 rintro ⟨b26, k26⟩ h26
 dsimp only at h26
 obtain ⟨hk26, hk26m⟩ := h26
 have hrT26 : Stays [] w (fun w => Rd w a ((l.take k26).map zi)) := Rd.stays (by rw [List.map_take]; exact hrl.take _)
 have hle26 : (l.take k26).length = k26 := by rw [List.length_take]; omega
 refine Wl.q rfl rfl (OpQ.assign rfl) ?_
 refine Wl.nil ?_
 refine PX.then_n ?_
 refine CT.seq ?_
 refine CT.region ?_
 refine Wl.q rfl rfl (OpQ.move rfl) ?_
 refine Wl.g rfl rfl (OpG.callX RS_go11 rfl (.cons .here .nil) (fun _ => (.cons .nil)) (fun w hH hp => next_spec w b26 a k26 cp (l.take k26) hle26 (by omega) (hH.stays hrT26 (.cons .here .nil)) 0 (Nat.zero_le _) hp (2) (by omega))) ?_
 rintro ⟨r28, p28⟩ h28
 dsimp only at h28
 obtain ⟨⟨h28a, h28b⟩, h28p⟩ := h28
 refine Wl.know 28 (v' := .int .i64 r28) rfl rfl ?_
 obtain ⟨L, hL⟩ : ∃ L : Nat, (L : Int) = 1 + r28 := ⟨(1 + r28).toNat, by omega⟩
 refine Wl.q rfl rfl (OpQ.add rfl rfl (by omega)) ?_
 refine Wl.know 29 (v' := .int .i64 ((L : Nat) : Int)) rfl (congrArg (Value.int .i64) hL.symm) ?_
 refine Wl.q rfl rfl (OpQ.assign rfl) ?_
 refine Wl.nil ?_
 refine PX.then_n ?_
 refine CT.seq ?_
 refine CT.region ?_
 refine Wl.q rfl rfl (OpQ.move rfl) ?_
 refine Wl.q rfl rfl (OpQ.move rfl) ?_
 refine Wl.g rfl rfl (OpG.callX RS_go10 rfl (.cons .here .nil) (fun _ => (App.of _ _)) (fun w hH hp => tseq_spec w b26 a k26 cp (l.take k26) hle26 (by omega) (hH.stays hrT26 (.cons .here .nil)) p28 h28p hp L (by omega) 5 2 (by omega) (by omega))) ?_
 rintro ⟨F, p32⟩ h32
 dsimp only at h32
 obtain ⟨⟨hFo, hFL, hFn, hFv⟩, h32p⟩ := h32
 refine Wl.know 32 (v' := svv F) rfl rfl ?_
 refine Wl.as (fun _ h => HOk.bindL (L := svH F 3 22 4 9 28) (F := []) (p := svm F) (HOk.behind (A := [_]) h) (fun w hk => svm_of hk)) ?_
 generalize blks _ = fF
 rw [← F.n_eq] at hFn
 have hFn5 : F.sq.n ≤ 5 := by omega
 have hF4 : F.sq.Ok 4096 := hFo.mono (by omega)
 have hFr := F.n_eq
 refine Wl.g rfl rfl (OpG.alloc (zs := [.int .i64 0, .int .i64 0, .string ⟨#[]⟩, .slice none 0 0, .slice none 0 0, .slice none 0 0, .slice none 0 0]) RS_in30 rfl rfl) ?_
 rintro b7 _
 refine Wl.g rfl rfl (OpG.storeV (b := b7) RS_sz30 rfl rfl rfl rfl (by repeat (first | exact Upd.here | apply Upd.there))) ?_
 rintro _ _
 refine Wl.nil ?_
 refine PX.then_n ?_
 refine CT.seq ?_
 refine CT.region ?_
 refine Wl.q rfl rfl (OpQ.move rfl) ?_
 refine Wl.g rfl rfl (OpG.callX RS_go9 rfl .nil (fun _ => (.cons .nil)) (fun w hH hp => new_spec w a2 cp2 l2 hl2)) ?_
 rintro ⟨b34, k34⟩ h34
 dsimp only at h34
 obtain ⟨hk34, hk34m⟩ := h34
 have hrT34 : Stays [] w (fun w => Rd w a2 ((l2.take k34).map zi)) := Rd.stays (by rw [List.map_take]; exact hrl2.take _)
 have hle34 : (l2.take k34).length = k34 := by rw [List.length_take]; omega
 refine Wl.q rfl rfl (OpQ.move rfl) ?_
 refine Wl.g rfl rfl (OpG.callX RS_go16 rfl (.cons .here .nil) (fun _ => (.cons .nil)) (fun w hH hp => word_spec w b34 a2 k34 cp2 (l2.take k34) hle34 (by omega) (hH.stays hrT34 (.cons .here .nil)) 0 (Nat.zero_le _) hp (L : Int) 12 (by omega) (by omega))) ?_
 rintro ⟨ws, p36⟩ h36
 dsimp only at h36
 obtain ⟨⟨hwl, hwk⟩, h36p⟩ := h36
 refine Wl.know 36 (v' := sv ws) rfl rfl ?_
 have hin : InW F.sq.L (wl ws) := by rw [show F.sq.L = L from hFL]; exact wl_in hwk
 refine Wl.q rfl rfl (OpQ.assign rfl) ?_
 refine Wl.nil ?_
 refine PX.then_n ?_
 refine CT.seq ?_
 refine CT.region ?_
 refine Wl.q rfl rfl (OpQ.loadV (b := b7) RS_ag30 RS_sz30 rfl (by repeat (first | exact Has.here | apply Has.there)) (by rfl)) ?_
 refine Wl.know 38 (v' := svv F) rfl rfl ?_
 refine Wl.q rfl rfl (OpQ.move rfl) ?_
 refine Wl.g rfl rfl (OpG.callV RS_go19 rfl (fun w hH => apply_spec w F (Stays.frag (hH.staysK0 (.there (.there .here)))) hF4 ws (by rw [hFL]; exact hwk))) ?_
 rintro _ _
 refine Wl.q rfl rfl (OpQ.move rfl) ?_
 refine Wl.q rfl rfl (OpQ.extract rfl rfl) ?_
 refine Wl.q rfl rfl (OpQ.extract rfl rfl) ?_
 refine Wl.q rfl rfl (OpQ.assign rfl) ?_
 refine Wl.q rfl rfl (OpQ.assign rfl) ?_
 refine Wl.nil ?_
 refine PX.then_n ?_
 refine CT.seq ?_
 refine CT.region ?_
 refine Wl.q rfl rfl (OpQ.loadV (b := b7) RS_ag30 RS_sz30 rfl (by repeat (first | exact Has.here | apply Has.there)) (by rfl)) ?_
 refine Wl.know 44 (v' := svv F) rfl rfl ?_
 refine Wl.g rfl rfl (OpG.callX RS_go29 rfl .nil (fun _ => (App.of _ _)) (fun w hH hp => Trim_spec w F (Stays.frag (hH.staysK0 (.there (.there .here)))) hF4)) ?_
 rintro A hA
 obtain ⟨hAo, hAn⟩ := IsTrim.ok hF4 hA
 have hAL : A.L = L := (IsTrim.L_eq hA).trans hFL
 have hvA := hA.value hin
 refine Wl.as (fun _ h => HOk.bindL (L := svH A 3 22 4 9 28) (p := svm A) h (fun w hk => svm_of hk)) ?_
 generalize blks _ = fA
 refine Wl.q rfl rfl (OpQ.move rfl) ?_
 refine Wl.q rfl rfl (OpQ.extract rfl rfl) ?_
 refine Wl.know 46 (v' := svv A) rfl rfl ?_
 refine Wl.q rfl rfl (OpQ.extract rfl rfl) ?_
 refine Wl.know 47 (v' := .int .i64 ((0 : Nat) : Int)) rfl rfl ?_
 refine Wl.g rfl rfl (OpG.alloc (zs := [.int .i64 0, .int .i64 0, .string ⟨#[]⟩, .slice none 0 0, .slice none 0 0, .slice none 0 0, .slice none 0 0]) RS_in30 rfl rfl) ?_
 rintro b11 _
 refine Wl.g rfl rfl (OpG.storeV (b := b11) RS_sz30 rfl rfl rfl rfl (by repeat (first | exact Upd.here | apply Upd.there))) ?_
 rintro _ _
 refine Wl.q rfl rfl (OpQ.assign rfl) ?_
 refine Wl.nil ?_
 refine PX.then_n ?_
 refine CT.seq ?_
 refine CT.region ?_
 refine Wl.q rfl rfl (OpQ.loadV (b := b7) RS_ag30 RS_sz30 rfl (by repeat (first | exact Has.here | apply Has.there)) (by rfl)) ?_
 refine Wl.know 49 (v' := svv F) rfl rfl ?_
 refine Wl.g rfl rfl (OpG.callX RS_go12 rfl .nil (fun _ => (App.of _ _)) (fun w hH hp => normal_spec w (M := 2) F (Stays.frag (hH.staysK0 (.there (.there (.there (.there .here)))))) hFo (by decide) (by omega))) ?_
 rintro B hB
 obtain ⟨hBN, hBo⟩ := hB
 have hB4 : B.sq.Ok 4096 := hBo.mono (by omega)
 have hvB := hBN.value hin
 have hBL : B.L = L := (IsNorm.bis hBN hB4).2.2.trans hFL
 refine Wl.as (fun _ h => HOk.bindL (L := svH B 3 22 4 9 28) (p := svm B) h (fun w hk => svm_of hk)) ?_
 generalize blks _ = fB
 refine Wl.q rfl rfl (OpQ.move rfl) ?_
 refine Wl.q rfl rfl (OpQ.extract rfl rfl) ?_
 refine Wl.know 51 (v' := svv B) rfl rfl ?_
 refine Wl.q rfl rfl (OpQ.extract rfl rfl) ?_
 refine Wl.know 52 (v' := .int .i64 ((0 : Nat) : Int)) rfl rfl ?_
 refine Wl.g rfl rfl (OpG.alloc (zs := [.int .i64 0, .int .i64 0, .string ⟨#[]⟩, .slice none 0 0, .slice none 0 0, .slice none 0 0, .slice none 0 0]) RS_in30 rfl rfl) ?_
 rintro b13 _
 refine Wl.g rfl rfl (OpG.storeV (b := b13) RS_sz30 rfl rfl rfl rfl (by repeat (first | exact Upd.here | apply Upd.there))) ?_
 rintro _ _
 refine Wl.q rfl rfl (OpQ.assign rfl) ?_
 refine Wl.nil ?_
 refine PX.then_n ?_
 refine CT.seq ?_
 refine CT.region ?_
 refine Wl.q rfl rfl (OpQ.loadV (b := b7) RS_ag30 RS_sz30 rfl (by repeat (first | exact Has.here | apply Has.there)) (by rfl)) ?_
 refine Wl.know 54 (v' := svv F) rfl rfl ?_
 refine Wl.g rfl rfl (OpG.callX RS_go13 rfl .nil (fun _ => (App.of _ _)) (fun w hH hp => sminimal_spec w (M := 2) F (Stays.frag (hH.staysK0 (.there (.there (.there (.there (.there (.there .here)))))))) hFo (by decide) (by omega))) ?_
 rintro C hC
 obtain ⟨hCI, hCo, hCn, hCnn⟩ := hC
 have hC4 : C.sq.Ok 4096 := hCo.mono (by omega)
 have hvC := hCI.val _ hin
 have hCL : C.L = L := hCI.L_eq.trans hFL
 have hCB := hCnn _ hBN
 rw [C.n_eq, B.n_eq] at hCB
 refine Wl.as (fun _ h => HOk.bindL (L := svH C 3 22 4 9 28) (p := svm C) h (fun w hk => svm_of hk)) ?_
 generalize blks _ = fC
 refine Wl.q rfl rfl (OpQ.move rfl) ?_
 refine Wl.q rfl rfl (OpQ.extract rfl rfl) ?_
 refine Wl.know 56 (v' := svv C) rfl rfl ?_
 refine Wl.q rfl rfl (OpQ.extract rfl rfl) ?_
 refine Wl.know 57 (v' := .int .i64 ((0 : Nat) : Int)) rfl rfl ?_
 refine Wl.g rfl rfl (OpG.alloc (zs := [.int .i64 0, .int .i64 0, .string ⟨#[]⟩, .slice none 0 0, .slice none 0 0, .slice none 0 0, .slice none 0 0]) RS_in30 rfl rfl) ?_
 rintro b15 _
 refine Wl.g rfl rfl (OpG.storeV (b := b15) RS_sz30 rfl rfl rfl rfl (by repeat (first | exact Upd.here | apply Upd.there))) ?_
 rintro _ _
 refine Wl.q rfl rfl (OpQ.assign rfl) ?_
 refine Wl.nil ?_
 refine PX.then_n ?_
 refine CT.seq ?_
 refine CT.region ?_
 refine Wl.q rfl rfl (OpQ.loadV (b := b7) RS_ag30 RS_sz30 rfl (by repeat (first | exact Has.here | apply Has.there)) (by rfl)) ?_
 refine Wl.know 59 (v' := svv F) rfl rfl ?_
 refine Wl.g rfl rfl (OpG.callX RS_go30 rfl .nil (fun _ => (.cons .nil)) (fun w hH hp => domain_spec w F (Stays.frag (hH.staysK0 (.there (.there (.there (.there (.there (.there (.there (.there .here)))))))))) hF4 (by omega))) ?_
 rintro ⟨D, bD⟩ hD
 dsimp only at hD
 obtain ⟨hDo, hD5, hDL, hDv⟩ := hD
 have hDa := hDv _ hin
 have hDL2 : D.L = (L : Int) := by rw [hDo.L_eq, hDL, hFL]
 refine Wl.q rfl rfl (OpQ.move rfl) ?_
 refine Wl.q rfl rfl (OpQ.extract rfl rfl) ?_
 refine Wl.know 61 (v' := dvv D) rfl rfl ?_
 refine Wl.q rfl rfl (OpQ.extract rfl rfl) ?_
 refine Wl.know 62 (v' := .int .i64 ((0 : Nat) : Int)) rfl rfl ?_
 refine Wl.g rfl rfl (OpG.alloc (zs := [.int .i64 0, .int .i64 0, .slice none 0 0, .slice none 0 0]) RS_in49 rfl rfl) ?_
 rintro b17 _
 refine Wl.g rfl rfl (OpG.storeV (b := b17) RS_sz49 rfl rfl rfl rfl (by repeat (first | exact Upd.here | apply Upd.there))) ?_
 rintro _ _
 refine Wl.q rfl rfl (OpQ.assign rfl) ?_
 refine Wl.nil ?_
 refine PX.then_n ?_
 refine CT.seq ?_
 refine CT.seq ?_
 refine CT.region ?_
 refine Wl.q rfl rfl (OpQ.move rfl) ?_
 refine Wl.q rfl rfl (OpQ.neq rfl rfl) ?_
 refine Wl.know 64 (v' := .bool false) rfl (congrArg Value.bool (by decide)) ?_
 refine Wl.q rfl rfl (OpQ.move rfl) ?_
 refine Wl.q rfl rfl (OpQ.move rfl) ?_
 refine Wl.q rfl rfl (OpQ.neq rfl rfl) ?_
 refine Wl.know 67 (v' := .bool false) rfl (congrArg Value.bool (by decide)) ?_
 refine Wl.q rfl rfl (OpQ.pickF rfl rfl) ?_
 refine Wl.q rfl rfl (OpQ.move rfl) ?_
 refine Wl.q rfl rfl (OpQ.move rfl) ?_
 refine Wl.q rfl rfl (OpQ.neq rfl rfl) ?_
 refine Wl.know 71 (v' := .bool false) rfl (congrArg Value.bool (by decide)) ?_
 refine Wl.q rfl rfl (OpQ.pickF rfl rfl) ?_
 refine Wl.q rfl rfl (OpQ.move rfl) ?_
 refine Wl.q rfl rfl (OpQ.move rfl) ?_
 refine Wl.q rfl rfl (OpQ.neq rfl rfl) ?_
 refine Wl.know 75 (v' := .bool false) rfl (congrArg Value.bool (by decide)) ?_
 refine Wl.q rfl rfl (OpQ.pickF rfl rfl) ?_
 refine Wl.nil ?_
 refine PX.then_n ?_
 refine CT.condF rfl ?_
 refine CT.skip ?_
 refine PX.then_n ?_
 refine CT.seq ?_
 refine CT.region ?_
 refine Wl.q rfl rfl (OpQ.loadV (b := b11) RS_ag30 RS_sz30 rfl (by repeat (first | exact Has.here | apply Has.there)) (by rfl)) ?_
 refine Wl.know 78 (v' := svv A) rfl rfl ?_
 refine Wl.q rfl rfl (OpQ.move rfl) ?_
 refine Wl.g rfl rfl (OpG.callV RS_go19 rfl (fun w hH => apply_spec w A (Stays.frag (hH.staysK0 (.there (.there (.there (.there (.there (.there (.there .here))))))))) hAo ws (by rw [hAL]; exact hwk))) ?_
 rintro _ _
 refine Wl.know 80 (v' := .tuple #[sv (apv (F.sq.value (wl ws))).1, .bool (apv (F.sq.value (wl ws))).2]) rfl (by rw [show A.sq.value (wl ws) = F.sq.value (wl ws) from hvA]) ?_
 refine Wl.q rfl rfl (OpQ.move rfl) ?_
 refine Wl.q rfl rfl (OpQ.extract rfl rfl) ?_
 refine Wl.q rfl rfl (OpQ.extract rfl rfl) ?_
 refine Wl.q rfl rfl (OpQ.assign rfl) ?_
 refine Wl.q rfl rfl (OpQ.assign rfl) ?_
 refine Wl.nil ?_
 refine PX.then_n ?_
 refine CT.seq ?_
 refine CT.region ?_
 refine Wl.q rfl rfl (OpQ.loadV (b := b13) RS_ag30 RS_sz30 rfl (by repeat (first | exact Has.here | apply Has.there)) (by rfl)) ?_
 refine Wl.know 84 (v' := svv B) rfl rfl ?_
 refine Wl.q rfl rfl (OpQ.move rfl) ?_
 refine Wl.g rfl rfl (OpG.callV RS_go19 rfl (fun w hH => apply_spec w B (Stays.frag (hH.staysK0 (.there (.there (.there (.there (.there .here))))))) hB4 ws (by rw [hBL]; exact hwk))) ?_
 rintro _ _
 refine Wl.know 86 (v' := .tuple #[sv (apv (F.sq.value (wl ws))).1, .bool (apv (F.sq.value (wl ws))).2]) rfl (by rw [hvB]) ?_
 refine Wl.q rfl rfl (OpQ.move rfl) ?_
 refine Wl.q rfl rfl (OpQ.extract rfl rfl) ?_
 refine Wl.q rfl rfl (OpQ.extract rfl rfl) ?_
 refine Wl.q rfl rfl (OpQ.assign rfl) ?_
 refine Wl.q rfl rfl (OpQ.assign rfl) ?_
 refine Wl.nil ?_
 refine PX.then_n ?_
 refine CT.seq ?_
 refine CT.region ?_
 refine Wl.q rfl rfl (OpQ.loadV (b := b15) RS_ag30 RS_sz30 rfl (by repeat (first | exact Has.here | apply Has.there)) (by rfl)) ?_
 refine Wl.know 90 (v' := svv C) rfl rfl ?_
 refine Wl.q rfl rfl (OpQ.move rfl) ?_
 refine Wl.g rfl rfl (OpG.callV RS_go19 rfl (fun w hH => apply_spec w C (Stays.frag (hH.staysK0 (.there (.there (.there .here))))) hC4 ws (by rw [hCL]; exact hwk))) ?_
 rintro _ _
 refine Wl.know 92 (v' := .tuple #[sv (apv (F.sq.value (wl ws))).1, .bool (apv (F.sq.value (wl ws))).2]) rfl (by rw [hvC]) ?_
 refine Wl.q rfl rfl (OpQ.move rfl) ?_
 refine Wl.q rfl rfl (OpQ.extract rfl rfl) ?_
 refine Wl.q rfl rfl (OpQ.extract rfl rfl) ?_
 refine Wl.q rfl rfl (OpQ.assign rfl) ?_
 refine Wl.q rfl rfl (OpQ.assign rfl) ?_
 refine Wl.nil ?_
 refine PX.then_n ?_
 refine CT.seq ?_
 refine CT.region ?_
 refine Wl.q rfl rfl (OpQ.move rfl) ?_
 refine Wl.q rfl rfl (OpQ.move rfl) ?_
 refine Wl.q rfl rfl (OpQ.eqlB RS_un4 rfl rfl) ?_
 refine Wl.know 97 (v' := .bool true) rfl (congrArg Value.bool (by simp)) ?_
 refine Wl.q rfl rfl (OpQ.move rfl) ?_
 refine Wl.q rfl rfl (OpQ.move rfl) ?_
 refine Wl.q rfl rfl (OpQ.move rfl) ?_
 refine Wl.q rfl rfl (OpQ.eqlB RS_un4 rfl rfl) ?_
 refine Wl.know 101 (v' := .bool true) rfl (congrArg Value.bool (by simp)) ?_
 refine Wl.q rfl rfl (OpQ.pickT rfl rfl) ?_
 refine Wl.q rfl rfl (OpQ.move rfl) ?_
 refine Wl.q rfl rfl (OpQ.move rfl) ?_
 refine Wl.q rfl rfl (OpQ.move rfl) ?_
 refine Wl.q rfl rfl (OpQ.eqlB RS_un4 rfl rfl) ?_
 refine Wl.know 106 (v' := .bool true) rfl (congrArg Value.bool (by simp)) ?_
 refine Wl.q rfl rfl (OpQ.pickT rfl rfl) ?_
 refine Wl.q rfl rfl (OpQ.move rfl) ?_
 refine Wl.q rfl rfl (OpQ.move rfl) ?_
 refine Wl.q rfl rfl (OpQ.move rfl) ?_
 refine Wl.q rfl rfl (OpQ.eqlS rfl rfl) ?_
 refine Wl.know 111 (v' := .bool true) rfl (congrArg Value.bool (by simp)) ?_
 refine Wl.q rfl rfl (OpQ.pickT rfl rfl) ?_
 refine Wl.q rfl rfl (OpQ.move rfl) ?_
 refine Wl.q rfl rfl (OpQ.move rfl) ?_
 refine Wl.q rfl rfl (OpQ.move rfl) ?_
 refine Wl.q rfl rfl (OpQ.eqlS rfl rfl) ?_
 refine Wl.know 116 (v' := .bool true) rfl (congrArg Value.bool (by simp)) ?_
 refine Wl.q rfl rfl (OpQ.pickT rfl rfl) ?_
 refine Wl.q rfl rfl (OpQ.move rfl) ?_
 refine Wl.q rfl rfl (OpQ.move rfl) ?_
 refine Wl.q rfl rfl (OpQ.move rfl) ?_
 refine Wl.q rfl rfl (OpQ.eqlS rfl rfl) ?_
 refine Wl.know 121 (v' := .bool true) rfl (congrArg Value.bool (by simp)) ?_
 refine Wl.q rfl rfl (OpQ.pickT rfl rfl) ?_
 refine Wl.q rfl rfl (OpQ.move rfl) ?_
 refine Wl.q rfl rfl (OpQ.loadV (b := b17) RS_ag49 RS_sz49 rfl (by repeat (first | exact Has.here | apply Has.there)) (by rfl)) ?_
 refine Wl.know 124 (v' := dvv D) rfl rfl ?_
 refine Wl.q rfl rfl (OpQ.move rfl) ?_
 refine Wl.g rfl rfl (OpG.callV RS_go28 rfl (fun w hH => dacc_spec w D (Stays.frag (hH.staysK0 (.there .here))) hDo hD5 ws (by rw [hDL2]; exact hwk))) ?_
 rintro _ _
 refine Wl.know 126 (v' := .bool (apv (F.sq.value (wl ws))).2) rfl (congrArg Value.bool (hDa.trans (apv_2 _).symm)) ?_
 refine Wl.q rfl rfl (OpQ.move rfl) ?_
 refine Wl.q rfl rfl (OpQ.eqlB RS_un4 rfl rfl) ?_
 refine Wl.know 128 (v' := .bool true) rfl (congrArg Value.bool (by simp)) ?_
 refine Wl.q rfl rfl (OpQ.pickT rfl rfl) ?_
 refine Wl.q rfl rfl (OpQ.move rfl) ?_
 refine Wl.q rfl rfl (OpQ.fieldAddr RS_fa30_3 rfl) ?_
 refine Wl.q rfl rfl (OpQ.loadF (b := b15) RS_sc25 rfl (by repeat (first | exact Has.here | apply Has.there)) (by rfl)) ?_
 refine Wl.q rfl rfl (OpQ.len RS_un25 rfl) ?_
 refine Wl.q rfl rfl (OpQ.fieldAddr RS_fa30_3 rfl) ?_
 refine Wl.q rfl rfl (OpQ.loadF (b := b13) RS_sc25 rfl (by repeat (first | exact Has.here | apply Has.there)) (by rfl)) ?_
 refine Wl.q rfl rfl (OpQ.len RS_un25 rfl) ?_
 refine Wl.q rfl rfl (OpQ.leq rfl rfl) ?_
 refine Wl.know 137 (v' := .bool true) rfl (congrArg Value.bool (decide_eq_true (by omega))) ?_
 refine Wl.q rfl rfl (OpQ.pickT rfl rfl) ?_
 refine Wl.q rfl rfl (OpQ.move rfl) ?_
 refine Wl.g rfl rfl (OpG.callV RS_go15 rfl (fun w hH => known_spec w)) ?_
 rintro _ _
 refine Wl.know 140 (v' := .bool true) rfl (congrArg Value.bool rfl) ?_
 refine Wl.q rfl rfl (OpQ.pickT rfl rfl) ?_
 refine Wl.q rfl rfl (OpQ.assign rfl) ?_
 refine Wl.nil ?_
 refine PX.then_n ?_
 refine CT.ret ?_
 refine PX.ret1 rfl rfl (fun w' hH => ?_)
 exact ⟨rfl, hH.ext⟩

end Go.Proofs.Ytamolakhpcofhaa

