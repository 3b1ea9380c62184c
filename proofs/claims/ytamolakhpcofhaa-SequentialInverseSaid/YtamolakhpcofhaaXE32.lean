/-
  What functions of the program compute, each by its walk. Conditions: those that each theorem names.
-/
import Derived.Test.YtamolakhpcofhaaXE30
import Derived.Test.YtamolakhpcofhaaXE28
import Derived.Test.YtamolakhpcofhaaXC6
import Derived.Test.YtamolakhpcofhaaXE31
import Derived.Test.YtamolakhpcofhaaXE14
import Derived.Test.YtamolakhpcofhaaXE15
import Derived.Test.YtamolakhpcofhaaXC2
import Derived.Test.YtamolakhpcofhaaXE6
import Derived.Test.YtamolakhpcofhaaXF
set_option linter.unusedSimpArgs false
namespace Go.Proofs.Ytamolakhpcofhaa
open Go Go.Eng Go.Am Go.Sq
open Go.Tp (zi)
open Go.Tl (mayL Wd okW okB bo)

set_option maxRecDepth 100000 in
set_option maxHeartbeats 1000000 in
/-- semigroup/semigrouplaw42.SequentialInverse -/
theorem SequentialInverse_spec (w : World) (a : Option Addr) (cp : Nat) (l : List Int) (hrl : Rd w a (l.map zi)) (hl : l.length ≤ cp) (a2 : Option Addr) (cp2 : Nat) (l2 : List Int) (hrl2 : Rd w a2 (l2.map zi)) (hl2 : l2.length ≤ cp2) : Calls Try.prog 6 #[.slice a l.length cp, .slice a2 l2.length cp2] w (fun e w' => e = .returned (.bool true) ∧ Ext [] w w') := by
 refine enter (args := [.slice a l.length cp, .slice a2 l2.length cp2]) [] 74 Try.func6 rfl rfl rfl ?_
 refine CT.seq (CT.region ?_)
 refine Wl.q rfl rfl (OpQ.assign rfl) ?_
 refine Wl.nil (PX.then_n (CT.seq (CT.region ?_)))
 refine Wl.q rfl rfl (OpQ.move rfl) ?_
 refine Wl.g rfl rfl (OpG.callX zf159 rfl .nil (fun _ => (.cons .nil)) (fun w hH hp => new_spec w a cp l hl)) ?_
 rintro ⟨b17, k17⟩ h17
 dsimp only at h17
 obtain ⟨hk17, hk17m⟩ := h17
 have hrT17 : Stays [] w (fun w => Rd w a ((l.take k17).map zi)) := Rd.stays (by rw [List.map_take]; exact hrl.take _)
 have hle17 : (l.take k17).length = k17 := by rw [List.length_take]; omega
 refine Wl.q rfl rfl (OpQ.assign rfl) ?_
 refine Wl.nil (PX.then_n (CT.seq (CT.region ?_)))
 refine Wl.q rfl rfl (OpQ.move rfl) ?_
 refine Wl.g rfl rfl (OpG.callX zf12 rfl (.cons .here .nil) (fun _ => (.cons .nil)) (fun w hH hp => next_spec w b17 a k17 cp (l.take k17) hle17 (by omega) (hH.stays hrT17 (.cons .here .nil)) 0 (Nat.zero_le _) hp (2) (by omega))) ?_
 rintro ⟨r19, p19⟩ h19
 dsimp only at h19
 obtain ⟨⟨h19a, h19b⟩, h19p⟩ := h19
 refine Wl.know 19 (v' := .int .i64 r19) rfl rfl ?_
 obtain ⟨L, hL⟩ : ∃ L : Nat, (L : Int) = 1 + r19 := ⟨(1 + r19).toNat, by omega⟩
 refine Wl.q rfl rfl (OpQ.add rfl rfl (by omega)) ?_
 refine Wl.know 20 (v' := .int .i64 ((L : Nat) : Int)) rfl (congrArg (Value.int .i64) hL.symm) ?_
 refine Wl.q rfl rfl (OpQ.assign rfl) ?_
 refine Wl.nil (PX.then_n (CT.seq (CT.region ?_)))
 refine Wl.q rfl rfl (OpQ.move rfl) ?_
 refine Wl.q rfl rfl (OpQ.move rfl) ?_
 refine Wl.g rfl rfl (OpG.callX zf160 rfl (.cons .here .nil) (fun _ => (App.of _ _)) (fun w hH hp => tseq_spec w b17 a k17 cp (l.take k17) hle17 (by omega) (hH.stays hrT17 (.cons .here .nil)) p19 h19p hp L (by omega) 4 2 (by omega) (by omega))) ?_
 rintro ⟨F, p23⟩ h23
 dsimp only at h23
 obtain ⟨⟨hFo, hFL, hFn, hFv⟩, h23p⟩ := h23
 refine Wl.know 23 (v' := svv F) rfl rfl ?_
 refine Wl.as (fun _ h => HOk.bindL (L := svH F 3 22 4 9 28) (F := [.row 57 2 (vb b17) 1 [.slice a k17 cp, .int .i64 ((p23 : Nat) : Int)]] ++ []) (p := svm F) (HOk.rot (A := [_]) (B := svH F 3 22 4 9 28) h) (fun w hk => svm_of hk)) ?_
 generalize blks _ = fF
 rw [← F.n_eq] at hFn
 have hF4 : F.sq.Ok 4096 := hFo.mono (by decide)
 refine Wl.q rfl rfl (OpQ.move rfl) ?_
 refine Wl.g rfl rfl (OpG.callX zf161 rfl (.cons (.there .here) .nil) (fun _ => (.cons (.cons .nil))) (fun w hH hp => tdfa_spec w b17 a k17 cp (l.take k17) hle17 (by omega) (hH.stays hrT17 (.cons (.there .here) .nil)) p23 h23p hp 2 (by omega) 4 (by omega))) ?_
 rintro ⟨D, bD, p25⟩ h25
 dsimp only at h25
 obtain ⟨⟨hDo, hDL, hDn⟩, h25p⟩ := h25
 refine Wl.know 25 (v' := dvv D) rfl rfl ?_
 have hDL2 : ((D.da.L : Nat) : Int) = 2 := hDo.L_eq.symm.trans hDL
 have hD5 : D.fin.length ≤ 512 := by omega
 have hoD : F.sq.Over D.da.L := by rw [hDL2]; exact hFv
 have hFD : F.sq.n * D.da.n ≤ 500 := Nat.le_trans (Nat.mul_le_mul (show F.sq.n ≤ 4 by omega) (show D.fin.length ≤ 4 by omega)) (by decide)
 refine Wl.g rfl rfl (OpG.alloc (zs := [.int .i64 0, .int .i64 0, .string ⟨#[]⟩, .slice none 0 0, .slice none 0 0, .slice none 0 0, .slice none 0 0]) zf84 rfl rfl) ?_
 rintro b7 _
 refine Wl.g rfl rfl (OpG.alloc (zs := [.int .i64 0, .int .i64 0, .slice none 0 0, .slice none 0 0]) zf37 rfl rfl) ?_
 rintro b8 _
 refine Wl.g rfl rfl (OpG.storeV (b := b7) zf79 rfl rfl rfl rfl (by repeat (first | exact Upd.here | apply Upd.there))) ?_
 rintro _ _
 refine Wl.g rfl rfl (OpG.storeV (b := b8) zf25 rfl rfl rfl rfl (by repeat (first | exact Upd.here | apply Upd.there))) ?_
 rintro _ _
 refine Wl.nil (PX.then_n (CT.seq (CT.region ?_)))
 refine Wl.q rfl rfl (OpQ.move rfl) ?_
 refine Wl.g rfl rfl (OpG.callX zf159 rfl .nil (fun _ => (.cons .nil)) (fun w hH hp => new_spec w a2 cp2 l2 hl2)) ?_
 rintro ⟨b27, k27⟩ h27
 dsimp only at h27
 obtain ⟨hk27, hk27m⟩ := h27
 have hrT27 : Stays [] w (fun w => Rd w a2 ((l2.take k27).map zi)) := Rd.stays (by rw [List.map_take]; exact hrl2.take _)
 have hle27 : (l2.take k27).length = k27 := by rw [List.length_take]; omega
 refine Wl.q rfl rfl (OpQ.move rfl) ?_
 refine Wl.g rfl rfl (OpG.callX zf148 rfl (.cons .here .nil) (fun _ => (.cons .nil)) (fun w hH hp => word_spec w b27 a2 k27 cp2 (l2.take k27) hle27 (by omega) (hH.stays hrT27 (.cons .here .nil)) 0 (Nat.zero_le _) hp (L : Int) 10 (by omega) (by omega))) ?_
 rintro ⟨ws, p29⟩ h29
 dsimp only at h29
 obtain ⟨⟨hwl, hwk⟩, h29p⟩ := h29
 refine Wl.know 29 (v' := sv ws) rfl rfl ?_
 have hin : InW F.sq.L (wl ws) := by rw [show F.sq.L = L from hFL]; exact wl_in hwk
 have hy : okW (apv (F.sq.value (wl ws))).1 2 = true := val_okW hFo hFv (by decide) hin (by rw [wl_len]; omega)
 refine Wl.q rfl rfl (OpQ.assign rfl) ?_
 refine Wl.nil (PX.then_n (CT.seq (CT.region ?_)))
 refine Wl.q rfl rfl (OpQ.loadV (b := b7) zf78 zf79 rfl (by repeat (first | exact Has.here | apply Has.there)) (by rfl)) ?_
 refine Wl.know 31 (v' := svv F) rfl rfl ?_
 refine Wl.q rfl rfl (OpQ.loadV (b := b8) zf24 zf25 rfl (by repeat (first | exact Has.here | apply Has.there)) (by rfl)) ?_
 refine Wl.know 32 (v' := dvv D) rfl rfl ?_
 refine Wl.g rfl rfl (OpG.callX zf162 rfl .nil (fun _ => (.cons .nil)) (fun w hH hp => inverse_spec w F (Stays.frag (hH.staysK0 (.there (.there (.there (.there (.there .here))))))) hF4 D (Stays.frag (hH.staysK0 (.there (.there (.there (.there .here)))))) hDo hD5 hoD hFD)) ?_
 rintro ⟨A, bA⟩ hA
 dsimp only at hA
 obtain ⟨hAo, hAn, hAI⟩ := hA
 have hAn2 : A.fin.length ≤ 501 := Nat.le_trans hAn (Nat.succ_le_succ hFD)
 have hAL : ((A.da.L : Nat) : Int) = L := by rw [hAI.letters]; exact congrArg (fun m : Nat => (m : Int)) hFL
 refine Wl.q rfl rfl (OpQ.move rfl) ?_
 refine Wl.q rfl rfl (OpQ.extract rfl rfl) ?_
 refine Wl.know 34 (v' := dvv A) rfl rfl ?_
 refine Wl.q rfl rfl (OpQ.extract rfl rfl) ?_
 refine Wl.know 35 (v' := .int .i64 ((0 : Nat) : Int)) rfl rfl ?_
 refine Wl.g rfl rfl (OpG.alloc (zs := [.int .i64 0, .int .i64 0, .slice none 0 0, .slice none 0 0]) zf37 rfl rfl) ?_
 rintro b10 _
 refine Wl.g rfl rfl (OpG.storeV (b := b10) zf25 rfl rfl rfl rfl (by repeat (first | exact Upd.here | apply Upd.there))) ?_
 rintro _ _
 refine Wl.q rfl rfl (OpQ.assign rfl) ?_
 refine Wl.nil (PX.then_n (CT.seq (CT.region ?_)))
 refine Wl.q rfl rfl (OpQ.loadV (b := b7) zf78 zf79 rfl (by repeat (first | exact Has.here | apply Has.there)) (by rfl)) ?_
 refine Wl.know 37 (v' := svv F) rfl rfl ?_
 refine Wl.q rfl rfl (OpQ.loadV (b := b8) zf24 zf25 rfl (by repeat (first | exact Has.here | apply Has.there)) (by rfl)) ?_
 refine Wl.know 38 (v' := dvv D) rfl rfl ?_
 refine Wl.g rfl rfl (OpG.callX zf163 rfl .nil (fun _ => (.cons .nil)) (fun w hH hp => inverseR_spec w F (Stays.frag (hH.staysK0 (.there (.there (.there (.there (.there (.there (.there .here))))))))) hF4 D (Stays.frag (hH.staysK0 (.there (.there (.there (.there (.there (.there .here)))))))) hDo hD5 hoD hFD)) ?_
 rintro ⟨B, bB⟩ hB
 dsimp only at hB
 obtain ⟨hBo, hBn, hBI⟩ := hB
 have hAB : A.da = B.da := hAI.unique hBI (Eqv.refl _ _ _)
 refine Wl.q rfl rfl (OpQ.move rfl) ?_
 refine Wl.q rfl rfl (OpQ.extract rfl rfl) ?_
 refine Wl.know 40 (v' := dvv B) rfl rfl ?_
 refine Wl.q rfl rfl (OpQ.extract rfl rfl) ?_
 refine Wl.know 41 (v' := .int .i64 ((0 : Nat) : Int)) rfl rfl ?_
 refine Wl.g rfl rfl (OpG.alloc (zs := [.int .i64 0, .int .i64 0, .slice none 0 0, .slice none 0 0]) zf37 rfl rfl) ?_
 rintro b12 _
 refine Wl.g rfl rfl (OpG.storeV (b := b12) zf25 rfl rfl rfl rfl (by repeat (first | exact Upd.here | apply Upd.there))) ?_
 rintro _ _
 refine Wl.q rfl rfl (OpQ.assign rfl) ?_
 refine Wl.nil (PX.then_n (CT.seq (CT.region ?_)))
 refine Wl.q rfl rfl (OpQ.loadV (b := b7) zf78 zf79 rfl (by repeat (first | exact Has.here | apply Has.there)) (by rfl)) ?_
 refine Wl.know 43 (v' := svv F) rfl rfl ?_
 refine Wl.q rfl rfl (OpQ.move rfl) ?_
 refine Wl.g rfl rfl (OpG.callV zf158 rfl (fun w hH => apply_spec w F (Stays.frag (hH.staysK0 (.there (.there (.there (.there (.there (.there (.there (.there (.there .here))))))))))) hF4 ws (by rw [hFL]; exact hwk))) ?_
 rintro _ _
 refine Wl.q rfl rfl (OpQ.move rfl) ?_
 refine Wl.q rfl rfl (OpQ.extract rfl rfl) ?_
 refine Wl.q rfl rfl (OpQ.extract rfl rfl) ?_
 refine Wl.q rfl rfl (OpQ.assign rfl) ?_
 refine Wl.q rfl rfl (OpQ.assign rfl) ?_
 refine Wl.nil (PX.then_n (CT.seq (CT.region ?_)))
 refine Wl.q rfl rfl (OpQ.move rfl) ?_
 refine Wl.q rfl rfl (OpQ.eql rfl rfl) ?_
 refine Wl.know 49 (v' := .bool true) rfl (congrArg Value.bool (by decide)) ?_
 refine Wl.q rfl rfl (OpQ.move rfl) ?_
 refine Wl.q rfl rfl (OpQ.move rfl) ?_
 refine Wl.q rfl rfl (OpQ.eql rfl rfl) ?_
 refine Wl.know 52 (v' := .bool true) rfl (congrArg Value.bool (by decide)) ?_
 refine Wl.q rfl rfl (OpQ.pickT rfl rfl) ?_
 refine Wl.q rfl rfl (OpQ.move rfl) ?_
 refine Wl.q rfl rfl (OpQ.loadV (b := b10) zf24 zf25 rfl (by repeat (first | exact Has.here | apply Has.there)) (by rfl)) ?_
 refine Wl.know 55 (v' := dvv A) rfl rfl ?_
 refine Wl.q rfl rfl (OpQ.loadV (b := b12) zf24 zf25 rfl (by repeat (first | exact Has.here | apply Has.there)) (by rfl)) ?_
 refine Wl.know 56 (v' := dvv B) rfl rfl ?_
 refine Wl.g rfl rfl (OpG.callV zf164 rfl (fun w hH => same_spec w A B (Stays.frag (hH.staysK0 (.there (.there (.there .here))))) (Stays.frag (hH.staysK0 (.there .here))) (by omega) (by have := hAo.len; omega) (fun q hq => by have := hAo.len; have := hAo.may; have := (hAo.row q (by omega)).1; omega))) ?_
 rintro _ _
 refine Wl.know 57 (v' := .bool true) rfl (congrArg Value.bool ((sameD_da hAo hBo).2 hAB)) ?_
 refine Wl.q rfl rfl (OpQ.pickT rfl rfl) ?_
 refine Wl.q rfl rfl (OpQ.move rfl) ?_
 refine Wl.q rfl rfl (OpQ.loadV (b := b10) zf24 zf25 rfl (by repeat (first | exact Has.here | apply Has.there)) (by rfl)) ?_
 refine Wl.know 60 (v' := dvv A) rfl rfl ?_
 refine Wl.q rfl rfl (OpQ.move rfl) ?_
 refine Wl.g rfl rfl (OpG.callV zf165 rfl (fun w hH => dacc_spec w A (Stays.frag (hH.staysK0 (.there (.there (.there .here))))) hAo (by omega) ws (by rw [hAo.L_eq, hAL]; exact hwk))) ?_
 rintro _ _
 refine Wl.know 62 (v' := .bool (invP F.sq D.da (wl ws))) rfl (congrArg Value.bool (lang_acc hAI hin)) ?_
 refine Wl.q rfl rfl (OpQ.move rfl) ?_
 refine Wl.q rfl rfl (OpQ.move rfl) ?_
 refine Wl.split 64 rfl (fun hg64 => ?_) (fun hg64 => ?_)
 ·
  have hPe : invP F.sq D.da (wl ws) = D.da.sy.acc D.da.s (wl (apv (F.sq.value (wl ws))).1) := by
   unfold invP
   cases e : F.sq.value (wl ws) with
   | none => rw [e] at hg64; cases hg64
   | some v => rfl
  refine Wl.q rfl rfl (OpQ.loadV (b := b8) zf24 zf25 rfl (by repeat (first | exact Has.here | apply Has.there)) (by rfl)) ?_
  refine Wl.know 65 (v' := dvv D) rfl rfl ?_
  refine Wl.q rfl rfl (OpQ.move rfl) ?_
  refine Wl.g rfl rfl (OpG.callV zf165 rfl (fun w hH => dacc_spec w D (Stays.frag (hH.staysK0 (.there (.there (.there (.there (.there (.there (.there (.there .here)))))))))) hDo hD5 (apv (F.sq.value (wl ws))).1 (by rw [hDL]; exact hy))) ?_
  rintro _ _
  refine Wl.q rfl rfl (OpQ.pickT rfl rfl) ?_
  refine Wl.q rfl rfl (OpQ.eqlB zf49 rfl rfl) ?_
  refine Wl.know 69 (v' := .bool true) rfl (congrArg Value.bool (by rw [hPe]; simp)) ?_
  refine Wl.q rfl rfl (OpQ.pickT rfl rfl) ?_
  refine Wl.q rfl rfl (OpQ.move rfl) ?_
  refine Wl.g rfl rfl (OpG.callV zf166 rfl (fun w hH => known_spec w)) ?_
  rintro _ _
  refine Wl.know 72 (v' := .bool true) rfl (congrArg Value.bool rfl) ?_
  refine Wl.q rfl rfl (OpQ.pickT rfl rfl) ?_
  refine Wl.q rfl rfl (OpQ.assign rfl) ?_
  refine Wl.nil (PX.then_n (CT.ret ?_))
  refine PX.ret1 rfl rfl (fun w' hH => ?_)
  exact ⟨rfl, hH.ext⟩
 ·
  have hPe : invP F.sq D.da (wl ws) = false := by
   unfold invP
   cases e : F.sq.value (wl ws) with
   | none => rfl
   | some v => rw [e] at hg64; cases hg64
  refine Wl.skip rfl rfl ?_
  refine Wl.skip rfl rfl ?_
  refine Wl.skip rfl rfl ?_
  refine Wl.q rfl rfl (OpQ.pickF rfl rfl) ?_
  refine Wl.q rfl rfl (OpQ.eqlB zf49 rfl rfl) ?_
  refine Wl.know 69 (v' := .bool true) rfl (congrArg Value.bool (by rw [hPe]; simp)) ?_
  refine Wl.q rfl rfl (OpQ.pickT rfl rfl) ?_
  refine Wl.q rfl rfl (OpQ.move rfl) ?_
  refine Wl.g rfl rfl (OpG.callV zf166 rfl (fun w hH => known_spec w)) ?_
  rintro _ _
  refine Wl.know 72 (v' := .bool true) rfl (congrArg Value.bool rfl) ?_
  refine Wl.q rfl rfl (OpQ.pickT rfl rfl) ?_
  refine Wl.q rfl rfl (OpQ.assign rfl) ?_
  refine Wl.nil (PX.then_n (CT.ret ?_))
  refine PX.ret1 rfl rfl (fun w' hH => ?_)
  exact ⟨rfl, hH.ext⟩

end Go.Proofs.Ytamolakhpcofhaa

