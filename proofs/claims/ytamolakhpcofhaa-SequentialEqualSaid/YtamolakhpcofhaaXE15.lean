/-
  What functions of the program compute, each by its walk. Conditions: those that each theorem names.
-/
import Derived.Test.YtamolakhpcofhaaXE10
import Derived.Test.YtamolakhpcofhaaXE6
import Derived.Test.YtamolakhpcofhaaMod1
import Derived.Test.YtamolakhpcofhaaXF
set_option linter.unusedSimpArgs false
namespace Go.Proofs.Ytamolakhpcofhaa
open Go Go.Eng Go.Am Go.Sq
open Go.Tl (mayL Wd okW okB bo)

set_option maxRecDepth 100000 in
/-- semigroup/semigrouplaw42.known -/
theorem known_spec (w : World)  : Calls Try.prog 15 #[] w (fun e w' => e = .returned (.bool true) ∧ Ext [] w w') := by
 refine enter (args := []) [] 59 Try.func15 rfl rfl rfl ?_
 refine CT.seq (CT.region ?_)
 refine Wl.q rfl rfl (OpQ.assign rfl) ?_
 refine Wl.nil (PX.then_n (CT.seq (CT.region ?_)))
 refine Wl.g rfl rfl (OpG.lit1 zf0 zf16 rfl rfl rfl) ?_
 rintro b6 _
 refine Wl.g rfl rfl (OpG.lit1 zf21 zf22 rfl rfl rfl) ?_
 rintro b7 _
 refine Wl.g rfl rfl (OpG.lit1 zf17 zf18 rfl rfl rfl) ?_
 rintro b8 _
 refine Wl.g rfl rfl (OpG.lit1 zf23 zf24 rfl rfl rfl) ?_
 rintro b9 _
 refine Wl.g rfl rfl (OpG.lit1 zf25 zf26 rfl rfl rfl) ?_
 rintro b10 _
 refine Wl.g rfl rfl (OpG.lit1 zf17 zf18 rfl rfl rfl) ?_
 rintro b11 _
 refine Wl.q rfl rfl (OpQ.build (cells := #[zn 1, .int .i64 0, .string ⟨#[]⟩, .slice (some ⟨b7, 0, none⟩) 1 1, .slice (some ⟨b9, 0, none⟩) 1 1, .slice (some ⟨b10, 0, none⟩) 1 1, .slice (some ⟨b11, 0, none⟩) 1 1]) zf27 rfl rfl) ?_
 refine Wl.g rfl rfl (OpG.alloc (zs := [.int .i64 0, .int .i64 0, .string ⟨#[]⟩, .slice none 0 0, .slice none 0 0, .slice none 0 0, .slice none 0 0]) zf19 rfl rfl) ?_
 rintro b1 _
 refine Wl.g rfl rfl (OpG.storeV (b := b1) zf28 rfl rfl rfl rfl (by repeat (first | exact Upd.here | apply Upd.there))) ?_
 rintro _ _
 refine Wl.nil (PX.then_n (CT.seq (CT.region ?_)))
 refine Wl.as (fun _ h => HOk.bindR (A := [.row 30 7 (vb b1) 1 (svc (⟨1, 0, [], some ⟨b7, 0, none⟩, 1, [⟨some ⟨b6, 0, none⟩, 1, [some 0]⟩], some ⟨b9, 0, none⟩, 1, [⟨some ⟨b8, 0, none⟩, 1, [[98]]⟩], some ⟨b10, 0, none⟩, 1, [true], some ⟨b11, 0, none⟩, 1, [[98]]⟩ : Sv))]) (L := svH (⟨1, 0, [], some ⟨b7, 0, none⟩, 1, [⟨some ⟨b6, 0, none⟩, 1, [some 0]⟩], some ⟨b9, 0, none⟩, 1, [⟨some ⟨b8, 0, none⟩, 1, [[98]]⟩], some ⟨b10, 0, none⟩, 1, [true], some ⟨b11, 0, none⟩, 1, [[98]]⟩ : Sv) 3 22 4 9 28) (p := svm (⟨1, 0, [], some ⟨b7, 0, none⟩, 1, [⟨some ⟨b6, 0, none⟩, 1, [some 0]⟩], some ⟨b9, 0, none⟩, 1, [⟨some ⟨b8, 0, none⟩, 1, [[98]]⟩], some ⟨b10, 0, none⟩, 1, [true], some ⟨b11, 0, none⟩, 1, [[98]]⟩ : Sv)) (h.take (.cons .here (.cons (.there (.there (.there (.there .here)))) (.cons (.there (.there .here)) (.cons (.there .here) (.cons .here (.cons (.there .here) (.cons .here .nil)))))))) (fun w hk => svm_of hk)) ?_
 generalize blks _ = bk
 refine Wl.q rfl rfl (OpQ.loadV (b := b1) zf29 zf28 rfl (by repeat (first | exact Has.here | apply Has.there)) (by rfl)) ?_
 refine Wl.know 14 (v' := svv (⟨1, 0, [], some ⟨b7, 0, none⟩, 1, [⟨some ⟨b6, 0, none⟩, 1, [some 0]⟩], some ⟨b9, 0, none⟩, 1, [⟨some ⟨b8, 0, none⟩, 1, [[98]]⟩], some ⟨b10, 0, none⟩, 1, [true], some ⟨b11, 0, none⟩, 1, [[98]]⟩ : Sv)) rfl rfl ?_
 refine Wl.g rfl rfl (OpG.callX zf136 rfl .nil (fun _ => (App.of _ _)) (fun w hH hp => normal_spec w (M := 1) (⟨1, 0, [], some ⟨b7, 0, none⟩, 1, [⟨some ⟨b6, 0, none⟩, 1, [some 0]⟩], some ⟨b9, 0, none⟩, 1, [⟨some ⟨b8, 0, none⟩, 1, [[98]]⟩], some ⟨b10, 0, none⟩, 1, [true], some ⟨b11, 0, none⟩, 1, [[98]]⟩ : Sv) (Stays.frag (hH.staysK0 .here)) kn_ok (by decide) (show (1 + 1) * 1 ≤ 4096 by decide))) ?_
 rintro G hG
 obtain ⟨hGN, hGo⟩ := hG
 have hGq : G.sq = ⟨1, 0, [98], [true], [[]], [[some 0]], [[[98]]]⟩ := kn_norm hGN
 have hGi : G.init = [98] := congrArg Sq.init hGq
 have hGf : G.fi = [[]] := congrArg Sq.fi hGq
 have hGl := hGo.lens
 have hGr : G.rs.length = 1 := by have := congrArg Sq.n hGq; rw [G.n_eq] at this; exact this
 have hGu : (G.os.getD 0 rx0).xs = [[98]] := by have := congrArg (fun d : Sq => d.ou.getD 0 []) hGq; rw [show G.sq.ou.getD 0 [] = (G.os.getD 0 rx0).xs from rx_getD _ _] at this; exact this
 refine Wl.as (fun _ h => HOk.bindR (A := [.frag bk (svm (⟨1, 0, [], some ⟨b7, 0, none⟩, 1, [⟨some ⟨b6, 0, none⟩, 1, [some 0]⟩], some ⟨b9, 0, none⟩, 1, [⟨some ⟨b8, 0, none⟩, 1, [[98]]⟩], some ⟨b10, 0, none⟩, 1, [true], some ⟨b11, 0, none⟩, 1, [[98]]⟩ : Sv)), .row 30 7 (vb b1) 1 (svc (⟨1, 0, [], some ⟨b7, 0, none⟩, 1, [⟨some ⟨b6, 0, none⟩, 1, [some 0]⟩], some ⟨b9, 0, none⟩, 1, [⟨some ⟨b8, 0, none⟩, 1, [[98]]⟩], some ⟨b10, 0, none⟩, 1, [true], some ⟨b11, 0, none⟩, 1, [[98]]⟩ : Sv))]) (L := svH G 3 22 4 9 28) (p := svm G) (HOk.swap (A := svH G 3 22 4 9 28) h) (fun w hk => svm_of hk)) ?_
 generalize blks _ = bg
 refine Wl.fact (p := Nn G) (fun w hH => svm.nn (hH.fragp .here)) (fun gnn => ?_)
 refine Wl.q rfl rfl (OpQ.move rfl) ?_
 refine Wl.q rfl rfl (OpQ.extract rfl rfl) ?_
 refine Wl.know 16 (v' := svv G) rfl rfl ?_
 refine Wl.q rfl rfl (OpQ.extract rfl rfl) ?_
 refine Wl.know 17 (v' := .int .i64 ((0 : Nat) : Int)) rfl rfl ?_
 refine Wl.g rfl rfl (OpG.alloc (zs := [.int .i64 0, .int .i64 0, .string ⟨#[]⟩, .slice none 0 0, .slice none 0 0, .slice none 0 0, .slice none 0 0]) zf19 rfl rfl) ?_
 rintro b2 _
 refine Wl.g rfl rfl (OpG.storeV (b := b2) zf28 rfl rfl rfl rfl (by repeat (first | exact Upd.here | apply Upd.there))) ?_
 rintro _ _
 refine Wl.q rfl rfl (OpQ.assign rfl) ?_
 refine Wl.nil (PX.then_n (CT.seq (CT.region ?_)))
 refine Wl.q rfl rfl (OpQ.loadV (b := b1) zf29 zf28 rfl (by repeat (first | exact Has.here | apply Has.there)) (by rfl)) ?_
 refine Wl.know 19 (v' := svv (⟨1, 0, [], some ⟨b7, 0, none⟩, 1, [⟨some ⟨b6, 0, none⟩, 1, [some 0]⟩], some ⟨b9, 0, none⟩, 1, [⟨some ⟨b8, 0, none⟩, 1, [[98]]⟩], some ⟨b10, 0, none⟩, 1, [true], some ⟨b11, 0, none⟩, 1, [[98]]⟩ : Sv)) rfl rfl ?_
 refine Wl.g rfl rfl (OpG.callV zf141 rfl (fun w hH => apply_spec w (⟨1, 0, [], some ⟨b7, 0, none⟩, 1, [⟨some ⟨b6, 0, none⟩, 1, [some 0]⟩], some ⟨b9, 0, none⟩, 1, [⟨some ⟨b8, 0, none⟩, 1, [[98]]⟩], some ⟨b10, 0, none⟩, 1, [true], some ⟨b11, 0, none⟩, 1, [[98]]⟩ : Sv) (Stays.frag (hH.staysK0 (.there (.there .here)))) (kn_ok.mono (by decide)) [97, 97] (show okW [97, 97] 1 = true by decide))) ?_
 rintro _ _
 refine Wl.q rfl rfl (OpQ.move rfl) ?_
 refine Wl.q rfl rfl (OpQ.extract rfl rfl) ?_
 refine Wl.know 21 (v' := sv [98, 98, 98]) rfl rfl ?_
 refine Wl.q rfl rfl (OpQ.extract rfl rfl) ?_
 refine Wl.know 22 (v' := .bool true) rfl rfl ?_
 refine Wl.q rfl rfl (OpQ.assign rfl) ?_
 refine Wl.q rfl rfl (OpQ.assign rfl) ?_
 refine Wl.nil (PX.then_n (CT.seq (CT.region ?_)))
 refine Wl.q rfl rfl (OpQ.move rfl) ?_
 refine Wl.q rfl rfl (OpQ.eql rfl rfl) ?_
 refine Wl.know 24 (v' := .bool true) rfl (congrArg Value.bool (by decide)) ?_
 refine Wl.q rfl rfl (OpQ.move rfl) ?_
 refine Wl.q rfl rfl (OpQ.fieldAddr zf47 rfl) ?_
 refine Wl.q rfl rfl (OpQ.loadF (b := b2) zf39 rfl (by repeat (first | exact Has.here | apply Has.there)) (by rfl)) ?_
 refine Wl.q rfl rfl (OpQ.eqlS rfl rfl) ?_
 refine Wl.know 28 (v' := .bool true) rfl (congrArg Value.bool (by rw [hGi]; rfl)) ?_
 refine Wl.q rfl rfl (OpQ.pickT rfl rfl) ?_
 refine Wl.q rfl rfl (OpQ.move rfl) ?_
 refine Wl.q rfl rfl (OpQ.fieldAddr zf34 rfl) ?_
 refine Wl.q rfl rfl (OpQ.loadF (b := b2) zf35 rfl (by repeat (first | exact Has.here | apply Has.there)) (by rfl)) ?_
 refine Wl.q rfl rfl (OpQ.len zf23 rfl) ?_
 refine Wl.q rfl rfl (OpQ.eql rfl rfl) ?_
 refine Wl.know 34 (v' := .bool true) rfl (congrArg Value.bool (decide_eq_true (by omega))) ?_
 refine Wl.q rfl rfl (OpQ.pickT rfl rfl) ?_
 refine Wl.q rfl rfl (OpQ.move rfl) ?_
 refine Wl.q rfl rfl (OpQ.fieldAddr zf34 rfl) ?_
 refine Wl.q rfl rfl (OpQ.loadF (b := b2) zf35 rfl (by repeat (first | exact Has.here | apply Has.there)) (by rfl)) ?_
 refine Wl.q rfl rfl (OpQ.index1 zf23 zf36 rfl rfl (by omega) (gnn.o (by omega))) ?_
 refine Wl.q rfl rfl (OpQ.loadG zf37 rfl (fun w hH => (hH.fragp (.there .here)).o) (getMap rxv G.os rx0 (j := 0) (by omega))) ?_
 refine Wl.q rfl rfl (OpQ.index1 zf17 zf38 rfl rfl (by rw [hGu]; decide) (gnn.u 0 (by omega) (by rw [hGu]; decide))) ?_
 refine Wl.q rfl rfl (OpQ.loadG zf39 rfl (fun w hH => (hH.fragp (.there .here)).u _ (getDm (d := rx0) (show 0 < G.os.length by omega))) (getMap sv (G.os.getD 0 rx0).xs [] (j := 0) (by rw [hGu]; decide))) ?_
 refine Wl.q rfl rfl (OpQ.eqlS rfl rfl) ?_
 refine Wl.know 43 (v' := .bool true) rfl (congrArg Value.bool (by rw [hGu]; rfl)) ?_
 refine Wl.q rfl rfl (OpQ.pickT rfl rfl) ?_
 refine Wl.q rfl rfl (OpQ.move rfl) ?_
 refine Wl.q rfl rfl (OpQ.fieldAddr zf41 rfl) ?_
 refine Wl.q rfl rfl (OpQ.loadF (b := b2) zf37 rfl (by repeat (first | exact Has.here | apply Has.there)) (by rfl)) ?_
 refine Wl.q rfl rfl (OpQ.index1 zf17 zf38 rfl rfl (by omega) (gnn.f (by omega))) ?_
 refine Wl.q rfl rfl (OpQ.loadG zf39 rfl (fun w hH => (hH.fragp (.there .here)).f) (getMap sv G.fi [] (j := 0) (by omega))) ?_
 refine Wl.q rfl rfl (OpQ.eqlS rfl rfl) ?_
 refine Wl.know 50 (v' := .bool true) rfl (congrArg Value.bool (by rw [hGf]; rfl)) ?_
 refine Wl.q rfl rfl (OpQ.pickT rfl rfl) ?_
 refine Wl.q rfl rfl (OpQ.move rfl) ?_
 refine Wl.q rfl rfl (OpQ.move rfl) ?_
 refine Wl.q rfl rfl (OpQ.pickT rfl rfl) ?_
 refine Wl.know 54 (v' := .bool true) rfl (congrArg Value.bool rfl) ?_
 refine Wl.q rfl rfl (OpQ.move rfl) ?_
 refine Wl.q rfl rfl (OpQ.move rfl) ?_
 refine Wl.q rfl rfl (OpQ.eqlS rfl rfl) ?_
 refine Wl.know 57 (v' := .bool true) rfl (congrArg Value.bool (by decide)) ?_
 refine Wl.q rfl rfl (OpQ.pickT rfl rfl) ?_
 refine Wl.q rfl rfl (OpQ.assign rfl) ?_
 refine Wl.nil (PX.then_n (CT.ret ?_))
 refine PX.ret1 rfl rfl (fun w' hH => ?_)
 exact ⟨rfl, hH.ext⟩

end Go.Proofs.Ytamolakhpcofhaa

