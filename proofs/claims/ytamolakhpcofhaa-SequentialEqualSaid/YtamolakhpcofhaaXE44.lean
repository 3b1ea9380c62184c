/-
  What functions of the program compute, each by its walk. Conditions: those that each theorem names.
-/
import Derived.Test.YtamolakhpcofhaaMod1
import Derived.Test.YtamolakhpcofhaaXE43
import Derived.Test.YtamolakhpcofhaaXE10
import Derived.Test.YtamolakhpcofhaaXF
set_option linter.unusedSimpArgs false
namespace Go.Proofs.Ytamolakhpcofhaa
open Go Go.Eng Go.Am Go.Sq
open Go.Tp (zi)
open Go.Tl (mayL Wd okW okB bo)

set_option maxRecDepth 100000 in
set_option maxHeartbeats 1000000 in
/-- semigroup/sequential.Equal -/
theorem equal_spec (w : World) {M : Nat} (S S2 : Sv) (hS : Stays [] w (svm S)) (hv : S.sq.Ok M) (hS2 : Stays [] w (svm S2)) (hv2 : S2.sq.Ok M) (hLL : S.L = S2.L) (hM4 : M ≤ 4096) (hMn1 : (S.sq.n + 1) * M ≤ 4096) (hMn2 : (S2.sq.n + 1) * M ≤ 4096) (h200 : ∀ g, IsNorm S.sq g → g.n ≤ 200) (h201 : ∀ g, IsNorm S2.sq g → g.n ≤ 200) : Calls Try.prog 22 #[svv S, svv S2] w (fun e w' => ∃ o : Wd × Bool, Dif S.sq S2.sq (3 * (S.sq.n + S2.sq.n) + 1) o ∧ e = .returned (.tuple #[sv o.1, .bool (!o.2), .int .i64 0]) ∧ Ext [] w w') := by
 refine enter (args := [svv S, svv S2]) [] 56 Try.func22 rfl rfl rfl ?_
 refine CT.seq (CT.region ?_)
 refine Wl.g rfl rfl (OpG.box (size := 7) rfl rfl rfl) ?_
 rintro b2 _
 refine Wl.g rfl rfl (OpG.box (size := 7) rfl rfl rfl) ?_
 rintro b3 _
 refine Wl.q rfl rfl (OpQ.assign rfl) ?_
 refine Wl.q rfl rfl (OpQ.assign rfl) ?_
 refine Wl.q rfl rfl (OpQ.assign rfl) ?_
 refine Wl.nil (PX.then_n (CT.seq (CT.seq (CT.region ?_))))
 refine Wl.q rfl rfl (OpQ.loadV (b := b2) zf29 zf28 rfl (by repeat (first | exact Has.here | apply Has.there)) (by rfl)) ?_
 refine Wl.know 14 (v' := svv S) rfl rfl ?_
 refine Wl.g rfl rfl (OpG.callV zf77 rfl (fun w hH => svalid_spec w S (hH.stays0 hS) (hv.mono hM4))) ?_
 rintro _ _
 refine Wl.q rfl rfl (OpQ.assign rfl) ?_
 refine Wl.nil (PX.then_n (CT.seq (CT.region ?_)))
 refine Wl.q rfl rfl (OpQ.move rfl) ?_
 refine Wl.q rfl rfl (OpQ.neq rfl rfl) ?_
 refine Wl.know 17 (v' := .bool false) rfl (congrArg Value.bool (by decide)) ?_
 refine Wl.nil (PX.then_n ?_)
 refine CT.condF rfl ?_
 refine CT.skip (PX.then_n (CT.seq (CT.seq (CT.region ?_))))
 refine Wl.q rfl rfl (OpQ.loadV (b := b3) zf29 zf28 rfl (by repeat (first | exact Has.here | apply Has.there)) (by rfl)) ?_
 refine Wl.know 19 (v' := svv S2) rfl rfl ?_
 refine Wl.g rfl rfl (OpG.callV zf77 rfl (fun w hH => svalid_spec w S2 (hH.stays0 hS2) (hv2.mono hM4))) ?_
 rintro _ _
 refine Wl.q rfl rfl (OpQ.assign rfl) ?_
 refine Wl.nil (PX.then_n (CT.seq (CT.region ?_)))
 refine Wl.q rfl rfl (OpQ.move rfl) ?_
 refine Wl.q rfl rfl (OpQ.neq rfl rfl) ?_
 refine Wl.know 22 (v' := .bool false) rfl (congrArg Value.bool (by decide)) ?_
 refine Wl.nil (PX.then_n ?_)
 refine CT.condF rfl ?_
 refine CT.skip (PX.then_n (CT.seq (CT.seq (CT.region ?_))))
 refine Wl.q rfl rfl (OpQ.fieldAddr zf33 rfl) ?_
 refine Wl.q rfl rfl (OpQ.loadF (b := b2) zf8 rfl (by repeat (first | exact Has.here | apply Has.there)) (by rfl)) ?_
 refine Wl.q rfl rfl (OpQ.fieldAddr zf33 rfl) ?_
 refine Wl.q rfl rfl (OpQ.loadF (b := b3) zf8 rfl (by repeat (first | exact Has.here | apply Has.there)) (by rfl)) ?_
 refine Wl.q rfl rfl (OpQ.neq rfl rfl) ?_
 refine Wl.know 28 (v' := .bool false) rfl (congrArg Value.bool (by rw [hLL]; simp)) ?_
 refine Wl.nil (PX.then_n ?_)
 refine CT.condF rfl ?_
 refine CT.skip (PX.then_n (CT.seq (CT.region ?_)))
 refine Wl.q rfl rfl (OpQ.loadV (b := b2) zf29 zf28 rfl (by repeat (first | exact Has.here | apply Has.there)) (by rfl)) ?_
 refine Wl.know 30 (v' := svv S) rfl rfl ?_
 refine Wl.g rfl rfl (OpG.callX zf136 rfl .nil (fun _ => (App.of _ _)) (fun w hH hp => normal_spec w S (hH.stays0 hS) hv hM4 hMn1)) ?_
 rintro G hG
 obtain ⟨hGN, hGM⟩ := hG
 have hGo := hGM.mono hMn1
 refine Wl.as (fun _ h => HOk.bindL (L := svH G 3 22 4 9 28) (p := svm G) h (fun w hk => svm_of hk)) ?_
 generalize blks _ = fG
 refine Wl.q rfl rfl (OpQ.move rfl) ?_
 refine Wl.q rfl rfl (OpQ.extract rfl rfl) ?_
 refine Wl.know 32 (v' := svv G) rfl rfl ?_
 refine Wl.q rfl rfl (OpQ.extract rfl rfl) ?_
 refine Wl.g rfl rfl (OpG.alloc (zs := [.int .i64 0, .int .i64 0, .string ⟨#[]⟩, .slice none 0 0, .slice none 0 0, .slice none 0 0, .slice none 0 0]) zf19 rfl rfl) ?_
 rintro b9 _
 refine Wl.g rfl rfl (OpG.storeV (b := b9) zf28 rfl rfl rfl rfl (by repeat (first | exact Upd.here | apply Upd.there))) ?_
 rintro _ _
 refine Wl.q rfl rfl (OpQ.assign rfl) ?_
 refine Wl.nil (PX.then_n (CT.seq (CT.seq (CT.region ?_))))
 refine Wl.q rfl rfl (OpQ.move rfl) ?_
 refine Wl.q rfl rfl (OpQ.neq rfl rfl) ?_
 refine Wl.know 35 (v' := .bool false) rfl (congrArg Value.bool (by decide)) ?_
 refine Wl.nil (PX.then_n ?_)
 refine CT.condF rfl ?_
 refine CT.skip (PX.then_n (CT.seq (CT.region ?_)))
 refine Wl.q rfl rfl (OpQ.loadV (b := b3) zf29 zf28 rfl (by repeat (first | exact Has.here | apply Has.there)) (by rfl)) ?_
 refine Wl.know 38 (v' := svv S2) rfl rfl ?_
 refine Wl.g rfl rfl (OpG.callX zf136 rfl .nil (fun _ => (App.of _ _)) (fun w hH hp => normal_spec w S2 (hH.stays0 hS2) hv2 hM4 hMn2)) ?_
 rintro K hK
 obtain ⟨hKN, hKM⟩ := hK
 have hKo := hKM.mono hMn2
 refine Wl.as (fun _ h => HOk.bindL (L := svH K 3 22 4 9 28) (p := svm K) h (fun w hk => svm_of hk)) ?_
 generalize blks _ = fK
 refine Wl.q rfl rfl (OpQ.move rfl) ?_
 refine Wl.q rfl rfl (OpQ.extract rfl rfl) ?_
 refine Wl.know 40 (v' := svv K) rfl rfl ?_
 refine Wl.q rfl rfl (OpQ.extract rfl rfl) ?_
 refine Wl.g rfl rfl (OpG.alloc (zs := [.int .i64 0, .int .i64 0, .string ⟨#[]⟩, .slice none 0 0, .slice none 0 0, .slice none 0 0, .slice none 0 0]) zf19 rfl rfl) ?_
 rintro b11 _
 refine Wl.g rfl rfl (OpG.storeV (b := b11) zf28 rfl rfl rfl rfl (by repeat (first | exact Upd.here | apply Upd.there))) ?_
 rintro _ _
 refine Wl.q rfl rfl (OpQ.assign rfl) ?_
 refine Wl.nil (PX.then_n (CT.seq (CT.seq (CT.region ?_))))
 refine Wl.q rfl rfl (OpQ.move rfl) ?_
 refine Wl.q rfl rfl (OpQ.neq rfl rfl) ?_
 refine Wl.know 43 (v' := .bool false) rfl (congrArg Value.bool (by decide)) ?_
 refine Wl.nil (PX.then_n ?_)
 refine CT.condF rfl ?_
 refine CT.skip (PX.then_n (CT.seq ?_))
 refine CT.draw' (Hc := [.row 30 7 (vb b11) 1 (svc K), .row 30 7 (vb b9) 1 (svc G)]) 10 zf6 ?_
 refine RA.q 0 (by kernel_rfl) rfl rfl rfl (.cons_cons _ (.cons _ (.cons_cons _ (.cons _ (.cons _ (.cons _ (.refl _))))))) (OpQ.loadV (b := b9) zf29 zf28 rfl (by repeat (first | exact Has.here | apply Has.there)) (by rfl)) ?_
 refine RA.know 46 (v' := svv G) rfl rfl ?_
 refine RA.q 2 (by kernel_rfl) rfl rfl rfl (.cons_cons _ (.cons _ (.cons_cons _ (.cons _ (.cons _ (.cons _ (.refl _))))))) (OpQ.loadV (b := b11) zf29 zf28 rfl (by repeat (first | exact Has.here | apply Has.there)) (by rfl)) ?_
 refine RA.know 48 (v' := svv K) rfl rfl ?_
 refine RA.f 1 (by kernel_rfl) rfl rfl rfl (OpG.callX zf137 rfl .nil (fun _ => (.cons (.cons (.cons .nil)))) (fun w hH hp => newSide_spec w G (Stays.frag (hH.staysK0 (.there (.there (.there .here))))) hGo)) (fun _ _ => (.cons _ (.cons _ (.cons _ (.cons_cons _ (.cons _ (.cons_cons _ (.cons _ (.cons _ (.cons _ (.refl _))))))))))) ?_
 rintro ⟨s47, x47, y47, F47, δ47⟩ hf47
 dsimp only at hf47
 refine RA.f 3 (by kernel_rfl) rfl rfl rfl (OpG.callX zf137 rfl .nil (fun _ => (.cons (.cons (.cons .nil)))) (fun w hH hp => newSide_spec w K (Stays.frag (hH.staysK0 (.there (.there (.there (.there .here)))))) hKo)) (fun _ _ => (.cons _ (.cons _ (.cons _ (.cons _ (.cons _ (.cons _ (.cons_cons _ (.cons _ (.cons_cons _ (.cons _ (.cons _ (.cons _ (.refl _)))))))))))))) ?_
 rintro ⟨s49, x49, y49, F49, δ49⟩ hf49
 dsimp only at hf49
 refine RA.f 4 (by kernel_rfl) rfl rfl rfl (OpG.call zf138 rfl (fun w hH => (difference_spec w G K (Stays.frag (hH.staysK0 (.there (.there (.there (.there (.there (.there (.there (.there (.there .here))))))))))) hGo (Stays.frag (hH.staysK0 (.there (.there (.there (.there (.there (.there (.there .here))))))))) hKo s47 F47 _ _ _ _ (Stays.rd (hH.staysK0 (.there (.there (.there .here))))) (Stays.rd (hH.staysK0 (.there (.there (.there (.there .here)))))) (Stays.rd (hH.staysK0 (.there (.there (.there (.there (.there .here))))))) δ47 hf47 s49 F49 _ _ _ _ (Stays.rd (hH.staysK0 .here)) (Stays.rd (hH.staysK0 (.there .here))) (Stays.rd (hH.staysK0 (.there (.there .here)))) δ49 hf49 (hGN.L_eq.trans (hLL.trans hKN.L_eq.symm)) hGN.nf' hKN.nf' (h200 G.sq hGN) (h201 K.sq hKN)).mono fun e w' ⟨ws, h1, h2, h3⟩ => ⟨ws, h1, h2, hH.ext_nil h3⟩)) (fun _ _ => (.cons _ (.cons _ (.cons _ (.cons _ (.cons _ (.cons _ (.cons_cons _ (.cons _ (.cons_cons _ (.cons _ (.cons _ (.cons _ (.refl _)))))))))))))) ?_
 rintro o50 ho
 refine RA.q 5 (by kernel_rfl) rfl rfl rfl (.cons _ (.cons _ (.cons _ (.cons _ (.cons _ (.cons _ (.cons_cons _ (.cons _ (.cons_cons _ (.cons _ (.cons _ (.cons _ (.refl _))))))))))))) (OpQ.move rfl) ?_
 refine RA.q 6 (by kernel_rfl) rfl rfl rfl (.cons _ (.cons _ (.cons _ (.cons _ (.cons _ (.cons _ (.cons_cons _ (.cons _ (.cons_cons _ (.cons _ (.cons _ (.cons _ (.refl _))))))))))))) (OpQ.extract rfl rfl) ?_
 refine RA.q 7 (by kernel_rfl) rfl rfl rfl (.cons _ (.cons _ (.cons _ (.cons _ (.cons _ (.cons _ (.cons_cons _ (.cons _ (.cons_cons _ (.cons _ (.cons _ (.cons _ (.refl _))))))))))))) (OpQ.extract rfl rfl) ?_
 refine RA.q 8 (by kernel_rfl) rfl rfl rfl (.cons _ (.cons _ (.cons _ (.cons _ (.cons _ (.cons _ (.cons_cons _ (.cons _ (.cons_cons _ (.cons _ (.cons _ (.cons _ (.refl _))))))))))))) (OpQ.assign rfl) ?_
 refine RA.q 9 (by kernel_rfl) rfl rfl rfl (.cons _ (.cons _ (.cons _ (.cons _ (.cons _ (.cons _ (.cons_cons _ (.cons _ (.cons_cons _ (.cons _ (.cons _ (.cons _ (.refl _))))))))))))) (OpQ.assign rfl) ?_
 refine RA.tail ?_
 refine RT.done (by kernel_rfl) ?_
 refine PX.then_n (CT.seq (CT.region ?_))
 refine Wl.q rfl rfl (OpQ.move rfl) ?_
 refine Wl.q rfl rfl (OpQ.move rfl) ?_
 refine Wl.q rfl rfl (OpQ.not rfl) ?_
 refine Wl.q rfl rfl (OpQ.assign rfl) ?_
 refine Wl.q rfl rfl (OpQ.assign rfl) ?_
 refine Wl.q rfl rfl (OpQ.assign rfl) ?_
 refine Wl.nil (PX.then_n (CT.ret ?_))
 refine PX.ret3 rfl rfl rfl rfl (fun w' hH => ?_)
 have hgn := hGN.n_le hv
 have hkn := hKN.n_le hv2
 exact ⟨o50, ho.congr (by omega) hGN.L_eq (fun w hw => hGN.value hw) (fun w hw => hKN.value (show InW S2.L w from hLL ▸ hw)), rfl, hH.ext⟩

end Go.Proofs.Ytamolakhpcofhaa

