/-
  What functions of the program compute, each by its walk. Conditions: those that each theorem names.
-/
import Derived.Test.YtamolakhpcofhaaXE4
import Derived.Test.YtamolakhpcofhaaEng1
import Derived.Test.YtamolakhpcofhaaMod1
import Derived.Test.YtamolakhpcofhaaXF
set_option linter.unusedSimpArgs false
namespace Go.Proofs.Ytamolakhpcofhaa
open Go Go.Eng Go.Am Go.Sq
open Go.Tl (mayL Wd okW okB bo)

set_option maxRecDepth 100000 in
/-- semigroup/semigroupref01.Same -/
theorem same01_spec (w : World) (a : Option Addr) (ac : Nat) (l : List Wd) (hra : Stays [] w (fun w => Rd w a (l.map sv))) (hna : l.length ≤ 100000) (b : Option Addr) (bc : Nat) (m : List Wd) (hrb : Stays [] w (fun w => Rd w b (m.map sv))) : Calls Try.prog 38 #[.slice a l.length ac, .slice b m.length bc] w (fun e w' => e = .returned (.bool (decide (l = m))) ∧ Ext [] w w') := by
 have hsa : 0 < l.length → a.isSome = true := fun h => hra.now.isSome (j := 0) (by rw [List.length_map]; exact h)
 have hsb : 0 < m.length → b.isSome = true := fun h => hrb.now.isSome (j := 0) (by rw [List.length_map]; exact h)
 refine enter (args := [.slice a l.length ac, .slice b m.length bc]) [] 26 Try.func38 rfl rfl rfl ?_
 refine CT.seq (CT.region ?_)
 refine Wl.q rfl rfl (OpQ.assign rfl) ?_
 refine Wl.nil (PX.then_n (CT.seq (CT.seq (CT.region ?_))))
 refine Wl.q rfl rfl (OpQ.move rfl) ?_
 refine Wl.q rfl rfl (OpQ.len zf17 rfl) ?_
 refine Wl.q rfl rfl (OpQ.move rfl) ?_
 refine Wl.q rfl rfl (OpQ.len zf17 rfl) ?_
 refine Wl.q rfl rfl (OpQ.neq rfl rfl) ?_
 refine Wl.nil (PX.then_n ?_)
 refine CT.cond rfl (fun h10 => ?_) (fun h10 => ?_)
 ·
  have h10 := of_nd_t h10
  refine CT.seq (CT.region ?_)
  refine Wl.q rfl rfl (OpQ.assign rfl) ?_
  refine Wl.nil (PX.then_n (CT.ret (PX.then_r ?_)))
  refine PX.ret1 rfl rfl (fun w' hH => ?_)
  exact ⟨congrArg (fun b => Ending.returned (.bool b)) (decide_eq_false fun hh => h10 (by rw [hh])).symm, hH.ext⟩
 ·
  have h10 := of_nd_f h10
  refine CT.skip (PX.then_n (CT.seq (CT.seq (CT.region ?_))))
  refine Wl.q rfl rfl (OpQ.move rfl) ?_
  refine Wl.q rfl rfl (OpQ.len zf17 rfl) ?_
  refine Wl.q rfl rfl (OpQ.move rfl) ?_
  refine Wl.nil (PX.then_n (CT.block ?_))
  refine CT.loop (ι := Nat) (fun i => i ≤ l.length ∧ ∀ q, q < i → l.getD q [] = m.getD q []) (fun i => [(0, .slice a l.length ac), (1, .slice b m.length bc), (12, .int .i64 ((l.length : Nat) : Int)), (13, .int .i64 ((i : Nat) : Int))]) (fun _ => []) (fun i => l.length - i) 0 ⟨Nat.zero_le _, fun q hq => by omega⟩ ⟨rfl, rfl, rfl, rfl, trivial⟩ (HSub.none _) (fun i ⟨hi, hfe⟩ K0 hK0 => ?_)
  refine CT.seq (CT.region ?_)
  refine Wl.q rfl rfl (OpQ.lss rfl rfl) ?_
  refine Wl.nil (PX.then_n (CT.seq ?_))
  refine CT.cond rfl (fun h14 => ?_) (fun h14 => ?_)
  ·
   have h14 := of_decide_eq_true h14
   refine CT.skip (PX.then_n (CT.seq (CT.block (CT.seq (CT.region ?_)))))
   refine Wl.q rfl rfl (OpQ.move rfl) ?_
   refine Wl.q rfl rfl (OpQ.assign rfl) ?_
   refine Wl.nil (PX.then_n (CT.seq ?_))
   refine CT.draw 9 zf6 ?_
   refine RA.q 0 (by kernel_rfl) rfl rfl rfl (.refl _) (OpQ.move rfl) ?_
   refine RA.q 1 (by kernel_rfl) rfl rfl rfl (.refl _) (OpQ.move rfl) ?_
   refine RA.q 2 (by kernel_rfl) rfl rfl rfl (.refl _) (OpQ.index1 zf17 zf38 rfl rfl (by omega) (hsa (by omega))) ?_
   refine RA.q 3 (by kernel_rfl) rfl rfl rfl (.refl _) (OpQ.loadG zf39 rfl (fun w hH => hH.use hra) (getMap sv l [] (j := i) (by omega))) ?_
   refine RA.q 4 (by kernel_rfl) rfl rfl rfl (.refl _) (OpQ.move rfl) ?_
   refine RA.q 5 (by kernel_rfl) rfl rfl rfl (.refl _) (OpQ.move rfl) ?_
   refine RA.q 6 (by kernel_rfl) rfl rfl rfl (.refl _) (OpQ.index1 zf17 zf38 rfl rfl (by omega) (hsb (by omega))) ?_
   refine RA.q 7 (by kernel_rfl) rfl rfl rfl (.refl _) (OpQ.loadG zf39 rfl (fun w hH => hH.use hrb) (getMap sv m [] (j := i) (by omega))) ?_
   refine RA.q 8 (by kernel_rfl) rfl rfl rfl (.refl _) (OpQ.neqS rfl rfl) ?_
   refine RA.tail ?_
   refine RT.done (by kernel_rfl) ?_
   refine PX.then_n ?_
   refine CT.cond rfl (fun h24 => ?_) (fun h24 => ?_)
   ·
    have h24 : ¬ l.getD i [] = m.getD i [] := by simpa [-List.getD_eq_getElem?_getD] using h24
    refine CT.seq (CT.region ?_)
    refine Wl.q rfl rfl (OpQ.assign rfl) ?_
    refine Wl.nil (PX.then_n (CT.ret (PX.block_r (PX.then_r (PX.then_r (PX.block_r (PX.then_r ?_)))))))
    refine PX.ret1 rfl rfl (fun w' hH => ?_)
    exact ⟨congrArg (fun b => Ending.returned (.bool b)) (decide_eq_false fun hh => h24 (by rw [hh])).symm, hH.ext⟩
   ·
    have h24 : l.getD i [] = m.getD i [] := by simpa [-List.getD_eq_getElem?_getD] using h24
    refine CT.skip (PX.block_n (PX.then_n (CT.region ?_)))
    refine Wl.q rfl rfl (OpQ.add rfl rfl (by omega)) ?_
    refine Wl.q rfl rfl (OpQ.move rfl) ?_
    refine Wl.nil ?_
    exact PX.loop hK0 (i + 1) ⟨by omega, fun q hq => by rcases Nat.lt_or_ge q i with h1 | h1; exact hfe q h1; obtain rfl : q = i := (by omega); exact h24⟩ (by first | omega | (dsimp only; omega)) ⟨rfl, rfl, rfl, rfl, trivial⟩ (HSub.none _)
  ·
   have h14 := of_decide_eq_false h14
   refine CT.exit (PX.then_x (PX.then_x (PX.block_x (PX.then_n (CT.seq (CT.region ?_))))))
   refine Wl.q rfl rfl (OpQ.assign rfl) ?_
   refine Wl.nil (PX.then_n (CT.ret ?_))
   refine PX.ret1 rfl rfl (fun w' hH => ?_)
   exact ⟨congrArg (fun b => Ending.returned (.bool b)) (decide_eq_true (list_ext_getD [] (by omega) (fun q hq => hfe q (by omega)))).symm, hH.ext⟩

set_option maxRecDepth 100000 in
/-- semigroup/semigroupref42.Same -/
theorem sameS_spec (w : World) (S : Sv) (hS : Stays [] w (svm S)) (hv : S.sq.Ok 4096) (SU : Sv) (hSU : Stays [] w (svm SU)) (hvU : SU.sq.Ok 4096) : Calls Try.prog 14 #[svv S, svv SU] w (fun e w' => e = .returned (.bool (decide (S.sq = SU.sq))) ∧ Ext [] w w') := by
 obtain ⟨hb1, hb2, hb3, hb4⟩ := hv.bnd
 obtain ⟨hlo, hle, hlf⟩ := hv.lens
 have hns : 0 < S.rs.length → S.na.isSome = true := fun h => hS.now.n.isSome (j := 0) (by rw [List.length_map]; exact h)
 have hos : 0 < S.os.length → S.oa.isSome = true := fun h => hS.now.o.isSome (j := 0) (by rw [List.length_map]; exact h)
 have hes : 0 < S.en.length → S.ea.isSome = true := fun h => hS.now.e.isSome (j := 0) (by rw [List.length_map]; exact h)
 have hfs : 0 < S.fi.length → S.fa.isSome = true := fun h => hS.now.f.isSome (j := 0) (by rw [List.length_map]; exact h)
 have hrs : ∀ q, q < S.rs.length → 0 < (S.rs.getD q rx0).xs.length → (S.rs.getD q rx0).a.isSome = true := fun q hq h => (hS.now.r _ (getDm hq)).isSome (j := 0) (by rw [List.length_map]; exact h)
 have hus : ∀ q, q < S.os.length → 0 < (S.os.getD q rx0).xs.length → (S.os.getD q rx0).a.isSome = true := fun q hq h => (hS.now.u _ (getDm hq)).isSome (j := 0) (by rw [List.length_map]; exact h)
 obtain ⟨hb1U, hb2U, hb3U, hb4U⟩ := hvU.bnd
 obtain ⟨hloU, hleU, hlfU⟩ := hvU.lens
 have hnsU : 0 < SU.rs.length → SU.na.isSome = true := fun h => hSU.now.n.isSome (j := 0) (by rw [List.length_map]; exact h)
 have hosU : 0 < SU.os.length → SU.oa.isSome = true := fun h => hSU.now.o.isSome (j := 0) (by rw [List.length_map]; exact h)
 have hesU : 0 < SU.en.length → SU.ea.isSome = true := fun h => hSU.now.e.isSome (j := 0) (by rw [List.length_map]; exact h)
 have hfsU : 0 < SU.fi.length → SU.fa.isSome = true := fun h => hSU.now.f.isSome (j := 0) (by rw [List.length_map]; exact h)
 have hrsU : ∀ q, q < SU.rs.length → 0 < (SU.rs.getD q rx0).xs.length → (SU.rs.getD q rx0).a.isSome = true := fun q hq h => (hSU.now.r _ (getDm hq)).isSome (j := 0) (by rw [List.length_map]; exact h)
 have husU : ∀ q, q < SU.os.length → 0 < (SU.os.getD q rx0).xs.length → (SU.os.getD q rx0).a.isSome = true := fun q hq h => (hSU.now.u _ (getDm hq)).isSome (j := 0) (by rw [List.length_map]; exact h)
 refine enter (args := [svv S, svv SU]) [] 135 Try.func14 rfl rfl rfl ?_
 refine CT.seq (CT.region ?_)
 refine Wl.g rfl rfl (OpG.box (size := 7) rfl rfl rfl) ?_
 rintro b2 _
 refine Wl.g rfl rfl (OpG.box (size := 7) rfl rfl rfl) ?_
 rintro b3 _
 refine Wl.q rfl rfl (OpQ.assign rfl) ?_
 refine Wl.nil (PX.then_n (CT.seq (CT.seq (CT.region ?_))))
 refine Wl.q rfl rfl (OpQ.fieldAddr zf33 rfl) ?_
 refine Wl.q rfl rfl (OpQ.loadF (b := b2) zf8 rfl (by repeat (first | exact Has.here | apply Has.there)) (by rfl)) ?_
 refine Wl.q rfl rfl (OpQ.fieldAddr zf33 rfl) ?_
 refine Wl.q rfl rfl (OpQ.loadF (b := b3) zf8 rfl (by repeat (first | exact Has.here | apply Has.there)) (by rfl)) ?_
 refine Wl.q rfl rfl (OpQ.neq rfl rfl) ?_
 refine Wl.q rfl rfl (OpQ.move rfl) ?_
 refine Wl.split 12 rfl (fun hg12 => ?_) (fun hg12 => ?_)
 ·
  have hg12 := of_nd_t hg12
  refine Wl.skip rfl rfl ?_
  refine Wl.skip rfl rfl ?_
  refine Wl.skip rfl rfl ?_
  refine Wl.skip rfl rfl ?_
  refine Wl.skip rfl rfl ?_
  refine Wl.q rfl rfl (OpQ.pickT rfl rfl) ?_
  refine Wl.q rfl rfl (OpQ.move rfl) ?_
  refine Wl.skip rfl rfl ?_
  refine Wl.skip rfl rfl ?_
  refine Wl.skip rfl rfl ?_
  refine Wl.skip rfl rfl ?_
  refine Wl.skip rfl rfl ?_
  refine Wl.q rfl rfl (OpQ.pickT rfl rfl) ?_
  refine Wl.q rfl rfl (OpQ.move rfl) ?_
  refine Wl.skip rfl rfl ?_
  refine Wl.skip rfl rfl ?_
  refine Wl.skip rfl rfl ?_
  refine Wl.skip rfl rfl ?_
  refine Wl.skip rfl rfl ?_
  refine Wl.skip rfl rfl ?_
  refine Wl.skip rfl rfl ?_
  refine Wl.q rfl rfl (OpQ.pickT rfl rfl) ?_
  refine Wl.q rfl rfl (OpQ.move rfl) ?_
  refine Wl.skip rfl rfl ?_
  refine Wl.skip rfl rfl ?_
  refine Wl.skip rfl rfl ?_
  refine Wl.skip rfl rfl ?_
  refine Wl.skip rfl rfl ?_
  refine Wl.skip rfl rfl ?_
  refine Wl.skip rfl rfl ?_
  refine Wl.q rfl rfl (OpQ.pickT rfl rfl) ?_
  refine Wl.q rfl rfl (OpQ.move rfl) ?_
  refine Wl.skip rfl rfl ?_
  refine Wl.skip rfl rfl ?_
  refine Wl.skip rfl rfl ?_
  refine Wl.skip rfl rfl ?_
  refine Wl.skip rfl rfl ?_
  refine Wl.skip rfl rfl ?_
  refine Wl.skip rfl rfl ?_
  refine Wl.q rfl rfl (OpQ.pickT rfl rfl) ?_
  refine Wl.q rfl rfl (OpQ.move rfl) ?_
  refine Wl.skip rfl rfl ?_
  refine Wl.skip rfl rfl ?_
  refine Wl.skip rfl rfl ?_
  refine Wl.skip rfl rfl ?_
  refine Wl.skip rfl rfl ?_
  refine Wl.skip rfl rfl ?_
  refine Wl.q rfl rfl (OpQ.pickT rfl rfl) ?_
  refine Wl.nil (PX.then_n ?_)
  refine CT.condT rfl ?_
  refine CT.seq (CT.region ?_)
  refine Wl.q rfl rfl (OpQ.assign rfl) ?_
  refine Wl.nil (PX.then_n (CT.ret (PX.then_r ?_)))
  refine PX.ret1 rfl rfl (fun w' hH => ?_)
  exact ⟨congrArg (fun b => Ending.returned (.bool b)) (decide_eq_false fun hh => hg12 (congrArg Int.ofNat (congrArg Sq.L hh))).symm, hH.ext⟩
 ·
  have hg12 := of_nd_f hg12
  refine Wl.q rfl rfl (OpQ.fieldAddr zf46 rfl) ?_
  refine Wl.q rfl rfl (OpQ.loadF (b := b2) zf8 rfl (by repeat (first | exact Has.here | apply Has.there)) (by rfl)) ?_
  refine Wl.q rfl rfl (OpQ.fieldAddr zf46 rfl) ?_
  refine Wl.q rfl rfl (OpQ.loadF (b := b3) zf8 rfl (by repeat (first | exact Has.here | apply Has.there)) (by rfl)) ?_
  refine Wl.q rfl rfl (OpQ.neq rfl rfl) ?_
  refine Wl.q rfl rfl (OpQ.pickF rfl rfl) ?_
  refine Wl.q rfl rfl (OpQ.move rfl) ?_
  refine Wl.split 19 rfl (fun hg19 => ?_) (fun hg19 => ?_)
  ·
   have hg19 := of_nd_t hg19
   refine Wl.skip rfl rfl ?_
   refine Wl.skip rfl rfl ?_
   refine Wl.skip rfl rfl ?_
   refine Wl.skip rfl rfl ?_
   refine Wl.skip rfl rfl ?_
   refine Wl.q rfl rfl (OpQ.pickT rfl rfl) ?_
   refine Wl.q rfl rfl (OpQ.move rfl) ?_
   refine Wl.skip rfl rfl ?_
   refine Wl.skip rfl rfl ?_
   refine Wl.skip rfl rfl ?_
   refine Wl.skip rfl rfl ?_
   refine Wl.skip rfl rfl ?_
   refine Wl.skip rfl rfl ?_
   refine Wl.skip rfl rfl ?_
   refine Wl.q rfl rfl (OpQ.pickT rfl rfl) ?_
   refine Wl.q rfl rfl (OpQ.move rfl) ?_
   refine Wl.skip rfl rfl ?_
   refine Wl.skip rfl rfl ?_
   refine Wl.skip rfl rfl ?_
   refine Wl.skip rfl rfl ?_
   refine Wl.skip rfl rfl ?_
   refine Wl.skip rfl rfl ?_
   refine Wl.skip rfl rfl ?_
   refine Wl.q rfl rfl (OpQ.pickT rfl rfl) ?_
   refine Wl.q rfl rfl (OpQ.move rfl) ?_
   refine Wl.skip rfl rfl ?_
   refine Wl.skip rfl rfl ?_
   refine Wl.skip rfl rfl ?_
   refine Wl.skip rfl rfl ?_
   refine Wl.skip rfl rfl ?_
   refine Wl.skip rfl rfl ?_
   refine Wl.skip rfl rfl ?_
   refine Wl.q rfl rfl (OpQ.pickT rfl rfl) ?_
   refine Wl.q rfl rfl (OpQ.move rfl) ?_
   refine Wl.skip rfl rfl ?_
   refine Wl.skip rfl rfl ?_
   refine Wl.skip rfl rfl ?_
   refine Wl.skip rfl rfl ?_
   refine Wl.skip rfl rfl ?_
   refine Wl.skip rfl rfl ?_
   refine Wl.q rfl rfl (OpQ.pickT rfl rfl) ?_
   refine Wl.nil (PX.then_n ?_)
   refine CT.condT rfl ?_
   refine CT.seq (CT.region ?_)
   refine Wl.q rfl rfl (OpQ.assign rfl) ?_
   refine Wl.nil (PX.then_n (CT.ret (PX.then_r ?_)))
   refine PX.ret1 rfl rfl (fun w' hH => ?_)
   exact ⟨congrArg (fun b => Ending.returned (.bool b)) (decide_eq_false fun hh => hg19 (congrArg Int.ofNat (congrArg Sq.s hh))).symm, hH.ext⟩
  ·
   have hg19 := of_nd_f hg19
   refine Wl.q rfl rfl (OpQ.fieldAddr zf47 rfl) ?_
   refine Wl.q rfl rfl (OpQ.loadF (b := b2) zf39 rfl (by repeat (first | exact Has.here | apply Has.there)) (by rfl)) ?_
   refine Wl.q rfl rfl (OpQ.fieldAddr zf47 rfl) ?_
   refine Wl.q rfl rfl (OpQ.loadF (b := b3) zf39 rfl (by repeat (first | exact Has.here | apply Has.there)) (by rfl)) ?_
   refine Wl.q rfl rfl (OpQ.neqS rfl rfl) ?_
   refine Wl.q rfl rfl (OpQ.pickF rfl rfl) ?_
   refine Wl.q rfl rfl (OpQ.move rfl) ?_
   refine Wl.split 26 rfl (fun hg26 => ?_) (fun hg26 => ?_)
   ·
    have hg26 : ¬ S.init = SU.init := by simpa [-List.getD_eq_getElem?_getD] using hg26
    refine Wl.skip rfl rfl ?_
    refine Wl.skip rfl rfl ?_
    refine Wl.skip rfl rfl ?_
    refine Wl.skip rfl rfl ?_
    refine Wl.skip rfl rfl ?_
    refine Wl.skip rfl rfl ?_
    refine Wl.skip rfl rfl ?_
    refine Wl.q rfl rfl (OpQ.pickT rfl rfl) ?_
    refine Wl.q rfl rfl (OpQ.move rfl) ?_
    refine Wl.skip rfl rfl ?_
    refine Wl.skip rfl rfl ?_
    refine Wl.skip rfl rfl ?_
    refine Wl.skip rfl rfl ?_
    refine Wl.skip rfl rfl ?_
    refine Wl.skip rfl rfl ?_
    refine Wl.skip rfl rfl ?_
    refine Wl.q rfl rfl (OpQ.pickT rfl rfl) ?_
    refine Wl.q rfl rfl (OpQ.move rfl) ?_
    refine Wl.skip rfl rfl ?_
    refine Wl.skip rfl rfl ?_
    refine Wl.skip rfl rfl ?_
    refine Wl.skip rfl rfl ?_
    refine Wl.skip rfl rfl ?_
    refine Wl.skip rfl rfl ?_
    refine Wl.skip rfl rfl ?_
    refine Wl.q rfl rfl (OpQ.pickT rfl rfl) ?_
    refine Wl.q rfl rfl (OpQ.move rfl) ?_
    refine Wl.skip rfl rfl ?_
    refine Wl.skip rfl rfl ?_
    refine Wl.skip rfl rfl ?_
    refine Wl.skip rfl rfl ?_
    refine Wl.skip rfl rfl ?_
    refine Wl.skip rfl rfl ?_
    refine Wl.q rfl rfl (OpQ.pickT rfl rfl) ?_
    refine Wl.nil (PX.then_n ?_)
    refine CT.condT rfl ?_
    refine CT.seq (CT.region ?_)
    refine Wl.q rfl rfl (OpQ.assign rfl) ?_
    refine Wl.nil (PX.then_n (CT.ret (PX.then_r ?_)))
    refine PX.ret1 rfl rfl (fun w' hH => ?_)
    exact ⟨congrArg (fun b => Ending.returned (.bool b)) (decide_eq_false fun hh => hg26 (congrArg Sq.init hh)).symm, hH.ext⟩
   ·
    have hg26 : S.init = SU.init := by simpa [-List.getD_eq_getElem?_getD] using hg26
    refine Wl.q rfl rfl (OpQ.fieldAddr zf30 rfl) ?_
    refine Wl.q rfl rfl (OpQ.loadF (b := b2) zf31 rfl (by repeat (first | exact Has.here | apply Has.there)) (by rfl)) ?_
    refine Wl.q rfl rfl (OpQ.len zf21 rfl) ?_
    refine Wl.q rfl rfl (OpQ.fieldAddr zf30 rfl) ?_
    refine Wl.q rfl rfl (OpQ.loadF (b := b3) zf31 rfl (by repeat (first | exact Has.here | apply Has.there)) (by rfl)) ?_
    refine Wl.q rfl rfl (OpQ.len zf21 rfl) ?_
    refine Wl.q rfl rfl (OpQ.neq rfl rfl) ?_
    refine Wl.q rfl rfl (OpQ.pickF rfl rfl) ?_
    refine Wl.q rfl rfl (OpQ.move rfl) ?_
    refine Wl.split 35 rfl (fun hg35 => ?_) (fun hg35 => ?_)
    ·
     have hg35 := of_nd_t hg35
     refine Wl.skip rfl rfl ?_
     refine Wl.skip rfl rfl ?_
     refine Wl.skip rfl rfl ?_
     refine Wl.skip rfl rfl ?_
     refine Wl.skip rfl rfl ?_
     refine Wl.skip rfl rfl ?_
     refine Wl.skip rfl rfl ?_
     refine Wl.q rfl rfl (OpQ.pickT rfl rfl) ?_
     refine Wl.q rfl rfl (OpQ.move rfl) ?_
     refine Wl.skip rfl rfl ?_
     refine Wl.skip rfl rfl ?_
     refine Wl.skip rfl rfl ?_
     refine Wl.skip rfl rfl ?_
     refine Wl.skip rfl rfl ?_
     refine Wl.skip rfl rfl ?_
     refine Wl.skip rfl rfl ?_
     refine Wl.q rfl rfl (OpQ.pickT rfl rfl) ?_
     refine Wl.q rfl rfl (OpQ.move rfl) ?_
     refine Wl.skip rfl rfl ?_
     refine Wl.skip rfl rfl ?_
     refine Wl.skip rfl rfl ?_
     refine Wl.skip rfl rfl ?_
     refine Wl.skip rfl rfl ?_
     refine Wl.skip rfl rfl ?_
     refine Wl.q rfl rfl (OpQ.pickT rfl rfl) ?_
     refine Wl.nil (PX.then_n ?_)
     refine CT.condT rfl ?_
     refine CT.seq (CT.region ?_)
     refine Wl.q rfl rfl (OpQ.assign rfl) ?_
     refine Wl.nil (PX.then_n (CT.ret (PX.then_r ?_)))
     refine PX.ret1 rfl rfl (fun w' hH => ?_)
     exact ⟨congrArg (fun b => Ending.returned (.bool b)) (decide_eq_false fun hh => hg35 (congrArg Int.ofNat (sq_lens hh).1)).symm, hH.ext⟩
    ·
     have hg35 := of_nd_f hg35
     refine Wl.q rfl rfl (OpQ.fieldAddr zf34 rfl) ?_
     refine Wl.q rfl rfl (OpQ.loadF (b := b2) zf35 rfl (by repeat (first | exact Has.here | apply Has.there)) (by rfl)) ?_
     refine Wl.q rfl rfl (OpQ.len zf23 rfl) ?_
     refine Wl.q rfl rfl (OpQ.fieldAddr zf34 rfl) ?_
     refine Wl.q rfl rfl (OpQ.loadF (b := b3) zf35 rfl (by repeat (first | exact Has.here | apply Has.there)) (by rfl)) ?_
     refine Wl.q rfl rfl (OpQ.len zf23 rfl) ?_
     refine Wl.q rfl rfl (OpQ.neq rfl rfl) ?_
     refine Wl.q rfl rfl (OpQ.pickF rfl rfl) ?_
     refine Wl.q rfl rfl (OpQ.move rfl) ?_
     refine Wl.split 44 rfl (fun hg44 => ?_) (fun hg44 => ?_)
     ·
      have hg44 := of_nd_t hg44
      refine Wl.skip rfl rfl ?_
      refine Wl.skip rfl rfl ?_
      refine Wl.skip rfl rfl ?_
      refine Wl.skip rfl rfl ?_
      refine Wl.skip rfl rfl ?_
      refine Wl.skip rfl rfl ?_
      refine Wl.skip rfl rfl ?_
      refine Wl.q rfl rfl (OpQ.pickT rfl rfl) ?_
      refine Wl.q rfl rfl (OpQ.move rfl) ?_
      refine Wl.skip rfl rfl ?_
      refine Wl.skip rfl rfl ?_
      refine Wl.skip rfl rfl ?_
      refine Wl.skip rfl rfl ?_
      refine Wl.skip rfl rfl ?_
      refine Wl.skip rfl rfl ?_
      refine Wl.q rfl rfl (OpQ.pickT rfl rfl) ?_
      refine Wl.nil (PX.then_n ?_)
      refine CT.condT rfl ?_
      refine CT.seq (CT.region ?_)
      refine Wl.q rfl rfl (OpQ.assign rfl) ?_
      refine Wl.nil (PX.then_n (CT.ret (PX.then_r ?_)))
      refine PX.ret1 rfl rfl (fun w' hH => ?_)
      exact ⟨congrArg (fun b => Ending.returned (.bool b)) (decide_eq_false fun hh => hg44 (congrArg Int.ofNat (sq_lens hh).2.1)).symm, hH.ext⟩
     ·
      have hg44 := of_nd_f hg44
      refine Wl.q rfl rfl (OpQ.fieldAddr zf42 rfl) ?_
      refine Wl.q rfl rfl (OpQ.loadF (b := b2) zf43 rfl (by repeat (first | exact Has.here | apply Has.there)) (by rfl)) ?_
      refine Wl.q rfl rfl (OpQ.len zf25 rfl) ?_
      refine Wl.q rfl rfl (OpQ.fieldAddr zf42 rfl) ?_
      refine Wl.q rfl rfl (OpQ.loadF (b := b3) zf43 rfl (by repeat (first | exact Has.here | apply Has.there)) (by rfl)) ?_
      refine Wl.q rfl rfl (OpQ.len zf25 rfl) ?_
      refine Wl.q rfl rfl (OpQ.neq rfl rfl) ?_
      refine Wl.q rfl rfl (OpQ.pickF rfl rfl) ?_
      refine Wl.q rfl rfl (OpQ.move rfl) ?_
      refine Wl.split 53 rfl (fun hg53 => ?_) (fun hg53 => ?_)
      ·
       have hg53 := of_nd_t hg53
       refine Wl.skip rfl rfl ?_
       refine Wl.skip rfl rfl ?_
       refine Wl.skip rfl rfl ?_
       refine Wl.skip rfl rfl ?_
       refine Wl.skip rfl rfl ?_
       refine Wl.skip rfl rfl ?_
       refine Wl.q rfl rfl (OpQ.pickT rfl rfl) ?_
       refine Wl.nil (PX.then_n ?_)
       refine CT.condT rfl ?_
       refine CT.seq (CT.region ?_)
       refine Wl.q rfl rfl (OpQ.assign rfl) ?_
       refine Wl.nil (PX.then_n (CT.ret (PX.then_r ?_)))
       refine PX.ret1 rfl rfl (fun w' hH => ?_)
       exact ⟨congrArg (fun b => Ending.returned (.bool b)) (decide_eq_false fun hh => hg53 (congrArg Int.ofNat (sq_lens hh).2.2.1)).symm, hH.ext⟩
      ·
       have hg53 := of_nd_f hg53
       refine Wl.q rfl rfl (OpQ.fieldAddr zf41 rfl) ?_
       refine Wl.q rfl rfl (OpQ.loadF (b := b2) zf37 rfl (by repeat (first | exact Has.here | apply Has.there)) (by rfl)) ?_
       refine Wl.q rfl rfl (OpQ.fieldAddr zf41 rfl) ?_
       refine Wl.q rfl rfl (OpQ.loadF (b := b3) zf37 rfl (by repeat (first | exact Has.here | apply Has.there)) (by rfl)) ?_
       refine Wl.g rfl rfl (OpG.callV zf139 rfl (fun w hH => same01_spec w S.fa S.fc S.fi (fun w2 he => (hH.stays0 hS w2 he).f) (by omega) SU.fa SU.fc SU.fi (fun w2 he => (hH.stays0 hSU w2 he).f))) ?_
       rintro _ _
       refine Wl.q rfl rfl (OpQ.not rfl) ?_
       refine Wl.q rfl rfl (OpQ.pickF rfl rfl) ?_
       refine Wl.nil (PX.then_n ?_)
       refine CT.cond rfl (fun h60 => ?_) (fun h60 => ?_)
       ·
        have h60 : ¬ S.fi = SU.fi := by simpa [-List.getD_eq_getElem?_getD] using h60
        refine CT.seq (CT.region ?_)
        refine Wl.q rfl rfl (OpQ.assign rfl) ?_
        refine Wl.nil (PX.then_n (CT.ret (PX.then_r ?_)))
        refine PX.ret1 rfl rfl (fun w' hH => ?_)
        exact ⟨congrArg (fun b => Ending.returned (.bool b)) (decide_eq_false fun hh => h60 (sq_lens hh).2.2.2).symm, hH.ext⟩
       ·
        have h60 : S.fi = SU.fi := by simpa [-List.getD_eq_getElem?_getD] using h60
        refine CT.skip (PX.then_n (CT.seq (CT.seq (CT.region ?_))))
        refine Wl.q rfl rfl (OpQ.fieldAddr zf30 rfl) ?_
        refine Wl.q rfl rfl (OpQ.loadF (b := b2) zf31 rfl (by repeat (first | exact Has.here | apply Has.there)) (by rfl)) ?_
        refine Wl.q rfl rfl (OpQ.len zf21 rfl) ?_
        refine Wl.q rfl rfl (OpQ.move rfl) ?_
        refine Wl.nil (PX.then_n (CT.block ?_))
        refine CT.loop (ι := Nat) (fun k => k ≤ S.rs.length ∧ ∀ q, q < k → (S.rs.getD q rx0).xs = (SU.rs.getD q rx0).xs ∧ (S.os.getD q rx0).xs = (SU.os.getD q rx0).xs ∧ S.en.getD q false = SU.en.getD q false) (fun k => [(2, .pointer (some ⟨b2, 0, none⟩)), (3, .pointer (some ⟨b3, 0, none⟩)), (63, .int .i64 ((S.rs.length : Nat) : Int)), (64, .int .i64 ((k : Nat) : Int))]) (fun _ => [.row 30 7 (vb b3) 1 (svc SU), .row 30 7 (vb b2) 1 (svc S)]) (fun k => S.rs.length - k) 0 ⟨Nat.zero_le _, fun q hq => by omega⟩ ⟨rfl, rfl, rfl, rfl, trivial⟩ (HSub.refl _) (fun k ⟨hk, hre⟩ K0 hK0 => ?_)
        refine CT.seq (CT.region ?_)
        refine Wl.q rfl rfl (OpQ.lss rfl rfl) ?_
        refine Wl.nil (PX.then_n (CT.seq ?_))
        refine CT.cond rfl (fun h65 => ?_) (fun h65 => ?_)
        ·
         have h65 := of_decide_eq_true h65
         have hrl := hv.rlen (q := k) (by omega)
         have hol := hv.olen (q := k) (by omega)
         have hrlU := hvU.rlen (q := k) (by omega)
         have holU := hvU.olen (q := k) (by omega)
         refine CT.skip (PX.then_n (CT.seq (CT.block (CT.seq (CT.region ?_)))))
         refine Wl.q rfl rfl (OpQ.move rfl) ?_
         refine Wl.q rfl rfl (OpQ.assign rfl) ?_
         refine Wl.nil (PX.then_n (CT.seq (CT.seq ?_)))
         refine CT.draw 40 zf6 ?_
         refine RA.q 0 (by kernel_rfl) rfl rfl rfl (.refl _) (OpQ.fieldAddr zf30 rfl) ?_
         refine RA.q 1 (by kernel_rfl) rfl rfl rfl (.refl _) (OpQ.loadF (b := b2) zf31 rfl (by repeat (first | exact Has.here | apply Has.there)) (by rfl)) ?_
         refine RA.q 2 (by kernel_rfl) rfl rfl rfl (.refl _) (OpQ.move rfl) ?_
         refine RA.q 3 (by kernel_rfl) rfl rfl rfl (.refl _) (OpQ.index1 zf21 zf32 rfl rfl (by omega) (hns (by omega))) ?_
         refine RA.q 4 (by kernel_rfl) rfl rfl rfl (.refl _) (OpQ.loadG zf10 rfl (fun w hH => (hH.use hS).n) (getMap rxv S.rs rx0 (j := k) (by omega))) ?_
         refine RA.q 5 (by kernel_rfl) rfl rfl rfl (.refl _) (OpQ.len zf0 rfl) ?_
         refine RA.q 6 (by kernel_rfl) rfl rfl rfl (.refl _) (OpQ.fieldAddr zf30 rfl) ?_
         refine RA.q 7 (by kernel_rfl) rfl rfl rfl (.refl _) (OpQ.loadF (b := b3) zf31 rfl (by repeat (first | exact Has.here | apply Has.there)) (by rfl)) ?_
         refine RA.q 8 (by kernel_rfl) rfl rfl rfl (.refl _) (OpQ.move rfl) ?_
         refine RA.q 9 (by kernel_rfl) rfl rfl rfl (.refl _) (OpQ.index1 zf21 zf32 rfl rfl (by omega) (hnsU (by omega))) ?_
         refine RA.q 10 (by kernel_rfl) rfl rfl rfl (.refl _) (OpQ.loadG zf10 rfl (fun w hH => (hH.use hSU).n) (getMap rxv SU.rs rx0 (j := k) (by omega))) ?_
         refine RA.q 11 (by kernel_rfl) rfl rfl rfl (.refl _) (OpQ.len zf0 rfl) ?_
         refine RA.q 12 (by kernel_rfl) rfl rfl rfl (.refl _) (OpQ.neq rfl rfl) ?_
         refine RA.q 13 (by kernel_rfl) rfl rfl rfl (.refl _) (OpQ.move rfl) ?_
         refine RA.split 80 rfl (fun hg80 => ?_) (fun hg80 => ?_)
         ·
          have hg80 := of_nd_t hg80
          refine RA.skip 14 (by kernel_rfl) rfl rfl rfl (.refl _) ?_
          refine RA.skip 15 (by kernel_rfl) rfl rfl rfl (.refl _) ?_
          refine RA.skip 16 (by kernel_rfl) rfl rfl rfl (.refl _) ?_
          refine RA.skip 17 (by kernel_rfl) rfl rfl rfl (.refl _) ?_
          refine RA.skip 18 (by kernel_rfl) rfl rfl rfl (.refl _) ?_
          refine RA.skip 19 (by kernel_rfl) rfl rfl rfl (.refl _) ?_
          refine RA.skip 20 (by kernel_rfl) rfl rfl rfl (.refl _) ?_
          refine RA.skip 21 (by kernel_rfl) rfl rfl rfl (.refl _) ?_
          refine RA.skip 22 (by kernel_rfl) rfl rfl rfl (.refl _) ?_
          refine RA.skip 23 (by kernel_rfl) rfl rfl rfl (.refl _) ?_
          refine RA.skip 24 (by kernel_rfl) rfl rfl rfl (.refl _) ?_
          refine RA.skip 25 (by kernel_rfl) rfl rfl rfl (.refl _) ?_
          refine RA.q 26 (by kernel_rfl) rfl rfl rfl (.refl _) (OpQ.pickT rfl rfl) ?_
          refine RA.q 27 (by kernel_rfl) rfl rfl rfl (.refl _) (OpQ.move rfl) ?_
          refine RA.skip 28 (by kernel_rfl) rfl rfl rfl (.refl _) ?_
          refine RA.skip 29 (by kernel_rfl) rfl rfl rfl (.refl _) ?_
          refine RA.skip 30 (by kernel_rfl) rfl rfl rfl (.refl _) ?_
          refine RA.skip 31 (by kernel_rfl) rfl rfl rfl (.refl _) ?_
          refine RA.skip 32 (by kernel_rfl) rfl rfl rfl (.refl _) ?_
          refine RA.skip 33 (by kernel_rfl) rfl rfl rfl (.refl _) ?_
          refine RA.skip 34 (by kernel_rfl) rfl rfl rfl (.refl _) ?_
          refine RA.skip 35 (by kernel_rfl) rfl rfl rfl (.refl _) ?_
          refine RA.skip 36 (by kernel_rfl) rfl rfl rfl (.refl _) ?_
          refine RA.skip 37 (by kernel_rfl) rfl rfl rfl (.refl _) ?_
          refine RA.skip 38 (by kernel_rfl) rfl rfl rfl (.refl _) ?_
          refine RA.q 39 (by kernel_rfl) rfl rfl rfl (.refl _) (OpQ.pickT rfl rfl) ?_
          refine RA.tail ?_
          refine RT.done (by kernel_rfl) ?_
          refine PX.then_n ?_
          refine CT.condT rfl ?_
          refine CT.seq (CT.region ?_)
          refine Wl.q rfl rfl (OpQ.assign rfl) ?_
          refine Wl.nil (PX.then_n (CT.ret (PX.then_r (PX.block_r (PX.then_r (PX.then_r (PX.block_r (PX.then_r ?_))))))))
          refine PX.ret1 rfl rfl (fun w' hH => ?_)
          exact ⟨congrArg (fun b => Ending.returned (.bool b)) (decide_eq_false fun hh => hg80 (by rw [(sq_rows hh k).1])).symm, hH.ext⟩
         ·
          have hg80 := of_nd_f hg80
          refine RA.q 14 (by kernel_rfl) rfl rfl rfl (.refl _) (OpQ.fieldAddr zf34 rfl) ?_
          refine RA.q 15 (by kernel_rfl) rfl rfl rfl (.refl _) (OpQ.loadF (b := b2) zf35 rfl (by repeat (first | exact Has.here | apply Has.there)) (by rfl)) ?_
          refine RA.q 16 (by kernel_rfl) rfl rfl rfl (.refl _) (OpQ.move rfl) ?_
          refine RA.q 17 (by kernel_rfl) rfl rfl rfl (.refl _) (OpQ.index1 zf23 zf36 rfl rfl (by omega) (hos (by omega))) ?_
          refine RA.q 18 (by kernel_rfl) rfl rfl rfl (.refl _) (OpQ.loadG zf37 rfl (fun w hH => (hH.use hS).o) (getMap rxv S.os rx0 (j := k) (by omega))) ?_
          refine RA.q 19 (by kernel_rfl) rfl rfl rfl (.refl _) (OpQ.fieldAddr zf34 rfl) ?_
          refine RA.q 20 (by kernel_rfl) rfl rfl rfl (.refl _) (OpQ.loadF (b := b3) zf35 rfl (by repeat (first | exact Has.here | apply Has.there)) (by rfl)) ?_
          refine RA.q 21 (by kernel_rfl) rfl rfl rfl (.refl _) (OpQ.move rfl) ?_
          refine RA.q 22 (by kernel_rfl) rfl rfl rfl (.refl _) (OpQ.index1 zf23 zf36 rfl rfl (by omega) (hosU (by omega))) ?_
          refine RA.q 23 (by kernel_rfl) rfl rfl rfl (.refl _) (OpQ.loadG zf37 rfl (fun w hH => (hH.use hSU).o) (getMap rxv SU.os rx0 (j := k) (by omega))) ?_
          refine RA.f 24 (by kernel_rfl) rfl rfl rfl (OpG.callV zf139 rfl (fun w hH => same01_spec w (S.os.getD k rx0).a (S.os.getD k rx0).cp (S.os.getD k rx0).xs (fun w2 he => (hH.stays0 hS w2 he).u _ (getDm (d := rx0) (show k < S.os.length by omega))) (by omega) (SU.os.getD k rx0).a (SU.os.getD k rx0).cp (SU.os.getD k rx0).xs (fun w2 he => (hH.stays0 hSU w2 he).u _ (getDm (d := rx0) (show k < SU.os.length by omega))))) (fun _ _ => (.refl _)) ?_
          rintro _ _
          refine RA.q 25 (by kernel_rfl) rfl rfl rfl (.refl _) (OpQ.not rfl) ?_
          refine RA.q 26 (by kernel_rfl) rfl rfl rfl (.refl _) (OpQ.pickF rfl rfl) ?_
          refine RA.q 27 (by kernel_rfl) rfl rfl rfl (.refl _) (OpQ.move rfl) ?_
          refine RA.split 94 rfl (fun hg94 => ?_) (fun hg94 => ?_)
          ·
           have hg94 : ¬ (S.os.getD k rx0).xs = (SU.os.getD k rx0).xs := by simpa [-List.getD_eq_getElem?_getD] using hg94
           refine RA.skip 28 (by kernel_rfl) rfl rfl rfl (.refl _) ?_
           refine RA.skip 29 (by kernel_rfl) rfl rfl rfl (.refl _) ?_
           refine RA.skip 30 (by kernel_rfl) rfl rfl rfl (.refl _) ?_
           refine RA.skip 31 (by kernel_rfl) rfl rfl rfl (.refl _) ?_
           refine RA.skip 32 (by kernel_rfl) rfl rfl rfl (.refl _) ?_
           refine RA.skip 33 (by kernel_rfl) rfl rfl rfl (.refl _) ?_
           refine RA.skip 34 (by kernel_rfl) rfl rfl rfl (.refl _) ?_
           refine RA.skip 35 (by kernel_rfl) rfl rfl rfl (.refl _) ?_
           refine RA.skip 36 (by kernel_rfl) rfl rfl rfl (.refl _) ?_
           refine RA.skip 37 (by kernel_rfl) rfl rfl rfl (.refl _) ?_
           refine RA.skip 38 (by kernel_rfl) rfl rfl rfl (.refl _) ?_
           refine RA.q 39 (by kernel_rfl) rfl rfl rfl (.refl _) (OpQ.pickT rfl rfl) ?_
           refine RA.tail ?_
           refine RT.done (by kernel_rfl) ?_
           refine PX.then_n ?_
           refine CT.condT rfl ?_
           refine CT.seq (CT.region ?_)
           refine Wl.q rfl rfl (OpQ.assign rfl) ?_
           refine Wl.nil (PX.then_n (CT.ret (PX.then_r (PX.block_r (PX.then_r (PX.then_r (PX.block_r (PX.then_r ?_))))))))
           refine PX.ret1 rfl rfl (fun w' hH => ?_)
           exact ⟨congrArg (fun b => Ending.returned (.bool b)) (decide_eq_false fun hh => hg94 (sq_rows hh k).2).symm, hH.ext⟩
          ·
           have hg94 : (S.os.getD k rx0).xs = (SU.os.getD k rx0).xs := by simpa [-List.getD_eq_getElem?_getD] using hg94
           refine RA.q 28 (by kernel_rfl) rfl rfl rfl (.refl _) (OpQ.fieldAddr zf42 rfl) ?_
           refine RA.q 29 (by kernel_rfl) rfl rfl rfl (.refl _) (OpQ.loadF (b := b2) zf43 rfl (by repeat (first | exact Has.here | apply Has.there)) (by rfl)) ?_
           refine RA.q 30 (by kernel_rfl) rfl rfl rfl (.refl _) (OpQ.move rfl) ?_
           refine RA.q 31 (by kernel_rfl) rfl rfl rfl (.refl _) (OpQ.index1 zf25 zf44 rfl rfl (by omega) (hes (by omega))) ?_
           refine RA.q 32 (by kernel_rfl) rfl rfl rfl (.refl _) (OpQ.loadG zf45 rfl (fun w hH => (hH.use hS).e) (getMap bo S.en false (j := k) (by omega))) ?_
           refine RA.q 33 (by kernel_rfl) rfl rfl rfl (.refl _) (OpQ.fieldAddr zf42 rfl) ?_
           refine RA.q 34 (by kernel_rfl) rfl rfl rfl (.refl _) (OpQ.loadF (b := b3) zf43 rfl (by repeat (first | exact Has.here | apply Has.there)) (by rfl)) ?_
           refine RA.q 35 (by kernel_rfl) rfl rfl rfl (.refl _) (OpQ.move rfl) ?_
           refine RA.q 36 (by kernel_rfl) rfl rfl rfl (.refl _) (OpQ.index1 zf25 zf44 rfl rfl (by omega) (hesU (by omega))) ?_
           refine RA.q 37 (by kernel_rfl) rfl rfl rfl (.refl _) (OpQ.loadG zf45 rfl (fun w hH => (hH.use hSU).e) (getMap bo SU.en false (j := k) (by omega))) ?_
           refine RA.q 38 (by kernel_rfl) rfl rfl rfl (.refl _) (OpQ.neqB zf128 rfl rfl) ?_
           refine RA.q 39 (by kernel_rfl) rfl rfl rfl (.refl _) (OpQ.pickF rfl rfl) ?_
           refine RA.tail ?_
           refine RT.done (by kernel_rfl) ?_
           refine PX.then_n ?_
           refine CT.cond rfl (fun h106 => ?_) (fun h106 => ?_)
           ·
            have h106 : ¬ S.en.getD k false = SU.en.getD k false := by simpa [-List.getD_eq_getElem?_getD] using h106
            refine CT.seq (CT.region ?_)
            refine Wl.q rfl rfl (OpQ.assign rfl) ?_
            refine Wl.nil (PX.then_n (CT.ret (PX.then_r (PX.block_r (PX.then_r (PX.then_r (PX.block_r (PX.then_r ?_))))))))
            refine PX.ret1 rfl rfl (fun w' hH => ?_)
            exact ⟨congrArg (fun b => Ending.returned (.bool b)) (decide_eq_false fun hh => h106 (by have := congrArg (fun d : Sq => d.en.getD k false) hh; exact this)).symm, hH.ext⟩
           ·
            have h106 : S.en.getD k false = SU.en.getD k false := by simpa [-List.getD_eq_getElem?_getD] using h106
            refine CT.skip (PX.then_n (CT.seq (CT.region ?_)))
            refine Wl.q rfl rfl (OpQ.fieldAddr zf30 rfl) ?_
            refine Wl.q rfl rfl (OpQ.loadF (b := b2) zf31 rfl (by repeat (first | exact Has.here | apply Has.there)) (by rfl)) ?_
            refine Wl.q rfl rfl (OpQ.move rfl) ?_
            refine Wl.q rfl rfl (OpQ.index1 zf21 zf32 rfl rfl (by omega) (hns (by omega))) ?_
            refine Wl.q rfl rfl (OpQ.loadG zf10 rfl (fun w hH => (hH.use hS).n) (getMap rxv S.rs rx0 (j := k) (by omega))) ?_
            refine Wl.q rfl rfl (OpQ.len zf0 rfl) ?_
            refine Wl.q rfl rfl (OpQ.move rfl) ?_
            refine Wl.nil (PX.then_n (CT.block ?_))
            refine CT.loop (ι := Nat) (fun x => x ≤ (S.rs.getD k rx0).xs.length ∧ ∀ y, y < x → (S.rs.getD k rx0).xs.getD y none = (SU.rs.getD k rx0).xs.getD y none) (fun x => [(2, .pointer (some ⟨b2, 0, none⟩)), (3, .pointer (some ⟨b3, 0, none⟩)), (63, .int .i64 ((S.rs.length : Nat) : Int)), (64, .int .i64 ((k : Nat) : Int)), (5, .int .i64 ((k : Nat) : Int)), (112, .int .i64 (((S.rs.getD k rx0).xs.length : Nat) : Int)), (113, .int .i64 ((x : Nat) : Int))]) (fun _ => [.row 30 7 (vb b3) 1 (svc SU), .row 30 7 (vb b2) 1 (svc S)]) (fun x => (S.rs.getD k rx0).xs.length - x) 0 ⟨Nat.zero_le _, fun q hq => by omega⟩ ⟨rfl, rfl, rfl, rfl, rfl, rfl, rfl, trivial⟩ (HSub.refl _) (fun x ⟨hx, hxe⟩ K1 hK1 => ?_)
            refine CT.seq (CT.region ?_)
            refine Wl.q rfl rfl (OpQ.lss rfl rfl) ?_
            refine Wl.nil (PX.then_n (CT.seq ?_))
            refine CT.cond rfl (fun h114 => ?_) (fun h114 => ?_)
            ·
             have h114 := of_decide_eq_true h114
             refine CT.skip (PX.then_n (CT.seq (CT.block (CT.seq (CT.region ?_)))))
             refine Wl.q rfl rfl (OpQ.move rfl) ?_
             refine Wl.q rfl rfl (OpQ.assign rfl) ?_
             refine Wl.nil (PX.then_n (CT.seq ?_))
             refine CT.draw 17 zf6 ?_
             refine RA.q 0 (by kernel_rfl) rfl rfl rfl (.refl _) (OpQ.fieldAddr zf30 rfl) ?_
             refine RA.q 1 (by kernel_rfl) rfl rfl rfl (.refl _) (OpQ.loadF (b := b2) zf31 rfl (by repeat (first | exact Has.here | apply Has.there)) (by rfl)) ?_
             refine RA.q 2 (by kernel_rfl) rfl rfl rfl (.refl _) (OpQ.move rfl) ?_
             refine RA.q 3 (by kernel_rfl) rfl rfl rfl (.refl _) (OpQ.index1 zf21 zf32 rfl rfl (by omega) (hns (by omega))) ?_
             refine RA.q 4 (by kernel_rfl) rfl rfl rfl (.refl _) (OpQ.loadG zf10 rfl (fun w hH => (hH.use hS).n) (getMap rxv S.rs rx0 (j := k) (by omega))) ?_
             refine RA.q 5 (by kernel_rfl) rfl rfl rfl (.refl _) (OpQ.move rfl) ?_
             refine RA.q 6 (by kernel_rfl) rfl rfl rfl (.refl _) (OpQ.index1 zf0 zf1 rfl rfl (by omega) (hrs k (by omega) (by omega))) ?_
             refine RA.q 7 (by kernel_rfl) rfl rfl rfl (.refl _) (OpQ.loadG zf8 rfl (fun w hH => (hH.use hS).r _ (getDm (show k < S.rs.length by omega))) (getMap zo (S.rs.getD k rx0).xs none (j := x) (by omega))) ?_
             refine RA.q 8 (by kernel_rfl) rfl rfl rfl (.refl _) (OpQ.fieldAddr zf30 rfl) ?_
             refine RA.q 9 (by kernel_rfl) rfl rfl rfl (.refl _) (OpQ.loadF (b := b3) zf31 rfl (by repeat (first | exact Has.here | apply Has.there)) (by rfl)) ?_
             refine RA.q 10 (by kernel_rfl) rfl rfl rfl (.refl _) (OpQ.move rfl) ?_
             refine RA.q 11 (by kernel_rfl) rfl rfl rfl (.refl _) (OpQ.index1 zf21 zf32 rfl rfl (by omega) (hnsU (by omega))) ?_
             refine RA.q 12 (by kernel_rfl) rfl rfl rfl (.refl _) (OpQ.loadG zf10 rfl (fun w hH => (hH.use hSU).n) (getMap rxv SU.rs rx0 (j := k) (by omega))) ?_
             refine RA.q 13 (by kernel_rfl) rfl rfl rfl (.refl _) (OpQ.move rfl) ?_
             refine RA.q 14 (by kernel_rfl) rfl rfl rfl (.refl _) (OpQ.index1 zf0 zf1 rfl rfl (by omega) (hrsU k (by omega) (by omega))) ?_
             refine RA.q 15 (by kernel_rfl) rfl rfl rfl (.refl _) (OpQ.loadG zf8 rfl (fun w hH => (hH.use hSU).r _ (getDm (show k < SU.rs.length by omega))) (getMap zo (SU.rs.getD k rx0).xs none (j := x) (by omega))) ?_
             refine RA.q 16 (by kernel_rfl) rfl rfl rfl (.refl _) (OpQ.neq rfl rfl) ?_
             refine RA.tail ?_
             refine RT.done (by kernel_rfl) ?_
             refine PX.then_n ?_
             refine CT.cond rfl (fun h132 => ?_) (fun h132 => ?_)
             ·
              have h132 := of_nd_t h132
              refine CT.seq (CT.region ?_)
              refine Wl.q rfl rfl (OpQ.assign rfl) ?_
              refine Wl.nil (PX.then_n (CT.ret (PX.block_r (PX.then_r (PX.then_r (PX.block_r (PX.block_r (PX.then_r (PX.then_r (PX.block_r (PX.then_r ?_)))))))))))
              refine PX.ret1 rfl rfl (fun w' hH => ?_)
              exact ⟨congrArg (fun b => Ending.returned (.bool b)) (decide_eq_false fun hh => h132 (by rw [(sq_rows hh k).1])).symm, hH.ext⟩
             ·
              have h132 := of_nd_f h132
              refine CT.skip (PX.block_n (PX.then_n (CT.region ?_)))
              refine Wl.q rfl rfl (OpQ.add rfl rfl (by omega)) ?_
              refine Wl.q rfl rfl (OpQ.move rfl) ?_
              refine Wl.nil ?_
              exact PX.loop hK1 (x + 1) ⟨by omega, fun q hq => by rcases Nat.lt_or_ge q x with h1 | h1; exact hxe q h1; obtain rfl : q = x := (by omega); exact oi_inj h132⟩ (by first | omega | (dsimp only; omega)) ⟨rfl, rfl, rfl, rfl, rfl, rfl, rfl, trivial⟩ (HSub.refl _)
            ·
             have h114 := of_decide_eq_false h114
             refine CT.exit (PX.then_x (PX.then_x (PX.block_x (PX.block_n (PX.then_n (CT.region ?_))))))
             refine Wl.q rfl rfl (OpQ.add rfl rfl (by omega)) ?_
             refine Wl.q rfl rfl (OpQ.move rfl) ?_
             refine Wl.nil ?_
             have hrow : (S.rs.getD k rx0).xs = (SU.rs.getD k rx0).xs := list_ext_getD none (by omega) (fun x hx => hxe x (by omega))
             exact PX.loop hK0 (k + 1) ⟨by omega, fun q hq => by rcases Nat.lt_or_ge q k with h1 | h1; exact hre q h1; obtain rfl : q = k := (by omega); exact ⟨hrow, hg94, h106⟩⟩ (by first | omega | (dsimp only; omega)) ⟨rfl, rfl, rfl, rfl, trivial⟩ (HSub.refl _)
        ·
         have h65 := of_decide_eq_false h65
         refine CT.exit (PX.then_x (PX.then_x (PX.block_x (PX.then_n (CT.seq (CT.region ?_))))))
         refine Wl.q rfl rfl (OpQ.assign rfl) ?_
         refine Wl.nil (PX.then_n (CT.ret ?_))
         refine PX.ret1 rfl rfl (fun w' hH => ?_)
         exact ⟨congrArg (fun b => Ending.returned (.bool b)) (decide_eq_true (sq_same (Int.ofNat.inj hg12) (Int.ofNat.inj hg19) hg26 (by omega) (by omega) (by omega) h60 hlo hle (fun q hq => hre q (by omega)))).symm, hH.ext⟩

end Go.Proofs.Ytamolakhpcofhaa

