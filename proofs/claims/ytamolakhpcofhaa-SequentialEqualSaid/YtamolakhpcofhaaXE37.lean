/-
  What functions of the program compute, each by its walk. Conditions: those that each theorem names.
-/
import Derived.Test.YtamolakhpcofhaaMod1
import Derived.Test.YtamolakhpcofhaaEng1
import Derived.Test.YtamolakhpcofhaaXE36
import Derived.Test.YtamolakhpcofhaaXE3
import Derived.Test.YtamolakhpcofhaaXF
set_option linter.unusedSimpArgs false
namespace Go.Proofs.Ytamolakhpcofhaa
open Go Go.Eng Go.Am Go.Sq
open Go.Tp (zi)
open Go.Tl (mayL Wd okW okB bo)

set_option maxRecDepth 100000 in
/-- (*semigroup/sequential.side).finish -/
theorem finish_spec (w : World) (S : Sv) (hS : Stays [] w (svm S)) (hv : S.sq.Ok 4096) (bs : Nat) (F : List Nat) (a1 : Option Addr) (c1 : Nat) (a2 : Option Addr) (n2 c2 : Nat) (hB : Stays [] w (fun w => Rd w (some ⟨bs, 0, none⟩) (svc S ++ [.slice a1 F.length c1, .slice a2 n2 c2]))) (hF : Stays [] w (fun w => Rd w a1 (F.map zn))) (δ : Nat → Nat) (hf : FirstsI S.sq F δ) (hco : ∀ q, q < S.sq.n → S.sq.tr.co S.L q = true) (q0 : Nat) (hq0 : q0 < S.sq.n) : Calls Try.prog 82 #[.pointer (some ⟨bs, 0, none⟩), .int .i64 ((q0 : Nat) : Int)] w (fun e w' => ∃ ws : Wd, ((∀ b ∈ ws, 97 ≤ b.toNat ∧ b.toNat < 97 + S.L) ∧ ws.length ≤ S.sq.n ∧ (S.sq.tr.val q0 (wl ws)).isSome = true) ∧ e = .returned (sv ws) ∧ Ext [] w w') := by
 obtain ⟨hb1, hb2, hb3, hb4⟩ := hv.bnd
 obtain ⟨hlo, hle, hlf⟩ := hv.lens
 have hns : 0 < S.rs.length → S.na.isSome = true := fun h => hS.now.n.isSome (j := 0) (by rw [List.length_map]; exact h)
 have hos : 0 < S.os.length → S.oa.isSome = true := fun h => hS.now.o.isSome (j := 0) (by rw [List.length_map]; exact h)
 have hes : 0 < S.en.length → S.ea.isSome = true := fun h => hS.now.e.isSome (j := 0) (by rw [List.length_map]; exact h)
 have hfs : 0 < S.fi.length → S.fa.isSome = true := fun h => hS.now.f.isSome (j := 0) (by rw [List.length_map]; exact h)
 have hrs : ∀ q, q < S.rs.length → 0 < (S.rs.getD q rx0).xs.length → (S.rs.getD q rx0).a.isSome = true := fun q hq h => (hS.now.r _ (getDm hq)).isSome (j := 0) (by rw [List.length_map]; exact h)
 have hus : ∀ q, q < S.os.length → 0 < (S.os.getD q rx0).xs.length → (S.os.getD q rx0).a.isSome = true := fun q hq h => (hS.now.u _ (getDm hq)).isSome (j := 0) (by rw [List.length_map]; exact h)
 have ha1 : 0 < F.length → a1.isSome = true := fun h => hF.now.isSome (j := 0) (by rw [List.length_map]; exact h)
 refine enter (args := [.pointer (some ⟨bs, 0, none⟩), .int .i64 ((q0 : Nat) : Int)]) [] 46 Try.func82 rfl rfl rfl ?_
 refine CT.seq (CT.region ?_)
 refine Wl.q rfl rfl (OpQ.assign rfl) ?_
 refine Wl.nil (PX.then_n (CT.seq (CT.region ?_)))
 refine Wl.q rfl rfl (OpQ.assign rfl) ?_
 refine Wl.nil (PX.then_n (CT.seq (CT.block ?_)))
 refine CT.nilrow 5 1 ?_
 refine CT.loop (ι := Nat × Wd × Option Addr × Nat) (fun (q, l, a', c') => q < S.sq.n ∧ Fw S.sq q0 (wl l) q ∧ (∀ b ∈ l, 97 ≤ b.toNat ∧ b.toNat < 97 + S.L) ∧ l.length + δ q ≤ δ q0) (fun (q, l, a', c') => [(0, .pointer (some ⟨bs, 0, none⟩)), (1, .int .i64 ((q : Nat) : Int)), (5, .slice a' l.length c')]) (fun (q, l, a', c') => [.row 5 1 (.slice a' l.length c') l.length (l.map bv)]) (fun (q, l, a', c') => δ q) (q0, [], none, 0) ⟨hq0, Fw.start _ _, (fun _ h => by cases h), by simp⟩ ⟨rfl, rfl, rfl, trivial⟩ (HSub.refl _) (fun ⟨q, l, a', c'⟩ ⟨hq, hw, hok, hld⟩ K0 hK0 => ?_)
 dsimp only
 have hqr : q < S.rs.length := by rw [← S.n_eq]; exact hq
 have hd0 := hf.lt q0 hq0
 have hFl := hf.len
 have hnn := S.n_eq
 refine CT.seq (CT.seq (CT.region ?_))
 refine Wl.q rfl rfl (OpQ.move rfl) ?_
 refine Wl.q rfl rfl (OpQ.nilCheckP rfl) ?_
 refine Wl.q rfl rfl (OpQ.fieldAddr zf101 rfl) ?_
 refine Wl.q rfl rfl (OpQ.fieldAddr zf42 rfl) ?_
 refine Wl.q rfl rfl (OpQ.loadG (a := some ⟨bs, 0, none⟩) (j := 5) zf43 rfl (fun w hH => hH.use hB) rfl) ?_
 refine Wl.q rfl rfl (OpQ.move rfl) ?_
 refine Wl.q rfl rfl (OpQ.index1 zf25 zf44 rfl rfl (by omega) (hes (by omega))) ?_
 refine Wl.q rfl rfl (OpQ.loadG zf45 rfl (fun w hH => (hH.use hS).e) (getMap bo S.en false (j := q) (by omega))) ?_
 refine Wl.know 13 (v' := .bool (S.sq.e q)) rfl rfl ?_
 refine Wl.q rfl rfl (OpQ.not rfl) ?_
 refine Wl.nil (PX.then_n ?_)
 refine CT.cond rfl (fun h14 => ?_) (fun h14 => ?_)
 ·
  have he : S.sq.e q = false := by simpa using h14
  obtain ⟨r, hx, hto, hcr, hδ⟩ := hf.on q hq (hco q hq) he
  have hx6 : F.getD q 0 < S.L := hx
  have hr := hv.lt q _ r hq hx hto
  have hw2 := hw.step hto
  rw [← wl_add (show F.getD q 0 < 100 by omega)] at hw2
  have hok2 : ∀ b ∈ l ++ [(UInt8.ofNat (97 + F.getD q 0))], 97 ≤ b.toNat ∧ b.toNat < 97 + S.L := fun b hb => by
   rcases List.mem_append.1 hb with h1 | h1
   ·
    exact hok b h1
   ·
    rw [List.mem_singleton] at h1; subst h1; rw [u8a (by omega)]; omega
  have hld2 : (l ++ [(UInt8.ofNat (97 + F.getD q 0))]).length + δ r ≤ δ q0 := by rw [List.length_append]; show l.length + 1 + _ ≤ _; omega
  have hrl := hv.rlen hqr
  refine CT.skip (PX.then_n (CT.block (CT.seq (CT.region ?_))))
  refine Wl.q rfl rfl (OpQ.move rfl) ?_
  refine Wl.q rfl rfl (OpQ.move rfl) ?_
  refine Wl.q rfl rfl (OpQ.nilCheckP rfl) ?_
  refine Wl.q rfl rfl (OpQ.fieldAddr zf102 rfl) ?_
  refine Wl.q rfl rfl (OpQ.loadG (a := some ⟨bs, 0, none⟩) (j := 7) zf10 rfl (fun w hH => hH.use hB) rfl) ?_
  refine Wl.q rfl rfl (OpQ.move rfl) ?_
  refine Wl.q rfl rfl (OpQ.index1 zf0 zf1 rfl rfl (by omega) (ha1 (by omega))) ?_
  refine Wl.q rfl rfl (OpQ.loadG zf8 rfl (fun w hH => hH.use hF) (getMap zn F 0 (j := q) (by omega))) ?_
  refine Wl.q rfl rfl (OpQ.conv rfl (conv_i64_u8 zf13 zf3 _ (by omega))) ?_
  refine Wl.q rfl rfl (OpQ.add8 rfl rfl (by omega)) ?_
  refine Wl.know 24 (v' := bv (UInt8.ofNat (97 + F.getD q 0))) rfl (bv_add (by omega)) ?_
  refine Wl.g rfl rfl (OpG.lit1 zf2 zf14 rfl rfl rfl) ?_
  rintro b25 _
  refine Wl.g rfl rfl (OpG.append zf2 zf14 (by rfl) (by decide) rfl rfl (p := 1) rfl (fun w hH => hH.rd .here) ⟨rfl, (by simp [Value.oneCell']), (by omega), (by omega)⟩ (nm := (l ++ [(UInt8.ofNat (97 + F.getD q 0))]).length) (by rw [List.length_append]; rfl) (all := (l ++ [(UInt8.ofNat (97 + F.getD q 0))]).map bv) (by rw [List.map_append]; rfl)) ?_
  rintro ⟨a26, c26⟩ h26
  refine Wl.q rfl rfl (OpQ.assign rfl) ?_
  refine Wl.nil (PX.then_n ?_)
  refine CT.draw 18 zf6 ?_
  refine RA.q 0 (by kernel_rfl) rfl rfl rfl (.refl _) (OpQ.move rfl) ?_
  refine RA.q 1 (by kernel_rfl) rfl rfl rfl (.refl _) (OpQ.nilCheckP rfl) ?_
  refine RA.q 2 (by kernel_rfl) rfl rfl rfl (.refl _) (OpQ.fieldAddr zf101 rfl) ?_
  refine RA.q 3 (by kernel_rfl) rfl rfl rfl (.refl _) (OpQ.fieldAddr zf30 rfl) ?_
  refine RA.q 4 (by kernel_rfl) rfl rfl rfl (.refl _) (OpQ.loadG (a := some ⟨bs, 0, none⟩) (j := 3) zf31 rfl (fun w hH => hH.use hB) rfl) ?_
  refine RA.q 5 (by kernel_rfl) rfl rfl rfl (.refl _) (OpQ.move rfl) ?_
  refine RA.q 6 (by kernel_rfl) rfl rfl rfl (.refl _) (OpQ.index1 zf21 zf32 rfl rfl (by omega) (hns (by omega))) ?_
  refine RA.q 7 (by kernel_rfl) rfl rfl rfl (.refl _) (OpQ.loadG zf10 rfl (fun w hH => (hH.use hS).n) (getMap rxv S.rs rx0 (j := q) (by omega))) ?_
  refine RA.q 8 (by kernel_rfl) rfl rfl rfl (.refl _) (OpQ.move rfl) ?_
  refine RA.q 9 (by kernel_rfl) rfl rfl rfl (.refl _) (OpQ.nilCheckP rfl) ?_
  refine RA.q 10 (by kernel_rfl) rfl rfl rfl (.refl _) (OpQ.fieldAddr zf102 rfl) ?_
  refine RA.q 11 (by kernel_rfl) rfl rfl rfl (.refl _) (OpQ.loadG (a := some ⟨bs, 0, none⟩) (j := 7) zf10 rfl (fun w hH => hH.use hB) rfl) ?_
  refine RA.q 12 (by kernel_rfl) rfl rfl rfl (.refl _) (OpQ.move rfl) ?_
  refine RA.q 13 (by kernel_rfl) rfl rfl rfl (.refl _) (OpQ.index1 zf0 zf1 rfl rfl (by omega) (ha1 (by omega))) ?_
  refine RA.q 14 (by kernel_rfl) rfl rfl rfl (.refl _) (OpQ.loadG zf8 rfl (fun w hH => hH.use hF) (getMap zn F 0 (j := q) (by omega))) ?_
  refine RA.q 15 (by kernel_rfl) rfl rfl rfl (.refl _) (OpQ.index1 zf0 zf1 rfl rfl (by omega) (hrs q (by omega) (by omega))) ?_
  refine RA.q 16 (by kernel_rfl) rfl rfl rfl (.refl _) (OpQ.loadG zf8 rfl (fun w hH => (hH.use hS).r _ (getDm (show q < S.rs.length by omega))) (getMap zo (S.rs.getD q rx0).xs none (j := (F.getD q 0)) (by omega))) ?_
  refine RA.know 43 (v' := .int .i64 ((r : Nat) : Int)) rfl ((congrArg zo (S.to_eq q (F.getD q 0)).symm).trans (by rw [hto]; rfl)) ?_
  refine RA.q 17 (by kernel_rfl) rfl rfl rfl (.refl _) (OpQ.assign rfl) ?_
  refine RA.tail ?_
  refine RT.done (by kernel_rfl) ?_
  refine PX.block_n ?_
  exact PX.loop hK0 (r, l ++ [(UInt8.ofNat (97 + F.getD q 0))], a26, c26) ⟨hr, hw2, hok2, hld2⟩ hδ ⟨rfl, rfl, rfl, trivial⟩ (.drop (HSub.refl _))
 ·
  have he : S.sq.e q = true := by simpa using h14
  refine CT.exit (PX.then_x (PX.then_x (PX.block_x (PX.then_n (CT.seq (CT.region ?_))))))
  refine Wl.q rfl rfl (OpQ.move rfl) ?_
  refine Wl.q rfl rfl (OpQ.convBS (l := l) zf2 zf3 zf4 rfl (fun w hH => hH.rd .here)) ?_
  refine Wl.q rfl rfl (OpQ.assign rfl) ?_
  refine Wl.nil (PX.then_n (CT.ret ?_))
  refine PX.ret1 rfl rfl (fun w' hH => ?_)
  exact ⟨l, ⟨hok, by omega, hw.done he⟩, rfl, hH.ext⟩

end Go.Proofs.Ytamolakhpcofhaa

