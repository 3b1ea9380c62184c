/-
  What functions of the program compute, each by its walk. Conditions: those that each theorem names.
-/
import Derived.Test.YtmggcdegekbncabGreatDoorEng1
import Derived.Test.YtmggcdegekbncabGreatDoorMod1
import Derived.Test.YtmggcdegekbncabGreatDoorXGB21
import Derived.Test.YtmggcdegekbncabGreatDoorXF
set_option linter.unusedSimpArgs false
namespace Go.Proofs.YtmggcdegekbncabGreatDoor
open Go Go.Eng Go.Am Go.Ex
open Go.Tp (zi)
open Go.Tl (mayL Wd okW okB bo)
open Go.Ex.simp (simpL)
open Go.Ex.dv (dvL dvC)
open Go.Ex.hasU (hasAny hasAll)
open Go.Ex.wf (wfL)
open Go.Ex.szE (szL)
open Go.Ex.dpE (dpL)
open Go.Ex.cmpE (cmpL)
open Go.Ex.fmtE (fmtK fmtR)
theorem K30_mixed : Tryz.prog.follows .mixedOrders = true := by kernel_rfl
theorem K30_fa109_1 : fieldB Tryz.prog 109 1 = some 1 := by kernel_rfl
theorem K30_sc3 : scalarB Tryz.prog 3 = some true := by kernel_rfl
theorem K30_fa109_0 : fieldB Tryz.prog 109 0 = some 0 := by kernel_rfl
theorem K30_sc9 : scalarB Tryz.prog 9 = some true := by kernel_rfl
theorem K30_un9 : Tryz.prog.underlying 9 = some .string := by kernel_rfl
theorem K30_sz3 : sizeB Tryz.prog 3 = some 1 := by kernel_rfl
set_option maxRecDepth 100000 in
/-- (*semigroup/expr.parser).peek -/
theorem peek_spec (w : World) (b : Nat) (ts : Tx) (hts : ts.length ≤ 4096) (k : Nat) (hk : k ≤ ts.length) (hpre : Pre [.row 109 3 (vb b) 1 [sv ts, .int .i64 ((k : Nat) : Int), .int .i64 2]] w) : Calls Tryz.prog 67 #[.pointer (some ⟨b, 0, none⟩)] w (fun e w' => ∃ i : Nat, (i ≤ ts.length ∧ ts.drop i = skip (ts.drop k)) ∧ e = .returned (bv (hd (skip (ts.drop k)))) ∧ Post [b] [.row 109 3 (vb b) 1 [sv ts, .int .i64 ((i : Nat) : Int), .int .i64 2]] w w') := by
 refine enterX (args := [.pointer (some ⟨b, 0, none⟩)]) hpre 51 Tryz.func67 rfl rfl rfl ?_
 refine CT.seq (CT.region ?_)
 refine Wl.q rfl rfl (OpQ.assign rfl) ?_
 refine Wl.nil (PX.then_n (CT.seq (CT.block ?_)))
 refine CT.loop (ι := Nat) (fun j => j ≤ ts.length ∧ skip (ts.drop j) = skip (ts.drop k)) (fun j => [(0, .pointer (some ⟨b, 0, none⟩))]) (fun j => [.row 109 3 (vb b) 1 [sv ts, .int .i64 ((j : Nat) : Int), .int .i64 2]]) (fun j => ts.length - j) k ⟨hk, rfl⟩ ⟨rfl, trivial⟩ (HSub.refl _) (fun j ⟨hj, hs⟩ K0 hK0 => ?_)
 refine CT.seq (CT.seq ?_)
 refine CT.draw 22 K30_mixed ?_
 refine RA.q 0 (by kernel_rfl) rfl rfl rfl (.refl _) (OpQ.move rfl) ?_
 refine RA.q 1 (by kernel_rfl) rfl rfl rfl (.refl _) (OpQ.nilCheckP rfl) ?_
 refine RA.q 2 (by kernel_rfl) rfl rfl rfl (.refl _) (OpQ.fieldAddr K30_fa109_1 rfl) ?_
 refine RA.q 3 (by kernel_rfl) rfl rfl rfl (.refl _) (OpQ.loadF (b := b) K30_sc3 rfl (by repeat (first | exact Has.here | apply Has.there)) (by rfl)) ?_
 refine RA.q 4 (by kernel_rfl) rfl rfl rfl (.refl _) (OpQ.move rfl) ?_
 refine RA.q 5 (by kernel_rfl) rfl rfl rfl (.refl _) (OpQ.nilCheckP rfl) ?_
 refine RA.q 6 (by kernel_rfl) rfl rfl rfl (.refl _) (OpQ.fieldAddr K30_fa109_0 rfl) ?_
 refine RA.q 7 (by kernel_rfl) rfl rfl rfl (.refl _) (OpQ.loadF (b := b) K30_sc9 rfl (by repeat (first | exact Has.here | apply Has.there)) (by rfl)) ?_
 refine RA.q 8 (by kernel_rfl) rfl rfl rfl (.refl _) (OpQ.lenSv K30_un9 rfl) ?_
 refine RA.q 9 (by kernel_rfl) rfl rfl rfl (.refl _) (OpQ.lss rfl rfl) ?_
 refine RA.q 10 (by kernel_rfl) rfl rfl rfl (.refl _) (OpQ.move rfl) ?_
 refine RA.split 13 rfl (fun hg13 => ?_) (fun hg13 => ?_)
 ·
  have hg13 := of_decide_eq_true hg13
  refine RA.q 11 (by kernel_rfl) rfl rfl rfl (.refl _) (OpQ.move rfl) ?_
  refine RA.q 12 (by kernel_rfl) rfl rfl rfl (.refl _) (OpQ.nilCheckP rfl) ?_
  refine RA.q 13 (by kernel_rfl) rfl rfl rfl (.refl _) (OpQ.fieldAddr K30_fa109_0 rfl) ?_
  refine RA.q 14 (by kernel_rfl) rfl rfl rfl (.refl _) (OpQ.loadF (b := b) K30_sc9 rfl (by repeat (first | exact Has.here | apply Has.there)) (by rfl)) ?_
  refine RA.q 15 (by kernel_rfl) rfl rfl rfl (.refl _) (OpQ.move rfl) ?_
  refine RA.q 16 (by kernel_rfl) rfl rfl rfl (.refl _) (OpQ.nilCheckP rfl) ?_
  refine RA.q 17 (by kernel_rfl) rfl rfl rfl (.refl _) (OpQ.fieldAddr K30_fa109_1 rfl) ?_
  refine RA.q 18 (by kernel_rfl) rfl rfl rfl (.refl _) (OpQ.loadF (b := b) K30_sc3 rfl (by repeat (first | exact Has.here | apply Has.there)) (by rfl)) ?_
  refine RA.q 19 (by kernel_rfl) rfl rfl rfl (.refl _) (OpQ.indexSvN K30_un9 rfl rfl (by omega)) ?_
  refine RA.q 20 (by kernel_rfl) rfl rfl rfl (.refl _) (OpQ.eql rfl rfl) ?_
  refine RA.q 21 (by kernel_rfl) rfl rfl rfl (.refl _) (OpQ.pickT rfl rfl) ?_
  refine RA.tail ?_
  refine RT.done (by kernel_rfl) ?_
  refine PX.then_n ?_
  refine CT.cond rfl (fun h24 => ?_) (fun h24 => ?_)
  ·
   have h24 := of_decide_eq_true h24
   refine CT.skip (PX.then_n (CT.block (CT.region ?_)))
   refine Wl.q rfl rfl (OpQ.move rfl) ?_
   refine Wl.q rfl rfl (OpQ.nilCheckP rfl) ?_
   refine Wl.q rfl rfl (OpQ.fieldAddr K30_fa109_1 rfl) ?_
   refine Wl.q rfl rfl (OpQ.loadF (b := b) K30_sc3 rfl (by repeat (first | exact Has.here | apply Has.there)) (by rfl)) ?_
   refine Wl.q rfl rfl (OpQ.add rfl rfl (by omega)) ?_
   refine Wl.q rfl rfl (OpQ.nilCheckP rfl) ?_
   refine Wl.q rfl rfl (OpQ.fieldAddr K30_fa109_1 rfl) ?_
   refine Wl.g rfl rfl (OpG.storeRow (a := some ⟨b, 0, none⟩) K30_sz3 rfl rfl rfl (by repeat (first | exact Upd.here | apply Upd.there)) (by simp)) ?_
   rintro _ _
   refine Wl.nil (PX.block_n ?_)
   exact PX.loop hK0 (j + 1) ⟨by omega, by rw [← skip_sp (by omega) h24]; exact hs⟩ (show ts.length - (j + 1) < ts.length - j by omega) ⟨rfl, trivial⟩ (HSub.refl _)
  ·
   have h24 := of_decide_eq_false h24
   refine CT.exit (PX.then_x (PX.then_x (PX.block_x (PX.then_n (CT.seq (CT.seq ?_))))))
   refine CT.draw 10 K30_mixed ?_
   refine RA.q 0 (by kernel_rfl) rfl rfl rfl (.refl _) (OpQ.move rfl) ?_
   refine RA.q 1 (by kernel_rfl) rfl rfl rfl (.refl _) (OpQ.nilCheckP rfl) ?_
   refine RA.q 2 (by kernel_rfl) rfl rfl rfl (.refl _) (OpQ.fieldAddr K30_fa109_1 rfl) ?_
   refine RA.q 3 (by kernel_rfl) rfl rfl rfl (.refl _) (OpQ.loadF (b := b) K30_sc3 rfl (by repeat (first | exact Has.here | apply Has.there)) (by rfl)) ?_
   refine RA.q 4 (by kernel_rfl) rfl rfl rfl (.refl _) (OpQ.move rfl) ?_
   refine RA.q 5 (by kernel_rfl) rfl rfl rfl (.refl _) (OpQ.nilCheckP rfl) ?_
   refine RA.q 6 (by kernel_rfl) rfl rfl rfl (.refl _) (OpQ.fieldAddr K30_fa109_0 rfl) ?_
   refine RA.q 7 (by kernel_rfl) rfl rfl rfl (.refl _) (OpQ.loadF (b := b) K30_sc9 rfl (by repeat (first | exact Has.here | apply Has.there)) (by rfl)) ?_
   refine RA.q 8 (by kernel_rfl) rfl rfl rfl (.refl _) (OpQ.lenSv K30_un9 rfl) ?_
   refine RA.q 9 (by kernel_rfl) rfl rfl rfl (.refl _) (OpQ.eql rfl rfl) ?_
   refine RA.tail ?_
   refine RT.done (by kernel_rfl) ?_
   refine PX.then_n ?_
   refine CT.cond rfl (fun h41 => ?_) (fun h41 => ?_)
   ·
    have h41 := of_decide_eq_true h41
    refine CT.seq (CT.region ?_)
    refine Wl.q rfl rfl (OpQ.assign rfl) ?_
    refine Wl.nil (PX.then_n (CT.ret (PX.then_r ?_)))
    refine PX.ret1 rfl rfl (fun w' hH => ?_)
    exfalso
    omega
   ·
    have h41 := of_decide_eq_false h41
    refine CT.skip (PX.then_n (CT.seq ?_))
    refine CT.draw 10 K30_mixed ?_
    refine RA.q 0 (by kernel_rfl) rfl rfl rfl (.refl _) (OpQ.move rfl) ?_
    refine RA.q 1 (by kernel_rfl) rfl rfl rfl (.refl _) (OpQ.nilCheckP rfl) ?_
    refine RA.q 2 (by kernel_rfl) rfl rfl rfl (.refl _) (OpQ.fieldAddr K30_fa109_0 rfl) ?_
    refine RA.q 3 (by kernel_rfl) rfl rfl rfl (.refl _) (OpQ.loadF (b := b) K30_sc9 rfl (by repeat (first | exact Has.here | apply Has.there)) (by rfl)) ?_
    refine RA.q 4 (by kernel_rfl) rfl rfl rfl (.refl _) (OpQ.move rfl) ?_
    refine RA.q 5 (by kernel_rfl) rfl rfl rfl (.refl _) (OpQ.nilCheckP rfl) ?_
    refine RA.q 6 (by kernel_rfl) rfl rfl rfl (.refl _) (OpQ.fieldAddr K30_fa109_1 rfl) ?_
    refine RA.q 7 (by kernel_rfl) rfl rfl rfl (.refl _) (OpQ.loadF (b := b) K30_sc3 rfl (by repeat (first | exact Has.here | apply Has.there)) (by rfl)) ?_
    refine RA.q 8 (by kernel_rfl) rfl rfl rfl (.refl _) (OpQ.indexSvN K30_un9 rfl rfl (by omega)) ?_
    refine RA.q 9 (by kernel_rfl) rfl rfl rfl (.refl _) (OpQ.assign rfl) ?_
    refine RA.tail ?_
    refine RT.done (by kernel_rfl) ?_
    refine PX.then_n (CT.ret ?_)
    refine PX.ret1 rfl rfl (fun w' hH => ?_)
    exact ⟨j, ⟨hj, by rw [← hs, skip_no (by omega) h24]⟩, by rw [← hs, skip_no (by omega) h24, hd_drop (by omega)], hH.post⟩
 ·
  have hg13 := of_decide_eq_false hg13
  refine RA.skip 11 (by kernel_rfl) rfl rfl rfl (.refl _) ?_
  refine RA.skip 12 (by kernel_rfl) rfl rfl rfl (.refl _) ?_
  refine RA.skip 13 (by kernel_rfl) rfl rfl rfl (.refl _) ?_
  refine RA.skip 14 (by kernel_rfl) rfl rfl rfl (.refl _) ?_
  refine RA.skip 15 (by kernel_rfl) rfl rfl rfl (.refl _) ?_
  refine RA.skip 16 (by kernel_rfl) rfl rfl rfl (.refl _) ?_
  refine RA.skip 17 (by kernel_rfl) rfl rfl rfl (.refl _) ?_
  refine RA.skip 18 (by kernel_rfl) rfl rfl rfl (.refl _) ?_
  refine RA.skip 19 (by kernel_rfl) rfl rfl rfl (.refl _) ?_
  refine RA.skip 20 (by kernel_rfl) rfl rfl rfl (.refl _) ?_
  refine RA.q 21 (by kernel_rfl) rfl rfl rfl (.refl _) (OpQ.pickF rfl rfl) ?_
  refine RA.tail ?_
  refine RT.done (by kernel_rfl) ?_
  refine PX.then_n ?_
  refine CT.condF rfl ?_
  refine CT.exit (PX.then_x (PX.then_x (PX.block_x (PX.then_n (CT.seq (CT.seq ?_))))))
  refine CT.draw 10 K30_mixed ?_
  refine RA.q 0 (by kernel_rfl) rfl rfl rfl (.refl _) (OpQ.move rfl) ?_
  refine RA.q 1 (by kernel_rfl) rfl rfl rfl (.refl _) (OpQ.nilCheckP rfl) ?_
  refine RA.q 2 (by kernel_rfl) rfl rfl rfl (.refl _) (OpQ.fieldAddr K30_fa109_1 rfl) ?_
  refine RA.q 3 (by kernel_rfl) rfl rfl rfl (.refl _) (OpQ.loadF (b := b) K30_sc3 rfl (by repeat (first | exact Has.here | apply Has.there)) (by rfl)) ?_
  refine RA.q 4 (by kernel_rfl) rfl rfl rfl (.refl _) (OpQ.move rfl) ?_
  refine RA.q 5 (by kernel_rfl) rfl rfl rfl (.refl _) (OpQ.nilCheckP rfl) ?_
  refine RA.q 6 (by kernel_rfl) rfl rfl rfl (.refl _) (OpQ.fieldAddr K30_fa109_0 rfl) ?_
  refine RA.q 7 (by kernel_rfl) rfl rfl rfl (.refl _) (OpQ.loadF (b := b) K30_sc9 rfl (by repeat (first | exact Has.here | apply Has.there)) (by rfl)) ?_
  refine RA.q 8 (by kernel_rfl) rfl rfl rfl (.refl _) (OpQ.lenSv K30_un9 rfl) ?_
  refine RA.q 9 (by kernel_rfl) rfl rfl rfl (.refl _) (OpQ.eql rfl rfl) ?_
  refine RA.tail ?_
  refine RT.done (by kernel_rfl) ?_
  refine PX.then_n ?_
  refine CT.cond rfl (fun h41 => ?_) (fun h41 => ?_)
  ·
   have h41 := of_decide_eq_true h41
   refine CT.seq (CT.region ?_)
   refine Wl.q rfl rfl (OpQ.assign rfl) ?_
   refine Wl.nil (PX.then_n (CT.ret (PX.then_r ?_)))
   refine PX.ret1 rfl rfl (fun w' hH => ?_)
   exact ⟨j, ⟨hj, by rw [← hs, skip_end (by omega), List.drop_of_length_le (by omega)]⟩, by rw [← hs, skip_end (by omega)]; rfl, hH.post⟩
  ·
   have h41 := of_decide_eq_false h41
   refine CT.skip (PX.then_n (CT.seq ?_))
   refine CT.draw 10 K30_mixed ?_
   refine RA.q 0 (by kernel_rfl) rfl rfl rfl (.refl _) (OpQ.move rfl) ?_
   refine RA.q 1 (by kernel_rfl) rfl rfl rfl (.refl _) (OpQ.nilCheckP rfl) ?_
   refine RA.q 2 (by kernel_rfl) rfl rfl rfl (.refl _) (OpQ.fieldAddr K30_fa109_0 rfl) ?_
   refine RA.q 3 (by kernel_rfl) rfl rfl rfl (.refl _) (OpQ.loadF (b := b) K30_sc9 rfl (by repeat (first | exact Has.here | apply Has.there)) (by rfl)) ?_
   refine RA.q 4 (by kernel_rfl) rfl rfl rfl (.refl _) (OpQ.move rfl) ?_
   refine RA.q 5 (by kernel_rfl) rfl rfl rfl (.refl _) (OpQ.nilCheckP rfl) ?_
   refine RA.q 6 (by kernel_rfl) rfl rfl rfl (.refl _) (OpQ.fieldAddr K30_fa109_1 rfl) ?_
   refine RA.q 7 (by kernel_rfl) rfl rfl rfl (.refl _) (OpQ.loadF (b := b) K30_sc3 rfl (by repeat (first | exact Has.here | apply Has.there)) (by rfl)) ?_
   refine RA.q 8 (by kernel_rfl) rfl rfl rfl (.refl _) (OpQ.indexSvN K30_un9 rfl rfl (by omega)) ?_
   refine RA.q 9 (by kernel_rfl) rfl rfl rfl (.refl _) (OpQ.assign rfl) ?_
   refine RA.tail ?_
   refine RT.done (by kernel_rfl) ?_
   refine PX.then_n (CT.ret ?_)
   refine PX.ret1 rfl rfl (fun w' hH => ?_)
   exfalso
   omega

theorem K30_un5 : Tryz.prog.underlying 5 = some (.int .u8) := by kernel_rfl
theorem K30_un3 : Tryz.prog.underlying 3 = some (.int .i64) := by kernel_rfl
theorem K30_fa109_2 : fieldB Tryz.prog 109 2 = some 2 := by kernel_rfl
set_option maxRecDepth 100000 in
/-- (*semigroup/expr.parser).isLetter -/
theorem isLet_spec (w : World) (b : Nat) (ts : Tx) (k : Nat) (hpre : Pre [.row 109 3 (vb b) 1 [sv ts, .int .i64 ((k : Nat) : Int), .int .i64 2]] w) (x : UInt8) : Calls Tryz.prog 135 #[.pointer (some ⟨b, 0, none⟩), bv x] w (fun e w' => ∃ _i : Unit, True ∧ e = .returned (.bool (isLet 2 x)) ∧ Post [b] [.row 109 3 (vb b) 1 [sv ts, .int .i64 ((k : Nat) : Int), .int .i64 2]] w w') := by
 have hx9 := x.toNat_lt
 refine enterX (args := [.pointer (some ⟨b, 0, none⟩), bv x]) hpre 17 Tryz.func135 rfl rfl rfl ?_
 refine CT.seq (CT.region ?_)
 refine Wl.q rfl rfl (OpQ.assign rfl) ?_
 refine Wl.nil (PX.then_n (CT.seq (CT.region ?_)))
 refine Wl.q rfl rfl (OpQ.move rfl) ?_
 refine Wl.q rfl rfl (OpQ.geq rfl rfl) ?_
 refine Wl.q rfl rfl (OpQ.move rfl) ?_
 refine Wl.split 7 rfl (fun hg7 => ?_) (fun hg7 => ?_)
 ·
  have hg7 := of_decide_eq_true hg7
  refine Wl.q rfl rfl (OpQ.move rfl) ?_
  refine Wl.q rfl rfl (OpQ.sub8 rfl rfl (by omega)) ?_
  refine Wl.q rfl rfl (OpQ.conv rfl (conv_u8_i64 K30_un5 K30_un3 _ (by omega))) ?_
  refine Wl.q rfl rfl (OpQ.move rfl) ?_
  refine Wl.q rfl rfl (OpQ.nilCheckP rfl) ?_
  refine Wl.q rfl rfl (OpQ.fieldAddr K30_fa109_2 rfl) ?_
  refine Wl.q rfl rfl (OpQ.loadF (b := b) K30_sc3 rfl (by repeat (first | exact Has.here | apply Has.there)) (by rfl)) ?_
  refine Wl.q rfl rfl (OpQ.lss rfl rfl) ?_
  refine Wl.q rfl rfl (OpQ.pickT rfl rfl) ?_
  refine Wl.q rfl rfl (OpQ.assign rfl) ?_
  refine Wl.nil (PX.then_n (CT.ret ?_))
  refine PX.ret1 rfl rfl (fun w' hH => ?_)
  exact ⟨(), trivial, by rw [isLet_dec]; exact congrArg (fun z => Ending.returned (Value.bool z)) (by rw [decide_eq_decide]; omega), hH.post⟩
 ·
  have hg7 := of_decide_eq_false hg7
  refine Wl.skip rfl rfl ?_
  refine Wl.skip rfl rfl ?_
  refine Wl.skip rfl rfl ?_
  refine Wl.skip rfl rfl ?_
  refine Wl.skip rfl rfl ?_
  refine Wl.skip rfl rfl ?_
  refine Wl.skip rfl rfl ?_
  refine Wl.skip rfl rfl ?_
  refine Wl.q rfl rfl (OpQ.pickF rfl rfl) ?_
  refine Wl.q rfl rfl (OpQ.assign rfl) ?_
  refine Wl.nil (PX.then_n (CT.ret ?_))
  refine PX.ret1 rfl rfl (fun w' hH => ?_)
  exact ⟨(), trivial, by rw [isLet_dec, decide_eq_false (by omega)], hH.post⟩

theorem K30_go67 : isGo Tryz.prog 67 = true := by kernel_rfl
theorem K30_go135 : isGo Tryz.prog 135 = true := by kernel_rfl
set_option maxRecDepth 100000 in
/-- (*semigroup/expr.parser).begins -/
theorem begins_spec (w : World) (b : Nat) (ts : Tx) (hts : ts.length ≤ 4096) (k : Nat) (hk : k ≤ ts.length) (hpre : Pre [.row 109 3 (vb b) 1 [sv ts, .int .i64 ((k : Nat) : Int), .int .i64 2]] w) : Calls Tryz.prog 131 #[.pointer (some ⟨b, 0, none⟩)] w (fun e w' => ∃ i : Nat, (i ≤ ts.length ∧ ts.drop i = skip (ts.drop k)) ∧ e = .returned (.bool (begB 2 (hd (skip (ts.drop k))))) ∧ Post [b] [.row 109 3 (vb b) 1 [sv ts, .int .i64 ((i : Nat) : Int), .int .i64 2]] w w') := by
 refine enterX (args := [.pointer (some ⟨b, 0, none⟩)]) hpre 25 Tryz.func131 rfl rfl rfl ?_
 refine CT.seq (CT.region ?_)
 refine Wl.q rfl rfl (OpQ.assign rfl) ?_
 refine Wl.nil (PX.then_n (CT.seq (CT.region ?_)))
 refine Wl.q rfl rfl (OpQ.move rfl) ?_
 refine Wl.g rfl rfl (OpG.callX K30_go67 rfl (.cons .here .nil) (fun _ => (.cons .nil)) (fun w hH hp => peek_spec w b ts hts k hk hp)) ?_
 rintro j ⟨hj, hd5⟩
 refine Wl.q rfl rfl (OpQ.assign rfl) ?_
 refine Wl.nil (PX.then_n (CT.seq (CT.region ?_)))
 refine Wl.q rfl rfl (OpQ.move rfl) ?_
 refine Wl.q rfl rfl (OpQ.eql rfl rfl) ?_
 refine Wl.q rfl rfl (OpQ.move rfl) ?_
 refine Wl.split 8 rfl (fun hg8 => ?_) (fun hg8 => ?_)
 ·
  have hg8 := of_decide_eq_true hg8
  refine Wl.skip rfl rfl ?_
  refine Wl.skip rfl rfl ?_
  refine Wl.q rfl rfl (OpQ.pickT rfl rfl) ?_
  refine Wl.q rfl rfl (OpQ.move rfl) ?_
  refine Wl.skip rfl rfl ?_
  refine Wl.skip rfl rfl ?_
  refine Wl.q rfl rfl (OpQ.pickT rfl rfl) ?_
  refine Wl.q rfl rfl (OpQ.move rfl) ?_
  refine Wl.skip rfl rfl ?_
  refine Wl.skip rfl rfl ?_
  refine Wl.q rfl rfl (OpQ.pickT rfl rfl) ?_
  refine Wl.q rfl rfl (OpQ.move rfl) ?_
  refine Wl.skip rfl rfl ?_
  refine Wl.skip rfl rfl ?_
  refine Wl.skip rfl rfl ?_
  refine Wl.q rfl rfl (OpQ.pickT rfl rfl) ?_
  refine Wl.q rfl rfl (OpQ.assign rfl) ?_
  refine Wl.nil (PX.then_n (CT.ret ?_))
  refine PX.ret1 rfl rfl (fun w' hH => ?_)
  exact ⟨j, ⟨hj, hd5⟩, by rw [begB_yes (by omega)], hH.post⟩
 ·
  have hg8 := of_decide_eq_false hg8
  refine Wl.q rfl rfl (OpQ.move rfl) ?_
  refine Wl.q rfl rfl (OpQ.eql rfl rfl) ?_
  refine Wl.q rfl rfl (OpQ.pickF rfl rfl) ?_
  refine Wl.q rfl rfl (OpQ.move rfl) ?_
  refine Wl.split 12 rfl (fun hg12 => ?_) (fun hg12 => ?_)
  ·
   have hg12 := of_decide_eq_true hg12
   refine Wl.skip rfl rfl ?_
   refine Wl.skip rfl rfl ?_
   refine Wl.q rfl rfl (OpQ.pickT rfl rfl) ?_
   refine Wl.q rfl rfl (OpQ.move rfl) ?_
   refine Wl.skip rfl rfl ?_
   refine Wl.skip rfl rfl ?_
   refine Wl.q rfl rfl (OpQ.pickT rfl rfl) ?_
   refine Wl.q rfl rfl (OpQ.move rfl) ?_
   refine Wl.skip rfl rfl ?_
   refine Wl.skip rfl rfl ?_
   refine Wl.skip rfl rfl ?_
   refine Wl.q rfl rfl (OpQ.pickT rfl rfl) ?_
   refine Wl.q rfl rfl (OpQ.assign rfl) ?_
   refine Wl.nil (PX.then_n (CT.ret ?_))
   refine PX.ret1 rfl rfl (fun w' hH => ?_)
   exact ⟨j, ⟨hj, hd5⟩, by rw [begB_yes (by omega)], hH.post⟩
  ·
   have hg12 := of_decide_eq_false hg12
   refine Wl.q rfl rfl (OpQ.move rfl) ?_
   refine Wl.q rfl rfl (OpQ.eql rfl rfl) ?_
   refine Wl.q rfl rfl (OpQ.pickF rfl rfl) ?_
   refine Wl.q rfl rfl (OpQ.move rfl) ?_
   refine Wl.split 16 rfl (fun hg16 => ?_) (fun hg16 => ?_)
   ·
    have hg16 := of_decide_eq_true hg16
    refine Wl.skip rfl rfl ?_
    refine Wl.skip rfl rfl ?_
    refine Wl.q rfl rfl (OpQ.pickT rfl rfl) ?_
    refine Wl.q rfl rfl (OpQ.move rfl) ?_
    refine Wl.skip rfl rfl ?_
    refine Wl.skip rfl rfl ?_
    refine Wl.skip rfl rfl ?_
    refine Wl.q rfl rfl (OpQ.pickT rfl rfl) ?_
    refine Wl.q rfl rfl (OpQ.assign rfl) ?_
    refine Wl.nil (PX.then_n (CT.ret ?_))
    refine PX.ret1 rfl rfl (fun w' hH => ?_)
    exact ⟨j, ⟨hj, hd5⟩, by rw [begB_yes (by omega)], hH.post⟩
   ·
    have hg16 := of_decide_eq_false hg16
    refine Wl.q rfl rfl (OpQ.move rfl) ?_
    refine Wl.q rfl rfl (OpQ.eql rfl rfl) ?_
    refine Wl.q rfl rfl (OpQ.pickF rfl rfl) ?_
    refine Wl.q rfl rfl (OpQ.move rfl) ?_
    refine Wl.split 20 rfl (fun hg20 => ?_) (fun hg20 => ?_)
    ·
     have hg20 := of_decide_eq_true hg20
     refine Wl.skip rfl rfl ?_
     refine Wl.skip rfl rfl ?_
     refine Wl.skip rfl rfl ?_
     refine Wl.q rfl rfl (OpQ.pickT rfl rfl) ?_
     refine Wl.q rfl rfl (OpQ.assign rfl) ?_
     refine Wl.nil (PX.then_n (CT.ret ?_))
     refine PX.ret1 rfl rfl (fun w' hH => ?_)
     exact ⟨j, ⟨hj, hd5⟩, by rw [begB_yes (by omega)], hH.post⟩
    ·
     have hg20 := of_decide_eq_false hg20
     refine Wl.q rfl rfl (OpQ.move rfl) ?_
     refine Wl.q rfl rfl (OpQ.move rfl) ?_
     refine Wl.g rfl rfl (OpG.callX K30_go135 rfl (.cons .here .nil) (fun _ => (.cons .nil)) (fun w hH hp => isLet_spec w b ts j hp (hd (skip (ts.drop k))))) ?_
     rintro _ _
     refine Wl.q rfl rfl (OpQ.pickF rfl rfl) ?_
     refine Wl.q rfl rfl (OpQ.assign rfl) ?_
     refine Wl.nil (PX.then_n (CT.ret ?_))
     refine PX.ret1 rfl rfl (fun w' hH => ?_)
     exact ⟨j, ⟨hj, hd5⟩, by rw [begB_let (by omega) (by omega) (by omega) (by omega)], hH.post⟩

theorem K30_in24 : (Tryz.prog.info? 24).map (fun i => (i.zero, i.size, i.bytes)) = some (some (.agg #[.int .i64 0, .int .i64 0, .slice none 0 0]), 3, 40) := by kernel_rfl
theorem K30_un22 : Tryz.prog.underlying 22 = some (.slice 24) := by kernel_rfl
theorem K30_sz24 : sizeB Tryz.prog 24 = some 3 := by kernel_rfl
theorem K30_ag24 : isAggB Tryz.prog 24 = some true := by kernel_rfl
theorem K30_pl24 : placesB Tryz.prog 24 = some (#[.int .i64 0, .int .i64 0, .slice none 0 0], [(0, 1), (1, 1), (2, 1)]) := by kernel_rfl
set_option maxRecDepth 100000 in
/-- semigroup/expr.node -/
theorem nodeE_spec (w : World) (ks : List Xv) (ka : Option Addr) (kc : Nat) (hk : Stays [] w (kin ka ks)) (o : Int) : Calls Tryz.prog 123 #[.int .i64 o, .slice ka ks.length kc] w (fun e w' => ∃ v : Xv, (toE v = nodeE o (ks.map toE) ∧ ∀ w, kin ka ks w → evm v w) ∧ e = .returned (evv v) ∧ Ext [] w w') := by
 have hka : 0 < ks.length → ka.isSome = true := fun h => hk.now.1.isSome (j := 0) (by rw [flat_len evc_len]; omega)
 refine enter (args := [.int .i64 o, .slice ka ks.length kc]) [] 14 Tryz.func123 rfl rfl rfl ?_
 refine CT.seq (CT.region ?_)
 refine Wl.g rfl rfl (OpG.alloc (zs := [.int .i64 0, .int .i64 0, .slice none 0 0]) K30_in24 rfl rfl) ?_
 rintro b4 _
 refine Wl.nil (PX.then_n (CT.seq (CT.seq (CT.region ?_))))
 refine Wl.q rfl rfl (OpQ.move rfl) ?_
 refine Wl.q rfl rfl (OpQ.len K30_un22 rfl) ?_
 refine Wl.q rfl rfl (OpQ.eql rfl rfl) ?_
 refine Wl.nil (PX.then_n ?_)
 refine CT.cond rfl (fun h7 => ?_) (fun h7 => ?_)
 ·
  have h7 := of_decide_eq_true h7
  refine CT.seq (CT.region ?_)
  refine Wl.q rfl rfl (OpQ.move rfl) ?_
  refine Wl.q rfl rfl (OpQ.index K30_un22 K30_sz24 rfl rfl (by omega) (hka (by omega))) ?_
  refine Wl.q rfl rfl (OpQ.loadAggG (cs := evc (ks.getD 0 ev0)) K30_ag24 K30_sz24 rfl (fun w hH => (hH.use hk).1) (flat_cells evc_len ks ev0 (by omega))) ?_
  refine Wl.know 10 (v' := evv (ks.getD 0 ev0)) rfl rfl ?_
  refine Wl.g rfl rfl (OpG.storeV (b := b4) K30_sz24 rfl rfl rfl rfl (by repeat (first | exact Upd.here | apply Upd.there))) ?_
  rintro _ _
  refine Wl.nil (PX.then_n (CT.ret (PX.then_r ?_)))
  refine PX.retC rfl rfl (by repeat (first | exact Has.here | apply Has.there)) K30_ag24 K30_sz24 (by rfl) (fun w' hH => ?_)
  obtain ⟨x, rfl⟩ := List.length_eq_one_iff.1 (show ks.length = 1 by omega)
  exact ⟨x, ⟨rfl, fun w h => h.2.1 x List.mem_cons_self⟩, rfl, hH.ext⟩
 ·
  have h7 := of_decide_eq_false h7
  refine CT.skip (PX.then_n (CT.seq (CT.region ?_)))
  refine Wl.q rfl rfl (OpQ.move rfl) ?_
  refine Wl.q rfl rfl (OpQ.move rfl) ?_
  refine Wl.q rfl rfl (OpQ.build (cells := #[.int .i64 o, .int .i64 0, .slice ka ks.length kc]) K30_pl24 rfl rfl) ?_
  refine Wl.g rfl rfl (OpG.storeV (b := b4) K30_sz24 rfl rfl rfl rfl (by repeat (first | exact Upd.here | apply Upd.there))) ?_
  rintro _ _
  refine Wl.nil (PX.then_n (CT.ret ?_))
  refine PX.retC rfl rfl (by repeat (first | exact Has.here | apply Has.there)) K30_ag24 K30_sz24 (by rfl) (fun w' hH => ?_)
  exact ⟨.mk o 0 ka kc ks, ⟨by rw [toE_eq, nodeE_two (by rw [List.length_map]; omega)]; rfl, fun w h => evm_iff.2 h⟩, rfl, hH.ext⟩

theorem K30_go123 : isGo Tryz.prog 123 = true := by kernel_rfl
set_option maxRecDepth 100000 in
/-- (*semigroup/expr.parser).list -/
theorem list_spec (w : World) (b : Nat) (ts : Tx) (hts : ts.length ≤ 4096) (k : Nat) (hk : k ≤ ts.length) (hpre : Pre [.row 109 3 (vb b) 1 [sv ts, .int .i64 ((k : Nat) : Int), .int .i64 2]] w) (o : Int) (s : UInt8) (hs0 : s ≠ 0) (g : Nat) (hgo : isGo Tryz.prog g = true) (f : Tx → Option (Ex × Tx)) (hf : PartC Tryz.prog 109 g b ts f) (n : Nat) (hn : n ≤ 1000000) (es : List Ex) (rest : Tx) (hm : pMany f (sepG s) n (ts.drop k) = some (es, rest)) : Calls Tryz.prog 96 #[.pointer (some ⟨b, 0, none⟩), .int .i64 o, bv s, .func (.func g) ([.pointer (some ⟨b, 0, none⟩)] : List Value).toArray #[]] w (fun e w' => ∃ i : Xv × List Nat × Nat, (toE i.1 = nodeE o es ∧ i.2.2 ≤ ts.length ∧ ts.drop i.2.2 = rest) ∧ e = .returned (evv i.1) ∧ Post (blks [.row 109 3 (vb b) 1 [sv ts, .int .i64 ((k : Nat) : Int), .int .i64 2]]) [.row 109 3 (vb b) 1 [sv ts, .int .i64 ((i.2.2 : Nat) : Int), .int .i64 2], fx (AllM []) [i.1] i.2.1] w w') := by
 obtain ⟨m0, e0, l0, es0, rfl, hp0, rfl, hM0⟩ := pMany_some hm
 refine enterX (args := [.pointer (some ⟨b, 0, none⟩), .int .i64 o, bv s, .func (.func g) ([.pointer (some ⟨b, 0, none⟩)] : List Value).toArray #[]]) hpre 32 Tryz.func96 rfl rfl rfl ?_
 refine CT.seq (CT.region ?_)
 refine Wl.g rfl rfl (OpG.alloc (zs := [.int .i64 0, .int .i64 0, .slice none 0 0]) K30_in24 rfl rfl) ?_
 rintro b8 _
 refine Wl.nil (PX.then_n (CT.seq (CT.region ?_)))
 refine Wl.q rfl rfl (OpQ.move rfl) ?_
 refine Wl.g rfl rfl (OpG.callBX rfl hgo rfl (.cons (.there .here) .nil) (fun _ => (.cons (.cons .nil))) (fun w hH hp => hf w k _ _ hk hp hp0)) ?_
 rintro ⟨x, xb, j0⟩ ⟨hx, hj0, hr0⟩
 refine Wl.g rfl rfl (OpG.litS1 K30_un22 K30_in24 rfl (by decide) rfl) ?_
 rintro b12 _
 refine Wl.q rfl rfl (OpQ.assign rfl) ?_
 refine Wl.nil (PX.then_n (CT.seq (CT.block ?_)))
 refine CT.as (fun _ h => h.take (.cons .here (.cons .here (.cons .here (.cons .here .nil))))) ?_
 refine CT.loop (ι := List Xv × Option Addr × Nat × List Nat × Nat × Nat × List Ex) (fun (ks, a, c, bs, j, m, es2) => j ≤ ts.length ∧ e0 :: es0 = ks.map toE ++ es2 ∧ Mny f (sepG s) m (ts.drop j) es2 rest ∧ ks.length + m ≤ 1000000 ∧ (0 < ks.length → a.isSome = true)) (fun (ks, a, c, bs, j, m, es2) => [(0, .pointer (some ⟨b, 0, none⟩)), (1, .int .i64 o), (2, bv s), (3, .func (.func g) ([.pointer (some ⟨b, 0, none⟩)] : List Value).toArray #[]), (8, .pointer (some ⟨b8, 0, none⟩)), (9, .slice a ks.length c)]) (fun (ks, a, c, bs, j, m, es2) => [.row 24 3 (.slice a ks.length c) ks.length ((ks).flatMap evc), .row 109 3 (vb b) 1 [sv ts, .int .i64 ((j : Nat) : Int), .int .i64 2], fx (AllM []) ks bs, .row 24 3 (vb b8) 1 (evc ev0)]) (fun (ks, a, c, bs, j, m, es2) => m) ([x], some ⟨b12, 0, none⟩, 1, xb, j0, m0, es0) ⟨hj0, by rw [← hx]; rfl, by rw [hr0]; exact hM0, by show 1 + m0 ≤ _; omega, fun _ => rfl⟩ ⟨rfl, rfl, rfl, rfl, rfl, rfl, trivial⟩ (HSub.refl _) (fun ⟨ks, a, c, bs, j, m, es2⟩ ⟨hj, hks, hM, hl, hsn⟩ K0 hK0 => ?_)
 dsimp only
 refine CT.seq (CT.seq (CT.region ?_))
 refine Wl.q rfl rfl (OpQ.move rfl) ?_
 refine Wl.g rfl rfl (OpG.callX K30_go67 rfl (.cons (.there .here) .nil) (fun _ => (.cons .nil)) (fun w hH hp => peek_spec w b ts hts j hj hp)) ?_
 rintro j1 ⟨hj1, hd1⟩
 refine Wl.q rfl rfl (OpQ.move rfl) ?_
 refine Wl.q rfl rfl (OpQ.eql rfl rfl) ?_
 refine Wl.nil (PX.then_n ?_)
 refine CT.cond rfl (fun h16 => ?_) (fun h16 => ?_)
 ·
  have h16 := of_decide_eq_true h16
  obtain ⟨l2, hl2⟩ := (hd_iff hs0).1 h16
  obtain ⟨m2, e2, l3, es3, rfl, hp2, rfl, hM2⟩ := hM.next (l2 := l2) (by rw [hl2, sepG_yes])
  obtain ⟨hj1s, hd1s⟩ := drop_tail (hd1.trans hl2)
  refine CT.skip (PX.then_n (CT.block (CT.seq (CT.region ?_))))
  refine Wl.q rfl rfl (OpQ.move rfl) ?_
  refine Wl.q rfl rfl (OpQ.nilCheckP rfl) ?_
  refine Wl.q rfl rfl (OpQ.fieldAddr K30_fa109_1 rfl) ?_
  refine Wl.q rfl rfl (OpQ.loadF (b := b) K30_sc3 rfl (by repeat (first | exact Has.here | apply Has.there)) (by rfl)) ?_
  refine Wl.q rfl rfl (OpQ.add rfl rfl (by omega)) ?_
  refine Wl.know 21 (v' := .int .i64 ((j1 + 1 : Nat) : Int)) rfl (congrArg (Value.int .i64) (by omega)) ?_
  refine Wl.q rfl rfl (OpQ.nilCheckP rfl) ?_
  refine Wl.q rfl rfl (OpQ.fieldAddr K30_fa109_1 rfl) ?_
  refine Wl.g rfl rfl (OpG.storeRow (a := some ⟨b, 0, none⟩) K30_sz3 rfl rfl rfl (by repeat (first | exact Upd.here | apply Upd.there)) (by simp)) ?_
  rintro _ _
  refine Wl.nil (PX.then_n (CT.region ?_))
  refine Wl.q rfl rfl (OpQ.move rfl) ?_
  refine Wl.q rfl rfl (OpQ.move rfl) ?_
  refine Wl.g rfl rfl (OpG.callBX rfl hgo rfl (.cons .here .nil) (fun _ => (.cons (.cons .nil))) (fun w hH hp => hf w (j1 + 1) _ _ (by omega) hp (by rw [hd1s]; exact hp2))) ?_
  rintro ⟨y, yb, j2⟩ ⟨hy, hj2, hr2⟩
  refine Wl.g rfl rfl (OpG.litS1 K30_un22 K30_in24 rfl (by decide) rfl) ?_
  rintro b27 _
  refine Wl.g rfl rfl (OpG.append K30_un22 K30_in24 (by rfl) (by decide) rfl rfl (p := 3) rfl (fun w hH => hH.rd (show Has _ (.row 24 3 (.slice (some ⟨b27, 0, none⟩) 1 1) 1 ([y].flatMap evc)) from .here)) ⟨(show ([y].flatMap evc).length = 1 * 3 from evcs_len _), evcs_one [y], by omega, by omega⟩ (nm := (ks ++ [y]).length) (by rw [List.length_append]; rfl) (all := (ks ++ [y]).flatMap evc) (by rw [List.flatMap_append])) ?_
  rintro ⟨a28, c28⟩ h28
  refine Wl.q rfl rfl (OpQ.assign rfl) ?_
  refine Wl.nil (PX.block_n ?_)
  refine PX.as (fun _ h => ((h.take (.cons (.there (.there .here)) (.cons (.there (.there (.there .here))) (.cons (.there (.there .here)) (.cons (.there .here) (.cons (.there .here) .nil)))))).fxAddA (us := []) (fun w h => h)).fxLess (us := ks ++ [y]) (fun w h => AllM.app.2 ⟨h.snd, h.fst⟩)) ?_
  refine PX.as (fun _ h => h.take (.cons (.there .here) (.cons (.there .here) (.cons .here (.cons .here .nil))))) ?_
  exact PX.loop hK0 (ks ++ [y], a28, c28, _, j2, m2, es3) ⟨hj2, by rw [hks, List.map_append, List.append_assoc, ← hy]; rfl, by rw [hr2]; exact hM2, by rw [List.length_append]; show ks.length + 1 + m2 ≤ _; omega, fun _ => h28 (by simp)⟩ (show m2 < m2 + 1 by omega) ⟨rfl, rfl, rfl, rfl, rfl, rfl, trivial⟩ (HSub.refl _)
 ·
  have h16 := of_decide_eq_false h16
  obtain ⟨rfl, hrs⟩ := hM.stop (sepG_no (fun hh => h16 ((hd_iff hs0).2 hh)))
  refine CT.exit (PX.then_x (PX.then_x (PX.block_x (PX.then_n (CT.seq (CT.region ?_))))))
  refine Wl.q rfl rfl (OpQ.move rfl) ?_
  refine Wl.q rfl rfl (OpQ.move rfl) ?_
  refine Wl.g rfl rfl (OpG.call K30_go123 rfl (fun w hH => (nodeE_spec w ks a c (hH.kinS (by repeat (first | exact Has.here | apply Has.there)) (fun w' he => (hH.staysK0 (show Has _ (fx (AllM []) ks bs) from (by repeat (first | exact Has.here | apply Has.there)))).frag w' he (AllM.nil w'))) o).mono fun e w' ⟨i, h1, h2, h3⟩ => ⟨i, h1, h2, hH.ext_nil h3⟩)) ?_
  rintro v ⟨hv, hvm⟩
  refine Wl.g rfl rfl (OpG.storeV (b := b8) K30_sz24 rfl rfl rfl rfl (by repeat (first | exact Upd.here | apply Upd.there))) ?_
  rintro _ _
  refine Wl.nil (PX.then_n (CT.ret ?_))
  refine PX.retC rfl rfl (by repeat (first | exact Has.here | apply Has.there)) K30_ag24 K30_sz24 (by rfl) (fun w' hH => ?_)
  exact ⟨(v, _, j1), ⟨by rw [hv, hks, List.append_nil], hj1, by rw [hrs]; exact hd1⟩, rfl, HOk.post (((hH.take (.cons (.there .here) (.cons (.there .here) (.cons .here .nil)))).fxRow2 (A := AllM []) (v := v) (fun w h => h) (fun w _ h => h) (fun w _ _ h => hvm w h)).take (.cons (.there .here) (.cons .here .nil)))⟩

end Go.Proofs.YtmggcdegekbncabGreatDoor

