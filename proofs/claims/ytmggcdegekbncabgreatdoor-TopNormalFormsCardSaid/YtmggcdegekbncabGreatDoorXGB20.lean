/-
  What functions of the program compute, each by its walk. Conditions: those that each theorem names.
-/
import Derived.Test.YtmggcdegekbncabGreatDoorEng1
import Derived.Test.YtmggcdegekbncabGreatDoorXGB19
import Derived.Test.YtmggcdegekbncabGreatDoorXF
set_option linter.unusedSimpArgs false
namespace Go.Proofs.YtmggcdegekbncabGreatDoor
open Go Go.Eng Go.Am Go.Ex
open Go.Tp (zi)
open Go.Tl (mayL Wd okW okB bo)
open Go.Ex.simp (simpL)
open Go.Ex.dv (dvL dvC)
open Go.Ex.hasU (hasAny hasAll)
open Go.Ex.wf (wfL)
open Go.Ex.szE (szL)
open Go.Ex.dpE (dpL)
open Go.Ex.cmpE (cmpL)
open Go.Ex.fmtE (fmtK fmtR)
open Go.Rel (tz Tab tz_bound tz_load tz_lt)
theorem K20_sc5 : scalarB Tryz.prog 5 = some true := by kernel_rfl
theorem K20_un5 : Tryz.prog.underlying 5 = some (.int .u8) := by kernel_rfl
theorem K20_un3 : Tryz.prog.underlying 3 = some (.int .i64) := by kernel_rfl
theorem K20_un164 : Tryz.prog.underlying 164 = some (.array 64 5) := by kernel_rfl
theorem K20_sz5 : sizeB Tryz.prog 5 = some 1 := by kernel_rfl
set_option maxRecDepth 100000 in
/-- math/bits.TrailingZeros64 -/
theorem tz_spec (w : World) (s : BitVec 64) (hT : Tab w) : Calls Tryz.prog 109 #[u s] w (fun e w' => e = .returned (.int .i64 (tz s : Int)) ∧ Ext [] w w') := by
 refine enter (args := [u s]) [] 14 Tryz.func109 rfl rfl rfl ?_
 refine CT.seq (CT.region ?_)
 refine Wl.q rfl rfl (OpQ.assign rfl) ?_
 refine Wl.nil (PX.then_n (CT.seq (CT.seq (CT.region ?_))))
 refine Wl.q rfl rfl (OpQ.move rfl) ?_
 refine Wl.q rfl rfl (OpQ.ueql (q := 0#64) rfl rfl) ?_
 refine Wl.nil (PX.then_n ?_)
 refine CT.cond rfl (fun h4 => ?_) (fun h4 => ?_)
 ·
  obtain rfl : s = 0#64 := by simpa using h4
  refine CT.seq (CT.region ?_)
  refine Wl.q rfl rfl (OpQ.assign rfl) ?_
  refine Wl.nil (PX.then_n (CT.ret (PX.then_r ?_)))
  refine PX.ret1 rfl rfl (fun w' hH => ?_)
  exact ⟨rfl, hH.ext⟩
 ·
  have hs : s ≠ 0#64 := by simpa using h4
  refine CT.skip (PX.then_n (CT.seq (CT.region ?_)))
  refine Wl.q rfl rfl (OpQ.move rfl) ?_
  refine Wl.q rfl rfl (OpQ.move rfl) ?_
  refine Wl.q rfl rfl (OpQ.uneg rfl) ?_
  refine Wl.q rfl rfl (OpQ.uand rfl rfl) ?_
  refine Wl.q rfl rfl (OpQ.umul (q := 285870213051353865#64) rfl rfl) ?_
  refine Wl.q rfl rfl (OpQ.ushrN (n := 58) rfl rfl) ?_
  refine Wl.q rfl rfl (OpQ.indexArr1 K20_un164 K20_sz5 rfl rfl (tz_bound hs)) ?_
  refine Wl.q rfl rfl (OpQ.loadRd (a := some ⟨0, 0, none⟩) K20_sc5 rfl rfl hT (tz_load hs)) ?_
  refine Wl.q rfl rfl (OpQ.conv rfl (conv_u8_i64 K20_un5 K20_un3 _ (by have := tz_lt hs; omega))) ?_
  refine Wl.q rfl rfl (OpQ.assign rfl) ?_
  refine Wl.nil (PX.then_n (CT.ret ?_))
  refine PX.ret1 rfl rfl (fun w' hH => ?_)
  exact ⟨rfl, hH.ext⟩

theorem K20_fa87_0 : fieldB Tryz.prog 87 0 = some 0 := by kernel_rfl
theorem K20_sc9 : scalarB Tryz.prog 9 = some true := by kernel_rfl
theorem K20_un9 : Tryz.prog.underlying 9 = some .string := by kernel_rfl
theorem K20_un89 : Tryz.prog.underlying 89 = some (.slice 120) := by kernel_rfl
theorem K20_in120 : (Tryz.prog.info? 120).map (fun i => (i.zero, i.size, i.bytes)) = some (some (.int .u64 0), 1, 8) := by kernel_rfl
set_option maxRecDepth 100000 in
/-- (semigroup/expr.matcher).none -/
theorem none_spec (w : World)  : Calls Tryz.prog 49 #[.agg #[sv [(97 : UInt8)]]] w (fun e w' => ∃ b : Nat, True ∧ e = .returned (.slice (some ⟨b, 0, none⟩) 1 1) ∧ Post [] [.row 120 1 (.slice (some ⟨b, 0, none⟩) 1 1) 1 [u 0#64]] w w') := by
 refine enter (args := [.agg #[sv [(97 : UInt8)]]]) [] 9 Tryz.func49 rfl rfl rfl ?_
 refine CT.seq (CT.region ?_)
 refine Wl.g rfl rfl (OpG.box (size := 1) rfl rfl rfl) ?_
 rintro b1 _
 refine Wl.q rfl rfl (OpQ.assign rfl) ?_
 refine Wl.nil (PX.then_n (CT.seq (CT.region ?_)))
 refine Wl.q rfl rfl (OpQ.fieldAddr K20_fa87_0 rfl) ?_
 refine Wl.q rfl rfl (OpQ.loadF (b := b1) K20_sc9 rfl (by repeat (first | exact Has.here | apply Has.there)) (by rfl)) ?_
 refine Wl.q rfl rfl (OpQ.lenSv K20_un9 rfl) ?_
 refine Wl.know 5 (v' := .int .i64 ((1 : Nat) : Int)) rfl rfl ?_
 refine Wl.q rfl rfl (OpQ.bin (v := .int .i64 ((0 : Nat) : Int)) rfl rfl (fun _ => rfl)) ?_
 refine Wl.q rfl rfl (OpQ.add rfl rfl (by omega)) ?_
 refine Wl.know 7 (v' := .int .i64 ((1 : Nat) : Int)) rfl rfl ?_
 refine Wl.g rfl rfl (OpG.make1 K20_un89 K20_in120 rfl rfl rfl rfl (by omega) (by omega)) ?_
 rintro b8 _
 refine Wl.q rfl rfl (OpQ.assign rfl) ?_
 refine Wl.nil (PX.then_n (CT.ret ?_))
 refine PX.ret1 rfl rfl (fun w' hH => ?_)
 exact ⟨b8, trivial, rfl, (hH.take (.cons .here .nil)).post⟩

theorem K20_sz120 : sizeB Tryz.prog 120 = some 1 := by kernel_rfl
theorem K20_mixed : Tryz.prog.follows .mixedOrders = true := by kernel_rfl
theorem K20_sc120 : scalarB Tryz.prog 120 = some true := by kernel_rfl
set_option maxRecDepth 100000 in
/-- (semigroup/expr.offsets).add -/
theorem oadd0_spec (w : World) (b : Nat) (x : BitVec 64) (hpre : Pre [.row 120 1 (.slice (some ⟨b, 0, none⟩) 1 1) 1 [u x]] w) : Calls Tryz.prog 50 #[.slice (some ⟨b, 0, none⟩) 1 1, .int .i64 ((0 : Nat) : Int)] w (fun e w' => ∃ _i : Unit, True ∧ e = .returned (.tuple #[]) ∧ Post [b] [.row 120 1 (.slice (some ⟨b, 0, none⟩) 1 1) 1 [u (x ||| 1#64 <<< 0)]] w w') := by
 refine enterX (args := [.slice (some ⟨b, 0, none⟩) 1 1, .int .i64 ((0 : Nat) : Int)]) hpre 14 Tryz.func50 rfl rfl rfl ?_
 refine CT.draw 10 K20_mixed ?_
 refine RA.q 0 (by kernel_rfl) rfl rfl rfl (.refl _) (OpQ.move rfl) ?_
 refine RA.q 1 (by kernel_rfl) rfl rfl rfl (.refl _) (OpQ.move rfl) ?_
 refine RA.q 2 (by kernel_rfl) rfl rfl rfl (.refl _) (OpQ.bin (v := .int .i64 0) rfl rfl (fun _ => rfl)) ?_
 refine RA.q 3 (by kernel_rfl) rfl rfl rfl (.refl _) (OpQ.index1 K20_un89 K20_sz120 rfl rfl (by decide) rfl) ?_
 refine RA.q 4 (by kernel_rfl) rfl rfl rfl (.refl _) (OpQ.loadRow K20_sc120 rfl .here rfl) ?_
 refine RA.q 5 (by kernel_rfl) rfl rfl rfl (.refl _) (OpQ.move rfl) ?_
 refine RA.q 6 (by kernel_rfl) rfl rfl rfl (.refl _) (OpQ.bin (v := .int .i64 0) rfl rfl (fun _ => rfl)) ?_
 refine RA.know 10 (v' := .int .i64 ((0 : Nat) : Int)) rfl rfl ?_
 refine RA.q 7 (by kernel_rfl) rfl rfl rfl (.refl _) (OpQ.ushlN (p := 1#64) rfl rfl) ?_
 refine RA.q 8 (by kernel_rfl) rfl rfl rfl (.refl _) (OpQ.uor rfl rfl) ?_
 refine RA.q 9 (by kernel_rfl) rfl rfl rfl (.refl _) (OpQ.index1 K20_un89 K20_sz120 rfl rfl (by decide) rfl) ?_
 refine RA.tail ?_
 refine RT.f 10 (by kernel_rfl) rfl rfl rfl (OpG.storeRow (a := some ⟨b, 0, none⟩) K20_sz120 rfl rfl rfl (by repeat (first | exact Upd.here | apply Upd.there)) (show 0 < _ by simp)) ?_
 rintro _ _
 refine RT.done (by kernel_rfl) ?_
 refine PX.end0 rfl (fun w' hH => ?_)
 exact ⟨(), trivial, rfl, hH.post⟩

set_option maxRecDepth 100000 in
/-- (semigroup/expr.offsets).add -/
theorem oadd1_spec (w : World) (b : Nat) (x : BitVec 64) (hpre : Pre [.row 120 1 (.slice (some ⟨b, 0, none⟩) 1 1) 1 [u x]] w) : Calls Tryz.prog 50 #[.slice (some ⟨b, 0, none⟩) 1 1, .int .i64 ((1 : Nat) : Int)] w (fun e w' => ∃ _i : Unit, True ∧ e = .returned (.tuple #[]) ∧ Post [b] [.row 120 1 (.slice (some ⟨b, 0, none⟩) 1 1) 1 [u (x ||| 1#64 <<< 1)]] w w') := by
 refine enterX (args := [.slice (some ⟨b, 0, none⟩) 1 1, .int .i64 ((1 : Nat) : Int)]) hpre 14 Tryz.func50 rfl rfl rfl ?_
 refine CT.draw 10 K20_mixed ?_
 refine RA.q 0 (by kernel_rfl) rfl rfl rfl (.refl _) (OpQ.move rfl) ?_
 refine RA.q 1 (by kernel_rfl) rfl rfl rfl (.refl _) (OpQ.move rfl) ?_
 refine RA.q 2 (by kernel_rfl) rfl rfl rfl (.refl _) (OpQ.bin (v := .int .i64 0) rfl rfl (fun _ => rfl)) ?_
 refine RA.q 3 (by kernel_rfl) rfl rfl rfl (.refl _) (OpQ.index1 K20_un89 K20_sz120 rfl rfl (by decide) rfl) ?_
 refine RA.q 4 (by kernel_rfl) rfl rfl rfl (.refl _) (OpQ.loadRow K20_sc120 rfl .here rfl) ?_
 refine RA.q 5 (by kernel_rfl) rfl rfl rfl (.refl _) (OpQ.move rfl) ?_
 refine RA.q 6 (by kernel_rfl) rfl rfl rfl (.refl _) (OpQ.bin (v := .int .i64 1) rfl rfl (fun _ => rfl)) ?_
 refine RA.know 10 (v' := .int .i64 ((1 : Nat) : Int)) rfl rfl ?_
 refine RA.q 7 (by kernel_rfl) rfl rfl rfl (.refl _) (OpQ.ushlN (p := 1#64) rfl rfl) ?_
 refine RA.q 8 (by kernel_rfl) rfl rfl rfl (.refl _) (OpQ.uor rfl rfl) ?_
 refine RA.q 9 (by kernel_rfl) rfl rfl rfl (.refl _) (OpQ.index1 K20_un89 K20_sz120 rfl rfl (by decide) rfl) ?_
 refine RA.tail ?_
 refine RT.f 10 (by kernel_rfl) rfl rfl rfl (OpG.storeRow (a := some ⟨b, 0, none⟩) K20_sz120 rfl rfl rfl (by repeat (first | exact Upd.here | apply Upd.there)) (show 0 < _ by simp)) ?_
 rintro _ _
 refine RT.done (by kernel_rfl) ?_
 refine PX.end0 rfl (fun w' hH => ?_)
 exact ⟨(), trivial, rfl, hH.post⟩

set_option maxRecDepth 100000 in
/-- (semigroup/expr.offsets).has -/
theorem ohas_spec (w : World) (b : Nat) (hs : Stays [] w (fun w => Rd w (some ⟨b, 0, none⟩) [u 2#64])) : Calls Tryz.prog 52 #[.slice (some ⟨b, 0, none⟩) 1 1, .int .i64 ((1 : Nat) : Int)] w (fun e w' => e = .returned (.bool true) ∧ Ext [] w w') := by
 refine enter (args := [.slice (some ⟨b, 0, none⟩) 1 1, .int .i64 ((1 : Nat) : Int)]) [] 15 Tryz.func52 rfl rfl rfl ?_
 refine CT.seq (CT.region ?_)
 refine Wl.q rfl rfl (OpQ.assign rfl) ?_
 refine Wl.nil (PX.then_n (CT.seq (CT.region ?_)))
 refine Wl.q rfl rfl (OpQ.move rfl) ?_
 refine Wl.q rfl rfl (OpQ.move rfl) ?_
 refine Wl.q rfl rfl (OpQ.bin (v := .int .i64 0) rfl rfl (fun _ => rfl)) ?_
 refine Wl.q rfl rfl (OpQ.index1 K20_un89 K20_sz120 rfl rfl (by decide) rfl) ?_
 refine Wl.q rfl rfl (OpQ.loadG K20_sc120 rfl (fun w hH => hH.use hs) rfl) ?_
 refine Wl.q rfl rfl (OpQ.move rfl) ?_
 refine Wl.q rfl rfl (OpQ.bin (v := .int .i64 1) rfl rfl (fun _ => rfl)) ?_
 refine Wl.know 11 (v' := .int .i64 ((1 : Nat) : Int)) rfl rfl ?_
 refine Wl.q rfl rfl (OpQ.ushrN rfl rfl) ?_
 refine Wl.q rfl rfl (OpQ.uand (q := 1#64) rfl rfl) ?_
 refine Wl.q rfl rfl (OpQ.ueql (q := 1#64) rfl rfl) ?_
 refine Wl.know 14 (v' := .bool true) rfl (congrArg Value.bool rfl) ?_
 refine Wl.q rfl rfl (OpQ.assign rfl) ?_
 refine Wl.nil (PX.then_n (CT.ret ?_))
 refine PX.ret1 rfl rfl (fun w' hH => ?_)
 exact ⟨rfl, hH.ext⟩

theorem K20_sc92 : scalarB Tryz.prog 92 = some true := by kernel_rfl
theorem K20_ag87 : isAggB Tryz.prog 87 = some true := by kernel_rfl
theorem K20_sz87 : sizeB Tryz.prog 87 = some 1 := by kernel_rfl
theorem K20_sz89 : sizeB Tryz.prog 89 = some 1 := by kernel_rfl
theorem K20_sc3 : scalarB Tryz.prog 3 = some true := by kernel_rfl
theorem K20_go49 : isGo Tryz.prog 49 = true := by kernel_rfl
theorem K20_un92 : Tryz.prog.underlying 92 = some (.slice 89) := by kernel_rfl
theorem K20_fa24_0 : fieldB Tryz.prog 24 0 = some 0 := by kernel_rfl
theorem K20_fa24_1 : fieldB Tryz.prog 24 1 = some 1 := by kernel_rfl
theorem K20_sc89 : scalarB Tryz.prog 89 = some true := by kernel_rfl
theorem K20_go50 : isGo Tryz.prog 50 = true := by kernel_rfl
set_option maxRecDepth 100000 in
/-- (semigroup/expr.matcher).ends$1 -/
theorem ends1_spec (w : World) (b1 b2 b3 br : Nat) (h1 : Stays (blks [.row 89 1 (.slice (some ⟨br, 0, none⟩) 2 2) 2 [.slice none 0 0, .slice none 0 0], .row 120 1 (.slice none 0 0) 0 []]) w (fun w => Rd w (some ⟨b1, 0, none⟩) [sv [(97 : UInt8)]])) (h2 : Stays (blks [.row 89 1 (.slice (some ⟨br, 0, none⟩) 2 2) 2 [.slice none 0 0, .slice none 0 0], .row 120 1 (.slice none 0 0) 0 []]) w (fun w => Rd w (some ⟨b2, 0, none⟩) [.slice (some ⟨br, 0, none⟩) 2 2])) (h3 : Stays (blks [.row 89 1 (.slice (some ⟨br, 0, none⟩) 2 2) 2 [.slice none 0 0, .slice none 0 0], .row 120 1 (.slice none 0 0) 0 []]) w (fun w => Rd w (some ⟨b3, 0, none⟩) (evc (lfv 3 0)))) (hpre : Pre [.row 89 1 (.slice (some ⟨br, 0, none⟩) 2 2) 2 [.slice none 0 0, .slice none 0 0], .row 120 1 (.slice none 0 0) 0 []] w) : Calls Tryz.prog 77 #[.int .i64 ((0 : Nat) : Int), .pointer (some ⟨b1, 0, none⟩), .pointer (some ⟨b2, 0, none⟩), .pointer (some ⟨b3, 0, none⟩)] w (fun e w' => ∃ b : Nat, True ∧ e = .returned (.tuple #[]) ∧ Post (blks [.row 89 1 (.slice (some ⟨br, 0, none⟩) 2 2) 2 [.slice none 0 0, .slice none 0 0], .row 120 1 (.slice none 0 0) 0 []]) [.row 89 1 (.slice (some ⟨br, 0, none⟩) 2 2) 2 [.slice (some ⟨b, 0, none⟩) 1 1, .slice none 0 0], .row 120 1 (.slice (some ⟨b, 0, none⟩) 1 1) 1 [u 2#64]] w w') := by
 refine enterX (args := [.int .i64 ((0 : Nat) : Int), .pointer (some ⟨b1, 0, none⟩), .pointer (some ⟨b2, 0, none⟩), .pointer (some ⟨b3, 0, none⟩)]) hpre 49 Tryz.func77 rfl rfl rfl ?_
 refine CT.seq ?_
 refine CT.draw 5 K20_mixed ?_
 refine RA.q 0 (by kernel_rfl) rfl rfl rfl (.refl _) (OpQ.loadG (a := some ⟨b2, 0, none⟩) (j := 0) K20_sc92 rfl (fun w hH => hH.use h2) rfl) ?_
 refine RA.q 1 (by kernel_rfl) rfl rfl rfl (.refl _) (OpQ.move rfl) ?_
 refine RA.q 2 (by kernel_rfl) rfl rfl rfl (.refl _) (OpQ.loadAggG (a := some ⟨b1, 0, none⟩) (j := 0) (cs := [sv [(97 : UInt8)]]) K20_ag87 K20_sz87 rfl (fun w hH => hH.use h1) (by intro k v hk; simpa using hk)) ?_
 refine RA.know 7 (v' := .agg #[sv [(97 : UInt8)]]) rfl rfl ?_
 refine RA.f 3 (by kernel_rfl) rfl rfl rfl (OpG.callX K20_go49 rfl .nil (fun _ => (.cons .nil)) (fun w hH hp => none_spec w)) (fun _ _ => (.cons _ (.refl _))) ?_
 rintro b8 _
 refine RA.q 4 (by kernel_rfl) rfl rfl rfl (.cons _ (.refl _)) (OpQ.index1 K20_un92 K20_sz89 rfl rfl (by decide) rfl) ?_
 refine RA.tail ?_
 refine RT.f 5 (by kernel_rfl) rfl rfl rfl (OpG.storeRow (a := some ⟨br, 0, none⟩) K20_sz89 rfl rfl rfl (by repeat (first | exact Upd.here | apply Upd.there)) (show 0 < _ by simp)) ?_
 rintro _ _
 refine RT.done (by kernel_rfl) ?_
 refine PX.then_n (CT.block (CT.seq (CT.region ?_)))
 refine Wl.q rfl rfl (OpQ.fieldAddr K20_fa24_0 rfl) ?_
 refine Wl.q rfl rfl (OpQ.loadG (a := some ⟨b3, 0, none⟩) (j := 0) K20_sc3 rfl (fun w hH => hH.use h3) rfl) ?_
 refine Wl.know 12 (v' := .int .i64 3) rfl rfl ?_
 refine Wl.q rfl rfl (OpQ.eql rfl rfl) ?_
 refine Wl.know 13 (v' := .bool false) rfl (congrArg Value.bool rfl) ?_
 refine Wl.q rfl rfl (OpQ.assign rfl) ?_
 refine Wl.nil (PX.then_n ?_)
 refine CT.condF rfl ?_
 refine CT.seq ?_
 refine CT.draw 22 K20_mixed ?_
 refine RA.q 0 (by kernel_rfl) rfl rfl rfl (.refl _) (OpQ.fieldAddr K20_fa24_0 rfl) ?_
 refine RA.q 1 (by kernel_rfl) rfl rfl rfl (.refl _) (OpQ.loadG (a := some ⟨b3, 0, none⟩) (j := 0) K20_sc3 rfl (fun w hH => hH.use h3) rfl) ?_
 refine RA.know 22 (v' := .int .i64 3) rfl rfl ?_
 refine RA.q 2 (by kernel_rfl) rfl rfl rfl (.refl _) (OpQ.eql rfl rfl) ?_
 refine RA.know 23 (v' := .bool true) rfl (congrArg Value.bool rfl) ?_
 refine RA.q 3 (by kernel_rfl) rfl rfl rfl (.refl _) (OpQ.move rfl) ?_
 refine RA.q 4 (by kernel_rfl) rfl rfl rfl (.refl _) (OpQ.move rfl) ?_
 refine RA.q 5 (by kernel_rfl) rfl rfl rfl (.refl _) (OpQ.fieldAddr K20_fa87_0 rfl) ?_
 refine RA.q 6 (by kernel_rfl) rfl rfl rfl (.refl _) (OpQ.loadG (a := some ⟨b1, 0, none⟩) (j := 0) K20_sc9 rfl (fun w hH => hH.use h1) rfl) ?_
 refine RA.know 27 (v' := sv [(97 : UInt8)]) rfl rfl ?_
 refine RA.q 7 (by kernel_rfl) rfl rfl rfl (.refl _) (OpQ.lenSv K20_un9 rfl) ?_
 refine RA.q 8 (by kernel_rfl) rfl rfl rfl (.refl _) (OpQ.lss rfl rfl) ?_
 refine RA.know 29 (v' := .bool true) rfl (congrArg Value.bool rfl) ?_
 refine RA.q 9 (by kernel_rfl) rfl rfl rfl (.refl _) (OpQ.pickT rfl rfl) ?_
 refine RA.q 10 (by kernel_rfl) rfl rfl rfl (.refl _) (OpQ.move rfl) ?_
 refine RA.q 11 (by kernel_rfl) rfl rfl rfl (.refl _) (OpQ.fieldAddr K20_fa87_0 rfl) ?_
 refine RA.q 12 (by kernel_rfl) rfl rfl rfl (.refl _) (OpQ.loadG (a := some ⟨b1, 0, none⟩) (j := 0) K20_sc9 rfl (fun w hH => hH.use h1) rfl) ?_
 refine RA.know 33 (v' := sv [(97 : UInt8)]) rfl rfl ?_
 refine RA.q 13 (by kernel_rfl) rfl rfl rfl (.refl _) (OpQ.move rfl) ?_
 refine RA.q 14 (by kernel_rfl) rfl rfl rfl (.refl _) (OpQ.indexSvN K20_un9 rfl rfl (by decide)) ?_
 refine RA.know 35 (v' := .int .u8 97) rfl rfl ?_
 refine RA.q 15 (by kernel_rfl) rfl rfl rfl (.refl _) (OpQ.sub8 rfl rfl (by omega)) ?_
 refine RA.q 16 (by kernel_rfl) rfl rfl rfl (.refl _) (OpQ.conv rfl (conv_u8_i64 K20_un5 K20_un3 _ (by omega))) ?_
 refine RA.q 17 (by kernel_rfl) rfl rfl rfl (.refl _) (OpQ.fieldAddr K20_fa24_1 rfl) ?_
 refine RA.q 18 (by kernel_rfl) rfl rfl rfl (.refl _) (OpQ.loadG (a := some ⟨b3, 0, none⟩) (j := 1) K20_sc3 rfl (fun w hH => hH.use h3) rfl) ?_
 refine RA.know 39 (v' := .int .i64 0) rfl rfl ?_
 refine RA.q 19 (by kernel_rfl) rfl rfl rfl (.refl _) (OpQ.eql rfl rfl) ?_
 refine RA.know 40 (v' := .bool true) rfl (congrArg Value.bool rfl) ?_
 refine RA.q 20 (by kernel_rfl) rfl rfl rfl (.refl _) (OpQ.pickT rfl rfl) ?_
 refine RA.q 21 (by kernel_rfl) rfl rfl rfl (.refl _) (OpQ.assign rfl) ?_
 refine RA.tail ?_
 refine RT.done (by kernel_rfl) ?_
 refine PX.then_n ?_
 refine CT.condT rfl ?_
 refine CT.region ?_
 refine Wl.q rfl rfl (OpQ.loadG (a := some ⟨b2, 0, none⟩) (j := 0) K20_sc92 rfl (fun w hH => hH.use h2) rfl) ?_
 refine Wl.q rfl rfl (OpQ.move rfl) ?_
 refine Wl.q rfl rfl (OpQ.index1 K20_un92 K20_sz89 rfl rfl (by decide) rfl) ?_
 refine Wl.q rfl rfl (OpQ.loadRow K20_sc89 rfl (.there .here) rfl) ?_
 refine Wl.q rfl rfl (OpQ.move rfl) ?_
 refine Wl.q rfl rfl (OpQ.add rfl rfl (by omega)) ?_
 refine Wl.g rfl rfl (OpG.callX K20_go50 rfl (.cons .here .nil) (fun _ => (.cons .nil)) (fun w hH hp => oadd1_spec w b8 0#64 hp)) ?_
 rintro _ _
 refine Wl.nil (PX.block_n ?_)
 refine PX.end0 rfl (fun w' hH => ?_)
 exact ⟨b8, trivial, rfl, (hH.take (.cons (.there .here) (.cons .here .nil))).post⟩

theorem K20_go77 : isGo Tryz.prog 77 = true := by kernel_rfl
theorem K20_go109 : isGo Tryz.prog 109 = true := by kernel_rfl
set_option maxRecDepth 100000 in
/-- (semigroup/expr.offsets).each -/
theorem each_spec (w : World) (bs b1 b2 b3 br : Nat) (hT : Stays (blks [.row 89 1 (.slice (some ⟨br, 0, none⟩) 2 2) 2 [.slice none 0 0, .slice none 0 0], .row 120 1 (.slice none 0 0) 0 []]) w Tab) (hs : Stays (blks [.row 89 1 (.slice (some ⟨br, 0, none⟩) 2 2) 2 [.slice none 0 0, .slice none 0 0], .row 120 1 (.slice none 0 0) 0 []]) w (fun w => Rd w (some ⟨bs, 0, none⟩) [u 1#64])) (h1 : Stays (blks [.row 89 1 (.slice (some ⟨br, 0, none⟩) 2 2) 2 [.slice none 0 0, .slice none 0 0], .row 120 1 (.slice none 0 0) 0 []]) w (fun w => Rd w (some ⟨b1, 0, none⟩) [sv [(97 : UInt8)]])) (h2 : Stays (blks [.row 89 1 (.slice (some ⟨br, 0, none⟩) 2 2) 2 [.slice none 0 0, .slice none 0 0], .row 120 1 (.slice none 0 0) 0 []]) w (fun w => Rd w (some ⟨b2, 0, none⟩) [.slice (some ⟨br, 0, none⟩) 2 2])) (h3 : Stays (blks [.row 89 1 (.slice (some ⟨br, 0, none⟩) 2 2) 2 [.slice none 0 0, .slice none 0 0], .row 120 1 (.slice none 0 0) 0 []]) w (fun w => Rd w (some ⟨b3, 0, none⟩) (evc (lfv 3 0)))) (hpre : Pre [.row 89 1 (.slice (some ⟨br, 0, none⟩) 2 2) 2 [.slice none 0 0, .slice none 0 0], .row 120 1 (.slice none 0 0) 0 []] w) : Calls Tryz.prog 76 #[.slice (some ⟨bs, 0, none⟩) 1 1, .func (.func 77) #[] #[.pointer (some ⟨b1, 0, none⟩), .pointer (some ⟨b2, 0, none⟩), .pointer (some ⟨b3, 0, none⟩)]] w (fun e w' => ∃ b : Nat, True ∧ e = .returned (.tuple #[]) ∧ Post (blks [.row 89 1 (.slice (some ⟨br, 0, none⟩) 2 2) 2 [.slice none 0 0, .slice none 0 0], .row 120 1 (.slice none 0 0) 0 []]) [.row 89 1 (.slice (some ⟨br, 0, none⟩) 2 2) 2 [.slice (some ⟨b, 0, none⟩) 1 1, .slice none 0 0], .row 120 1 (.slice (some ⟨b, 0, none⟩) 1 1) 1 [u 2#64]] w w') := by
 refine enterX (args := [.slice (some ⟨bs, 0, none⟩) 1 1, .func (.func 77) #[] #[.pointer (some ⟨b1, 0, none⟩), .pointer (some ⟨b2, 0, none⟩), .pointer (some ⟨b3, 0, none⟩)]]) hpre 27 Tryz.func76 rfl rfl rfl ?_
 refine CT.seq (CT.region ?_)
 refine Wl.q rfl rfl (OpQ.move rfl) ?_
 refine Wl.q rfl rfl (OpQ.len K20_un89 rfl) ?_
 refine Wl.q rfl rfl (OpQ.move rfl) ?_
 refine Wl.nil (PX.then_n (CT.block ?_))
 refine CT.loop (ι := Nat × Option Addr × Nat × List Value) (fun (k, a, n, xs) => (k = 0 ∧ a = none ∧ n = 0 ∧ xs = []) ∨ (k = 1 ∧ n = 1 ∧ ∃ b : Nat, a = some ⟨b, 0, none⟩ ∧ xs = [u 2#64])) (fun (k, a, n, xs) => [(1, .func (.func 77) #[] #[.pointer (some ⟨b1, 0, none⟩), .pointer (some ⟨b2, 0, none⟩), .pointer (some ⟨b3, 0, none⟩)]), (6, .slice (some ⟨bs, 0, none⟩) 1 1), (7, .int .i64 1), (8, .int .i64 ((k : Nat) : Int))]) (fun (k, a, n, xs) => [.row 89 1 (.slice (some ⟨br, 0, none⟩) 2 2) 2 [.slice a n n, .slice none 0 0], .row 120 1 (.slice a n n) n xs]) (fun (k, a, n, xs) => 1 - k) (0, none, 0, []) (.inl ⟨rfl, rfl, rfl, rfl⟩) ⟨rfl, rfl, rfl, rfl, trivial⟩ (HSub.refl _) (fun ⟨k, a, n, xs⟩ hI K0 hK0 => ?_)
 dsimp only
 dsimp only at hI
 refine CT.seq (CT.region ?_)
 refine Wl.q rfl rfl (OpQ.lss rfl rfl) ?_
 refine Wl.nil (PX.then_n (CT.seq ?_))
 refine CT.cond rfl (fun h9 => ?_) (fun h9 => ?_)
 ·
  have h9 := of_decide_eq_true h9
  obtain ⟨rfl, rfl, rfl, rfl⟩ := hI.resolve_right (fun h => by have := h.1; omega)
  refine CT.skip (PX.then_n (CT.seq (CT.block (CT.seq (CT.region ?_)))))
  refine Wl.q rfl rfl (OpQ.move rfl) ?_
  refine Wl.q rfl rfl (OpQ.index1 K20_un89 K20_sz120 rfl rfl (by decide) rfl) ?_
  refine Wl.q rfl rfl (OpQ.loadG K20_sc120 rfl (fun w hH => hH.use hs) rfl) ?_
  refine Wl.q rfl rfl (OpQ.assign rfl) ?_
  refine Wl.q rfl rfl (OpQ.assign rfl) ?_
  refine Wl.nil (PX.then_n (CT.block ?_))
  refine CT.loop (ι := BitVec 64 × Option Addr × Nat × List Value) (fun (p, a, n, xs) => (p = 1#64 ∧ a = none ∧ n = 0 ∧ xs = []) ∨ (p = 0#64 ∧ n = 1 ∧ ∃ b : Nat, a = some ⟨b, 0, none⟩ ∧ xs = [u 2#64])) (fun (p, a, n, xs) => [(1, .func (.func 77) #[] #[.pointer (some ⟨b1, 0, none⟩), .pointer (some ⟨b2, 0, none⟩), .pointer (some ⟨b3, 0, none⟩)]), (4, .int .i64 ((0 : Nat) : Int)), (5, u p), (6, .slice (some ⟨bs, 0, none⟩) 1 1), (7, .int .i64 1), (8, .int .i64 ((0 : Nat) : Int))]) (fun (p, a, n, xs) => [.row 89 1 (.slice (some ⟨br, 0, none⟩) 2 2) 2 [.slice a n n, .slice none 0 0], .row 120 1 (.slice a n n) n xs]) (fun (p, a, n, xs) => p.toNat) (1#64, none, 0, []) (.inl ⟨rfl, rfl, rfl, rfl⟩) ⟨rfl, rfl, rfl, rfl, rfl, rfl, trivial⟩ (HSub.refl _) (fun ⟨p, a, n, xs⟩ hJ K1 hK1 => ?_)
  dsimp only
  dsimp only at hJ
  refine CT.seq (CT.seq (CT.region ?_))
  refine Wl.q rfl rfl (OpQ.move rfl) ?_
  refine Wl.q rfl rfl (OpQ.uneq (q := 0#64) rfl rfl) ?_
  refine Wl.nil (PX.then_n ?_)
  refine CT.cond rfl (fun h14 => ?_) (fun h14 => ?_)
  ·
   obtain ⟨rfl, rfl, rfl, rfl⟩ := hJ.resolve_right (fun h => by rw [h.1] at h14; exact absurd h14 (by decide))
   refine CT.skip (PX.then_n (CT.seq (CT.block (CT.region ?_))))
   refine Wl.q rfl rfl (OpQ.move rfl) ?_
   refine Wl.q rfl rfl (OpQ.move rfl) ?_
   refine Wl.q rfl rfl (OpQ.bin (v := .int .i64 0) rfl rfl (fun _ => rfl)) ?_
   refine Wl.q rfl rfl (OpQ.move rfl) ?_
   refine Wl.g rfl rfl (OpG.callV K20_go109 rfl (fun w hH => tz_spec w 1#64 (hH.use hT))) ?_
   rintro _ _
   refine Wl.know 23 (v' := .int .i64 ((0 : Nat) : Int)) rfl (congrArg (Value.int .i64) (by decide)) ?_
   refine Wl.q rfl rfl (OpQ.add rfl rfl (by omega)) ?_
   refine Wl.know 24 (v' := .int .i64 ((0 : Nat) : Int)) rfl rfl ?_
   refine Wl.g rfl rfl (OpG.callFX rfl K20_go77 rfl (.cons .here (.cons .here .nil)) (fun _ => (.cons (.cons .nil))) (fun w hH hp => ends1_spec w b1 b2 b3 br (hH.stays h1 (.cons .here (.cons .here .nil))) (hH.stays h2 (.cons .here (.cons .here .nil))) (hH.stays h3 (.cons .here (.cons .here .nil))) hp)) ?_
   rintro b25 _
   refine Wl.nil (PX.block_n (PX.then_n (CT.region ?_)))
   refine Wl.q rfl rfl (OpQ.move rfl) ?_
   refine Wl.q rfl rfl (OpQ.move rfl) ?_
   refine Wl.q rfl rfl (OpQ.usub (q := 1#64) rfl rfl) ?_
   refine Wl.q rfl rfl (OpQ.uand rfl rfl) ?_
   refine Wl.q rfl rfl (OpQ.assign rfl) ?_
   refine Wl.nil ?_
   exact PX.loop hK1 (1#64 &&& (1#64 - 1#64), some ⟨b25, 0, none⟩, 1, [u 2#64]) (.inr ⟨by decide, rfl, b25, rfl, rfl⟩) (show (1#64 &&& (1#64 - 1#64)).toNat < (1#64).toNat by decide) ⟨rfl, rfl, rfl, rfl, rfl, rfl, trivial⟩ (HSub.refl _)
  ·
   obtain ⟨rfl, rfl, b, rfl, rfl⟩ := hJ.resolve_left (fun h => by rw [h.1] at h14; exact absurd h14 (by decide))
   refine CT.exit (PX.then_x (PX.then_x (PX.block_x (PX.block_n (PX.then_n (CT.region ?_))))))
   refine Wl.q rfl rfl (OpQ.add rfl rfl (by omega)) ?_
   refine Wl.q rfl rfl (OpQ.move rfl) ?_
   refine Wl.nil ?_
   exact PX.loop hK0 (1, some ⟨b, 0, none⟩, 1, [u 2#64]) (.inr ⟨rfl, rfl, b, rfl, rfl⟩) (show 1 - 1 < 1 - 0 by decide) ⟨rfl, rfl, rfl, rfl, trivial⟩ (HSub.refl _)
 ·
  have h9 := of_decide_eq_false h9
  obtain ⟨rfl, rfl, b, rfl, rfl⟩ := hI.resolve_left (fun h => by have := h.1; omega)
  refine CT.exit (PX.then_x (PX.then_x (PX.block_x ?_)))
  refine PX.end0 rfl (fun w' hH => ?_)
  exact ⟨b, trivial, rfl, hH.post⟩

theorem K20_in89 : (Tryz.prog.info? 89).map (fun i => (i.zero, i.size, i.bytes)) = some (some (.slice none 0 0), 1, 24) := by kernel_rfl
theorem K20_in92 : (Tryz.prog.info? 92).map (fun i => (i.zero, i.size, i.bytes)) = some (some (.slice none 0 0), 1, 24) := by kernel_rfl
theorem K20_sz92 : sizeB Tryz.prog 92 = some 1 := by kernel_rfl
theorem K20_go76 : isGo Tryz.prog 76 = true := by kernel_rfl
set_option maxRecDepth 100000 in
/-- (semigroup/expr.matcher).ends -/
theorem ends_spec (w : World) (bs : Nat) (hT : Stays [] w Tab) (hs : Stays [] w (fun w => Rd w (some ⟨bs, 0, none⟩) [u 1#64])) : Calls Tryz.prog 51 #[.agg #[sv [(97 : UInt8)]], evv (lfv 3 0), .slice (some ⟨bs, 0, none⟩) 1 1] w (fun e w' => ∃ i : Nat × Nat, True ∧ e = .returned (.slice (some ⟨i.1, 0, none⟩) 2 2) ∧ Post [] [.row 89 1 (.slice (some ⟨i.1, 0, none⟩) 2 2) 2 [.slice (some ⟨i.2, 0, none⟩) 1 1, .slice none 0 0], .row 120 1 (.slice (some ⟨i.2, 0, none⟩) 1 1) 1 [u 2#64]] w w') := by
 refine enter (args := [.agg #[sv [(97 : UInt8)]], evv (lfv 3 0), .slice (some ⟨bs, 0, none⟩) 1 1]) [] 51 Tryz.func51 rfl rfl rfl ?_
 refine CT.nilrow 120 1 ?_
 refine CT.seq (CT.region ?_)
 refine Wl.g rfl rfl (OpG.box (size := 1) rfl rfl rfl) ?_
 rintro b3 _
 refine Wl.g rfl rfl (OpG.box (size := 3) rfl rfl rfl) ?_
 rintro b4 _
 refine Wl.q rfl rfl (OpQ.assign rfl) ?_
 refine Wl.nil (PX.then_n (CT.seq (CT.seq (CT.region ?_))))
 refine Wl.q rfl rfl (OpQ.fieldAddr K20_fa24_0 rfl) ?_
 refine Wl.q rfl rfl (OpQ.loadF (b := b4) K20_sc3 rfl (by repeat (first | exact Has.here | apply Has.there)) (by rfl)) ?_
 refine Wl.know 9 (v' := .int .i64 3) rfl rfl ?_
 refine Wl.nil (PX.then_n (CT.block (CT.seq (CT.region ?_))))
 refine Wl.q rfl rfl (OpQ.eql rfl rfl) ?_
 refine Wl.know 11 (v' := .bool false) rfl (congrArg Value.bool rfl) ?_
 refine Wl.q rfl rfl (OpQ.assign rfl) ?_
 refine Wl.nil (PX.then_n ?_)
 refine CT.condF rfl ?_
 refine CT.seq (CT.region ?_)
 refine Wl.q rfl rfl (OpQ.eql rfl rfl) ?_
 refine Wl.know 18 (v' := .bool false) rfl (congrArg Value.bool rfl) ?_
 refine Wl.q rfl rfl (OpQ.assign rfl) ?_
 refine Wl.nil (PX.then_n ?_)
 refine CT.condF rfl ?_
 refine CT.seq (CT.seq (CT.region ?_))
 refine Wl.q rfl rfl (OpQ.eql rfl rfl) ?_
 refine Wl.know 27 (v' := .bool false) rfl (congrArg Value.bool rfl) ?_
 refine Wl.q rfl rfl (OpQ.assign rfl) ?_
 refine Wl.nil (PX.then_n ?_)
 refine CT.condF rfl ?_
 refine CT.region ?_
 refine Wl.q rfl rfl (OpQ.eql rfl rfl) ?_
 refine Wl.know 28 (v' := .bool false) rfl (congrArg Value.bool rfl) ?_
 refine Wl.q rfl rfl (OpQ.assign rfl) ?_
 refine Wl.nil (PX.then_n ?_)
 refine CT.condF rfl ?_
 refine CT.seq (CT.region ?_)
 refine Wl.q rfl rfl (OpQ.eql rfl rfl) ?_
 refine Wl.know 34 (v' := .bool false) rfl (congrArg Value.bool rfl) ?_
 refine Wl.q rfl rfl (OpQ.assign rfl) ?_
 refine Wl.nil (PX.then_n ?_)
 refine CT.condF rfl ?_
 refine CT.skip (PX.block_n (PX.then_n (CT.seq (CT.region ?_))))
 refine Wl.q rfl rfl (OpQ.fieldAddr K20_fa87_0 rfl) ?_
 refine Wl.q rfl rfl (OpQ.loadF (b := b3) K20_sc9 rfl (by repeat (first | exact Has.here | apply Has.there)) (by rfl)) ?_
 refine Wl.q rfl rfl (OpQ.lenSv K20_un9 rfl) ?_
 refine Wl.know 44 (v' := .int .i64 ((1 : Nat) : Int)) rfl rfl ?_
 refine Wl.q rfl rfl (OpQ.add rfl rfl (by omega)) ?_
 refine Wl.know 45 (v' := .int .i64 ((2 : Nat) : Int)) rfl rfl ?_
 refine Wl.g rfl rfl (OpG.make1 K20_un92 K20_in89 rfl rfl rfl rfl (by omega) (by omega)) ?_
 rintro b46 _
 refine Wl.g rfl rfl (OpG.alloc (zs := [.slice none 0 0]) K20_in92 rfl rfl) ?_
 rintro b7 _
 refine Wl.g rfl rfl (OpG.storeV1 (b := b7) K20_sz92 rfl rfl rfl (by repeat (first | exact Upd.here | apply Upd.there))) ?_
 rintro _ _
 refine Wl.nil (PX.then_n (CT.seq (CT.region ?_)))
 refine Wl.q rfl rfl (OpQ.move rfl) ?_
 refine Wl.q rfl rfl (OpQ.makeFunc rfl) ?_
 refine Wl.g rfl rfl (OpG.callX K20_go76 rfl (.cons (.there .here) (.cons (.there (.there (.there .here))) .nil)) (fun _ => (.cons (.cons .nil))) (fun w hH hp => each_spec w bs b3 b7 b4 b46 (hH.stays hT (.cons (.there .here) (.cons (.there (.there (.there .here))) .nil))) (hH.stays hs (.cons (.there .here) (.cons (.there (.there (.there .here))) .nil))) (Stays.rd (hH.staysK (.cons (.there .here) (.cons (.there (.there (.there .here))) .nil)) (show Has _ (.row 87 1 (vb b3) 1 [sv [(97 : UInt8)]]) from (by repeat (first | exact Has.here | apply Has.there))))) (Stays.rd (hH.staysK (.cons (.there .here) (.cons (.there (.there (.there .here))) .nil)) (show Has _ (.row 92 1 (vb b7) 1 [.slice (some ⟨b46, 0, none⟩) 2 2]) from (by repeat (first | exact Has.here | apply Has.there))))) (Stays.rd (hH.staysK (.cons (.there .here) (.cons (.there (.there (.there .here))) .nil)) (show Has _ (.row 24 3 (vb b4) 1 (evc (lfv 3 0))) from (by repeat (first | exact Has.here | apply Has.there))))) hp)) ?_
 rintro b49 _
 refine Wl.nil (PX.then_n (CT.seq (CT.region ?_)))
 refine Wl.q rfl rfl (OpQ.loadV1 (b := b7) K20_sc92 rfl (by repeat (first | exact Has.here | apply Has.there))) ?_
 refine Wl.q rfl rfl (OpQ.assign rfl) ?_
 refine Wl.nil (PX.then_n (CT.ret ?_))
 refine PX.ret1 rfl rfl (fun w' hH => ?_)
 exact ⟨(b46, b49), trivial, rfl, (hH.take (.cons .here (.cons .here .nil))).post⟩

theorem K20_ag24 : isAggB Tryz.prog 24 = some true := by kernel_rfl
theorem K20_sz24 : sizeB Tryz.prog 24 = some 3 := by kernel_rfl
theorem K20_go38 : isGo Tryz.prog 38 = true := by kernel_rfl
theorem K20_go48 : isGo Tryz.prog 48 = true := by kernel_rfl
theorem K20_pl87 : placesB Tryz.prog 87 = some (#[.string ⟨#[]⟩], [(0, 1)]) := by kernel_rfl
theorem K20_in87 : (Tryz.prog.info? 87).map (fun i => (i.zero, i.size, i.bytes)) = some (some (.agg #[.string ⟨#[]⟩]), 1, 16) := by kernel_rfl
theorem K20_go51 : isGo Tryz.prog 51 = true := by kernel_rfl
theorem K20_go52 : isGo Tryz.prog 52 = true := by kernel_rfl
set_option maxRecDepth 100000 in
/-- semigroup/expr.Match -/
theorem match_spec (w : World) (hT : Stays [] w Tab) : Calls Tryz.prog 27 #[evv (lfv 3 0), sv [(97 : UInt8)]] w (fun e w' => e = .returned (.bool true) ∧ Ext [] w w') := by
 refine enter (args := [evv (lfv 3 0), sv [(97 : UInt8)]]) [] 30 Tryz.func27 rfl rfl rfl ?_
 refine CT.seq (CT.region ?_)
 refine Wl.g rfl rfl (OpG.box (size := 3) rfl rfl rfl) ?_
 rintro b2 _
 refine Wl.q rfl rfl (OpQ.assign rfl) ?_
 refine Wl.nil (PX.then_n (CT.seq (CT.seq (CT.region ?_))))
 refine Wl.q rfl rfl (OpQ.loadV (b := b2) K20_ag24 K20_sz24 rfl (by repeat (first | exact Has.here | apply Has.there)) (by rfl)) ?_
 refine Wl.know 7 (v' := evv (lfv 3 0)) rfl rfl ?_
 refine Wl.g rfl rfl (OpG.callV K20_go38 rfl (fun w hH => exok_spec w (lfv 3 0) (fun w' _ => lfv_m 3 0 w'))) ?_
 rintro _ _
 refine Wl.know 8 (v' := .bool true) rfl (congrArg Value.bool (by decide)) ?_
 refine Wl.q rfl rfl (OpQ.not rfl) ?_
 refine Wl.know 9 (v' := .bool false) rfl (congrArg Value.bool rfl) ?_
 refine Wl.q rfl rfl (OpQ.move rfl) ?_
 refine Wl.q rfl rfl (OpQ.move rfl) ?_
 refine Wl.g rfl rfl (OpG.callV K20_go48 rfl (fun w hH => wvalid_spec w [(97 : UInt8)] (by decide) 6)) ?_
 rintro _ _
 refine Wl.know 12 (v' := .bool true) rfl (congrArg Value.bool (by decide)) ?_
 refine Wl.q rfl rfl (OpQ.not rfl) ?_
 refine Wl.know 13 (v' := .bool false) rfl (congrArg Value.bool rfl) ?_
 refine Wl.q rfl rfl (OpQ.pickF rfl rfl) ?_
 refine Wl.nil (PX.then_n ?_)
 refine CT.condF rfl ?_
 refine CT.skip (PX.then_n (CT.seq (CT.region ?_)))
 refine Wl.q rfl rfl (OpQ.move rfl) ?_
 refine Wl.q rfl rfl (OpQ.build (cells := #[_]) K20_pl87 rfl rfl) ?_
 refine Wl.g rfl rfl (OpG.alloc (zs := [.string ⟨#[]⟩]) K20_in87 rfl rfl) ?_
 rintro b5 _
 refine Wl.g rfl rfl (OpG.storeV (b := b5) K20_sz87 rfl rfl rfl rfl (by repeat (first | exact Upd.here | apply Upd.there))) ?_
 rintro _ _
 refine Wl.nil (PX.then_n (CT.seq (CT.region ?_)))
 refine Wl.q rfl rfl (OpQ.loadV (b := b5) K20_ag87 K20_sz87 rfl (by repeat (first | exact Has.here | apply Has.there)) (by rfl)) ?_
 refine Wl.know 17 (v' := .agg #[sv [(97 : UInt8)]]) rfl rfl ?_
 refine Wl.g rfl rfl (OpG.callX K20_go49 rfl .nil (fun _ => (.cons .nil)) (fun w hH hp => none_spec w)) ?_
 rintro b18 _
 refine Wl.q rfl rfl (OpQ.assign rfl) ?_
 refine Wl.nil (PX.then_n (CT.seq (CT.region ?_)))
 refine Wl.q rfl rfl (OpQ.move rfl) ?_
 refine Wl.g rfl rfl (OpG.callX K20_go50 rfl (.cons .here .nil) (fun _ => (.cons .nil)) (fun w hH hp => oadd0_spec w b18 0#64 hp)) ?_
 rintro _ _
 refine Wl.nil (PX.then_n (CT.seq (CT.region ?_)))
 refine Wl.q rfl rfl (OpQ.loadV (b := b5) K20_ag87 K20_sz87 rfl (by repeat (first | exact Has.here | apply Has.there)) (by rfl)) ?_
 refine Wl.know 21 (v' := .agg #[sv [(97 : UInt8)]]) rfl rfl ?_
 refine Wl.q rfl rfl (OpQ.loadV (b := b2) K20_ag24 K20_sz24 rfl (by repeat (first | exact Has.here | apply Has.there)) (by rfl)) ?_
 refine Wl.know 22 (v' := evv (lfv 3 0)) rfl rfl ?_
 refine Wl.q rfl rfl (OpQ.move rfl) ?_
 refine Wl.g rfl rfl (OpG.callX K20_go51 rfl .nil (fun _ => (.cons (.cons .nil))) (fun w hH hp => ends_spec w b18 (hH.stays0 hT) (Stays.rd (hH.staysK0 (show Has _ (.row 120 1 (.slice (some ⟨b18, 0, none⟩) 1 1) 1 [u 1#64]) from (by repeat (first | exact Has.here | apply Has.there))))))) ?_
 rintro ⟨b24, c24⟩ _
 refine Wl.q rfl rfl (OpQ.index1 K20_un92 K20_sz89 rfl rfl (by decide) rfl) ?_
 refine Wl.q rfl rfl (OpQ.loadRow K20_sc89 rfl .here rfl) ?_
 refine Wl.q rfl rfl (OpQ.move rfl) ?_
 refine Wl.q rfl rfl (OpQ.lenSv K20_un9 rfl) ?_
 refine Wl.know 28 (v' := .int .i64 ((1 : Nat) : Int)) rfl rfl ?_
 refine Wl.g rfl rfl (OpG.callV K20_go52 rfl (fun w hH => ohas_spec w c24 (Stays.rd (hH.staysK0 (show Has _ (.row 120 1 (.slice (some ⟨c24, 0, none⟩) 1 1) 1 [u 2#64]) from (by repeat (first | exact Has.here | apply Has.there))))))) ?_
 rintro _ _
 refine Wl.q rfl rfl (OpQ.assign rfl) ?_
 refine Wl.nil (PX.then_n (CT.ret ?_))
 refine PX.ret1 rfl rfl (fun w' hH => ?_)
 exact ⟨rfl, hH.ext⟩

end Go.Proofs.YtmggcdegekbncabGreatDoor

