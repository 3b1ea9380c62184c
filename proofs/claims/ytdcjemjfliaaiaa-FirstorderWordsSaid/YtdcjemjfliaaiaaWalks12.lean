/-
  What functions of the packages firstorder, semigroupref38 and semigroupmade compute, each by its walk. Conditions: those that each theorem names.
-/
import Derived.Test.YtdcjemjfliaaiaaMod
import Derived.Test.YtdcjemjfliaaiaaEng
import Derived.Test.YtdcjemjfliaaiaaWalks11
set_option linter.unusedSimpArgs false
namespace Go.Proofs.Ytdcjemjfliaaiaa
open Go Go.Eng Go.Fo Go.Sf
open Go.Tp (zi)
open Go.Tl (vf mayL Wd okW okB vf_t vf_f bo)

theorem WA_un74 : Try.prog.underlying 74 = some (.slice 89) := by kernel_rfl
theorem WA_in89 : (Try.prog.info? 89).map (fun i => (i.zero, i.size, i.bytes)) = some (some (.agg #[.int .i64 0, .int .i64 0, .int .i64 0, .int .i64 0, .int .i64 0, .int .i64 0, .int .i64 0, .int .i64 0, .int .i64 0]), 9, 72) := by kernel_rfl
theorem WA_sc74 : scalarB Try.prog 74 = some true := by kernel_rfl
theorem WA_sc38 : scalarB Try.prog 38 = some true := by kernel_rfl
theorem WA_sz3 : sizeB Try.prog 3 = some 1 := by kernel_rfl
theorem WA_ag40 : isAggB Try.prog 40 = some true := by kernel_rfl
theorem WA_sz40 : sizeB Try.prog 40 = some 2 := by kernel_rfl
theorem WA_go35 : isGo Try.prog 35 = true := by kernel_rfl
theorem WA_fa40_0 : fieldB Try.prog 40 0 = some 0 := by kernel_rfl
theorem WA_un38 : Try.prog.underlying 38 = some (.slice 72) := by kernel_rfl
theorem WA_mixed : Try.prog.follows .mixedOrders = true := by kernel_rfl
theorem WA_pl79 : placesB Try.prog 79 = some (#[.slice none 0 0, .slice none 0 0, .map none, .slice none 0 0], [(0, 1), (1, 2), (3, 1)]) := by kernel_rfl
theorem WA_fa79_1 : fieldB Try.prog 79 1 = some 1 := by kernel_rfl
theorem WA_fa77_1 : fieldB Try.prog 77 1 = some 1 := by kernel_rfl
theorem WA_sz75 : sizeB Try.prog 75 = some 1 := by kernel_rfl
theorem WA_pl81 : placesB Try.prog 81 = some (#[.int .i64 0, .int .i64 0], [(0, 1), (1, 1)]) := by kernel_rfl
theorem WA_in81 : (Try.prog.info? 81).map (fun i => (i.zero, i.size, i.bytes)) = some (some (.agg #[.int .i64 0, .int .i64 0]), 2, 16) := by kernel_rfl
theorem WA_sz81 : sizeB Try.prog 81 = some 2 := by kernel_rfl
theorem WA_ag81 : isAggB Try.prog 81 = some true := by kernel_rfl
theorem WA_go36 : isGo Try.prog 36 = true := by kernel_rfl
theorem WA_fa40_1 : fieldB Try.prog 40 1 = some 1 := by kernel_rfl
theorem WA_sc3 : scalarB Try.prog 3 = some true := by kernel_rfl
theorem WA_un82 : Try.prog.underlying 82 = some (.slice 85) := by kernel_rfl
theorem WA_sz85 : sizeB Try.prog 85 = some 9 := by kernel_rfl
theorem WA_ag85 : isAggB Try.prog 85 = some true := by kernel_rfl
theorem WA_un85 : Try.prog.underlying 85 = some (.array 9 4) := by kernel_rfl
theorem WA_sc4 : scalarB Try.prog 4 = some true := by kernel_rfl
theorem WA_sz4 : sizeB Try.prog 4 = some 1 := by kernel_rfl
theorem WA_fa79_2 : fieldB Try.prog 79 2 = some 3 := by kernel_rfl
theorem WA_sz72 : sizeB Try.prog 72 = some 4 := by kernel_rfl
theorem WA_ag72 : isAggB Try.prog 72 = some true := by kernel_rfl
theorem WA_sz89 : sizeB Try.prog 89 = some 9 := by kernel_rfl
theorem WA_go38 : isGo Try.prog 38 = true := by kernel_rfl
theorem WA_go37 : isGo Try.prog 37 = true := by kernel_rfl
theorem WA_un89 : Try.prog.underlying 89 = some (.array 9 3) := by kernel_rfl
theorem WA_fa77_0 : fieldB Try.prog 77 0 = some 0 := by kernel_rfl
theorem WA_sc26 : scalarB Try.prog 26 = some true := by kernel_rfl
theorem WA_go39 : isGo Try.prog 39 = true := by kernel_rfl
set_option maxRecDepth 100000 in
/-- semigroup/firstorder.Of -/
theorem fof_spec (w : World) (a : Option Addr) (cp : Nat) (xs : List Nd) (hr : Rd w a (xs.flatMap nv)) (hn : xs.length ≤ 4000) (root L : Int) : Calls Try.prog 18 #[.agg #[.slice a xs.length cp, .int .i64 root], .int .i64 (L)] w (fun e w' => ∃ i : List Fm × Nat × Option Addr × Nat, ((gE xs root L ≠ 0 → i.1 = [] ∧ i.2.1 = 0) ∧ (gE xs root L = 0 → okL i.1 L = true ∧ i.1.length ≤ 36 * (root.toNat + 1) ∧ TV i.1 xs root.toNat 0 1 i.2.1)) ∧ e = .returned (.tuple #[.slice i.2.2.1 i.1.length i.2.2.2, .int .i64 ((i.2.1 : Nat) : Int), .int .i64 (gE xs root L)]) ∧ Post [] [.row 29 6 (.slice i.2.2.1 i.1.length i.2.2.2) i.1.length (i.1.flatMap fv)] w w') := by
  have sm : 0 < xs.length → a.isSome = true := fun h => hr.isSome (j := 0) (by rw [flat_len nv_len]; omega)
  refine enter (args := [.agg #[.slice a xs.length cp, .int .i64 root], .int .i64 (L)]) [] 93 Try.func18 rfl rfl rfl ?_
  refine CT.seq ?_
  -- region 0: translate.go:60
  refine CT.region ?_
  refine Wl.g rfl rfl (OpG.box (size := 2) rfl rfl rfl) ?_
  rintro b2 _
  refine Wl.q rfl rfl (OpQ.assign rfl) ?_
  refine Wl.q rfl rfl (OpQ.assign rfl) ?_
  refine Wl.q rfl rfl (OpQ.assign rfl) ?_
  refine Wl.nil ?_
  refine PX.then_n ?_
  refine CT.seq ?_
  refine CT.seq ?_
  -- region 1: translate.go:61
  refine CT.region ?_
  refine Wl.q rfl rfl (OpQ.loadV (b := b2) WA_ag40 WA_sz40 rfl (by repeat (first | exact Has.here | apply Has.there)) (by rfl)) ?_
  refine Wl.q rfl rfl (OpQ.move rfl) ?_
  refine Wl.g rfl rfl (OpG.callV WA_go35 rfl (fun w hH => gvalid_spec w a cp xs (hH.rd0 hr rfl) (by omega) root L)) ?_
  rintro _ _
  refine Wl.q rfl rfl (OpQ.assign rfl) ?_
  refine Wl.nil ?_
  refine PX.then_n ?_
  refine CT.seq ?_
  -- region 2: translate.go:61
  refine CT.region ?_
  refine Wl.q rfl rfl (OpQ.move rfl) ?_
  refine Wl.q rfl rfl (OpQ.neq rfl rfl) ?_
  refine Wl.nil ?_
  refine PX.then_n ?_
  refine CT.cond rfl (fun h18 => ?_) (fun h18 => ?_)
  · -- if t18: then
    have h18 := of_nd_t h18
    refine CT.seq ?_
    -- region 3: translate.go:62
    refine CT.region ?_
    refine Wl.q rfl rfl (OpQ.move rfl) ?_
    refine Wl.q rfl rfl (OpQ.assign rfl) ?_
    refine Wl.q rfl rfl (OpQ.assign rfl) ?_
    refine Wl.q rfl rfl (OpQ.assign rfl) ?_
    refine Wl.nil ?_
    refine PX.then_n ?_
    refine CT.ret ?_
    refine PX.then_r ?_
    refine PX.ret3 rfl rfl rfl rfl (fun w' hH => ?_)
    exact ⟨([], 0, none, 0), ⟨fun _ => ⟨rfl, rfl⟩, fun h => absurd h (by omega)⟩, rfl, (HOk.post ((hH.take (L := []) .nil).nilrow 29 6))⟩
  · -- if t18: else
    have h18 := of_nd_f h18
    have hz : gE xs root L = 0 := by omega
    obtain ⟨hmay, _, hG, hr0, hr1⟩ := gE_zero hz
    obtain ⟨rt, rfl⟩ := Int.eq_ofNat_of_zero_le hr0
    have hrt : rt < xs.length := by omega
    refine CT.skip ?_
    refine PX.then_n ?_
    refine CT.seq ?_
    refine CT.seq ?_
    -- region 4: translate.go:64
    refine CT.region ?_
    refine Wl.q rfl rfl (OpQ.fieldAddr WA_fa40_0 rfl) ?_
    refine Wl.q rfl rfl (OpQ.loadF (b := b2) WA_sc38 rfl (by repeat (first | exact Has.here | apply Has.there)) (by rfl)) ?_
    refine Wl.q rfl rfl (OpQ.len WA_un38 rfl) ?_
    refine Wl.q rfl rfl (OpQ.mul rfl rfl (by omega)) ?_
    refine Wl.q rfl rfl (OpQ.add rfl rfl (by omega)) ?_
    refine Wl.q rfl rfl (OpQ.gtr rfl rfl) ?_
    refine Wl.know 25 (v' := .bool false) rfl (congrArg Value.bool (decide_eq_false (by omega))) ?_
    refine Wl.nil ?_
    refine PX.then_n ?_
    refine CT.condF rfl ?_
    refine CT.skip ?_
    refine PX.then_n ?_
    refine CT.seq ?_
    -- region 6, drawn: translate.go:67
    refine CT.draw 9 WA_mixed ?_
    refine RA.q 0 (by kernel_rfl) rfl rfl rfl (.refl _) (OpQ.fieldAddr WA_fa40_0 rfl) ?_
    refine RA.q 1 (by kernel_rfl) rfl rfl rfl (.refl _) (OpQ.loadF (b := b2) WA_sc38 rfl (by repeat (first | exact Has.here | apply Has.there)) (by rfl)) ?_
    refine RA.q 2 (by kernel_rfl) rfl rfl rfl (.refl _) (OpQ.fieldAddr WA_fa40_0 rfl) ?_
    refine RA.q 3 (by kernel_rfl) rfl rfl rfl (.refl _) (OpQ.loadF (b := b2) WA_sc38 rfl (by repeat (first | exact Has.here | apply Has.there)) (by rfl)) ?_
    refine RA.q 4 (by kernel_rfl) rfl rfl rfl (.refl _) (OpQ.len WA_un38 rfl) ?_
    refine RA.f 5 (by kernel_rfl) rfl rfl rfl (OpG.makeN WA_un74 WA_in89 rfl rfl (by decide) rfl rfl rfl (by omega) (by omega)) (fun _ _ => (.cons _ (.refl _))) ?_
    rintro b31 _
    refine RA.q 6 (by kernel_rfl) rfl rfl rfl (.cons _ (.refl _)) (OpQ.build (cells := #[.slice a xs.length cp, .slice none 0 0, .map none, .slice (some ⟨b31, 0, none⟩) xs.length xs.length]) WA_pl79 rfl rfl) ?_
    refine RA.f 7 (by kernel_rfl) rfl rfl rfl (OpG.box (size := 4) rfl rfl rfl) (fun _ _ => (.cons _ (.cons _ (.refl _)))) ?_
    rintro b33 _
    refine RA.q 8 (by kernel_rfl) rfl rfl rfl (.cons _ (.cons _ (.refl _))) (OpQ.assign rfl) ?_
    refine RA.tail ?_
    refine RT.done (by kernel_rfl) ?_
    refine PX.then_n ?_
    refine CT.seq ?_
    -- region 7: translate.go:68
    refine CT.region ?_
    refine Wl.q rfl rfl (OpQ.move rfl) ?_
    refine Wl.g rfl rfl (OpG.makeMap (f := fk)) ?_
    rintro b35 _
    refine Wl.q rfl rfl (OpQ.nilCheckP rfl) ?_
    refine Wl.q rfl rfl (OpQ.fieldAddr WA_fa79_1 rfl) ?_
    refine Wl.q rfl rfl (OpQ.fieldAddr WA_fa77_1 rfl) ?_
    refine Wl.know 38 rfl (add_ptr _ _ _) ?_
    refine Wl.g rfl rfl (OpG.storeRow (a := some ⟨b33, 0, none⟩) WA_sz75 rfl rfl rfl (by repeat (first | exact Upd.here | apply Upd.there)) (by simp)) ?_
    rintro _ _
    refine Wl.nil ?_
    refine PX.then_n ?_
    refine CT.seq ?_
    -- region 8: translate.go:69
    refine CT.region ?_
    refine Wl.q rfl rfl (OpQ.build (cells := #[.int .i64 0, .int .i64 1]) WA_pl81 rfl rfl) ?_
    refine Wl.g rfl rfl (OpG.alloc (zs := [.int .i64 0, .int .i64 0]) WA_in81 rfl rfl) ?_
    rintro b9 _
    refine Wl.g rfl rfl (OpG.storeV (b := b9) WA_sz81 rfl rfl rfl rfl (by repeat (first | exact Upd.here | apply Upd.there))) ?_
    rintro _ _
    refine Wl.nil ?_
    refine PX.then_n ?_
    refine CT.seq ?_
    -- region 9: translate.go:70
    refine CT.region ?_
    refine Wl.q rfl rfl (OpQ.loadV (b := b2) WA_ag40 WA_sz40 rfl (by repeat (first | exact Has.here | apply Has.there)) (by rfl)) ?_
    refine Wl.q rfl rfl (OpQ.loadV (b := b9) WA_ag81 WA_sz81 rfl (by repeat (first | exact Has.here | apply Has.there)) (by rfl)) ?_
    refine Wl.g rfl rfl (OpG.callX WA_go36 rfl .nil (fun _ => (.cons .nil)) (fun w hH hp => needs_spec w a cp xs (hH.rd0 hr rfl) L hG (by omega) rt hrt)) ?_
    rintro ⟨nd, na, nc⟩ hN
    dsimp only at hN
    have hnl := hN.len
    have hnp : 0 < nd.length := by omega
    refine Wl.know 42 (v' := .slice na xs.length nc) rfl rfl ?_
    refine Wl.q rfl rfl (OpQ.assign rfl) ?_
    refine Wl.nil ?_
    refine PX.then_n ?_
    refine CT.seq ?_
    refine CT.seq ?_
    -- region 10: translate.go:71
    refine CT.region ?_
    refine Wl.q rfl rfl (OpQ.fieldAddr WA_fa40_1 rfl) ?_
    refine Wl.q rfl rfl (OpQ.loadF (b := b2) WA_sc3 rfl (by repeat (first | exact Has.here | apply Has.there)) (by rfl)) ?_
    refine Wl.q rfl rfl (OpQ.add rfl rfl (by omega)) ?_
    refine Wl.q rfl rfl (OpQ.move rfl) ?_
    refine Wl.nil ?_
    refine PX.then_n ?_
    refine CT.block ?_
    -- the loop at region 11
    refine CT.nilrow 29 6 ?_
    refine CT.fact (p := na.isSome = true) (fun w hH => (hH.rd (.there .here)).isSome (j := 0) (by rw [List.length_map]; exact hnp)) (fun hna => ?_)
    refine CT.as (fun _ h => h.take (.cons (.there (.there (.there (.there .here)))) (.cons .here (.cons (.there (.there .here)) (.cons (.there (.there .here)) (.cons .here (.cons .here (.cons .here .nil)))))))) ?_
    refine CT.loop (ι := Nat × List Fm × List Int × Option Addr × Nat) (fun (i, fs, os, a', c') => i ≤ rt + 1 ∧ OfI L xs nd i 0 fs os) (fun (i, fs, os, a', c') => [(2, .pointer (some ⟨b2, 0, none⟩)), (8, .pointer (some ⟨b33, 0, none⟩)), (9, .pointer (some ⟨b9, 0, none⟩)), (10, .slice na xs.length nc), (45, .int .i64 ((rt : Int) + 1)), (46, .int .i64 (i : Int))]) (fun (i, fs, os, a', c') => [.row 79 4 (vb b33) 1 [.slice a xs.length cp, .slice a' fs.length c', .map (some b35), .slice (some ⟨b31, 0, none⟩) xs.length xs.length], .row 29 6 (.slice a' fs.length c') fs.length (fs.flatMap fv), .blk b35 (mapO fk (itA 0 fs)), .row 89 9 (.slice (some ⟨b31, 0, none⟩) xs.length xs.length) xs.length (os.map zi), .row 85 9 (.slice na xs.length nc) xs.length (nd.map bo), .row 81 2 (vb b9) 1 [.int .i64 ((0 : Nat) : Int), .int .i64 ((1 : Nat) : Int)], .row 40 2 (vb b2) 1 [.slice a xs.length cp, .int .i64 ((rt : Nat) : Int)]]) (fun (i, fs, os, a', c') => rt + 1 - i) (0, [], List.replicate (xs.length * 9) 0, none, 0) ⟨Nat.zero_le _, ofi_start⟩ ⟨rfl, rfl, rfl, rfl, rfl, rfl, trivial⟩ (.keep rfl (.keep rfl (.keep rfl (.keep (row_eq (by rw [← rep9i]; rfl)) (.keep rfl (.keep rfl (.keep rfl .nil))))))) (fun ⟨i, fs, os, a', c'⟩ ⟨hi, hO⟩ K0 hK0 => ?_)
    dsimp only
    refine CT.seq ?_
    -- region 11: translate.go:71
    refine CT.region ?_
    refine Wl.q rfl rfl (OpQ.lss rfl rfl) ?_
    refine Wl.nil ?_
    refine PX.then_n ?_
    refine CT.seq ?_
    refine CT.cond rfl (fun h47 => ?_) (fun h47 => ?_)
    · -- if t47: then
      have h47 := of_decide_eq_true h47
      refine CT.skip ?_
      refine PX.then_n ?_
      refine CT.seq ?_
      refine CT.block ?_
      refine CT.seq ?_
      -- region 12: translate.go:71
      refine CT.region ?_
      refine Wl.q rfl rfl (OpQ.move rfl) ?_
      refine Wl.q rfl rfl (OpQ.assign rfl) ?_
      refine Wl.nil ?_
      refine PX.then_n ?_
      refine CT.seq ?_
      -- region 13: translate.go:72
      refine CT.region ?_
      refine Wl.q rfl rfl (OpQ.move rfl) ?_
      refine Wl.q rfl rfl (OpQ.move rfl) ?_
      refine Wl.q rfl rfl (OpQ.index WA_un82 WA_sz85 rfl rfl (by omega) hna) ?_
      refine Wl.q rfl rfl (OpQ.loadAggG (cs := (rowB nd i)) WA_ag85 WA_sz85 rfl (fun w hH => hH.rd (.there (.there (.there (.there .here))))) (rowB_at (by omega))) ?_
      refine Wl.q rfl rfl (OpQ.move rfl) ?_
      refine Wl.nil ?_
      refine PX.then_n ?_
      refine CT.block ?_
      -- the loop at region 14
      refine CT.loop (ι := Nat × List Fm × List Int × Option Addr × Nat) (fun (s, f2, o2, a', c') => s ≤ 9 ∧ OfI L xs nd i s f2 o2) (fun (s, f2, o2, a', c') => [(2, .pointer (some ⟨b2, 0, none⟩)), (8, .pointer (some ⟨b33, 0, none⟩)), (9, .pointer (some ⟨b9, 0, none⟩)), (10, .slice na xs.length nc), (45, .int .i64 ((rt : Int) + 1)), (46, .int .i64 (i : Int)), (11, .int .i64 (i : Int)), (52, .agg (rowB nd i).toArray), (53, .int .i64 (s : Int))]) (fun (s, f2, o2, a', c') => [.row 79 4 (vb b33) 1 [.slice a xs.length cp, .slice a' f2.length c', .map (some b35), .slice (some ⟨b31, 0, none⟩) xs.length xs.length], .row 29 6 (.slice a' f2.length c') f2.length (f2.flatMap fv), .blk b35 (mapO fk (itA 0 f2)), .row 89 9 (.slice (some ⟨b31, 0, none⟩) xs.length xs.length) xs.length (o2.map zi), .row 85 9 (.slice na xs.length nc) xs.length (nd.map bo), .row 81 2 (vb b9) 1 [.int .i64 ((0 : Nat) : Int), .int .i64 ((1 : Nat) : Int)], .row 40 2 (vb b2) 1 [.slice a xs.length cp, .int .i64 ((rt : Nat) : Int)]]) (fun (s, f2, o2, a', c') => 9 - s) (0, fs, os, a', c') ⟨Nat.zero_le _, hO⟩ ⟨rfl, rfl, rfl, rfl, rfl, rfl, rfl, rfl, rfl, trivial⟩ (HSub.refl _) (fun ⟨s, f2, o2, a', c'⟩ ⟨hs, hO2⟩ K1 hK1 => ?_)
      dsimp only
      refine CT.seq ?_
      -- region 14: translate.go:72
      refine CT.region ?_
      refine Wl.q rfl rfl (OpQ.lss rfl rfl) ?_
      refine Wl.nil ?_
      refine PX.then_n ?_
      refine CT.seq ?_
      refine CT.cond rfl (fun h54 => ?_) (fun h54 => ?_)
      · -- if t54: then
        have h54 := of_decide_eq_true h54
        refine CT.skip ?_
        refine PX.then_n ?_
        refine CT.seq ?_
        refine CT.block ?_
        refine CT.seq ?_
        -- region 15: translate.go:72
        refine CT.region ?_
        refine Wl.q rfl rfl (OpQ.move rfl) ?_
        refine Wl.q rfl rfl (OpQ.indexAgg1 WA_un85 WA_sc4 WA_sz4 rfl rfl (by omega) (rowB_get nd i (by omega))) ?_
        refine Wl.know 56 (v' := .bool (ng nd (i * 9 + s))) rfl rfl ?_
        refine Wl.q rfl rfl (OpQ.assign rfl) ?_
        refine Wl.q rfl rfl (OpQ.assign rfl) ?_
        refine Wl.nil ?_
        refine PX.then_n ?_
        refine CT.seq ?_
        -- region 16: translate.go:73
        refine CT.region ?_
        refine Wl.q rfl rfl (OpQ.move rfl) ?_
        refine Wl.nil ?_
        refine PX.then_n ?_
        refine CT.cond rfl (fun h57 => ?_) (fun h57 => ?_)
        · -- if t57: then
          have hdg : s / 3 ≠ s % 3 := (hN.clo i (Nat.zero_le _) (by omega) s (by omega) h57).off
          have hdl := diag hdg (by omega)
          obtain ⟨ha1, hb1, hc1⟩ := hO2.subs hN hG (by omega) hrt (by omega) h57
          have hol := hO2.olen
          have hfl := hO2.len
          have hcs : cs s ≤ 6 := cs_six s
          -- region 17, drawn: translate.go:74
          refine CT.draw' (Hc := [.frag [b33] (CellIs b33 3 (.slice (some ⟨b31, 0, none⟩) xs.length xs.length)), .row 40 2 (vb b2) 1 [.slice a xs.length cp, .int .i64 ((rt : Nat) : Int)]]) 17 WA_mixed ?_
          refine RA.qw 0 (by kernel_rfl) rfl rfl rfl (fun _ h => (h.cellf (.cons .here .nil) (j := 3) (v := .slice (some ⟨b31, 0, none⟩) xs.length xs.length) rfl).take (.cons .here (.cons (.there (.there (.there (.there (.there .here))))) .nil))) (OpQ.move rfl) ?_
          refine RA.qw 1 (by kernel_rfl) rfl rfl rfl (fun _ h => (h.cellf (.cons .here .nil) (j := 3) (v := .slice (some ⟨b31, 0, none⟩) xs.length xs.length) rfl).take (.cons .here (.cons (.there (.there (.there (.there (.there .here))))) .nil))) (OpQ.nilCheckP rfl) ?_
          refine RA.qw 2 (by kernel_rfl) rfl rfl rfl (fun _ h => (h.cellf (.cons .here .nil) (j := 3) (v := .slice (some ⟨b31, 0, none⟩) xs.length xs.length) rfl).take (.cons .here (.cons (.there (.there (.there (.there (.there .here))))) .nil))) (OpQ.fieldAddr WA_fa79_2 rfl) ?_
          refine RA.qw 3 (by kernel_rfl) rfl rfl rfl (fun _ h => (h.cellf (.cons .here .nil) (j := 3) (v := .slice (some ⟨b31, 0, none⟩) xs.length xs.length) rfl).take (.cons .here (.cons (.there (.there (.there (.there (.there .here))))) .nil))) (OpQ.loadCell WA_sc74 rfl (by repeat (first | exact Has.here | apply Has.there))) ?_
          refine RA.qw 4 (by kernel_rfl) rfl rfl rfl (fun _ h => (h.cellf (.cons .here .nil) (j := 3) (v := .slice (some ⟨b31, 0, none⟩) xs.length xs.length) rfl).take (.cons .here (.cons (.there (.there (.there (.there (.there .here))))) .nil))) (OpQ.move rfl) ?_
          refine RA.qw 5 (by kernel_rfl) rfl rfl rfl (fun _ h => (h.cellf (.cons .here .nil) (j := 3) (v := .slice (some ⟨b31, 0, none⟩) xs.length xs.length) rfl).take (.cons .here (.cons (.there (.there (.there (.there (.there .here))))) .nil))) (OpQ.move rfl) ?_
          refine RA.qw 6 (by kernel_rfl) rfl rfl rfl (fun _ h => (h.cellf (.cons .here .nil) (j := 3) (v := .slice (some ⟨b31, 0, none⟩) xs.length xs.length) rfl).take (.cons .here (.cons (.there (.there (.there (.there (.there .here))))) .nil))) (OpQ.move rfl) ?_
          refine RA.qw 7 (by kernel_rfl) rfl rfl rfl (fun _ h => (h.cellf (.cons .here .nil) (j := 3) (v := .slice (some ⟨b31, 0, none⟩) xs.length xs.length) rfl).take (.cons .here (.cons (.there (.there (.there (.there (.there .here))))) .nil))) (OpQ.fieldAddr WA_fa40_0 rfl) ?_
          refine RA.qw 8 (by kernel_rfl) rfl rfl rfl (fun _ h => (h.cellf (.cons .here .nil) (j := 3) (v := .slice (some ⟨b31, 0, none⟩) xs.length xs.length) rfl).take (.cons .here (.cons (.there (.there (.there (.there (.there .here))))) .nil))) (OpQ.loadF (b := b2) WA_sc38 rfl (by repeat (first | exact Has.here | apply Has.there)) (by rfl)) ?_
          refine RA.qw 9 (by kernel_rfl) rfl rfl rfl (fun _ h => (h.cellf (.cons .here .nil) (j := 3) (v := .slice (some ⟨b31, 0, none⟩) xs.length xs.length) rfl).take (.cons .here (.cons (.there (.there (.there (.there (.there .here))))) .nil))) (OpQ.move rfl) ?_
          refine RA.qw 10 (by kernel_rfl) rfl rfl rfl (fun _ h => (h.cellf (.cons .here .nil) (j := 3) (v := .slice (some ⟨b31, 0, none⟩) xs.length xs.length) rfl).take (.cons .here (.cons (.there (.there (.there (.there (.there .here))))) .nil))) (OpQ.index WA_un38 WA_sz72 rfl rfl (by omega) (sm (by omega))) ?_
          refine RA.qw 11 (by kernel_rfl) rfl rfl rfl (fun _ h => (h.cellf (.cons .here .nil) (j := 3) (v := .slice (some ⟨b31, 0, none⟩) xs.length xs.length) rfl).take (.cons .here (.cons (.there (.there (.there (.there (.there .here))))) .nil))) (OpQ.loadAggG (cs := nv (xs.getD i n0)) WA_ag72 WA_sz72 rfl (fun w hH => hH.rd0 hr rfl) (flat_cells nv_len xs n0 (by omega))) ?_
          refine RA.qw 12 (by kernel_rfl) rfl rfl rfl (fun _ h => (h.cellf (.cons .here .nil) (j := 3) (v := .slice (some ⟨b31, 0, none⟩) xs.length xs.length) rfl).take (.cons .here (.cons (.there (.there (.there (.there (.there .here))))) .nil))) (OpQ.move rfl) ?_
          refine RA.qw 15 (by kernel_rfl) rfl rfl rfl (fun _ h => (h.cellf (.cons .here .nil) (j := 3) (v := .slice (some ⟨b31, 0, none⟩) xs.length xs.length) rfl).take (.cons .here (.cons (.there (.there (.there (.there (.there .here))))) .nil))) (OpQ.index WA_un74 WA_sz89 rfl rfl (by omega) rfl) ?_
          refine RA.fw 13 (by kernel_rfl) rfl rfl rfl (OpG.callV WA_go38 rfl (fun w hH => pairOf_spec w s (by omega))) (fun _ _ => (fun _ h => (h.cellf (.cons .here .nil) (j := 3) (v := .slice (some ⟨b31, 0, none⟩) xs.length xs.length) rfl).take (.cons .here (.cons (.there (.there (.there (.there (.there .here))))) .nil)))) ?_
          rintro _ _
          refine RA.know 71 (v' := .agg #[.int .i64 ((s / 3 : Nat) : Int), .int .i64 ((s % 3 : Nat) : Int)]) rfl rfl ?_
          refine RA.fw 14 (by kernel_rfl) rfl rfl rfl (OpG.callX WA_go37 rfl (.cons .here (.cons .here (.cons .here .nil))) (fun _ => (.cons (.cons (.cons .nil)))) (fun w hH hp => formula_spec w b33 b35 (.slice a xs.length cp) (some ⟨b31, 0, none⟩) xs.length xs.length o2 L f2 a' c' hp hO2.ok (by omega) (Stays.rd (hH.staysK (.cons .here (.cons .here (.cons .here .nil))) .here)) hol xs i (xs.getD i n0) (s / 3) (s % 3) hG (by omega) rfl rfl hdl.1 hdl.2.1 hdg ha1 hb1 hc1)) (fun _ _ => (fun _ h => (h.cellf (.cons .here .nil) (j := 3) (v := .slice (some ⟨b31, 0, none⟩) xs.length xs.length) rfl).take (.cons .here (.cons (.there (.there (.there (.there (.there .here))))) .nil)))) ?_
          rintro ⟨xs72, r72, a72, c72⟩ g72
          dsimp only at g72
          refine RA.know 72 (v' := .int .i64 ((r72 : Nat) : Int)) rfl rfl ?_
          refine RA.qw 16 (by kernel_rfl) rfl rfl rfl (fun _ h => (h.cellf (.cons .here .nil) (j := 3) (v := .slice (some ⟨b31, 0, none⟩) xs.length xs.length) rfl).take (.cons .here (.cons (.there (.there (.there (.there (.there .here))))) .nil))) (OpQ.indexArr1 WA_un89 WA_sz3 rfl rfl (by omega)) ?_
          refine RA.tail ?_
          refine RT.f 17 (by kernel_rfl) rfl rfl rfl (OpG.storeRowF (i := i * 9) (j := s) WA_sz3 rfl rfl rfl (by repeat (first | exact Upd.here | apply Upd.there)) (by rw [List.length_map]; omega)) ?_
          rintro _ _
          refine RT.done (by kernel_rfl) ?_
          refine PX.block_n ?_
          refine PX.then_n ?_
          -- region 18: translate.go:72
          refine CT.region ?_
          refine Wl.q rfl rfl (OpQ.add rfl rfl (by omega)) ?_
          refine Wl.q rfl rfl (OpQ.move rfl) ?_
          refine Wl.nil ?_
          exact PX.loop hK1 (s + 1, xs72, o2.set (i * 9 + s) (r72 : Int), a72, c72) ⟨by omega, hO2.step (by omega) (by omega) hdg g72⟩ (show 9 - (s + 1) < 9 - s by omega) ⟨rfl, rfl, rfl, rfl, rfl, rfl, rfl, rfl, rfl, trivial⟩ (.keep rfl (.keep rfl (.keep rfl (.keep (row_eq (by rw [List.map_set] <;> rfl)) (.keep rfl (.keep rfl (.keep rfl .nil)))))))
        · -- if t57: else
          refine CT.skip ?_
          refine PX.block_n ?_
          refine PX.then_n ?_
          -- region 18: translate.go:72
          refine CT.region ?_
          refine Wl.q rfl rfl (OpQ.add rfl rfl (by omega)) ?_
          refine Wl.q rfl rfl (OpQ.move rfl) ?_
          refine Wl.nil ?_
          exact PX.loop hK1 (s + 1, f2, o2, a', c') ⟨by omega, hO2.skip (by omega) (by simpa using h57)⟩ (show 9 - (s + 1) < 9 - s by omega) ⟨rfl, rfl, rfl, rfl, rfl, rfl, rfl, rfl, rfl, trivial⟩ (HSub.refl _)
      · -- if t54: else
        have h54 := of_decide_eq_false h54
        refine CT.exit ?_
        refine PX.then_x ?_
        refine PX.then_x ?_
        refine PX.block_x ?_
        refine PX.block_n ?_
        refine PX.then_n ?_
        -- region 19: translate.go:71
        refine CT.region ?_
        refine Wl.q rfl rfl (OpQ.add rfl rfl (by omega)) ?_
        refine Wl.q rfl rfl (OpQ.move rfl) ?_
        refine Wl.nil ?_
        exact PX.loop hK0 (i + 1, f2, o2, a', c') ⟨by omega, by obtain rfl : s = 9 := (by omega); exact hO2.row⟩ (show rt + 1 - (i + 1) < rt + 1 - i by omega) ⟨rfl, rfl, rfl, rfl, rfl, rfl, trivial⟩ (HSub.refl _)
    · -- if t47: else
      have h47 := of_decide_eq_false h47
      obtain rfl : i = rt + 1 := by omega
      have hol := hO.olen
      obtain ⟨ρ, hρ, htv⟩ := hO.ent rt 1 (.inl (by omega)) (by omega) hN.top
      refine CT.exit ?_
      refine PX.then_x ?_
      refine PX.then_x ?_
      refine PX.block_x ?_
      refine PX.then_n ?_
      refine CT.seq ?_
      -- region 20, drawn: translate.go:78
      refine CT.draw 19 WA_mixed ?_
      refine RA.q 0 (by kernel_rfl) rfl rfl rfl (.refl _) (OpQ.move rfl) ?_
      refine RA.q 1 (by kernel_rfl) rfl rfl rfl (.refl _) (OpQ.nilCheckP rfl) ?_
      refine RA.q 2 (by kernel_rfl) rfl rfl rfl (.refl _) (OpQ.fieldAddr WA_fa79_1 rfl) ?_
      refine RA.q 3 (by kernel_rfl) rfl rfl rfl (.refl _) (OpQ.fieldAddr WA_fa77_0 rfl) ?_
      refine RA.know 80 rfl (add_ptr _ _ _) ?_
      refine RA.q 4 (by kernel_rfl) rfl rfl rfl (.refl _) (OpQ.loadF (b := b33) WA_sc26 rfl (by repeat (first | exact Has.here | apply Has.there)) (by rfl)) ?_
      refine RA.q 5 (by kernel_rfl) rfl rfl rfl (.refl _) (OpQ.move rfl) ?_
      refine RA.q 6 (by kernel_rfl) rfl rfl rfl (.refl _) (OpQ.nilCheckP rfl) ?_
      refine RA.q 7 (by kernel_rfl) rfl rfl rfl (.refl _) (OpQ.fieldAddr WA_fa79_2 rfl) ?_
      refine RA.q 8 (by kernel_rfl) rfl rfl rfl (.refl _) (OpQ.loadF (b := b33) WA_sc74 rfl (by repeat (first | exact Has.here | apply Has.there)) (by rfl)) ?_
      refine RA.q 9 (by kernel_rfl) rfl rfl rfl (.refl _) (OpQ.fieldAddr WA_fa40_1 rfl) ?_
      refine RA.q 10 (by kernel_rfl) rfl rfl rfl (.refl _) (OpQ.loadF (b := b2) WA_sc3 rfl (by repeat (first | exact Has.here | apply Has.there)) (by rfl)) ?_
      refine RA.q 11 (by kernel_rfl) rfl rfl rfl (.refl _) (OpQ.loadV (b := b9) WA_ag81 WA_sz81 rfl (by repeat (first | exact Has.here | apply Has.there)) (by rfl)) ?_
      refine RA.q 13 (by kernel_rfl) rfl rfl rfl (.refl _) (OpQ.index WA_un74 WA_sz89 rfl rfl (by omega) rfl) ?_
      refine RA.f 12 (by kernel_rfl) rfl rfl rfl (OpG.callV WA_go39 rfl (fun w hH => slot_spec w 0 1 (by omega) (by omega))) (fun _ _ => (.refl _)) ?_
      rintro _ _
      refine RA.q 14 (by kernel_rfl) rfl rfl rfl (.refl _) (OpQ.indexArr1 WA_un89 WA_sz3 rfl rfl (by omega)) ?_
      refine RA.q 15 (by kernel_rfl) rfl rfl rfl (.refl _) (OpQ.loadGF WA_sc3 rfl (fun w hH => hH.rd (.there (.there (.there .here)))) (getMap zi os 0 (j := rt * 9 + 1) (by omega))) ?_
      refine RA.know 92 (v' := .int .i64 ((ρ : Nat) : Int)) rfl (congrArg (Value.int .i64) hρ) ?_
      refine RA.q 16 (by kernel_rfl) rfl rfl rfl (.refl _) (OpQ.assign rfl) ?_
      refine RA.q 17 (by kernel_rfl) rfl rfl rfl (.refl _) (OpQ.assign rfl) ?_
      refine RA.q 18 (by kernel_rfl) rfl rfl rfl (.refl _) (OpQ.assign rfl) ?_
      refine RA.tail ?_
      refine RT.done (by kernel_rfl) ?_
      refine PX.then_n ?_
      refine CT.ret ?_
      refine PX.ret3 rfl rfl rfl rfl (fun w' hH => ?_)
      exact ⟨(fs, ρ, a', c'), ⟨fun h => absurd hz h, fun _ => ⟨hO.ok, by have := hO.len; have e0 : cs 0 = 0 := rfl; rw [e0] at this; dsimp only; omega, htv⟩⟩, by rw [hz], hH.post.sub (.drop (.keep rfl (.drop (.drop (.drop (.drop (.drop .nil)))))))⟩

end Go.Proofs.Ytdcjemjfliaaiaa
