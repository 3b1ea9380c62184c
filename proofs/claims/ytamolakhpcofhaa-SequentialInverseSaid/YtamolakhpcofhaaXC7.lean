/-
  What functions of the program compute, each by its walk. Conditions: those that each theorem names.
-/
import Derived.Test.YtamolakhpcofhaaMod
import Derived.Test.YtamolakhpcofhaaXC6
import Derived.Test.YtamolakhpcofhaaXF
set_option linter.unusedSimpArgs false
namespace Go.Proofs.Ytamolakhpcofhaa
open Go Go.Eng Go.Am
open Go.Tp (zi)
open Go.Tl (mayL Wd okW okB bo)

set_option maxRecDepth 100000 in
/-- semigroup/semigroupref07.Access -/
theorem access_spec (w : World) (D : Dv) (hD : Stays [] w (dvm D)) (hv : D.Ok) : Calls Try.prog 103 #[dvv D] w (fun e w' => ∃ i : Nat × Option Addr × Nat × List Wd × Option Addr × Nat, Done D.da.to D.da.L D.da.s i.1 ∧ e = .returned (.tuple #[.slice i.2.1 (bfs D.da.to D.da.L D.da.s i.1).length i.2.2.1, .slice i.2.2.2.2.1 i.2.2.2.1.length i.2.2.2.2.2]) ∧ Post [] [.row 3 1 (.slice i.2.1 (bfs D.da.to D.da.L D.da.s i.1).length i.2.2.1) (bfs D.da.to D.da.L D.da.s i.1).length ((bfs D.da.to D.da.L D.da.s i.1).map zn)] w w') := by
 have hns : 0 < D.rs.length → D.na.isSome = true := fun h => hD.now.2.1.isSome (j := 0) (by rw [List.length_map]; exact h)
 have hrs : ∀ q, q < D.rs.length → 0 < (D.rs.getD q rw0).xs.length → (D.rs.getD q rw0).a.isSome = true := fun q hq h => (hD.now.2.2 _ (getDm hq)).isSome (j := 0) (by rw [List.length_map]; exact h)
 have hmv := hv.may
 have hn := hv.n
 have hst := hv.st
 have hlen := hv.len
 have hLe := hv.L_eq
 have hbl : ∀ k, (bfs D.da.to D.da.L D.da.s k).length ≤ D.fin.length := fun k => bfs_len hv.daOk hv.pos k
 refine enter (args := [dvv D]) [] 72 Try.func103 rfl rfl rfl ?_
 refine CT.seq (CT.region ?_)
 refine Wl.g rfl rfl (OpG.box (size := 4) rfl rfl rfl) ?_
 rintro b1 _
 refine Wl.q rfl rfl (OpQ.assign rfl) ?_
 refine Wl.q rfl rfl (OpQ.assign rfl) ?_
 refine Wl.nil (PX.then_n (CT.seq (CT.region ?_)))
 refine Wl.q rfl rfl (OpQ.fieldAddr zf22 rfl) ?_
 refine Wl.q rfl rfl (OpQ.loadF (b := b1) zf8 rfl (by repeat (first | exact Has.here | apply Has.there)) (by rfl)) ?_
 refine Wl.know 11 (v' := .int .i64 ((D.da.s : Nat) : Int)) rfl (congrArg (Value.int .i64) hv.s_eq) ?_
 refine Wl.g rfl rfl (OpG.lit1 zf0 zf32 rfl rfl rfl) ?_
 rintro b12 _
 refine Wl.g rfl rfl (OpG.lit1 (v := sv []) zf70 zf83 rfl rfl rfl) ?_
 rintro b13 _
 refine Wl.q rfl rfl (OpQ.assign rfl) ?_
 refine Wl.q rfl rfl (OpQ.assign rfl) ?_
 refine Wl.nil (PX.then_n (CT.seq (CT.region ?_)))
 refine Wl.q rfl rfl (OpQ.fieldAddr zf16 rfl) ?_
 refine Wl.q rfl rfl (OpQ.loadF (b := b1) zf17 rfl (by repeat (first | exact Has.here | apply Has.there)) (by rfl)) ?_
 refine Wl.q rfl rfl (OpQ.len zf18 rfl) ?_
 refine Wl.g rfl rfl (OpG.make1 zf18 zf43 rfl rfl rfl rfl (by omega) (by omega)) ?_
 rintro b17 _
 refine Wl.q rfl rfl (OpQ.assign rfl) ?_
 refine Wl.nil (PX.then_n (CT.seq (CT.region ?_)))
 refine Wl.q rfl rfl (OpQ.move rfl) ?_
 refine Wl.q rfl rfl (OpQ.fieldAddr zf22 rfl) ?_
 refine Wl.q rfl rfl (OpQ.loadF (b := b1) zf8 rfl (by repeat (first | exact Has.here | apply Has.there)) (by rfl)) ?_
 refine Wl.know 20 (v' := .int .i64 ((D.da.s : Nat) : Int)) rfl (congrArg (Value.int .i64) hv.s_eq) ?_
 refine Wl.q rfl rfl (OpQ.index1 zf18 zf29 rfl rfl (by have : D.da.s < D.fin.length := hv.daOk.st; omega) rfl) ?_
 refine Wl.g rfl rfl (OpG.storeRow zf29 rfl rfl rfl .here (by simp; exact hv.daOk.st)) ?_
 rintro _ _
 refine Wl.nil (PX.then_n (CT.seq (CT.seq (CT.region ?_))))
 refine Wl.q rfl rfl (OpQ.assign rfl) ?_
 refine Wl.nil (PX.then_n (CT.block ?_))
 refine CT.loop (ι := Nat × Option Addr × Nat × List Wd × Option Addr × Nat) (fun (i, sa, sc, ws, wa, wc) => Going D.da.to D.da.L D.da.s (i * D.da.L) ∧ i ≤ (bfs D.da.to D.da.L D.da.s (i * D.da.L)).length ∧ ws.length = (bfs D.da.to D.da.L D.da.s (i * D.da.L)).length ∧ ∀ y ∈ ws, y.length ≤ ws.length) (fun (i, sa, sc, ws, wa, wc) => [(1, .pointer (some ⟨b1, 0, none⟩)), (4, .slice sa (bfs D.da.to D.da.L D.da.s (i * D.da.L)).length sc), (5, .slice wa ws.length wc), (6, .slice (some ⟨b17, 0, none⟩) D.fin.length D.fin.length), (7, .int .i64 ((i : Nat) : Int))]) (fun (i, sa, sc, ws, wa, wc) => [.row 4 1 (.slice (some ⟨b17, 0, none⟩) D.fin.length D.fin.length) D.fin.length ((metL D.fin.length (bfs D.da.to D.da.L D.da.s (i * D.da.L))).map bo), .row 9 1 (.slice wa ws.length wc) ws.length (ws.map sv), .row 3 1 (.slice sa (bfs D.da.to D.da.L D.da.s (i * D.da.L)).length sc) (bfs D.da.to D.da.L D.da.s (i * D.da.L)).length ((bfs D.da.to D.da.L D.da.s (i * D.da.L)).map zn), .row 49 4 (vb b1) 1 (dvc D)]) (fun (i, sa, sc, ws, wa, wc) => D.fin.length - i) (0, some ⟨b12, 0, none⟩, 1, [[]], some ⟨b13, 0, none⟩, 1) ⟨by rw [Nat.zero_mul]; exact Going.zero, Nat.zero_le _, by rw [Nat.zero_mul]; rfl, fun y hy => by rw [List.mem_singleton] at hy; subst hy; exact Nat.zero_le _⟩ ⟨rfl, (lkV rfl (by rw [Nat.zero_mul]; rfl)), rfl, rfl, rfl, trivial⟩ (.keep (by rw [Nat.zero_mul]; exact row_eq (by rw [show bfs D.da.to D.da.L D.da.s 0 = [D.da.s] from rfl, ← metL_start (s := D.da.s), List.map_replicate]; rfl)) (.keep rfl (.keep (by rw [Nat.zero_mul]; rfl) (.keep rfl .nil)))) (fun ⟨i, sa, sc, ws, wa, wc⟩ ⟨hg, hi, hwl, hww⟩ K0 hK0 => ?_)
 dsimp only
 refine CT.fact (p := sa.isSome = true ∧ wa.isSome = true) (fun w hH => ⟨(hH.rd (.there (.there .here))).isSome (j := 0) (by rw [List.length_map]; exact bfs_pos _), (hH.rd (.there .here)).isSome (j := 0) (by rw [List.length_map, hwl]; exact bfs_pos _)⟩) (fun hsw => ?_)
 refine CT.seq (CT.seq (CT.region ?_))
 refine Wl.q rfl rfl (OpQ.move rfl) ?_
 refine Wl.q rfl rfl (OpQ.move rfl) ?_
 refine Wl.q rfl rfl (OpQ.len zf0 rfl) ?_
 refine Wl.q rfl rfl (OpQ.lss rfl rfl) ?_
 refine Wl.nil (PX.then_n ?_)
 refine CT.cond rfl (fun h25 => ?_) (fun h25 => ?_)
 ·
  have h25 := of_decide_eq_true h25
  have hlt : i < (bfs D.da.to D.da.L D.da.s (i * D.da.L)).length := by omega
  have hat : ((bfs D.da.to D.da.L D.da.s (i * D.da.L)).getD i D.da.s) < D.fin.length := bfs_lt hv.daOk hv.pos _ _ (getDm hlt)
  have hll := hbl (i * D.da.L)
  have hrw := (hv.row ((bfs D.da.to D.da.L D.da.s (i * D.da.L)).getD i D.da.s) hat).1
  refine CT.skip (PX.then_n (CT.seq (CT.block (CT.seq (CT.region ?_)))))
  refine Wl.q rfl rfl (OpQ.assign rfl) ?_
  refine Wl.nil (PX.then_n (CT.block ?_))
  refine CT.loop (ι := Nat × Option Addr × Nat × List Wd × Option Addr × Nat) (fun (x, sa, sc, ws, wa, wc) => x ≤ D.da.L ∧ ws.length = (bfs D.da.to D.da.L D.da.s (i * D.da.L + x)).length ∧ ∀ y ∈ ws, y.length ≤ ws.length) (fun (x, sa, sc, ws, wa, wc) => [(1, .pointer (some ⟨b1, 0, none⟩)), (4, .slice sa (bfs D.da.to D.da.L D.da.s (i * D.da.L + x)).length sc), (5, .slice wa ws.length wc), (6, .slice (some ⟨b17, 0, none⟩) D.fin.length D.fin.length), (7, .int .i64 ((i : Nat) : Int)), (8, .int .i64 ((x : Nat) : Int))]) (fun (x, sa, sc, ws, wa, wc) => [.row 4 1 (.slice (some ⟨b17, 0, none⟩) D.fin.length D.fin.length) D.fin.length ((metL D.fin.length (bfs D.da.to D.da.L D.da.s (i * D.da.L + x))).map bo), .row 9 1 (.slice wa ws.length wc) ws.length (ws.map sv), .row 3 1 (.slice sa (bfs D.da.to D.da.L D.da.s (i * D.da.L + x)).length sc) (bfs D.da.to D.da.L D.da.s (i * D.da.L + x)).length ((bfs D.da.to D.da.L D.da.s (i * D.da.L + x)).map zn), .row 49 4 (vb b1) 1 (dvc D)]) (fun (x, sa, sc, ws, wa, wc) => D.da.L - x) (0, sa, sc, ws, wa, wc) ⟨Nat.zero_le _, hwl, hww⟩ ⟨rfl, rfl, rfl, rfl, rfl, rfl, trivial⟩ (HSub.refl _) (fun ⟨x, sa, sc, ws, wa, wc⟩ ⟨hx, hwl, hww⟩ K1 hK1 => ?_)
  dsimp only
  refine CT.fact (p := sa.isSome = true ∧ wa.isSome = true) (fun w hH => ⟨(hH.rd (.there (.there .here))).isSome (j := 0) (by rw [List.length_map]; exact bfs_pos _), (hH.rd (.there .here)).isSome (j := 0) (by rw [List.length_map, hwl]; exact bfs_pos _)⟩) (fun hsw => ?_)
  refine CT.seq (CT.seq (CT.region ?_))
  refine Wl.q rfl rfl (OpQ.move rfl) ?_
  refine Wl.q rfl rfl (OpQ.fieldAddr zf15 rfl) ?_
  refine Wl.q rfl rfl (OpQ.loadF (b := b1) zf8 rfl (by repeat (first | exact Has.here | apply Has.there)) (by rfl)) ?_
  refine Wl.know 30 (v' := .int .i64 ((D.da.L : Nat) : Int)) rfl (congrArg (Value.int .i64) hLe) ?_
  refine Wl.q rfl rfl (OpQ.lss rfl rfl) ?_
  refine Wl.nil (PX.then_n ?_)
  refine CT.cond rfl (fun h31 => ?_) (fun h31 => ?_)
  ·
   have h31 := of_decide_eq_true h31
   have hxl : x < D.da.L := by omega
   have hto := hv.to (q := ((bfs D.da.to D.da.L D.da.s (i * D.da.L)).getD i D.da.s)) (x := x) hat (by omega)
   have hton : (D.da.to ((bfs D.da.to D.da.L D.da.s (i * D.da.L)).getD i D.da.s) x) < D.fin.length := hv.daOk.lt _ x hat hxl
   have hi1 : i < (bfs D.da.to D.da.L D.da.s (i * D.da.L + x)).length := Nat.lt_of_lt_of_le hlt (bfs_le (by omega))
   have hiw : i < ws.length := by omega
   have hb0 : (bfs D.da.to D.da.L D.da.s (i * D.da.L + (x + 1))) = (addN (bfs D.da.to D.da.L D.da.s (i * D.da.L + x)) (D.da.to ((bfs D.da.to D.da.L D.da.s (i * D.da.L)).getD i D.da.s) x)).1 := bfs_addx hxl hlt
   have hl1 := hbl (i * D.da.L + x)
   refine CT.skip (PX.then_n (CT.seq (CT.block (CT.seq ?_))))
   refine CT.draw 12 zf6 ?_
   refine RA.q 0 (by kernel_rfl) rfl rfl rfl (.refl _) (OpQ.fieldAddr zf19 rfl) ?_
   refine RA.q 1 (by kernel_rfl) rfl rfl rfl (.refl _) (OpQ.loadF (b := b1) zf20 rfl (by repeat (first | exact Has.here | apply Has.there)) (by rfl)) ?_
   refine RA.q 2 (by kernel_rfl) rfl rfl rfl (.refl _) (OpQ.move rfl) ?_
   refine RA.q 3 (by kernel_rfl) rfl rfl rfl (.refl _) (OpQ.move rfl) ?_
   refine RA.q 4 (by kernel_rfl) rfl rfl rfl (.refl _) (OpQ.index1 zf0 zf1 rfl rfl (by omega) hsw.1) ?_
   refine RA.q 5 (by kernel_rfl) rfl rfl rfl (.refl _) (OpQ.loadRow zf8 rfl (.there (.there .here)) (getMap zn (bfs D.da.to D.da.L D.da.s (i * D.da.L + x)) D.da.s (j := i) hi1)) ?_
   refine RA.know 39 (v' := .int .i64 ((((bfs D.da.to D.da.L D.da.s (i * D.da.L)).getD i D.da.s) : Nat) : Int)) rfl (congrArg (fun m : Nat => Value.int .i64 (m : Int)) (bfs_get (show i * D.da.L ≤ i * D.da.L + x by omega) hlt D.da.s)) ?_
   refine RA.q 6 (by kernel_rfl) rfl rfl rfl (.refl _) (OpQ.index1 zf21 zf23 rfl rfl (by omega) (hns (by omega))) ?_
   refine RA.q 7 (by kernel_rfl) rfl rfl rfl (.refl _) (OpQ.loadG zf10 rfl (fun w hH => (hH.use hD).2.1) (getMap rv D.rs rw0 (j := ((bfs D.da.to D.da.L D.da.s (i * D.da.L)).getD i D.da.s)) (by omega))) ?_
   refine RA.q 8 (by kernel_rfl) rfl rfl rfl (.refl _) (OpQ.move rfl) ?_
   refine RA.q 9 (by kernel_rfl) rfl rfl rfl (.refl _) (OpQ.index1 zf0 zf1 rfl rfl (by omega) (hrs _ (by omega) (by omega))) ?_
   refine RA.q 10 (by kernel_rfl) rfl rfl rfl (.refl _) (OpQ.loadG zf8 rfl (fun w hH => (hH.use hD).2.2 _ (getDm (show ((bfs D.da.to D.da.L D.da.s (i * D.da.L)).getD i D.da.s) < D.rs.length by omega))) (getMap zz (D.rs.getD ((bfs D.da.to D.da.L D.da.s (i * D.da.L)).getD i D.da.s) rw0).xs 0 (j := x) (by omega))) ?_
   refine RA.know 44 (v' := .int .i64 (((D.da.to ((bfs D.da.to D.da.L D.da.s (i * D.da.L)).getD i D.da.s) x) : Nat) : Int)) rfl (congrArg (Value.int .i64) hto) ?_
   refine RA.q 11 (by kernel_rfl) rfl rfl rfl (.refl _) (OpQ.assign rfl) ?_
   refine RA.tail ?_
   refine RT.done (by kernel_rfl) ?_
   refine PX.then_n (CT.seq (CT.region ?_))
   refine Wl.q rfl rfl (OpQ.move rfl) ?_
   refine Wl.q rfl rfl (OpQ.move rfl) ?_
   refine Wl.q rfl rfl (OpQ.index1 zf18 zf29 rfl rfl (by omega) rfl) ?_
   refine Wl.q rfl rfl (OpQ.loadRow zf30 rfl .here (getMap bo (metL D.fin.length (bfs D.da.to D.da.L D.da.s (i * D.da.L + x))) false (j := (D.da.to ((bfs D.da.to D.da.L D.da.s (i * D.da.L)).getD i D.da.s) x)) (by rw [metL_len]; exact hton))) ?_
   refine Wl.know 48 (v' := .bool (decide ((D.da.to ((bfs D.da.to D.da.L D.da.s (i * D.da.L)).getD i D.da.s) x) ∈ (bfs D.da.to D.da.L D.da.s (i * D.da.L + x))))) rfl (congrArg Value.bool (metL_get hton)) ?_
   refine Wl.q rfl rfl (OpQ.not rfl) ?_
   refine Wl.nil (PX.then_n ?_)
   refine CT.cond rfl (fun h49 => ?_) (fun h49 => ?_)
   ·
    have hnm : ¬ (D.da.to ((bfs D.da.to D.da.L D.da.s (i * D.da.L)).getD i D.da.s) x) ∈ (bfs D.da.to D.da.L D.da.s (i * D.da.L + x)) := by simpa using h49
    have hb1 : (bfs D.da.to D.da.L D.da.s (i * D.da.L + (x + 1))) = (bfs D.da.to D.da.L D.da.s (i * D.da.L + x)) ++ [(D.da.to ((bfs D.da.to D.da.L D.da.s (i * D.da.L)).getD i D.da.s) x)] := by rw [hb0, addN_out hnm]
    refine CT.seq (CT.region ?_)
    refine Wl.q rfl rfl (OpQ.move rfl) ?_
    refine Wl.q rfl rfl (OpQ.move rfl) ?_
    refine Wl.q rfl rfl (OpQ.index1 zf18 zf29 rfl rfl (by omega) rfl) ?_
    refine Wl.g rfl rfl (OpG.storeRow zf29 rfl rfl rfl .here (by rw [List.length_map, metL_len]; show (D.da.to ((bfs D.da.to D.da.L D.da.s (i * D.da.L)).getD i D.da.s) x) < _; exact hton)) ?_
    rintro _ _
    refine Wl.nil (PX.then_n ?_)
    refine CT.draw' (Hc := [.row 9 1 (.slice wa ws.length wc) ws.length (ws.map sv)]) 16 zf6 ?_
    refine RA.q 0 (by kernel_rfl) rfl rfl rfl (.cons _ (.cons_cons _ (.cons _ (.cons _ (.refl _))))) (OpQ.move rfl) ?_
    refine RA.q 1 (by kernel_rfl) rfl rfl rfl (.cons _ (.cons_cons _ (.cons _ (.cons _ (.refl _))))) (OpQ.move rfl) ?_
    refine RA.q 4 (by kernel_rfl) rfl rfl rfl (.cons _ (.cons_cons _ (.cons _ (.cons _ (.refl _))))) (OpQ.move rfl) ?_
    refine RA.q 5 (by kernel_rfl) rfl rfl rfl (.cons _ (.cons_cons _ (.cons _ (.cons _ (.refl _))))) (OpQ.move rfl) ?_
    refine RA.q 6 (by kernel_rfl) rfl rfl rfl (.cons _ (.cons_cons _ (.cons _ (.cons _ (.refl _))))) (OpQ.move rfl) ?_
    refine RA.q 7 (by kernel_rfl) rfl rfl rfl (.cons _ (.cons_cons _ (.cons _ (.cons _ (.refl _))))) (OpQ.index1 zf70 zf71 rfl rfl (by omega) hsw.2) ?_
    refine RA.q 8 (by kernel_rfl) rfl rfl rfl (.cons _ (.cons_cons _ (.cons _ (.cons _ (.refl _))))) (OpQ.loadRow zf72 rfl .here (getMap sv ws [] (j := i) hiw)) ?_
    refine RA.q 9 (by kernel_rfl) rfl rfl rfl (.cons _ (.cons_cons _ (.cons _ (.cons _ (.refl _))))) (OpQ.move rfl) ?_
    refine RA.q 10 (by kernel_rfl) rfl rfl rfl (.cons _ (.cons_cons _ (.cons _ (.cons _ (.refl _))))) (OpQ.add rfl rfl (by have : D.da.L ≤ 6 := (show D.L.toNat ≤ 6 by omega); omega)) ?_
    refine RA.q 11 (by kernel_rfl) rfl rfl rfl (.cons _ (.cons_cons _ (.cons _ (.cons _ (.refl _))))) (OpQ.conv rfl (conv_i64_u8 zf13 zf3 _ (by have : D.da.L ≤ 6 := (show D.L.toNat ≤ 6 by omega); omega))) ?_
    refine RA.know 64 (v' := bv (UInt8.ofNat (97 + (x : Int)).toNat)) rfl (Tl.bv_of (by have : D.da.L ≤ 6 := (show D.L.toNat ≤ 6 by omega); omega)) ?_
    refine RA.two 2 12 (by kernel_rfl) rfl rfl rfl (OpG.lit1 zf0 zf32 rfl rfl rfl) (fun _ _ => (.cons _ (.cons _ (.cons_cons _ (.cons _ (.cons _ (.refl _))))))) rfl rfl rfl (OpG.lit1 zf2 zf14 rfl rfl rfl) (fun _ _ => (.cons _ (.cons _ (.cons_cons _ (.cons _ (.cons _ (.refl _))))))) ?_ ?_
    ·
     rintro b55 _
     refine RA.two 3 12 (by kernel_rfl) rfl rfl rfl (OpG.append zf0 zf32 (by rfl) (by decide) rfl rfl (p := 3) rfl (fun w hH => hH.rd .here) ⟨rfl, (by simp [Value.oneCell']), (by omega), (by omega)⟩ (nm := (bfs D.da.to D.da.L D.da.s (i * D.da.L + x)).length + 1) rfl (all := ((bfs D.da.to D.da.L D.da.s (i * D.da.L + x)) ++ [(D.da.to ((bfs D.da.to D.da.L D.da.s (i * D.da.L)).getD i D.da.s) x)]).map zn) (by simp)) (fun _ _ => (.cons _ (.cons _ (.cons_cons _ (.cons _ (.cons _ (.refl _))))))) rfl rfl rfl (OpG.lit1 zf2 zf14 rfl rfl rfl) (fun _ _ => (.cons _ (.cons _ (.cons _ (.cons_cons _ (.cons _ (.cons _ (.refl _)))))))) ?_ ?_
     ·
      rintro ⟨a56, c56⟩ h56
      refine RA.f 12 (by kernel_rfl) rfl rfl rfl (OpG.lit1 zf2 zf14 rfl rfl rfl) (fun _ _ => (.cons _ (.cons _ (.cons _ (.cons_cons _ (.cons _ (.cons _ (.refl _)))))))) ?_
      rintro b65 _
      refine RA.fq 13 (by kernel_rfl) rfl rfl rfl (OpQ.convBS (l := [UInt8.ofNat (97 + (x : Int)).toNat]) zf2 zf3 zf4 rfl (fun w hH => hH.rd .here)) (.cons _ (.cons _ (.cons _ (.cons_cons _ (.cons _ (.cons _ (.refl _))))))) ?_
      refine RA.q 14 (by kernel_rfl) rfl rfl rfl (.cons _ (.cons _ (.cons _ (.cons_cons _ (.cons _ (.cons _ (.refl _))))))) (OpQ.concat rfl rfl (by have := hww _ (getDm (d := []) hiw); dsimp only [List.length_singleton]; omega)) ?_
      refine RA.f 15 (by kernel_rfl) rfl rfl rfl (OpG.lit1 zf70 zf83 rfl rfl rfl) (fun _ _ => (.cons _ (.cons _ (.cons _ (.cons _ (.cons_cons _ (.cons _ (.cons _ (.refl _))))))))) ?_
      rintro b68 _
      refine RA.tail ?_
      refine RT.f 16 (by kernel_rfl) rfl rfl rfl (OpG.append zf70 zf83 (by rfl) (by decide) rfl rfl (p := 4) rfl (fun w hH => hH.rd .here) ⟨rfl, (by simp [Value.oneCell', sv]), (by omega), (by omega)⟩ (nm := ws.length + 1) rfl (all := (ws ++ [(ws.getD i [] ++ [UInt8.ofNat (97 + (x : Int)).toNat])]).map sv) (by simp)) ?_
      rintro ⟨a69, c69⟩ h69
      refine RT.q 17 (by kernel_rfl) rfl rfl rfl (OpQ.assign rfl) ?_
      refine RT.q 18 (by kernel_rfl) rfl rfl rfl (OpQ.assign rfl) ?_
      refine RT.done (by kernel_rfl) ?_
      refine PX.block_n (PX.then_n (CT.region ?_))
      refine Wl.q rfl rfl (OpQ.move rfl) ?_
      refine Wl.q rfl rfl (OpQ.add rfl rfl (by omega)) ?_
      refine Wl.q rfl rfl (OpQ.assign rfl) ?_
      refine Wl.nil ?_
      refine PX.as (fun _ h => h.take (.cons (.there (.there (.there .here))) (.cons (.there (.there (.there .here))) (.cons (.there (.there (.there .here))) (.cons (.there (.there (.there .here))) .nil))))) ?_
      exact PX.loop hK1 (x + 1, a56, c56, ws ++ [(ws.getD i [] ++ [UInt8.ofNat (97 + (x : Int)).toNat])], a69, c69) ⟨by omega, by rw [hb1, List.length_append, List.length_append, hwl]; rfl, by rw [List.length_append]; exact words_snoc hww (by rw [List.length_append]; have := hww _ (getDm (d := []) hiw); show (ws.getD i []).length + 1 ≤ ws.length + 1; omega)⟩ (show D.da.L - (x + 1) < D.da.L - x by omega) ⟨rfl, (lkV rfl (by rw [hb1, List.length_append]; rfl)), (lkV rfl (by rw [List.length_append]; rfl)), rfl, rfl, rfl, trivial⟩ (.keep (by rw [hb1]; exact row_eq metL_put.symm) (.keep (by rw [List.length_append]; rfl) (.keep (by rw [hb1, List.length_append]; rfl) (.keep rfl .nil))))
     ·
      rintro b65 _
      refine RA.two 3 13 (by kernel_rfl) rfl rfl rfl (OpG.append zf0 zf32 (by rfl) (by decide) rfl rfl (p := 4) rfl (fun w hH => hH.rd (.there .here)) ⟨rfl, (by simp [Value.oneCell']), (by omega), (by omega)⟩ (nm := (bfs D.da.to D.da.L D.da.s (i * D.da.L + x)).length + 1) rfl (all := ((bfs D.da.to D.da.L D.da.s (i * D.da.L + x)) ++ [(D.da.to ((bfs D.da.to D.da.L D.da.s (i * D.da.L)).getD i D.da.s) x)]).map zn) (by simp)) (fun _ _ => (.cons _ (.cons _ (.cons _ (.cons_cons _ (.cons _ (.cons _ (.refl _)))))))) rfl rfl rfl (OpQ.toG (OpQ.convBS (l := [UInt8.ofNat (97 + (x : Int)).toNat]) zf2 zf3 zf4 rfl (fun w hH => hH.rd .here))) (fun _ _ => (.cons _ (.cons _ (.cons _ (.cons_cons _ (.cons _ (.cons _ (.refl _)))))))) ?_ ?_
      ·
       rintro ⟨a56, c56⟩ h56
       refine RA.fq 13 (by kernel_rfl) rfl rfl rfl (OpQ.convBS (l := [UInt8.ofNat (97 + (x : Int)).toNat]) zf2 zf3 zf4 rfl (fun w hH => hH.rd .here)) (.cons _ (.cons _ (.cons _ (.cons_cons _ (.cons _ (.cons _ (.refl _))))))) ?_
       refine RA.q 14 (by kernel_rfl) rfl rfl rfl (.cons _ (.cons _ (.cons _ (.cons_cons _ (.cons _ (.cons _ (.refl _))))))) (OpQ.concat rfl rfl (by have := hww _ (getDm (d := []) hiw); dsimp only [List.length_singleton]; omega)) ?_
       refine RA.f 15 (by kernel_rfl) rfl rfl rfl (OpG.lit1 zf70 zf83 rfl rfl rfl) (fun _ _ => (.cons _ (.cons _ (.cons _ (.cons _ (.cons_cons _ (.cons _ (.cons _ (.refl _))))))))) ?_
       rintro b68 _
       refine RA.tail ?_
       refine RT.f 16 (by kernel_rfl) rfl rfl rfl (OpG.append zf70 zf83 (by rfl) (by decide) rfl rfl (p := 4) rfl (fun w hH => hH.rd .here) ⟨rfl, (by simp [Value.oneCell', sv]), (by omega), (by omega)⟩ (nm := ws.length + 1) rfl (all := (ws ++ [(ws.getD i [] ++ [UInt8.ofNat (97 + (x : Int)).toNat])]).map sv) (by simp)) ?_
       rintro ⟨a69, c69⟩ h69
       refine RT.q 17 (by kernel_rfl) rfl rfl rfl (OpQ.assign rfl) ?_
       refine RT.q 18 (by kernel_rfl) rfl rfl rfl (OpQ.assign rfl) ?_
       refine RT.done (by kernel_rfl) ?_
       refine PX.block_n (PX.then_n (CT.region ?_))
       refine Wl.q rfl rfl (OpQ.move rfl) ?_
       refine Wl.q rfl rfl (OpQ.add rfl rfl (by omega)) ?_
       refine Wl.q rfl rfl (OpQ.assign rfl) ?_
       refine Wl.nil ?_
       refine PX.as (fun _ h => h.take (.cons (.there (.there (.there .here))) (.cons (.there (.there (.there .here))) (.cons (.there (.there (.there .here))) (.cons (.there (.there (.there .here))) .nil))))) ?_
       exact PX.loop hK1 (x + 1, a56, c56, ws ++ [(ws.getD i [] ++ [UInt8.ofNat (97 + (x : Int)).toNat])], a69, c69) ⟨by omega, by rw [hb1, List.length_append, List.length_append, hwl]; rfl, by rw [List.length_append]; exact words_snoc hww (by rw [List.length_append]; have := hww _ (getDm (d := []) hiw); show (ws.getD i []).length + 1 ≤ ws.length + 1; omega)⟩ (show D.da.L - (x + 1) < D.da.L - x by omega) ⟨rfl, (lkV rfl (by rw [hb1, List.length_append]; rfl)), (lkV rfl (by rw [List.length_append]; rfl)), rfl, rfl, rfl, trivial⟩ (.keep (by rw [hb1]; exact row_eq metL_put.symm) (.keep (by rw [List.length_append]; rfl) (.keep (by rw [hb1, List.length_append]; rfl) (.keep rfl .nil))))
      ·
       rintro _ _
       refine RA.q 14 (by kernel_rfl) rfl rfl rfl (.cons _ (.cons _ (.cons _ (.cons_cons _ (.cons _ (.cons _ (.refl _))))))) (OpQ.concat rfl rfl (by have := hww _ (getDm (d := []) hiw); dsimp only [List.length_singleton]; omega)) ?_
       refine RA.two 3 15 (by kernel_rfl) rfl rfl rfl (OpG.append zf0 zf32 (by rfl) (by decide) rfl rfl (p := 4) rfl (fun w hH => hH.rd (.there .here)) ⟨rfl, (by simp [Value.oneCell']), (by omega), (by omega)⟩ (nm := (bfs D.da.to D.da.L D.da.s (i * D.da.L + x)).length + 1) rfl (all := ((bfs D.da.to D.da.L D.da.s (i * D.da.L + x)) ++ [(D.da.to ((bfs D.da.to D.da.L D.da.s (i * D.da.L)).getD i D.da.s) x)]).map zn) (by simp)) (fun _ _ => (.cons _ (.cons _ (.cons _ (.cons_cons _ (.cons _ (.cons _ (.refl _)))))))) rfl rfl rfl (OpG.lit1 zf70 zf83 rfl rfl rfl) (fun _ _ => (.cons _ (.cons _ (.cons _ (.cons _ (.cons_cons _ (.cons _ (.cons _ (.refl _))))))))) ?_ ?_
       ·
        rintro ⟨a56, c56⟩ h56
        refine RA.f 15 (by kernel_rfl) rfl rfl rfl (OpG.lit1 zf70 zf83 rfl rfl rfl) (fun _ _ => (.cons _ (.cons _ (.cons _ (.cons _ (.cons_cons _ (.cons _ (.cons _ (.refl _))))))))) ?_
        rintro b68 _
        refine RA.tail ?_
        refine RT.f 16 (by kernel_rfl) rfl rfl rfl (OpG.append zf70 zf83 (by rfl) (by decide) rfl rfl (p := 4) rfl (fun w hH => hH.rd .here) ⟨rfl, (by simp [Value.oneCell', sv]), (by omega), (by omega)⟩ (nm := ws.length + 1) rfl (all := (ws ++ [(ws.getD i [] ++ [UInt8.ofNat (97 + (x : Int)).toNat])]).map sv) (by simp)) ?_
        rintro ⟨a69, c69⟩ h69
        refine RT.q 17 (by kernel_rfl) rfl rfl rfl (OpQ.assign rfl) ?_
        refine RT.q 18 (by kernel_rfl) rfl rfl rfl (OpQ.assign rfl) ?_
        refine RT.done (by kernel_rfl) ?_
        refine PX.block_n (PX.then_n (CT.region ?_))
        refine Wl.q rfl rfl (OpQ.move rfl) ?_
        refine Wl.q rfl rfl (OpQ.add rfl rfl (by omega)) ?_
        refine Wl.q rfl rfl (OpQ.assign rfl) ?_
        refine Wl.nil ?_
        refine PX.as (fun _ h => h.take (.cons (.there (.there (.there .here))) (.cons (.there (.there (.there .here))) (.cons (.there (.there (.there .here))) (.cons (.there (.there (.there .here))) .nil))))) ?_
        exact PX.loop hK1 (x + 1, a56, c56, ws ++ [(ws.getD i [] ++ [UInt8.ofNat (97 + (x : Int)).toNat])], a69, c69) ⟨by omega, by rw [hb1, List.length_append, List.length_append, hwl]; rfl, by rw [List.length_append]; exact words_snoc hww (by rw [List.length_append]; have := hww _ (getDm (d := []) hiw); show (ws.getD i []).length + 1 ≤ ws.length + 1; omega)⟩ (show D.da.L - (x + 1) < D.da.L - x by omega) ⟨rfl, (lkV rfl (by rw [hb1, List.length_append]; rfl)), (lkV rfl (by rw [List.length_append]; rfl)), rfl, rfl, rfl, trivial⟩ (.keep (by rw [hb1]; exact row_eq metL_put.symm) (.keep (by rw [List.length_append]; rfl) (.keep (by rw [hb1, List.length_append]; rfl) (.keep rfl .nil))))
       ·
        rintro b68 _
        refine RA.f 3 (by kernel_rfl) rfl rfl rfl (OpG.append zf0 zf32 (by rfl) (by decide) rfl rfl (p := 5) rfl (fun w hH => hH.rd (.there (.there .here))) ⟨rfl, (by simp [Value.oneCell']), (by omega), (by omega)⟩ (nm := (bfs D.da.to D.da.L D.da.s (i * D.da.L + x)).length + 1) rfl (all := ((bfs D.da.to D.da.L D.da.s (i * D.da.L + x)) ++ [(D.da.to ((bfs D.da.to D.da.L D.da.s (i * D.da.L)).getD i D.da.s) x)]).map zn) (by simp)) (fun _ _ => (.cons _ (.cons _ (.cons _ (.cons _ (.cons_cons _ (.cons _ (.cons _ (.refl _))))))))) ?_
        rintro ⟨a56, c56⟩ h56
        refine RA.tail ?_
        refine RT.f 16 (by kernel_rfl) rfl rfl rfl (OpG.append zf70 zf83 (by rfl) (by decide) rfl rfl (p := 4) rfl (fun w hH => hH.rd .here) ⟨rfl, (by simp [Value.oneCell', sv]), (by omega), (by omega)⟩ (nm := ws.length + 1) rfl (all := (ws ++ [(ws.getD i [] ++ [UInt8.ofNat (97 + (x : Int)).toNat])]).map sv) (by simp)) ?_
        rintro ⟨a69, c69⟩ h69
        refine RT.q 17 (by kernel_rfl) rfl rfl rfl (OpQ.assign rfl) ?_
        refine RT.q 18 (by kernel_rfl) rfl rfl rfl (OpQ.assign rfl) ?_
        refine RT.done (by kernel_rfl) ?_
        refine PX.block_n (PX.then_n (CT.region ?_))
        refine Wl.q rfl rfl (OpQ.move rfl) ?_
        refine Wl.q rfl rfl (OpQ.add rfl rfl (by omega)) ?_
        refine Wl.q rfl rfl (OpQ.assign rfl) ?_
        refine Wl.nil ?_
        refine PX.as (fun _ h => h.take (.cons (.there (.there (.there .here))) (.cons (.there (.there (.there .here))) (.cons (.there (.there (.there .here))) (.cons (.there (.there (.there .here))) .nil))))) ?_
        exact PX.loop hK1 (x + 1, a56, c56, ws ++ [(ws.getD i [] ++ [UInt8.ofNat (97 + (x : Int)).toNat])], a69, c69) ⟨by omega, by rw [hb1, List.length_append, List.length_append, hwl]; rfl, by rw [List.length_append]; exact words_snoc hww (by rw [List.length_append]; have := hww _ (getDm (d := []) hiw); show (ws.getD i []).length + 1 ≤ ws.length + 1; omega)⟩ (show D.da.L - (x + 1) < D.da.L - x by omega) ⟨rfl, (lkV rfl (by rw [hb1, List.length_append]; rfl)), (lkV rfl (by rw [List.length_append]; rfl)), rfl, rfl, rfl, trivial⟩ (.keep (by rw [hb1]; exact row_eq metL_put.symm) (.keep (by rw [List.length_append]; rfl) (.keep (by rw [hb1, List.length_append]; rfl) (.keep rfl .nil))))
    ·
     rintro b65 _
     refine RA.two 2 13 (by kernel_rfl) rfl rfl rfl (OpG.lit1 zf0 zf32 rfl rfl rfl) (fun _ _ => (.cons _ (.cons _ (.cons _ (.cons_cons _ (.cons _ (.cons _ (.refl _)))))))) rfl rfl rfl (OpQ.toG (OpQ.convBS (l := [UInt8.ofNat (97 + (x : Int)).toNat]) zf2 zf3 zf4 rfl (fun w hH => hH.rd .here))) (fun _ _ => (.cons _ (.cons _ (.cons_cons _ (.cons _ (.cons _ (.refl _))))))) ?_ ?_
     ·
      rintro b55 _
      refine RA.two 3 13 (by kernel_rfl) rfl rfl rfl (OpG.append zf0 zf32 (by rfl) (by decide) rfl rfl (p := 4) rfl (fun w hH => hH.rd .here) ⟨rfl, (by simp [Value.oneCell']), (by omega), (by omega)⟩ (nm := (bfs D.da.to D.da.L D.da.s (i * D.da.L + x)).length + 1) rfl (all := ((bfs D.da.to D.da.L D.da.s (i * D.da.L + x)) ++ [(D.da.to ((bfs D.da.to D.da.L D.da.s (i * D.da.L)).getD i D.da.s) x)]).map zn) (by simp)) (fun _ _ => (.cons _ (.cons _ (.cons _ (.cons_cons _ (.cons _ (.cons _ (.refl _)))))))) rfl rfl rfl (OpQ.toG (OpQ.convBS (l := [UInt8.ofNat (97 + (x : Int)).toNat]) zf2 zf3 zf4 rfl (fun w hH => hH.rd (.there .here)))) (fun _ _ => (.cons _ (.cons _ (.cons _ (.cons_cons _ (.cons _ (.cons _ (.refl _)))))))) ?_ ?_
      ·
       rintro ⟨a56, c56⟩ h56
       refine RA.fq 13 (by kernel_rfl) rfl rfl rfl (OpQ.convBS (l := [UInt8.ofNat (97 + (x : Int)).toNat]) zf2 zf3 zf4 rfl (fun w hH => hH.rd (.there .here))) (.cons _ (.cons _ (.cons _ (.cons_cons _ (.cons _ (.cons _ (.refl _))))))) ?_
       refine RA.q 14 (by kernel_rfl) rfl rfl rfl (.cons _ (.cons _ (.cons _ (.cons_cons _ (.cons _ (.cons _ (.refl _))))))) (OpQ.concat rfl rfl (by have := hww _ (getDm (d := []) hiw); dsimp only [List.length_singleton]; omega)) ?_
       refine RA.f 15 (by kernel_rfl) rfl rfl rfl (OpG.lit1 zf70 zf83 rfl rfl rfl) (fun _ _ => (.cons _ (.cons _ (.cons _ (.cons _ (.cons_cons _ (.cons _ (.cons _ (.refl _))))))))) ?_
       rintro b68 _
       refine RA.tail ?_
       refine RT.f 16 (by kernel_rfl) rfl rfl rfl (OpG.append zf70 zf83 (by rfl) (by decide) rfl rfl (p := 4) rfl (fun w hH => hH.rd .here) ⟨rfl, (by simp [Value.oneCell', sv]), (by omega), (by omega)⟩ (nm := ws.length + 1) rfl (all := (ws ++ [(ws.getD i [] ++ [UInt8.ofNat (97 + (x : Int)).toNat])]).map sv) (by simp)) ?_
       rintro ⟨a69, c69⟩ h69
       refine RT.q 17 (by kernel_rfl) rfl rfl rfl (OpQ.assign rfl) ?_
       refine RT.q 18 (by kernel_rfl) rfl rfl rfl (OpQ.assign rfl) ?_
       refine RT.as (fun _ h => h.take (.cons .here (.cons (.there .here) (.cons .here (.cons .here (.cons .here (.cons .here (.cons .here .nil)))))))) ?_
       refine RT.done (by kernel_rfl) ?_
       refine PX.block_n (PX.then_n (CT.region ?_))
       refine Wl.q rfl rfl (OpQ.move rfl) ?_
       refine Wl.q rfl rfl (OpQ.add rfl rfl (by omega)) ?_
       refine Wl.q rfl rfl (OpQ.assign rfl) ?_
       refine Wl.nil ?_
       refine PX.as (fun _ h => h.take (.cons (.there (.there (.there .here))) (.cons (.there (.there (.there .here))) (.cons (.there (.there (.there .here))) (.cons (.there (.there (.there .here))) .nil))))) ?_
       exact PX.loop hK1 (x + 1, a56, c56, ws ++ [(ws.getD i [] ++ [UInt8.ofNat (97 + (x : Int)).toNat])], a69, c69) ⟨by omega, by rw [hb1, List.length_append, List.length_append, hwl]; rfl, by rw [List.length_append]; exact words_snoc hww (by rw [List.length_append]; have := hww _ (getDm (d := []) hiw); show (ws.getD i []).length + 1 ≤ ws.length + 1; omega)⟩ (show D.da.L - (x + 1) < D.da.L - x by omega) ⟨rfl, (lkV rfl (by rw [hb1, List.length_append]; rfl)), (lkV rfl (by rw [List.length_append]; rfl)), rfl, rfl, rfl, trivial⟩ (.keep (by rw [hb1]; exact row_eq metL_put.symm) (.keep (by rw [List.length_append]; rfl) (.keep (by rw [hb1, List.length_append]; rfl) (.keep rfl .nil))))
      ·
       rintro _ _
       refine RA.q 14 (by kernel_rfl) rfl rfl rfl (.cons _ (.cons _ (.cons _ (.cons_cons _ (.cons _ (.cons _ (.refl _))))))) (OpQ.concat rfl rfl (by have := hww _ (getDm (d := []) hiw); dsimp only [List.length_singleton]; omega)) ?_
       refine RA.two 3 15 (by kernel_rfl) rfl rfl rfl (OpG.append zf0 zf32 (by rfl) (by decide) rfl rfl (p := 4) rfl (fun w hH => hH.rd .here) ⟨rfl, (by simp [Value.oneCell']), (by omega), (by omega)⟩ (nm := (bfs D.da.to D.da.L D.da.s (i * D.da.L + x)).length + 1) rfl (all := ((bfs D.da.to D.da.L D.da.s (i * D.da.L + x)) ++ [(D.da.to ((bfs D.da.to D.da.L D.da.s (i * D.da.L)).getD i D.da.s) x)]).map zn) (by simp)) (fun _ _ => (.cons _ (.cons _ (.cons _ (.cons_cons _ (.cons _ (.cons _ (.refl _)))))))) rfl rfl rfl (OpG.lit1 zf70 zf83 rfl rfl rfl) (fun _ _ => (.cons _ (.cons _ (.cons _ (.cons _ (.cons_cons _ (.cons _ (.cons _ (.refl _))))))))) ?_ ?_
       ·
        rintro ⟨a56, c56⟩ h56
        refine RA.f 15 (by kernel_rfl) rfl rfl rfl (OpG.lit1 zf70 zf83 rfl rfl rfl) (fun _ _ => (.cons _ (.cons _ (.cons _ (.cons _ (.cons_cons _ (.cons _ (.cons _ (.refl _))))))))) ?_
        rintro b68 _
        refine RA.tail ?_
        refine RT.f 16 (by kernel_rfl) rfl rfl rfl (OpG.append zf70 zf83 (by rfl) (by decide) rfl rfl (p := 4) rfl (fun w hH => hH.rd .here) ⟨rfl, (by simp [Value.oneCell', sv]), (by omega), (by omega)⟩ (nm := ws.length + 1) rfl (all := (ws ++ [(ws.getD i [] ++ [UInt8.ofNat (97 + (x : Int)).toNat])]).map sv) (by simp)) ?_
        rintro ⟨a69, c69⟩ h69
        refine RT.q 17 (by kernel_rfl) rfl rfl rfl (OpQ.assign rfl) ?_
        refine RT.q 18 (by kernel_rfl) rfl rfl rfl (OpQ.assign rfl) ?_
        refine RT.as (fun _ h => h.take (.cons .here (.cons (.there .here) (.cons .here (.cons .here (.cons .here (.cons .here (.cons .here .nil)))))))) ?_
        refine RT.done (by kernel_rfl) ?_
        refine PX.block_n (PX.then_n (CT.region ?_))
        refine Wl.q rfl rfl (OpQ.move rfl) ?_
        refine Wl.q rfl rfl (OpQ.add rfl rfl (by omega)) ?_
        refine Wl.q rfl rfl (OpQ.assign rfl) ?_
        refine Wl.nil ?_
        refine PX.as (fun _ h => h.take (.cons (.there (.there (.there .here))) (.cons (.there (.there (.there .here))) (.cons (.there (.there (.there .here))) (.cons (.there (.there (.there .here))) .nil))))) ?_
        exact PX.loop hK1 (x + 1, a56, c56, ws ++ [(ws.getD i [] ++ [UInt8.ofNat (97 + (x : Int)).toNat])], a69, c69) ⟨by omega, by rw [hb1, List.length_append, List.length_append, hwl]; rfl, by rw [List.length_append]; exact words_snoc hww (by rw [List.length_append]; have := hww _ (getDm (d := []) hiw); show (ws.getD i []).length + 1 ≤ ws.length + 1; omega)⟩ (show D.da.L - (x + 1) < D.da.L - x by omega) ⟨rfl, (lkV rfl (by rw [hb1, List.length_append]; rfl)), (lkV rfl (by rw [List.length_append]; rfl)), rfl, rfl, rfl, trivial⟩ (.keep (by rw [hb1]; exact row_eq metL_put.symm) (.keep (by rw [List.length_append]; rfl) (.keep (by rw [hb1, List.length_append]; rfl) (.keep rfl .nil))))
       ·
        rintro b68 _
        refine RA.f 3 (by kernel_rfl) rfl rfl rfl (OpG.append zf0 zf32 (by rfl) (by decide) rfl rfl (p := 5) rfl (fun w hH => hH.rd (.there .here)) ⟨rfl, (by simp [Value.oneCell']), (by omega), (by omega)⟩ (nm := (bfs D.da.to D.da.L D.da.s (i * D.da.L + x)).length + 1) rfl (all := ((bfs D.da.to D.da.L D.da.s (i * D.da.L + x)) ++ [(D.da.to ((bfs D.da.to D.da.L D.da.s (i * D.da.L)).getD i D.da.s) x)]).map zn) (by simp)) (fun _ _ => (.cons _ (.cons _ (.cons _ (.cons _ (.cons_cons _ (.cons _ (.cons _ (.refl _))))))))) ?_
        rintro ⟨a56, c56⟩ h56
        refine RA.tail ?_
        refine RT.f 16 (by kernel_rfl) rfl rfl rfl (OpG.append zf70 zf83 (by rfl) (by decide) rfl rfl (p := 4) rfl (fun w hH => hH.rd .here) ⟨rfl, (by simp [Value.oneCell', sv]), (by omega), (by omega)⟩ (nm := ws.length + 1) rfl (all := (ws ++ [(ws.getD i [] ++ [UInt8.ofNat (97 + (x : Int)).toNat])]).map sv) (by simp)) ?_
        rintro ⟨a69, c69⟩ h69
        refine RT.q 17 (by kernel_rfl) rfl rfl rfl (OpQ.assign rfl) ?_
        refine RT.q 18 (by kernel_rfl) rfl rfl rfl (OpQ.assign rfl) ?_
        refine RT.as (fun _ h => h.take (.cons .here (.cons (.there .here) (.cons .here (.cons .here (.cons .here (.cons .here (.cons .here .nil)))))))) ?_
        refine RT.done (by kernel_rfl) ?_
        refine PX.block_n (PX.then_n (CT.region ?_))
        refine Wl.q rfl rfl (OpQ.move rfl) ?_
        refine Wl.q rfl rfl (OpQ.add rfl rfl (by omega)) ?_
        refine Wl.q rfl rfl (OpQ.assign rfl) ?_
        refine Wl.nil ?_
        refine PX.as (fun _ h => h.take (.cons (.there (.there (.there .here))) (.cons (.there (.there (.there .here))) (.cons (.there (.there (.there .here))) (.cons (.there (.there (.there .here))) .nil))))) ?_
        exact PX.loop hK1 (x + 1, a56, c56, ws ++ [(ws.getD i [] ++ [UInt8.ofNat (97 + (x : Int)).toNat])], a69, c69) ⟨by omega, by rw [hb1, List.length_append, List.length_append, hwl]; rfl, by rw [List.length_append]; exact words_snoc hww (by rw [List.length_append]; have := hww _ (getDm (d := []) hiw); show (ws.getD i []).length + 1 ≤ ws.length + 1; omega)⟩ (show D.da.L - (x + 1) < D.da.L - x by omega) ⟨rfl, (lkV rfl (by rw [hb1, List.length_append]; rfl)), (lkV rfl (by rw [List.length_append]; rfl)), rfl, rfl, rfl, trivial⟩ (.keep (by rw [hb1]; exact row_eq metL_put.symm) (.keep (by rw [List.length_append]; rfl) (.keep (by rw [hb1, List.length_append]; rfl) (.keep rfl .nil))))
     ·
      rintro _ _
      refine RA.q 14 (by kernel_rfl) rfl rfl rfl (.cons _ (.cons _ (.cons_cons _ (.cons _ (.cons _ (.refl _)))))) (OpQ.concat rfl rfl (by have := hww _ (getDm (d := []) hiw); dsimp only [List.length_singleton]; omega)) ?_
      refine RA.two 2 15 (by kernel_rfl) rfl rfl rfl (OpG.lit1 zf0 zf32 rfl rfl rfl) (fun _ _ => (.cons _ (.cons _ (.cons _ (.cons_cons _ (.cons _ (.cons _ (.refl _)))))))) rfl rfl rfl (OpG.lit1 zf70 zf83 rfl rfl rfl) (fun _ _ => (.cons _ (.cons _ (.cons _ (.cons_cons _ (.cons _ (.cons _ (.refl _)))))))) ?_ ?_
      ·
       rintro b55 _
       refine RA.two 3 15 (by kernel_rfl) rfl rfl rfl (OpG.append zf0 zf32 (by rfl) (by decide) rfl rfl (p := 4) rfl (fun w hH => hH.rd .here) ⟨rfl, (by simp [Value.oneCell']), (by omega), (by omega)⟩ (nm := (bfs D.da.to D.da.L D.da.s (i * D.da.L + x)).length + 1) rfl (all := ((bfs D.da.to D.da.L D.da.s (i * D.da.L + x)) ++ [(D.da.to ((bfs D.da.to D.da.L D.da.s (i * D.da.L)).getD i D.da.s) x)]).map zn) (by simp)) (fun _ _ => (.cons _ (.cons _ (.cons _ (.cons_cons _ (.cons _ (.cons _ (.refl _)))))))) rfl rfl rfl (OpG.lit1 zf70 zf83 rfl rfl rfl) (fun _ _ => (.cons _ (.cons _ (.cons _ (.cons _ (.cons_cons _ (.cons _ (.cons _ (.refl _))))))))) ?_ ?_
       ·
        rintro ⟨a56, c56⟩ h56
        refine RA.f 15 (by kernel_rfl) rfl rfl rfl (OpG.lit1 zf70 zf83 rfl rfl rfl) (fun _ _ => (.cons _ (.cons _ (.cons _ (.cons _ (.cons_cons _ (.cons _ (.cons _ (.refl _))))))))) ?_
        rintro b68 _
        refine RA.tail ?_
        refine RT.f 16 (by kernel_rfl) rfl rfl rfl (OpG.append zf70 zf83 (by rfl) (by decide) rfl rfl (p := 4) rfl (fun w hH => hH.rd .here) ⟨rfl, (by simp [Value.oneCell', sv]), (by omega), (by omega)⟩ (nm := ws.length + 1) rfl (all := (ws ++ [(ws.getD i [] ++ [UInt8.ofNat (97 + (x : Int)).toNat])]).map sv) (by simp)) ?_
        rintro ⟨a69, c69⟩ h69
        refine RT.q 17 (by kernel_rfl) rfl rfl rfl (OpQ.assign rfl) ?_
        refine RT.q 18 (by kernel_rfl) rfl rfl rfl (OpQ.assign rfl) ?_
        refine RT.as (fun _ h => h.take (.cons .here (.cons (.there .here) (.cons .here (.cons .here (.cons .here (.cons .here (.cons .here .nil)))))))) ?_
        refine RT.done (by kernel_rfl) ?_
        refine PX.block_n (PX.then_n (CT.region ?_))
        refine Wl.q rfl rfl (OpQ.move rfl) ?_
        refine Wl.q rfl rfl (OpQ.add rfl rfl (by omega)) ?_
        refine Wl.q rfl rfl (OpQ.assign rfl) ?_
        refine Wl.nil ?_
        refine PX.as (fun _ h => h.take (.cons (.there (.there (.there .here))) (.cons (.there (.there (.there .here))) (.cons (.there (.there (.there .here))) (.cons (.there (.there (.there .here))) .nil))))) ?_
        exact PX.loop hK1 (x + 1, a56, c56, ws ++ [(ws.getD i [] ++ [UInt8.ofNat (97 + (x : Int)).toNat])], a69, c69) ⟨by omega, by rw [hb1, List.length_append, List.length_append, hwl]; rfl, by rw [List.length_append]; exact words_snoc hww (by rw [List.length_append]; have := hww _ (getDm (d := []) hiw); show (ws.getD i []).length + 1 ≤ ws.length + 1; omega)⟩ (show D.da.L - (x + 1) < D.da.L - x by omega) ⟨rfl, (lkV rfl (by rw [hb1, List.length_append]; rfl)), (lkV rfl (by rw [List.length_append]; rfl)), rfl, rfl, rfl, trivial⟩ (.keep (by rw [hb1]; exact row_eq metL_put.symm) (.keep (by rw [List.length_append]; rfl) (.keep (by rw [hb1, List.length_append]; rfl) (.keep rfl .nil))))
       ·
        rintro b68 _
        refine RA.f 3 (by kernel_rfl) rfl rfl rfl (OpG.append zf0 zf32 (by rfl) (by decide) rfl rfl (p := 5) rfl (fun w hH => hH.rd (.there .here)) ⟨rfl, (by simp [Value.oneCell']), (by omega), (by omega)⟩ (nm := (bfs D.da.to D.da.L D.da.s (i * D.da.L + x)).length + 1) rfl (all := ((bfs D.da.to D.da.L D.da.s (i * D.da.L + x)) ++ [(D.da.to ((bfs D.da.to D.da.L D.da.s (i * D.da.L)).getD i D.da.s) x)]).map zn) (by simp)) (fun _ _ => (.cons _ (.cons _ (.cons _ (.cons _ (.cons_cons _ (.cons _ (.cons _ (.refl _))))))))) ?_
        rintro ⟨a56, c56⟩ h56
        refine RA.tail ?_
        refine RT.f 16 (by kernel_rfl) rfl rfl rfl (OpG.append zf70 zf83 (by rfl) (by decide) rfl rfl (p := 4) rfl (fun w hH => hH.rd .here) ⟨rfl, (by simp [Value.oneCell', sv]), (by omega), (by omega)⟩ (nm := ws.length + 1) rfl (all := (ws ++ [(ws.getD i [] ++ [UInt8.ofNat (97 + (x : Int)).toNat])]).map sv) (by simp)) ?_
        rintro ⟨a69, c69⟩ h69
        refine RT.q 17 (by kernel_rfl) rfl rfl rfl (OpQ.assign rfl) ?_
        refine RT.q 18 (by kernel_rfl) rfl rfl rfl (OpQ.assign rfl) ?_
        refine RT.as (fun _ h => h.take (.cons .here (.cons (.there .here) (.cons .here (.cons .here (.cons .here (.cons .here (.cons .here .nil)))))))) ?_
        refine RT.done (by kernel_rfl) ?_
        refine PX.block_n (PX.then_n (CT.region ?_))
        refine Wl.q rfl rfl (OpQ.move rfl) ?_
        refine Wl.q rfl rfl (OpQ.add rfl rfl (by omega)) ?_
        refine Wl.q rfl rfl (OpQ.assign rfl) ?_
        refine Wl.nil ?_
        refine PX.as (fun _ h => h.take (.cons (.there (.there (.there .here))) (.cons (.there (.there (.there .here))) (.cons (.there (.there (.there .here))) (.cons (.there (.there (.there .here))) .nil))))) ?_
        exact PX.loop hK1 (x + 1, a56, c56, ws ++ [(ws.getD i [] ++ [UInt8.ofNat (97 + (x : Int)).toNat])], a69, c69) ⟨by omega, by rw [hb1, List.length_append, List.length_append, hwl]; rfl, by rw [List.length_append]; exact words_snoc hww (by rw [List.length_append]; have := hww _ (getDm (d := []) hiw); show (ws.getD i []).length + 1 ≤ ws.length + 1; omega)⟩ (show D.da.L - (x + 1) < D.da.L - x by omega) ⟨rfl, (lkV rfl (by rw [hb1, List.length_append]; rfl)), (lkV rfl (by rw [List.length_append]; rfl)), rfl, rfl, rfl, trivial⟩ (.keep (by rw [hb1]; exact row_eq metL_put.symm) (.keep (by rw [List.length_append]; rfl) (.keep (by rw [hb1, List.length_append]; rfl) (.keep rfl .nil))))
      ·
       rintro b68 _
       refine RA.f 2 (by kernel_rfl) rfl rfl rfl (OpG.lit1 zf0 zf32 rfl rfl rfl) (fun _ _ => (.cons _ (.cons _ (.cons _ (.cons _ (.cons_cons _ (.cons _ (.cons _ (.refl _))))))))) ?_
       rintro b55 _
       refine RA.f 3 (by kernel_rfl) rfl rfl rfl (OpG.append zf0 zf32 (by rfl) (by decide) rfl rfl (p := 5) rfl (fun w hH => hH.rd .here) ⟨rfl, (by simp [Value.oneCell']), (by omega), (by omega)⟩ (nm := (bfs D.da.to D.da.L D.da.s (i * D.da.L + x)).length + 1) rfl (all := ((bfs D.da.to D.da.L D.da.s (i * D.da.L + x)) ++ [(D.da.to ((bfs D.da.to D.da.L D.da.s (i * D.da.L)).getD i D.da.s) x)]).map zn) (by simp)) (fun _ _ => (.cons _ (.cons _ (.cons _ (.cons _ (.cons_cons _ (.cons _ (.cons _ (.refl _))))))))) ?_
       rintro ⟨a56, c56⟩ h56
       refine RA.tail ?_
       refine RT.f 16 (by kernel_rfl) rfl rfl rfl (OpG.append zf70 zf83 (by rfl) (by decide) rfl rfl (p := 4) rfl (fun w hH => hH.rd (.there .here)) ⟨rfl, (by simp [Value.oneCell', sv]), (by omega), (by omega)⟩ (nm := ws.length + 1) rfl (all := (ws ++ [(ws.getD i [] ++ [UInt8.ofNat (97 + (x : Int)).toNat])]).map sv) (by simp)) ?_
       rintro ⟨a69, c69⟩ h69
       refine RT.q 17 (by kernel_rfl) rfl rfl rfl (OpQ.assign rfl) ?_
       refine RT.q 18 (by kernel_rfl) rfl rfl rfl (OpQ.assign rfl) ?_
       refine RT.as (fun _ h => h.take (.cons (.there .here) (.cons (.there .here) (.cons .here (.cons .here (.cons .here (.cons .here (.cons .here .nil)))))))) ?_
       refine RT.done (by kernel_rfl) ?_
       refine PX.block_n (PX.then_n (CT.region ?_))
       refine Wl.q rfl rfl (OpQ.move rfl) ?_
       refine Wl.q rfl rfl (OpQ.add rfl rfl (by omega)) ?_
       refine Wl.q rfl rfl (OpQ.assign rfl) ?_
       refine Wl.nil ?_
       refine PX.as (fun _ h => h.take (.cons (.there (.there (.there .here))) (.cons (.there (.there (.there .here))) (.cons (.there (.there (.there .here))) (.cons (.there (.there (.there .here))) .nil))))) ?_
       exact PX.loop hK1 (x + 1, a56, c56, ws ++ [(ws.getD i [] ++ [UInt8.ofNat (97 + (x : Int)).toNat])], a69, c69) ⟨by omega, by rw [hb1, List.length_append, List.length_append, hwl]; rfl, by rw [List.length_append]; exact words_snoc hww (by rw [List.length_append]; have := hww _ (getDm (d := []) hiw); show (ws.getD i []).length + 1 ≤ ws.length + 1; omega)⟩ (show D.da.L - (x + 1) < D.da.L - x by omega) ⟨rfl, (lkV rfl (by rw [hb1, List.length_append]; rfl)), (lkV rfl (by rw [List.length_append]; rfl)), rfl, rfl, rfl, trivial⟩ (.keep (by rw [hb1]; exact row_eq metL_put.symm) (.keep (by rw [List.length_append]; rfl) (.keep (by rw [hb1, List.length_append]; rfl) (.keep rfl .nil))))
   ·
    have hm : (D.da.to ((bfs D.da.to D.da.L D.da.s (i * D.da.L)).getD i D.da.s) x) ∈ (bfs D.da.to D.da.L D.da.s (i * D.da.L + x)) := by simpa using h49
    have hb1 : (bfs D.da.to D.da.L D.da.s (i * D.da.L + (x + 1))) = (bfs D.da.to D.da.L D.da.s (i * D.da.L + x)) := by rw [hb0, addN_in hm]
    refine CT.skip (PX.block_n (PX.then_n (CT.region ?_)))
    refine Wl.q rfl rfl (OpQ.move rfl) ?_
    refine Wl.q rfl rfl (OpQ.add rfl rfl (by omega)) ?_
    refine Wl.q rfl rfl (OpQ.assign rfl) ?_
    refine Wl.nil ?_
    exact PX.loop hK1 (x + 1, sa, sc, ws, wa, wc) ⟨by omega, by rw [hb1]; exact hwl, hww⟩ (show D.da.L - (x + 1) < D.da.L - x by omega) ⟨rfl, (lkV rfl (by rw [hb1])), rfl, rfl, rfl, rfl, trivial⟩ (by dsimp only; rw [hb1]; exact HSub.refl _)
  ·
   have h31 := of_decide_eq_false h31
   obtain rfl : x = D.da.L := by omega
   refine CT.exit (PX.then_x (PX.then_x (PX.block_x (PX.block_n (PX.then_n (CT.region ?_))))))
   refine Wl.q rfl rfl (OpQ.move rfl) ?_
   refine Wl.q rfl rfl (OpQ.add rfl rfl (by omega)) ?_
   refine Wl.q rfl rfl (OpQ.assign rfl) ?_
   refine Wl.nil ?_
   exact PX.loop hK0 (i + 1, sa, sc, ws, wa, wc) ⟨hg.next hlt, by have := bfs_le (f := D.da.to) (L := D.da.L) (s := D.da.s) (show i * D.da.L ≤ (i + 1) * D.da.L by rw [Nat.add_mul]; omega); omega, by rw [Nat.add_mul, Nat.one_mul]; exact hwl, hww⟩ (by have := hbl (i * D.da.L); dsimp only; omega) ⟨rfl, (lkV rfl (by rw [Nat.add_mul, Nat.one_mul])), rfl, rfl, rfl, trivial⟩ (by dsimp only; rw [Nat.add_mul, Nat.one_mul]; exact HSub.refl _)
 ·
  have h25 := of_decide_eq_false h25
  refine CT.exit (PX.then_x (PX.then_x (PX.block_x (PX.then_n (CT.seq (CT.region ?_))))))
  refine Wl.q rfl rfl (OpQ.move rfl) ?_
  refine Wl.q rfl rfl (OpQ.move rfl) ?_
  refine Wl.q rfl rfl (OpQ.assign rfl) ?_
  refine Wl.q rfl rfl (OpQ.assign rfl) ?_
  refine Wl.nil (PX.then_n (CT.ret ?_))
  refine PX.ret2 rfl rfl rfl (fun w' hH => ?_)
  have hii : i = (bfs D.da.to D.da.L D.da.s (i * D.da.L)).length := by omega
  exact ⟨(i * D.da.L, sa, sc, ws, wa, wc), Done.of hv.pos hg hii, rfl, hH.post.sub (.drop (.drop (.keep rfl (.drop .nil))))⟩

set_option maxRecDepth 100000 in
/-- semigroup/semigroupref07.Trim -/
theorem trimR_spec (w : World) (D : Dv) (hD : Stays [] w (dvm D)) (hv : D.Ok) : Calls Try.prog 90 #[dvv D] w (fun e w' => ∃ i : Nat × Dv × List Nat × Option Addr × Nat, (Done D.da.to D.da.L D.da.s i.1 ∧ i.2.1.Is (autoD D.da.to D.da.L D.da.s i.1 D.da.fi)) ∧ e = .returned (.tuple #[dvv i.2.1, .slice i.2.2.2.1 D.fin.length i.2.2.2.2]) ∧ Post [] [.frag i.2.2.1 (dvm i.2.1)] w w') := by
 have hfs : 0 < D.fin.length → D.fa.isSome = true := fun h => hD.now.1.isSome (j := 0) (by rw [List.length_map]; exact h)
 have hns : 0 < D.rs.length → D.na.isSome = true := fun h => hD.now.2.1.isSome (j := 0) (by rw [List.length_map]; exact h)
 have hrs : ∀ q, q < D.rs.length → 0 < (D.rs.getD q rw0).xs.length → (D.rs.getD q rw0).a.isSome = true := fun q hq h => (hD.now.2.2 _ (getDm hq)).isSome (j := 0) (by rw [List.length_map]; exact h)
 have hmv := hv.may
 have hn := hv.n
 have hst := hv.st
 have hlen := hv.len
 have hLe := hv.L_eq
 refine enter (args := [dvv D]) [] 92 Try.func90 rfl rfl rfl ?_
 refine CT.seq (CT.region ?_)
 refine Wl.g rfl rfl (OpG.box (size := 4) rfl rfl rfl) ?_
 rintro b1 _
 refine Wl.g rfl rfl (OpG.alloc (zs := [.int .i64 0, .int .i64 0, .slice none 0 0, .slice none 0 0]) zf37 rfl rfl) ?_
 rintro b2 _
 refine Wl.q rfl rfl (OpQ.assign rfl) ?_
 refine Wl.nil (PX.then_n (CT.seq (CT.region ?_)))
 refine Wl.q rfl rfl (OpQ.loadV (b := b1) zf24 zf25 rfl (by repeat (first | exact Has.here | apply Has.there)) (by rfl)) ?_
 refine Wl.g rfl rfl (OpG.callX zf132 rfl .nil (fun _ => (.cons .nil)) (fun w hH hp => access_spec w D (hH.stays0 hD) hv)) ?_
 rintro ⟨K, sa, sc, ws, wa, wc⟩ hK
 dsimp only at hK
 have hlt : ∀ q ∈ bfs D.da.to D.da.L D.da.s K, q < D.fin.length := bfs_lt hv.daOk hv.pos K
 have hnd := bfs_nodup (f := D.da.to) (L := D.da.L) (s := D.da.s) K
 have hll : (bfs D.da.to D.da.L D.da.s K).length ≤ D.fin.length := bfs_len hv.daOk hv.pos K
 refine Wl.q rfl rfl (OpQ.move rfl) ?_
 refine Wl.q rfl rfl (OpQ.extract rfl rfl) ?_
 refine Wl.know 19 (v' := .slice sa (bfs D.da.to D.da.L D.da.s K).length sc) rfl rfl ?_
 refine Wl.q rfl rfl (OpQ.extract rfl rfl) ?_
 refine Wl.know 20 (v' := .slice wa ws.length wc) rfl rfl ?_
 refine Wl.q rfl rfl (OpQ.assign rfl) ?_
 refine Wl.q rfl rfl (OpQ.assign rfl) ?_
 refine Wl.nil (PX.then_n (CT.seq (CT.region ?_)))
 refine Wl.q rfl rfl (OpQ.fieldAddr zf16 rfl) ?_
 refine Wl.q rfl rfl (OpQ.loadF (b := b1) zf17 rfl (by repeat (first | exact Has.here | apply Has.there)) (by rfl)) ?_
 refine Wl.q rfl rfl (OpQ.len zf18 rfl) ?_
 refine Wl.g rfl rfl (OpG.make1 zf0 zf32 rfl rfl rfl rfl (by omega) (by omega)) ?_
 rintro b24 _
 refine Wl.q rfl rfl (OpQ.assign rfl) ?_
 refine Wl.nil (PX.then_n (CT.seq (CT.seq (CT.region ?_))))
 refine Wl.q rfl rfl (OpQ.move rfl) ?_
 refine Wl.q rfl rfl (OpQ.len zf0 rfl) ?_
 refine Wl.q rfl rfl (OpQ.move rfl) ?_
 refine Wl.nil (PX.then_n (CT.block ?_))
 refine CT.loop (ι := Nat) (fun i => i ≤ D.fin.length) (fun i => [(1, .pointer (some ⟨b1, 0, none⟩)), (2, .pointer (some ⟨b2, 0, none⟩)), (4, .slice sa (bfs D.da.to D.da.L D.da.s K).length sc), (6, .slice (some ⟨b24, 0, none⟩) D.fin.length D.fin.length), (26, .int .i64 ((D.fin.length : Nat) : Int)), (27, .int .i64 ((i : Nat) : Int))]) (fun i => [.row 3 1 (.slice (some ⟨b24, 0, none⟩) D.fin.length D.fin.length) D.fin.length ((tabI D.fin.length (fun q => if q < i then -1 else 0)).map zz), .row 3 1 (.slice sa (bfs D.da.to D.da.L D.da.s K).length sc) (bfs D.da.to D.da.L D.da.s K).length ((bfs D.da.to D.da.L D.da.s K).map zn), .row 49 4 (vb b2) 1 [.int .i64 0, .int .i64 0, .slice none 0 0, .slice none 0 0], .row 49 4 (vb b1) 1 (dvc D)]) (fun i => D.fin.length - i) 0 (Nat.zero_le _) ⟨rfl, rfl, rfl, rfl, rfl, rfl, trivial⟩ (.keep (row_eq (by rw [tabI_zz]; rfl)) (HSub.refl _)) (fun i hi K0 hK0 => ?_)
 refine CT.seq (CT.region ?_)
 refine Wl.q rfl rfl (OpQ.lss rfl rfl) ?_
 refine Wl.nil (PX.then_n (CT.seq ?_))
 refine CT.cond rfl (fun h28 => ?_) (fun h28 => ?_)
 ·
  have h28 := of_decide_eq_true h28
  refine CT.skip (PX.then_n (CT.seq (CT.block (CT.seq (CT.region ?_)))))
  refine Wl.q rfl rfl (OpQ.move rfl) ?_
  refine Wl.q rfl rfl (OpQ.assign rfl) ?_
  refine Wl.nil (PX.then_n (CT.region ?_))
  refine Wl.q rfl rfl (OpQ.move rfl) ?_
  refine Wl.q rfl rfl (OpQ.move rfl) ?_
  refine Wl.q rfl rfl (OpQ.index1 zf0 zf1 rfl rfl (by omega) rfl) ?_
  refine Wl.g rfl rfl (OpG.storeRow zf1 rfl rfl rfl .here (by rw [List.length_map, tabI_len]; show i < _; omega)) ?_
  rintro _ _
  refine Wl.nil (PX.block_n (PX.then_n (CT.region ?_)))
  refine Wl.q rfl rfl (OpQ.add rfl rfl (by omega)) ?_
  refine Wl.q rfl rfl (OpQ.move rfl) ?_
  refine Wl.nil ?_
  exact PX.loop hK0 (i + 1) (by omega) (by first | omega | (dsimp only; omega)) ⟨rfl, rfl, rfl, rfl, rfl, rfl, trivial⟩ (.keep (row_eq (tabI_set (if_pos (show i < i + 1 by omega)) (fun q _ hq => by by_cases h : q < i; rw [if_pos h, if_pos (by omega)]; rw [if_neg h, if_neg (by omega)])).symm) (HSub.refl _))
 ·
  have h28 := of_decide_eq_false h28
  refine CT.exit (PX.then_x (PX.then_x (PX.block_x (PX.then_n (CT.seq (CT.seq (CT.region ?_)))))))
  refine Wl.fact (p := sa.isSome = true) (fun w hH => (hH.rd (.there .here)).isSome (j := 0) (by rw [List.length_map]; exact bfs_pos _)) (fun hsa => ?_)
  refine Wl.q rfl rfl (OpQ.move rfl) ?_
  refine Wl.q rfl rfl (OpQ.len zf0 rfl) ?_
  refine Wl.q rfl rfl (OpQ.move rfl) ?_
  refine Wl.nil (PX.then_n (CT.block ?_))
  obtain rfl : i = D.fin.length := by omega
  refine CT.loop (ι := Nat) (fun k => k ≤ (bfs D.da.to D.da.L D.da.s K).length) (fun k => [(1, .pointer (some ⟨b1, 0, none⟩)), (2, .pointer (some ⟨b2, 0, none⟩)), (4, .slice sa (bfs D.da.to D.da.L D.da.s K).length sc), (6, .slice (some ⟨b24, 0, none⟩) D.fin.length D.fin.length), (34, .slice sa (bfs D.da.to D.da.L D.da.s K).length sc), (35, .int .i64 (((bfs D.da.to D.da.L D.da.s K).length : Nat) : Int)), (36, .int .i64 ((k : Nat) : Int))]) (fun k => [.row 3 1 (.slice (some ⟨b24, 0, none⟩) D.fin.length D.fin.length) D.fin.length ((tabI D.fin.length (plc (bfs D.da.to D.da.L D.da.s K) k)).map zz), .row 3 1 (.slice sa (bfs D.da.to D.da.L D.da.s K).length sc) (bfs D.da.to D.da.L D.da.s K).length ((bfs D.da.to D.da.L D.da.s K).map zn), .row 49 4 (vb b2) 1 [.int .i64 0, .int .i64 0, .slice none 0 0, .slice none 0 0], .row 49 4 (vb b1) 1 (dvc D)]) (fun k => (bfs D.da.to D.da.L D.da.s K).length - k) 0 (Nat.zero_le _) ⟨rfl, rfl, rfl, rfl, rfl, rfl, rfl, trivial⟩ (.keep (row_eq (by rw [plc_zero]; exact congrArg _ (tabI_congr fun q hq => (if_pos hq).symm))) (HSub.refl _)) (fun k hk K1 hK1 => ?_)
  refine CT.seq (CT.region ?_)
  refine Wl.q rfl rfl (OpQ.lss rfl rfl) ?_
  refine Wl.nil (PX.then_n (CT.seq ?_))
  refine CT.cond rfl (fun h37 => ?_) (fun h37 => ?_)
  ·
   have h37 := of_decide_eq_true h37
   refine CT.skip (PX.then_n (CT.seq (CT.block (CT.seq (CT.region ?_)))))
   refine Wl.q rfl rfl (OpQ.move rfl) ?_
   refine Wl.q rfl rfl (OpQ.index1 zf0 zf1 rfl rfl (by omega) hsa) ?_
   refine Wl.q rfl rfl (OpQ.loadRow zf8 rfl (.there .here) (getMap zn (bfs D.da.to D.da.L D.da.s K) 0 (j := k) (by omega))) ?_
   refine Wl.q rfl rfl (OpQ.assign rfl) ?_
   refine Wl.q rfl rfl (OpQ.assign rfl) ?_
   refine Wl.nil (PX.then_n (CT.region ?_))
   refine Wl.q rfl rfl (OpQ.move rfl) ?_
   refine Wl.q rfl rfl (OpQ.move rfl) ?_
   refine Wl.q rfl rfl (OpQ.move rfl) ?_
   have hkq := hlt _ (getDm (d := 0) (show k < (bfs D.da.to D.da.L D.da.s K).length by omega))
   refine Wl.q rfl rfl (OpQ.index1 zf0 zf1 rfl rfl (by omega) rfl) ?_
   refine Wl.g rfl rfl (OpG.storeRow zf1 rfl rfl rfl .here (by rw [List.length_map, tabI_len]; show (bfs D.da.to D.da.L D.da.s K).getD k 0 < _; exact hkq)) ?_
   rintro _ _
   refine Wl.nil (PX.block_n (PX.then_n (CT.region ?_)))
   refine Wl.q rfl rfl (OpQ.add rfl rfl (by omega)) ?_
   refine Wl.q rfl rfl (OpQ.move rfl) ?_
   refine Wl.nil ?_
   exact PX.loop hK1 (k + 1) (by omega) (by first | omega | (dsimp only; omega)) ⟨rfl, rfl, rfl, rfl, rfl, rfl, rfl, trivial⟩ (.keep (row_eq (plc_put hnd (show k < (bfs D.da.to D.da.L D.da.s K).length by omega)).symm) (HSub.refl _))
  ·
   have h37 := of_decide_eq_false h37
   refine CT.exit (PX.then_x (PX.then_x (PX.block_x (PX.then_n (CT.seq (CT.region ?_))))))
   obtain rfl : k = (bfs D.da.to D.da.L D.da.s K).length := by omega
   refine Wl.q rfl rfl (OpQ.fieldAddr zf15 rfl) ?_
   refine Wl.q rfl rfl (OpQ.loadF (b := b1) zf8 rfl (by repeat (first | exact Has.here | apply Has.there)) (by rfl)) ?_
   refine Wl.q rfl rfl (OpQ.build (cells := #[_, .int .i64 0, .slice none 0 0, .slice none 0 0]) zf40 rfl rfl) ?_
   refine Wl.g rfl rfl (OpG.alloc (zs := [.int .i64 0, .int .i64 0, .slice none 0 0, .slice none 0 0]) zf37 rfl rfl) ?_
   rintro b10 _
   refine Wl.g rfl rfl (OpG.storeV (b := b10) zf25 rfl rfl rfl rfl (by repeat (first | exact Upd.here | apply Upd.there))) ?_
   rintro _ _
   refine Wl.nil (PX.then_n (CT.seq (CT.seq (CT.region ?_))))
   refine Wl.q rfl rfl (OpQ.move rfl) ?_
   refine Wl.q rfl rfl (OpQ.len zf0 rfl) ?_
   refine Wl.q rfl rfl (OpQ.move rfl) ?_
   refine Wl.nil (PX.then_n (CT.block ?_))
   refine CT.nilrow 4 1 ?_
   refine CT.nilrow 22 1 ?_
   refine CT.as (fun _ h => h.bind0 (p := rws []) (rws_nil)) ?_
   refine CT.as (fun _ h => h.take (.cons .here (.cons (.there .here) (.cons .here (.cons .here (.cons .here (.cons .here (.cons .here (.cons .here .nil))))))))) ?_
   refine CT.loop (ι := Nat × Option Addr × Nat × List Bool × Option Addr × Nat × List Rw × List Nat) (fun (i, fa', fc', fl, na', nc', rs, bs2) => i ≤ (bfs D.da.to D.da.L D.da.s K).length ∧ fl = ((bfs D.da.to D.da.L D.da.s K).take i).map D.da.fi ∧ rs.map (·.xs) = ((bfs D.da.to D.da.L D.da.s K).take i).map fun q => rowA D.da.to (bfs D.da.to D.da.L D.da.s K) q D.da.L) (fun (i, fa', fc', fl, na', nc', rs, bs2) => [(1, .pointer (some ⟨b1, 0, none⟩)), (2, .pointer (some ⟨b2, 0, none⟩)), (6, .slice (some ⟨b24, 0, none⟩) D.fin.length D.fin.length), (10, .pointer (some ⟨b10, 0, none⟩)), (49, .slice sa (bfs D.da.to D.da.L D.da.s K).length sc), (50, .int .i64 (((bfs D.da.to D.da.L D.da.s K).length : Nat) : Int)), (51, .int .i64 ((i : Nat) : Int))]) (fun (i, fa', fc', fl, na', nc', rs, bs2) => [.frag bs2 (rws rs), .row 4 1 (.slice fa' fl.length fc') fl.length (fl.map bo), .row 22 1 (.slice na' rs.length nc') rs.length (rs.map rv), .row 49 4 (vb b10) 1 [.int .i64 D.L, .int .i64 0, .slice fa' fl.length fc', .slice na' rs.length nc'], .row 3 1 (.slice (some ⟨b24, 0, none⟩) D.fin.length D.fin.length) D.fin.length ((tabI D.fin.length (plc (bfs D.da.to D.da.L D.da.s K) (bfs D.da.to D.da.L D.da.s K).length)).map zz), .row 3 1 (.slice sa (bfs D.da.to D.da.L D.da.s K).length sc) (bfs D.da.to D.da.L D.da.s K).length ((bfs D.da.to D.da.L D.da.s K).map zn), .row 49 4 (vb b2) 1 [.int .i64 0, .int .i64 0, .slice none 0 0, .slice none 0 0], .row 49 4 (vb b1) 1 (dvc D)]) (fun (i, fa', fc', fl, na', nc', rs, bs2) => (bfs D.da.to D.da.L D.da.s K).length - i) (0, none, 0, [], none, 0, [], []) ⟨Nat.zero_le _, rfl, rfl⟩ ⟨rfl, rfl, rfl, rfl, rfl, rfl, rfl, trivial⟩ (HSub.refl _) (fun ⟨i, fa', fc', fl, na', nc', rs, bs2⟩ ⟨hi, hfl, hrs2⟩ K2 hK2 => ?_)
   dsimp only
   have hfll : fl.length = i := by rw [hfl, List.length_map, List.length_take, Nat.min_eq_left hi]
   have hrll : rs.length = i := by have := congrArg List.length hrs2; rwa [List.length_map, List.length_map, List.length_take, Nat.min_eq_left hi] at this
   refine CT.seq (CT.region ?_)
   refine Wl.q rfl rfl (OpQ.lss rfl rfl) ?_
   refine Wl.nil (PX.then_n (CT.seq ?_))
   refine CT.cond rfl (fun h52 => ?_) (fun h52 => ?_)
   ·
    have h52 := of_decide_eq_true h52
    have hil : i < (bfs D.da.to D.da.L D.da.s K).length := by omega
    have hat : ((bfs D.da.to D.da.L D.da.s K).getD i D.da.s) < D.fin.length := hlt _ (getDm hil)
    have hrw := (hv.row ((bfs D.da.to D.da.L D.da.s K).getD i D.da.s) hat).1
    refine CT.skip (PX.then_n (CT.seq (CT.block (CT.seq (CT.region ?_)))))
    refine Wl.q rfl rfl (OpQ.index1 zf0 zf1 rfl rfl (by omega) hsa) ?_
    refine Wl.q rfl rfl (OpQ.loadRow zf8 rfl (.there (.there (.there (.there (.there .here))))) (getMap zn (bfs D.da.to D.da.L D.da.s K) D.da.s (j := i) hil)) ?_
    refine Wl.know 54 (v' := .int .i64 ((((bfs D.da.to D.da.L D.da.s K).getD i D.da.s) : Nat) : Int)) rfl rfl ?_
    refine Wl.q rfl rfl (OpQ.assign rfl) ?_
    refine Wl.nil (PX.then_n (CT.seq (CT.region ?_)))
    refine Wl.q rfl rfl (OpQ.assign rfl) ?_
    refine Wl.nil (PX.then_n (CT.seq (CT.seq (CT.region ?_))))
    refine Wl.q rfl rfl (OpQ.fieldAddr zf19 rfl) ?_
    refine Wl.q rfl rfl (OpQ.loadF (b := b1) zf20 rfl (by repeat (first | exact Has.here | apply Has.there)) (by rfl)) ?_
    refine Wl.q rfl rfl (OpQ.move rfl) ?_
    refine Wl.q rfl rfl (OpQ.index1 zf21 zf23 rfl rfl (by omega) (hns (by omega))) ?_
    refine Wl.q rfl rfl (OpQ.loadG zf10 rfl (fun w hH => (hH.use hD).2.1) (getMap rv D.rs rw0 (j := ((bfs D.da.to D.da.L D.da.s K).getD i D.da.s)) (by omega))) ?_
    refine Wl.q rfl rfl (OpQ.len zf0 rfl) ?_
    refine Wl.know 60 (v' := .int .i64 ((D.da.L : Nat) : Int)) rfl (congrArg (Value.int .i64) (by omega)) ?_
    refine Wl.q rfl rfl (OpQ.move rfl) ?_
    refine Wl.nil (PX.then_n (CT.block ?_))
    refine CT.nilrow 3 1 ?_
    refine CT.loop (ι := Nat × Option Addr × Nat) (fun (x, ra, rc) => x ≤ D.da.L) (fun (x, ra, rc) => [(1, .pointer (some ⟨b1, 0, none⟩)), (2, .pointer (some ⟨b2, 0, none⟩)), (6, .slice (some ⟨b24, 0, none⟩) D.fin.length D.fin.length), (10, .pointer (some ⟨b10, 0, none⟩)), (49, .slice sa (bfs D.da.to D.da.L D.da.s K).length sc), (50, .int .i64 (((bfs D.da.to D.da.L D.da.s K).length : Nat) : Int)), (51, .int .i64 ((i : Nat) : Int)), (12, .int .i64 ((((bfs D.da.to D.da.L D.da.s K).getD i D.da.s) : Nat) : Int)), (13, .slice ra x rc), (59, rv (D.rs.getD ((bfs D.da.to D.da.L D.da.s K).getD i D.da.s) rw0)), (60, .int .i64 ((D.da.L : Nat) : Int)), (61, .int .i64 ((x : Nat) : Int))]) (fun (x, ra, rc) => [.row 3 1 (.slice ra x rc) x ((rowA D.da.to (bfs D.da.to D.da.L D.da.s K) ((bfs D.da.to D.da.L D.da.s K).getD i D.da.s) x).map zz), .frag bs2 (rws rs), .row 4 1 (.slice fa' fl.length fc') fl.length (fl.map bo), .row 22 1 (.slice na' rs.length nc') rs.length (rs.map rv), .row 49 4 (vb b10) 1 [.int .i64 D.L, .int .i64 0, .slice fa' fl.length fc', .slice na' rs.length nc'], .row 3 1 (.slice (some ⟨b24, 0, none⟩) D.fin.length D.fin.length) D.fin.length ((tabI D.fin.length (plc (bfs D.da.to D.da.L D.da.s K) (bfs D.da.to D.da.L D.da.s K).length)).map zz), .row 3 1 (.slice sa (bfs D.da.to D.da.L D.da.s K).length sc) (bfs D.da.to D.da.L D.da.s K).length ((bfs D.da.to D.da.L D.da.s K).map zn), .row 49 4 (vb b2) 1 [.int .i64 0, .int .i64 0, .slice none 0 0, .slice none 0 0], .row 49 4 (vb b1) 1 (dvc D)]) (fun (x, ra, rc) => D.da.L - x) (0, none, 0) (Nat.zero_le _) ⟨rfl, rfl, rfl, rfl, rfl, rfl, rfl, rfl, rfl, rfl, rfl, rfl, trivial⟩ (HSub.refl _) (fun ⟨x, ra, rc⟩ hx K3 hK3 => ?_)
    dsimp only
    refine CT.seq (CT.region ?_)
    refine Wl.q rfl rfl (OpQ.lss rfl rfl) ?_
    refine Wl.nil (PX.then_n (CT.seq ?_))
    refine CT.cond rfl (fun h62 => ?_) (fun h62 => ?_)
    ·
     have h62 := of_decide_eq_true h62
     have hxl : x < D.da.L := by omega
     have hto := hv.to (q := ((bfs D.da.to D.da.L D.da.s K).getD i D.da.s)) (x := x) hat (by omega)
     have hton : (D.da.to ((bfs D.da.to D.da.L D.da.s K).getD i D.da.s) x) < D.fin.length := hv.daOk.lt _ x hat hxl
     have htm : (D.da.to ((bfs D.da.to D.da.L D.da.s K).getD i D.da.s) x) ∈ (bfs D.da.to D.da.L D.da.s K) := hK.closed hil hxl
     refine CT.skip (PX.then_n (CT.seq (CT.block (CT.seq (CT.region ?_)))))
     refine Wl.q rfl rfl (OpQ.index1 zf0 zf1 rfl rfl (by omega) (hrs _ (by omega) (by omega))) ?_
     refine Wl.q rfl rfl (OpQ.loadG zf8 rfl (fun w hH => (hH.use hD).2.2 _ (getDm (show ((bfs D.da.to D.da.L D.da.s K).getD i D.da.s) < D.rs.length by omega))) (getMap zz (D.rs.getD ((bfs D.da.to D.da.L D.da.s K).getD i D.da.s) rw0).xs 0 (j := x) (by omega))) ?_
     refine Wl.know 64 (v' := .int .i64 (((D.da.to ((bfs D.da.to D.da.L D.da.s K).getD i D.da.s) x) : Nat) : Int)) rfl (congrArg (Value.int .i64) hto) ?_
     refine Wl.q rfl rfl (OpQ.assign rfl) ?_
     refine Wl.nil (PX.then_n (CT.region ?_))
     refine Wl.q rfl rfl (OpQ.move rfl) ?_
     refine Wl.q rfl rfl (OpQ.move rfl) ?_
     refine Wl.q rfl rfl (OpQ.move rfl) ?_
     refine Wl.q rfl rfl (OpQ.index1 zf0 zf1 rfl rfl (by omega) rfl) ?_
     refine Wl.q rfl rfl (OpQ.loadRow zf8 rfl (.there (.there (.there (.there (.there .here))))) (getMap zz (tabI D.fin.length (plc (bfs D.da.to D.da.L D.da.s K) (bfs D.da.to D.da.L D.da.s K).length)) 0 (j := (D.da.to ((bfs D.da.to D.da.L D.da.s K).getD i D.da.s) x)) (by rw [tabI_len]; exact hton))) ?_
     refine Wl.know 69 (v' := .int .i64 (((bfs D.da.to D.da.L D.da.s K).idxOf (D.da.to ((bfs D.da.to D.da.L D.da.s K).getD i D.da.s) x) : Nat) : Int)) rfl (congrArg (Value.int .i64) (plc_all hton htm)) ?_
     refine Wl.g rfl rfl (OpG.lit1 zf0 zf32 rfl rfl rfl) ?_
     rintro b70 _
     refine Wl.g rfl rfl (OpG.append zf0 zf32 (by rfl) (by decide) rfl rfl (p := 1) rfl (fun w hH => hH.rd .here) ⟨rfl, (by simp [Value.oneCell']), (by omega), (by omega)⟩ (nm := x + 1) rfl (all := (rowA D.da.to (bfs D.da.to D.da.L D.da.s K) ((bfs D.da.to D.da.L D.da.s K).getD i D.da.s) (x + 1)).map zz) (by rw [rowA_s, List.map_append]; rfl)) ?_
     rintro ⟨a71, c71⟩ h71
     refine Wl.q rfl rfl (OpQ.assign rfl) ?_
     refine Wl.nil (PX.block_n (PX.then_n (CT.region ?_)))
     refine Wl.q rfl rfl (OpQ.add rfl rfl (by omega)) ?_
     refine Wl.q rfl rfl (OpQ.move rfl) ?_
     refine Wl.nil ?_
     refine PX.as (fun _ h => h.take (.cons (.there .here) (.cons (.there .here) (.cons (.there .here) (.cons (.there .here) (.cons (.there .here) (.cons (.there .here) (.cons (.there .here) (.cons (.there .here) (.cons (.there .here) .nil)))))))))) ?_
     exact PX.loop hK3 (x + 1, a71, c71) (by omega) (show D.da.L - (x + 1) < D.da.L - x by omega) ⟨rfl, rfl, rfl, rfl, rfl, rfl, rfl, rfl, rfl, rfl, rfl, rfl, trivial⟩ (HSub.refl _)
    ·
     have h62 := of_decide_eq_false h62
     obtain rfl : x = D.da.L := by omega
     refine CT.exit (PX.then_x (PX.then_x (PX.block_x (PX.then_n ?_))))
     refine CT.draw' (Hc := [.row 49 4 (vb b10) 1 [.int .i64 D.L, .int .i64 0, .slice fa' fl.length fc', .slice na' rs.length nc'], .row 49 4 (vb b1) 1 (dvc D)]) 15 zf6 ?_
     refine RA.q 0 (by kernel_rfl) rfl rfl rfl (.cons _ (.cons _ (.cons _ (.cons _ (.cons_cons _ (.cons _ (.cons _ (.cons _ (.cons_cons _ (.refl _)))))))))) (OpQ.fieldAddr zf19 rfl) ?_
     refine RA.q 1 (by kernel_rfl) rfl rfl rfl (.cons _ (.cons _ (.cons _ (.cons _ (.cons_cons _ (.cons _ (.cons _ (.cons _ (.cons_cons _ (.refl _)))))))))) (OpQ.loadF (b := b10) zf20 rfl (by repeat (first | exact Has.here | apply Has.there)) (by rfl)) ?_
     refine RA.q 2 (by kernel_rfl) rfl rfl rfl (.cons _ (.cons _ (.cons _ (.cons _ (.cons_cons _ (.cons _ (.cons _ (.cons _ (.cons_cons _ (.refl _)))))))))) (OpQ.move rfl) ?_
     refine RA.q 5 (by kernel_rfl) rfl rfl rfl (.cons _ (.cons _ (.cons _ (.cons _ (.cons_cons _ (.cons _ (.cons _ (.cons _ (.cons_cons _ (.refl _)))))))))) (OpQ.fieldAddr zf16 rfl) ?_
     refine RA.q 6 (by kernel_rfl) rfl rfl rfl (.cons _ (.cons _ (.cons _ (.cons _ (.cons_cons _ (.cons _ (.cons _ (.cons _ (.cons_cons _ (.refl _)))))))))) (OpQ.loadF (b := b10) zf17 rfl (by repeat (first | exact Has.here | apply Has.there)) (by rfl)) ?_
     refine RA.q 7 (by kernel_rfl) rfl rfl rfl (.cons _ (.cons _ (.cons _ (.cons _ (.cons_cons _ (.cons _ (.cons _ (.cons _ (.cons_cons _ (.refl _)))))))))) (OpQ.fieldAddr zf16 rfl) ?_
     refine RA.q 8 (by kernel_rfl) rfl rfl rfl (.cons _ (.cons _ (.cons _ (.cons _ (.cons_cons _ (.cons _ (.cons _ (.cons _ (.cons_cons _ (.refl _)))))))))) (OpQ.loadF (b := b1) zf17 rfl (by repeat (first | exact Has.here | apply Has.there)) (by rfl)) ?_
     refine RA.q 9 (by kernel_rfl) rfl rfl rfl (.cons _ (.cons _ (.cons _ (.cons _ (.cons_cons _ (.cons _ (.cons _ (.cons _ (.cons_cons _ (.refl _)))))))))) (OpQ.move rfl) ?_
     refine RA.q 10 (by kernel_rfl) rfl rfl rfl (.cons _ (.cons _ (.cons _ (.cons _ (.cons_cons _ (.cons _ (.cons _ (.cons _ (.cons_cons _ (.refl _)))))))))) (OpQ.index1 zf18 zf29 rfl rfl (by omega) (hfs (by omega))) ?_
     refine RA.q 11 (by kernel_rfl) rfl rfl rfl (.cons _ (.cons _ (.cons _ (.cons _ (.cons_cons _ (.cons _ (.cons _ (.cons _ (.cons_cons _ (.refl _)))))))))) (OpQ.loadG zf30 rfl (fun w hH => (hH.use hD).1) (getMap bo D.fin false (j := ((bfs D.da.to D.da.L D.da.s K).getD i D.da.s)) (by omega))) ?_
     refine RA.know 84 (v' := .bool (D.da.fi ((bfs D.da.to D.da.L D.da.s K).getD i D.da.s))) rfl rfl ?_
     refine RA.two 3 12 (by kernel_rfl) rfl rfl rfl (OpG.lit1 zf21 zf41 rfl rfl rfl) (fun _ _ => (.cons _ (.cons _ (.cons _ (.cons _ (.cons _ (.cons_cons _ (.cons _ (.cons _ (.cons _ (.cons_cons _ (.refl _)))))))))))) rfl rfl rfl (OpG.lit1 zf18 zf43 rfl rfl rfl) (fun _ _ => (.cons _ (.cons _ (.cons _ (.cons _ (.cons _ (.cons_cons _ (.cons _ (.cons _ (.cons _ (.cons_cons _ (.refl _)))))))))))) ?_ ?_
     ·
      rintro b76 _
      refine RA.two 4 12 (by kernel_rfl) rfl rfl rfl (OpG.append zf21 zf41 (by rfl) (by decide) rfl rfl (p := 4) rfl (fun w hH => hH.rd .here) ⟨rfl, (by simp [Value.oneCell']), (by omega), (by omega)⟩ (nm := rs.length + 1) rfl (all := (rs ++ [(⟨ra, rc, (rowA D.da.to (bfs D.da.to D.da.L D.da.s K) ((bfs D.da.to D.da.L D.da.s K).getD i D.da.s) D.da.L)⟩ : Rw)]).map rv) (by simp [rowA_len])) (fun _ _ => (.cons _ (.cons _ (.cons _ (.cons _ (.cons _ (.cons_cons _ (.cons _ (.cons _ (.cons _ (.cons_cons _ (.refl _)))))))))))) rfl rfl rfl (OpG.lit1 zf18 zf43 rfl rfl rfl) (fun _ _ => (.cons _ (.cons _ (.cons _ (.cons _ (.cons _ (.cons _ (.cons_cons _ (.cons _ (.cons _ (.cons _ (.cons_cons _ (.refl _))))))))))))) ?_ ?_
      ·
       rintro ⟨a77, c77⟩ h77
       refine RA.q 14 (by kernel_rfl) rfl rfl rfl (.cons _ (.cons _ (.cons _ (.cons _ (.cons _ (.cons_cons _ (.cons _ (.cons _ (.cons _ (.cons_cons _ (.refl _))))))))))) (OpQ.fieldAddr zf19 rfl) ?_
       refine RA.f 12 (by kernel_rfl) rfl rfl rfl (OpG.lit1 zf18 zf43 rfl rfl rfl) (fun _ _ => (.cons _ (.cons _ (.cons _ (.cons _ (.cons _ (.cons _ (.cons_cons _ (.cons _ (.cons _ (.cons _ (.cons_cons _ (.refl _))))))))))))) ?_
       rintro b85 _
       refine RA.f 13 (by kernel_rfl) rfl rfl rfl (OpG.append zf18 zf43 (by rfl) (by decide) rfl rfl (p := 4) rfl (fun w hH => hH.rd .here) ⟨rfl, (by simp [Value.oneCell']), (by omega), (by omega)⟩ (nm := fl.length + 1) rfl (all := (fl ++ [D.da.fi ((bfs D.da.to D.da.L D.da.s K).getD i D.da.s)]).map bo) (by simp)) (fun _ _ => (.cons _ (.cons _ (.cons _ (.cons _ (.cons _ (.cons _ (.cons_cons _ (.cons _ (.cons _ (.cons _ (.cons_cons _ (.refl _))))))))))))) ?_
       rintro ⟨a86, c86⟩ h86
       refine RA.tail ?_
       refine RT.f 15 (by kernel_rfl) rfl rfl rfl (OpG.storeRow (a := some ⟨b10, 0, none⟩) zf42 rfl rfl rfl (by repeat (first | exact Upd.here | apply Upd.there)) (by simp)) ?_
       rintro _ _
       refine RT.q 16 (by kernel_rfl) rfl rfl rfl (OpQ.fieldAddr zf16 rfl) ?_
       refine RT.f 17 (by kernel_rfl) rfl rfl rfl (OpG.storeRow (a := some ⟨b10, 0, none⟩) zf44 rfl rfl rfl (by repeat (first | exact Upd.here | apply Upd.there)) (by simp)) ?_
       rintro _ _
       refine RT.done (by kernel_rfl) ?_
       refine PX.block_n (PX.then_n (CT.region ?_))
       refine Wl.q rfl rfl (OpQ.add rfl rfl (by omega)) ?_
       refine Wl.q rfl rfl (OpQ.move rfl) ?_
       refine Wl.nil ?_
       refine PX.as (fun _ h => h.bind (L := [.frag bs2 (rws rs), .row 3 1 (.slice ra D.da.L rc) D.da.L ((rowA D.da.to (bfs D.da.to D.da.L D.da.s K) ((bfs D.da.to D.da.L D.da.s K).getD i D.da.s) D.da.L).map zz)]) (p := rws (rs ++ [(⟨ra, rc, (rowA D.da.to (bfs D.da.to D.da.L D.da.s K) ((bfs D.da.to D.da.L D.da.s K).getD i D.da.s) D.da.L)⟩ : Rw)])) (.cons (.there (.there (.there .here))) (.cons (.there (.there .here)) .nil)) (fun w hk => rws_snoc (r := (⟨ra, rc, (rowA D.da.to (bfs D.da.to D.da.L D.da.s K) ((bfs D.da.to D.da.L D.da.s K).getD i D.da.s) D.da.L)⟩ : Rw)) ((hk _ List.mem_cons_self).2 w (fun _ _ => rfl)) (Rd.of_owns (hk _ (List.mem_cons_of_mem _ List.mem_cons_self))))) ?_
       refine PX.as (fun _ h => h.take (.cons .here (.cons (.there (.there .here)) (.cons (.there (.there .here)) (.cons (.there (.there .here)) (.cons (.there (.there .here)) (.cons (.there (.there .here)) (.cons (.there (.there .here)) (.cons (.there (.there .here)) .nil))))))))) ?_
       exact PX.loop hK2 (i + 1, a86, c86, fl ++ [D.da.fi ((bfs D.da.to D.da.L D.da.s K).getD i D.da.s)], a77, c77, rs ++ [(⟨ra, rc, (rowA D.da.to (bfs D.da.to D.da.L D.da.s K) ((bfs D.da.to D.da.L D.da.s K).getD i D.da.s) D.da.L)⟩ : Rw)], _) ⟨by omega, by rw [take_snoc _ D.da.s hil, List.map_append, ← hfl]; rfl, by rw [take_snoc _ D.da.s hil, List.map_append, List.map_append, ← hrs2]; rfl⟩ (show (bfs D.da.to D.da.L D.da.s K).length - (i + 1) < (bfs D.da.to D.da.L D.da.s K).length - i by omega) ⟨rfl, rfl, rfl, rfl, rfl, rfl, rfl, trivial⟩ (.keep rfl (by simp only [List.length_append, List.length_singleton]; exact HSub.refl _))
      ·
       rintro b85 _
       refine RA.f 4 (by kernel_rfl) rfl rfl rfl (OpG.append zf21 zf41 (by rfl) (by decide) rfl rfl (p := 5) rfl (fun w hH => hH.rd (.there .here)) ⟨rfl, (by simp [Value.oneCell']), (by omega), (by omega)⟩ (nm := rs.length + 1) rfl (all := (rs ++ [(⟨ra, rc, (rowA D.da.to (bfs D.da.to D.da.L D.da.s K) ((bfs D.da.to D.da.L D.da.s K).getD i D.da.s) D.da.L)⟩ : Rw)]).map rv) (by simp [rowA_len])) (fun _ _ => (.cons _ (.cons _ (.cons _ (.cons _ (.cons _ (.cons _ (.cons_cons _ (.cons _ (.cons _ (.cons _ (.cons_cons _ (.refl _))))))))))))) ?_
       rintro ⟨a77, c77⟩ h77
       refine RA.q 14 (by kernel_rfl) rfl rfl rfl (.cons _ (.cons _ (.cons _ (.cons _ (.cons _ (.cons _ (.cons_cons _ (.cons _ (.cons _ (.cons _ (.cons_cons _ (.refl _)))))))))))) (OpQ.fieldAddr zf19 rfl) ?_
       refine RA.f 13 (by kernel_rfl) rfl rfl rfl (OpG.append zf18 zf43 (by rfl) (by decide) rfl rfl (p := 4) rfl (fun w hH => hH.rd .here) ⟨rfl, (by simp [Value.oneCell']), (by omega), (by omega)⟩ (nm := fl.length + 1) rfl (all := (fl ++ [D.da.fi ((bfs D.da.to D.da.L D.da.s K).getD i D.da.s)]).map bo) (by simp)) (fun _ _ => (.cons _ (.cons _ (.cons _ (.cons _ (.cons _ (.cons _ (.cons_cons _ (.cons _ (.cons _ (.cons _ (.cons_cons _ (.refl _))))))))))))) ?_
       rintro ⟨a86, c86⟩ h86
       refine RA.tail ?_
       refine RT.f 15 (by kernel_rfl) rfl rfl rfl (OpG.storeRow (a := some ⟨b10, 0, none⟩) zf42 rfl rfl rfl (by repeat (first | exact Upd.here | apply Upd.there)) (by simp)) ?_
       rintro _ _
       refine RT.q 16 (by kernel_rfl) rfl rfl rfl (OpQ.fieldAddr zf16 rfl) ?_
       refine RT.f 17 (by kernel_rfl) rfl rfl rfl (OpG.storeRow (a := some ⟨b10, 0, none⟩) zf44 rfl rfl rfl (by repeat (first | exact Upd.here | apply Upd.there)) (by simp)) ?_
       rintro _ _
       refine RT.done (by kernel_rfl) ?_
       refine PX.block_n (PX.then_n (CT.region ?_))
       refine Wl.q rfl rfl (OpQ.add rfl rfl (by omega)) ?_
       refine Wl.q rfl rfl (OpQ.move rfl) ?_
       refine Wl.nil ?_
       refine PX.as (fun _ h => h.bind (L := [.frag bs2 (rws rs), .row 3 1 (.slice ra D.da.L rc) D.da.L ((rowA D.da.to (bfs D.da.to D.da.L D.da.s K) ((bfs D.da.to D.da.L D.da.s K).getD i D.da.s) D.da.L).map zz)]) (p := rws (rs ++ [(⟨ra, rc, (rowA D.da.to (bfs D.da.to D.da.L D.da.s K) ((bfs D.da.to D.da.L D.da.s K).getD i D.da.s) D.da.L)⟩ : Rw)])) (.cons (.there (.there (.there .here))) (.cons (.there (.there .here)) .nil)) (fun w hk => rws_snoc (r := (⟨ra, rc, (rowA D.da.to (bfs D.da.to D.da.L D.da.s K) ((bfs D.da.to D.da.L D.da.s K).getD i D.da.s) D.da.L)⟩ : Rw)) ((hk _ List.mem_cons_self).2 w (fun _ _ => rfl)) (Rd.of_owns (hk _ (List.mem_cons_of_mem _ List.mem_cons_self))))) ?_
       refine PX.as (fun _ h => h.take (.cons .here (.cons (.there (.there .here)) (.cons (.there (.there .here)) (.cons (.there (.there .here)) (.cons (.there (.there .here)) (.cons (.there (.there .here)) (.cons (.there (.there .here)) (.cons (.there (.there .here)) .nil))))))))) ?_
       exact PX.loop hK2 (i + 1, a86, c86, fl ++ [D.da.fi ((bfs D.da.to D.da.L D.da.s K).getD i D.da.s)], a77, c77, rs ++ [(⟨ra, rc, (rowA D.da.to (bfs D.da.to D.da.L D.da.s K) ((bfs D.da.to D.da.L D.da.s K).getD i D.da.s) D.da.L)⟩ : Rw)], _) ⟨by omega, by rw [take_snoc _ D.da.s hil, List.map_append, ← hfl]; rfl, by rw [take_snoc _ D.da.s hil, List.map_append, List.map_append, ← hrs2]; rfl⟩ (show (bfs D.da.to D.da.L D.da.s K).length - (i + 1) < (bfs D.da.to D.da.L D.da.s K).length - i by omega) ⟨rfl, rfl, rfl, rfl, rfl, rfl, rfl, trivial⟩ (.keep rfl (by simp only [List.length_append, List.length_singleton]; exact HSub.refl _))
     ·
      rintro b85 _
      refine RA.f 3 (by kernel_rfl) rfl rfl rfl (OpG.lit1 zf21 zf41 rfl rfl rfl) (fun _ _ => (.cons _ (.cons _ (.cons _ (.cons _ (.cons _ (.cons _ (.cons_cons _ (.cons _ (.cons _ (.cons _ (.cons_cons _ (.refl _))))))))))))) ?_
      rintro b76 _
      refine RA.f 4 (by kernel_rfl) rfl rfl rfl (OpG.append zf21 zf41 (by rfl) (by decide) rfl rfl (p := 5) rfl (fun w hH => hH.rd .here) ⟨rfl, (by simp [Value.oneCell']), (by omega), (by omega)⟩ (nm := rs.length + 1) rfl (all := (rs ++ [(⟨ra, rc, (rowA D.da.to (bfs D.da.to D.da.L D.da.s K) ((bfs D.da.to D.da.L D.da.s K).getD i D.da.s) D.da.L)⟩ : Rw)]).map rv) (by simp [rowA_len])) (fun _ _ => (.cons _ (.cons _ (.cons _ (.cons _ (.cons _ (.cons _ (.cons_cons _ (.cons _ (.cons _ (.cons _ (.cons_cons _ (.refl _))))))))))))) ?_
      rintro ⟨a77, c77⟩ h77
      refine RA.q 14 (by kernel_rfl) rfl rfl rfl (.cons _ (.cons _ (.cons _ (.cons _ (.cons _ (.cons _ (.cons_cons _ (.cons _ (.cons _ (.cons _ (.cons_cons _ (.refl _)))))))))))) (OpQ.fieldAddr zf19 rfl) ?_
      refine RA.f 13 (by kernel_rfl) rfl rfl rfl (OpG.append zf18 zf43 (by rfl) (by decide) rfl rfl (p := 4) rfl (fun w hH => hH.rd (.there .here)) ⟨rfl, (by simp [Value.oneCell']), (by omega), (by omega)⟩ (nm := fl.length + 1) rfl (all := (fl ++ [D.da.fi ((bfs D.da.to D.da.L D.da.s K).getD i D.da.s)]).map bo) (by simp)) (fun _ _ => (.cons _ (.cons _ (.cons _ (.cons _ (.cons _ (.cons _ (.cons_cons _ (.cons _ (.cons _ (.cons _ (.cons_cons _ (.refl _))))))))))))) ?_
      rintro ⟨a86, c86⟩ h86
      refine RA.tail ?_
      refine RT.f 15 (by kernel_rfl) rfl rfl rfl (OpG.storeRow (a := some ⟨b10, 0, none⟩) zf42 rfl rfl rfl (by repeat (first | exact Upd.here | apply Upd.there)) (by simp)) ?_
      rintro _ _
      refine RT.q 16 (by kernel_rfl) rfl rfl rfl (OpQ.fieldAddr zf16 rfl) ?_
      refine RT.f 17 (by kernel_rfl) rfl rfl rfl (OpG.storeRow (a := some ⟨b10, 0, none⟩) zf44 rfl rfl rfl (by repeat (first | exact Upd.here | apply Upd.there)) (by simp)) ?_
      rintro _ _
      refine RT.as (fun _ h => h.take (.cons (.there .here) (.cons .here (.cons .here (.cons .here (.cons .here (.cons .here (.cons .here (.cons .here (.cons .here (.cons .here (.cons .here .nil)))))))))))) ?_
      refine RT.done (by kernel_rfl) ?_
      refine PX.block_n (PX.then_n (CT.region ?_))
      refine Wl.q rfl rfl (OpQ.add rfl rfl (by omega)) ?_
      refine Wl.q rfl rfl (OpQ.move rfl) ?_
      refine Wl.nil ?_
      refine PX.as (fun _ h => h.bind (L := [.frag bs2 (rws rs), .row 3 1 (.slice ra D.da.L rc) D.da.L ((rowA D.da.to (bfs D.da.to D.da.L D.da.s K) ((bfs D.da.to D.da.L D.da.s K).getD i D.da.s) D.da.L).map zz)]) (p := rws (rs ++ [(⟨ra, rc, (rowA D.da.to (bfs D.da.to D.da.L D.da.s K) ((bfs D.da.to D.da.L D.da.s K).getD i D.da.s) D.da.L)⟩ : Rw)])) (.cons (.there (.there (.there .here))) (.cons (.there (.there .here)) .nil)) (fun w hk => rws_snoc (r := (⟨ra, rc, (rowA D.da.to (bfs D.da.to D.da.L D.da.s K) ((bfs D.da.to D.da.L D.da.s K).getD i D.da.s) D.da.L)⟩ : Rw)) ((hk _ List.mem_cons_self).2 w (fun _ _ => rfl)) (Rd.of_owns (hk _ (List.mem_cons_of_mem _ List.mem_cons_self))))) ?_
      refine PX.as (fun _ h => h.take (.cons .here (.cons (.there (.there .here)) (.cons (.there (.there .here)) (.cons (.there (.there .here)) (.cons (.there (.there .here)) (.cons (.there (.there .here)) (.cons (.there (.there .here)) (.cons (.there (.there .here)) .nil))))))))) ?_
      exact PX.loop hK2 (i + 1, a86, c86, fl ++ [D.da.fi ((bfs D.da.to D.da.L D.da.s K).getD i D.da.s)], a77, c77, rs ++ [(⟨ra, rc, (rowA D.da.to (bfs D.da.to D.da.L D.da.s K) ((bfs D.da.to D.da.L D.da.s K).getD i D.da.s) D.da.L)⟩ : Rw)], _) ⟨by omega, by rw [take_snoc _ D.da.s hil, List.map_append, ← hfl]; rfl, by rw [take_snoc _ D.da.s hil, List.map_append, List.map_append, ← hrs2]; rfl⟩ (show (bfs D.da.to D.da.L D.da.s K).length - (i + 1) < (bfs D.da.to D.da.L D.da.s K).length - i by omega) ⟨rfl, rfl, rfl, rfl, rfl, rfl, rfl, trivial⟩ (.keep rfl (by simp only [List.length_append, List.length_singleton]; exact HSub.refl _))
   ·
    have h52 := of_decide_eq_false h52
    refine CT.exit (PX.then_x (PX.then_x (PX.block_x (PX.then_n (CT.seq (CT.region ?_))))))
    obtain rfl : i = (bfs D.da.to D.da.L D.da.s K).length := by omega
    refine Wl.q rfl rfl (OpQ.loadV (b := b10) zf24 zf25 rfl (by repeat (first | exact Has.here | apply Has.there)) (by rfl)) ?_
    refine Wl.q rfl rfl (OpQ.move rfl) ?_
    refine Wl.g rfl rfl (OpG.storeV (b := b2) zf25 rfl rfl rfl rfl (by repeat (first | exact Upd.here | apply Upd.there))) ?_
    rintro _ _
    refine Wl.q rfl rfl (OpQ.assign rfl) ?_
    refine Wl.nil (PX.then_n (CT.ret ?_))
    refine PX.retC2 rfl rfl rfl (by repeat (first | exact Has.here | apply Has.there)) zf24 zf25 (by rfl) (fun w' hH => ?_)
    rw [List.take_length] at hfl hrs2
    exact ⟨(K, ⟨D.L, 0, fa', fc', fl, na', nc', rs⟩, _, some ⟨b24, 0, none⟩, _), ⟨hK, ⟨hLe, rfl, hfl, hrs2.trans rowA_auto⟩⟩, rfl, ((hH.bind (L := [.frag bs2 (rws rs), .row 4 1 (.slice fa' fl.length fc') fl.length (fl.map bo), .row 22 1 (.slice na' rs.length nc') rs.length (rs.map rv)]) (p := dvm ⟨D.L, 0, fa', fc', fl, na', nc', rs⟩) (.cons .here (.cons .here (.cons .here .nil))) (fun w hk => ⟨Rd.of_owns (hk _ (List.mem_cons_of_mem _ List.mem_cons_self)), Rd.of_owns (hk _ (List.mem_cons_of_mem _ (List.mem_cons_of_mem _ List.mem_cons_self))), (hk _ List.mem_cons_self).2 w (fun _ _ => rfl)⟩)).take (.cons .here .nil)).post⟩

set_option maxRecDepth 100000 in
/-- semigroup/semigroupref08.Minimal -/
theorem minimizeR_spec (w : World) (D : Dv) (hD : Stays [] w (dvm D)) (hv : D.Ok) : Calls Try.prog 66 #[dvv D] w (fun e w' => ∃ i : Dv × List Nat, (i.1.Ok ∧ IsMin D.da.L D.da.sy D.da.s i.1.da) ∧ e = .returned (dvv i.1) ∧ Post [] [.frag i.2 (dvm i.1)] w w') := by
 have hfs : 0 < D.fin.length → D.fa.isSome = true := fun h => hD.now.1.isSome (j := 0) (by rw [List.length_map]; exact h)
 have hns : 0 < D.rs.length → D.na.isSome = true := fun h => hD.now.2.1.isSome (j := 0) (by rw [List.length_map]; exact h)
 have hrs : ∀ q, q < D.rs.length → 0 < (D.rs.getD q rw0).xs.length → (D.rs.getD q rw0).a.isSome = true := fun q hq h => (hD.now.2.2 _ (getDm hq)).isSome (j := 0) (by rw [List.length_map]; exact h)
 have hmv := hv.may
 have hn := hv.n
 have hst := hv.st
 have hlen := hv.len
 have hLe := hv.L_eq
 refine enter (args := [dvv D]) [] 74 Try.func66 rfl rfl rfl ?_
 refine CT.seq (CT.region ?_)
 refine Wl.g rfl rfl (OpG.box (size := 4) rfl rfl rfl) ?_
 rintro b1 _
 refine Wl.g rfl rfl (OpG.alloc (zs := [.int .i64 0, .int .i64 0, .slice none 0 0, .slice none 0 0]) zf37 rfl rfl) ?_
 rintro b2 _
 refine Wl.nil (PX.then_n (CT.seq (CT.region ?_)))
 refine Wl.q rfl rfl (OpQ.loadV (b := b1) zf24 zf25 rfl (by repeat (first | exact Has.here | apply Has.there)) (by rfl)) ?_
 refine Wl.g rfl rfl (OpG.callX zf133 rfl .nil (fun _ => (.cons .nil)) (fun w hH hp => classesR_spec w D (hH.stays0 hD) hv)) ?_
 rintro ⟨c, ca, cc, bs⟩ hc
 dsimp only at hc
 have hcl : c.length = D.fin.length := hc.len
 have hsn : D.da.s < D.fin.length := hv.daOk.st
 refine Wl.know 12 (v' := .slice ca D.fin.length cc) rfl rfl ?_
 refine Wl.q rfl rfl (OpQ.assign rfl) ?_
 refine Wl.nil (PX.then_n (CT.seq ?_))
 refine CT.draw 9 zf6 ?_
 refine RA.fact (p := ca.isSome = true) (fun w hH => (hH.fragp .here).isSome (j := 0) (by rw [List.length_map]; exact (show 0 < c.length by omega))) (fun hca => ?_)
 refine RA.q 0 (by kernel_rfl) rfl rfl rfl (.refl _) (OpQ.fieldAddr zf15 rfl) ?_
 refine RA.q 1 (by kernel_rfl) rfl rfl rfl (.refl _) (OpQ.loadF (b := b1) zf8 rfl (by repeat (first | exact Has.here | apply Has.there)) (by rfl)) ?_
 refine RA.q 2 (by kernel_rfl) rfl rfl rfl (.refl _) (OpQ.move rfl) ?_
 refine RA.q 3 (by kernel_rfl) rfl rfl rfl (.refl _) (OpQ.fieldAddr zf22 rfl) ?_
 refine RA.q 4 (by kernel_rfl) rfl rfl rfl (.refl _) (OpQ.loadF (b := b1) zf8 rfl (by repeat (first | exact Has.here | apply Has.there)) (by rfl)) ?_
 refine RA.know 17 (v' := .int .i64 ((D.da.s : Nat) : Int)) rfl (congrArg (Value.int .i64) hv.s_eq) ?_
 refine RA.q 5 (by kernel_rfl) rfl rfl rfl (.refl _) (OpQ.index1 zf0 zf1 rfl rfl (by omega) hca) ?_
 refine RA.q 6 (by kernel_rfl) rfl rfl rfl (.refl _) (OpQ.loadG zf8 rfl (fun w hH => hH.fragp .here) (getMap zn c 0 (j := D.da.s) (by omega))) ?_
 refine RA.q 7 (by kernel_rfl) rfl rfl rfl (.refl _) (OpQ.build (cells := #[_, .int .i64 (((c.getD D.da.s 0) : Nat) : Int), .slice none 0 0, .slice none 0 0]) zf40 rfl rfl) ?_
 refine RA.f 8 (by kernel_rfl) rfl rfl rfl (OpG.alloc (zs := [.int .i64 0, .int .i64 0, .slice none 0 0, .slice none 0 0]) zf37 rfl rfl) (fun _ _ => (.cons _ (.refl _))) ?_
 rintro b4 _
 refine RA.tail ?_
 refine RT.f 9 (by kernel_rfl) rfl rfl rfl (OpG.storeV (b := b4) zf25 rfl rfl rfl rfl (by repeat (first | exact Upd.here | apply Upd.there))) ?_
 rintro _ _
 refine RT.done (by kernel_rfl) ?_
 refine PX.then_n (CT.seq (CT.region ?_))
 refine Wl.q rfl rfl (OpQ.assign rfl) ?_
 refine Wl.nil (PX.then_n (CT.seq (CT.seq (CT.region ?_))))
 refine Wl.q rfl rfl (OpQ.move rfl) ?_
 refine Wl.q rfl rfl (OpQ.len zf0 rfl) ?_
 refine Wl.q rfl rfl (OpQ.move rfl) ?_
 refine Wl.nil (PX.then_n (CT.block ?_))
 refine CT.nilrow 4 1 ?_
 refine CT.nilrow 22 1 ?_
 refine CT.as (fun _ h => h.bind0 (p := rws []) (rws_nil)) ?_
 refine CT.as (fun _ h => h.take (.cons .here (.cons (.there .here) (.cons .here (.cons .here (.cons .here (.cons .here (.cons .here .nil)))))))) ?_
 refine CT.loop (ι := Nat × Option Addr × Nat × List Bool × Option Addr × Nat × List Rw × List Nat) (fun (q, fa', fc', fl, na', nc', rs, bs2) => q ≤ D.fin.length ∧ fl = (reps c q).map D.da.fi ∧ rs.map (·.xs) = (reps c q).map fun p => castL (qrow D.da c p)) (fun (q, fa', fc', fl, na', nc', rs, bs2) => [(1, .pointer (some ⟨b1, 0, none⟩)), (2, .pointer (some ⟨b2, 0, none⟩)), (3, .slice ca D.fin.length cc), (4, .pointer (some ⟨b4, 0, none⟩)), (5, .int .i64 ((fl.length : Nat) : Int)), (21, .slice ca D.fin.length cc), (22, .int .i64 ((D.fin.length : Nat) : Int)), (23, .int .i64 ((q : Nat) : Int))]) (fun (q, fa', fc', fl, na', nc', rs, bs2) => [.frag bs2 (rws rs), .row 4 1 (.slice fa' fl.length fc') fl.length (fl.map bo), .row 22 1 (.slice na' rs.length nc') rs.length (rs.map rv), .row 49 4 (vb b4) 1 [.int .i64 D.L, .int .i64 (((c.getD D.da.s 0) : Nat) : Int), .slice fa' fl.length fc', .slice na' rs.length nc'], .frag bs (fun w => Rd w ca (c.map zn)), .row 49 4 (vb b2) 1 [.int .i64 0, .int .i64 0, .slice none 0 0, .slice none 0 0], .row 49 4 (vb b1) 1 (dvc D)]) (fun (q, fa', fc', fl, na', nc', rs, bs2) => D.fin.length - q) (0, none, 0, [], none, 0, [], []) ⟨Nat.zero_le _, rfl, rfl⟩ ⟨rfl, rfl, rfl, rfl, rfl, rfl, rfl, rfl, trivial⟩ (HSub.refl _) (fun ⟨q, fa', fc', fl, na', nc', rs, bs2⟩ ⟨hq, hfl, hrs2⟩ K0 hK0 => ?_)
 dsimp only
 have hfll : fl.length = topL (c.take q) := by rw [hfl, List.length_map, reps_len hc.fo (by omega)]
 have hrll : rs.length = topL (c.take q) := by have := congrArg List.length hrs2; rwa [List.length_map, List.length_map, reps_len hc.fo (by omega)] at this
 have htq := fo_top_le hc.fo (q := q) (by omega)
 refine CT.seq (CT.region ?_)
 refine Wl.q rfl rfl (OpQ.lss rfl rfl) ?_
 refine Wl.nil (PX.then_n (CT.seq ?_))
 refine CT.cond rfl (fun h24 => ?_) (fun h24 => ?_)
 ·
  have h24 := of_decide_eq_true h24
  have hql : q < D.fin.length := by omega
  have hrw := (hv.row q hql).1
  have hfoq := hc.fo q (by omega)
  refine CT.skip (PX.then_n (CT.seq (CT.block (CT.seq (CT.region ?_)))))
  refine Wl.q rfl rfl (OpQ.move rfl) ?_
  refine Wl.q rfl rfl (OpQ.index1 zf0 zf1 rfl rfl (by omega) hca) ?_
  refine Wl.q rfl rfl (OpQ.loadG zf8 rfl (fun w hH => hH.fragp (.there (.there (.there (.there .here))))) (getMap zn c 0 (j := q) (by omega))) ?_
  refine Wl.q rfl rfl (OpQ.assign rfl) ?_
  refine Wl.q rfl rfl (OpQ.assign rfl) ?_
  refine Wl.nil (PX.then_n (CT.seq (CT.seq (CT.region ?_))))
  refine Wl.q rfl rfl (OpQ.move rfl) ?_
  refine Wl.q rfl rfl (OpQ.move rfl) ?_
  refine Wl.q rfl rfl (OpQ.neq rfl rfl) ?_
  refine Wl.nil (PX.then_n ?_)
  refine CT.cond rfl (fun h30 => ?_) (fun h30 => ?_)
  ·
   have h30 := of_nd_t h30
   refine CT.exit (PX.then_x (PX.block_x (PX.then_n (CT.region ?_))))
   refine Wl.q rfl rfl (OpQ.add rfl rfl (by omega)) ?_
   refine Wl.q rfl rfl (OpQ.move rfl) ?_
   refine Wl.nil ?_
   exact PX.loop hK0 (q + 1, fa', fc', fl, na', nc', rs, bs2) ⟨by omega, by rw [reps_s (by omega)]; exact hfl, by rw [reps_s (by omega)]; exact hrs2⟩ (show D.fin.length - (q + 1) < D.fin.length - q by omega) ⟨rfl, rfl, rfl, rfl, rfl, rfl, rfl, rfl, trivial⟩ (HSub.refl _)
  ·
   have h30 := of_nd_f h30
   refine CT.skip (PX.then_n (CT.seq (CT.region ?_)))
   refine Wl.q rfl rfl (OpQ.move rfl) ?_
   refine Wl.q rfl rfl (OpQ.add rfl rfl (by omega)) ?_
   refine Wl.q rfl rfl (OpQ.assign rfl) ?_
   refine Wl.nil (PX.then_n (CT.seq (CT.region ?_)))
   refine Wl.q rfl rfl (OpQ.assign rfl) ?_
   refine Wl.nil (PX.then_n (CT.seq (CT.seq (CT.region ?_))))
   refine Wl.q rfl rfl (OpQ.fieldAddr zf19 rfl) ?_
   refine Wl.q rfl rfl (OpQ.loadF (b := b1) zf20 rfl (by repeat (first | exact Has.here | apply Has.there)) (by rfl)) ?_
   refine Wl.q rfl rfl (OpQ.move rfl) ?_
   refine Wl.q rfl rfl (OpQ.index1 zf21 zf23 rfl rfl (by omega) (hns (by omega))) ?_
   refine Wl.q rfl rfl (OpQ.loadG zf10 rfl (fun w hH => (hH.use hD).2.1) (getMap rv D.rs rw0 (j := q) (by omega))) ?_
   refine Wl.q rfl rfl (OpQ.len zf0 rfl) ?_
   refine Wl.know 38 (v' := .int .i64 ((D.da.L : Nat) : Int)) rfl (congrArg (Value.int .i64) (by omega)) ?_
   refine Wl.q rfl rfl (OpQ.move rfl) ?_
   refine Wl.nil (PX.then_n (CT.block ?_))
   refine CT.nilrow 3 1 ?_
   refine CT.loop (ι := Nat × Option Addr × Nat) (fun (x, ra, rc) => x ≤ D.da.L) (fun (x, ra, rc) => [(1, .pointer (some ⟨b1, 0, none⟩)), (2, .pointer (some ⟨b2, 0, none⟩)), (3, .slice ca D.fin.length cc), (4, .pointer (some ⟨b4, 0, none⟩)), (5, .int .i64 ((fl.length : Int) + 1)), (21, .slice ca D.fin.length cc), (22, .int .i64 ((D.fin.length : Nat) : Int)), (23, .int .i64 ((q : Nat) : Int)), (6, .int .i64 ((q : Nat) : Int)), (8, .slice ra x rc), (37, rv (D.rs.getD q rw0)), (38, .int .i64 ((D.da.L : Nat) : Int)), (39, .int .i64 ((x : Nat) : Int))]) (fun (x, ra, rc) => [.row 3 1 (.slice ra x rc) x (((List.range x).map (fun y => ((c.getD (D.da.to q y) 0 : Nat) : Int))).map zz), .frag bs2 (rws rs), .row 4 1 (.slice fa' fl.length fc') fl.length (fl.map bo), .row 22 1 (.slice na' rs.length nc') rs.length (rs.map rv), .row 49 4 (vb b4) 1 [.int .i64 D.L, .int .i64 (((c.getD D.da.s 0) : Nat) : Int), .slice fa' fl.length fc', .slice na' rs.length nc'], .frag bs (fun w => Rd w ca (c.map zn)), .row 49 4 (vb b2) 1 [.int .i64 0, .int .i64 0, .slice none 0 0, .slice none 0 0], .row 49 4 (vb b1) 1 (dvc D)]) (fun (x, ra, rc) => D.da.L - x) (0, none, 0) (Nat.zero_le _) ⟨rfl, rfl, rfl, rfl, rfl, rfl, rfl, rfl, rfl, rfl, rfl, rfl, rfl, trivial⟩ (HSub.refl _) (fun ⟨x, ra, rc⟩ hx K1 hK1 => ?_)
   dsimp only
   refine CT.seq (CT.region ?_)
   refine Wl.q rfl rfl (OpQ.lss rfl rfl) ?_
   refine Wl.nil (PX.then_n (CT.seq ?_))
   refine CT.cond rfl (fun h40 => ?_) (fun h40 => ?_)
   ·
    have h40 := of_decide_eq_true h40
    have hxl : x < D.da.L := by omega
    have hto := hv.to (x := x) hql (by omega)
    have hton : D.da.to q x < D.fin.length := hv.daOk.lt q x hql hxl
    refine CT.skip (PX.then_n (CT.seq (CT.block (CT.seq (CT.region ?_)))))
    refine Wl.q rfl rfl (OpQ.index1 zf0 zf1 rfl rfl (by omega) (hrs q (by omega) (by omega))) ?_
    refine Wl.q rfl rfl (OpQ.loadG zf8 rfl (fun w hH => (hH.use hD).2.2 _ (getDm (show q < D.rs.length by omega))) (getMap zz (D.rs.getD q rw0).xs 0 (j := x) (by omega))) ?_
    refine Wl.know 42 (v' := .int .i64 ((D.da.to q x : Nat) : Int)) rfl (congrArg (Value.int .i64) hto) ?_
    refine Wl.q rfl rfl (OpQ.assign rfl) ?_
    refine Wl.nil (PX.then_n (CT.region ?_))
    refine Wl.q rfl rfl (OpQ.move rfl) ?_
    refine Wl.q rfl rfl (OpQ.move rfl) ?_
    refine Wl.q rfl rfl (OpQ.move rfl) ?_
    refine Wl.q rfl rfl (OpQ.index1 zf0 zf1 rfl rfl (by omega) hca) ?_
    refine Wl.q rfl rfl (OpQ.loadG zf8 rfl (fun w hH => hH.fragp (.there (.there (.there (.there (.there .here)))))) (getMap zn c 0 (j := D.da.to q x) (by omega))) ?_
    refine Wl.g rfl rfl (OpG.lit1 zf0 zf32 rfl rfl rfl) ?_
    rintro b48 _
    refine Wl.g rfl rfl (OpG.append zf0 zf32 (by rfl) (by decide) rfl rfl (p := 1) rfl (fun w hH => hH.rd .here) ⟨rfl, (by simp [Value.oneCell']), (by omega), (by omega)⟩ (nm := x + 1) rfl (all := ((List.range (x + 1)).map (fun y => ((c.getD (D.da.to q y) 0 : Nat) : Int))).map zz) (by rw [castI_row, List.map_append]; rfl)) ?_
    rintro ⟨a49, c49⟩ h49
    refine Wl.q rfl rfl (OpQ.assign rfl) ?_
    refine Wl.nil (PX.block_n (PX.then_n (CT.region ?_)))
    refine Wl.q rfl rfl (OpQ.add rfl rfl (by omega)) ?_
    refine Wl.q rfl rfl (OpQ.move rfl) ?_
    refine Wl.nil ?_
    refine PX.as (fun _ h => h.take (.cons (.there .here) (.cons (.there .here) (.cons (.there .here) (.cons (.there .here) (.cons (.there .here) (.cons (.there .here) (.cons (.there .here) (.cons (.there .here) .nil))))))))) ?_
    exact PX.loop hK1 (x + 1, a49, c49) (by omega) (show D.da.L - (x + 1) < D.da.L - x by omega) ⟨rfl, rfl, rfl, rfl, rfl, rfl, rfl, rfl, rfl, rfl, rfl, rfl, rfl, trivial⟩ (HSub.refl _)
   ·
    have h40 := of_decide_eq_false h40
    obtain rfl : x = D.da.L := by omega
    refine CT.mem (.keep (row_eq (xs := (castL (qrow D.da c q)).map zz) (by rw [← castI_end])) (HSub.refl _)) ?_
    refine CT.exit (PX.then_x (PX.then_x (PX.block_x (PX.then_n ?_))))
    refine CT.draw' (Hc := [.row 49 4 (vb b4) 1 [.int .i64 D.L, .int .i64 (((c.getD D.da.s 0) : Nat) : Int), .slice fa' fl.length fc', .slice na' rs.length nc'], .row 49 4 (vb b1) 1 (dvc D)]) 15 zf6 ?_
    refine RA.q 0 (by kernel_rfl) rfl rfl rfl (.cons _ (.cons _ (.cons _ (.cons _ (.cons_cons _ (.cons _ (.cons _ (.cons_cons _ (.refl _))))))))) (OpQ.fieldAddr zf19 rfl) ?_
    refine RA.q 1 (by kernel_rfl) rfl rfl rfl (.cons _ (.cons _ (.cons _ (.cons _ (.cons_cons _ (.cons _ (.cons _ (.cons_cons _ (.refl _))))))))) (OpQ.loadF (b := b4) zf20 rfl (by repeat (first | exact Has.here | apply Has.there)) (by rfl)) ?_
    refine RA.q 2 (by kernel_rfl) rfl rfl rfl (.cons _ (.cons _ (.cons _ (.cons _ (.cons_cons _ (.cons _ (.cons _ (.cons_cons _ (.refl _))))))))) (OpQ.move rfl) ?_
    refine RA.q 5 (by kernel_rfl) rfl rfl rfl (.cons _ (.cons _ (.cons _ (.cons _ (.cons_cons _ (.cons _ (.cons _ (.cons_cons _ (.refl _))))))))) (OpQ.fieldAddr zf16 rfl) ?_
    refine RA.q 6 (by kernel_rfl) rfl rfl rfl (.cons _ (.cons _ (.cons _ (.cons _ (.cons_cons _ (.cons _ (.cons _ (.cons_cons _ (.refl _))))))))) (OpQ.loadF (b := b4) zf17 rfl (by repeat (first | exact Has.here | apply Has.there)) (by rfl)) ?_
    refine RA.q 7 (by kernel_rfl) rfl rfl rfl (.cons _ (.cons _ (.cons _ (.cons _ (.cons_cons _ (.cons _ (.cons _ (.cons_cons _ (.refl _))))))))) (OpQ.fieldAddr zf16 rfl) ?_
    refine RA.q 8 (by kernel_rfl) rfl rfl rfl (.cons _ (.cons _ (.cons _ (.cons _ (.cons_cons _ (.cons _ (.cons _ (.cons_cons _ (.refl _))))))))) (OpQ.loadF (b := b1) zf17 rfl (by repeat (first | exact Has.here | apply Has.there)) (by rfl)) ?_
    refine RA.q 9 (by kernel_rfl) rfl rfl rfl (.cons _ (.cons _ (.cons _ (.cons _ (.cons_cons _ (.cons _ (.cons _ (.cons_cons _ (.refl _))))))))) (OpQ.move rfl) ?_
    refine RA.q 10 (by kernel_rfl) rfl rfl rfl (.cons _ (.cons _ (.cons _ (.cons _ (.cons_cons _ (.cons _ (.cons _ (.cons_cons _ (.refl _))))))))) (OpQ.index1 zf18 zf29 rfl rfl (by omega) (hfs (by omega))) ?_
    refine RA.q 11 (by kernel_rfl) rfl rfl rfl (.cons _ (.cons _ (.cons _ (.cons _ (.cons_cons _ (.cons _ (.cons _ (.cons_cons _ (.refl _))))))))) (OpQ.loadG zf30 rfl (fun w hH => (hH.use hD).1) (getMap bo D.fin false (j := q) (by omega))) ?_
    refine RA.know 62 (v' := .bool (D.da.fi q)) rfl rfl ?_
    refine RA.two 3 12 (by kernel_rfl) rfl rfl rfl (OpG.lit1 zf21 zf41 rfl rfl rfl) (fun _ _ => (.cons _ (.cons _ (.cons _ (.cons _ (.cons _ (.cons_cons _ (.cons _ (.cons _ (.cons_cons _ (.refl _))))))))))) rfl rfl rfl (OpG.lit1 zf18 zf43 rfl rfl rfl) (fun _ _ => (.cons _ (.cons _ (.cons _ (.cons _ (.cons _ (.cons_cons _ (.cons _ (.cons _ (.cons_cons _ (.refl _))))))))))) ?_ ?_
    ·
     rintro b54 _
     refine RA.two 4 12 (by kernel_rfl) rfl rfl rfl (OpG.append zf21 zf41 (by rfl) (by decide) rfl rfl (p := 4) rfl (fun w hH => hH.rd .here) ⟨rfl, (by simp [Value.oneCell']), (by omega), (by omega)⟩ (nm := rs.length + 1) rfl (all := (rs ++ [(⟨ra, rc, castL (qrow D.da c q)⟩ : Rw)]).map rv) (by simp [qrow_len])) (fun _ _ => (.cons _ (.cons _ (.cons _ (.cons _ (.cons _ (.cons_cons _ (.cons _ (.cons _ (.cons_cons _ (.refl _))))))))))) rfl rfl rfl (OpG.lit1 zf18 zf43 rfl rfl rfl) (fun _ _ => (.cons _ (.cons _ (.cons _ (.cons _ (.cons _ (.cons _ (.cons_cons _ (.cons _ (.cons _ (.cons_cons _ (.refl _)))))))))))) ?_ ?_
     ·
      rintro ⟨a55, c55⟩ h55
      refine RA.q 14 (by kernel_rfl) rfl rfl rfl (.cons _ (.cons _ (.cons _ (.cons _ (.cons _ (.cons_cons _ (.cons _ (.cons _ (.cons_cons _ (.refl _)))))))))) (OpQ.fieldAddr zf19 rfl) ?_
      refine RA.f 12 (by kernel_rfl) rfl rfl rfl (OpG.lit1 zf18 zf43 rfl rfl rfl) (fun _ _ => (.cons _ (.cons _ (.cons _ (.cons _ (.cons _ (.cons _ (.cons_cons _ (.cons _ (.cons _ (.cons_cons _ (.refl _)))))))))))) ?_
      rintro b63 _
      refine RA.f 13 (by kernel_rfl) rfl rfl rfl (OpG.append zf18 zf43 (by rfl) (by decide) rfl rfl (p := 4) rfl (fun w hH => hH.rd .here) ⟨rfl, (by simp [Value.oneCell']), (by omega), (by omega)⟩ (nm := fl.length + 1) rfl (all := (fl ++ [D.da.fi q]).map bo) (by simp)) (fun _ _ => (.cons _ (.cons _ (.cons _ (.cons _ (.cons _ (.cons _ (.cons_cons _ (.cons _ (.cons _ (.cons_cons _ (.refl _)))))))))))) ?_
      rintro ⟨a64, c64⟩ h64
      refine RA.tail ?_
      refine RT.f 15 (by kernel_rfl) rfl rfl rfl (OpG.storeRow (a := some ⟨b4, 0, none⟩) zf42 rfl rfl rfl (by repeat (first | exact Upd.here | apply Upd.there)) (by simp)) ?_
      rintro _ _
      refine RT.q 16 (by kernel_rfl) rfl rfl rfl (OpQ.fieldAddr zf16 rfl) ?_
      refine RT.f 17 (by kernel_rfl) rfl rfl rfl (OpG.storeRow (a := some ⟨b4, 0, none⟩) zf44 rfl rfl rfl (by repeat (first | exact Upd.here | apply Upd.there)) (by simp)) ?_
      rintro _ _
      refine RT.done (by kernel_rfl) ?_
      refine PX.block_n (PX.then_n (CT.region ?_))
      refine Wl.q rfl rfl (OpQ.add rfl rfl (by omega)) ?_
      refine Wl.q rfl rfl (OpQ.move rfl) ?_
      refine Wl.nil ?_
      refine PX.as (fun _ h => h.bind (L := [.frag bs2 (rws rs), .row 3 1 (.slice ra D.da.L rc) D.da.L ((castL (qrow D.da c q)).map zz)]) (p := rws (rs ++ [(⟨ra, rc, castL (qrow D.da c q)⟩ : Rw)])) (.cons (.there (.there (.there .here))) (.cons (.there (.there .here)) .nil)) (fun w hk => rws_snoc (r := (⟨ra, rc, castL (qrow D.da c q)⟩ : Rw)) ((hk _ List.mem_cons_self).2 w (fun _ _ => rfl)) (Rd.of_owns (hk _ (List.mem_cons_of_mem _ List.mem_cons_self))))) ?_
      refine PX.as (fun _ h => h.take (.cons .here (.cons (.there (.there .here)) (.cons (.there (.there .here)) (.cons (.there (.there .here)) (.cons (.there (.there .here)) (.cons (.there (.there .here)) (.cons (.there (.there .here)) .nil)))))))) ?_
      exact PX.loop hK0 (q + 1, a64, c64, fl ++ [D.da.fi q], a55, c55, rs ++ [(⟨ra, rc, castL (qrow D.da c q)⟩ : Rw)], _) ⟨by omega, by rw [reps_n (by omega), List.map_append, hfl]; rfl, by rw [reps_n (by omega), List.map_append, List.map_append, hrs2]; rfl⟩ (show D.fin.length - (q + 1) < D.fin.length - q by omega) ⟨rfl, rfl, rfl, rfl, (lkV rfl (by simp)), rfl, rfl, rfl, trivial⟩ (.keep rfl (by simp only [List.length_append, List.length_singleton]; exact HSub.refl _))
     ·
      rintro b63 _
      refine RA.f 4 (by kernel_rfl) rfl rfl rfl (OpG.append zf21 zf41 (by rfl) (by decide) rfl rfl (p := 5) rfl (fun w hH => hH.rd (.there .here)) ⟨rfl, (by simp [Value.oneCell']), (by omega), (by omega)⟩ (nm := rs.length + 1) rfl (all := (rs ++ [(⟨ra, rc, castL (qrow D.da c q)⟩ : Rw)]).map rv) (by simp [qrow_len])) (fun _ _ => (.cons _ (.cons _ (.cons _ (.cons _ (.cons _ (.cons _ (.cons_cons _ (.cons _ (.cons _ (.cons_cons _ (.refl _)))))))))))) ?_
      rintro ⟨a55, c55⟩ h55
      refine RA.q 14 (by kernel_rfl) rfl rfl rfl (.cons _ (.cons _ (.cons _ (.cons _ (.cons _ (.cons _ (.cons_cons _ (.cons _ (.cons _ (.cons_cons _ (.refl _))))))))))) (OpQ.fieldAddr zf19 rfl) ?_
      refine RA.f 13 (by kernel_rfl) rfl rfl rfl (OpG.append zf18 zf43 (by rfl) (by decide) rfl rfl (p := 4) rfl (fun w hH => hH.rd .here) ⟨rfl, (by simp [Value.oneCell']), (by omega), (by omega)⟩ (nm := fl.length + 1) rfl (all := (fl ++ [D.da.fi q]).map bo) (by simp)) (fun _ _ => (.cons _ (.cons _ (.cons _ (.cons _ (.cons _ (.cons _ (.cons_cons _ (.cons _ (.cons _ (.cons_cons _ (.refl _)))))))))))) ?_
      rintro ⟨a64, c64⟩ h64
      refine RA.tail ?_
      refine RT.f 15 (by kernel_rfl) rfl rfl rfl (OpG.storeRow (a := some ⟨b4, 0, none⟩) zf42 rfl rfl rfl (by repeat (first | exact Upd.here | apply Upd.there)) (by simp)) ?_
      rintro _ _
      refine RT.q 16 (by kernel_rfl) rfl rfl rfl (OpQ.fieldAddr zf16 rfl) ?_
      refine RT.f 17 (by kernel_rfl) rfl rfl rfl (OpG.storeRow (a := some ⟨b4, 0, none⟩) zf44 rfl rfl rfl (by repeat (first | exact Upd.here | apply Upd.there)) (by simp)) ?_
      rintro _ _
      refine RT.done (by kernel_rfl) ?_
      refine PX.block_n (PX.then_n (CT.region ?_))
      refine Wl.q rfl rfl (OpQ.add rfl rfl (by omega)) ?_
      refine Wl.q rfl rfl (OpQ.move rfl) ?_
      refine Wl.nil ?_
      refine PX.as (fun _ h => h.bind (L := [.frag bs2 (rws rs), .row 3 1 (.slice ra D.da.L rc) D.da.L ((castL (qrow D.da c q)).map zz)]) (p := rws (rs ++ [(⟨ra, rc, castL (qrow D.da c q)⟩ : Rw)])) (.cons (.there (.there (.there .here))) (.cons (.there (.there .here)) .nil)) (fun w hk => rws_snoc (r := (⟨ra, rc, castL (qrow D.da c q)⟩ : Rw)) ((hk _ List.mem_cons_self).2 w (fun _ _ => rfl)) (Rd.of_owns (hk _ (List.mem_cons_of_mem _ List.mem_cons_self))))) ?_
      refine PX.as (fun _ h => h.take (.cons .here (.cons (.there (.there .here)) (.cons (.there (.there .here)) (.cons (.there (.there .here)) (.cons (.there (.there .here)) (.cons (.there (.there .here)) (.cons (.there (.there .here)) .nil)))))))) ?_
      exact PX.loop hK0 (q + 1, a64, c64, fl ++ [D.da.fi q], a55, c55, rs ++ [(⟨ra, rc, castL (qrow D.da c q)⟩ : Rw)], _) ⟨by omega, by rw [reps_n (by omega), List.map_append, hfl]; rfl, by rw [reps_n (by omega), List.map_append, List.map_append, hrs2]; rfl⟩ (show D.fin.length - (q + 1) < D.fin.length - q by omega) ⟨rfl, rfl, rfl, rfl, (lkV rfl (by simp)), rfl, rfl, rfl, trivial⟩ (.keep rfl (by simp only [List.length_append, List.length_singleton]; exact HSub.refl _))
    ·
     rintro b63 _
     refine RA.f 3 (by kernel_rfl) rfl rfl rfl (OpG.lit1 zf21 zf41 rfl rfl rfl) (fun _ _ => (.cons _ (.cons _ (.cons _ (.cons _ (.cons _ (.cons _ (.cons_cons _ (.cons _ (.cons _ (.cons_cons _ (.refl _)))))))))))) ?_
     rintro b54 _
     refine RA.f 4 (by kernel_rfl) rfl rfl rfl (OpG.append zf21 zf41 (by rfl) (by decide) rfl rfl (p := 5) rfl (fun w hH => hH.rd .here) ⟨rfl, (by simp [Value.oneCell']), (by omega), (by omega)⟩ (nm := rs.length + 1) rfl (all := (rs ++ [(⟨ra, rc, castL (qrow D.da c q)⟩ : Rw)]).map rv) (by simp [qrow_len])) (fun _ _ => (.cons _ (.cons _ (.cons _ (.cons _ (.cons _ (.cons _ (.cons_cons _ (.cons _ (.cons _ (.cons_cons _ (.refl _)))))))))))) ?_
     rintro ⟨a55, c55⟩ h55
     refine RA.q 14 (by kernel_rfl) rfl rfl rfl (.cons _ (.cons _ (.cons _ (.cons _ (.cons _ (.cons _ (.cons_cons _ (.cons _ (.cons _ (.cons_cons _ (.refl _))))))))))) (OpQ.fieldAddr zf19 rfl) ?_
     refine RA.f 13 (by kernel_rfl) rfl rfl rfl (OpG.append zf18 zf43 (by rfl) (by decide) rfl rfl (p := 4) rfl (fun w hH => hH.rd (.there .here)) ⟨rfl, (by simp [Value.oneCell']), (by omega), (by omega)⟩ (nm := fl.length + 1) rfl (all := (fl ++ [D.da.fi q]).map bo) (by simp)) (fun _ _ => (.cons _ (.cons _ (.cons _ (.cons _ (.cons _ (.cons _ (.cons_cons _ (.cons _ (.cons _ (.cons_cons _ (.refl _)))))))))))) ?_
     rintro ⟨a64, c64⟩ h64
     refine RA.tail ?_
     refine RT.f 15 (by kernel_rfl) rfl rfl rfl (OpG.storeRow (a := some ⟨b4, 0, none⟩) zf42 rfl rfl rfl (by repeat (first | exact Upd.here | apply Upd.there)) (by simp)) ?_
     rintro _ _
     refine RT.q 16 (by kernel_rfl) rfl rfl rfl (OpQ.fieldAddr zf16 rfl) ?_
     refine RT.f 17 (by kernel_rfl) rfl rfl rfl (OpG.storeRow (a := some ⟨b4, 0, none⟩) zf44 rfl rfl rfl (by repeat (first | exact Upd.here | apply Upd.there)) (by simp)) ?_
     rintro _ _
     refine RT.as (fun _ h => h.take (.cons (.there .here) (.cons .here (.cons .here (.cons .here (.cons .here (.cons .here (.cons .here (.cons .here (.cons .here (.cons .here .nil))))))))))) ?_
     refine RT.done (by kernel_rfl) ?_
     refine PX.block_n (PX.then_n (CT.region ?_))
     refine Wl.q rfl rfl (OpQ.add rfl rfl (by omega)) ?_
     refine Wl.q rfl rfl (OpQ.move rfl) ?_
     refine Wl.nil ?_
     refine PX.as (fun _ h => h.bind (L := [.frag bs2 (rws rs), .row 3 1 (.slice ra D.da.L rc) D.da.L ((castL (qrow D.da c q)).map zz)]) (p := rws (rs ++ [(⟨ra, rc, castL (qrow D.da c q)⟩ : Rw)])) (.cons (.there (.there (.there .here))) (.cons (.there (.there .here)) .nil)) (fun w hk => rws_snoc (r := (⟨ra, rc, castL (qrow D.da c q)⟩ : Rw)) ((hk _ List.mem_cons_self).2 w (fun _ _ => rfl)) (Rd.of_owns (hk _ (List.mem_cons_of_mem _ List.mem_cons_self))))) ?_
     refine PX.as (fun _ h => h.take (.cons .here (.cons (.there (.there .here)) (.cons (.there (.there .here)) (.cons (.there (.there .here)) (.cons (.there (.there .here)) (.cons (.there (.there .here)) (.cons (.there (.there .here)) .nil)))))))) ?_
     exact PX.loop hK0 (q + 1, a64, c64, fl ++ [D.da.fi q], a55, c55, rs ++ [(⟨ra, rc, castL (qrow D.da c q)⟩ : Rw)], _) ⟨by omega, by rw [reps_n (by omega), List.map_append, hfl]; rfl, by rw [reps_n (by omega), List.map_append, List.map_append, hrs2]; rfl⟩ (show D.fin.length - (q + 1) < D.fin.length - q by omega) ⟨rfl, rfl, rfl, rfl, (lkV rfl (by simp)), rfl, rfl, rfl, trivial⟩ (.keep rfl (by simp only [List.length_append, List.length_singleton]; exact HSub.refl _))
 ·
  have h24 := of_decide_eq_false h24
  refine CT.exit (PX.then_x (PX.then_x (PX.block_x (PX.then_n (CT.seq (CT.region ?_))))))
  obtain rfl : q = D.fin.length := by omega
  have h3 : Dv.Is ⟨D.L, (c.getD D.da.s 0), fa', fc', fl, na', nc', rs⟩ (quo D.da c (c.getD D.da.s 0)) := quo_is' hLe rfl hfl hrs2
  have h3ok : Dv.Ok ⟨D.L, (c.getD D.da.s 0), fa', fc', fl, na', nc', rs⟩ := quo3_ok hv hc h3
  refine Wl.q rfl rfl (OpQ.loadV (b := b4) zf24 zf25 rfl (by repeat (first | exact Has.here | apply Has.there)) (by rfl)) ?_
  refine Wl.know 69 (v' := dvv ⟨D.L, (c.getD D.da.s 0), fa', fc', fl, na', nc', rs⟩) rfl rfl ?_
  refine Wl.g rfl rfl (OpG.callX zf134 rfl .nil (fun _ => (.cons .nil)) (fun w hH hp => trimR_spec w ⟨D.L, (c.getD D.da.s 0), fa', fc', fl, na', nc', rs⟩ (fun w2 he => ⟨Stays.rd (hH.staysK0 (.there .here)) w2 he, Stays.rd (hH.staysK0 (.there (.there .here))) w2 he, Stays.frag (hH.staysK0 .here) w2 he⟩) h3ok)) ?_
  rintro ⟨K, D4, bs4, la4, lc4⟩ h70
  dsimp only at h70
  obtain ⟨hK, h4⟩ := h70
  obtain ⟨_, hv4, hmin⟩ := min_chain2 hv hc h3 hK h4
  refine Wl.q rfl rfl (OpQ.move rfl) ?_
  refine Wl.q rfl rfl (OpQ.extract rfl rfl) ?_
  refine Wl.know 71 (v' := dvv D4) rfl rfl ?_
  refine Wl.q rfl rfl (OpQ.extract rfl rfl) ?_
  refine Wl.know 72 (v' := .slice la4 fl.length lc4) rfl rfl ?_
  refine Wl.g rfl rfl (OpG.storeV (b := b4) zf25 rfl rfl rfl rfl (by repeat (first | exact Upd.here | apply Upd.there))) ?_
  rintro _ _
  refine Wl.nil (PX.then_n (CT.seq (CT.region ?_)))
  refine Wl.q rfl rfl (OpQ.loadV (b := b4) zf24 zf25 rfl (by repeat (first | exact Has.here | apply Has.there)) (by rfl)) ?_
  refine Wl.g rfl rfl (OpG.storeV (b := b2) zf25 rfl rfl rfl rfl (by repeat (first | exact Upd.here | apply Upd.there))) ?_
  rintro _ _
  refine Wl.nil (PX.then_n (CT.ret ?_))
  refine PX.retC rfl rfl (by repeat (first | exact Has.here | apply Has.there)) zf24 zf25 (by rfl) (fun w' hH => ?_)
  exact ⟨(D4, bs4), ⟨hv4, hmin⟩, rfl, (hH.take (.cons .here .nil)).post⟩

end Go.Proofs.Ytamolakhpcofhaa

