/-
  What functions of the program compute, each by its walk. Conditions: those that each theorem names.
-/
import Derived.Test.YtlmbcdjmdgbmjaaMod
import Derived.Test.YtlmbcdjmdgbmjaaXB9
import Derived.Test.YtlmbcdjmdgbmjaaXB15
import Derived.Test.YtlmbcdjmdgbmjaaXB5
import Derived.Test.YtlmbcdjmdgbmjaaXQ5
import Derived.Test.YtlmbcdjmdgbmjaaXQ7
set_option linter.unusedSimpArgs false
namespace Go.Proofs.Ytlmbcdjmdgbmjaa
open Go Go.Eng Go.Am Go.Tl
open Go.Tp (zi)

theorem AP_go12 : isGo Try.prog 12 = true := by kernel_rfl
theorem AP_go13 : isGo Try.prog 13 = true := by kernel_rfl
theorem AP_go14 : isGo Try.prog 14 = true := by kernel_rfl
theorem AP_go15 : isGo Try.prog 15 = true := by kernel_rfl
theorem AP_un22 : Try.prog.underlying 22 = some (.slice 31) := by kernel_rfl
theorem AP_go25 : isGo Try.prog 25 = true := by kernel_rfl
theorem AP_in52 : (Try.prog.info? 52).map (fun i => (i.zero, i.size, i.bytes)) = some (some (.agg #[.int .i64 0, .int .i64 0, .slice none 0 0, .slice none 0 0]), 4, 64) := by kernel_rfl
theorem AP_sz52 : sizeB Try.prog 52 = some 4 := by kernel_rfl
theorem AP_go26 : isGo Try.prog 26 = true := by kernel_rfl
theorem AP_ag52 : isAggB Try.prog 52 = some true := by kernel_rfl
theorem AP_go11 : isGo Try.prog 11 = true := by kernel_rfl
theorem AP_go29 : isGo Try.prog 29 = true := by kernel_rfl
theorem AP_go16 : isGo Try.prog 16 = true := by kernel_rfl
theorem AP_un4 : Try.prog.underlying 4 = some .bool := by kernel_rfl
set_option maxRecDepth 100000 in
/-- semigroup/semigrouplaw39.TemporalAgrees -/
theorem TemporalAgrees_spec (w : World) (a : Option Addr) (cp : Nat) (l : List Int) (hrl : Rd w a (l.map zi)) (hl : l.length ≤ cp) (a2 : Option Addr) (cp2 : Nat) (l2 : List Int) (hrl2 : Rd w a2 (l2.map zi)) (hl2 : l2.length ≤ cp2) : Calls Try.prog 9 #[.slice a l.length cp, .slice a2 l2.length cp2] w (fun e w' => e = .returned (.bool true) ∧ Ext [] w w') := by
 refine enter (args := [.slice a l.length cp, .slice a2 l2.length cp2]) [] 63 Try.func9 rfl rfl rfl ?_
 refine CT.seq ?_
 refine CT.region ?_
 refine Wl.q rfl rfl (OpQ.assign rfl) ?_
 refine Wl.nil ?_
 refine PX.then_n ?_
 refine CT.seq ?_
 refine CT.region ?_
 refine Wl.q rfl rfl (OpQ.move rfl) ?_
 refine Wl.g rfl rfl (OpG.callX AP_go12 rfl .nil (fun _ => (.cons .nil)) (fun w hH hp => new_spec w a cp l hl)) ?_
 rintro ⟨b14, k14⟩ h14
 dsimp only at h14
 obtain ⟨hk14, hk14m⟩ := h14
 have hrT14 : Stays [] w (fun w => Rd w a ((l.take k14).map zi)) := Rd.stays (by rw [List.map_take]; exact hrl.take _)
 have hle14 : (l.take k14).length = k14 := by rw [List.length_take]; omega
 refine Wl.q rfl rfl (OpQ.assign rfl) ?_
 refine Wl.nil ?_
 refine PX.then_n ?_
 refine CT.seq ?_
 refine CT.region ?_
 refine Wl.q rfl rfl (OpQ.move rfl) ?_
 refine Wl.g rfl rfl (OpG.callX AP_go13 rfl (.cons .here .nil) (fun _ => (.cons .nil)) (fun w hH hp => next_spec w b14 a k14 cp (l.take k14) hle14 (by omega) (hH.stays hrT14 (.cons .here .nil)) 0 (Nat.zero_le _) hp (2) (by omega))) ?_
 rintro ⟨r16, p16⟩ h16
 dsimp only at h16
 obtain ⟨⟨h16a, h16b⟩, h16p⟩ := h16
 refine Wl.know 16 (v' := .int .i64 r16) rfl rfl ?_
 refine Wl.q rfl rfl (OpQ.add rfl rfl (by omega)) ?_
 refine Wl.q rfl rfl (OpQ.assign rfl) ?_
 refine Wl.nil ?_
 refine PX.then_n ?_
 refine CT.seq ?_
 refine CT.region ?_
 refine Wl.q rfl rfl (OpQ.move rfl) ?_
 refine Wl.q rfl rfl (OpQ.move rfl) ?_
 refine Wl.g rfl rfl (OpG.callX AP_go14 rfl (.cons .here .nil) (fun _ => (.cons (.cons .nil))) (fun w hH hp => list_spec w b14 a k14 cp (l.take k14) hle14 (by omega) (hH.stays hrT14 (.cons .here .nil)) p16 h16p hp (1 + r16) 8 (by omega) (by omega))) ?_
 rintro ⟨xs, p20, a20, c20⟩ h20
 dsimp only at h20
 obtain ⟨⟨hok, hlen1, hlen8⟩, h20p⟩ := h20
 refine Wl.know 20 (v' := .slice a20 xs.length c20) rfl rfl ?_
 refine Wl.q rfl rfl (OpQ.assign rfl) ?_
 refine Wl.nil ?_
 refine PX.then_n ?_
 refine CT.seq ?_
 refine CT.region ?_
 refine Wl.q rfl rfl (OpQ.move rfl) ?_
 refine Wl.g rfl rfl (OpG.callX AP_go12 rfl .nil (fun _ => (.cons .nil)) (fun w hH hp => new_spec w a2 cp2 l2 hl2)) ?_
 rintro ⟨b22, k22⟩ h22
 dsimp only at h22
 obtain ⟨hk22, hk22m⟩ := h22
 have hrT22 : Stays [] w (fun w => Rd w a2 ((l2.take k22).map zi)) := Rd.stays (by rw [List.map_take]; exact hrl2.take _)
 have hle22 : (l2.take k22).length = k22 := by rw [List.length_take]; omega
 refine Wl.q rfl rfl (OpQ.move rfl) ?_
 refine Wl.g rfl rfl (OpG.callX AP_go15 rfl (.cons .here .nil) (fun _ => (.cons .nil)) (fun w hH hp => word_spec w b22 a2 k22 cp2 (l2.take k22) hle22 (by omega) (hH.stays hrT22 (.cons .here .nil)) 0 (Nat.zero_le _) hp (1 + r16) 16 (by omega) (by omega))) ?_
 rintro ⟨ws, p24⟩ h24
 dsimp only at h24
 obtain ⟨⟨hwl, hwk⟩, h24p⟩ := h24
 refine Wl.know 24 (v' := sv ws) rfl rfl ?_
 refine Wl.q rfl rfl (OpQ.assign rfl) ?_
 refine Wl.nil ?_
 refine PX.then_n ?_
 refine CT.seq ?_
 refine CT.seq ?_
 refine CT.region ?_
 refine Wl.q rfl rfl (OpQ.move rfl) ?_
 refine Wl.q rfl rfl (OpQ.move rfl) ?_
 refine Wl.q rfl rfl (OpQ.len AP_un22 rfl) ?_
 refine Wl.q rfl rfl (OpQ.sub rfl rfl (by omega)) ?_
 refine Wl.q rfl rfl (OpQ.move rfl) ?_
 refine Wl.g rfl rfl (OpG.callX AP_go25 rfl .nil (fun _ => (.cons .nil)) (fun w hH hp => dfa39_spec w a20 c20 xs (Stays.rd (hH.staysK0 (.there .here))) (by omega) ((xs.length : Int) - 1) (1 + r16))) ?_
 rintro ⟨D, bsD, er⟩ hM
 dsimp only at hM
 refine Wl.q rfl rfl (OpQ.move rfl) ?_
 refine Wl.q rfl rfl (OpQ.extract rfl rfl) ?_
 refine Wl.know 32 (v' := dvv D) rfl rfl ?_
 refine Wl.q rfl rfl (OpQ.extract rfl rfl) ?_
 refine Wl.know 33 (v' := .int .i64 er) rfl rfl ?_
 refine Wl.g rfl rfl (OpG.alloc (zs := [.int .i64 0, .int .i64 0, .slice none 0 0, .slice none 0 0]) AP_in52 rfl rfl) ?_
 rintro b9 _
 refine Wl.g rfl rfl (OpG.storeV (b := b9) AP_sz52 rfl rfl rfl rfl (by repeat (first | exact Upd.here | apply Upd.there))) ?_
 rintro _ _
 refine Wl.q rfl rfl (OpQ.assign rfl) ?_
 refine Wl.nil ?_
 refine PX.then_n ?_
 refine CT.seq ?_
 refine CT.region ?_
 refine Wl.q rfl rfl (OpQ.move rfl) ?_
 refine Wl.q rfl rfl (OpQ.neq rfl rfl) ?_
 refine Wl.nil ?_
 refine PX.then_n ?_
 refine CT.cond rfl (fun h35 => ?_) (fun h35 => ?_)
 ·
  have h35 := of_nd_t h35
  refine CT.seq ?_
  refine CT.region ?_
  refine Wl.g rfl rfl (OpG.callV AP_go11 rfl (fun w hH => known_spec w)) ?_
  rintro _ _
  refine Wl.know 36 (v' := .bool true) rfl (congrArg Value.bool rfl) ?_
  refine Wl.q rfl rfl (OpQ.assign rfl) ?_
  refine Wl.nil ?_
  refine PX.then_n ?_
  refine CT.ret ?_
  refine PX.then_r ?_
  refine PX.ret1 rfl rfl (fun w' hH => ?_)
  exact ⟨rfl, hH.ext⟩
 ·
  have h35 := of_nd_f h35
  have hMd := hM h35
  refine CT.skip ?_
  refine PX.then_n ?_
  refine CT.seq ?_
  refine CT.region ?_
  refine Wl.q rfl rfl (OpQ.move rfl) ?_
  refine Wl.q rfl rfl (OpQ.move rfl) ?_
  refine Wl.q rfl rfl (OpQ.len AP_un22 rfl) ?_
  refine Wl.q rfl rfl (OpQ.sub rfl rfl (by omega)) ?_
  refine Wl.q rfl rfl (OpQ.move rfl) ?_
  refine Wl.g rfl rfl (OpG.callX AP_go26 rfl .nil (fun _ => (.cons .nil)) (fun w hH hp => dfaT_spec w a20 c20 xs (Stays.rd (hH.staysK0 (.there (.there (.there .here))))) (owns_cap (hH.holds _ (Has.mem (.there (.there (.there .here))))).1) ((xs.length : Int) - 1) (1 + r16) D hMd)) ?_
  rintro ⟨D2, bs2⟩ h2
  dsimp only at h2
  obtain ⟨hv2, h52, hda⟩ := h2
  refine Wl.q rfl rfl (OpQ.move rfl) ?_
  refine Wl.q rfl rfl (OpQ.extract rfl rfl) ?_
  refine Wl.know 44 (v' := dvv D2) rfl rfl ?_
  refine Wl.q rfl rfl (OpQ.extract rfl rfl) ?_
  refine Wl.know 45 (v' := .int .i64 0) rfl rfl ?_
  refine Wl.g rfl rfl (OpG.alloc (zs := [.int .i64 0, .int .i64 0, .slice none 0 0, .slice none 0 0]) AP_in52 rfl rfl) ?_
  rintro b11 _
  refine Wl.g rfl rfl (OpG.storeV (b := b11) AP_sz52 rfl rfl rfl rfl (by repeat (first | exact Upd.here | apply Upd.there))) ?_
  rintro _ _
  refine Wl.q rfl rfl (OpQ.assign rfl) ?_
  refine Wl.nil ?_
  refine PX.then_n ?_
  refine CT.seq ?_
  refine CT.region ?_
  refine Wl.q rfl rfl (OpQ.move rfl) ?_
  refine Wl.q rfl rfl (OpQ.eql rfl rfl) ?_
  refine Wl.know 47 (v' := .bool true) rfl (congrArg Value.bool (by decide)) ?_
  refine Wl.q rfl rfl (OpQ.move rfl) ?_
  have hL2 : D2.L = 1 + r16 := by
   have h1 := congrArg Da.L hda
   have h3 := hv2.L_eq
   have h4 := hMd.2.1.L_eq
   obtain ⟨_, _, _, K, m, _, _, hm, _, hr⟩ := hMd
   have h5 := hr.letters
   omega
  have hag : D2.da.sy.acc D2.da.s (wl ws) = holdsB xs ((xs.length : Int) - 1) ws := by rw [hda]; exact made_holds hMd hwk
  refine Wl.q rfl rfl (OpQ.loadV (b := b11) AP_ag52 AP_sz52 rfl (by repeat (first | exact Has.here | apply Has.there)) (by rfl)) ?_
  refine Wl.know 49 (v' := dvv D2) rfl rfl ?_
  refine Wl.q rfl rfl (OpQ.move rfl) ?_
  refine Wl.g rfl rfl (OpG.callV AP_go29 rfl (fun w hH => dacc_spec w D2 (Stays.frag (hH.staysK0 (.there .here))) hv2 h52 ws (by rw [hL2]; exact hwk))) ?_
  rintro _ _
  refine Wl.q rfl rfl (OpQ.move rfl) ?_
  refine Wl.q rfl rfl (OpQ.move rfl) ?_
  refine Wl.q rfl rfl (OpQ.len AP_un22 rfl) ?_
  refine Wl.q rfl rfl (OpQ.sub rfl rfl (by omega)) ?_
  refine Wl.q rfl rfl (OpQ.move rfl) ?_
  refine Wl.g rfl rfl (OpG.callV AP_go16 rfl (fun w hH => holds_spec w a20 c20 xs (hH.rd (.there (.there (.there (.there (.there .here)))))) (by omega) (owns_cap (hH.holds _ (Has.mem (.there (.there (.there (.there (.there .here))))))).1) ((xs.length : Int) - 1) ws (by omega))) ?_
  rintro _ _
  refine Wl.q rfl rfl (OpQ.eqlB AP_un4 rfl rfl) ?_
  refine Wl.know 58 (v' := .bool true) rfl (congrArg Value.bool (by rw [hag]; simp)) ?_
  refine Wl.q rfl rfl (OpQ.pickT rfl rfl) ?_
  refine Wl.q rfl rfl (OpQ.move rfl) ?_
  refine Wl.g rfl rfl (OpG.callV AP_go11 rfl (fun w hH => known_spec w)) ?_
  rintro _ _
  refine Wl.know 61 (v' := .bool true) rfl (congrArg Value.bool rfl) ?_
  refine Wl.q rfl rfl (OpQ.pickT rfl rfl) ?_
  refine Wl.q rfl rfl (OpQ.assign rfl) ?_
  refine Wl.nil ?_
  refine PX.then_n ?_
  refine CT.ret ?_
  refine PX.ret1 rfl rfl (fun w' hH => ?_)
  exact ⟨rfl, hH.ext⟩

end Go.Proofs.Ytlmbcdjmdgbmjaa

