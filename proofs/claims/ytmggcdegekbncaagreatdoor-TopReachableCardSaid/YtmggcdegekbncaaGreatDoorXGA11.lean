/-
  What functions of the program compute, each by its walk. Conditions: those that each theorem names.
-/
import Derived.Test.YtmggcdegekbncaaGreatDoorEng1
import Derived.Test.YtmggcdegekbncaaGreatDoorXGA10
import Derived.Test.YtmggcdegekbncaaGreatDoorXF
set_option linter.unusedSimpArgs false
namespace Go.Proofs.YtmggcdegekbncaaGreatDoor
open Go Go.Eng Go.Am Go.Ex
open Go.Tp (zi)
open Go.Tl (mayL Wd okW okB bo)
open Go.Ex.simp (simpL)
open Go.Ex.dv (dvL dvC)
open Go.Ex.hasU (hasAny hasAll)
open Go.Ex.wf (wfL)
open Go.Ex.szE (szL)
open Go.Ex.dpE (dpL)
open Go.Ex.cmpE (cmpL)
open Go.Ex.fmtE (fmtK fmtR)
open Go.Shelf
def sortX_ren : Go.Shelf.Ren := ⟨fun | 6 => 106 | 15 => 112 | 14 => 111 | 28 => 123 | 29 => 124 | 20 => 115 | 21 => 116 | 22 => 117 | 23 => 118 | 24 => 119 | 25 => 120 | 26 => 121 | 27 => 122 | 46 => 126 | 47 => 127 | 48 => 128 | 49 => 129 | 50 => 130 | 57 => 131 | n => n, fun | 22 => 37 | 24 => 39 | 25 => 136 | 3 => 3 | 39 => 101 | 0 => 0 | 53 => 152 | 55 => 102 | 4 => 4 | 46 => 146 | 45 => 145 | 50 => 99 | 5 => 5 | 9 => 9 | 66 => 153 | 70 => 109 | 76 => 158 | 77 => 82 | n => n, fun | n => n⟩
theorem sortX : Go.Proofs.SlLaysF0.n6 Tryz.prog sortX_ren := {
 mixed := by kernel_rfl
 f6 := ⟨Tryz.f106.name, by decide, Tryz.func106.trans (congrArg some (by kernel_rfl))⟩
 f14 := ⟨Tryz.f111.name, by decide, Tryz.func111.trans (congrArg some (by kernel_rfl))⟩
 f15 := Tryz.func112.trans (congrArg some (by kernel_rfl))
 f20 := ⟨Tryz.f115.name, by decide, Tryz.func115.trans (congrArg some (by kernel_rfl))⟩
 f21 := ⟨Tryz.f116.name, by decide, Tryz.func116.trans (congrArg some (by kernel_rfl))⟩
 f22 := ⟨Tryz.f117.name, by decide, Tryz.func117.trans (congrArg some (by kernel_rfl))⟩
 f23 := ⟨Tryz.f118.name, by decide, Tryz.func118.trans (congrArg some (by kernel_rfl))⟩
 f24 := ⟨Tryz.f119.name, by decide, Tryz.func119.trans (congrArg some (by kernel_rfl))⟩
 f25 := ⟨Tryz.f120.name, by decide, Tryz.func120.trans (congrArg some (by kernel_rfl))⟩
 f26 := ⟨Tryz.f121.name, by decide, Tryz.func121.trans (congrArg some (by kernel_rfl))⟩
 f27 := ⟨Tryz.f122.name, by decide, Tryz.func122.trans (congrArg some (by kernel_rfl))⟩
 f28 := Tryz.func123.trans (congrArg some (by kernel_rfl))
 f29 := Tryz.func124.trans (congrArg some (by kernel_rfl))
 f46 := ⟨Tryz.f126.name, by decide, Tryz.func126.trans (congrArg some (by kernel_rfl))⟩
 f47 := Tryz.func127.trans (congrArg some (by kernel_rfl))
 f48 := Tryz.func128.trans (congrArg some (by kernel_rfl))
 f49 := ⟨Tryz.f129.name, by decide, Tryz.func129.trans (congrArg some (by kernel_rfl))⟩
 f50 := ⟨Tryz.f130.name, by decide, Tryz.func130.trans (congrArg some (by kernel_rfl))⟩
 f57 := ⟨Tryz.f131.name, by decide, Tryz.func131.trans (congrArg some (by kernel_rfl))⟩
 t0 := Tryz.underlying0
 a0 := Tryz.isAgg0
 z0 := Tryz.sizeOf0
 v0 := Tryz.zeroValue0
 t3 := Tryz.underlying3
 a3 := Tryz.isAgg3
 z3 := Tryz.sizeOf3
 v3 := Tryz.zeroValue3
 t4 := Tryz.underlying4
 a4 := Tryz.isAgg4
 z4 := Tryz.sizeOf4
 v4 := Tryz.zeroValue4
 t5 := Tryz.underlying5
 a5 := Tryz.isAgg5
 z5 := Tryz.sizeOf5
 v5 := Tryz.zeroValue5
 t9 := Tryz.underlying9
 a9 := Tryz.isAgg9
 z9 := Tryz.sizeOf9
 v9 := Tryz.zeroValue9
 t22 := Tryz.underlying37
 a22 := Tryz.isAgg37
 z22 := Tryz.sizeOf37
 v22 := Tryz.zeroValue37
 t25 := Tryz.underlying136
 a25 := Tryz.isAgg136
 z25 := Tryz.sizeOf136
 v25 := Tryz.zeroValue136
 t39 := Tryz.underlying101
 a39 := Tryz.isAgg101
 z39 := Tryz.sizeOf101
 v39 := Tryz.zeroValue101
 t45 := Tryz.underlying145
 a45 := Tryz.isAgg145
 z45 := Tryz.sizeOf145
 v45 := Tryz.zeroValue145
 t46 := Tryz.underlying146
 a46 := Tryz.isAgg146
 z46 := Tryz.sizeOf146
 v46 := Tryz.zeroValue146
 t50 := Tryz.underlying99
 a50 := Tryz.isAgg99
 z50 := Tryz.sizeOf99
 v50 := Tryz.zeroValue99
 t53 := Tryz.underlying152
 a53 := Tryz.isAgg152
 z53 := Tryz.sizeOf152
 v53 := Tryz.zeroValue152
 t55 := Tryz.underlying102
 a55 := Tryz.isAgg102
 z55 := Tryz.sizeOf102
 v55 := Tryz.zeroValue102
 t66 := Tryz.underlying153
 a66 := Tryz.isAgg153
 z66 := Tryz.sizeOf153
 v66 := Tryz.zeroValue153
 t70 := Tryz.underlying109
 a70 := Tryz.isAgg109
 z70 := Tryz.sizeOf109
 v70 := Tryz.zeroValue109
 t76 := Tryz.underlying158
 a76 := Tryz.isAgg158
 z76 := Tryz.sizeOf158
 v76 := Tryz.zeroValue158
 t77 := Tryz.underlying82
 a77 := Tryz.isAgg82
 z77 := Tryz.sizeOf82
 v77 := Tryz.zeroValue82 }
theorem sortF_spec (w : World) (ks : List Xv) (ka : Option Addr) (kc : Nat) (hk : Stays (blks [.row 39 3 (.slice ka ks.length kc) ks.length ((ks).flatMap evc)]) w (AllM ks)) (hpre : Pre [.row 39 3 (.slice ka ks.length kc) ks.length ((ks).flatMap evc)] w) (hsz : ks.length < 4611686018427387904) (g : Nat) (hgo : isGo Tryz.prog g = true) (hq : ∀ x y : Xv, ∀ w : World, Stays [] w (evm x) → Stays [] w (evm y) → Calls Tryz.prog g #[evv x, evv y] w (fun e w' => e = .returned (.int .i64 (cmpE (toE x) (toE y))) ∧ Ext [] w w')) : Calls Tryz.prog 106 #[.slice ka ks.length kc, .func (.func g) #[] #[]] w (fun e w' => ∃ us : List Xv, (us.Perm ks ∧ (us.map toE).Pairwise LeE ∧ us.length = ks.length) ∧ e = .returned (.tuple #[]) ∧ Post (blks [.row 39 3 (.slice ka ks.length kc) ks.length ((ks).flatMap evc)]) [.row 39 3 (.slice ka us.length kc) us.length ((us).flatMap evc)] w w') :=
 sort_ok (P := Tryz.prog) (ρ := sortX_ren) sortX Tryz.isAgg39 Tryz.sizeOf39 39 w ks ka kc hk hpre hsz g hgo hq

end Go.Proofs.YtmggcdegekbncaaGreatDoor

