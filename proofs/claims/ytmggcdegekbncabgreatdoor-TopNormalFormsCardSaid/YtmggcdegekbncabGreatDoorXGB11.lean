/-
  What functions of the program compute, each by its walk. Conditions: those that each theorem names.
-/
import Derived.Test.YtmggcdegekbncabGreatDoorEng1
import Derived.Test.YtmggcdegekbncabGreatDoorXGB10
import Derived.Test.YtmggcdegekbncabGreatDoorXF
set_option linter.unusedSimpArgs false
namespace Go.Proofs.YtmggcdegekbncabGreatDoor
open Go Go.Eng Go.Am Go.Ex
open Go.Tp (zi)
open Go.Tl (mayL Wd okW okB bo)
open Go.Ex.simp (simpL)
open Go.Ex.dv (dvL dvC)
open Go.Ex.hasU (hasAny hasAll)
open Go.Ex.wf (wfL)
open Go.Ex.szE (szL)
open Go.Ex.dpE (dpL)
open Go.Ex.cmpE (cmpL)
open Go.Ex.fmtE (fmtK fmtR)
open Go.Shelf
def sortX_ren : Go.Shelf.Ren := ⟨fun | 6 => 127 | 15 => 133 | 14 => 132 | 28 => 144 | 29 => 145 | 20 => 136 | 21 => 137 | 22 => 138 | 23 => 139 | 24 => 140 | 25 => 141 | 26 => 142 | 27 => 143 | 46 => 147 | 47 => 148 | 48 => 149 | 49 => 150 | 50 => 151 | 57 => 152 | n => n, fun | 22 => 22 | 24 => 24 | 25 => 104 | 3 => 3 | 39 => 119 | 0 => 0 | 53 => 179 | 55 => 120 | 4 => 4 | 46 => 173 | 45 => 172 | 50 => 103 | 5 => 5 | 9 => 9 | 66 => 180 | 70 => 113 | 76 => 185 | 77 => 83 | n => n, fun | n => n⟩
theorem sortX : Go.Proofs.SlLaysF0.n6 Tryz.prog sortX_ren := {
 mixed := by kernel_rfl
 f6 := ⟨Tryz.f127.name, by decide, Tryz.func127.trans (congrArg some (by kernel_rfl))⟩
 f14 := ⟨Tryz.f132.name, by decide, Tryz.func132.trans (congrArg some (by kernel_rfl))⟩
 f15 := Tryz.func133.trans (congrArg some (by kernel_rfl))
 f20 := ⟨Tryz.f136.name, by decide, Tryz.func136.trans (congrArg some (by kernel_rfl))⟩
 f21 := ⟨Tryz.f137.name, by decide, Tryz.func137.trans (congrArg some (by kernel_rfl))⟩
 f22 := ⟨Tryz.f138.name, by decide, Tryz.func138.trans (congrArg some (by kernel_rfl))⟩
 f23 := ⟨Tryz.f139.name, by decide, Tryz.func139.trans (congrArg some (by kernel_rfl))⟩
 f24 := ⟨Tryz.f140.name, by decide, Tryz.func140.trans (congrArg some (by kernel_rfl))⟩
 f25 := ⟨Tryz.f141.name, by decide, Tryz.func141.trans (congrArg some (by kernel_rfl))⟩
 f26 := ⟨Tryz.f142.name, by decide, Tryz.func142.trans (congrArg some (by kernel_rfl))⟩
 f27 := ⟨Tryz.f143.name, by decide, Tryz.func143.trans (congrArg some (by kernel_rfl))⟩
 f28 := Tryz.func144.trans (congrArg some (by kernel_rfl))
 f29 := Tryz.func145.trans (congrArg some (by kernel_rfl))
 f46 := ⟨Tryz.f147.name, by decide, Tryz.func147.trans (congrArg some (by kernel_rfl))⟩
 f47 := Tryz.func148.trans (congrArg some (by kernel_rfl))
 f48 := Tryz.func149.trans (congrArg some (by kernel_rfl))
 f49 := ⟨Tryz.f150.name, by decide, Tryz.func150.trans (congrArg some (by kernel_rfl))⟩
 f50 := ⟨Tryz.f151.name, by decide, Tryz.func151.trans (congrArg some (by kernel_rfl))⟩
 f57 := ⟨Tryz.f152.name, by decide, Tryz.func152.trans (congrArg some (by kernel_rfl))⟩
 t0 := Tryz.underlying0
 a0 := Tryz.isAgg0
 z0 := Tryz.sizeOf0
 v0 := Tryz.zeroValue0
 t3 := Tryz.underlying3
 a3 := Tryz.isAgg3
 z3 := Tryz.sizeOf3
 v3 := Tryz.zeroValue3
 t4 := Tryz.underlying4
 a4 := Tryz.isAgg4
 z4 := Tryz.sizeOf4
 v4 := Tryz.zeroValue4
 t5 := Tryz.underlying5
 a5 := Tryz.isAgg5
 z5 := Tryz.sizeOf5
 v5 := Tryz.zeroValue5
 t9 := Tryz.underlying9
 a9 := Tryz.isAgg9
 z9 := Tryz.sizeOf9
 v9 := Tryz.zeroValue9
 t22 := Tryz.underlying22
 a22 := Tryz.isAgg22
 z22 := Tryz.sizeOf22
 v22 := Tryz.zeroValue22
 t25 := Tryz.underlying104
 a25 := Tryz.isAgg104
 z25 := Tryz.sizeOf104
 v25 := Tryz.zeroValue104
 t39 := Tryz.underlying119
 a39 := Tryz.isAgg119
 z39 := Tryz.sizeOf119
 v39 := Tryz.zeroValue119
 t45 := Tryz.underlying172
 a45 := Tryz.isAgg172
 z45 := Tryz.sizeOf172
 v45 := Tryz.zeroValue172
 t46 := Tryz.underlying173
 a46 := Tryz.isAgg173
 z46 := Tryz.sizeOf173
 v46 := Tryz.zeroValue173
 t50 := Tryz.underlying103
 a50 := Tryz.isAgg103
 z50 := Tryz.sizeOf103
 v50 := Tryz.zeroValue103
 t53 := Tryz.underlying179
 a53 := Tryz.isAgg179
 z53 := Tryz.sizeOf179
 v53 := Tryz.zeroValue179
 t55 := Tryz.underlying120
 a55 := Tryz.isAgg120
 z55 := Tryz.sizeOf120
 v55 := Tryz.zeroValue120
 t66 := Tryz.underlying180
 a66 := Tryz.isAgg180
 z66 := Tryz.sizeOf180
 v66 := Tryz.zeroValue180
 t70 := Tryz.underlying113
 a70 := Tryz.isAgg113
 z70 := Tryz.sizeOf113
 v70 := Tryz.zeroValue113
 t76 := Tryz.underlying185
 a76 := Tryz.isAgg185
 z76 := Tryz.sizeOf185
 v76 := Tryz.zeroValue185
 t77 := Tryz.underlying83
 a77 := Tryz.isAgg83
 z77 := Tryz.sizeOf83
 v77 := Tryz.zeroValue83 }
theorem sortF_spec (w : World) (ks : List Xv) (ka : Option Addr) (kc : Nat) (hk : Stays (blks [.row 24 3 (.slice ka ks.length kc) ks.length ((ks).flatMap evc)]) w (AllM ks)) (hpre : Pre [.row 24 3 (.slice ka ks.length kc) ks.length ((ks).flatMap evc)] w) (hsz : ks.length < 4611686018427387904) (g : Nat) (hgo : isGo Tryz.prog g = true) (hq : ∀ x y : Xv, ∀ w : World, Stays [] w (evm x) → Stays [] w (evm y) → Calls Tryz.prog g #[evv x, evv y] w (fun e w' => e = .returned (.int .i64 (cmpE (toE x) (toE y))) ∧ Ext [] w w')) : Calls Tryz.prog 127 #[.slice ka ks.length kc, .func (.func g) #[] #[]] w (fun e w' => ∃ us : List Xv, (us.Perm ks ∧ (us.map toE).Pairwise LeE ∧ us.length = ks.length) ∧ e = .returned (.tuple #[]) ∧ Post (blks [.row 24 3 (.slice ka ks.length kc) ks.length ((ks).flatMap evc)]) [.row 24 3 (.slice ka us.length kc) us.length ((us).flatMap evc)] w w') :=
 sort_ok (P := Tryz.prog) (ρ := sortX_ren) sortX Tryz.isAgg24 Tryz.sizeOf24 24 w ks ka kc hk hpre hsz g hgo hq

end Go.Proofs.YtmggcdegekbncabGreatDoor

