/-
  The engine of the walks: slots as a list, memory as chunks, one lemma for each operation. No condition.
-/
import Derived.Test.YtmggcdegekbncabGreatDoorEng1
import Derived.Test.YtmggcdegekbncabGreatDoorMod1
set_option linter.unusedSimpArgs false
namespace Go.Ex
open Go Go.Eng Go.Am
/-- what Build hands back -/
structure BZ (e : Ex) (D : Dv) (er : Int) : Prop where
  r : BuildR e D.da er
  ok : er = 0 → D.Ok
  z : er ≠ 0 → D = dv0
theorem BZ.small {e : Ex} {D : Dv} {er : Int} (h : BZ e D er) : D.fin.length ≤ 100000 ∧ D.rs.length ≤ 100000 ∧ ∀ q, q < D.rs.length → (D.rs.getD q rw0).xs.length ≤ 100000 := by
  by_cases h0 : er = 0
  · have hD := h.ok h0
    have hn := h.r.n h0
    have h1 := hD.len
    refine ⟨by omega, by omega, fun q hq => ?_⟩
    have h2 := hD.may
    have h3 := (hD.row q (by omega)).1
    omega
  · rw [h.z h0]
    exact ⟨by decide, by decide, fun q hq => absurd hq (Nat.not_lt_zero q)⟩
theorem BZ.same {e f : Ex} {D F : Dv} {er er' : Int} (h : BZ e D er) (h' : BZ f F er') (he : vdE 2 e = 0) (hf : vdE 2 f = 0) (hs : simp e = simp f) : er = er' ∧ sameD D F = true := by
  obtain ⟨h1, h2⟩ := h.r.same h'.r he hf hs
  refine ⟨h1, ?_⟩
  by_cases h0 : er = 0
  · exact (sameD_da (h.ok h0) (h'.ok (by omega))).2 (h2 h0)
  · rw [h.z h0, h'.z (by omega)]
    decide
/-- what the text of e reads as -/
theorem fmt_reads {e : Ex} (h : vdE 2 e = 0) : (fmtE e).length ≤ 4096 ∧ 14 * szE e ≤ 1000000 ∧ pP 2 (14 * szE e) 0 (fmtE e) = some (e, []) ∧ inLim e = true := by
  obtain ⟨h1, h2, h3⟩ := lim2 h
  have h4 := fmt_len e
  exact ⟨by omega, by omega, parse_fmt (by decide) h1, h3⟩
end Go.Ex

