/- Pure proofs: no program in sight. -/
import Derived.Test.YtkogkombalcgeaaVC
set_option linter.unusedVariables false
set_option linter.unusedSimpArgs false
namespace Go.Proofs.Ytkogkombalcgeaa
open Go.Sy Go.RowKit
def fCountS (l : List Filter) (long : Bool) : Int × Int :=
  if fcheckS l ≠ 0 then (0, fcheckS l) else (countS (l.filter fun f => f.Long == long) (ftop long) 0 0, 0)
theorem cpre_filter (l : List Filter) (h : fcheckS l = 0) (long : Bool) : cpre (l.filter fun f => f.Long == long) (ftop long) 0 0 := by
  obtain ⟨K, hK29, hK⟩ := ftop_pow long
  have hp := Nat.two_pow_pos K
  refine ⟨K, 0, 0, hK29, hK, rfl, rfl, hp, rfl, Nat.le_trans (List.length_filter_le _ _) (fcheckS_len l h), fun f hf => ?_⟩
  obtain ⟨h1, h2⟩ := List.mem_filter.1 hf
  have h3 : f.Long = long := by simpa using h2
  have h4 := fcheckS_ok l h f h1
  rw [h3, hK] at h4
  exact ⟨by omega, by omega, by omega, by omega, fun i hi => by simp at hi⟩
theorem fCount_ok (l : List Filter) (long : Bool) : fCount_vc l long (fun r => r = fCountS l long) := by
  intro hl
  refine ⟨fun h => ?_, fun h => ?_⟩
  · have : fcheckS l ≠ 0 := by simpa using h
    simp [fCountS, this]
  · have h0 : fcheckS l = 0 := by simpa using h
    have hlen := fcheckS_len l h0
    refine rg1b hl (fun k (x : List Filter) => x = (l.take k).filter fun f => f.Long == long) (by simp) ?_ ?_
    · rintro k _ q hk hq rfl inv mu hn
      have hfl : ((l.take k).filter fun f => f.Long == long).length ≤ 16 := Nat.le_trans (List.length_filter_le _ _) (by simp; omega)
      refine ⟨fun h2 => ⟨by omega, hn _ ?_⟩, fun h2 => hn _ ?_⟩
      · rw [take_next l k q hq, List.filter_append]; simp [h2]
      · rw [take_next l k q hq, List.filter_append]; simp [h2]
    · rintro _ rfl
      rw [List.take_length]
      exact ⟨cpre_filter l h0 long, by simp [fCountS, h0]⟩

end Go.Proofs.Ytkogkombalcgeaa
