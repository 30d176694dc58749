/- Pure proofs: no program in sight. -/
import Derived.Test.YtkogkombalcgeaaVG
set_option linter.unusedVariables false
set_option linter.unusedSimpArgs false
namespace Go.Proofs.Ytkogkombalcgeaa
open Go.Sy Go.RowKit
def fconcatS (l : List (List Filter)) : List Filter := l.flatten
theorem flat_take (l : List (List Filter)) (k : Nat) (q : List Filter) (hq : l[k]? = some q) : (l.take (k + 1)).flatten = (l.take k).flatten ++ q := by
  rw [take_next l k q hq, List.flatten_append]
  simp
theorem flat_len (l : List (List Filter)) (h : ∀ x ∈ l, x.length ≤ 1048576) (n : Nat) (hn : l.length ≤ n) : l.flatten.length ≤ n * 1048576 := by
  induction l generalizing n with
  | nil => simp
  | cons x l ih =>
    have h1 := h x (by simp)
    simp only [List.length_cons] at hn
    have h2 := ih (fun y hy => h y (by simp [hy])) (n - 1) (by omega)
    rw [List.flatten_cons, List.length_append]
    have : n * 1048576 = (n - 1) * 1048576 + 1048576 := by omega
    omega
theorem fconcat_ok (u0 : List (List Filter)) (h : (∀ l ∈ u0, l.length ≤ 1048576) ∧ u0.length ≤ 2) : fconcat_vc u0 (fun r => r = fconcatS u0) := by
  intro hl
  have hb : ∀ k, (u0.take k).flatten.length ≤ 2 * 1048576 := fun k => flat_len _ (fun x hx => h.1 x (List.mem_of_mem_take hx)) 2 (by rw [List.length_take]; omega)
  refine rg1b hl (fun k (x : Int) => x = (((u0.take k).flatten.length : Nat) : Int)) (by simp) ?_ ?_
  · rintro k _ q hk hq rfl inv mu hn _
    have h1 := hb k
    have h2 := h.1 q (List.mem_of_getElem? hq)
    have e : w64 (((u0.take k).flatten.length : Int) + (q.length : Int)) = (((u0.take (k + 1)).flatten.length : Nat) : Int) := by
      rw [w64_eq _ (by omega), flat_take u0 k q hq, List.length_append]
      omega
    rw [e]
    refine ⟨fun h3 => ?_, fun _ => hn _ rfl⟩
    have h4 := of_decide_eq_true h3
    omega
  · rintro _ rfl
    have h1 := hb u0.length
    refine ⟨by omega, fun _ => ?_⟩
    refine rg1b hl (fun k (x : List Filter) => x = (u0.take k).flatten) (by simp [fgrowS]) ?_ ?_
    · rintro k _ q hk hq rfl inv mu hn _
      have h1 := hb k
      have h2 := h.1 q (List.mem_of_getElem? hq)
      exact ⟨by omega, hn _ (flat_take u0 k q hq).symm⟩
    · rintro _ rfl
      rw [List.take_length]
      rfl

end Go.Proofs.Ytkogkombalcgeaa
