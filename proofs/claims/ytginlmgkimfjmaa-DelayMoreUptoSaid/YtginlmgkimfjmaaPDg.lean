/- Pure proofs: no program in sight. -/
import Derived.Test.YtginlmgkimfjmaaVDg
set_option linter.unusedVariables false
set_option linter.unusedSimpArgs false
namespace Go.Proofs.Ytginlmgkimfjmaa
open Go.Sy Go.RowKit
def dstep (time : Int) (at_ : Bool) (x : Int) (o : Task) : Int := w64 (x + w64 (dasksS o time at_ * dlongS o))
def dw1S (time block : Int) (l : List Task) (i : Int) : Int := (l.take (i + 1).toNat).foldl (dstep time false) block
def dw2S (time block q : Int) (t : Task) (l : List Task) (i : Int) : Int := (l.take i.toNat).foldl (dstep time true) (w64 (block + w64 (q * dlongS t)))
theorem fold_drop {α β : Type} (f : β → α → β) (l : List α) (k : Nat) (q : α) (x : β) (hq : l[k]? = some q) : (l.drop k).foldl f x = (l.drop (k + 1)).foldl f (f x q) := by
  rw [drop_this l k q hq]; rfl
theorem dw1_ok (time block : Int) (l : List Task) (i : Int) (h : (0 ≤ i ∧ i < (l.length : Int)) ∧ (∀ o ∈ l, o.Every ≠ 0) ∧ l.length ≤ 1000000) : dw1_vc time block l i (fun r => r = dw1S time block l i) := by
  obtain ⟨h1, h2, h3⟩ := h
  have ew : w64 (i + 1) = i + 1 := w64_eq _ (by omega)
  unfold dw1_vc dw1S
  rw [ew]
  have hlen : (l.take (i + 1).toNat).length ≤ l.length := List.length_take_le' _ _
  refine ⟨by omega, rg1b (by omega) (fun k x => ((l.take (i + 1).toNat).drop k).foldl (dstep time false) x = (l.take (i + 1).toNat).foldl (dstep time false) block) rfl ?_ ?_⟩
  · intro k x q hk hq hj inv mu hn
    rw [fold_drop _ _ k q x hq] at hj
    exact ⟨h2 q (List.mem_of_mem_take (List.mem_of_getElem? hq)), hn _ hj⟩
  · intro x hj
    rw [List.drop_length] at hj
    exact hj
theorem dw2_ok (time block q : Int) (t : Task) (l : List Task) (i : Int) (h : (0 ≤ i ∧ i < (l.length : Int)) ∧ (∀ o ∈ l, o.Every ≠ 0) ∧ l.length ≤ 1000000) : dw2_vc time block q t l i (fun r => r = dw2S time block q t l i) := by
  obtain ⟨h1, h2, h3⟩ := h
  unfold dw2_vc dw2S
  have hlen : (l.take i.toNat).length ≤ l.length := List.length_take_le' _ _
  refine ⟨by omega, rg1b (by omega) (fun k x => ((l.take i.toNat).drop k).foldl (dstep time true) x = (l.take i.toNat).foldl (dstep time true) (w64 (block + w64 (q * dlongS t)))) rfl ?_ ?_⟩
  · intro k x y hk hq hj inv mu hn
    rw [fold_drop _ _ k y x hq] at hj
    exact ⟨h2 y (List.mem_of_mem_take (List.mem_of_getElem? hq)), hn _ hj⟩
  · intro x hj
    rw [List.drop_length] at hj
    exact hj

end Go.Proofs.Ytginlmgkimfjmaa
