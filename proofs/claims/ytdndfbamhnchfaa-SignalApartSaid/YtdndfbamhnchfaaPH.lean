/- What must hold so that each function ends well: pure predicates, made by program. -/
import Derived.Test.YtdndfbamhnchfaaPG
set_option linter.unusedVariables false
set_option linter.unusedSimpArgs false
namespace Go.Proofs.Ytdndfbamhnchfaa
open Go.Sy Go.RowKit
def LApart_vc (u0 : Signal) (u1 : Signal) (u2 : List Int) (u3 : Int) (u4 : Int) (K : Bool → Prop) : Prop :=
  (u2.length ≤ 140737488355328 →
    (((overS u0 u1) = true →
      (K true)) ∧
    ((overS u0 u1) = false →
      ((isBytes u2) ∧
      (((swriteS u0 u2 u3 1).1).length ≤ 140737488355328 →
      ((isBytes u2) ∧
      (((swriteS u1 u2 u4 1).1).length ≤ 140737488355328 →
      ((((((swriteS u0 u2 u3 1).2) != 0) || (((swriteS u1 u2 u4 1).2) != 0)) = true →
        (K true)) ∧
      (((((swriteS u0 u2 u3 1).2) != 0) || (((swriteS u1 u2 u4 1).2) != 0)) = false →
        ((isBytes ((swriteS u0 u2 u3 1).1)) ∧
        (((swriteS u1 ((swriteS u0 u2 u3 1).1) u4 1).1).length ≤ 140737488355328 →
        ((isBytes ((swriteS u1 u2 u4 1).1)) ∧
        (((swriteS u0 ((swriteS u1 u2 u4 1).1) u3 1).1).length ≤ 140737488355328 →
        ((isBytes ((swriteS u1 ((swriteS u0 u2 u3 1).1) u4 1).1)) ∧
        ((isBytes ((swriteS u1 ((swriteS u0 u2 u3 1).1) u4 1).1)) ∧
        (K (((((((((((swriteS u1 ((swriteS u0 u2 u3 1).1) u4 1).2) == 0) && (((swriteS u0 ((swriteS u1 u2 u4 1).1) u3 1).2) == 0)) && (((sreadS u0 ((swriteS u1 ((swriteS u0 u2 u3 1).1) u4 1).1)).2.2) == 0)) && (((sreadS u1 ((swriteS u1 ((swriteS u0 u2 u3 1).1) u4 1).1)).2.2) == 0)) && (beqS ((swriteS u1 ((swriteS u0 u2 u3 1).1) u4 1).1) ((swriteS u0 ((swriteS u1 u2 u4 1).1) u3 1).1))) && ((((sreadS u0 ((swriteS u1 ((swriteS u0 u2 u3 1).1) u4 1).1)).2.1).Num) == u3)) && ((((sreadS u0 ((swriteS u1 ((swriteS u0 u2 u3 1).1) u4 1).1)).2.1).Den) == 1)) && ((((sreadS u1 ((swriteS u1 ((swriteS u0 u2 u3 1).1) u4 1).1)).2.1).Num) == u4)) && ((((sreadS u1 ((swriteS u1 ((swriteS u0 u2 u3 1).1) u4 1).1)).2.1).Den) == 1))))))))))))))))))

/-! Pure proofs: no program in sight. -/
theorem swrite_bytes {s : Signal} {d : List Int} {n m : Int} (hd : isBytes d) : isBytes (swriteS s d n m).1 := by
  have h0 : isBytes ([] : List Int) := fun x hx => by cases hx
  unfold swriteS
  split
  · exact h0
  · split
    · exact h0
    · exact putF_bytes _ _ _ _ hd
theorem LApart_ok {A B C D : Prop} (s t : Signal) (d : List Int) (n m : Int) (k0 : A) (k1 : B) (kk : (∀ y0 ∈ d, IntKind.u8.min ≤ y0 ∧ y0 ≤ IntKind.u8.max) ∧ d.length * 1 ≤ lim) (k3 : C) (k4 : D) : LApart_vc s t d n m (fun r => r = true) := by
  have hd : isBytes d := fun x hx => kk.1 x hx
  intro _
  refine ⟨fun _ => rfl, fun ho => ⟨hd, fun _ => ⟨hd, fun _ => ⟨fun _ => rfl, fun hw => ⟨swrite_bytes hd, fun _ => ⟨swrite_bytes hd, fun _ => ⟨swrite_bytes (swrite_bytes hd), swrite_bytes (swrite_bytes hd), ?_⟩⟩⟩⟩⟩⟩⟩
  have hw : (swriteS s d n 1).2 = 0 ∧ (swriteS t d m 1).2 = 0 := by simpa using hw
  obtain ⟨a1, a2, a3, a4, a5, a6, a7, a8, a9⟩ := apart hd ho hw.1 hw.2
  simp only [Bool.and_eq_true, beq_iff_eq, beqS, decide_eq_true_eq]
  exact ⟨⟨⟨⟨⟨⟨⟨⟨a1, a2⟩, a3⟩, a4⟩, a5⟩, a6⟩, a7⟩, a8⟩, a9⟩

end Go.Proofs.Ytdndfbamhnchfaa
