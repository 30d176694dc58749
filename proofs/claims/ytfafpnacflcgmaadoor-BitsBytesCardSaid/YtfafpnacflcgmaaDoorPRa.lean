/- What must hold so that each function ends well: pure predicates, made by program. -/
import Derived.Test.YtfafpnacflcgmaaDoorPBm
set_option linter.unusedVariables false
set_option linter.unusedSimpArgs false
namespace Go.Proofs.YtfafpnacflcgmaaDoor
open Go.Sy Go.RowKit
def rofb_vc (u0 : List Int) (K : (List UInt8) → Prop) : Prop :=
  (u0.length ≤ 140737488355328 →
    (∃ inv19 : (List UInt8) → Int → Prop, ∃ mu19 : (List UInt8) → Int → Nat, inv19 [] 0 ∧
    (∀ (x3 : List UInt8) (x9 : Int), inv19 x3 x9 →
    (((decide (x9 < (u0.length : Int))) = true →
      ((0 ≤ x9 ∧ x9 < (u0.length : Int)) ∧
      (∀ q43, u0[x9.toNat]? = some q43 →
      (fint1_vc (w64 q43) fun r59 =>
      ((0 ≤ (w64 (8 - (r59.length : Int))) ∧ (w64 (8 - (r59.length : Int))) ≤ 1000000 ∧ (([48] : List UInt8).length : Int) * (w64 (8 - (r59.length : Int))) ≤ 140737488355328) ∧
      ((((srepS ([48] : List UInt8) (w64 (8 - (r59.length : Int)))).length : Int) + (r59.length : Int) ≤ 9223372036854775807) ∧
      (((x3.length : Int) + (((srepS ([48] : List UInt8) (w64 (8 - (r59.length : Int)))) ++ r59).length : Int) ≤ 9223372036854775807) ∧
      (inv19 (x3 ++ ((srepS ([48] : List UInt8) (w64 (8 - (r59.length : Int)))) ++ r59)) (w64 (x9 + 1)) ∧ mu19 (x3 ++ ((srepS ([48] : List UInt8) (w64 (8 - (r59.length : Int)))) ++ r59)) (w64 (x9 + 1)) < mu19 x3 x9)))))))) ∧
    ((decide (x9 < (u0.length : Int))) = false →
      (K x3))))))

/-! Pure proofs: no program in sight. -/
theorem fmt_byte (n : Nat) (h : n < 256) : srepS [48] (8 - ((binS n).length : Int)) ++ binS n = wr 8 n := by
  have hl : Nat.log2 n < 8 := by
    by_cases h0 : n = 0
    · subst h0; decide
    · exact (Nat.log2_lt h0).2 h
  have e : (8 : Int) - ((binS n).length : Int) = ((8 - (Nat.log2 n + 1) : Nat) : Int) := by rw [binS_len]; omega
  rw [e, srep_zero]
  unfold binS
  have hb : n < 2 ^ (Nat.log2 n + 1) := by
    by_cases h0 : n = 0
    · subst h0; decide
    · exact (Nat.log2_lt h0).1 (by omega)
  have := wr_zeros n (Nat.log2 n + 1) hb (8 - (Nat.log2 n + 1))
  rw [← this]
  congr 1
  omega
theorem rofb_ok (l : List Int) (h : (∀ x ∈ l, 0 ≤ x ∧ x ≤ 255) ∧ l.length ≤ 1000) : rofb_vc l (fun r => r = ofb l) := by
  obtain ⟨hb, hl⟩ := h
  intro _
  refine ⟨fun x i => ∃ k : Nat, i = k ∧ k ≤ l.length ∧ x = ofb (l.take k), fun _ i => l.length - i.toNat, ⟨0, rfl, by omega, by simp [ofb]⟩, ?_⟩
  rintro _ _ ⟨k, rfl, hk, rfl⟩
  refine ⟨fun h1 => ?_, fun h1 => ?_⟩
  · have hkl : k < l.length := by have := of_decide_eq_true h1; omega
    refine ⟨by omega, fun q hq => ?_⟩
    rw [Int.toNat_natCast] at hq
    have hqb := hb q (List.mem_of_getElem? hq)
    rw [w64_eq q (by omega)]
    refine ⟨⟨by omega, by omega⟩, ?_⟩
    have hf : fintS q = binS q.toNat := rfl
    have hlen : (binS q.toNat).length ≤ 8 := by
      rw [binS_len]
      by_cases h0 : q.toNat = 0
      · rw [h0]; decide
      · have := (Nat.log2_lt h0).2 (show q.toNat < 2 ^ 8 by omega)
        omega
    rw [hf]
    dsimp only
    rw [w64_eq (8 - ((binS q.toNat).length : Int)) (by omega), fmt_byte q.toNat (by omega)]
    have hol := ofb_length (l.take k)
    rw [List.length_take] at hol
    have hsl : (srepS [48] (8 - ((binS q.toNat).length : Int))).length ≤ 8 := by
      have := congrArg List.length (fmt_byte q.toNat (by omega))
      rw [List.length_append, wr_length] at this
      omega
    refine ⟨⟨by omega, by omega, by simp only [List.length_cons, List.length_nil]; omega⟩, by omega, by rw [wr_length]; omega, ?_⟩
    rw [w64_succ k (by omega)]
    refine ⟨⟨k + 1, rfl, by omega, ?_⟩, by (try dsimp only); omega⟩
    rw [take_next l k q hq, ofb_append]
    show _ = ofb (l.take k) ++ (wr 8 q.toNat ++ [])
    rw [List.append_nil]
  · have hkl : k = l.length := by have := of_decide_eq_false h1; omega
    subst hkl
    show ofb (l.take l.length) = ofb l
    rw [List.take_length]

end Go.Proofs.YtfafpnacflcgmaaDoor
