/- What must hold so that each function ends well: pure predicates, made by program. -/
import Derived.Test.YtinegicenfndkaaDoorPGc
set_option linter.unusedVariables false
set_option linter.unusedSimpArgs false
namespace Go.Proofs.YtinegicenfndkaaDoor
open Go.Sy Go.RowKit
def gsee_vc (u0 : Guard) (u1 : List Int) (u2 : Int) (K : (Guard × Int) → Prop) : Prop :=
  (u1.length ≤ 140737488355328 →
    ((((gcheck u0) != 0) = true →
      (K ((⟨0, 0, 0, 0⟩ : Guard), (gcheck u0)))) ∧
    (((gcheck u0) != 0) = false →
      ((((decide (u2 < 1)) || (decide (u2 ≥ 15))) = true →
        (K ((⟨0, 0, 0, 0⟩ : Guard), 3))) ∧
      (((decide (u2 < 1)) || (decide (u2 ≥ 15))) = false →
        (((decide ((u1.length : Int) < 2)) = true →
          (K ((⟨0, 0, 0, 0⟩ : Guard), 7))) ∧
        ((decide ((u1.length : Int) < 2)) = false →
          (((decide ((u1.length : Int) > 64)) = true →
            (K ((⟨0, 0, 0, 0⟩ : Guard), 2))) ∧
          ((decide ((u1.length : Int) > 64)) = false →
            ((0 ≤ (1 : Int) ∧ (1 : Int) < (u1.length : Int)) ∧
            (∀ q116, u1[(1 : Int).toNat]? = some q116 →
            (((decide ((w64 (bAnd .u8 q116 15)) ≥ 15)) = true →
              (∀ r179, (gbadS u0) = r179 →
              (K (r179.1, r179.2.1)))) ∧
            ((decide ((w64 (bAnd .u8 q116 15)) ≥ 15)) = false →
              ((0 ≤ (0 : Int) ∧ (0 : Int) < (u1.length : Int)) ∧
              (∀ q217, u1[(0 : Int).toNat]? = some q217 →
              (((∀ x ∈ u1, 0 ≤ x ∧ x ≤ 255) ∧ 1 ≤ u1.length ∧ u1.length ≤ 1000000) ∧
              (((q217 != (gsumS u0.Key u1)) = true →
                (∀ r258, (gbadS u0) = r258 →
                (K (r258.1, r258.2.1)))) ∧
              ((q217 != (gsumS u0.Key u1)) = false →
                ((((decide (u0.Last < 0)) || (((w64 ((w64 ((w64 (bAnd .u8 q116 15)) - u0.Last)) + 15)).tmod 15) == 1)) = true →
                  (K ((⟨u0.Key, w64 (bAnd .u8 q116 15), 0, 1⟩ : Guard), 0))) ∧
                (((decide (u0.Last < 0)) || (((w64 ((w64 ((w64 (bAnd .u8 q116 15)) - u0.Last)) + 15)).tmod 15) == 1)) = false →
                  (((((w64 ((w64 ((w64 (bAnd .u8 q116 15)) - u0.Last)) + 15)).tmod 15) == 0) = true →
                    (K ((⟨u0.Key, w64 (bAnd .u8 q116 15), u0.Bad, 3⟩ : Guard), 0))) ∧
                  ((((w64 ((w64 ((w64 (bAnd .u8 q116 15)) - u0.Last)) + 15)).tmod 15) == 0) = false →
                    (((decide (((w64 ((w64 ((w64 (bAnd .u8 q116 15)) - u0.Last)) + 15)).tmod 15) ≤ u2)) = true →
                      (K ((⟨u0.Key, w64 (bAnd .u8 q116 15), 0, 2⟩ : Guard), 0))) ∧
                    ((decide (((w64 ((w64 ((w64 (bAnd .u8 q116 15)) - u0.Last)) + 15)).tmod 15) ≤ u2)) = false →
                      (∀ r451, (gbadS (⟨u0.Key, w64 (bAnd .u8 q116 15), u0.Bad, u0.State⟩ : Guard)) = r451 →
                      (K (r451.1, r451.2.1)))))))))))))))))))))))))))

def beq_vc (u0 : List Int) (u1 : List Int) (K : Bool → Prop) : Prop :=
  (u0.length ≤ 140737488355328 →
    (u1.length ≤ 140737488355328 →
    ((((u0.length : Int) != (u1.length : Int)) = true →
      (K false)) ∧
    (((u0.length : Int) != (u1.length : Int)) = false →
      (∃ inv37 : Int → Prop, ∃ mu37 : Int → Nat, inv37 0 ∧
      (∀ (x13 : Int), inv37 x13 →
      (((decide (x13 < (u0.length : Int))) = true →
        ((0 ≤ x13 ∧ x13 < (u0.length : Int)) ∧
        (∀ q74, u0[x13.toNat]? = some q74 →
        ((0 ≤ x13 ∧ x13 < (u1.length : Int)) ∧
        (∀ q96, u1[x13.toNat]? = some q96 →
        (((q74 != q96) = true →
          (K false)) ∧
        ((q74 != q96) = false →
          (inv37 (w64 (x13 + 1)) ∧ mu37 (w64 (x13 + 1)) < mu37 x13)))))))) ∧
      ((decide (x13 < (u0.length : Int))) = false →
        (K true)))))))))

def rofb_vc (u0 : List Int) (K : (List UInt8) → Prop) : Prop :=
  (u0.length ≤ 140737488355328 →
    (∃ inv19 : (List UInt8) → Int → Prop, ∃ mu19 : (List UInt8) → Int → Nat, inv19 [] 0 ∧
    (∀ (x3 : List UInt8) (x9 : Int), inv19 x3 x9 →
    (((decide (x9 < (u0.length : Int))) = true →
      ((0 ≤ x9 ∧ x9 < (u0.length : Int)) ∧
      (∀ q43, u0[x9.toNat]? = some q43 →
      (fint1_vc (w64 q43) fun r59 =>
      ((0 ≤ (w64 (8 - (r59.length : Int))) ∧ (w64 (8 - (r59.length : Int))) ≤ 1000000 ∧ (([48] : List UInt8).length : Int) * (w64 (8 - (r59.length : Int))) ≤ 140737488355328) ∧
      ((((srepS ([48] : List UInt8) (w64 (8 - (r59.length : Int)))).length : Int) + (r59.length : Int) ≤ 9223372036854775807) ∧
      (((x3.length : Int) + (((srepS ([48] : List UInt8) (w64 (8 - (r59.length : Int)))) ++ r59).length : Int) ≤ 9223372036854775807) ∧
      (inv19 (x3 ++ ((srepS ([48] : List UInt8) (w64 (8 - (r59.length : Int)))) ++ r59)) (w64 (x9 + 1)) ∧ mu19 (x3 ++ ((srepS ([48] : List UInt8) (w64 (8 - (r59.length : Int)))) ++ r59)) (w64 (x9 + 1)) < mu19 x3 x9)))))))) ∧
    ((decide (x9 < (u0.length : Int))) = false →
      (K x3))))))

/-! Pure proofs: no program in sight. -/
def gseeS (g : Guard) (d : List Int) (most : Int) : Guard × Int :=
  if gcheck g ≠ 0 then (⟨0, 0, 0, 0⟩, gcheck g) else if most < 1 ∨ 15 ≤ most then (⟨0, 0, 0, 0⟩, 3) else if d.length < 2 then (⟨0, 0, 0, 0⟩, 7) else if 64 < d.length then (⟨0, 0, 0, 0⟩, 2)
  else if 15 ≤ bAnd .u8 (d.getD 1 0) 15 ∨ d.getD 0 0 ≠ gsumS g.Key d then ((gbadS g).1, 0)
  else if g.Last < 0 ∨ (bAnd .u8 (d.getD 1 0) 15 - g.Last + 15) % 15 = 1 then (⟨g.Key, bAnd .u8 (d.getD 1 0) 15, 0, 1⟩, 0)
  else if (bAnd .u8 (d.getD 1 0) 15 - g.Last + 15) % 15 = 0 then (⟨g.Key, bAnd .u8 (d.getD 1 0) 15, g.Bad, 3⟩, 0)
  else if (bAnd .u8 (d.getD 1 0) 15 - g.Last + 15) % 15 ≤ most then (⟨g.Key, bAnd .u8 (d.getD 1 0) 15, 0, 2⟩, 0)
  else ((gbadS ⟨g.Key, bAnd .u8 (d.getD 1 0) 15, g.Bad, g.State⟩).1, 0)
theorem and15 : ∀ x : Fin 256, 0 ≤ bAnd .u8 ((x.val : Nat) : Int) 15 ∧ bAnd .u8 ((x.val : Nat) : Int) 15 ≤ 15 := by decide +kernel
theorem gcheck_zero (g : Guard) (h : gcheck g = 0) : 0 ≤ g.Key ∧ g.Key ≤ 65535 ∧ -1 ≤ g.Last ∧ g.Last < 15 ∧ 0 ≤ g.Bad ∧ 0 ≤ g.State ∧ g.State ≤ 4 := by
  unfold gcheck at h
  cases h1 : ((((((decide (g.Key < 0)) || (decide (g.Key > 65535))) || (decide (g.Last < (-1)))) || (decide (g.Last ≥ 15))) || (decide (g.Bad < 0))) || (decide (g.State < 0))) || (decide (g.State > 4)) with
  | true => rw [h1] at h; cases h
  | false =>
    simp only [Bool.or_eq_false_iff, decide_eq_false_iff_not] at h1
    omega
theorem gsee_ok (g : Guard) (d : List Int) (most : Int) (h : ∀ x ∈ d, 0 ≤ x ∧ x ≤ 255) : gsee_vc g d most (fun r => r = gseeS g d most) := by
  intro hl
  refine ⟨fun h0 => ?_, fun h0 => ⟨fun h1 => ?_, fun h1 => ⟨fun h2 => ?_, fun h2 => ⟨fun h3 => ?_, fun h3 => ?_⟩⟩⟩⟩
  · unfold gseeS
    rw [if_pos (by simpa using h0)]
  all_goals
    have h0 : gcheck g = 0 := by simpa using h0
  · unfold gseeS
    rw [if_neg (fun hc => hc h0), if_pos (by simpa using h1)]
  all_goals
    have h1 : ¬ (most < 1 ∨ 15 ≤ most) := by
      simp only [Bool.or_eq_false_iff, decide_eq_false_iff_not] at h1
      omega
  · unfold gseeS
    rw [if_neg (fun hc => hc h0), if_neg h1, if_pos (by simp at h2; omega)]
  · unfold gseeS
    rw [if_neg (fun hc => hc h0), if_neg h1, if_neg (by simp at h2; omega), if_pos (by simp at h3; omega)]
  · have hl2 : 2 ≤ d.length ∧ d.length ≤ 64 := by simp at h2 h3; omega
    obtain ⟨g1, g2, g3, g4, g5, g6, g7⟩ := gcheck_zero g h0
    unfold gseeS
    rw [if_neg (fun hc => hc h0), if_neg h1, if_neg (by omega), if_neg (by omega)]
    refine ⟨by omega, fun q hq => ?_⟩
    have hq : d[1]? = some q := hq
    have e1 : d.getD 1 0 = q := by rw [List.getD_eq_getElem?_getD, hq]; rfl
    rw [e1]
    have hqb := h q (List.mem_of_getElem? hq)
    have ha : 0 ≤ bAnd .u8 q 15 ∧ bAnd .u8 q 15 ≤ 15 := by
      have := and15 ⟨q.toNat, by omega⟩
      rwa [show ((q.toNat : Nat) : Int) = q by omega] at this
    rw [w64_eq (bAnd .u8 q 15) (by omega)]
    generalize bAnd .u8 q 15 = n at ha ⊢
    refine ⟨fun h4 => ?_, fun h4 => ⟨by omega, fun p hp => ⟨⟨h, by omega, by omega⟩, fun h5 => ?_, fun h5 => ?_⟩⟩⟩
    · rw [if_pos (.inl (by simpa using h4))]
      rintro _ rfl
      rfl
    all_goals
      have hp : d[0]? = some p := hp
      have e0 : d.getD 0 0 = p := by rw [List.getD_eq_getElem?_getD, hp]; rfl
      rw [e0]
    · rw [if_pos (.inr (by simpa using h5))]
      rintro _ rfl
      rfl
    · have h4 : ¬ 15 ≤ n := by simpa using h4
      have h5 : p = gsumS g.Key d := by simpa using h5
      rw [if_neg (by rintro (hc | hc); exact h4 hc; exact hc h5)]
      have e : (w64 (w64 (n - g.Last) + 15)).tmod 15 = (n - g.Last + 15) % 15 := by
        rw [w64_eq (n - g.Last) (by omega), w64_eq _ (by omega), Int.tmod_eq_emod_of_nonneg (by omega)]
      rw [e]
      generalize hs : (n - g.Last + 15) % 15 = s
      refine ⟨fun h6 => ?_, fun h6 => ⟨fun h7 => ?_, fun h7 => ⟨fun h8 => ?_, fun h8 => ?_⟩⟩⟩
      · rw [if_pos (by simpa using h6)]
      all_goals
        have h6 : ¬ (g.Last < 0 ∨ s = 1) := by
          simp only [Bool.or_eq_false_iff, decide_eq_false_iff_not, beq_eq_false_iff_ne] at h6
          omega
        rw [if_neg h6]
      · rw [if_pos (by simpa using h7)]
      · rw [if_neg (by simpa using h7), if_pos (by simpa using h8)]
      · rw [if_neg (by simpa using h7), if_neg (by simpa using h8)]
        rintro _ rfl
        rfl
def beqS (a b : List Int) : Bool := decide (a = b)
theorem list_eq_at {α : Type} {a b : List α} (hl : a.length = b.length) (h : ∀ (k : Nat) (x y : α), a[k]? = some x → b[k]? = some y → x = y) : a = b := by
  apply List.ext_getElem? 
  intro k
  rcases Nat.lt_or_ge k a.length with hk | hk
  · have h1 := List.getElem?_eq_getElem hk
    have h2 := List.getElem?_eq_getElem (l := b) (show k < b.length by omega)
    rw [h1, h2, h k _ _ h1 h2]
  · rw [List.getElem?_eq_none hk, List.getElem?_eq_none (by omega)]
theorem beq_ok (a b : List Int) : beq_vc a b (fun r => r = beqS a b) := by
  intro ha hb
  refine ⟨fun h => ?_, fun h => ?_⟩
  · have h : ¬ (a.length : Int) = (b.length : Int) := by simpa using h
    unfold beqS
    rw [decide_eq_false]
    intro e
    rw [e] at h
    exact h rfl
  · have h : a.length = b.length := by
      have h : (a.length : Int) = (b.length : Int) := by simpa only [bne_eq_false_iff_eq] using h
      omega
    refine ⟨fun i => ∃ k : Nat, i = k ∧ k ≤ a.length ∧ ∀ (j : Nat) (x y : Int), j < k → a[j]? = some x → b[j]? = some y → x = y, fun i => a.length - i.toNat, ⟨0, rfl, by omega, fun j _ _ hj => absurd hj (Nat.not_lt_zero _)⟩, ?_⟩
    rintro _ ⟨k, rfl, hk, hj⟩
    refine ⟨fun h1 => ?_, fun h1 => ?_⟩
    · have hk : k < a.length := by have := of_decide_eq_true h1; omega
      rw [w64_succ k (by omega)]
      refine ⟨by omega, fun q hq => ⟨by omega, fun p hp => ⟨fun h2 => ?_, fun h2 => ?_⟩⟩⟩
      · unfold beqS
        rw [decide_eq_false]
        rintro rfl
        rw [hq] at hp
        cases hp
        simp at h2
      · have h2 : q = p := by simpa using h2
        rw [Int.toNat_natCast] at hq hp
        refine ⟨⟨k + 1, rfl, by omega, fun j x y hj1 hx hy => ?_⟩, by (try dsimp only); omega⟩
        rcases Nat.lt_or_ge j k with hc | hc
        · exact hj j x y hc hx hy
        · have : j = k := by omega
          subst this
          rw [hq] at hx
          rw [hp] at hy
          cases hx; cases hy; exact h2
    · have : k = a.length := by have := of_decide_eq_false h1; omega
      subst this
      unfold beqS
      rw [decide_eq_true]
      exact list_eq_at h fun k x y hx hy => hj k x y (List.getElem?_eq_some_iff.1 hx).1 hx hy
theorem fmt_byte (n : Nat) (h : n < 256) : srepS [48] (8 - ((binS n).length : Int)) ++ binS n = wr 8 n := by
  have hl : Nat.log2 n < 8 := by
    by_cases h0 : n = 0
    · subst h0; decide
    · exact (Nat.log2_lt h0).2 h
  have e : (8 : Int) - ((binS n).length : Int) = ((8 - (Nat.log2 n + 1) : Nat) : Int) := by rw [binS_len]; omega
  rw [e, srep_zero]
  unfold binS
  have hb : n < 2 ^ (Nat.log2 n + 1) := by
    by_cases h0 : n = 0
    · subst h0; decide
    · exact (Nat.log2_lt h0).1 (by omega)
  have := wr_zeros n (Nat.log2 n + 1) hb (8 - (Nat.log2 n + 1))
  rw [← this]
  congr 1
  omega
theorem rofb_ok (l : List Int) (h : (∀ x ∈ l, 0 ≤ x ∧ x ≤ 255) ∧ l.length ≤ 1000) : rofb_vc l (fun r => r = ofb l) := by
  obtain ⟨hb, hl⟩ := h
  intro _
  refine ⟨fun x i => ∃ k : Nat, i = k ∧ k ≤ l.length ∧ x = ofb (l.take k), fun _ i => l.length - i.toNat, ⟨0, rfl, by omega, by simp [ofb]⟩, ?_⟩
  rintro _ _ ⟨k, rfl, hk, rfl⟩
  refine ⟨fun h1 => ?_, fun h1 => ?_⟩
  · have hkl : k < l.length := by have := of_decide_eq_true h1; omega
    refine ⟨by omega, fun q hq => ?_⟩
    rw [Int.toNat_natCast] at hq
    have hqb := hb q (List.mem_of_getElem? hq)
    rw [w64_eq q (by omega)]
    refine ⟨⟨by omega, by omega⟩, ?_⟩
    have hf : fintS q = binS q.toNat := rfl
    have hlen : (binS q.toNat).length ≤ 8 := by
      rw [binS_len]
      by_cases h0 : q.toNat = 0
      · rw [h0]; decide
      · have := (Nat.log2_lt h0).2 (show q.toNat < 2 ^ 8 by omega)
        omega
    rw [hf]
    dsimp only
    rw [w64_eq (8 - ((binS q.toNat).length : Int)) (by omega), fmt_byte q.toNat (by omega)]
    have hol := ofb_length (l.take k)
    rw [List.length_take] at hol
    have hsl : (srepS [48] (8 - ((binS q.toNat).length : Int))).length ≤ 8 := by
      have := congrArg List.length (fmt_byte q.toNat (by omega))
      rw [List.length_append, wr_length] at this
      omega
    refine ⟨⟨by omega, by omega, by simp only [List.length_cons, List.length_nil]; omega⟩, by omega, by rw [wr_length]; omega, ?_⟩
    rw [w64_succ k (by omega)]
    refine ⟨⟨k + 1, rfl, by omega, ?_⟩, by (try dsimp only); omega⟩
    rw [take_next l k q hq, ofb_append]
    show _ = ofb (l.take k) ++ (wr 8 q.toNat ++ [])
    rw [List.append_nil]
  · have hkl : k = l.length := by have := of_decide_eq_false h1; omega
    subst hkl
    show ofb (l.take l.length) = ofb l
    rw [List.take_length]

end Go.Proofs.YtinegicenfndkaaDoor
