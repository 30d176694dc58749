/- What must hold so that each function ends well: pure predicates, made by program. -/
import Derived.Test.YtginlmgkimfjmaaPDn
set_option linter.unusedVariables false
set_option linter.unusedSimpArgs false
namespace Go.Proofs.Ytginlmgkimfjmaa
open Go.Sy Go.RowKit
def sstab_vc (u0 : List Job) (u1 : Int) (u2 : Job → Job → Int) (K : (List Job) → Prop) : Prop :=
  (u0.length ≤ 140737488355328 →
    (∃ inv19 : Int → Int → (List Job) → Prop, ∃ mu19 : Int → Int → (List Job) → Nat, inv19 0 20 u0 ∧
    (∀ (x7 : Int) (x8 : Int) (zao1 : List Job), inv19 x7 x8 zao1 →
    (((decide (x8 ≤ u1)) = true →
      ((sinsPre zao1 x7 x8 u2) ∧
      ((sinsS zao1 x7 x8 u2).length ≤ 140737488355328 →
      (inv19 x8 (w64 (x8 + 20)) (sinsS zao1 x7 x8 u2) ∧ mu19 x8 (w64 (x8 + 20)) (sinsS zao1 x7 x8 u2) < mu19 x7 x8 zao1)))) ∧
    ((decide (x8 ≤ u1)) = false →
      ((sinsPre zao1 x7 u1 u2) ∧
      ((sinsS zao1 x7 u1 u2).length ≤ 140737488355328 →
      (∃ inv99 : Int → (List Job) → Prop, ∃ mu99 : Int → (List Job) → Nat, inv99 20 (sinsS zao1 x7 u1 u2) ∧
      (∀ (x6 : Int) (zao1v : List Job), inv99 x6 zao1v →
      (((decide (x6 < u1)) = true →
        (∃ inv132 : Int → Int → (List Job) → Prop, ∃ mu132 : Int → Int → (List Job) → Nat, inv132 0 (w64 (2 * x6)) zao1v ∧
        (∀ (x7v : Int) (x8v : Int) (zao1vv : List Job), inv132 x7v x8v zao1vv →
        (((decide (x8v ≤ u1)) = true →
          ((symPre zao1vv x7v (w64 (x7v + x6)) x8v u2) ∧
          ((segC2 zao1vv x7v (w64 (x7v + x6)) x8v u2).length ≤ 140737488355328 →
          (inv132 x8v (w64 (x8v + (w64 (2 * x6)))) (segC2 zao1vv x7v (w64 (x7v + x6)) x8v u2) ∧ mu132 x8v (w64 (x8v + (w64 (2 * x6)))) (segC2 zao1vv x7v (w64 (x7v + x6)) x8v u2) < mu132 x7v x8v zao1vv)))) ∧
        ((decide (x8v ≤ u1)) = false →
          (((decide ((w64 (x7v + x6)) < u1)) = true →
            ((symPre zao1vv x7v (w64 (x7v + x6)) u1 u2) ∧
            ((segC2 zao1vv x7v (w64 (x7v + x6)) u1 u2).length ≤ 140737488355328 →
            (inv99 (w64 (x6 * 2)) (segC2 zao1vv x7v (w64 (x7v + x6)) u1 u2) ∧ mu99 (w64 (x6 * 2)) (segC2 zao1vv x7v (w64 (x7v + x6)) u1 u2) < mu99 x6 zao1v)))) ∧
          ((decide ((w64 (x7v + x6)) < u1)) = false →
            (inv99 (w64 (x6 * 2)) zao1vv ∧ mu99 (w64 (x6 * 2)) zao1vv < mu99 x6 zao1v)))))))) ∧
      ((decide (x6 < u1)) = false →
        ((zao1v.length = u0.length) ∧
        (K zao1v)))))))))))))

/-! Pure proofs: no program in sight. -/
def BlkS {α : Type} (key : α → Int) (B : Nat) (z : List α) : Prop := ∀ i, Srt key ((z.drop (i * B)).take B)
section blk
variable {α : Type} {key : α → Int} {B : Nat} {x r z z1 z2 : List α}
theorem blk_cons (hx : x.length = B) : BlkS key B (x ++ r) ↔ Srt key x ∧ BlkS key B r := by
  have e : ∀ i, (x ++ r).drop ((i + 1) * B) = r.drop (i * B) := fun i => by
    rw [List.drop_append]
    have h1 : x.drop ((i + 1) * B) = [] := List.drop_of_length_le (by rw [Nat.add_mul]; omega)
    have h2 : (i + 1) * B - x.length = i * B := by rw [Nat.add_mul]; omega
    rw [h1, h2]; rfl
  have e0 : ((x ++ r).drop (0 * B)).take B = x := by rw [Nat.zero_mul, List.drop_zero, List.take_left' hx]
  constructor
  · intro h
    refine ⟨by have := h 0; rw [e0] at this; exact this, fun i => ?_⟩
    have := h (i + 1)
    rw [e] at this
    exact this
  · rintro ⟨h1, h2⟩ i
    cases i with
    | zero => rw [e0]; exact h1
    | succ i => rw [e]; exact h2 i
theorem blk_app : ∀ (k : Nat) (z1 : List α), z1.length = k * B → BlkS key B z1 → BlkS key B z2 → BlkS key B (z1 ++ z2) := by
  intro k
  induction k with
  | zero =>
    intro z1 h _ h2
    have : z1 = [] := List.eq_nil_of_length_eq_zero (by omega)
    rw [this]; exact h2
  | succ k ih =>
    intro z1 h h1 h2
    obtain ⟨x, y, rfl, hx⟩ : ∃ x y, z1 = x ++ y ∧ x.length = B := ⟨z1.take B, z1.drop B, (List.take_append_drop _ _).symm, by rw [Nat.add_mul] at h; simp; omega⟩
    rw [blk_cons hx] at h1
    rw [List.append_assoc, blk_cons hx]
    exact ⟨h1.1, ih y (by rw [Nat.add_mul] at h; simp at h; omega) h1.2 h2⟩
theorem blk_short (hz : z.length ≤ B) (h : Srt key z) : BlkS key B z := by
  intro i
  cases i with
  | zero => rw [Nat.zero_mul, List.drop_zero, List.take_of_length_le hz]; exact h
  | succ i => rw [List.drop_of_length_le (by rw [Nat.add_mul]; omega)]; simp [Srt]
theorem blk_one (hz : z.length ≤ B) (h : BlkS key B z) : Srt key z := by
  have := h 0
  rw [Nat.zero_mul, List.drop_zero, List.take_of_length_le hz] at this
  exact this
end blk
theorem sstab_ok (l : List Job) (n : Int) (cmp : Job → Job → Int) (key : Job → Int) (hn : n = l.length) (hk : Keyed cmp key l) (hs : l.length ≤ 1000000) : sstab_vc l n cmp (fun r => r = sortC cmp l) := by
  intro _
  have hsub : ∀ {z x : List Job}, Fe key z l → (∀ c ∈ x, c ∈ z) → Keyed cmp key x := fun h1 h2 => hk.sub fun c hc => (h1.mem c).1 (h2 c hc)
  refine ⟨fun a b z => ∃ (k : Nat) (z1 z2 : List Job), a = 20 * k ∧ b = 20 * k + 20 ∧ z = z1 ++ z2 ∧ z1.length = k * 20 ∧ BlkS key 20 z1 ∧ Fe key z l, fun a _ _ => (n + 20 - a).toNat, ⟨0, [], l, rfl, rfl, rfl, rfl, fun i => by simp [Srt], Fe.refl l⟩, ?_⟩
  rintro _ _ _ ⟨k, z1, z2, rfl, rfl, rfl, h1, h2, h3⟩
  have hzl : z1.length + z2.length = l.length := by rw [← h3.len]; simp
  refine ⟨fun h4 => ?_, fun h4 => ?_⟩
  · have h4 := of_decide_eq_true h4
    obtain ⟨x, q, rfl, hx⟩ : ∃ x q, z2 = x ++ q ∧ x.length = 20 := ⟨z2.take 20, z2.drop 20, (List.take_append_drop _ _).symm, by simp; omega⟩
    have hkx : Keyed cmp key x := hsub h3 fun c hc => by simp [hc]
    have e1 : (20 * (k : Int)) = z1.length := by omega
    have hpre : sinsPre (z1 ++ (x ++ q)) (20 * (k : Int)) (20 * (k : Int) + 20) cmp := ⟨key, z1, x, q, rfl, e1, by omega, hkx, by simp at hzl ⊢; omega⟩
    refine ⟨hpre, ?_⟩
    obtain ⟨k1, k2⟩ := sortC_spec hkx
    have e2 : sinsS (z1 ++ (x ++ q)) (20 * (k : Int)) (20 * (k : Int) + 20) cmp = z1 ++ (sortC cmp x ++ q) := by
      unfold sinsS
      rw [segC_eq (y := sortC cmp x) e1 (by omega) hkx k1 k2]
    rw [e2, w64_eq _ (by simp at hzl; omega)]
    intro _
    refine ⟨⟨k + 1, z1 ++ sortC cmp x, q, by omega, by omega, by simp, by simp [sortC_len]; omega, blk_app k z1 h1 h2 (blk_short (by rw [sortC_len]; omega) k1), ?_⟩, by (try dsimp only); omega⟩
    exact ((Fe.refl z1).app (k2.app (Fe.refl q))).trans h3
  · have h4 := of_decide_eq_false h4
    by_cases h5 : (20 * (k : Int)) ≤ n
    · have hkx : Keyed cmp key z2 := hsub h3 fun c hc => by simp [hc]
      have e1 : (20 * (k : Int)) = z1.length := by omega
      have hpre : sinsPre (z1 ++ z2) (20 * (k : Int)) n cmp := ⟨key, z1, z2, [], by simp, e1, by omega, hkx, by simp; omega⟩
      refine ⟨hpre, ?_⟩
      obtain ⟨k1, k2⟩ := sortC_spec hkx
      have e2 : sinsS (z1 ++ z2) (20 * (k : Int)) n cmp = z1 ++ sortC cmp z2 := by
        have := (segC_eq (cmp := cmp) (p := z1) (x := z2) (q := []) (y := sortC cmp z2) e1 (show n = _ by omega) hkx k1 k2)
        unfold sinsS
        simpa using this
      rw [e2]
      intro _
      refine ⟨fun b z => ∃ B : Nat, b = B ∧ 20 ≤ B ∧ BlkS key B z ∧ Fe key z l, fun b _ => (n - b).toNat, ⟨20, rfl, by omega, blk_app k z1 h1 h2 (blk_short (by rw [sortC_len]; omega) k1), ((Fe.refl z1).app k2).trans h3⟩, ?_⟩
      rintro _ z ⟨B, rfl, hB, h6, h7⟩
      have hz := h7.len
      refine ⟨fun h8 => ?_, fun h8 => ?_⟩
      · have h8 := of_decide_eq_true h8
        rw [w64_eq (2 * (B : Int)) (by omega), w64_eq ((B : Int) * 2) (by omega)]
        refine ⟨fun a b w => ∃ (j : Nat) (w1 w2 : List Job), a = 2 * B * j ∧ b = 2 * B * j + 2 * B ∧ w = w1 ++ w2 ∧ w1.length = j * (2 * B) ∧ BlkS key (2 * B) w1 ∧ BlkS key B w2 ∧ Fe key w l, fun a _ _ => (n + 2 * B - a).toNat, ⟨0, [], z, by simp, by simp, rfl, by simp, fun i => by simp [Srt], h6, h7⟩, ?_⟩
        rintro _ _ _ ⟨j, w1, w2, rfl, rfl, rfl, g1, g2, g3, g4⟩
        have hwl : w1.length + w2.length = l.length := by rw [← g4.len]; simp
        have ej : (2 * (B : Int) * j) = w1.length := by rw [g1]; push_cast; rw [Int.mul_comm]
        rw [ej]
        have hb9 : (B : Int) ≤ 1000000 := by omega
        refine ⟨fun h9 => ?_, fun h9 => ?_⟩
        · have h9 := of_decide_eq_true h9
          obtain ⟨x, r, rfl, hx⟩ : ∃ x r, w2 = x ++ r ∧ x.length = B := ⟨w2.take B, w2.drop B, (List.take_append_drop _ _).symm, by simp; omega⟩
          obtain ⟨y, q, rfl, hy⟩ : ∃ y q, r = y ++ q ∧ y.length = B := ⟨r.take B, r.drop B, (List.take_append_drop _ _).symm, by simp at hwl ⊢; omega⟩
          rw [blk_cons hx, blk_cons hy] at g3
          have hkx : Keyed cmp key (x ++ y) := hsub g4 fun c hc => by rcases List.mem_append.1 hc with h | h <;> simp [h]
          simp at hwl
          rw [w64_eq ((w1.length : Int) + B) (by omega), w64_eq ((w1.length : Int) + 2 * B + 2 * B) (by omega)]
          have hpre : symPre (w1 ++ (x ++ (y ++ q))) (w1.length : Int) ((w1.length : Int) + B) ((w1.length : Int) + 2 * B) cmp := ⟨key, w1, x, y, q, rfl, rfl, by omega, by omega, List.length_pos_iff.1 (by omega), List.length_pos_iff.1 (by omega), hkx, g3.1, g3.2.1, by simp; omega⟩
          refine ⟨hpre, ?_⟩
          obtain ⟨k1, k2⟩ := sortC_spec hkx
          have e3 : segC2 (w1 ++ (x ++ (y ++ q))) (w1.length : Int) ((w1.length : Int) + B) ((w1.length : Int) + 2 * B) cmp = w1 ++ (sortC cmp (x ++ y) ++ q) := by
            have := (segC_eq (cmp := cmp) (p := w1) (x := x ++ y) (q := q) (y := sortC cmp (x ++ y)) rfl (show (w1.length : Int) + 2 * B = _ by simp; omega) hkx k1 k2)
            unfold segC2
            rw [← this]
            simp
          rw [e3]
          intro _
          refine ⟨⟨j + 1, w1 ++ sortC cmp (x ++ y), q, by rw [← ej]; push_cast; rw [Int.mul_add]; omega, by rw [← ej]; push_cast; rw [Int.mul_add]; omega, by simp, by rw [List.length_append, sortC_len, g1, Nat.add_mul]; simp; omega, blk_app j w1 g1 g2 (blk_short (by rw [sortC_len]; simp; omega) k1), g3.2.2, ?_⟩, by (try dsimp only); omega⟩
          refine Fe.trans ?_ g4
          have := (Fe.refl (key := key) w1).app (k2.app (Fe.refl q))
          simpa using this
        · have h9 := of_decide_eq_false h9
          rw [w64_eq ((w1.length : Int) + B) (by omega)]
          refine ⟨fun h10 => ?_, fun h10 => ?_⟩
          · have h10 := of_decide_eq_true h10
            obtain ⟨x, y, rfl, hx⟩ : ∃ x r, w2 = x ++ r ∧ x.length = B := ⟨w2.take B, w2.drop B, (List.take_append_drop _ _).symm, by simp; omega⟩
            rw [blk_cons hx] at g3
            have hkx : Keyed cmp key (x ++ y) := hsub g4 fun c hc => by simpa using .inr (by simpa using hc)
            simp at hwl
            have hpre : symPre (w1 ++ (x ++ y)) (w1.length : Int) ((w1.length : Int) + B) n cmp := ⟨key, w1, x, y, [], by simp, rfl, by omega, by omega, List.length_pos_iff.1 (by omega), List.length_pos_iff.1 (by omega), hkx, g3.1, blk_one (by omega) g3.2, by simp; omega⟩
            refine ⟨hpre, ?_⟩
            obtain ⟨k1, k2⟩ := sortC_spec hkx
            have e3 : segC2 (w1 ++ (x ++ y)) (w1.length : Int) ((w1.length : Int) + B) n cmp = w1 ++ sortC cmp (x ++ y) := by
              have := (segC_eq (cmp := cmp) (p := w1) (x := x ++ y) (q := []) (y := sortC cmp (x ++ y)) rfl (show n = _ by simp; omega) hkx k1 k2)
              unfold segC2
              simpa using this
            rw [e3]
            intro _
            refine ⟨⟨B * 2, by push_cast; rfl, by omega, ?_, ?_⟩, by (try dsimp only); omega⟩
            · rw [Nat.mul_comm]; exact blk_app j w1 g1 g2 (blk_short (by rw [sortC_len]; simp; omega) k1)
            · exact ((Fe.refl (key := key) w1).app k2).trans g4
          · have h10 := of_decide_eq_false h10
            refine ⟨⟨B * 2, by push_cast; rfl, by omega, ?_, g4⟩, by (try dsimp only); omega⟩
            rw [Nat.mul_comm]; exact blk_app j w1 g1 g2 (blk_short (by omega) (blk_one (by omega) g3))
      · have h8 := of_decide_eq_false h8
        exact ⟨hz, sortC_eq hk (blk_one (by omega) h6) h7⟩
    · exfalso
      omega

end Go.Proofs.Ytginlmgkimfjmaa
