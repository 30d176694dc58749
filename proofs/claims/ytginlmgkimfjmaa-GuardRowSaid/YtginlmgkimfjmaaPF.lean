/- Pure proofs: no program in sight. -/
import Derived.Test.YtginlmgkimfjmaaVF
set_option linter.unusedVariables false
set_option linter.unusedSimpArgs false
namespace Go.Proofs.Ytginlmgkimfjmaa
open Go.Sy Go.RowKit
theorem gput_zero (key c : Int) (d : List Int) (h : (gputS key c d).2 = 0) : 0 ≤ key ∧ key ≤ 65535 ∧ 0 ≤ c ∧ c < 15 ∧ 2 ≤ d.length ∧ d.length ≤ 64 ∧ gputS key c d = ((gcnt d c).set 0 (gsumS key (gcnt d c)), 0) := by
  unfold gputS at h ⊢
  split at h
  · cases h
  · rename_i h1
    rw [if_neg h1]
    split at h
    · cases h
    · rename_i h2
      rw [if_neg h2]
      split at h
      · cases h
      · rename_i h3
        rw [if_neg h3]
        exact ⟨by omega, by omega, by omega, by omega, by omega, by omega, rfl⟩
theorem gput_bytes (key c : Int) (d : List Int) (hb : ∀ x ∈ d, 0 ≤ x ∧ x ≤ 255) : ∀ x ∈ (gputS key c d).1, 0 ≤ x ∧ x ≤ 255 := by
  by_cases h : (gputS key c d).2 = 0
  · obtain ⟨h1, h2, h3, h4, h5, h6, h7⟩ := gput_zero key c d h
    rw [h7]
    intro x hx
    rcases List.mem_or_eq_of_mem_set hx with hx | rfl
    · exact (gcnt_bytes d c hb ⟨h3, h4⟩ h5).1 x hx
    · unfold gsumS cbyteS
      have := fold_lt _ (gsum_bytes key (gcnt d c) (gcnt_bytes d c hb ⟨h3, h4⟩ h5).1) 255 (by omega)
      have := xor_lt _ 255 this (by omega)
      omega
  · have : (gputS key c d).1 = [] := by
      unfold gputS at h ⊢
      split
      · rfl
      · rename_i h1
        rw [if_neg h1] at h
        split
        · rfl
        · rename_i h2
          rw [if_neg h2] at h
          split
          · rfl
          · rename_i h3
            rw [if_neg h3] at h
            exact absurd rfl h
    rw [this]
    simp
theorem gsum_set (key : Int) (d : List Int) (x : Int) : gsumS key (d.set 0 x) = gsumS key d := by
  unfold gsumS
  cases d <;> rfl
/-- What is put: its counter, its sum. -/
theorem gout (key c : Int) (d : List Int) (hb : ∀ x ∈ d, 0 ≤ x ∧ x ≤ 255) (h : (gputS key c d).2 = 0) :
    (gputS key c d).1.length = d.length ∧ bAnd .u8 ((gputS key c d).1.getD 1 0) 15 = c ∧ (gputS key c d).1.getD 0 0 = gsumS key (gputS key c d).1 := by
  obtain ⟨h1, h2, h3, h4, h5, h6, h7⟩ := gput_zero key c d h
  obtain ⟨c1, c2, c3⟩ := gcnt_bytes d c hb ⟨h3, h4⟩ h5
  rw [h7]
  dsimp only
  refine ⟨by rw [List.length_set, c2], ?_, ?_⟩
  · have e : ((gcnt d c).set 0 (gsumS key (gcnt d c))).getD 1 0 = (gcnt d c).getD 1 0 := by
      rw [List.getD_eq_getElem?_getD, List.getElem?_set, if_neg (by omega), ← List.getD_eq_getElem?_getD]
    rw [e, c3]
  · rw [gsum_set, List.getD_eq_getElem?_getD, List.getElem?_set]
    simp only [if_true, show 0 < (gcnt d c).length by omega, Option.getD_some]
theorem gsum_diff (key : Int) (d : List Int) (hb : ∀ x ∈ d, 0 ≤ x ∧ x ≤ 255) (j : Nat) (q q' : Int) (hq : d[j + 1]? = some q) (hq' : 0 ≤ q' ∧ q' ≤ 255) (hne : q' ≠ q) : gsumS key (d.set (j + 1) q') ≠ gsumS key d := by
  have hbb := gsum_bytes key d hb
  unfold gsumS
  have e : (d.set (j + 1) q').drop 1 = (d.drop 1).set j q' := by
    cases d with
    | nil => rfl
    | cons a l => rfl
  have e2 : [w8 (bShr .i64 key 8), w8 key] ++ (d.drop 1).set j q' = ([w8 (bShr .i64 key 8), w8 key] ++ d.drop 1).set (j + 2) q' := rfl
  rw [e, e2]
  refine cbyte_diff _ hbb (j + 2) q q' ?_ hq' hne
  show (d.drop 1)[j]? = some q
  rw [List.getElem?_drop, Nat.add_comm]
  exact hq
theorem onebit : ∀ (x : Fin 256) (k : Fin 8), 0 ≤ bXor .u8 ((x.val : Nat) : Int) (bShl .u8 1 ((k.val : Nat) : Int)) ∧ bXor .u8 ((x.val : Nat) : Int) (bShl .u8 1 ((k.val : Nat) : Int)) ≤ 255 ∧ bXor .u8 ((x.val : Nat) : Int) (bShl .u8 1 ((k.val : Nat) : Int)) ≠ ((x.val : Nat) : Int) := by decide +kernel
/-- The guard behind n that were put. -/
def gst (key : Int) (n : Nat) : Guard := if n = 0 then ⟨key, -1, 0, 0⟩ else ⟨key, (((n - 1) % 15 : Nat) : Int), 0, 1⟩
theorem gcheck_of (g : Guard) (h : 0 ≤ g.Key ∧ g.Key ≤ 65535 ∧ -1 ≤ g.Last ∧ g.Last < 15 ∧ 0 ≤ g.Bad ∧ 0 ≤ g.State ∧ g.State ≤ 4) : gcheck g = 0 := by
  have e : (((((((decide (g.Key < 0)) || (decide (g.Key > 65535))) || (decide (g.Last < (-1)))) || (decide (g.Last ≥ 15))) || (decide (g.Bad < 0))) || (decide (g.State < 0))) || (decide (g.State > 4))) = false := by
    simp only [Bool.or_eq_false_iff, decide_eq_false_iff_not]
    omega
  unfold gcheck
  rw [e]
  rfl
theorem gst_ok (key : Int) (n : Nat) (h : 0 ≤ key ∧ key ≤ 65535) : gcheck (gst key n) = 0 ∧ (gst key n).Key = key ∧ (gst key n).Bad = 0 := by
  unfold gst
  split
  · exact ⟨gcheck_of _ (by dsimp only; omega), rfl, rfl⟩
  · exact ⟨gcheck_of _ (by dsimp only; omega), rfl, rfl⟩
theorem gsee_good (key : Int) (n : Nat) (d : List Int) (hk : 0 ≤ key ∧ key ≤ 65535) (hl : 2 ≤ d.length ∧ d.length ≤ 64) (hc : bAnd .u8 (d.getD 1 0) 15 = ((n % 15 : Nat) : Int)) (hs : d.getD 0 0 = gsumS key d) : gseeS (gst key n) d 1 = (gst key (n + 1), 0) := by
  obtain ⟨g1, g2, g3⟩ := gst_ok key n hk
  have e : (gst key n).Last < 0 ∨ (((n % 15 : Nat) : Int) - (gst key n).Last + 15) % 15 = 1 := by
    unfold gst
    split
    · exact .inl (show (-1 : Int) < 0 by decide)
    · refine .inr ?_
      dsimp only
      omega
  unfold gseeS
  rw [if_neg (fun h => h g1), if_neg (by omega), if_neg (by omega), if_neg (by omega), hc, g2, if_neg (by rintro (h | h); omega; exact h hs), if_pos e]
  rfl
theorem gsee_same (key : Int) (n : Nat) (d : List Int) (hk : 0 ≤ key ∧ key ≤ 65535) (hl : 2 ≤ d.length ∧ d.length ≤ 64) (hc : bAnd .u8 (d.getD 1 0) 15 = ((n % 15 : Nat) : Int)) (hs : d.getD 0 0 = gsumS key d) : gseeS (gst key (n + 1)) d 1 = (⟨key, ((n % 15 : Nat) : Int), 0, 3⟩, 0) := by
  obtain ⟨g1, g2, g3⟩ := gst_ok key (n + 1) hk
  have hL : (gst key (n + 1)).Last = ((n % 15 : Nat) : Int) := rfl
  unfold gseeS
  rw [if_neg (fun h => h g1), if_neg (by omega), if_neg (by omega), if_neg (by omega), hc, g2, if_neg (by rintro (h | h); omega; exact h hs), hL, if_neg (by omega), if_pos (by omega), g3]
theorem gsee_broken (key : Int) (n : Nat) (d : List Int) (hk : 0 ≤ key ∧ key ≤ 65535) (hl : 2 ≤ d.length ∧ d.length ≤ 64) (hs : d.getD 0 0 ≠ gsumS key d) : gseeS (gst key (n + 1)) d 14 = (⟨key, ((n % 15 : Nat) : Int), 1, 4⟩, 0) := by
  obtain ⟨g1, g2, g3⟩ := gst_ok key (n + 1) hk
  have hL : (gst key (n + 1)).Last = ((n % 15 : Nat) : Int) := rfl
  unfold gseeS
  rw [if_neg (fun h => h g1), if_neg (by omega), if_neg (by omega), if_neg (by omega), g2, if_pos (.inr hs)]
  unfold gbadS
  rw [g2, g3, hL]
  rfl
/-- One bit that is turned. -/
theorem gturn (key c : Int) (d : List Int) (hb : ∀ x ∈ d, 0 ≤ x ∧ x ≤ 255) (h : (gputS key c d).2 = 0) (j : Nat) (k : Nat) (hk : k < 8) (q : Int) (hq : (gputS key c d).1[j]? = some q) :
    (∀ x ∈ (gputS key c d).1.set j (bXor .u8 q (bShl .u8 1 (k : Int))), 0 ≤ x ∧ x ≤ 255) ∧ ((gputS key c d).1.set j (bXor .u8 q (bShl .u8 1 (k : Int)))).getD 0 0 ≠ gsumS key ((gputS key c d).1.set j (bXor .u8 q (bShl .u8 1 (k : Int)))) := by
  have hbo := gput_bytes key c d hb
  obtain ⟨o1, o2, o3⟩ := gout key c d hb h
  generalize (gputS key c d).1 = out at *
  have hqb := hbo q (List.mem_of_getElem? hq)
  have hx' : 0 ≤ bXor .u8 q (bShl .u8 1 (k : Int)) ∧ bXor .u8 q (bShl .u8 1 (k : Int)) ≤ 255 ∧ bXor .u8 q (bShl .u8 1 (k : Int)) ≠ q := by
    have hx := onebit ⟨q.toNat, by omega⟩ ⟨k, hk⟩
    have e : ((q.toNat : Nat) : Int) = q := by omega
    dsimp only at hx
    rw [e] at hx
    exact hx
  generalize bXor .u8 q (bShl .u8 1 (k : Int)) = q' at *
  obtain ⟨x1, x2, x3⟩ := hx'
  have hj : j < out.length := (List.getElem?_eq_some_iff.1 hq).1
  refine ⟨fun x hx => ?_, ?_⟩
  · rcases List.mem_or_eq_of_mem_set hx with hx | rfl
    · exact hbo x hx
    · exact ⟨x1, x2⟩
  · cases j with
    | zero =>
      rw [gsum_set, ← o3]
      have e : out.getD 0 0 = q := by rw [List.getD_eq_getElem?_getD, hq]; rfl
      rw [e, List.getD_eq_getElem?_getD, List.getElem?_set]
      simp only [if_true, hj, Option.getD_some]
      exact x3
    | succ j =>
      have e : (out.set (j + 1) q').getD 0 0 = out.getD 0 0 := by
        rw [List.getD_eq_getElem?_getD, List.getElem?_set, if_neg (by omega), ← List.getD_eq_getElem?_getD]
      rw [e, o3]
      exact fun hc => gsum_diff key out hbo j q q' hq ⟨x1, x2⟩ x3 hc.symm
theorem row_core (u0 : Int) (u1 : List Int) (u3 : Int) (top : Int) (ht : top ≤ 40) (hl : u1.length ≤ 140737488355328) (hb : ∀ x ∈ u1, 0 ≤ x ∧ x ≤ 255) :
    (∃ inv47 : Int → Guard → Prop, ∃ mu47 : Int → Guard → Nat, inv47 0 (⟨u0, -1, 0, 0⟩ : Guard) ∧
      (∀ (x27 : Int) (yb13 : Guard), inv47 x27 yb13 →
      (((decide (x27 < top)) = true →
        ((∀ x ∈ u1, 0 ≤ x ∧ x ≤ 255) ∧
        (((gputS u0 (x27.tmod 15) u1).1).length ≤ 140737488355328 →
        (((((gputS u0 (x27.tmod 15) u1).2) != 0) = true →
          (true = true)) ∧
        ((((gputS u0 (x27.tmod 15) u1).2) != 0) = false →
          ((∀ x ∈ ((gputS u0 (x27.tmod 15) u1).1), 0 ≤ x ∧ x ≤ 255) ∧
          ((∀ x ∈ ((gputS u0 (x27.tmod 15) u1).1), 0 ≤ x ∧ x ≤ 255) ∧
          (((((((((gseeS yb13 ((gputS u0 (x27.tmod 15) u1).1) 1).2) != 0) || (((gseeS ((gseeS yb13 ((gputS u0 (x27.tmod 15) u1).1) 1).1) ((gputS u0 (x27.tmod 15) u1).1) 1).2) != 0)) || ((((gseeS yb13 ((gputS u0 (x27.tmod 15) u1).1) 1).1).State) != 1)) || ((((gseeS yb13 ((gputS u0 (x27.tmod 15) u1).1) 1).1).Bad) != 0)) || ((((gseeS ((gseeS yb13 ((gputS u0 (x27.tmod 15) u1).1) 1).1) ((gputS u0 (x27.tmod 15) u1).1) 1).1).State) != 3)) = true →
            (false = true)) ∧
          ((((((((gseeS yb13 ((gputS u0 (x27.tmod 15) u1).1) 1).2) != 0) || (((gseeS ((gseeS yb13 ((gputS u0 (x27.tmod 15) u1).1) 1).1) ((gputS u0 (x27.tmod 15) u1).1) 1).2) != 0)) || ((((gseeS yb13 ((gputS u0 (x27.tmod 15) u1).1) 1).1).State) != 1)) || ((((gseeS yb13 ((gputS u0 (x27.tmod 15) u1).1) 1).1).Bad) != 0)) || ((((gseeS ((gseeS yb13 ((gputS u0 (x27.tmod 15) u1).1) 1).1) ((gputS u0 (x27.tmod 15) u1).1) 1).1).State) != 3)) = false →
            ((((decide (u3 ≥ 0)) && (decide (u3 < (w64 (8 * (((gputS u0 (x27.tmod 15) u1).1).length : Int)))))) = true →
              ((0 ≤ w64 (u3.tdiv 8) ∧ w64 (u3.tdiv 8) < (((gputS u0 (x27.tmod 15) u1).1).length : Int)) ∧
              (∀ qd4_0, ((gputS u0 (x27.tmod 15) u1).1)[(w64 (u3.tdiv 8)).toNat]? = some qd4_0 →
              ((0 ≤ u3.tmod 8) ∧
              ((0 ≤ w64 (u3.tdiv 8) ∧ w64 (u3.tdiv 8) < (((gputS u0 (x27.tmod 15) u1).1).length : Int)) ∧
              ((∀ x ∈ (((gputS u0 (x27.tmod 15) u1).1).set (w64 (u3.tdiv 8)).toNat (bXor .u8 qd4_0 (bShl .u8 1 (u3.tmod 8)))), 0 ≤ x ∧ x ≤ 255) ∧
              (((((((gseeS ((gseeS yb13 ((gputS u0 (x27.tmod 15) u1).1) 1).1) (((gputS u0 (x27.tmod 15) u1).1).set (w64 (u3.tdiv 8)).toNat (bXor .u8 qd4_0 (bShl .u8 1 (u3.tmod 8)))) 14).2) != 0) || ((((gseeS ((gseeS yb13 ((gputS u0 (x27.tmod 15) u1).1) 1).1) (((gputS u0 (x27.tmod 15) u1).1).set (w64 (u3.tdiv 8)).toNat (bXor .u8 qd4_0 (bShl .u8 1 (u3.tmod 8)))) 14).1).State) != 4)) || ((((gseeS ((gseeS yb13 ((gputS u0 (x27.tmod 15) u1).1) 1).1) (((gputS u0 (x27.tmod 15) u1).1).set (w64 (u3.tdiv 8)).toNat (bXor .u8 qd4_0 (bShl .u8 1 (u3.tmod 8)))) 14).1).Bad) != 1)) = true →
                (false = true)) ∧
              ((((((gseeS ((gseeS yb13 ((gputS u0 (x27.tmod 15) u1).1) 1).1) (((gputS u0 (x27.tmod 15) u1).1).set (w64 (u3.tdiv 8)).toNat (bXor .u8 qd4_0 (bShl .u8 1 (u3.tmod 8)))) 14).2) != 0) || ((((gseeS ((gseeS yb13 ((gputS u0 (x27.tmod 15) u1).1) 1).1) (((gputS u0 (x27.tmod 15) u1).1).set (w64 (u3.tdiv 8)).toNat (bXor .u8 qd4_0 (bShl .u8 1 (u3.tmod 8)))) 14).1).State) != 4)) || ((((gseeS ((gseeS yb13 ((gputS u0 (x27.tmod 15) u1).1) 1).1) (((gputS u0 (x27.tmod 15) u1).1).set (w64 (u3.tdiv 8)).toNat (bXor .u8 qd4_0 (bShl .u8 1 (u3.tmod 8)))) 14).1).Bad) != 1)) = false →
                (inv47 (w64 (x27 + 1)) ((gseeS yb13 ((gputS u0 (x27.tmod 15) u1).1) 1).1) ∧ mu47 (w64 (x27 + 1)) ((gseeS yb13 ((gputS u0 (x27.tmod 15) u1).1) 1).1) < mu47 x27 yb13))))))))) ∧
            (((decide (u3 ≥ 0)) && (decide (u3 < (w64 (8 * (((gputS u0 (x27.tmod 15) u1).1).length : Int)))))) = false →
              (inv47 (w64 (x27 + 1)) ((gseeS yb13 ((gputS u0 (x27.tmod 15) u1).1) 1).1) ∧ mu47 (w64 (x27 + 1)) ((gseeS yb13 ((gputS u0 (x27.tmod 15) u1).1) 1).1) < mu47 x27 yb13)))))))))))) ∧
      ((decide (x27 < top)) = false →
        (true = true))))) := by
  refine ⟨fun x g => ∃ k : Nat, x = k ∧ k ≤ 40 ∧ g = gst u0 k, fun x _ => 41 - x.toNat, ⟨0, rfl, by omega, rfl⟩, ?_⟩
  rintro _ _ ⟨k, rfl, hk, rfl⟩
  refine ⟨fun h => ⟨hb, fun _ => ⟨fun _ => rfl, fun h0 => ?_⟩⟩, fun _ => rfl⟩
  have hkt : k < 40 := by simp at h; omega
  have em : (k : Int).tmod 15 = ((k % 15 : Nat) : Int) := rfl
  rw [em] at h0 ⊢
  have h0 : (gputS u0 ((k % 15 : Nat) : Int) u1).2 = 0 := by simpa using h0
  have hbo := gput_bytes u0 ((k % 15 : Nat) : Int) u1 hb
  obtain ⟨p1, p2, p3, p4, p5, p6, p7⟩ := gput_zero _ _ _ h0
  obtain ⟨o1, o2, o3⟩ := gout _ _ _ hb h0
  have e1 := gsee_good u0 k _ ⟨p1, p2⟩ (by rw [o1]; exact ⟨p5, p6⟩) o2 o3
  have e2 := gsee_same u0 k _ ⟨p1, p2⟩ (by rw [o1]; exact ⟨p5, p6⟩) o2 o3
  rw [e1]
  dsimp only
  rw [e2]
  have ew : w64 ((k : Int) + 1) = ((k + 1 : Nat) : Int) := w64_succ k (by omega)
  rw [ew]
  have hnext : (∃ k' : Nat, ((k + 1 : Nat) : Int) = k' ∧ k' ≤ 40 ∧ gst u0 (k + 1) = gst u0 k') ∧ 41 - ((k + 1 : Nat) : Int).toNat < 41 - ((k : Nat) : Int).toNat := ⟨⟨k + 1, rfl, by omega, rfl⟩, by omega⟩
  refine ⟨hbo, hbo, fun h1 => ?_, fun _ => ⟨fun h2 => ?_, fun _ => hnext⟩⟩
  · exfalso
    have : (gst u0 (k + 1)).State = 1 ∧ (gst u0 (k + 1)).Bad = 0 := ⟨rfl, rfl⟩
    rw [this.1, this.2] at h1
    simp at h1
  · simp only [Bool.and_eq_true, decide_eq_true_eq] at h2
    have hw8 : w64 (8 * ((gputS u0 ((k % 15 : Nat) : Int) u1).1.length : Int)) = 8 * (u1.length : Int) := by rw [o1, w64_eq _ (by omega)]
    rw [hw8] at h2
    have ed : u3.tdiv 8 = u3 / 8 := Int.tdiv_eq_ediv_of_nonneg h2.1
    have emm : u3.tmod 8 = u3 % 8 := Int.tmod_eq_emod_of_nonneg h2.1
    have ewd : w64 (u3 / 8) = u3 / 8 := w64_eq _ (by omega)
    rw [ed, emm, ewd]
    refine ⟨by omega, fun q hq => ⟨by omega, by omega, ?_⟩⟩
    have hek : u3 % 8 = (((u3 % 8).toNat : Nat) : Int) := by omega
    obtain ⟨t1, t2⟩ := gturn u0 _ u1 hb h0 (u3 / 8).toNat (u3 % 8).toNat (by omega) q hq
    rw [← hek] at t1 t2
    have e3 := gsee_broken u0 k _ ⟨p1, p2⟩ (by rw [List.length_set, o1]; exact ⟨p5, p6⟩) t2
    rw [e3]
    refine ⟨t1, fun h3 => ?_, fun _ => hnext⟩
    simp at h3
theorem LGRow_ok (u0 : Int) (u1 : List Int) (u2 u3 : Int) (k0 : IntKind.i64.min ≤ u0 ∧ u0 ≤ IntKind.i64.max) (k1 : (∀ y0 ∈ u1, IntKind.u8.min ≤ y0 ∧ y0 ≤ IntKind.u8.max) ∧ u1.length * 1 ≤ lim) (k2 : IntKind.i64.min ≤ u2 ∧ u2 ≤ IntKind.i64.max) (k3 : IntKind.i64.min ≤ u3 ∧ u3 ≤ IntKind.i64.max) : LGRow_vc u0 u1 u2 u3 (fun r => r = true) := by
  intro hl
  exact ⟨fun _ => row_core u0 u1 u3 20 (by omega) hl k1.1, fun h => row_core u0 u1 u3 u2 (by simp at h; omega) hl k1.1⟩

end Go.Proofs.Ytginlmgkimfjmaa
