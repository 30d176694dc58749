/- Pure proofs: no program in sight. -/
import Derived.Test.YtkogkombalcgeaaVL
set_option linter.unusedVariables false
set_option linter.unusedSimpArgs false
namespace Go.Proofs.Ytkogkombalcgeaa
open Go.Sy Go.RowKit
theorem ptold_ok (s : Sender) (p : List Int) : ptold_vc s p (fun r => r = ptold s p) := by
  intro _ hp
  refine ⟨fun h0 => by simp only [ptold, h0, cond_true], fun h0 => ⟨fun h1 => by simp only [ptold, h0, h1, cond_true, cond_false], fun h1 => ?_⟩⟩
  have hl : s.Data.length ≤ 1000000 := by
    have := (pchecks_len s (by simpa using h0)).1
    omega
  have h3 : p.length = 3 := by simp at h1; omega
  obtain ⟨a, b, c, rfl⟩ : ∃ a b c, p = [a, b, c] := by
    match p, h3 with
    | [a, b, c], _ => exact ⟨a, b, c, rfl⟩
  refine ⟨by simp, fun q hq => ?_⟩
  obtain rfl : a = q := by simpa using hq
  refine ⟨fun h2 => by simp [ptold, h0, h2], fun h2 => ⟨by simp, fun q hq => ?_⟩⟩
  obtain rfl : a = q := by simpa using hq
  refine ⟨fun h3 => by simp only [ptold, h0, h1, cond_true, cond_false]; simp [h2, h3], fun h3 => ⟨fun h4 => by simp only [ptold, h0, h1, cond_true, cond_false]; simp [h2, h3, h4], fun h4 => ⟨hl, fun _ => ⟨by simp, fun q hq => ?_⟩⟩⟩⟩
  obtain rfl : a = q := by simpa using hq
  refine ⟨fun h5 => ⟨by simp, fun q hq => ?_⟩, fun h5 => ⟨fun h6 => ?_, fun h6 => ?_⟩⟩
  · obtain rfl : b = q := by simpa using hq
    simp only [ptold, h0, h1, cond_true, cond_false]; simp [h2, h3, h4, h5]
  · simp only [ptold, h0, h1, cond_true, cond_false]; simp [h2, h3, h4, h5, h6]
  · simp only [ptold, h0, h1, cond_true, cond_false]; simp [h2, h3, h4, h5, h6]
theorem pnext_ok (s : Sender) : pnext_vc s (fun r => r = pnext s) := by
  intro _
  refine ⟨fun h0 => by simp only [pnext, h0, cond_true], fun h0 => ⟨fun h1 => by simp only [pnext, h0, h1, cond_true, cond_false], fun h1 => ?_⟩⟩
  obtain ⟨hl, hR⟩ := pchecks_len s (by simpa using h0)
  unfold SRange at hR
  have e1 : w64 ((s.Data.length : Int) - s.At) = (s.Data.length : Int) - s.At := w64_eq _ (by omega)
  have e2 : w64 (s.At + min 7 ((s.Data.length : Int) - s.At)) = s.At + min 7 ((s.Data.length : Int) - s.At) := w64_eq _ (by omega)
  unfold pnext
  rw [e1, e2]
  refine ⟨by omega, ⟨?_, by simp⟩, by omega, fun _ => ⟨fun h2 => by simp only [h0, h1, h2, cond_true, cond_false], fun h2 => ⟨fun h3 => by simp only [h0, h1, h2, h3, cond_true, cond_false], fun h3 => ⟨fun h4 => by simp only [h0, h1, h2, h3, h4, cond_true, cond_false], fun h4 => by simp only [h0, h1, h2, h3, h4, cond_true, cond_false]⟩⟩⟩⟩
  rw [List.length_drop, List.length_take]
  omega
/-! ### Parts -/
def prest : Nat → Nat → List Int → List (List Int)
  | 0, _, _ => []
  | f + 1, n, l => if l = [] then [] else ((32 + ((n % 16 : Nat) : Int)) :: l.take 7) :: prest f (n + 1) (l.drop 7)
def partsS (l : List Int) : List (List Int) :=
  if l.length ≤ 7 then [(l.length : Int) :: l] else ((16 + ((l.length / 256 : Nat) : Int)) :: ((l.length % 256 : Nat) : Int) :: l.take 6) :: prest l.length 1 (l.drop 6)
def psplitS (l : List Int) : List (List Int) × Int := if l.length = 0 then ([], 7) else if 300 < l.length then ([], 2) else (partsS l, 0)
def ppartsofS (l : List Int) : List (List Int) := partsS l
theorem w8_eq (x : Int) (h : 0 ≤ x ∧ x ≤ 255) : w8 x = x := IntWalk.u8_in x h
theorem or32 : ∀ x : Fin 16, bOr .u8 32 ((x.val : Nat) : Int) = 32 + ((x.val : Nat) : Int) := by decide
theorem or32' (n : Nat) : bOr .u8 32 (((n % 16 : Nat)) : Int) = 32 + ((n % 16 : Nat) : Int) := or32 ⟨n % 16, Nat.mod_lt _ (by omega)⟩
theorem shr8 (n : Nat) (h : n ≤ 300) : bOr .u8 16 (w8 (bShr .i64 (n : Int) 8)) = 16 + ((n / 256 : Nat) : Int) := by
  have e : bShr .i64 (n : Int) 8 = ((n / 256 : Nat) : Int) := by
    unfold bShr
    have e2 : min (8 : Int).toNat IntKind.i64.bits = 8 := by decide
    rw [e2]
    show (n : Int).fdiv 256 = _
    rw [Int.fdiv_eq_ediv_of_nonneg _ (by omega)]
    omega
  rw [e, w8_eq _ (by omega)]
  have : n / 256 = 0 ∨ n / 256 = 1 := by omega
  rcases this with h | h <;> rw [h] <;> decide
theorem prest_len (f n : Nat) (l : List Int) : (prest f n l).length ≤ f := by
  induction f generalizing n l with
  | zero => simp [prest]
  | succ f ih =>
    unfold prest
    split
    · simp
    · have := ih (n + 1) (l.drop 7)
      simp only [List.length_cons]
      omega
theorem psplit_ok (l : List Int) : psplit_vc l (fun r => r = psplitS l) := by
  intro hl
  refine ⟨fun h => ?_, fun h => ⟨fun h1 => ?_, fun h1 => ⟨fun h2 => ?_, fun h2 => ?_⟩⟩⟩
  · have : l.length = 0 := by have := beq_iff_eq.1 h; omega
    simp only [psplitS]; rw [if_pos this]
  · have a1 : ¬ l.length = 0 := by simp at h1; omega
    have a2 : 300 < l.length := by simp at h1; omega
    simp only [psplitS]; rw [if_neg a1, if_pos a2]
  all_goals
    have a1 : ¬ l.length = 0 := by
      intro hc
      rw [hc] at h
      simp at h
    have a2 : ¬ 300 < l.length := by simp at h1; omega
    have hS : psplitS l = (partsS l, 0) := by simp only [psplitS]; rw [if_neg a1, if_neg a2]
    rw [hS]
  · have a3 : l.length ≤ 7 := by simp at h2; omega
    refine ⟨⟨by omega, by simp⟩, fun _ => ?_⟩
    rw [w8_eq _ (by omega)]
    simp only [partsS]
    rw [if_pos a3]
    rfl
  · have a3 : ¬ l.length ≤ 7 := by simp at h2; omega
    have hP : partsS l = ((16 + ((l.length / 256 : Nat) : Int)) :: ((l.length % 256 : Nat) : Int) :: l.take 6) :: prest l.length 1 (l.drop 6) := by simp only [partsS]; rw [if_neg a3]
    rw [hP]
    have e8 : w8 (l.length : Int) = ((l.length % 256 : Nat) : Int) := by
      show IntKind.u8.wrap (l.length : Int) = _
      rw [IntKind.wrap_u8]
      omega
    rw [shr8 _ (by omega), e8]
    have t6 : (6 : Int).toNat = 6 := rfl
    rw [t6]
    refine ⟨by omega, ⟨by rw [List.length_take]; omega, by simp⟩, fun _ => ⟨by omega, ?_⟩⟩
    refine ⟨fun x y z => ∃ n f : Nat, y = n ∧ n ≤ 50 ∧ z.length ≤ f ∧ z.length + 7 * n ≤ 301 ∧ x.length ≤ n ∧ x ++ prest f n z = ((16 + ((l.length / 256 : Nat) : Int)) :: ((l.length % 256 : Nat) : Int) :: l.take 6) :: prest l.length 1 (l.drop 6), fun x y z => z.length, ⟨1, l.length, rfl, by omega, by rw [List.length_drop]; omega, by rw [List.length_drop]; omega, by simp, rfl⟩, ?_⟩
    rintro x _ z ⟨n, f, rfl, hn, hf, h7, hx, he⟩
    refine ⟨fun h3 => ?_, fun h3 => ?_⟩
    · have hz : 0 < z.length := by simp at h3; omega
      obtain ⟨g, rfl⟩ : ∃ g, f = g + 1 := ⟨f - 1, by omega⟩
      have hz2 : z ≠ [] := by rintro rfl; simp at hz
      have ed : (min 7 (z.length : Int)).toNat = min 7 z.length := by omega
      have et : z.take (min 7 z.length) = z.take 7 := by
        rcases Nat.le_total 7 z.length with h | h
        · rw [Nat.min_eq_left h]
        · rw [Nat.min_eq_right h, List.take_of_length_le (Nat.le_refl _), List.take_of_length_le h]
      have edr : z.drop (min 7 z.length) = z.drop 7 := by
        rcases Nat.le_total 7 z.length with h | h
        · rw [Nat.min_eq_left h]
        · rw [Nat.min_eq_right h, List.drop_of_length_le (Nat.le_refl _), List.drop_of_length_le h]
      have em : (n : Int).tmod 16 = ((n % 16 : Nat) : Int) := rfl
      rw [ed, et, edr, em, w8_eq _ (by omega), or32', w64_succ n (by omega)]
      refine ⟨by omega, ⟨by rw [List.length_take]; omega, by simp⟩, fun _ => ⟨by omega, by omega, ⟨n + 1, g, rfl, by omega, by rw [List.length_drop]; omega, by rw [List.length_drop]; omega, by simp; omega, ?_⟩, ?_⟩⟩
      · rw [← he, prest, if_neg hz2, List.append_assoc]
        rfl
      · show (z.drop 7).length < z.length
        rw [List.length_drop]
        omega
    · have hz : z = [] := by
        simp at h3
        exact h3
      subst hz
      have : prest f n [] = [] := by
        cases f with
        | zero => rfl
        | succ f => simp [prest]
      rw [this, List.append_nil] at he
      rw [he]
theorem ppartsof_ok (l : List Int) (hp : l.length ≤ 300) : ppartsof_vc l (fun r => r = ppartsofS l) := by
  intro hl
  unfold ppartsofS
  refine ⟨fun h => ?_, fun h => ?_⟩
  · have a3 : l.length ≤ 7 := by simp at h; omega
    refine ⟨by simp; omega, ?_⟩
    rw [w8_eq _ (by omega)]
    simp only [partsS]
    rw [if_pos a3]
    rfl
  · have a3 : ¬ l.length ≤ 7 := by simp at h; omega
    have hP : partsS l = ((16 + ((l.length / 256 : Nat) : Int)) :: ((l.length % 256 : Nat) : Int) :: l.take 6) :: prest l.length 1 (l.drop 6) := by simp only [partsS]; rw [if_neg a3]
    rw [hP]
    have e1 : (l.length : Int).tdiv 256 = ((l.length / 256 : Nat) : Int) := rfl
    have e2 : (l.length : Int).tmod 256 = ((l.length % 256 : Nat) : Int) := rfl
    have t6 : (6 : Int).toNat = 6 := rfl
    rw [e1, e2, t6, w64_eq ((l.length / 256 : Nat) : Int) (by omega), w64_eq _ (by omega), w8_eq (16 + _) (by omega), w8_eq _ (by omega)]
    refine ⟨by omega, by simp; omega, ?_⟩
    refine ⟨fun x y => ∃ n f : Nat, y = ((n + 1 : Nat) : Int) ∧ n ≤ 50 ∧ 6 + 7 * n ≤ l.length + 7 ∧ l.length ≤ f + 6 + 7 * n ∧ x.length ≤ n + 1 ∧ x ++ prest f (n + 1) (l.drop (6 + 7 * n)) = ((16 + ((l.length / 256 : Nat) : Int)) :: ((l.length % 256 : Nat) : Int) :: l.take 6) :: prest l.length 1 (l.drop 6), fun x y => 60 - y.toNat, ⟨0, l.length, rfl, by omega, by omega, by omega, by simp, rfl⟩, ?_⟩
    rintro x _ ⟨n, f, rfl, hn, hn2, hf, hx, he⟩
    have w1 : w64 (((n + 1 : Nat) : Int) - 1) = n := by rw [w64_eq _ (by omega)]; omega
    have w2 : w64 (6 + w64 (7 * (n : Int))) = ((6 + 7 * n : Nat) : Int) := by rw [w64_eq (7 * (n : Int)) (by omega), w64_eq _ (by omega)]; omega
    have w3 : w64 (6 + w64 (7 * ((n + 1 : Nat) : Int))) = ((6 + 7 * (n + 1) : Nat) : Int) := by rw [w64_eq (7 * ((n + 1 : Nat) : Int)) (by omega), w64_eq _ (by omega)]; omega
    have w4 : ((n + 1 : Nat) : Int).tmod 16 = (((n + 1) % 16 : Nat) : Int) := rfl
    rw [w1, w2, w3, w4, w64_eq (32 + _) (by omega), w8_eq _ (by omega), w64_succ (n + 1) (by omega)]
    refine ⟨fun h3 => ?_, fun h3 => ?_⟩
    · have hlt : 6 + 7 * n < l.length := by simp at h3; omega
      obtain ⟨g, rfl⟩ : ∃ g, f = g + 1 := ⟨f - 1, by omega⟩
      have hz2 : l.drop (6 + 7 * n) ≠ [] := by
        intro hc
        have := congrArg List.length hc
        rw [List.length_drop] at this
        simp at this
        omega
      have em : (min ((6 + 7 * (n + 1) : Nat) : Int) (l.length : Int)).toNat = min (6 + 7 * (n + 1)) l.length := by omega
      have en : (((6 + 7 * n : Nat) : Int)).toNat = 6 + 7 * n := by omega
      have es : (l.take (min (6 + 7 * (n + 1)) l.length)).drop (6 + 7 * n) = (l.drop (6 + 7 * n)).take 7 := by
        rw [List.drop_take]
        rcases Nat.le_total (6 + 7 * (n + 1)) l.length with h | h
        · rw [Nat.min_eq_left h]
          congr 1
          omega
        · rw [Nat.min_eq_right h, List.take_of_length_le (by rw [List.length_drop]; omega), List.take_of_length_le (by rw [List.length_drop]; omega)]
      rw [em, en, es]
      refine ⟨by omega, by simp; omega, by omega, ⟨n + 1, g, rfl, by omega, by omega, by omega, by simp; omega, ?_⟩, ?_⟩
      · rw [← he, prest, if_neg hz2, List.drop_drop, show 6 + 7 * n + 7 = 6 + 7 * (n + 1) by omega, List.append_assoc]
        rfl
      · show 60 - (((n + 1 + 1 : Nat) : Int)).toNat < 60 - (((n + 1 : Nat) : Int)).toNat
        omega
    · have hge : l.length ≤ 6 + 7 * n := by simp at h3; omega
      have hz : l.drop (6 + 7 * n) = [] := List.drop_of_length_le hge
      rw [hz] at he
      have : prest f (n + 1) [] = [] := by
        cases f with
        | zero => rfl
        | succ f => simp [prest]
      rw [this, List.append_nil] at he
      exact he
def peqfS (a b : List (List Int)) (f : List Int → List Int → Bool) : Bool := decide (a.length = b.length) && (a.zip b).all fun p => f p.1 p.2
theorem peqf_ok (a b : List (List Int)) (f : List Int → List Int → Bool) : peqf_vc a b f (fun r => r = peqfS a b f) := by
  intro ha hb
  refine ⟨fun h => ?_, fun h => ?_⟩
  · have : a.length ≠ b.length := by simp at h; omega
    simp [peqfS, this]
  · have hl : a.length = b.length := by simp at h; omega
    have hzl : (a.zip b).length = a.length := by simp [hl]
    refine rg0 ha (fun k => ((a.zip b).take k).all (fun p => f p.1 p.2) = true) (by simp) ?_ ?_
    · intro k q hk hq hj inv mu hn _
      refine ⟨by omega, fun q2 hq2 _ => ?_⟩
      simp only [Int.toNat_natCast] at hq2
      have hz : (a.zip b)[k]? = some (q, q2) := by rw [List.getElem?_zip_eq_some]; exact ⟨hq, hq2⟩
      refine ⟨fun h1 => ?_, fun h1 => hn ?_⟩
      · have : (a.zip b).all (fun p => f p.1 p.2) = false := by
          rw [List.all_eq_false]
          exact ⟨(q, q2), List.mem_of_getElem? hz, by simpa using h1⟩
        simp [peqfS, this]
      · rw [take_next _ k _ hz, List.all_append, hj]
        simpa using h1
    · intro hj
      have : (a.zip b).take a.length = a.zip b := List.take_of_length_le (by omega)
      rw [this] at hj
      simp [peqfS, hl, hj]
theorem peqfS_eq (a b : List (List Int)) : peqfS a b (fun x y => beqS x y) = decide (a = b) := by
  unfold peqfS beqS
  rw [Bool.eq_iff_iff, Bool.and_eq_true, decide_eq_true_eq, decide_eq_true_eq, List.all_eq_true]
  constructor
  · rintro ⟨h1, h2⟩
    refine eq_rows a b h1 fun j hj => ?_
    have hz : (a.zip b)[j]? = some (a[j], b[j]'(by omega)) := by rw [List.getElem?_zip_eq_some]; exact ⟨List.getElem?_eq_getElem _, List.getElem?_eq_getElem _⟩
    have := h2 _ (List.mem_of_getElem? hz)
    simp only [decide_eq_true_eq] at this
    rw [List.getElem?_eq_getElem hj, List.getElem?_eq_getElem (by omega), this]
  · rintro rfl
    refine ⟨rfl, fun p hp => ?_⟩
    obtain ⟨j, hj⟩ := List.mem_iff_getElem?.1 hp
    rw [List.getElem?_zip_eq_some] at hj
    have := hj.1.symm.trans hj.2
    simp only [Option.some.injEq] at this
    simpa using this
def bconcatS (l : List (List Int)) : List Int := l.flatten
theorem flat_take (l : List (List Int)) (k : Nat) (q : List Int) (hq : l[k]? = some q) : (l.take (k + 1)).flatten = (l.take k).flatten ++ q := by
  rw [take_next l k q hq, List.flatten_append]
  simp
theorem flat_len (l : List (List Int)) (h : ∀ x ∈ l, x.length ≤ 1048576) (n : Nat) (hn : l.length ≤ n) : l.flatten.length ≤ n * 1048576 := by
  induction l generalizing n with
  | nil => simp
  | cons x l ih =>
    have h1 := h x (by simp)
    simp only [List.length_cons] at hn
    have h2 := ih (fun y hy => h y (by simp [hy])) (n - 1) (by omega)
    rw [List.flatten_cons, List.length_append]
    have : n * 1048576 = (n - 1) * 1048576 + 1048576 := by omega
    omega
theorem bconcat_ok (u0 : List (List Int)) (h : (∀ l ∈ u0, l.length ≤ 1048576) ∧ u0.length ≤ 2) : bconcat_vc u0 (fun r => r = bconcatS u0) := by
  intro hl
  have hb : ∀ k, (u0.take k).flatten.length ≤ 2 * 1048576 := fun k => flat_len _ (fun x hx => h.1 x (List.mem_of_mem_take hx)) 2 (by rw [List.length_take]; omega)
  refine rg1b hl (fun k (x : Int) => x = (((u0.take k).flatten.length : Nat) : Int)) (by simp) ?_ ?_
  · rintro k _ q hk hq rfl inv mu hn _
    have h1 := hb k
    have h2 := h.1 q (List.mem_of_getElem? hq)
    have e : w64 (((u0.take k).flatten.length : Int) + (q.length : Int)) = (((u0.take (k + 1)).flatten.length : Nat) : Int) := by
      rw [w64_eq _ (by omega), flat_take u0 k q hq, List.length_append]
      omega
    rw [e]
    refine ⟨fun h3 => ?_, fun _ => hn _ rfl⟩
    have h4 := of_decide_eq_true h3
    omega
  · rintro _ rfl
    have h1 := hb u0.length
    refine ⟨by omega, fun _ => ?_⟩
    refine rg1b hl (fun k (x : List Int) => x = (u0.take k).flatten) (by simp [bgrowS]) ?_ ?_
    · rintro k _ q hk hq rfl inv mu hn _
      have h1 := hb k
      have h2 := h.1 q (List.mem_of_getElem? hq)
      exact ⟨by omega, hn _ (flat_take u0 k q hq).symm⟩
    · rintro _ rfl
      rw [List.take_length]
      rfl

end Go.Proofs.Ytkogkombalcgeaa
