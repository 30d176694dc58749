/- What must hold so that each function ends well: pure predicates, made by program. -/
import Derived.Test.YtdndfbamhnchfaaDoorPG
set_option linter.unusedVariables false
set_option linter.unusedSimpArgs false
namespace Go.Proofs.YtdndfbamhnchfaaDoor
open Go.Sy Go.RowKit
def sindex_vc (u0 : List Int) (u1 : Int) (K : Int → Prop) : Prop :=
  (u0.length ≤ 140737488355328 →
    (∃ inv16 : Int → Prop, ∃ mu16 : Int → Nat, inv16 0 ∧
    (∀ (x8 : Int), inv16 x8 →
    (((decide (x8 < (u0.length : Int))) = true →
      ((0 ≤ x8 ∧ x8 < (u0.length : Int)) ∧
      (∀ q51, u0[x8.toNat]? = some q51 →
      (((u1 == q51) = true →
        (K x8)) ∧
      ((u1 == q51) = false →
        (inv16 (w64 (x8 + 1)) ∧ mu16 (w64 (x8 + 1)) < mu16 x8)))))) ∧
    ((decide (x8 < (u0.length : Int))) = false →
      (K (-1)))))))
theorem sindex_mono {u0 : List Int} {u1 : Int} {K K1 : Int → Prop} (hK : ∀ r, K r → K1 r) (h : sindex_vc u0 u1 K) : sindex_vc u0 u1 K1 :=
  fun z0 => (Exists.elim (h z0) fun i1 e1 => Exists.elim e1 fun m1 g1 => ⟨i1, m1, g1.1, fun x8 z1 => ⟨fun c2 => ⟨((g1.2 x8 z1).1 c2).1, fun y4 z4 => ⟨fun c5 => hK _ (((((g1.2 x8 z1).1 c2).2) y4 z4).1 c5), fun c5 => (((((g1.2 x8 z1).1 c2).2) y4 z4).2 c5)⟩⟩, fun c2 => hK _ ((g1.2 x8 z1).2 c2)⟩⟩)

def scontains_vc (u0 : List Int) (u1 : Int) (K : Bool → Prop) : Prop :=
  (u0.length ≤ 140737488355328 →
    (sindex_vc u0 u1 fun r13 =>
    (K (decide (r13 ≥ 0)))))

def iidxf_vc (u0 : List Int) (u1 : Int → Bool) (K : Int → Prop) : Prop :=
  (u0.length ≤ 140737488355328 →
    (∃ inv20 : Int → Prop, ∃ mu20 : Int → Nat, inv20 0 ∧
    (∀ (x8 : Int), inv20 x8 →
    (((decide (x8 < (u0.length : Int))) = true →
      ((0 ≤ x8 ∧ x8 < (u0.length : Int)) ∧
      (∀ q55, u0[x8.toNat]? = some q55 →
      (((u1 q55) = true →
        (K x8)) ∧
      ((u1 q55) = false →
        (inv20 (w64 (x8 + 1)) ∧ mu20 (w64 (x8 + 1)) < mu20 x8)))))) ∧
    ((decide (x8 < (u0.length : Int))) = false →
      (K (-1)))))))
theorem iidxf_mono {u0 : List Int} {u1 : Int → Bool} {K K1 : Int → Prop} (hK : ∀ r, K r → K1 r) (h : iidxf_vc u0 u1 K) : iidxf_vc u0 u1 K1 :=
  fun z0 => (Exists.elim (h z0) fun i1 e1 => Exists.elim e1 fun m1 g1 => ⟨i1, m1, g1.1, fun x8 z1 => ⟨fun c2 => ⟨((g1.2 x8 z1).1 c2).1, fun y4 z4 => ⟨fun c5 => hK _ (((((g1.2 x8 z1).1 c2).2) y4 z4).1 c5), fun c5 => (((((g1.2 x8 z1).1 c2).2) y4 z4).2 c5)⟩⟩, fun c2 => hK _ ((g1.2 x8 z1).2 c2)⟩⟩)

def icontf_vc (u0 : List Int) (u1 : Int → Bool) (K : Bool → Prop) : Prop :=
  (u0.length ≤ 140737488355328 →
    (iidxf_vc u0 u1 fun r17 =>
    (K (decide (r17 ≥ 0)))))

def rplaces_vc (u0 : Signal) (K : (List Int) → Prop) : Prop :=
  ((0 ≤ u0.Size ∧ u0.Size ≤ u0.Size ∧ u0.Size * 8 ≤ 140737488355328) ∧
    (((!u0.Back) = true →
      (∃ inv41 : Int → (List Int) → Prop, ∃ mu41 : Int → (List Int) → Nat, inv41 0 (List.replicate u0.Size.toNat (0 : Int)) ∧
      (∀ (x16 : Int) (zg160 : List Int), inv41 x16 zg160 →
      (((decide (x16 < ((List.replicate u0.Size.toNat (0 : Int)).length : Int))) = true →
        ((0 ≤ x16 ∧ x16 < (zg160.length : Int)) ∧
        (inv41 (w64 (x16 + 1)) (zg160.set x16.toNat (w64 (u0.Start + x16))) ∧ mu41 (w64 (x16 + 1)) (zg160.set x16.toNat (w64 (u0.Start + x16))) < mu41 x16 zg160))) ∧
      ((decide (x16 < ((List.replicate u0.Size.toNat (0 : Int)).length : Int))) = false →
        (K zg160)))))) ∧
    ((!u0.Back) = false →
      (∃ inv131 : Int → (List Int) → Prop, ∃ mu131 : Int → (List Int) → Nat, inv131 0 (List.replicate u0.Size.toNat (0 : Int)) ∧
      (∀ (x39 : Int) (zg160 : List Int), inv131 x39 zg160 →
      (((decide (x39 < ((List.replicate u0.Size.toNat (0 : Int)).length : Int))) = true →
        ((0 ≤ x39 ∧ x39 < (zg160.length : Int)) ∧
        (inv131 (w64 (x39 + 1)) (zg160.set x39.toNat (w64 ((w64 ((w64 ((w64 ((w64 ((w64 ((w64 ((w64 ((w64 ((w64 ((w64 (u0.Start.tdiv 8)) * 8)) + 7)) - (u0.Start.tmod 8))) + u0.Size)) - 1)) - x39)).tdiv 8)) * 8)) + 7)) - ((w64 ((w64 ((w64 ((w64 ((w64 ((w64 ((w64 (u0.Start.tdiv 8)) * 8)) + 7)) - (u0.Start.tmod 8))) + u0.Size)) - 1)) - x39)).tmod 8)))) ∧ mu131 (w64 (x39 + 1)) (zg160.set x39.toNat (w64 ((w64 ((w64 ((w64 ((w64 ((w64 ((w64 ((w64 ((w64 ((w64 ((w64 (u0.Start.tdiv 8)) * 8)) + 7)) - (u0.Start.tmod 8))) + u0.Size)) - 1)) - x39)).tdiv 8)) * 8)) + 7)) - ((w64 ((w64 ((w64 ((w64 ((w64 ((w64 ((w64 (u0.Start.tdiv 8)) * 8)) + 7)) - (u0.Start.tmod 8))) + u0.Size)) - 1)) - x39)).tmod 8)))) < mu131 x39 zg160))) ∧
      ((decide (x39 < ((List.replicate u0.Size.toNat (0 : Int)).length : Int))) = false →
        (K zg160))))))))

def rin_vc (u0 : Int) (u1 : Int) (u2 : Int) (K : Bool → Prop) : Prop :=
  (K ((decide (u0 ≥ u1)) && (decide (u0 ≤ u2))))
def rin (u0 : Int) (u1 : Int) (u2 : Int) : Bool :=
  (decide (u0 ≥ u1)) && (decide (u0 ≤ u2))
theorem rin_ok (u0 : Int) (u1 : Int) (u2 : Int) : rin_vc u0 u1 u2 (fun r => r = rin u0 u1 u2) := (by rfl)

/-! Pure proofs: no program in sight. -/
/-- strings.Trim at a set of ASCII bytes. -/
def trimS (l cs : List UInt8) : List UInt8 := ((l.reverse.dropWhile (cs.contains ·)).reverse).dropWhile (cs.contains ·)
theorem dropWhile_nil {α : Type} (p : α → Bool) (l : List α) : l.dropWhile p = [] ↔ l.all p = true := by
  induction l with
  | nil => simp
  | cons x l ih =>
    rw [List.dropWhile_cons]
    cases h : p x <;> simp [h, ih]
def sidx {α : Type} (p : α → Bool) (l : List α) : Int := match l.findIdx? p with | some i => (i : Int) | none => -1
theorem sidx_at {α : Type} (p : α → Bool) (l : List α) (k : Nat) (q : α) (hq : l[k]? = some q) (hp : p q = true) (hb : ∀ j x, j < k → l[j]? = some x → p x = false) : sidx p l = k := by
  unfold sidx
  have : l.findIdx? p = some k := by
    rw [List.findIdx?_eq_some_iff_getElem]
    obtain ⟨h1, h2⟩ := List.getElem?_eq_some_iff.1 hq
    exact ⟨h1, by rw [h2]; exact hp, fun j hj => by rw [hb j _ hj (List.getElem?_eq_getElem (by omega))]; simp⟩
  rw [this]
theorem sidx_none {α : Type} (p : α → Bool) (l : List α) (hb : ∀ (j : Nat) x, l[j]? = some x → p x = false) : sidx p l = -1 := by
  unfold sidx
  have : l.findIdx? p = none := by
    rw [List.findIdx?_eq_none_iff]
    intro x hx
    obtain ⟨j, hj⟩ := List.mem_iff_getElem?.1 hx
    exact hb j x hj
  rw [this]
theorem sidx_ge {α : Type} (p : α → Bool) (l : List α) : decide (sidx p l ≥ 0) = l.any p := by
  unfold sidx
  cases h : l.findIdx? p with
  | none =>
    have : l.any p = false := by
      rw [List.findIdx?_eq_none_iff] at h
      rw [List.any_eq_false]
      intro x hx
      simp [h x hx]
    rw [this]
    rfl
  | some i =>
    have : l.any p = true := by
      rw [List.findIdx?_eq_some_iff_getElem] at h
      obtain ⟨h1, h2, _⟩ := h
      exact List.any_eq_true.2 ⟨_, List.getElem_mem h1, h2⟩
    rw [this]
    simp
theorem sindex_ok (l : List Int) (x : Int) : sindex_vc l x (fun r => r = sidx (fun q => x == q) l) := by
  intro hl
  refine rg0 hl (fun k => ∀ j y, j < k → l[j]? = some y → (x == y) = false) (fun j y h => absurd h (Nat.not_lt_zero _)) ?_ ?_
  · intro k q hk hq hj inv mu hn
    refine ⟨fun h => (sidx_at _ l k q hq h hj).symm, fun h => hn fun j y hj1 hy => ?_⟩
    rcases Nat.lt_or_ge j k with h1 | h1
    · exact hj j y h1 hy
    · have : j = k := by omega
      subst this
      rw [hq] at hy
      cases hy
      exact h
  · intro hj
    refine (sidx_none _ l fun j y hy => hj j y (List.getElem?_eq_some_iff.1 hy).1 hy).symm
def scontainsS (l : List Int) (x : Int) : Bool := l.any fun q => x == q
theorem scontains_ok (l : List Int) (x : Int) : scontains_vc l x (fun r => r = scontainsS l x) := fun _ => sindex_mono (fun r h => by subst h; exact sidx_ge _ l) (sindex_ok l x)
def plT (s : Signal) (i : Nat) : Int := if s.Back = true then (lin (lin s.Start.toNat + (s.Size.toNat - 1 - i)) : Int) else ((s.Start.toNat + i : Nat) : Int)
theorem places_T (s : Signal) : placesS s = (List.range s.Size.toNat).map (plT s) := by
  unfold placesS plS plN
  apply List.ext_getElem?
  intro k
  by_cases hB : s.Back = true
  · rw [if_pos hB, List.map_reverse, List.map_map]
    by_cases hk : k < s.Size.toNat
    · rw [List.getElem?_reverse (by simpa using hk), List.length_map, List.length_range, List.getElem?_map, List.getElem?_map, List.getElem?_range (by omega), List.getElem?_range hk]
      show some (((fp s.Back s.Start.toNat (s.Size.toNat - 1 - k) : Nat) : Int)) = some (plT s k)
      unfold fp plT
      rw [if_pos hB, if_pos hB]
    · rw [List.getElem?_eq_none (by simp; omega), List.getElem?_eq_none (by simp; omega)]
  · rw [if_neg hB, List.map_map, List.getElem?_map, List.getElem?_map]
    congr 1
    funext i
    show ((fp s.Back s.Start.toNat i : Nat) : Int) = plT s i
    unfold fp plT
    rw [if_neg hB, if_neg hB]
theorem fill_set (T : Nat → Int) (n i : Nat) (h : i < n) : ((List.range i).map T ++ List.replicate (n - i) (0 : Int)).set i (T i) = (List.range (i + 1)).map T ++ List.replicate (n - (i + 1)) 0 := by
  obtain ⟨m, hm⟩ : ∃ m, n - i = m + 1 := ⟨n - i - 1, by omega⟩
  have hm2 : n - (i + 1) = m := by omega
  rw [hm, hm2, List.set_append_right _ _ (by simp), List.length_map, List.length_range, Nat.sub_self, List.replicate_succ, List.set_cons_zero, List.range_succ, List.map_append, List.append_assoc]
  rfl
theorem rplaces_ok (s : Signal) (h : (0 ≤ s.Start ∧ s.Start ≤ 512) ∧ 1 ≤ s.Size ∧ s.Size ≤ 40) : rplaces_vc s (fun r => r = placesS s) := by
  obtain ⟨⟨h1, h2⟩, h3, h4⟩ := h
  rw [places_T]
  have hbase : ((List.range 0).map (plT s) ++ List.replicate (s.Size.toNat - 0) (0 : Int)) = List.replicate s.Size.toNat (0 : Int) := by simp
  refine ⟨by omega, fun hB => ?_, fun hB => ?_⟩
  · have hB : s.Back = false := by simpa using hB
    refine ⟨fun i l => ∃ k : Nat, i = k ∧ k ≤ s.Size.toNat ∧ l = (List.range k).map (plT s) ++ List.replicate (s.Size.toNat - k) (0 : Int), fun i _ => s.Size.toNat - i.toNat, ⟨0, rfl, by omega, hbase.symm⟩, ?_⟩
    rintro _ _ ⟨k, rfl, hk, rfl⟩
    rw [List.length_replicate]
    refine ⟨fun hc => ?_, fun hc => ?_⟩
    · have hc := of_decide_eq_true hc
      have hT : w64 (s.Start + (k : Int)) = plT s k := by
        unfold plT
        rw [if_neg (by rw [hB]; decide), w64_eq _ (by omega)]
        omega
      rw [hT, Int.toNat_natCast, fill_set _ _ _ (by omega), w64_succ k (by omega)]
      exact ⟨by simp; omega, ⟨k + 1, rfl, by omega, rfl⟩, by (try dsimp only); omega⟩
    · have hc := of_decide_eq_false hc
      have : k = s.Size.toNat := by omega
      subst this
      rw [Nat.sub_self, List.replicate_zero, List.append_nil]
  · have hB : s.Back = true := by simpa using hB
    refine ⟨fun i l => ∃ k : Nat, i = k ∧ k ≤ s.Size.toNat ∧ l = (List.range k).map (plT s) ++ List.replicate (s.Size.toNat - k) (0 : Int), fun i _ => s.Size.toNat - i.toNat, ⟨0, rfl, by omega, hbase.symm⟩, ?_⟩
    rintro _ _ ⟨k, rfl, hk, rfl⟩
    rw [List.length_replicate]
    refine ⟨fun hc => ?_, fun hc => ?_⟩
    · have hc := of_decide_eq_true hc
      obtain ⟨st, hst⟩ : ∃ st : Nat, s.Start = st := ⟨s.Start.toNat, by omega⟩
      obtain ⟨n, hn⟩ : ∃ n : Nat, s.Size = n := ⟨s.Size.toNat, by omega⟩
      have e1 : w64 ((st : Int).tdiv 8) = ((st / 8 : Nat) : Int) := by rw [Int.tdiv_eq_ediv_of_nonneg (by omega), w64_eq _ (by omega)]; omega
      have e2 : (st : Int).tmod 8 = ((st % 8 : Nat) : Int) := by rw [Int.tmod_eq_emod_of_nonneg (by omega)]; omega
      have e3 : w64 (((st / 8 : Nat) : Int) * 8) = ((st / 8 * 8 : Nat) : Int) := by rw [w64_eq _ (by omega)]; omega
      have e4 : w64 (((st / 8 * 8 : Nat) : Int) + 7) = ((st / 8 * 8 + 7 : Nat) : Int) := by rw [w64_eq _ (by omega)]; omega
      have e5 : w64 (((st / 8 * 8 + 7 : Nat) : Int) - ((st % 8 : Nat) : Int)) = ((lin st : Nat) : Int) := by unfold lin; rw [w64_eq _ (by omega)]; omega
      have hlin : lin st ≤ 600 := by unfold lin; omega
      have e6 : w64 (((lin st : Nat) : Int) + (n : Int)) = ((lin st + n : Nat) : Int) := by rw [w64_eq _ (by omega)]; omega
      have e7 : w64 (((lin st + n : Nat) : Int) - 1) = ((lin st + n - 1 : Nat) : Int) := by rw [w64_eq _ (by omega)]; omega
      have e8 : w64 (((lin st + n - 1 : Nat) : Int) - (k : Int)) = ((lin st + (n - 1 - k) : Nat) : Int) := by
        have hkn : k < n := by omega
        rw [w64_eq _ (by omega)]
        omega
      have hn' : s.Size.toNat = n := by omega
      have hs' : s.Start.toNat = st := by omega
      have hT : plT s k = ((lin (lin st + (n - 1 - k)) : Nat) : Int) := by unfold plT; rw [if_pos hB, hs', hn']
      have hm : lin st + (n - 1 - k) ≤ 700 := by omega
      rw [hst, hn]
      rw [e1, e2, e3, e4, e5, e6, e7, e8]
      clear e1 e2 e3 e4 e5 e6 e7 e8
      generalize lin st + (n - 1 - k) = m at *
      have f1 : w64 ((m : Int).tdiv 8) = ((m / 8 : Nat) : Int) := by rw [Int.tdiv_eq_ediv_of_nonneg (by omega), w64_eq _ (by omega)]; omega
      have f2 : (m : Int).tmod 8 = ((m % 8 : Nat) : Int) := by rw [Int.tmod_eq_emod_of_nonneg (by omega)]; omega
      have f3 : w64 (((m / 8 : Nat) : Int) * 8) = ((m / 8 * 8 : Nat) : Int) := by rw [w64_eq _ (by omega)]; omega
      have f4 : w64 (((m / 8 * 8 : Nat) : Int) + 7) = ((m / 8 * 8 + 7 : Nat) : Int) := by rw [w64_eq _ (by omega)]; omega
      have f5 : w64 (((m / 8 * 8 + 7 : Nat) : Int) - ((m % 8 : Nat) : Int)) = ((lin m : Nat) : Int) := by unfold lin; rw [w64_eq _ (by omega)]; omega
      rw [f1, f2, f3, f4, f5, ← hT, Int.toNat_natCast, Int.toNat_natCast, fill_set _ _ _ (by omega), w64_succ k (by omega)]
      exact ⟨by simp; omega, ⟨k + 1, rfl, by omega, rfl⟩, by (try dsimp only); omega⟩
    · have hc := of_decide_eq_false hc
      have : k = s.Size.toNat := by omega
      subst this
      rw [Nat.sub_self, List.replicate_zero, List.append_nil]
theorem iidxf_ok (l : List Int) (p : Int → Bool) : iidxf_vc l p (fun r => r = sidx p l) := by
  intro hl
  refine rg0 hl (fun k => ∀ j y, j < k → l[j]? = some y → p y = false) (fun j y h => absurd h (Nat.not_lt_zero _)) ?_ ?_
  · intro k q hk hq hj inv mu hn
    refine ⟨fun h => (sidx_at _ l k q hq h hj).symm, fun h => hn fun j y hj1 hy => ?_⟩
    rcases Nat.lt_or_ge j k with h1 | h1
    · exact hj j y h1 hy
    · have : j = k := by omega
      subst this
      rw [hq] at hy
      cases hy
      exact h
  · intro hj
    refine (sidx_none _ l fun j y hy => hj j y (List.getElem?_eq_some_iff.1 hy).1 hy).symm
def icontfS (l : List Int) (p : Int → Bool) : Bool := l.any p
theorem icontf_ok (l : List Int) (p : Int → Bool) : icontf_vc l p (fun r => r = icontfS l p) := fun _ => iidxf_mono (fun r h => by subst h; exact sidx_ge _ l) (iidxf_ok l p)

end Go.Proofs.YtdndfbamhnchfaaDoor
