/- Pure proofs: no program in sight. -/
import Derived.Test.YtkogkombalcgeaaVA
set_option linter.unusedVariables false
set_option linter.unusedSimpArgs false
namespace Go.Proofs.Ytkogkombalcgeaa
open Go.Sy Go.RowKit
/-- A filter's numbers are right. -/
def fok (f : Filter) : Bool := decide (0 ≤ f.Want) && decide (f.Want ≤ ftop f.Long) && decide (0 ≤ f.Mask) && decide (f.Mask ≤ ftop f.Long)
def fcheckS (l : List Filter) : Int := if 16 < l.length then 2 else if l.all fok then 0 else 3
theorem all_step {α : Type} (l : List α) (p : α → Bool) (k : Nat) (q : α) (hk : k < l.length) (hq : l[k]? = some q) : (l.drop k).all p = (p q && (l.drop (k + 1)).all p) := by
  have hd : l.drop k = q :: l.drop (k + 1) := by
    rw [List.drop_eq_getElem_cons hk]
    rw [List.getElem?_eq_getElem hk] at hq
    simp at hq
    rw [hq]
  rw [hd]
  rfl
theorem fcheck_ok (l : List Filter) : fcheck_vc l (fun r => r = fcheckS l) := by
  intro hl
  refine ⟨fun h => ?_, fun h => ?_⟩
  · have : 16 < l.length := by simp at h; omega
    simp [fcheckS, this]
  · have hn : ¬ 16 < l.length := by simp at h; omega
    refine rg0 hl (fun k => (l.drop k).all fok = l.all fok) (by simp) ?_ ?_
    · intro k q hk hq hj inv mu hn2
      rw [all_step l fok k q hk hq] at hj
      refine ⟨fun h1 => ?_, fun h1 => hn2 ?_⟩
      · have : fok q = false := by
          unfold fok
          simp at h1 ⊢
          omega
        rw [this] at hj
        simp [fcheckS, hn, ← hj]
      · have : fok q = true := by
          unfold fok
          simp at h1 ⊢
          omega
        rw [this] at hj
        simpa using hj
    · intro hj
      simp only [List.drop_length, List.all_nil] at hj
      simp [fcheckS, hn, ← hj]
theorem rcheckf_ok (l : List Filter) : rcheckf_vc l (fun r => r = fcheckS l) := by
  intro hl
  refine ⟨fun h => ?_, fun h => ?_⟩
  · have : 16 < l.length := by simp at h; omega
    simp [fcheckS, this]
  · have hn : ¬ 16 < l.length := by simp at h; omega
    refine rg0 hl (fun k => (l.drop k).all fok = l.all fok) (by simp) ?_ ?_
    · intro k q hk hq hj inv mu hn2
      rw [all_step l fok k q hk hq] at hj
      refine ⟨fun hq1 => ?_, fun hq1 => ?_⟩
      all_goals
        refine ⟨fun h1 => ?_, fun h1 => hn2 ?_⟩
        · have : fok q = false := by
            unfold fok ftop
            simp [hq1] at h1 ⊢
            omega
          rw [this] at hj
          simp [fcheckS, hn, ← hj]
        · have : fok q = true := by
            unfold fok ftop
            simp [hq1] at h1 ⊢
            omega
          rw [this] at hj
          simpa using hj
    · intro hj
      simp only [List.drop_length, List.all_nil] at hj
      simp [fcheckS, hn, ← hj]
/-- The first place at which p holds. -/
def sidx {α : Type} (p : α → Bool) (l : List α) : Int := match l.findIdx? p with | some i => (i : Int) | none => -1
theorem sidx_at {α : Type} (p : α → Bool) (l : List α) (k : Nat) (q : α) (hq : l[k]? = some q) (hp : p q = true) (hb : ∀ j x, j < k → l[j]? = some x → p x = false) : sidx p l = k := by
  unfold sidx
  have : l.findIdx? p = some k := by
    rw [List.findIdx?_eq_some_iff_getElem]
    obtain ⟨h1, h2⟩ := List.getElem?_eq_some_iff.1 hq
    exact ⟨h1, by rw [h2]; exact hp, fun j hj => by rw [hb j _ hj (List.getElem?_eq_getElem (by omega))]; simp⟩
  rw [this]
theorem sidx_none {α : Type} (p : α → Bool) (l : List α) (hb : ∀ (j : Nat) x, l[j]? = some x → p x = false) : sidx p l = -1 := by
  unfold sidx
  have : l.findIdx? p = none := by
    rw [List.findIdx?_eq_none_iff]
    intro x hx
    obtain ⟨j, hj⟩ := List.mem_iff_getElem?.1 hx
    exact hb j x hj
  rw [this]
theorem sidx_ge {α : Type} (p : α → Bool) (l : List α) : decide (sidx p l ≥ 0) = l.any p := by
  unfold sidx
  cases h : l.findIdx? p with
  | none =>
    have : l.any p = false := by
      rw [List.findIdx?_eq_none_iff] at h
      rw [List.any_eq_false]
      intro x hx
      simp [h x hx]
    rw [this]
    rfl
  | some i =>
    have : l.any p = true := by
      rw [List.findIdx?_eq_some_iff_getElem] at h
      obtain ⟨h1, h2, _⟩ := h
      exact List.any_eq_true.2 ⟨_, List.getElem_mem h1, h2⟩
    rw [this]
    simp
theorem sindex_ok (l : List Int) (x : Int) : sindex_vc l x (fun r => r = sidx (fun q => x == q) l) := by
  intro hl
  refine rg0 hl (fun k => ∀ j y, j < k → l[j]? = some y → (x == y) = false) (fun j y h => absurd h (Nat.not_lt_zero _)) ?_ ?_
  · intro k q hk hq hj inv mu hn
    refine ⟨fun h => (sidx_at _ l k q hq h hj).symm, fun h => hn fun j y hj1 hy => ?_⟩
    rcases Nat.lt_or_ge j k with h1 | h1
    · exact hj j y h1 hy
    · have : j = k := by omega
      subst this
      rw [hq] at hy
      cases hy
      exact h
  · intro hj
    refine (sidx_none _ l fun j y hy => hj j y (List.getElem?_eq_some_iff.1 hy).1 hy).symm
def scontainsS (l : List Int) (x : Int) : Bool := l.any fun q => x == q
theorem scontains_ok (l : List Int) (x : Int) : scontains_vc l x (fun r => r = scontainsS l x) := fun _ => sindex_mono (fun r h => by subst h; exact sidx_ge _ l) (sindex_ok l x)
theorem findexf_ok (l : List Filter) (p : Filter → Bool) : findexf_vc l p (fun r => r = sidx p l) := by
  intro hl
  refine rg0 hl (fun k => ∀ j y, j < k → l[j]? = some y → p y = false) (fun j y h => absurd h (Nat.not_lt_zero _)) ?_ ?_
  · intro k q hk hq hj inv mu hn
    refine ⟨fun h => (sidx_at _ l k q hq h hj).symm, fun h => hn fun j y hj1 hy => ?_⟩
    rcases Nat.lt_or_ge j k with h1 | h1
    · exact hj j y h1 hy
    · have : j = k := by omega
      subst this
      rw [hq] at hy
      cases hy
      exact h
  · intro hj
    refine (sidx_none _ l fun j y hy => hj j y (List.getElem?_eq_some_iff.1 hy).1 hy).symm
def fcontfS (l : List Filter) (p : Filter → Bool) : Bool := l.any p
theorem fcontf_ok (l : List Filter) (p : Filter → Bool) : fcontf_vc l p (fun r => r = fcontfS l p) := fun _ => findexf_mono (fun r h => by subst h; exact sidx_ge _ l) (findexf_ok l p)
theorem eq_rows {α : Type} [DecidableEq α] (a b : List α) (hl : a.length = b.length) (h : ∀ j, j < a.length → a[j]? = b[j]?) : a = b := by
  refine List.ext_getElem? fun j => ?_
  rcases Nat.lt_or_ge j a.length with h1 | h1
  · exact h j h1
  · rw [List.getElem?_eq_none h1, List.getElem?_eq_none (by omega)]
def sequalS (a b : List Int) : Bool := decide (a = b)
theorem sequal_ok (a b : List Int) : sequal_vc a b (fun r => r = sequalS a b) := by
  intro ha hb
  refine ⟨fun h => ?_, fun h => ?_⟩
  · have : a.length ≠ b.length := by simp at h; omega
    exact (decide_eq_false (fun e => this (by rw [e]))).symm
  · have hl : a.length = b.length := by simp at h; omega
    refine rg0 ha (fun k => ∀ j, j < k → a[j]? = b[j]?) (fun j h => absurd h (Nat.not_lt_zero _)) ?_ ?_
    · intro k q hk hq hj inv mu hn
      refine ⟨by omega, fun q2 hq2 => ⟨fun h1 => ?_, fun h1 => hn fun j hj1 => ?_⟩⟩
      · simp only [Int.toNat_natCast] at hq2
        refine (decide_eq_false fun e => ?_).symm
        subst e
        rw [hq] at hq2
        simp_all
      · simp only [Int.toNat_natCast] at hq2
        rcases Nat.lt_or_ge j k with h2 | h2
        · exact hj j h2
        · have : j = k := by omega
          subst this
          rw [hq, hq2]
          simp at h1
          rw [h1]
    · intro hj
      exact (decide_eq_true (eq_rows a b hl hj)).symm
def feqS (a b : List Filter) : Bool := decide (a = b)
theorem feq_ok (a b : List Filter) : feq_vc a b (fun r => r = feqS a b) := by
  intro ha hb
  refine ⟨fun h => ?_, fun h => ?_⟩
  · have : a.length ≠ b.length := by simp at h; omega
    exact (decide_eq_false (fun e => this (by rw [e]))).symm
  · have hl : a.length = b.length := by simp at h; omega
    refine rg0 ha (fun k => ∀ j, j < k → a[j]? = b[j]?) (fun j h => absurd h (Nat.not_lt_zero _)) ?_ ?_
    · intro k q hk hq hj inv mu hn
      refine ⟨by omega, fun q2 hq2 => ⟨fun h1 => ?_, fun h1 => hn fun j hj1 => ?_⟩⟩
      · simp only [Int.toNat_natCast] at hq2
        refine (decide_eq_false fun e => ?_).symm
        subst e
        rw [hq] at hq2
        simp_all
      · simp only [Int.toNat_natCast] at hq2
        rcases Nat.lt_or_ge j k with h2 | h2
        · exact hj j h2
        · have : j = k := by omega
          subst this
          rw [hq, hq2]
          obtain ⟨w1, m1, g1⟩ := q
          obtain ⟨w2, m2, g2⟩ := q2
          simp at h1 ⊢
          exact h1
    · intro hj
      exact (decide_eq_true (eq_rows a b hl hj)).symm
/-! ### How many numbers are let in -/
def fmatch (f : Filter) (id : Nat) : Bool := (id ^^^ f.Want.toNat) &&& f.Mask.toNat == 0
def cN (l : List Filter) (n F V : Nat) : Nat := (List.range n).countP fun id => (id &&& F == V) && l.any fun f => fmatch f id
def countS (l : List Filter) (all fixed value : Int) : Int := (cN l (all.toNat + 1) fixed.toNat value.toNat : Nat)
def cmu (_l : List Filter) (all fixed _value : Int) : Nat := (all - fixed).toNat
def cpre (l : List Filter) (all fixed value : Int) : Prop :=
  ∃ k F V : Nat, k ≤ 29 ∧ all = ((2 ^ k - 1 : Nat) : Int) ∧ fixed = F ∧ value = V ∧ F < 2 ^ k ∧ V &&& F = V ∧ l.length ≤ 16 ∧
    ∀ f ∈ l, 0 ≤ f.Want ∧ f.Want.toNat < 2 ^ k ∧ 0 ≤ f.Mask ∧ f.Mask.toNat < 2 ^ k ∧ ∀ i, F.testBit i = true → f.Mask.toNat.testBit i = true → f.Want.toNat.testBit i = V.testBit i

end Go.Proofs.Ytkogkombalcgeaa
