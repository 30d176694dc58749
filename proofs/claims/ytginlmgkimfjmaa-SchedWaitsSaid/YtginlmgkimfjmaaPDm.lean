/- What must hold so that each function ends well: pure predicates, made by program. -/
import Derived.Test.YtginlmgkimfjmaaPDgs
set_option linter.unusedVariables false
set_option linter.unusedSimpArgs false
namespace Go.Proofs.Ytginlmgkimfjmaa
open Go.Sy Go.RowKit
structure Job where
  task : Int
  from_ : Int
  asked : Int
  deriving DecidableEq, Inhabited
def Job.enc (x : Job) : List Value := [.int .i64 x.task, .int .i64 x.from_, .int .i64 x.asked]
def tyJob : Ty Job := tyFlat Job.enc 3 (fun _ => rfl) (fun x => by simp [Job.enc, Value.oneCell'])

def sins_vc (u0 : List Job) (u1 : Int) (u2 : Int) (u3 : Job → Job → Int) (K : (List Job) → Prop) : Prop :=
  (u0.length ≤ 140737488355328 →
    (∃ inv16 : Int → (List Job) → Prop, ∃ mu16 : Int → (List Job) → Nat, inv16 (w64 (u1 + 1)) u0 ∧
    (∀ (x8 : Int) (zao1 : List Job), inv16 x8 zao1 →
    (((decide (x8 < u2)) = true →
      (∃ inv44 : Int → (List Job) → Prop, ∃ mu44 : Int → (List Job) → Nat, inv44 x8 zao1 ∧
      (∀ (x9 : Int) (zao1v : List Job), inv44 x9 zao1v →
      (((decide (x9 > u1)) = true →
        ((0 ≤ x9 ∧ x9 < (zao1v.length : Int)) ∧
        (∀ qd8_0, zao1v[x9.toNat]? = some qd8_0 →
        ((0 ≤ w64 (x9 - 1) ∧ w64 (x9 - 1) < (zao1v.length : Int)) ∧
        (∀ qd13_0, zao1v[(w64 (x9 - 1)).toNat]? = some qd13_0 →
        (((decide ((u3 qd8_0 qd13_0) < 0)) = true →
          ((0 ≤ w64 (x9 - 1) ∧ w64 (x9 - 1) < (zao1v.length : Int)) ∧
          (∀ qd9_0, zao1v[(w64 (x9 - 1)).toNat]? = some qd9_0 →
          ((0 ≤ x9 ∧ x9 < (zao1v.length : Int)) ∧
          (∀ qd13_0, zao1v[x9.toNat]? = some qd13_0 →
          ((0 ≤ x9 ∧ x9 < (zao1v.length : Int)) ∧
          ((0 ≤ w64 (x9 - 1) ∧ w64 (x9 - 1) < (zao1v.length : Int)) ∧
          (inv44 (w64 (x9 - 1)) ((zao1v.set x9.toNat qd9_0).set (w64 (x9 - 1)).toNat qd13_0) ∧ mu44 (w64 (x9 - 1)) ((zao1v.set x9.toNat qd9_0).set (w64 (x9 - 1)).toNat qd13_0) < mu44 x9 zao1v)))))))) ∧
        ((decide ((u3 qd8_0 qd13_0) < 0)) = false →
          (inv16 (w64 (x8 + 1)) zao1v ∧ mu16 (w64 (x8 + 1)) zao1v < mu16 x8 zao1)))))))) ∧
      ((decide (x9 > u1)) = false →
        (inv16 (w64 (x8 + 1)) zao1v ∧ mu16 (w64 (x8 + 1)) zao1v < mu16 x8 zao1)))))) ∧
    ((decide (x8 < u2)) = false →
      ((zao1.length = u0.length) ∧
      (K zao1)))))))
theorem sins_mono {u0 : List Job} {u1 : Int} {u2 : Int} {u3 : Job → Job → Int} {K K1 : (List Job) → Prop} (hK : ∀ r, K r → K1 r) (h : sins_vc u0 u1 u2 u3 K) : sins_vc u0 u1 u2 u3 K1 :=
  fun z0 => (Exists.elim (h z0) fun i1 e1 => Exists.elim e1 fun m1 g1 => ⟨i1, m1, g1.1, fun x8 zao1 z1 => ⟨fun c2 => (Exists.elim ((g1.2 x8 zao1 z1).1 c2) fun i3 e3 => Exists.elim e3 fun m3 g3 => ⟨i3, m3, g3.1, fun x9 zao1v z3 => ⟨fun c4 => ⟨((g3.2 x9 zao1v z3).1 c4).1, fun y6 z6 => ⟨((((g3.2 x9 zao1v z3).1 c4).2) y6 z6).1, fun y8 z8 => ⟨fun c9 => ⟨(((((((g3.2 x9 zao1v z3).1 c4).2) y6 z6).2) y8 z8).1 c9).1, fun y11 z11 => ⟨(((((((((g3.2 x9 zao1v z3).1 c4).2) y6 z6).2) y8 z8).1 c9).2) y11 z11).1, fun y13 z13 => ⟨(((((((((((g3.2 x9 zao1v z3).1 c4).2) y6 z6).2) y8 z8).1 c9).2) y11 z11).2) y13 z13).1, ⟨((((((((((((g3.2 x9 zao1v z3).1 c4).2) y6 z6).2) y8 z8).1 c9).2) y11 z11).2) y13 z13).2).1, ((((((((((((g3.2 x9 zao1v z3).1 c4).2) y6 z6).2) y8 z8).1 c9).2) y11 z11).2) y13 z13).2).2⟩⟩⟩⟩, fun c9 => (((((((g3.2 x9 zao1v z3).1 c4).2) y6 z6).2) y8 z8).2 c9)⟩⟩⟩, fun c4 => ((g3.2 x9 zao1v z3).2 c4)⟩⟩), fun c2 => ⟨((g1.2 x8 zao1 z1).2 c2).1, hK _ (((g1.2 x8 zao1 z1).2 c2).2)⟩⟩⟩)

def sswap_vc (u0 : List Job) (u1 : Int) (u2 : Int) (u3 : Int) (u4 : Job → Job → Int) (K : (List Job) → Prop) : Prop :=
  (u0.length ≤ 140737488355328 →
    (∃ inv12 : Int → (List Job) → Prop, ∃ mu12 : Int → (List Job) → Nat, inv12 0 u0 ∧
    (∀ (x10 : Int) (zao1 : List Job), inv12 x10 zao1 →
    (((decide (x10 < u3)) = true →
      ((0 ≤ w64 (u2 + x10) ∧ w64 (u2 + x10) < (zao1.length : Int)) ∧
      (∀ qd13_0, zao1[(w64 (u2 + x10)).toNat]? = some qd13_0 →
      ((0 ≤ w64 (u1 + x10) ∧ w64 (u1 + x10) < (zao1.length : Int)) ∧
      (∀ qd19_0, zao1[(w64 (u1 + x10)).toNat]? = some qd19_0 →
      ((0 ≤ w64 (u1 + x10) ∧ w64 (u1 + x10) < (zao1.length : Int)) ∧
      ((0 ≤ w64 (u2 + x10) ∧ w64 (u2 + x10) < (zao1.length : Int)) ∧
      (inv12 (w64 (x10 + 1)) ((zao1.set (w64 (u1 + x10)).toNat qd13_0).set (w64 (u2 + x10)).toNat qd19_0) ∧ mu12 (w64 (x10 + 1)) ((zao1.set (w64 (u1 + x10)).toNat qd13_0).set (w64 (u2 + x10)).toNat qd19_0) < mu12 x10 zao1)))))))) ∧
    ((decide (x10 < u3)) = false →
      ((zao1.length = u0.length) ∧
      (K zao1)))))))
theorem sswap_mono {u0 : List Job} {u1 : Int} {u2 : Int} {u3 : Int} {u4 : Job → Job → Int} {K K1 : (List Job) → Prop} (hK : ∀ r, K r → K1 r) (h : sswap_vc u0 u1 u2 u3 u4 K) : sswap_vc u0 u1 u2 u3 u4 K1 :=
  fun z0 => (Exists.elim (h z0) fun i1 e1 => Exists.elim e1 fun m1 g1 => ⟨i1, m1, g1.1, fun x10 zao1 z1 => ⟨fun c2 => ⟨((g1.2 x10 zao1 z1).1 c2).1, fun y4 z4 => ⟨((((g1.2 x10 zao1 z1).1 c2).2) y4 z4).1, fun y6 z6 => ⟨((((((g1.2 x10 zao1 z1).1 c2).2) y4 z4).2) y6 z6).1, ⟨(((((((g1.2 x10 zao1 z1).1 c2).2) y4 z4).2) y6 z6).2).1, (((((((g1.2 x10 zao1 z1).1 c2).2) y4 z4).2) y6 z6).2).2⟩⟩⟩⟩, fun c2 => ⟨((g1.2 x10 zao1 z1).2 c2).1, hK _ (((g1.2 x10 zao1 z1).2 c2).2)⟩⟩⟩)

def srot_vc (u0 : List Job) (u1 : Int) (u2 : Int) (u3 : Int) (u4 : Job → Job → Int) (K : (List Job) → Prop) : Prop :=
  (u0.length ≤ 140737488355328 →
    (∃ inv27 : Int → Int → (List Job) → Prop, ∃ mu27 : Int → Int → (List Job) → Nat, inv27 (w64 (u2 - u1)) (w64 (u3 - u2)) u0 ∧
    (∀ (x10 : Int) (x11 : Int) (zao1 : List Job), inv27 x10 x11 zao1 →
    (((x10 != x11) = true →
      (((decide (x10 > x11)) = true →
        (sswap_vc zao1 (w64 (u2 - x10)) u2 x11 u4 fun r73 =>
        (r73.length ≤ 140737488355328 →
        (inv27 (w64 (x10 - x11)) x11 r73 ∧ mu27 (w64 (x10 - x11)) x11 r73 < mu27 x10 x11 zao1)))) ∧
      ((decide (x10 > x11)) = false →
        (sswap_vc zao1 (w64 (u2 - x10)) (w64 ((w64 (u2 + x11)) - x10)) x10 u4 fun r119 =>
        (r119.length ≤ 140737488355328 →
        (inv27 x10 (w64 (x11 - x10)) r119 ∧ mu27 x10 (w64 (x11 - x10)) r119 < mu27 x10 x11 zao1)))))) ∧
    ((x10 != x11) = false →
      (sswap_vc zao1 (w64 (u2 - x10)) u2 x10 u4 fun r157 =>
      (r157.length ≤ 140737488355328 →
      ((r157.length = u0.length) ∧
      (K r157)))))))))
theorem srot_mono {u0 : List Job} {u1 : Int} {u2 : Int} {u3 : Int} {u4 : Job → Job → Int} {K K1 : (List Job) → Prop} (hK : ∀ r, K r → K1 r) (h : srot_vc u0 u1 u2 u3 u4 K) : srot_vc u0 u1 u2 u3 u4 K1 :=
  fun z0 => (Exists.elim (h z0) fun i1 e1 => Exists.elim e1 fun m1 g1 => ⟨i1, m1, g1.1, fun x10 x11 zao1 z1 => ⟨fun c2 => ⟨fun c3 => sswap_mono (fun r73 h4 => fun z5 => (h4 z5)) (((g1.2 x10 x11 zao1 z1).1 c2).1 c3), fun c3 => sswap_mono (fun r119 h4 => fun z5 => (h4 z5)) (((g1.2 x10 x11 zao1 z1).1 c2).2 c3)⟩, fun c2 => sswap_mono (fun r157 h3 => fun z4 => ⟨(h3 z4).1, hK _ ((h3 z4).2)⟩) ((g1.2 x10 x11 zao1 z1).2 c2)⟩⟩)

/-! Pure proofs: no program in sight. -/
/-! Stable sorting by a key, of lists. -/
def insC {α : Type} (cmp : α → α → Int) (x : α) : List α → List α
  | [] => [x]
  | y :: r => if cmp x y < 0 then x :: y :: r else y :: insC cmp x r
/-- The stable sort: each goes behind all that aren't greater. -/
def sortC {α : Type} (cmp : α → α → Int) (l : List α) : List α := l.foldl (fun s x => insC cmp x s) []
/-- As much of each key, in the same order. -/
def Fe {α : Type} (key : α → Int) (x y : List α) : Prop := ∀ k : Int, x.filter (fun a => key a == k) = y.filter (fun a => key a == k)
def Srt {α : Type} (key : α → Int) (l : List α) : Prop := l.Pairwise fun a b => key a ≤ key b
section stab
variable {α : Type} {key : α → Int} {x y z u v : List α}
theorem Fe.refl (x : List α) : Fe key x x := fun _ => rfl
theorem Fe.symm (h : Fe key x y) : Fe key y x := fun k => (h k).symm
theorem Fe.trans (h : Fe key x y) (h' : Fe key y z) : Fe key x z := fun k => (h k).trans (h' k)
theorem Fe.app (h : Fe key x y) (h' : Fe key u v) : Fe key (x ++ u) (y ++ v) := fun k => by rw [List.filter_append, List.filter_append, h k, h' k]
theorem Fe.mem (h : Fe key x y) (a : α) : a ∈ x ↔ a ∈ y := by
  have := h (key a)
  constructor
  · intro ha
    have h1 : a ∈ x.filter (fun b => key b == key a) := List.mem_filter.2 ⟨ha, by simp⟩
    rw [this] at h1
    exact (List.mem_filter.1 h1).1
  · intro ha
    have h1 : a ∈ y.filter (fun b => key b == key a) := List.mem_filter.2 ⟨ha, by simp⟩
    rw [← this] at h1
    exact (List.mem_filter.1 h1).1
theorem Fe.swap (h : ∀ a ∈ x, ∀ b ∈ y, key a ≠ key b) : Fe key (x ++ y) (y ++ x) := fun k => by
  rw [List.filter_append, List.filter_append]
  by_cases hx : x.filter (fun a => key a == k) = []
  · rw [hx]; simp
  · have hy : y.filter (fun a => key a == k) = [] := by
      obtain ⟨a, ha⟩ := List.exists_mem_of_ne_nil _ hx
      have ha := List.mem_filter.1 ha
      refine List.filter_eq_nil_iff.2 fun b hb => ?_
      have h1 := h a ha.1 b hb
      have h2 : key a = k := by simpa using ha.2
      simp; omega
    rw [hy]; simp
theorem Fe.len (h : Fe key x y) : x.length = y.length := by
  suffices H : ∀ (n : Nat) (x y : List α), x.length ≤ n → Fe key x y → x.length = y.length from H x.length x y (Nat.le_refl _) h
  intro n
  induction n with
  | zero =>
    intro x y hn h
    have : x = [] := by cases x <;> simp_all
    subst this
    cases y with
    | nil => rfl
    | cons b t => exact absurd ((h.mem b).2 (by simp)) (by simp)
  | succ n ih =>
    intro x y hn h
    cases x with
    | nil =>
      cases y with
      | nil => rfl
      | cons b t => exact absurd ((h.mem b).2 (by simp)) (by simp)
    | cons a r =>
      have hsp : ∀ z : List α, z.length = (z.filter (fun b => key b == key a)).length + (z.filter (fun b => !(key b == key a))).length := by
        intro z
        induction z with
        | nil => rfl
        | cons c t ih =>
          by_cases hc : key c = key a
          · simp [List.filter_cons, hc] at ih ⊢; omega
          · simp [List.filter_cons, hc] at ih ⊢; omega
      rw [hsp (a :: r), hsp y, h (key a)]
      congr 1
      refine ih _ _ ?_ ?_
      · simp [List.filter_cons]
        have := List.length_filter_le (fun b => !(key b == key a)) r
        simp at hn this
        omega
      · intro k
        rw [List.filter_filter, List.filter_filter]
        by_cases hk : k = key a
        · subst hk
          rw [List.filter_eq_nil_iff.2 (by simp), List.filter_eq_nil_iff.2 (by simp)]
        · have e : ∀ z : List α, z.filter (fun b => (key b == k) && !(key b == key a)) = z.filter (fun b => key b == k) := by
            intro z
            refine List.filter_congr fun b _ => ?_
            by_cases hb : key b = k
            · have : key b ≠ key a := by omega
              simp [hb]; omega
            · simp [hb]
          rw [e, e, h k]
/-- Sorted, with as much of each key: the same. -/
theorem stab_unique : ∀ {x y : List α}, Srt key x → Srt key y → Fe key x y → x = y := by
  intro x
  induction x with
  | nil =>
    intro y _ _ h
    cases y with
    | nil => rfl
    | cons b t => exact absurd ((h.mem b).2 (by simp)) (by simp)
  | cons a r ih =>
    intro y hx hy h
    cases y with
    | nil => exact absurd ((h.mem a).1 (by simp)) (by simp)
    | cons b t =>
      have h1 := List.pairwise_cons.1 hx
      have h2 := List.pairwise_cons.1 hy
      have hk : key a = key b := by
        have hab : key b ≤ key a := by
          rcases List.mem_cons.1 ((h.mem a).1 (by simp)) with e | e
          · rw [e]; exact Int.le_refl _
          · exact h2.1 a e
        have hba : key a ≤ key b := by
          rcases List.mem_cons.1 ((h.mem b).2 (by simp)) with e | e
          · rw [e]; exact Int.le_refl _
          · exact h1.1 b e
        omega
      have h3 := h (key a)
      simp [List.filter_cons, hk] at h3
      obtain ⟨rfl, h4⟩ := h3
      have : r = t := by
        refine ih h1.2 h2.2 fun k => ?_
        have h5 := h k
        by_cases hka : key a = k
        · subst hka; simpa [List.filter_cons] using h5
        · simpa [List.filter_cons, hka] using h5
      rw [this]
theorem Srt.app (hx : Srt key x) (hy : Srt key y) (h : ∀ a ∈ x, ∀ b ∈ y, key a ≤ key b) : Srt key (x ++ y) := List.pairwise_append.2 ⟨hx, hy, h⟩
theorem Srt.left (h : Srt key (x ++ y)) : Srt key x := (List.pairwise_append.1 h).1
theorem Srt.right (h : Srt key (x ++ y)) : Srt key y := (List.pairwise_append.1 h).2.1
theorem Srt.rel (h : Srt key (x ++ y)) : ∀ a ∈ x, ∀ b ∈ y, key a ≤ key b := (List.pairwise_append.1 h).2.2
theorem Srt.at_ {l : List α} (h : Srt key l) {i j : Nat} {a b : α} (hij : i ≤ j) (ha : l[i]? = some a) (hb : l[j]? = some b) : key a ≤ key b := by
  rcases Nat.lt_or_ge i j with hlt | hge
  · obtain ⟨hi, ei⟩ := List.getElem?_eq_some_iff.1 ha
    obtain ⟨hj, ej⟩ := List.getElem?_eq_some_iff.1 hb
    have := List.pairwise_iff_getElem.1 h i j hi hj hlt
    rw [ei, ej] at this
    exact this
  · have : i = j := by omega
    subst this
    rw [ha] at hb
    cases hb
    exact Int.le_refl _
/-- A comparison that goes by a key, on some elements. -/
def Keyed {α : Type} (cmp : α → α → Int) (key : α → Int) (l : List α) : Prop := ∀ a ∈ l, ∀ b ∈ l, (cmp a b < 0 ↔ key a < key b)
theorem Keyed.sub {cmp : α → α → Int} (h : Keyed cmp key x) (hs : ∀ a ∈ y, a ∈ x) : Keyed cmp key y := fun a ha b hb => h a (hs a ha) b (hs b hb)
theorem insC_spec {cmp : α → α → Int} {a : α} (h : Keyed cmp key (a :: x)) (hs : Srt key x) : Srt key (insC cmp a x) ∧ Fe key (insC cmp a x) (x ++ [a]) := by
  induction x with
  | nil => exact ⟨by simp [insC, Srt], fun _ => rfl⟩
  | cons b r ih =>
    rw [insC]
    have hk := h a (by simp) b (by simp)
    have hp := List.pairwise_cons.1 hs
    by_cases hc : cmp a b < 0
    · rw [if_pos hc]
      have hab := hk.1 hc
      have hall : ∀ c ∈ b :: r, key a < key c := fun c hc => by
        rcases List.mem_cons.1 hc with rfl | e
        · exact hab
        · have := hp.1 c e; omega
      refine ⟨List.pairwise_cons.2 ⟨fun c hc => by have := hall c hc; omega, hs⟩, ?_⟩
      exact (Fe.swap (x := [a]) (y := b :: r) fun c hc d hd => by
        have : c = a := by simpa using hc
        subst this
        have := hall d hd
        omega)
    · rw [if_neg hc]
      obtain ⟨i1, i2⟩ := ih (h.sub fun c hc => by rcases List.mem_cons.1 hc with rfl | e <;> simp [*]) hp.2
      refine ⟨List.pairwise_cons.2 ⟨fun c hc => ?_, i1⟩, (Fe.refl [b]).app i2⟩
      have hm := (i2.mem c).1 hc
      rcases List.mem_append.1 hm with e | e
      · exact hp.1 c e
      · have : c = a := by simpa using e
        subst this
        omega
theorem sortC_go {cmp : α → α → Int} : ∀ {x s p : List α}, Keyed cmp key (p ++ x) → Srt key s → Fe key s p → Srt key (x.foldl (fun s a => insC cmp a s) s) ∧ Fe key (x.foldl (fun s a => insC cmp a s) s) (p ++ x) := by
  intro x
  induction x with
  | nil => intro s p _ hs hf; exact ⟨hs, by simpa using hf⟩
  | cons a r ih =>
    intro s p hk hs hf
    obtain ⟨h1, h2⟩ := insC_spec (cmp := cmp) (a := a) (x := s) (hk.sub fun c hc => by
      rcases List.mem_cons.1 hc with rfl | e
      · simp
      · exact List.mem_append.2 (.inl ((hf.mem c).1 e))) hs
    have := ih (s := insC cmp a s) (p := p ++ [a]) (by simpa using hk) h1 (h2.trans (hf.app (Fe.refl [a])))
    simpa using this
theorem sortC_spec {cmp : α → α → Int} (h : Keyed cmp key x) : Srt key (sortC cmp x) ∧ Fe key (sortC cmp x) x := by
  have := sortC_go (x := x) (s := []) (p := []) (by simpa using h) (by simp [Srt]) (Fe.refl [])
  simpa [sortC] using this
theorem sortC_eq {cmp : α → α → Int} (h : Keyed cmp key x) (hs : Srt key y) (hf : Fe key y x) : y = sortC cmp x := by
  obtain ⟨h1, h2⟩ := sortC_spec h
  exact stab_unique hs h1 (hf.trans h2.symm)
theorem sortC_len {cmp : α → α → Int} (x : List α) : (sortC cmp x).length = x.length := by
  have h1 : ∀ (a : α) (s : List α), (insC cmp a s).length = s.length + 1 := by
    intro a s
    induction s with
    | nil => rfl
    | cons b r ih => rw [insC]; split <;> simp [ih]
  have h2 : ∀ (x s : List α), (x.foldl (fun s a => insC cmp a s) s).length = s.length + x.length := by
    intro x
    induction x with
    | nil => intro s; rfl
    | cons a r ih => intro s; rw [List.foldl_cons, ih, h1, List.length_cons]; omega
  have := h2 x []
  simpa [sortC] using this
theorem sortC_sorted {cmp : α → α → Int} (h : Keyed cmp key x) (hs : Srt key x) : sortC cmp x = x := (sortC_eq h hs (Fe.refl x)).symm
/-- One element is set. -/
theorem set_mid (p : List α) (a b : α) (q : List α) : (p ++ a :: q).set p.length b = p ++ b :: q := by simp
theorem get_mid (p : List α) (a : α) (q : List α) : (p ++ a :: q)[p.length]? = some a := by simp
/-- What lies between two places is another. -/
def segC {α : Type} (cmp : α → α → Int) (l : List α) (a b : Int) : List α := l.take a.toNat ++ (sortC cmp ((l.drop a.toNat).take (b - a).toNat) ++ l.drop b.toNat)
theorem segC_eq {cmp : α → α → Int} {p q : List α} {a b : Int} (ha : a = p.length) (hb : b = a + x.length) (h : Keyed cmp key x) (hs : Srt key y) (hf : Fe key y x) : segC cmp (p ++ (x ++ q)) a b = p ++ (y ++ q) := by
  subst ha
  unfold segC
  have e1 : (p.length : Int).toNat = p.length := by omega
  have e2 : (b - p.length).toNat = x.length := by omega
  have e3 : b.toNat = p.length + x.length := by omega
  rw [e1, e2, e3, List.take_left' rfl, List.drop_left' rfl, List.take_left' rfl, ← sortC_eq h hs hf]
  congr 2
  rw [← List.append_assoc, List.drop_left' (by simp)]
theorem segC_len {cmp : α → α → Int} {l : List α} {a b : Int} (h : 0 ≤ a ∧ a ≤ b ∧ b ≤ (l.length : Int)) : (segC cmp l a b).length = l.length := by
  unfold segC
  simp [sortC_len]
  omega
end stab
theorem swap2 {α : Type} (P M Q : List α) (c d : α) {i j : Nat} (hi : i = P.length) (hj : j = P.length + 1 + M.length) : (P ++ c :: (M ++ d :: Q))[i]? = some c ∧ (P ++ c :: (M ++ d :: Q))[j]? = some d ∧ ((P ++ c :: (M ++ d :: Q)).set i d).set j c = P ++ d :: (M ++ c :: Q) ∧ ((P ++ c :: (M ++ d :: Q)).set j c).set i d = P ++ d :: (M ++ c :: Q) := by
  subst hi
  subst hj
  have e : ∀ (a b : α), P ++ a :: (M ++ b :: Q) = (P ++ a :: M) ++ b :: Q := fun a b => by simp
  have l : ∀ a : α, (P ++ a :: M).length = P.length + 1 + M.length := fun a => by simp; omega
  refine ⟨get_mid P c _, ?_, ?_, ?_⟩
  · rw [e, ← l c]; exact get_mid _ d Q
  · rw [set_mid, e, ← l d, set_mid, ← e]
  · rw [e, ← l c, set_mid, ← e, set_mid]
theorem sswap_ok (l : List Job) (a b n : Int) (cmp : Job → Job → Int) (p u m v q : List Job) (hl : l = p ++ (u ++ (m ++ (v ++ q)))) (ha : a = p.length) (hb : b = p.length + u.length + m.length) (hn : n = u.length) (hv : v.length = u.length) (hs : l.length ≤ 10000000) : sswap_vc l a b n cmp (fun r => r = p ++ (v ++ (m ++ (u ++ q)))) := by
  intro _
  have hlen : l.length = p.length + u.length + m.length + v.length + q.length := by rw [hl]; simp; omega
  refine ⟨fun x z => ∃ k : Nat, x = k ∧ k ≤ u.length ∧ z = p ++ (v.take k ++ (u.drop k ++ (m ++ (u.take k ++ (v.drop k ++ q))))), fun x _ => u.length - x.toNat, ⟨0, rfl, by omega, by rw [hl]; simp⟩, ?_⟩
  rintro _ _ ⟨k, rfl, hk, rfl⟩
  have hzl : (p ++ (v.take k ++ (u.drop k ++ (m ++ (u.take k ++ (v.drop k ++ q)))))).length = l.length := by rw [hlen]; simp; omega
  refine ⟨fun h => ?_, fun h => ?_⟩
  · have hk : k < u.length := by have := of_decide_eq_true h; omega
    have e1 : w64 (b + (k : Int)) = b + k := w64_eq _ (by omega)
    have e2 : w64 (a + (k : Int)) = a + k := w64_eq _ (by omega)
    rw [e1, e2, w64_succ k (by omega)]
    obtain ⟨c, hc⟩ : ∃ c, u[k]? = some c := ⟨_, List.getElem?_eq_getElem hk⟩
    obtain ⟨d, hd⟩ : ∃ d, v[k]? = some d := ⟨_, List.getElem?_eq_getElem (by omega)⟩
    have eu : u.drop k = c :: u.drop (k + 1) := by rw [List.drop_eq_getElem_cons hk]; congr 1; rw [List.getElem?_eq_getElem hk] at hc; exact Option.some.inj hc
    have ev : v.drop k = d :: v.drop (k + 1) := by have hk' : k < v.length := by omega
                                                   rw [List.drop_eq_getElem_cons hk']; congr 1; rw [List.getElem?_eq_getElem hk'] at hd; exact Option.some.inj hd
    have tu : u.take (k + 1) = u.take k ++ [c] := by rw [List.take_add_one, hc]; rfl
    have tv : v.take (k + 1) = v.take k ++ [d] := by rw [List.take_add_one, hd]; rfl
    have ez : p ++ (v.take k ++ (u.drop k ++ (m ++ (u.take k ++ (v.drop k ++ q))))) = (p ++ v.take k) ++ c :: ((u.drop (k + 1) ++ (m ++ u.take k)) ++ d :: (v.drop (k + 1) ++ q)) := by rw [eu, ev]; simp
    have ez2 : p ++ (v.take (k + 1) ++ (u.drop (k + 1) ++ (m ++ (u.take (k + 1) ++ (v.drop (k + 1) ++ q))))) = (p ++ v.take k) ++ d :: ((u.drop (k + 1) ++ (m ++ u.take k)) ++ c :: (v.drop (k + 1) ++ q)) := by rw [tu, tv]; simp
    obtain ⟨g1, g2, g3, _⟩ := swap2 (p ++ v.take k) (u.drop (k + 1) ++ (m ++ u.take k)) (v.drop (k + 1) ++ q) c d (i := (a + (k : Int)).toNat) (j := (b + (k : Int)).toNat) (by simp; omega) (by simp; omega)
    rw [hzl]
    rw [ez]
    refine ⟨by omega, fun y hy => ⟨by omega, fun y' hy' => ⟨by omega, by omega, ?_⟩⟩⟩
    rw [g2] at hy
    rw [g1] at hy'
    cases hy
    cases hy'
    rw [g3, ← ez2]
    exact ⟨⟨k + 1, rfl, by omega, rfl⟩, by (try dsimp only); omega⟩
  · have hk : k = u.length := by have := of_decide_eq_false h; omega
    subst hk
    refine ⟨hzl, ?_⟩
    rw [List.take_of_length_le (by omega), List.drop_of_length_le (by omega), List.take_of_length_le (by omega), List.drop_of_length_le (by omega)]
    simp
theorem sins_ok (l : List Job) (a b : Int) (cmp : Job → Job → Int) (key : Job → Int) (p x q : List Job) (hl : l = p ++ (x ++ q)) (ha : a = p.length) (hb : b = p.length + x.length) (hk : Keyed cmp key x) (hs : l.length ≤ 10000000) : sins_vc l a b cmp (fun r => r = p ++ (sortC cmp x ++ q)) := by
  intro _
  have hlen : l.length = p.length + x.length + q.length := by rw [hl]; simp; omega
  have e0 : w64 (a + 1) = a + 1 := w64_eq _ (by omega)
  rw [e0]
  by_cases h0 : x = []
  · subst h0
    simp at hb hl
    refine ⟨fun i z => i = a + 1 ∧ z = l, fun _ _ => 0, ⟨rfl, rfl⟩, ?_⟩
    rintro _ _ ⟨rfl, rfl⟩
    refine ⟨fun h => ?_, fun h => ⟨rfl, ?_⟩⟩
    · have := of_decide_eq_true h; omega
    · rw [hl]; simp [sortC]
  refine ⟨fun i z => ∃ (k : Nat) (s : List Job), i = a + k ∧ 1 ≤ k ∧ k ≤ x.length ∧ z = p ++ (s ++ (x.drop k ++ q)) ∧ Srt key s ∧ Fe key s (x.take k), fun i _ => (a + x.length - i).toNat, ⟨1, x.take 1, rfl, by omega, ?_, ?_, ?_, Fe.refl _⟩, ?_⟩
  · cases x with
    | nil => exact absurd rfl h0
    | cons c r => simp
  · rw [hl]
    congr 1
    rw [← List.append_assoc, List.take_append_drop]
  · cases x with
    | nil => exact absurd rfl h0
    | cons c r => simp [Srt]
  rintro _ _ ⟨k, s, rfl, hk1, hkx, rfl, hs1, hs2⟩
  have hsl : s.length = k := by rw [hs2.len]; simp; omega
  refine ⟨fun h => ?_, fun h => ?_⟩
  · have hkx : k < x.length := by have := of_decide_eq_true h; omega
    have en : w64 (a + (k : Int) + 1) = a + ((k + 1 : Nat) : Int) := by rw [w64_eq _ (by omega)]; omega
    rw [en]
    obtain ⟨c, hc⟩ : ∃ c, x[k]? = some c := ⟨_, List.getElem?_eq_getElem hkx⟩
    have ex : x.drop k = c :: x.drop (k + 1) := by rw [List.drop_eq_getElem_cons hkx]; congr 1; rw [List.getElem?_eq_getElem hkx] at hc; exact Option.some.inj hc
    have tx : x.take (k + 1) = x.take k ++ [c] := by rw [List.take_add_one, hc]; rfl
    have hcx : c ∈ x := List.mem_of_getElem? hc
    have hsx : ∀ d ∈ s, d ∈ x := fun d hd => List.mem_of_mem_take ((hs2.mem d).1 hd)
    -- what is done: s1 ahead, then c, then s2, all of which are greater
    refine ⟨fun j z => ∃ (s1 s2 : List Job), s = s1 ++ s2 ∧ j = a + s1.length ∧ z = p ++ (s1 ++ c :: (s2 ++ (x.drop (k + 1) ++ q))) ∧ ∀ d ∈ s2, key c < key d, fun j _ => (j - a).toNat, ⟨s, [], by simp, by omega, by rw [ex]; simp, by simp⟩, ?_⟩
    rintro _ _ ⟨s1, s2, hss, rfl, rfl, h2⟩
    have hfin : ∀ (hle : ∀ d ∈ s1, key d ≤ key c), ∃ (k' : Nat) (s' : List Job), a + ((k + 1 : Nat) : Int) = a + k' ∧ 1 ≤ k' ∧ k' ≤ x.length ∧ p ++ (s1 ++ c :: (s2 ++ (x.drop (k + 1) ++ q))) = p ++ (s' ++ (x.drop k' ++ q)) ∧ Srt key s' ∧ Fe key s' (x.take k') := by
      intro hle
      refine ⟨k + 1, s1 ++ c :: s2, rfl, by omega, by omega, by simp, ?_, ?_⟩
      · rw [hss] at hs1
        refine hs1.left.app (List.pairwise_cons.2 ⟨fun d hd => by have := h2 d hd; omega, hs1.right⟩) fun d hd e he => ?_
        rcases List.mem_cons.1 he with rfl | he
        · exact hle d hd
        · exact hs1.rel d hd e he
      · rw [tx]
        refine Fe.trans ?_ (hs2.app (Fe.refl [c]))
        rw [hss, List.append_assoc]
        exact (Fe.refl s1).app (Fe.swap (x := [c]) (y := s2) fun d hd e he => by
          have : d = c := by simpa using hd
          subst this
          have := h2 e he
          omega)
    have hmu : (a + (x.length : Int) - (a + ((k + 1 : Nat) : Int))).toNat < (a + (x.length : Int) - (a + (k : Int))).toNat := by omega
    have hs12 : s1.length + s2.length = k := by rw [← hsl, hss]; simp
    have hzl : (p ++ (s1 ++ c :: (s2 ++ (x.drop (k + 1) ++ q)))).length = l.length := by rw [hlen]; simp; omega
    refine ⟨fun h3 => ?_, fun h3 => ?_⟩
    · have h3 : 0 < s1.length := by have := of_decide_eq_true h3; omega
      have ed : w64 (a + (s1.length : Int) - 1) = a + (s1.length : Int) - 1 := w64_eq _ (by omega)
      rw [ed, hzl]
      obtain ⟨s0, d, rfl⟩ : ∃ s0 d, s1 = s0 ++ [d] := ⟨s1.dropLast, s1.getLast (by intro e; rw [e] at h3; simp at h3), (List.dropLast_concat_getLast _).symm⟩
      have ez : p ++ ((s0 ++ [d]) ++ c :: (s2 ++ (x.drop (k + 1) ++ q))) = (p ++ s0) ++ d :: ([] ++ c :: (s2 ++ (x.drop (k + 1) ++ q))) := by simp
      obtain ⟨g1, g2, _, g4⟩ := swap2 (p ++ s0) [] (s2 ++ (x.drop (k + 1) ++ q)) d c (i := (a + (((s0 ++ [d]).length : Nat) : Int) - 1).toNat) (j := (a + (((s0 ++ [d]).length : Nat) : Int)).toNat) (by simp; omega) (by simp; omega)
      simp only [List.length_append, List.length_cons, List.length_nil] at *
      rw [ez]
      refine ⟨by omega, fun y hy => ⟨by omega, fun y' hy' => ?_⟩⟩
      rw [g2] at hy
      rw [g1] at hy'
      cases hy
      cases hy'
      have hkd := hk c hcx d (hsx d (by rw [hss]; simp))
      refine ⟨fun h4 => ?_, fun h4 => ?_⟩
      · have hlt := hkd.1 (of_decide_eq_true h4)
        refine ⟨by omega, fun y hy => ⟨by omega, fun y' hy' => ⟨by omega, by omega, ?_⟩⟩⟩
        rw [g1] at hy
        rw [g2] at hy'
        cases hy
        cases hy'
        rw [g4]
        refine ⟨⟨s0, d :: s2, by rw [hss]; simp, by omega, by simp, fun e he => ?_⟩, by omega⟩
        rcases List.mem_cons.1 he with rfl | he
        · exact hlt
        · exact h2 e he
      · have hge : key d ≤ key c := by
          have h5 : ¬ cmp c d < 0 := of_decide_eq_false h4
          rw [hkd] at h5
          omega
        rw [← ez]
        refine ⟨hfin fun e he => ?_, hmu⟩
        rcases List.mem_append.1 he with he | he
        · rw [hss] at hs1
          have := hs1.left.rel e he d (by simp)
          omega
        · have : e = d := by simpa using he
          rw [this]; exact hge
    · have h3 : s1 = [] := by
        have := of_decide_eq_false h3
        exact List.eq_nil_of_length_eq_zero (by omega)
      exact ⟨hfin (fun d hd => by rw [h3] at hd; cases hd), hmu⟩
  · have hkx : k = x.length := by have := of_decide_eq_false h; omega
    subst hkx
    rw [List.take_of_length_le (by omega)] at hs2
    refine ⟨by rw [hlen]; simp; omega, ?_⟩
    rw [sortC_eq hk hs1 hs2, List.drop_of_length_le (by omega)]
    simp
def segC2 (l : List Job) (a m b : Int) (cmp : Job → Job → Int) : List Job := segC cmp l a b
def symMu (l : List Job) (a m b : Int) (cmp : Job → Job → Int) : Nat := (b - a).toNat
def symPre (l : List Job) (a m b : Int) (cmp : Job → Job → Int) : Prop := ∃ (key : Job → Int) (p x y q : List Job), l = p ++ (x ++ (y ++ q)) ∧ a = p.length ∧ m = a + x.length ∧ b = m + y.length ∧ x ≠ [] ∧ y ≠ [] ∧ Keyed cmp key (x ++ y) ∧ Srt key x ∧ Srt key y ∧ l.length ≤ 10000000

end Go.Proofs.Ytginlmgkimfjmaa
