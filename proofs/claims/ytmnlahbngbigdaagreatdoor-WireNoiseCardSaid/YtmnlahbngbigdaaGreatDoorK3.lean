/- Texts put together (pure ones, or walks made by program). -/
import Derived.Test.YtmnlahbngbigdaaGreatDoorK0
import Derived.Test.YtmnlahbngbigdaaGreatDoorK1
import Derived.Test.YtmnlahbngbigdaaGreatDoorK2
set_option linter.unusedVariables false
set_option linter.unusedSimpArgs false
namespace Go.Proofs.YtmnlahbngbigdaaGreatDoor
open Go.Sy Go.RowKit
def wsend_vc (u0 : List Frame) (K : ((List UInt8) × Int × (List Int) × Int) → Prop) : Prop := (u0.length ≤ 140737488355328 → (((decide ((u0.length : Int) > 6)) = true → (K ([], 0, ([] : List Int), 2))) ∧ ((decide ((u0.length : Int) > 6)) = false → ((((u0.length : Int) == 0) = true → (K ([], 0, ([] : List Int), 8))) ∧ (((u0.length : Int) == 0) = false → (∃ inv68 : (List Sender) → Int → Int → Prop, ∃ mu68 : (List Sender) → Int → Int → Nat, inv68 ([] : List Sender) 0 0 ∧ (∀ (x6 : List Sender) (x7 : Int) (x30 : Int), inv68 x6 x7 x30 → (((decide (x30 < (u0.length : Int))) = true → ((0 ≤ x30 ∧ x30 < (u0.length : Int)) ∧ (∀ q93, u0[x30.toNat]? = some q93 → (q93.Data.length ≤ 140737488355328 → ((∀ x ∈ q93.Data, 0 ≤ x ∧ x ≤ 255) ∧ ((((BitsS q93).2 != 0) = true → (K ([], 0, ([] : List Int), (BitsS q93).2))) ∧ (((BitsS q93).2 != 0) = false → (((x6.length + 1) * 24 ≤ 140737488355328) ∧ (inv68 (x6 ++ [(⟨(BitsS q93).1, -1⟩ : Sender)]) (max x7 ((BitsS q93).1.length : Int)) (w64 (x30 + 1)) ∧ mu68 (x6 ++ [(⟨(BitsS q93).1, -1⟩ : Sender)]) (max x7 ((BitsS q93).1.length : Int)) (w64 (x30 + 1)) < mu68 x6 x7 x30))))))))) ∧ ((decide (x30 < (u0.length : Int))) = false → (∃ inv208 : (List Int) → Int → (List Sender) → Prop, ∃ mu208 : (List Int) → Int → (List Sender) → Nat, inv208 ([] : List Int) 0 x6 ∧ (∀ (x12 : List Int) (x54 : Int) (zaox6 : List Sender), inv208 x12 x54 zaox6 → (((decide (x54 < x7)) = true → (∃ inv228 : (List Int) → (List Sender) → Prop, (∃ inv264 : Int → Bool → Int → Prop, ∃ mu264 : Int → Bool → Int → Nat, inv264 49 false 0 ∧ (∀ (x14 : Int) (x15 : Bool) (x59 : Int), inv264 x14 x15 x59 → (((decide (x59 < (zaox6.length : Int))) = true → (∃ inv283 : Int → Bool → Prop, ((0 ≤ x59 ∧ x59 < (zaox6.length : Int)) ∧ (∀ q308, zaox6[x59.toNat]? = some q308 → ((((decide (q308.lost < 0)) && (decide (x54 < (q308.row.length : Int)))) = true → ((0 ≤ x54 ∧ x54 < (q308.row.length : Int)) ∧ (∀ c359, q308.row[x54.toNat]? = some c359 → (inv283 (min x14 (c359.toNat : Int)) true)))) ∧ (((decide (q308.lost < 0)) && (decide (x54 < (q308.row.length : Int)))) = false → (inv283 x14 x15))))) ∧ (∀ (x14v : Int) (x15v : Bool), inv283 x14v x15v → (inv264 x14v x15v (w64 (x59 + 1)) ∧ mu264 x14v x15v (w64 (x59 + 1)) < mu264 x14 x15 x59)))) ∧ ((decide (x59 < (zaox6.length : Int))) = false → (((!x15) = true → (∃ inv390 : Int → (List Int) → Int → Prop, ∃ mu390 : Int → (List Int) → Int → Nat, inv390 (-1) ([] : List Int) 0 ∧ (∀ (x3 : Int) (x4v : List Int) (x126 : Int), inv390 x3 x4v x126 → (((decide (x126 < (zaox6.length : Int))) = true → ((0 ≤ x126 ∧ x126 < (zaox6.length : Int)) ∧ (∀ q418, zaox6[x126.toNat]? = some q418 → (∃ inv437 : Int → (List Int) → Prop, (((decide (q418.lost ≥ 0)) = true → (inv437 x3 x4v)) ∧ ((decide (q418.lost ≥ 0)) = false → (((decide (x3 ≥ 0)) = true → (K ([], 0, ([] : List Int), 9))) ∧ ((decide (x3 ≥ 0)) = false → (inv437 x126 x4v))))) ∧ (∀ (x3v : Int) (x4vv : List Int), inv437 x3v x4vv → (((x4vv.length + 1) * 8 ≤ 140737488355328) ∧ (inv390 x3v (x4vv ++ [q418.lost]) (w64 (x126 + 1)) ∧ mu390 x3v (x4vv ++ [q418.lost]) (w64 (x126 + 1)) < mu390 x3 x4v x126))))))) ∧ ((decide (x126 < (zaox6.length : Int))) = false → (K (bstr x12, x3, x4v, 0))))))) ∧ ((!x15) = false → (((x12.length + 1) * 1 ≤ 140737488355328) ∧ (∃ inv565 : Int → (List Sender) → Prop, ∃ mu565 : Int → (List Sender) → Nat, inv565 0 zaox6 ∧ (∀ (x88 : Int) (zaox6vv : List Sender), inv565 x88 zaox6vv → (((decide (x88 < (zaox6.length : Int))) = true → (∃ inv584 : (List Sender) → Prop, ((0 ≤ x88 ∧ x88 < (zaox6vv.length : Int)) ∧ (∀ q627, zaox6vv[x88.toNat]? = some q627 → (((decide (q627.lost < 0)) = true → (∀ q650, zaox6vv[x88.toNat]? = some q650 → (((decide (x54 < (q650.row.length : Int))) = true → (∀ q675, zaox6vv[x88.toNat]? = some q675 → ((0 ≤ x54 ∧ x54 < (q675.row.length : Int)) ∧ (∀ c687, q675.row[x54.toNat]? = some c687 → ((((c687.toNat : Int) != x14) = true → (∀ q711, zaox6vv[x88.toNat]? = some q711 → (inv584 (zaox6vv.set x88.toNat (⟨q711.row, x54⟩ : Sender))))) ∧ (((c687.toNat : Int) != x14) = false → (inv584 zaox6vv))))))) ∧ ((decide (x54 < (q650.row.length : Int))) = false → (inv584 zaox6vv))))) ∧ ((decide (q627.lost < 0)) = false → (inv584 zaox6vv))))) ∧ (∀ (zaox6vvv : List Sender), inv584 zaox6vvv → (inv565 (w64 (x88 + 1)) zaox6vvv ∧ mu565 (w64 (x88 + 1)) zaox6vvv < mu565 x88 zaox6vv)))) ∧ ((decide (x88 < (zaox6.length : Int))) = false → (inv228 (x12 ++ [x14]) zaox6vv)))))))))))) ∧ (∀ (x12v : List Int) (zaox6v : List Sender), inv228 x12v zaox6v → (inv208 x12v (w64 (x54 + 1)) zaox6v ∧ mu208 x12v (w64 (x54 + 1)) zaox6v < mu208 x12 x54 zaox6)))) ∧ ((decide (x54 < x7)) = false → (∃ inv788 : Int → (List Int) → Int → Prop, ∃ mu788 : Int → (List Int) → Int → Nat, inv788 (-1) ([] : List Int) 0 ∧ (∀ (x3 : Int) (x4v : List Int) (x126 : Int), inv788 x3 x4v x126 → (((decide (x126 < (zaox6.length : Int))) = true → ((0 ≤ x126 ∧ x126 < (zaox6.length : Int)) ∧ (∀ q816, zaox6[x126.toNat]? = some q816 → (∃ inv835 : Int → (List Int) → Prop, (((decide (q816.lost ≥ 0)) = true → (inv835 x3 x4v)) ∧ ((decide (q816.lost ≥ 0)) = false → (((decide (x3 ≥ 0)) = true → (K ([], 0, ([] : List Int), 9))) ∧ ((decide (x3 ≥ 0)) = false → (inv835 x126 x4v))))) ∧ (∀ (x3v : Int) (x4vv : List Int), inv835 x3v x4vv → (((x4vv.length + 1) * 8 ≤ 140737488355328) ∧ (inv788 x3v (x4vv ++ [q816.lost]) (w64 (x126 + 1)) ∧ mu788 x3v (x4vv ++ [q816.lost]) (w64 (x126 + 1)) < mu788 x3 x4v x126))))))) ∧ ((decide (x126 < (zaox6.length : Int))) = false → (K (bstr x12, x3, x4v, 0)))))))))))))))))))
def ieq_vc (u0 : List Int) (u1 : List Int) (K : Bool → Prop) : Prop := (u0.length ≤ 140737488355328 → (u1.length ≤ 140737488355328 → ((((u0.length : Int) != (u1.length : Int)) = true → (K false)) ∧ (((u0.length : Int) != (u1.length : Int)) = false → (∃ inv37 : Int → Prop, ∃ mu37 : Int → Nat, inv37 0 ∧ (∀ (x13 : Int), inv37 x13 → (((decide (x13 < (u0.length : Int))) = true → ((0 ≤ x13 ∧ x13 < (u0.length : Int)) ∧ (∀ q74, u0[x13.toNat]? = some q74 → ((0 ≤ x13 ∧ x13 < (u1.length : Int)) ∧ (∀ q96, u1[x13.toNat]? = some q96 → (((q74 != q96) = true → (K false)) ∧ ((q74 != q96) = false → (inv37 (w64 (x13 + 1)) ∧ mu37 (w64 (x13 + 1)) < mu37 x13)))))))) ∧ ((decide (x13 < (u0.length : Int))) = false → (K true)))))))))
def fd : List UInt8 → List UInt8 → Option Nat
 | x :: a, y :: b => if x = y then (fd a b).map (· + 1) else some 0
 | _, _ => none
theorem fd_self (a : List UInt8) : fd a a = none := by
 induction a with
 | nil => rfl
 | cons x a ih => rw [fd, if_pos rfl, ih]; rfl
theorem fd_none : ∀ (a b : List UInt8), fd a b = none → a <+: b ∨ b <+: a := by
 intro a
 induction a with
 | nil => intro b _; exact .inl (List.nil_prefix)
 | cons x a ih =>
  intro b h
  cases b with
  | nil => exact .inr (List.nil_prefix)
  | cons y b =>
   rw [fd] at h
   by_cases e : x = y
   · subst e
     rw [if_pos rfl, Option.map_eq_none_iff] at h
     rcases ih b h with h1 | h1
     · exact .inl (List.cons_prefix_cons.2 ⟨rfl, h1⟩)
     · exact .inr (List.cons_prefix_cons.2 ⟨rfl, h1⟩)
   · rw [if_neg e] at h; cases h
theorem fd_some : ∀ (a b : List UInt8) (d : Nat), fd a b = some d → (∃ x y, a[d]? = some x ∧ b[d]? = some y ∧ x ≠ y) ∧ ∀ j, j < d → a[j]? = b[j]? := by
 intro a
 induction a with
 | nil => intro b d h; rw [fd] at h; cases h; simp
 | cons x a ih =>
  intro b d h
  cases b with
  | nil => rw [fd] at h; cases h; simp
  | cons y b =>
   rw [fd] at h
   by_cases e : x = y
   · subst e
     rw [if_pos rfl, Option.map_eq_some_iff] at h
     obtain ⟨d', hd, rfl⟩ := h
     obtain ⟨h1, h2⟩ := ih b d' hd
     refine ⟨h1, fun j hj => ?_⟩
     cases j with
     | zero => rfl
     | succ j => exact h2 j (by omega)
   · rw [if_neg e] at h
     cases h
     exact ⟨⟨x, y, rfl, rfl, e⟩, fun j hj => absurd hj (Nat.not_lt_zero _)⟩
theorem fd_comm : ∀ (a b : List UInt8), fd a b = fd b a := by
 intro a
 induction a with
 | nil => intro b; cases b <;> rfl
 | cons x a ih =>
  intro b
  cases b with
  | nil => rfl
  | cons y b =>
   rw [fd, fd, ih b]
   by_cases e : x = y
   · rw [if_pos e, if_pos e.symm]
   · rw [if_neg e, if_neg (fun h => e h.symm)]
def lexle : List UInt8 → List UInt8 → Bool
 | [], _ => true
 | _ :: _, [] => false
 | x :: a, y :: b => if x = y then lexle a b else decide (x < y)
theorem lexle_refl (a : List UInt8) : lexle a a = true := by
 induction a with
 | nil => rfl
 | cons x a ih => rw [lexle, if_pos rfl, ih]
theorem lexle_total : ∀ a b : List UInt8, lexle a b = true ∨ lexle b a = true := by
 intro a
 induction a with
 | nil => intro b; exact .inl rfl
 | cons x a ih =>
  intro b
  cases b with
  | nil => exact .inr rfl
  | cons y b =>
   rw [lexle, lexle]
   by_cases e : x = y
   · rw [if_pos e, if_pos e.symm]; exact ih b
   · rw [if_neg e, if_neg (fun h => e h.symm), decide_eq_true_eq, decide_eq_true_eq]
     have : x.toNat ≠ y.toNat := fun h => e (UInt8.toNat_inj.1 h)
     rw [UInt8.lt_iff_toNat_lt, UInt8.lt_iff_toNat_lt]
     omega
theorem lexle_trans : ∀ a b c : List UInt8, lexle a b = true → lexle b c = true → lexle a c = true := by
 intro a
 induction a with
 | nil => intro b c _ _; rfl
 | cons x a ih =>
  intro b c h1 h2
  cases b with
  | nil => cases h1
  | cons y b =>
   cases c with
   | nil => cases h2
   | cons z c =>
    rw [lexle] at h1 h2 ⊢
    by_cases e : x = y
    · subst e
      rw [if_pos rfl] at h1
      by_cases e2 : x = z
      · subst e2
        rw [if_pos rfl] at h2 ⊢
        exact ih b c h1 h2
      · rw [if_neg e2] at h2 ⊢
        exact h2
    · rw [if_neg e, decide_eq_true_eq, UInt8.lt_iff_toNat_lt] at h1
      by_cases e2 : y = z
      · subst e2
        rw [if_neg e, decide_eq_true_eq, UInt8.lt_iff_toNat_lt]
        exact h1
      · rw [if_neg e2, decide_eq_true_eq, UInt8.lt_iff_toNat_lt] at h2
        have e3 : x ≠ z := fun h => by subst h; omega
        rw [if_neg e3, decide_eq_true_eq, UInt8.lt_iff_toNat_lt]
        omega
theorem lexle_fd : ∀ (a b : List UInt8) (d : Nat), lexle a b = true → fd a b = some d → ∃ x y, a[d]? = some x ∧ b[d]? = some y ∧ x.toNat < y.toNat := by
 intro a
 induction a with
 | nil => intro b d _ h; rw [fd] at h; cases h; simp
 | cons x a ih =>
  intro b d h1 h
  cases b with
  | nil => cases h1
  | cons y b =>
   rw [fd] at h
   rw [lexle] at h1
   by_cases e : x = y
   · subst e
     rw [if_pos rfl, Option.map_eq_some_iff] at h
     rw [if_pos rfl] at h1
     obtain ⟨d', hd, rfl⟩ := h
     exact ih b d' h1 hd
   · rw [if_neg e] at h h1
     cases h
     exact ⟨x, y, rfl, rfl, UInt8.lt_iff_toNat_lt.1 (of_decide_eq_true h1)⟩
def minR : List (List UInt8) → List UInt8
 | [] => []
 | [r] => r
 | r :: l => if lexle r (minR l) then r else minR l
theorem minR_spec : ∀ l : List (List UInt8), l ≠ [] → minR l ∈ l ∧ ∀ r ∈ l, lexle (minR l) r = true := by
 intro l
 induction l with
 | nil => intro h; exact absurd rfl h
 | cons r l ih =>
  intro _
  cases l with
  | nil => exact ⟨List.mem_singleton.2 rfl, fun s hs => by rw [List.mem_singleton.1 hs]; exact lexle_refl r⟩
  | cons s l =>
   obtain ⟨h1, h2⟩ := ih (by simp)
   have e : minR (r :: s :: l) = if lexle r (minR (s :: l)) then r else minR (s :: l) := rfl
   rw [e]
   by_cases hc : lexle r (minR (s :: l)) = true
   · rw [if_pos hc]
     refine ⟨List.mem_cons_self .., fun t ht => ?_⟩
     rcases List.mem_cons.1 ht with rfl | ht
     · exact lexle_refl _
     · exact lexle_trans _ _ _ hc (h2 t ht)
   · rw [if_neg hc]
     refine ⟨List.mem_cons_of_mem _ h1, fun t ht => ?_⟩
     rcases List.mem_cons.1 ht with rfl | ht
     · exact (lexle_total _ _).resolve_left hc
     · exact h2 t ht
def lostAt (best : List UInt8) (i : Nat) (r : List UInt8) : Int := match fd r best with | some d => if d < i then (d : Int) else -1 | none => -1
theorem lostAt_some {best r : List UInt8} {i d : Nat} (h : fd r best = some d) : lostAt best i r = if d < i then (d : Int) else -1 := by unfold lostAt; rw [h]
theorem lostAt_none {best r : List UInt8} {i : Nat} (h : fd r best = none) : lostAt best i r = -1 := by unfold lostAt; rw [h]
theorem lostAt_neg (best : List UInt8) (i : Nat) (r : List UInt8) : lostAt best i r < 0 ↔ lostAt best i r = -1 := by
 unfold lostAt
 split
 · split <;> omega
 · omega
def firstBad : List Frame → Int
 | [] => 0
 | f :: l => if (BitsS f).2 ≠ 0 then (BitsS f).2 else firstBad l
theorem firstBad_at : ∀ (l : List Frame) (k : Nat) (q : Frame), l[k]? = some q → (∀ f ∈ l.take k, (BitsS f).2 = 0) → (BitsS q).2 ≠ 0 → firstBad l = (BitsS q).2 := by
 intro l
 induction l with
 | nil => intro k q h; simp at h
 | cons f l ih =>
  intro k q h hz hb
  cases k with
  | zero => cases h; rw [firstBad, if_pos hb]
  | succ k =>
   have := hz f (by simp)
   rw [firstBad, if_neg (fun h => h this)]
   exact ih k q h (fun g hg => hz g (by simp [hg])) hb
theorem firstBad_zero : ∀ l : List Frame, (∀ f ∈ l, (BitsS f).2 = 0) ↔ firstBad l = 0 := by
 intro l
 induction l with
 | nil => simp [firstBad]
 | cons f l ih =>
  rw [firstBad]
  constructor
  · intro h
    rw [if_neg (fun h2 => h2 (h f (List.mem_cons_self ..)))]
    exact ih.1 fun g hg => h g (List.mem_cons_of_mem _ hg)
  · intro h
    by_cases e : (BitsS f).2 ≠ 0
    · rw [if_pos e] at h; exact absurd h e
    · rw [if_neg e] at h
      intro g hg
      rcases List.mem_cons.1 hg with rfl | hg
      · simpa using e
      · exact ih.2 h g hg
def rowsOf (l : List Frame) : List (List UInt8) := l.map fun f => (BitsS f).1
def lostL (rows : List (List UInt8)) : List Int := rows.map (lostAt (minR rows) (minR rows).length)
def sendS (l : List Frame) : List UInt8 × Int × List Int × Int :=
 if 6 < l.length then ([], 0, [], 2) else if l.length = 0 then ([], 0, [], 8) else if firstBad l ≠ 0 then ([], 0, [], firstBad l) else
 if 1 < (lostL (rowsOf l)).count (-1) then ([], 0, [], 9) else (minR (rowsOf l), sidx (fun q => q == (-1 : Int)) (lostL (rowsOf l)), lostL (rowsOf l), 0)
def Apart (rows : List (List UInt8)) : Prop := ∀ r ∈ rows, ∀ s ∈ rows, r <+: s → r = s
theorem alive_row {rows : List (List UInt8)} (ha : Apart rows) {best r : List UInt8} (hb : best ∈ rows) (hmin : ∀ s ∈ rows, lexle best s = true) (hr : r ∈ rows) {i : Nat} (hl : lostAt best i r < 0) (hi : i < r.length) : i < best.length ∧ ∀ c x, best[i]? = some c → r[i]? = some x → c.toNat ≤ x.toNat ∧ (x ≠ c → fd r best = some i) ∧ (x = c → lostAt best (i + 1) r = -1) := by
 cases hf : fd r best with
 | none =>
  have e : r = best := by
   rcases fd_none _ _ hf with h | h
   · exact ha r hr best hb h
   · exact (ha best hb r hr h).symm
  subst e
  refine ⟨hi, fun c x h1 h2 => ?_⟩
  rw [h1] at h2
  cases h2
  exact ⟨Nat.le_refl _, fun h => absurd rfl h, fun _ => lostAt_none (fd_self _)⟩
 | some d =>
  rw [lostAt_some hf] at hl
  have hd : i ≤ d := by
   split at hl <;> omega
  obtain ⟨⟨x, y, h1, h2, h3⟩, h4⟩ := fd_some _ _ _ hf
  have hyl := (List.getElem?_eq_some_iff.1 h2).1
  refine ⟨by omega, fun c x' hc hx => ?_⟩
  rcases Nat.lt_or_ge i d with hid | hid
  · have := h4 i hid
    rw [hc, hx] at this
    cases this
    refine ⟨Nat.le_refl _, fun h => absurd rfl h, fun _ => ?_⟩
    rw [lostAt_some hf, if_neg (by omega)]
  · have : i = d := by omega
    subst this
    rw [h1] at hx; cases hx
    rw [h2] at hc; cases hc
    rw [fd_comm] at hf
    obtain ⟨a, b, g1, g2, g3⟩ := lexle_fd _ _ _ (hmin r hr) hf
    rw [h2] at g1; cases g1
    rw [h1] at g2; cases g2
    exact ⟨by omega, fun _ => rfl, fun h => absurd h h3⟩
theorem dead_row {best r : List UInt8} {i : Nat} (h : ¬ (lostAt best i r < 0 ∧ i < r.length)) : lostAt best (i + 1) r = lostAt best i r := by
 cases hf : fd r best with
 | none => rw [lostAt_none hf, lostAt_none hf]
 | some d =>
  rw [lostAt_some hf, lostAt_some hf] at *
  obtain ⟨⟨x, y, h1, h2, h3⟩, _⟩ := fd_some _ _ _ hf
  have hxl := (List.getElem?_eq_some_iff.1 h1).1
  by_cases hd : d < i
  · rw [if_pos hd, if_pos (by omega)]
  · rw [if_neg hd] at h ⊢
    rw [if_neg (by omega)]
def St (rows : List (List UInt8)) (best : List UInt8) (p : Nat → Nat) (z : List Sender) : Prop := z.length = rows.length ∧ ∀ (k : Nat) (r : List UInt8), rows[k]? = some r → z[k]? = some (⟨r, lostAt best (p k) r⟩ : Sender)
theorem St.get {rows : List (List UInt8)} {best : List UInt8} {p : Nat → Nat} {z : List Sender} (h : St rows best p z) {k : Nat} {q : Sender} (hq : z[k]? = some q) : ∃ r, rows[k]? = some r ∧ r ∈ rows ∧ q = (⟨r, lostAt best (p k) r⟩ : Sender) := by
 have hk : k < rows.length := by rw [← h.1]; exact (List.getElem?_eq_some_iff.1 hq).1
 have hr := List.getElem?_eq_getElem hk
 have := h.2 k _ hr
 rw [hq] at this
 exact ⟨_, hr, List.getElem_mem hk, Option.some.inj this⟩
theorem sidx_snoc_ne {l : List Int} {d : Int} (h : d ≠ -1) : sidx (fun q => q == (-1 : Int)) (l ++ [d]) = sidx (fun q => q == (-1 : Int)) l := by
 have e : (d == (-1 : Int)) = false := by simpa using h
 unfold sidx
 rw [List.findIdx?_append]
 cases hh : l.findIdx? (fun q => q == (-1 : Int)) with
 | some i => rfl
 | none =>
  have : ([d] : List Int).findIdx? (fun q => q == (-1 : Int)) = none := by simp [List.findIdx?_cons, e]
  rw [this]
  rfl
theorem sidx_neg {l : List Int} (h : sidx (fun q => q == (-1 : Int)) l < 0) : (-1 : Int) ∉ l := by
 intro hm
 have := sidx_ge (fun q => q == (-1 : Int)) l
 rw [decide_eq_false (by omega)] at this
 rw [eq_comm, List.any_eq_false] at this
 exact this _ hm rfl
theorem sidx_snoc {l : List Int} (h : (-1 : Int) ∉ l) : sidx (fun q => q == (-1 : Int)) (l ++ [-1]) = (l.length : Int) := by
 refine sidx_at _ _ l.length (-1) (by simp) rfl fun j x hj hx => ?_
 rw [List.getElem?_append_left hj] at hx
 have := List.mem_of_getElem? hx
 cases e : (x == (-1 : Int))
 · rfl
 · have : x = -1 := by simpa using e
   subst this
   exact absurd (List.mem_of_getElem? hx) h
theorem send_end {z : List Sender} {L : List Int} {n : Nat} {bx : List UInt8} {K : ((List UInt8) × Int × (List Int) × Int) → Prop} (hn : z.length = n) (hz : ∀ (k : Nat) (q : Sender), z[k]? = some q → L[k]? = some q.lost) (hL : L.length = n) (h6 : n ≤ 6) (hneg : ∀ d ∈ L, d < 0 → d = -1) (hK1 : 1 < L.count (-1) → K ([], 0, ([] : List Int), 9)) (hK2 : ¬ 1 < L.count (-1) → K (bx, sidx (fun q => q == (-1 : Int)) L, L, 0)) : (∃ inv394 : Int → (List Int) → Int → Prop, ∃ mu394 : Int → (List Int) → Int → Nat, inv394 (-1) ([] : List Int) 0 ∧ (∀ (x3 : Int) (x4v : List Int) (x126 : Int), inv394 x3 x4v x126 → (((decide (x126 < (z.length : Int))) = true → ((0 ≤ x126 ∧ x126 < (z.length : Int)) ∧ (∀ q424, z[x126.toNat]? = some q424 → (∃ inv443 : Int → (List Int) → Prop, (((decide (q424.lost ≥ 0)) = true → (inv443 x3 x4v)) ∧ ((decide (q424.lost ≥ 0)) = false → (((decide (x3 ≥ 0)) = true → (K ([], 0, ([] : List Int), 9))) ∧ ((decide (x3 ≥ 0)) = false → (inv443 x126 x4v))))) ∧ (∀ (x3v : Int) (x4vv : List Int), inv443 x3v x4vv → (((x4vv.length + 1) * 8 ≤ 140737488355328) ∧ (inv394 x3v (x4vv ++ [q424.lost]) (w64 (x126 + 1)) ∧ mu394 x3v (x4vv ++ [q424.lost]) (w64 (x126 + 1)) < mu394 x3 x4v x126))))))) ∧ ((decide (x126 < (z.length : Int))) = false → (K (bx, x3, x4v, 0)))))) := by
 refine ⟨fun x3 x4 x => ∃ k : Nat, x = k ∧ k ≤ n ∧ x4 = L.take k ∧ x3 = sidx (fun q => q == (-1 : Int)) (L.take k) ∧ (L.take k).count (-1) ≤ 1, fun _ _ x => n - x.toNat, ⟨0, rfl, by omega, by simp, by simp [sidx], by simp⟩, ?_⟩
 rintro x3 x4 _ ⟨k, rfl, hk, rfl, hx3, hcnt⟩
 refine ⟨fun h1 => ?_, fun h1 => ?_⟩
 · have hkn : k < n := by have := of_decide_eq_true h1; omega
   refine ⟨by omega, fun q hq => ?_⟩
   rw [Int.toNat_natCast] at hq
   have hLk := hz k q hq
   have htk := take_next L k _ hLk
   have hmem := List.mem_of_getElem? hLk
   refine ⟨fun y3 y4 => y4 = L.take k ∧ y3 = sidx (fun q => q == (-1 : Int)) (L.take (k + 1)) ∧ (L.take (k + 1)).count (-1) ≤ 1, ⟨fun h2 => ?_, fun h2 => ⟨fun h3 => ?_, fun h3 => ?_⟩⟩, ?_⟩
   · have h2 : q.lost ≠ -1 := by have := of_decide_eq_true h2; omega
     rw [htk, sidx_snoc_ne h2]
     refine ⟨rfl, hx3, ?_⟩
     rw [List.count_append, List.count_singleton]
     have : (q.lost == (-1 : Int)) = false := by simpa using h2
     rw [this]
     simpa using hcnt
   · have h2 : q.lost = -1 := hneg _ hmem (by have := of_decide_eq_false h2; omega)
     have h3 := of_decide_eq_true h3
     refine hK1 ?_
     have hm : (-1 : Int) ∈ L.take k := by
      have := sidx_ge (fun q => q == (-1 : Int)) (L.take k)
      rw [← hx3, decide_eq_true h3] at this
      obtain ⟨y, hy, hy2⟩ := List.any_eq_true.1 this.symm
      have : y = -1 := by simpa using hy2
      rwa [this] at hy
     have hc1 := List.count_pos_iff.2 hm
     have hsub := List.Sublist.count_le (-1 : Int) (List.take_sublist (k + 1) L)
     rw [htk, List.count_append, h2] at hsub
     simp at hsub
     omega
   · have h2 : q.lost = -1 := hneg _ hmem (by have := of_decide_eq_false h2; omega)
     have h3 := of_decide_eq_false h3
     have hnm : (-1 : Int) ∉ L.take k := sidx_neg (by rw [← hx3]; omega)
     rw [htk, h2, sidx_snoc hnm]
     refine ⟨rfl, by rw [List.length_take]; omega, ?_⟩
     rw [List.count_append, List.count_eq_zero.2 hnm]
     simp
   · rintro y3 y4 ⟨rfl, h3, h4⟩
     rw [w64_succ k (by omega), ← htk]
     exact ⟨by rw [List.length_take]; omega, ⟨k + 1, rfl, by omega, rfl, h3, h4⟩, by (try dsimp only); omega⟩
 · have hkn : k = n := by have := of_decide_eq_false h1; omega
   subst hkn
   rw [List.take_of_length_le (by omega)] at hx3 hcnt ⊢
   rw [hx3]
   exact hK2 (by omega)
def wpre (l : List Frame) : Prop := (∀ f ∈ l, ∀ x ∈ f.Data, 0 ≤ x ∧ x ≤ 255) ∧ Apart (rowsOf l)
theorem wsend_ok (l : List Frame) (hw : wpre l) : wsend_vc l (fun r => r = sendS l) := by
 have hd := hw.1
 intro _
 refine ⟨fun h1 => ?_, fun h1 => ⟨fun h2 => ?_, fun h2 => ?_⟩⟩
 · have := of_decide_eq_true h1
   unfold sendS
   rw [if_pos (by omega)]
 · have h2 : l.length = 0 := by
     have h2 : (l.length : Int) = 0 := by simpa only [beq_iff_eq] using h2
     omega
   unfold sendS
   rw [if_neg (by omega), if_pos h2]
 have h1 : ¬ 6 < l.length := by have := of_decide_eq_false h1; omega
 have h2 : ¬ l.length = 0 := by
  intro h
  rw [h] at h2
  cases h2
 refine ⟨fun x6 x7 x => ∃ k : Nat, x = k ∧ k ≤ l.length ∧ (∀ f ∈ l.take k, (BitsS f).2 = 0) ∧ x6 = (l.take k).map (fun f => (⟨(BitsS f).1, -1⟩ : Sender)) ∧ 0 ≤ x7 ∧ x7 ≤ 760 ∧ ∀ f ∈ l.take k, ((BitsS f).1.length : Int) ≤ x7, fun _ _ x => l.length - x.toNat, ⟨0, rfl, by omega, by simp, rfl, by omega, by omega, by simp⟩, ?_⟩
 rintro x6 x7 _ ⟨k, rfl, hk, hz, rfl, h70, h76, hlen⟩
 refine ⟨fun h3 => ?_, fun h3 => ?_⟩
 · have hkl : k < l.length := by have := of_decide_eq_true h3; omega
   refine ⟨by omega, fun q hq _ => ?_⟩
   rw [Int.toNat_natCast] at hq
   have hqm := List.mem_of_getElem? hq
   refine ⟨hd q hqm, fun h4 => ?_, fun h4 => ?_⟩
   · have h4 : (BitsS q).2 ≠ 0 := by simpa using h4
     have hfb := firstBad_at l k q hq hz h4
     unfold sendS
     rw [if_neg h1, if_neg h2, if_pos (by rw [hfb]; exact h4), hfb]
   · have h4 : (BitsS q).2 = 0 := by simpa using h4
     have hl := (bits_row0 (bits_ok h4)).1
     have htk := take_next l k q hq
     rw [w64_succ k (by omega)]
     refine ⟨by simp; omega, ⟨k + 1, rfl, by omega, ?_, ?_, by omega, by omega, ?_⟩, by (try dsimp only); omega⟩
     · intro f hf
       rw [htk] at hf
       rcases List.mem_append.1 hf with hf | hf
       · exact hz f hf
       · rw [List.mem_singleton.1 hf]; exact h4
     · rw [htk, List.map_append]; rfl
     · intro f hf
       rw [htk] at hf
       rcases List.mem_append.1 hf with hf | hf
       · have := hlen f hf; omega
       · rw [List.mem_singleton.1 hf]; omega
 have hkl : k = l.length := by have := of_decide_eq_false h3; omega
 subst hkl
 rw [List.take_length] at hz hlen ⊢
 have hfb : firstBad l = 0 := (firstBad_zero l).1 hz
 have hrl : (rowsOf l).length = l.length := by simp [rowsOf]
 have hmem : ∀ r ∈ rowsOf l, ∃ f ∈ l, (BitsS f).1 = r := fun r hr => by
  obtain ⟨f, hf, e⟩ := List.mem_map.1 hr
  exact ⟨f, hf, e⟩
 have hap : Apart (rowsOf l) := hw.2
 have hne : rowsOf l ≠ [] := fun h => by rw [h] at hrl; simp at hrl; omega
 obtain ⟨hbm, hmin⟩ := minR_spec _ hne
 have hrow : ∀ r ∈ rowsOf l, isRow r = true ∧ (r.length : Int) ≤ x7 := fun r hr => by
  obtain ⟨f, hf, rfl⟩ := hmem r hr
  exact ⟨(bits_row0 (bits_ok (hz f hf))).2, hlen f hf⟩
 have hS : sendS l = if 1 < (lostL (rowsOf l)).count (-1) then ([], 0, [], 9) else (minR (rowsOf l), sidx (fun q => q == (-1 : Int)) (lostL (rowsOf l)), lostL (rowsOf l), 0) := by
  unfold sendS
  rw [if_neg h1, if_neg h2, if_neg (by rw [hfb]; simp)]
 have hz0 : (l.map (fun f => (⟨(BitsS f).1, -1⟩ : Sender))).length = (rowsOf l).length ∧ ∀ (k : Nat) (r : List UInt8), (rowsOf l)[k]? = some r → (l.map (fun f => (⟨(BitsS f).1, -1⟩ : Sender)))[k]? = some (⟨r, lostAt (minR (rowsOf l)) 0 r⟩ : Sender) := by
  refine ⟨by simp [rowsOf], fun k r hr => ?_⟩
  unfold rowsOf at hr
  rw [List.getElem?_map] at hr ⊢
  obtain ⟨f, hf, rfl⟩ := Option.map_eq_some_iff.1 hr
  rw [hf]
  have : lostAt (minR (rowsOf l)) 0 (BitsS f).1 = -1 := by
   unfold lostAt
   split
   · rw [if_neg (by omega)]
   · rfl
  rw [Option.map_some, this]
 have hn6 : (rowsOf l).length ≤ 6 := by omega
 have hend : ∀ z : List Sender, St (rowsOf l) (minR (rowsOf l)) (fun _ => (minR (rowsOf l)).length) z → ∀ (k : Nat) (q : Sender), z[k]? = some q → (lostL (rowsOf l))[k]? = some q.lost := by
  intro z hz k q hq
  obtain ⟨r, hr, _, rfl⟩ := hz.get hq
  unfold lostL
  rw [List.getElem?_map, hr]
  rfl
 have hneg : ∀ d ∈ lostL (rowsOf l), d < 0 → d = -1 := by
  intro d hdm hd0
  obtain ⟨r, _, rfl⟩ := List.mem_map.1 hdm
  exact (lostAt_neg _ _ _).1 hd0
 have hLl : (lostL (rowsOf l)).length = (rowsOf l).length := by simp [lostL]
 rw [hS]
 generalize hrows : rowsOf l = rows at *
 generalize hbest : minR rows = best at *
 generalize (l.map (fun f => (⟨(BitsS f).1, -1⟩ : Sender))) = z0 at *
 have hbl : (best.length : Int) ≤ x7 := (hrow best hbm).2
 refine ⟨fun x12 x z => ∃ i : Nat, x = i ∧ i ≤ best.length ∧ bstr x12 = best.take i ∧ x12.length = i ∧ St rows best (fun _ => i) z, fun _ x _ => (x7 - x).toNat, ⟨0, rfl, by omega, rfl, rfl, hz0⟩, ?_⟩
 rintro x12 _ z ⟨i, rfl, hi, hx12, hxl, hst⟩
 have hzl := hst.1
 have hfin : best.length ≤ i → St rows best (fun _ => best.length) z := fun hge => by
  have : i = best.length := by omega
  rw [← this]
  exact hst
 refine ⟨fun h4 => ?_, fun h4 => ?_⟩
 · have h4 : (i : Int) < x7 := of_decide_eq_true h4
   refine ⟨fun y12 z' => i < best.length ∧ bstr y12 = best.take (i + 1) ∧ y12.length = i + 1 ∧ St rows best (fun _ => i + 1) z', ?_, ?_⟩
   · -- the least of what is sent
     refine ⟨fun x14 x15 x => ∃ j : Nat, x = j ∧ j ≤ rows.length ∧ (x15 = true → i < best.length) ∧ (∀ c, best[i]? = some c → (c.toNat : Int) ≤ x14) ∧ (best ∈ rows.take j → i < best.length → x15 = true ∧ ∀ c, best[i]? = some c → x14 = (c.toNat : Int)), fun _ _ x => rows.length - x.toNat, ⟨0, rfl, by omega, (fun h => by cases h), fun c hc => ?_, by simp⟩, ?_⟩
     · have := isBit_or (List.all_eq_true.1 (hrow best hbm).1 c (List.mem_of_getElem? hc))
       rcases this with rfl | rfl <;> decide
     · rintro x14 x15 _ ⟨j, rfl, hj, ha, hb, hcc⟩
       refine ⟨fun h5 => ?_, fun h5 => ⟨fun h6 => ?_, fun h6 => ?_⟩⟩
       · have hjn : j < rows.length := by have := of_decide_eq_true h5; omega
         refine ⟨fun y14 y15 => (y15 = true → i < best.length) ∧ (∀ c, best[i]? = some c → (c.toNat : Int) ≤ y14) ∧ (best ∈ rows.take (j + 1) → i < best.length → y15 = true ∧ ∀ c, best[i]? = some c → y14 = (c.toNat : Int)), ⟨by omega, fun q hq => ?_⟩, ?_⟩
         · rw [Int.toNat_natCast] at hq
           obtain ⟨r, hr, hrm, rfl⟩ := hst.get hq
           have htk := take_next rows j r hr
           refine ⟨fun h7 => ?_, fun h7 => ?_⟩
           · rw [Bool.and_eq_true, decide_eq_true_eq, decide_eq_true_eq] at h7
             obtain ⟨h7, h8⟩ := h7
             have h7 : lostAt best i r < 0 := h7
             have h8 : (i : Int) < (r.length : Int) := h8
             refine ⟨⟨by omega, h8⟩, fun c hc => ?_⟩
             have hc : r[i]? = some c := hc
             obtain ⟨g1, g2⟩ := alive_row hap hbm hmin hrm h7 (by omega)
             refine ⟨fun _ => g1, fun c' hc' => ?_, fun hbt _ => ⟨rfl, fun c' hc' => ?_⟩⟩
             · have := hb c' hc'
               have := (g2 c' c hc' hc).1
               omega
             · have k1 := hb c' hc'
               have k2 := (g2 c' c hc' hc).1
               rw [htk] at hbt
               rcases List.mem_append.1 hbt with hbt | hbt
               · have := (hcc hbt g1).2 c' hc'
                 omega
               · have e := List.mem_singleton.1 hbt
                 subst e
                 rw [hc'] at hc
                 cases hc
                 omega
           · refine ⟨ha, hb, fun hbt hib => ?_⟩
             rw [htk] at hbt
             rcases List.mem_append.1 hbt with hbt | hbt
             · exact hcc hbt hib
             · have e := List.mem_singleton.1 hbt
               subst e
               exfalso
               have h9 : lostAt best i best = -1 := lostAt_none (fd_self _)
               have : ((decide (lostAt best i best < 0)) && (decide ((i : Int) < (best.length : Int)))) = true := by
                rw [h9, decide_eq_true (by omega : (i : Int) < (best.length : Int))]
                rfl
               rw [show ((decide (lostAt best i best < 0)) && (decide ((i : Int) < (best.length : Int)))) = false from h7] at this
               cases this
         · rintro y14 y15 ⟨g1, g2, g3⟩
           rw [w64_succ j (by omega)]
           exact ⟨⟨j + 1, rfl, by omega, g1, g2, g3⟩, by (try dsimp only); omega⟩
       · -- none sends any more
         have hjn : j = rows.length := by have := of_decide_eq_false h5; omega
         subst hjn
         rw [List.take_length] at hcc
         have h6 : x15 = false := by simpa using h6
         have hge : best.length ≤ i := by
          rcases Nat.lt_or_ge i best.length with h | h
          · have := (hcc hbm h).1
            rw [h6] at this
            cases this
          · exact h
         refine send_end (K := fun r => r = if 1 < (lostL rows).count (-1) then ([], 0, [], 9) else (best, sidx (fun q => q == (-1 : Int)) (lostL rows), lostL rows, 0)) hzl (hend z (hfin hge)) hLl hn6 hneg (fun h => by rw [if_pos h]) (fun h => ?_)
         rw [if_neg h, hx12, List.take_of_length_le hge]
       · have hjn : j = rows.length := by have := of_decide_eq_false h5; omega
         subst hjn
         rw [List.take_length] at hcc
         have h6 : x15 = true := by simpa using h6
         have hib := ha h6
         have hbi := List.getElem?_eq_getElem hib
         generalize best[i] = c at hbi
         have hx14 := (hcc hbm hib).2 c hbi
         subst hx14
         refine ⟨by omega, ?_⟩
         refine ⟨fun x z' => ∃ j : Nat, x = j ∧ j ≤ rows.length ∧ St rows best (fun k => if k < j then i + 1 else i) z', fun x _ => rows.length - x.toNat, ⟨0, rfl, by omega, ?_⟩, ?_⟩
         · have : (fun k => if k < 0 then i + 1 else i) = fun _ : Nat => i := by funext k; rw [if_neg (Nat.not_lt_zero _)]
           rw [this]
           exact hst
         rintro _ z' ⟨j, rfl, hj, hz'⟩
         refine ⟨fun h7 => ?_, fun h7 => ?_⟩
         · have hjn : j < rows.length := by have := of_decide_eq_true h7; omega
           refine ⟨fun z'' => St rows best (fun k => if k < j + 1 then i + 1 else i) z'', ⟨by rw [hz'.1]; omega, fun q hq => ?_⟩, ?_⟩
           · rw [Int.toNat_natCast] at hq ⊢
             obtain ⟨r, hr, hrm, hqe⟩ := hz'.get hq
             rw [if_neg (Nat.lt_irrefl _)] at hqe
             have hsame : lostAt best (i + 1) r = lostAt best i r → St rows best (fun k => if k < j + 1 then i + 1 else i) z' := fun e => by
              refine ⟨hz'.1, fun k s hs => ?_⟩
              rw [hz'.2 k s hs]
              by_cases hkj : k = j
              · subst hkj
                rw [hr] at hs
                cases hs
                dsimp only
                rw [if_neg (Nat.lt_irrefl _), if_pos (Nat.lt_succ_self _), e]
              · have : (k < j + 1) ↔ (k < j) := by omega
                simp only [this]
             subst hqe
             refine ⟨fun h8 => ?_, fun h8 => ?_⟩
             · have h8 : lostAt best i r < 0 := of_decide_eq_true h8
               intro q2 hq2
               rw [hq] at hq2
               cases hq2
               refine ⟨fun h9 => ?_, fun h9 => ?_⟩
               · have h9 : (i : Int) < (r.length : Int) := of_decide_eq_true h9
                 intro q3 hq3
                 rw [hq] at hq3
                 cases hq3
                 refine ⟨⟨by omega, h9⟩, fun x hx => ?_⟩
                 have hx : r[i]? = some x := hx
                 obtain ⟨g1, g2⟩ := alive_row hap hbm hmin hrm h8 (by omega)
                 obtain ⟨k1, k2, k3⟩ := g2 c x hbi hx
                 refine ⟨fun h10 => ?_, fun h10 => ?_⟩
                 · intro q4 hq4
                   rw [hq] at hq4
                   cases hq4
                   have hxc : x ≠ c := fun e => by subst e; simp at h10
                   have hfd := k2 hxc
                   have e1 : lostAt best (i + 1) r = (i : Int) := by rw [lostAt_some hfd, if_pos (by omega)]
                   refine ⟨by rw [List.length_set]; exact hz'.1, fun k s hs => ?_⟩
                   rw [List.getElem?_set]
                   by_cases hkj : j = k
                   · subst hkj
                     rw [hr] at hs
                     cases hs
                     rw [if_pos rfl, if_pos (by rw [hz'.1]; exact hjn)]
                     dsimp only
                     rw [if_pos (Nat.lt_succ_self _), e1]
                   · rw [if_neg hkj, hz'.2 k s hs]
                     have : (k < j + 1) ↔ (k < j) := by omega
                     simp only [this]
                 · have hxc : x = c := by
                     have : (x.toNat : Int) = (c.toNat : Int) := by simpa only [bne_eq_false_iff_eq] using h10
                     exact UInt8.toNat_inj.1 (by omega)
                   exact hsame (by rw [k3 hxc, (lostAt_neg _ _ _).1 h8])
               · have h9 : ¬ (i : Int) < (r.length : Int) := of_decide_eq_false h9
                 exact hsame (dead_row (fun h => by omega))
             · have h8 : ¬ lostAt best i r < 0 := of_decide_eq_false h8
               exact hsame (dead_row (fun h => h8 h.1))
           · intro z'' hz''
             rw [w64_succ j (by omega)]
             exact ⟨⟨j + 1, rfl, by omega, hz''⟩, by (try dsimp only); omega⟩
         · have hjn : j = rows.length := by have := of_decide_eq_false h7; omega
           subst hjn
           refine ⟨hib, ?_, by simp [hxl], hz'.1, fun k s hs => ?_⟩
           · rw [bstr_append, hx12, bstr_one, take_next best i c hbi]
           · have := hz'.2 k s hs
             dsimp only at this
             rw [if_pos (List.getElem?_eq_some_iff.1 hs).1] at this
             exact this
   · rintro y12 z' ⟨g1, g2, g3, g4⟩
     rw [w64_succ i (by omega)]
     exact ⟨⟨i + 1, rfl, by omega, g2, g3, g4⟩, by (try dsimp only); omega⟩
 · have h4 : ¬ (i : Int) < x7 := of_decide_eq_false h4
   have hge : best.length ≤ i := by omega
   refine send_end (K := fun r => r = if 1 < (lostL rows).count (-1) then ([], 0, [], 9) else (best, sidx (fun q => q == (-1 : Int)) (lostL rows), lostL rows, 0)) hzl (hend z (hfin hge)) hLl hn6 hneg (fun h => by rw [if_pos h]) (fun h => ?_)
   rw [if_neg h, hx12, List.take_of_length_le hge]
def ieqS (a b : List Int) : Bool := decide (a = b)
theorem ieq_ok (a b : List Int) : ieq_vc a b (fun r => r = ieqS a b) := by
 intro ha hb
 refine ⟨fun h => ?_, fun h => ?_⟩
 · have h : ¬ (a.length : Int) = (b.length : Int) := by simpa using h
   unfold ieqS
   rw [decide_eq_false]
   intro e
   rw [e] at h
   exact h rfl
 · have h : a.length = b.length := by
     have h : (a.length : Int) = (b.length : Int) := by simpa only [bne_eq_false_iff_eq] using h
     omega
   refine ⟨fun i => ∃ k : Nat, i = k ∧ k ≤ a.length ∧ ∀ (j : Nat) (x y : Int), j < k → a[j]? = some x → b[j]? = some y → x = y, fun i => a.length - i.toNat, ⟨0, rfl, by omega, fun j _ _ hj => absurd hj (Nat.not_lt_zero _)⟩, ?_⟩
   rintro _ ⟨k, rfl, hk, hj⟩
   refine ⟨fun h1 => ?_, fun h1 => ?_⟩
   · have hk : k < a.length := by have := of_decide_eq_true h1; omega
     rw [w64_succ k (by omega)]
     refine ⟨by omega, fun q hq => ⟨by omega, fun p hp => ⟨fun h2 => ?_, fun h2 => ?_⟩⟩⟩
     · unfold ieqS
       rw [decide_eq_false]
       rintro rfl
       rw [hq] at hp
       cases hp
       simp at h2
     · have h2 : q = p := by simpa using h2
       rw [Int.toNat_natCast] at hq hp
       refine ⟨⟨k + 1, rfl, by omega, fun j x y hj1 hx hy => ?_⟩, by (try dsimp only); omega⟩
       rcases Nat.lt_or_ge j k with hc | hc
       · exact hj j x y hc hx hy
       · have : j = k := by omega
         subst this
         rw [hq] at hx
         rw [hp] at hy
         cases hx; cases hy; exact h2
   · have : k = a.length := by have := of_decide_eq_false h1; omega
     subst this
     unfold ieqS
     rw [decide_eq_true]
     exact list_eq_at h fun k x y hx hy => hj k x y (List.getElem?_eq_some_iff.1 hx).1 hx hy
end Go.Proofs.YtmnlahbngbigdaaGreatDoor
set_option linter.unusedVariables false
set_option linter.unusedSimpArgs false
namespace Go.Proofs.YtmnlahbngbigdaaGreatDoor
open Go.Sy Go.RowKit
def wired_vc  (K : Bool → Prop) : Prop := ((wpre ([(⟨6, false, false, false, 0, []⟩ : Frame), (⟨5, false, false, false, 0, []⟩ : Frame)] : List Frame)) ∧ ((sendS ([(⟨6, false, false, false, 0, []⟩ : Frame), (⟨5, false, false, false, 0, []⟩ : Frame)] : List Frame)).2.2.1.length ≤ 140737488355328 → ((∀ x ∈ (⟨5, false, false, false, 0, []⟩ : Frame).Data, 0 ≤ x ∧ x ≤ 255) ∧ (((((((sendS ([(⟨6, false, false, false, 0, []⟩ : Frame), (⟨5, false, false, false, 0, []⟩ : Frame)] : List Frame)).2.2.2 == 0) && ((BitsS (⟨5, false, false, false, 0, []⟩ : Frame)).2 == 0)) && ((sendS ([(⟨6, false, false, false, 0, []⟩ : Frame), (⟨5, false, false, false, 0, []⟩ : Frame)] : List Frame)).1 == (BitsS (⟨5, false, false, false, 0, []⟩ : Frame)).1)) && ((sendS ([(⟨6, false, false, false, 0, []⟩ : Frame), (⟨5, false, false, false, 0, []⟩ : Frame)] : List Frame)).2.1 == 1)) = true → (K (ieqS (sendS ([(⟨6, false, false, false, 0, []⟩ : Frame), (⟨5, false, false, false, 0, []⟩ : Frame)] : List Frame)).2.2.1 ([11, -1] : List Int)))) ∧ ((((((sendS ([(⟨6, false, false, false, 0, []⟩ : Frame), (⟨5, false, false, false, 0, []⟩ : Frame)] : List Frame)).2.2.2 == 0) && ((BitsS (⟨5, false, false, false, 0, []⟩ : Frame)).2 == 0)) && ((sendS ([(⟨6, false, false, false, 0, []⟩ : Frame), (⟨5, false, false, false, 0, []⟩ : Frame)] : List Frame)).1 == (BitsS (⟨5, false, false, false, 0, []⟩ : Frame)).1)) && ((sendS ([(⟨6, false, false, false, 0, []⟩ : Frame), (⟨5, false, false, false, 0, []⟩ : Frame)] : List Frame)).2.1 == 1)) = false → (K false))))))
end Go.Proofs.YtmnlahbngbigdaaGreatDoor
set_option linter.unusedVariables false
set_option linter.unusedSimpArgs false
namespace Go.Proofs.YtmnlahbngbigdaaGreatDoor
open Go.Sy Go.RowKit
def LNoise_vc (u0 : Frame) (u1 : List Int) (K : Bool → Prop) : Prop := (u0.Data.length ≤ 140737488355328 → (u1.length ≤ 140737488355328 → (wnoise_vc u0 u1 fun r22 => (r22.1.Data.length ≤ 140737488355328 → (((((fcheckfr u0) == 0) && (decide ((u1.length : Int) > 1000))) = true → (K ((r22.2 == 2) && (nofrS r22.1)))) ∧ ((((fcheckfr u0) == 0) && (decide ((u1.length : Int) > 1000))) = false → ((((fcheckfr u0) == 0) = true → ((fcheckfr u0 = 0 ∧ ∀ x ∈ u0.Data, 0 ≤ x ∧ x ≤ 255) ∧ (∃ inv162 : Int → (List UInt8) → Int → Prop, ∃ mu162 : Int → (List UInt8) → Int → Nat, inv162 (fcheckfr u0) (rbitsofS u0) 0 ∧ (∀ (x7 : Int) (x8 : List UInt8) (x35 : Int), inv162 x7 x8 x35 → (((decide (x35 < (u1.length : Int))) = true → ((0 ≤ x35 ∧ x35 < (u1.length : Int)) ∧ (∀ q190, u1[x35.toNat]? = some q190 → ((((decide (q190 < 0)) || (decide (q190 ≥ (x8.length : Int)))) = true → (K ((r22.2 == 3) && (nofrS r22.1)))) ∧ (((decide (q190 < 0)) || (decide (q190 ≥ (x8.length : Int)))) = false → ((0 ≤ q190 ∧ q190 ≤ (x8.length : Int)) ∧ ((0 ≤ q190 ∧ q190 < (x8.length : Int)) ∧ (∀ c295, x8[q190.toNat]? = some c295 → ((0 ≤ w64 (q190 + 1) ∧ w64 (q190 + 1) ≤ (x8.length : Int)) ∧ ((((x8.take q190.toNat).length : Int) + ((bstr ([(rother (c295.toNat : Int))] : List Int)).length : Int) ≤ 9223372036854775807) ∧ (((((x8.take q190.toNat) ++ (bstr ([(rother (c295.toNat : Int))] : List Int))).length : Int) + ((x8.drop (w64 (q190 + 1)).toNat).length : Int) ≤ 9223372036854775807) ∧ (inv162 x7 (((x8.take q190.toNat) ++ (bstr ([(rother (c295.toNat : Int))] : List Int))) ++ (x8.drop (w64 (q190 + 1)).toNat)) (w64 (x35 + 1)) ∧ mu162 x7 (((x8.take q190.toNat) ++ (bstr ([(rother (c295.toNat : Int))] : List Int))) ++ (x8.drop (w64 (q190 + 1)).toNat)) (w64 (x35 + 1)) < mu162 x7 x8 x35)))))))))))) ∧ ((decide (x35 < (u1.length : Int))) = false → (((x7 != 0) = true → (K ((r22.2 == x7) && (nofrS r22.1)))) ∧ ((x7 != 0) = false → ((bcheckS x8 = 0) ∧ ((rreadbitsS x8).1.Data.length ≤ 140737488355328 → (K ((r22.2 == (rreadbitsS x8).2.2) && (sameS r22.1 (rreadbitsS x8).1))))))))))))) ∧ (((fcheckfr u0) == 0) = false → ((((fcheckfr u0) != 0) = true → (K ((r22.2 == (fcheckfr u0)) && (nofrS r22.1)))) ∧ (((fcheckfr u0) != 0) = false → ((bcheckS [] = 0) ∧ ((rreadbitsS []).1.Data.length ≤ 140737488355328 → (K ((r22.2 == (rreadbitsS []).2.2) && (sameS r22.1 (rreadbitsS []).1)))))))))))))))
theorem wired_ok : wired_vc (fun r => r = true) := by
 refine ⟨⟨by decide, by unfold Apart; decide +kernel⟩, fun _ => ⟨by decide, fun _ => ?_, fun h => ?_⟩⟩
 · show ieqS _ _ = true
   decide +kernel
 · have e : ((((((sendS ([(⟨6, false, false, false, 0, []⟩ : Frame), (⟨5, false, false, false, 0, []⟩ : Frame)] : List Frame)).2.2.2) == 0) && (((BitsS (⟨5, false, false, false, 0, []⟩ : Frame)).2) == 0)) && (((sendS ([(⟨6, false, false, false, 0, []⟩ : Frame), (⟨5, false, false, false, 0, []⟩ : Frame)] : List Frame)).1) == ((BitsS (⟨5, false, false, false, 0, []⟩ : Frame)).1))) && (((sendS ([(⟨6, false, false, false, 0, []⟩ : Frame), (⟨5, false, false, false, 0, []⟩ : Frame)] : List Frame)).2.1) == 1)) = true := by decide +kernel
   exact absurd (e.symm.trans h) (by decide)
theorem LNoise_ok (f : Frame) (l : List Int) (k0 : okFrame f) (k1 : (∀ y0 ∈ l, IntKind.i64.min ≤ y0 ∧ y0 ≤ IntKind.i64.max) ∧ l.length * 8 ≤ lim) : LNoise_vc f l (fun r => r = true) := by
 have hd : ∀ x ∈ f.Data, 0 ≤ x ∧ x ≤ 255 := fun x hx => k0.2.2.2.2.2.1 x hx
 intro _ _
 refine wnoise_mono (fun r hr => ?_) (wnoise_ok f l hd)
 subst hr
 intro _
 have hnof : nofrS f0 = true := by unfold nofrS sameS f0; simp
 refine ⟨fun h => ?_, fun h => ⟨fun h2 => ⟨⟨by simpa using h2, hd⟩, ?_⟩, fun h2 => ⟨fun h3 => ?_, fun h3 => ?_⟩⟩⟩
 · have h : fcheckfr f = 0 ∧ 1000 < l.length := by
     have : fcheckfr f = 0 ∧ (1000 : Int) < (l.length : Int) := by simpa using h
     exact ⟨this.1, by omega⟩
   have e : noiseS f l = (f0, 2) := by unfold noiseS; rw [if_neg (fun k => k h.1), if_pos h.2]
   rw [e]
   show ((2 : Int) == 2 && nofrS f0) = true
   rw [hnof]; rfl
 · have h0 : fcheckfr f = 0 := by simpa using h2
   have hl : ¬ 1000 < l.length := by
    intro k
    rw [h0, decide_eq_true (show (l.length : Int) > 1000 by omega)] at h
    cases h
   obtain ⟨r1, r2⟩ := bits_row0 h0
   have hN : noiseS f l = match flips l (BitsS f).1 with
     | none => (f0, 3)
     | some row => ((readS row).1, (readS row).2.2) := by
    unfold noiseS
    rw [if_neg (fun k => k h0), if_neg hl]
    try (cases flips l (BitsS f).1 <;> rfl)
   refine ⟨fun x7 x8 x => x7 = 0 ∧ ∃ k : Nat, x = k ∧ k ≤ l.length ∧ isRow x8 = true ∧ x8.length ≤ 760 ∧ flips l (BitsS f).1 = flips (l.drop k) x8, fun _ _ x => l.length - x.toNat, ⟨h0, 0, rfl, by omega, r2, r1, rfl⟩, ?_⟩
   rintro x7 row x ⟨rfl, k, rfl, hk, hr, hrl, hfl⟩
   refine ⟨fun h3 => ?_, fun h3 => ?_⟩
   · have h3 : k < l.length := by have : (k : Int) < (l.length : Int) := by simpa using h3
                                  omega
     refine ⟨by omega, fun q hq => ?_⟩
     rw [Int.toNat_natCast] at hq
     rw [drop_at hq, flips] at hfl
     refine ⟨fun h4 => ?_, fun h4 => ?_⟩
     · have h4 : q < 0 ∨ (row.length : Int) ≤ q := by simpa using h4
       rw [if_neg (by omega)] at hfl
       rw [hN, hfl]
       show ((3 : Int) == 3 && nofrS f0) = true
       rw [hnof]; rfl
     · have h4 : 0 ≤ q ∧ q < (row.length : Int) := by simpa using h4
       rw [if_pos h4] at hfl
       refine ⟨by omega, by omega, fun c hc => ?_⟩
       have hb := List.all_eq_true.1 hr c (List.mem_of_getElem? hc)
       have e1 : w64 (q + 1) = q + 1 := w64_eq _ (by omega)
       have ek : w64 ((k : Int) + 1) = ((k + 1 : Nat) : Int) := by rw [w64_eq _ (by omega)]; omega
       rw [e1, ek, bstr_rother c hb]
       have hset : (row.take q.toNat ++ [flip c]) ++ row.drop (q + 1).toNat = fl row q.toNat := by
        unfold fl
        rw [hc, List.set_eq_take_append_cons_drop, if_pos (by omega), show (q + 1).toNat = q.toNat + 1 by omega]
        simp
       rw [hset]
       refine ⟨by omega, ?_, ?_, ⟨rfl, k + 1, rfl, by omega, fl_row hr _, by rw [fl_len]; exact hrl, hfl⟩, by (try dsimp only); omega⟩
       · simp only [List.length_take, List.length_cons, List.length_nil]; omega
       · simp only [List.length_append, List.length_take, List.length_drop, List.length_cons, List.length_nil]; omega
   · have h3 : k = l.length := by have : ¬ (k : Int) < (l.length : Int) := by simpa using h3
                                  omega
     rw [h3, List.drop_length, flips] at hfl
     refine ⟨fun h4 => by simp at h4, fun _ => ⟨(bcheck_zero row).2 ⟨by omega, hr⟩, fun _ => ?_⟩⟩
     rw [hN, hfl]
     unfold rreadbitsS sameS
     simp
 · have h3 : fcheckfr f ≠ 0 := by simpa using h3
   have e : noiseS f l = (f0, fcheckfr f) := by unfold noiseS; rw [if_pos h3]
   rw [e]
   show (fcheckfr f == fcheckfr f && nofrS f0) = true
   rw [hnof, beq_self_eq_true]; rfl
 · have h2 : fcheckfr f ≠ 0 := by simpa using h2
   have h3 : fcheckfr f = 0 := by simpa using h3
   exact absurd h3 h2
end Go.Proofs.YtmnlahbngbigdaaGreatDoor
set_option linter.unusedVariables false
set_option linter.unusedSimpArgs false
namespace Go.Proofs.YtmnlahbngbigdaaGreatDoor
open Go.Sy Go.RowKit
end Go.Proofs.YtmnlahbngbigdaaGreatDoor
