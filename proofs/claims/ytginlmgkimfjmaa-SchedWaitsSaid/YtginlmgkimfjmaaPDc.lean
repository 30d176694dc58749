/- What must hold so that each function ends well: pure predicates, made by program. -/
import Derived.Test.YtginlmgkimfjmaaPDb
set_option linter.unusedVariables false
set_option linter.unusedSimpArgs false
namespace Go.Proofs.Ytginlmgkimfjmaa
open Go.Sy Go.RowKit
def fsizes_vc  (K : (List Int) → Prop) : Prop :=
  (K ([0, 1, 2, 3, 4, 5, 6, 7, 8, 12, 16, 20, 24, 32, 48, 64] : List Int))
def fsizes  : (List Int) :=
  ([0, 1, 2, 3, 4, 5, 6, 7, 8, 12, 16, 20, 24, 32, 48, 64] : List Int)
theorem fsizes_ok  : fsizes_vc  (fun r => r = fsizes ) := (by rfl)

def fbit_vc (u0 : Bool) (K : (List UInt8) → Prop) : Prop :=
  ((u0 = true →
      (K ([49] : List UInt8))) ∧
    (u0 = false →
      (K ([48] : List UInt8))))
def fbit (u0 : Bool) : (List UInt8) :=
  bif u0 then ([49] : List UInt8)
    else ([48] : List UInt8)
theorem fbit_ok (u0 : Bool) : fbit_vc u0 (fun r => r = fbit u0) := ⟨fun h0 => (by simp only [fbit, h0, cond_true, cond_false]), fun h0 => (by simp only [fbit, h0, cond_true, cond_false])⟩

def smost_vc (u0 : Int) (K : (Int × Int) → Prop) : Prop :=
  ((((decide (u0 < 0)) || (decide (u0 > 1000))) = true →
      (K (0, 3))) ∧
    (((decide (u0 < 0)) || (decide (u0 > 1000))) = false →
      (((u0 == 0) = true →
        (K (0, 0))) ∧
      ((u0 == 0) = false →
        (K (w64 (u0 + (w64 ((w64 (u0 - 1)).tdiv 4))), 0))))))
def smost (u0 : Int) : Int × Int :=
  bif (decide (u0 < 0)) || (decide (u0 > 1000)) then (0, 3)
    else bif u0 == 0 then (0, 0)
    else (w64 (u0 + (w64 ((w64 (u0 - 1)).tdiv 4))), 0)
theorem smost_ok (u0 : Int) : smost_vc u0 (fun r => r = smost u0) := ⟨fun h0 => (by simp only [smost, h0, cond_true, cond_false]), fun h0 => ⟨fun h1 => (by simp only [smost, h0, h1, cond_true, cond_false]), fun h1 => (by simp only [smost, h0, h1, cond_true, cond_false])⟩⟩

def ckinds_vc  (K : (Kind × Kind × Kind × Kind × Kind) → Prop) : Prop :=
  (K ((⟨15, 17817, 0, 0⟩ : Kind), (⟨17, 92251, 65536, 0⟩ : Kind), (⟨21, 1058969, 1048576, 0⟩ : Kind), (⟨8, 47, 255, 255⟩ : Kind), (⟨16, 4129, 65535, 0⟩ : Kind)))
def ckinds  : (Kind × Kind × Kind × Kind × Kind) :=
  ((⟨15, 17817, 0, 0⟩ : Kind), (⟨17, 92251, 65536, 0⟩ : Kind), (⟨21, 1058969, 1048576, 0⟩ : Kind), (⟨8, 47, 255, 255⟩ : Kind), (⟨16, 4129, 65535, 0⟩ : Kind))
theorem ckinds_ok  : ckinds_vc  (fun r => r = ckinds ) := (by rfl)

def sindex_vc (u0 : List Int) (u1 : Int) (K : Int → Prop) : Prop :=
  (u0.length ≤ 140737488355328 →
    (∃ inv16 : Int → Prop, ∃ mu16 : Int → Nat, inv16 0 ∧
    (∀ (x8 : Int), inv16 x8 →
    (((decide (x8 < (u0.length : Int))) = true →
      ((0 ≤ x8 ∧ x8 < (u0.length : Int)) ∧
      (∀ q51, u0[x8.toNat]? = some q51 →
      (((u1 == q51) = true →
        (K x8)) ∧
      ((u1 == q51) = false →
        (inv16 (w64 (x8 + 1)) ∧ mu16 (w64 (x8 + 1)) < mu16 x8)))))) ∧
    ((decide (x8 < (u0.length : Int))) = false →
      (K (-1)))))))
theorem sindex_mono {u0 : List Int} {u1 : Int} {K K1 : Int → Prop} (hK : ∀ r, K r → K1 r) (h : sindex_vc u0 u1 K) : sindex_vc u0 u1 K1 :=
  fun z0 => (Exists.elim (h z0) fun i1 e1 => Exists.elim e1 fun m1 g1 => ⟨i1, m1, g1.1, fun x8 z1 => ⟨fun c2 => ⟨((g1.2 x8 z1).1 c2).1, fun y4 z4 => ⟨fun c5 => hK _ (((((g1.2 x8 z1).1 c2).2) y4 z4).1 c5), fun c5 => (((((g1.2 x8 z1).1 c2).2) y4 z4).2 c5)⟩⟩, fun c2 => hK _ ((g1.2 x8 z1).2 c2)⟩⟩)

def scontains_vc (u0 : List Int) (u1 : Int) (K : Bool → Prop) : Prop :=
  (u0.length ≤ 140737488355328 →
    (sindex_vc u0 u1 fun r13 =>
    (K (decide (r13 ≥ 0)))))

def fkind_vc (u0 : Frame) (K : Int → Prop) : Prop :=
  (u0.Data.length ≤ 140737488355328 →
    (((!u0.Fast) = true →
      (K 0)) ∧
    ((!u0.Fast) = false →
      (((decide ((u0.Data.length : Int) ≤ 16)) = true →
        (K 1)) ∧
      ((decide ((u0.Data.length : Int) ≤ 16)) = false →
        (K 2))))))
def fkind (u0 : Frame) : Int :=
  bif !u0.Fast then 0
    else bif decide ((u0.Data.length : Int) ≤ 16) then 1
    else 2
theorem fkind_ok (u0 : Frame) : fkind_vc u0 (fun r => r = fkind u0) := (fun _ => ⟨fun h0 => (by simp only [fkind, h0, cond_true, cond_false]), fun h0 => ⟨fun h1 => (by simp only [fkind, h0, h1, cond_true, cond_false]), fun h1 => (by simp only [fkind, h0, h1, cond_true, cond_false])⟩⟩)

def fname_vc (u0 : Frame) (K : (List UInt8) → Prop) : Prop :=
  (u0.Data.length ≤ 140737488355328 →
    (((!u0.Long) = true →
      ((0 ≤ (11 : Int) ∧ (11 : Int) ≤ 64 ∧ 0 ≤ (wu64 u0.ID) ∧ (wu64 u0.ID) < 2 ^ 62) ∧
      ((((bwriteS (wu64 u0.ID) 11).length : Int) + ((fbit u0.Remote).length : Int) ≤ 9223372036854775807) ∧
      (((((bwriteS (wu64 u0.ID) 11) ++ (fbit u0.Remote)).length : Int) + (([48] : List UInt8).length : Int) ≤ 9223372036854775807) ∧
      (K (((bwriteS (wu64 u0.ID) 11) ++ (fbit u0.Remote)) ++ ([48] : List UInt8))))))) ∧
    ((!u0.Long) = false →
      ((0 ≤ (11 : Int) ∧ (11 : Int) ≤ 64 ∧ 0 ≤ (wu64 (bShr .i64 u0.ID 18)) ∧ (wu64 (bShr .i64 u0.ID 18)) < 2 ^ 62) ∧
      ((((bwriteS (wu64 (bShr .i64 u0.ID 18)) 11).length : Int) + (([49, 49] : List UInt8).length : Int) ≤ 9223372036854775807) ∧
      ((0 ≤ (18 : Int) ∧ (18 : Int) ≤ 64 ∧ 0 ≤ (wu64 u0.ID) ∧ (wu64 u0.ID) < 2 ^ 62) ∧
      (((((bwriteS (wu64 (bShr .i64 u0.ID 18)) 11) ++ ([49, 49] : List UInt8)).length : Int) + ((bwriteS (wu64 u0.ID) 18).length : Int) ≤ 9223372036854775807) ∧
      ((((((bwriteS (wu64 (bShr .i64 u0.ID 18)) 11) ++ ([49, 49] : List UInt8)) ++ (bwriteS (wu64 u0.ID) 18)).length : Int) + ((fbit u0.Remote).length : Int) ≤ 9223372036854775807) ∧
      (K ((((bwriteS (wu64 (bShr .i64 u0.ID 18)) 11) ++ ([49, 49] : List UInt8)) ++ (bwriteS (wu64 u0.ID) 18)) ++ (fbit u0.Remote)))))))))))

def dasks_vc (u0 : Task) (u1 : Int) (u2 : Bool) (K : Int → Prop) : Prop :=
  ((u2 = true →
      ((u0.Every ≠ 0) ∧
      (K (w64 ((w64 ((w64 (u1 + u0.Jitter)).tdiv u0.Every)) + 1))))) ∧
    (u2 = false →
      ((u0.Every ≠ 0) ∧
      (K (w64 ((w64 ((w64 ((w64 (u1 + u0.Jitter)) + u0.Every)) - 1)).tdiv u0.Every))))))

def dcheck_vc (u0 : List Task) (K : Int → Prop) : Prop :=
  (u0.length ≤ 140737488355328 →
    (((decide ((u0.length : Int) > 20)) = true →
      (K 2)) ∧
    ((decide ((u0.length : Int) > 20)) = false →
      (∃ inv32 : Int → Int → Prop, ∃ mu32 : Int → Int → Nat, inv32 (-1) 0 ∧
      (∀ (x3 : Int) (x11 : Int), inv32 x3 x11 →
      (((decide (x11 < (u0.length : Int))) = true →
        ((0 ≤ x11 ∧ x11 < (u0.length : Int)) ∧
        (∀ q56, u0[x11.toNat]? = some q56 →
        ((((((((((((decide (q56.ID < 0)) || (decide (q56.ID > 2047))) || (decide (q56.Every < 1))) || (decide (q56.Every > 1000000))) || (decide (q56.Late < 0))) || (decide (q56.Late > 1000000))) || (decide (q56.Jitter < 0))) || (decide (q56.Jitter ≥ q56.Every))) || (decide (q56.Bytes < 0))) || (decide (q56.Bytes > 8))) = true →
          (K 3)) ∧
        (((((((((((decide (q56.ID < 0)) || (decide (q56.ID > 2047))) || (decide (q56.Every < 1))) || (decide (q56.Every > 1000000))) || (decide (q56.Late < 0))) || (decide (q56.Late > 1000000))) || (decide (q56.Jitter < 0))) || (decide (q56.Jitter ≥ q56.Every))) || (decide (q56.Bytes < 0))) || (decide (q56.Bytes > 8))) = false →
          (((decide (q56.ID ≤ x3)) = true →
            (K 4)) ∧
          ((decide (q56.ID ≤ x3)) = false →
            (inv32 q56.ID (w64 (x11 + 1)) ∧ mu32 q56.ID (w64 (x11 + 1)) < mu32 x3 x11)))))))) ∧
      ((decide (x11 < (u0.length : Int))) = false →
        (K 0))))))))

def tclone_vc (u0 : List Task) (K : (List Task) → Prop) : Prop :=
  (u0.length ≤ 140737488355328 →
    (∀ nb11, (u0 ≠ [] → nb11 = false) →
    ((nb11 = true →
      (K ([] : List Task))) ∧
    (nb11 = false →
      (((([] : List Task).length + u0.length) * 40 ≤ 140737488355328) ∧
      (K (([] : List Task) ++ u0)))))))

def dfix_vc (u0 : Int) (u1 : Int → Int) (K : Int → Prop) : Prop :=
  (∃ inv9 : Int → Prop, ∃ mu9 : Int → Nat, inv9 u0 ∧
    (∀ (x0 : Int), inv9 x0 →
    (((decide ((u1 x0) > 200000)) = true →
      (K (-1))) ∧
    ((decide ((u1 x0) > 200000)) = false →
      ((((u1 x0) == x0) = true →
        (K (u1 x0))) ∧
      (((u1 x0) == x0) = false →
        (inv9 (u1 x0) ∧ mu9 (u1 x0) < mu9 x0)))))))

/-! Pure proofs: no program in sight. -/
def sidx {α : Type} (p : α → Bool) (l : List α) : Int := match l.findIdx? p with | some i => (i : Int) | none => -1
theorem sidx_at {α : Type} (p : α → Bool) (l : List α) (k : Nat) (q : α) (hq : l[k]? = some q) (hp : p q = true) (hb : ∀ j x, j < k → l[j]? = some x → p x = false) : sidx p l = k := by
  unfold sidx
  have : l.findIdx? p = some k := by
    rw [List.findIdx?_eq_some_iff_getElem]
    obtain ⟨h1, h2⟩ := List.getElem?_eq_some_iff.1 hq
    exact ⟨h1, by rw [h2]; exact hp, fun j hj => by rw [hb j _ hj (List.getElem?_eq_getElem (by omega))]; simp⟩
  rw [this]
theorem sidx_none {α : Type} (p : α → Bool) (l : List α) (hb : ∀ (j : Nat) x, l[j]? = some x → p x = false) : sidx p l = -1 := by
  unfold sidx
  have : l.findIdx? p = none := by
    rw [List.findIdx?_eq_none_iff]
    intro x hx
    obtain ⟨j, hj⟩ := List.mem_iff_getElem?.1 hx
    exact hb j x hj
  rw [this]
theorem sidx_ge {α : Type} (p : α → Bool) (l : List α) : decide (sidx p l ≥ 0) = l.any p := by
  unfold sidx
  cases h : l.findIdx? p with
  | none =>
    have : l.any p = false := by
      rw [List.findIdx?_eq_none_iff] at h
      rw [List.any_eq_false]
      intro x hx
      simp [h x hx]
    rw [this]
    rfl
  | some i =>
    have : l.any p = true := by
      rw [List.findIdx?_eq_some_iff_getElem] at h
      obtain ⟨h1, h2, _⟩ := h
      exact List.any_eq_true.2 ⟨_, List.getElem_mem h1, h2⟩
    rw [this]
    simp
theorem sindex_ok (l : List Int) (x : Int) : sindex_vc l x (fun r => r = sidx (fun q => x == q) l) := by
  intro hl
  refine rg0 hl (fun k => ∀ j y, j < k → l[j]? = some y → (x == y) = false) (fun j y h => absurd h (Nat.not_lt_zero _)) ?_ ?_
  · intro k q hk hq hj inv mu hn
    refine ⟨fun h => (sidx_at _ l k q hq h hj).symm, fun h => hn fun j y hj1 hy => ?_⟩
    rcases Nat.lt_or_ge j k with h1 | h1
    · exact hj j y h1 hy
    · have : j = k := by omega
      subst this
      rw [hq] at hy
      cases hy
      exact h
  · intro hj
    refine (sidx_none _ l fun j y hy => hj j y (List.getElem?_eq_some_iff.1 hy).1 hy).symm
def scontainsS (l : List Int) (x : Int) : Bool := l.any fun q => x == q
theorem scontains_ok (l : List Int) (x : Int) : scontains_vc l x (fun r => r = scontainsS l x) := fun _ => sindex_mono (fun r h => by subst h; exact sidx_ge _ l) (sindex_ok l x)
def fnameS (f : Frame) : List UInt8 := if f.Long = false then (wr 11 f.ID.toNat ++ fbit f.Remote) ++ [48] else ((wr 11 (f.ID.toNat / 2 ^ 18) ++ [49, 49]) ++ wr 18 f.ID.toNat) ++ fbit f.Remote
theorem fbit_len (b : Bool) : (fbit b).length = 1 := by cases b <;> rfl
theorem fbit_row (b : Bool) : isRow (fbit b) = true := by cases b <;> rfl
theorem fname_ok (f : Frame) (h : 0 ≤ f.ID ∧ f.ID ≤ 536870911) : fname_vc f (fun r => r = fnameS f) := by
  intro hl
  have p62 : (2 : Int) ^ 62 = 4611686018427387904 := rfl
  have e1 : wu64 f.ID = f.ID := wu64_eq _ (by omega)
  have e2 : bShr .i64 f.ID 18 = ((f.ID.toNat / 2 ^ 18 : Nat) : Int) := by
    have := shrN f.ID.toNat 18 (by omega)
    rw [show ((f.ID.toNat : Nat) : Int) = f.ID by omega] at this
    exact this
  have hd : f.ID.toNat / 2 ^ 18 ≤ f.ID.toNat := Nat.div_le_self _ _
  have e3 : wu64 (bShr .i64 f.ID 18) = ((f.ID.toNat / 2 ^ 18 : Nat) : Int) := by rw [e2]; exact wu64_eq _ (by omega)
  have b1 : ∀ n s : Int, (bwriteS n s).length = s.toNat := fun n s => wr_length _ _
  have b2 := fbit_len f.Remote
  rw [e1, e3]
  refine ⟨fun h1 => ⟨by omega, by rw [b1, b2]; decide, by rw [List.length_append, b1, b2]; decide, ?_⟩, fun h1 => ⟨by omega, by rw [b1]; decide, by omega, by rw [List.length_append, b1, b1]; decide, by rw [List.length_append, List.length_append, b1, b1, b2]; decide, ?_⟩⟩
  · unfold fnameS
    rw [if_pos (by simpa using h1)]
    rfl
  · unfold fnameS
    rw [if_neg (by simpa using h1)]
    unfold bwriteS
    rw [Int.toNat_natCast]
    rfl
theorem fnameS_len (f : Frame) : (fnameS f).length = if f.Long = false then 13 else 32 := by
  unfold fnameS
  split <;> simp [wr_length, fbit_len]
theorem fnameS_row (f : Frame) : isRow (fnameS f) = true := by
  unfold fnameS
  split <;> simp only [isRow_append, wr_row, fbit_row] <;> rfl
def dasksS (t : Task) (x : Int) (at_ : Bool) : Int := if at_ = true then w64 (w64 ((w64 (x + t.Jitter)).tdiv t.Every) + 1) else w64 ((w64 (w64 (w64 (x + t.Jitter) + t.Every) - 1)).tdiv t.Every)
theorem dasks_ok (t : Task) (x : Int) (a : Bool) (h : t.Every ≠ 0) : dasks_vc t x a (fun r => r = dasksS t x a) := by
  unfold dasksS
  refine ⟨fun h1 => ⟨h, by rw [if_pos h1]⟩, fun h1 => ⟨h, by rw [if_neg (by simp [h1])]⟩⟩
def tok (t : Task) : Bool := decide (0 ≤ t.ID) && decide (t.ID ≤ 2047) && decide (1 ≤ t.Every) && decide (t.Every ≤ 1000000) && decide (0 ≤ t.Late) && decide (t.Late ≤ 1000000) && decide (0 ≤ t.Jitter) && decide (t.Jitter < t.Every) && decide (0 ≤ t.Bytes) && decide (t.Bytes ≤ 8)
theorem tok_spec {t : Task} (h : tok t = true) : 0 ≤ t.ID ∧ t.ID ≤ 2047 ∧ 1 ≤ t.Every ∧ t.Every ≤ 1000000 ∧ 0 ≤ t.Late ∧ t.Late ≤ 1000000 ∧ 0 ≤ t.Jitter ∧ t.Jitter < t.Every ∧ 0 ≤ t.Bytes ∧ t.Bytes ≤ 8 := by
  simp only [tok, Bool.and_eq_true, decide_eq_true_eq] at h
  omega
def dchk : Int → List Task → Int
  | _, [] => 0
  | last, t :: r => if tok t = false then 3 else if t.ID ≤ last then 4 else dchk t.ID r
def dcheckS (l : List Task) : Int := if 20 < l.length then 2 else dchk (-1) l
theorem dcheck_ok (l : List Task) : dcheck_vc l (fun r => r = dcheckS l) := by
  intro hl
  refine ⟨fun h => ?_, fun h => ?_⟩
  · unfold dcheckS
    rw [if_pos (by simp at h; omega)]
  · have hn : ¬ 20 < l.length := by simp at h; omega
    have hS : dcheckS l = dchk (-1) l := by unfold dcheckS; rw [if_neg hn]
    rw [hS]
    refine rg1b hl (fun k last => dchk last (l.drop k) = dchk (-1) l) rfl ?_ ?_
    · intro k last q hk hq hj inv mu hn2
      rw [drop_this l k q hq, dchk] at hj
      refine ⟨fun h1 => ?_, fun h1 => ?_⟩
      · have : tok q = false := by
          unfold tok
          simp at h1 ⊢
          omega
        rw [if_pos this] at hj
        exact hj
      · have : tok q = true := by
          unfold tok
          simp at h1 ⊢
          omega
        rw [if_neg (by simp [this])] at hj
        refine ⟨fun h2 => ?_, fun h2 => ?_⟩
        · rw [if_pos (by simpa using h2)] at hj
          exact hj
        · rw [if_neg (by simpa using h2)] at hj
          exact hn2 _ hj
    · intro last hj
      rw [List.drop_length] at hj
      exact hj
def tcloneS (l : List Task) : List Task := l
theorem tclone_ok (l : List Task) (h : l.length ≤ 2000000) : tclone_vc l (fun r => r = tcloneS l) := by
  intro _ nb hnb
  refine ⟨fun h1 => ?_, fun _ => ⟨by simp; omega, by simp [tcloneS]⟩⟩
  by_cases e : l = []
  · rw [e]; rfl
  · rw [hnb e] at h1; cases h1
def fixN : Nat → Int → (Int → Int) → Int
  | 0, _, _ => -1
  | k + 1, x, g => if 200000 < g x then -1 else if g x = x then g x else fixN k (g x) g
def dfixS (x : Int) (g : Int → Int) : Int := fixN 200002 x g
def fixpre (x : Int) (g : Int → Int) : Prop := 0 ≤ x ∧ x ≤ 200000 ∧ x ≤ g x ∧ ∀ y z, 0 ≤ y → y ≤ z → z ≤ 200000 → g y ≤ g z
theorem fixN_succ (k : Nat) (x : Int) (g : Int → Int) : fixN (k + 1) x g = if 200000 < g x then -1 else if g x = x then g x else fixN k (g x) g := rfl
attribute [irreducible] fixN
theorem dfix_ok (x : Int) (g : Int → Int) (h : fixpre x g) : dfix_vc x g (fun r => r = dfixS x g) := by
  obtain ⟨h0, h1, h2, h3⟩ := h
  refine ⟨fun y => ∃ k : Nat, (k : Int) ≤ y ∧ 0 ≤ y ∧ y ≤ 200000 ∧ y ≤ g y ∧ fixN (200002 - k) y g = dfixS x g, fun y => (200001 - y).toNat, ⟨0, by omega, h0, h1, h2, rfl⟩, ?_⟩
  rintro y ⟨k, hk, hy0, hy1, hy2, hf⟩
  obtain ⟨m, hm⟩ : ∃ m, 200002 - k = m + 1 := ⟨200001 - k, by omega⟩
  rw [hm, fixN_succ] at hf
  refine ⟨fun h4 => ?_, fun h4 => ⟨fun h5 => ?_, fun h5 => ?_⟩⟩
  · rw [if_pos (by simpa using h4)] at hf
    exact hf
  · rw [if_neg (by simpa using h4), if_pos (by simpa using h5)] at hf
    exact hf
  · rw [if_neg (by simpa using h4), if_neg (by simpa using h5)] at hf
    have h4 : g y ≤ 200000 := by simpa using h4
    have h5 : ¬ g y = y := by simpa using h5
    have hm2 : 200002 - (k + 1) = m := by omega
    refine ⟨⟨k + 1, by omega, by omega, h4, h3 y (g y) hy0 hy2 h4, by rw [hm2]; exact hf⟩, by (try dsimp only); omega⟩
def sindexS (l : List Int) (x : Int) : Int := sidx (fun q => x == q) l
theorem sindex_ok2 (l : List Int) (x : Int) : sindex_vc l x (fun r => r = sindexS l x) := sindex_ok l x

end Go.Proofs.Ytginlmgkimfjmaa
