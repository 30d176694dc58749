/- Texts put together (pure ones, or walks made by program). -/
import Derived.Test.YtgddhhkpaoboiaaDoorKs0
set_option linter.unusedVariables false
set_option linter.unusedSimpArgs false
namespace Go.Proofs.YtgddhhkpaoboiaaDoor
open Go.Sy Go.RowKit
structure Counter where
  last : Int
  n : Int
  deriving DecidableEq, Inhabited
def Counter.enc (x : Counter) : List Value := [.int .u8 x.last, .int .i64 x.n]
def tyCounter : Ty Counter := tyFlat Counter.enc 2 (fun _ => rfl) (fun x => by simp [Counter.enc, Value.oneCell'])
def okCounter (x : Counter) : Prop := (IntKind.u8.min ≤ x.last ∧ x.last ≤ IntKind.u8.max) ∧ (IntKind.i64.min ≤ x.n ∧ x.n ≤ IntKind.i64.max)

structure Reader where
  Row : List UInt8
  At : Int
  Code : Int
  c : Counter
  deriving DecidableEq, Inhabited
def Reader.enc (x : Reader) : List Value := [str x.Row, .int .i64 x.At, .int .i64 x.Code, .int .u8 x.c.last, .int .i64 x.c.n]
def tyReader : Ty Reader := tyFlat Reader.enc 5 (fun _ => rfl) (fun x => by simp [Reader.enc, Value.oneCell'])
def okReader (x : Reader) : Prop := (x.Row.length ≤ lim) ∧ (IntKind.i64.min ≤ x.At ∧ x.At ≤ IntKind.i64.max) ∧ (IntKind.i64.min ≤ x.Code ∧ x.Code ≤ IntKind.i64.max) ∧ (okCounter x.c)

def tcl_vc (u0 : Int) (K : Int → Prop) : Prop :=
  (K (w32 (97 - u0)))
def tcl (u0 : Int) : Int :=
  w32 (97 - u0)
theorem tcl_ok (u0 : Int) : tcl_vc u0 (fun r => r = tcl u0) := (by rfl)

/-! Pure proofs: no program in sight. -/
/-- strings.Trim at a set of ASCII bytes. -/
def trimS (l cs : List UInt8) : List UInt8 := ((l.reverse.dropWhile (cs.contains ·)).reverse).dropWhile (cs.contains ·)
def isBit (c : UInt8) : Bool := c == 48 || c == 49
def isRow (b : List UInt8) : Bool := b.all isBit
def flip (c : UInt8) : UInt8 := if c = 48 then 49 else 48
theorem isBit_or {c : UInt8} (h : isBit c = true) : c = 48 ∨ c = 49 := by simpa [isBit] using h
theorem isRow_cons {c : UInt8} {b : List UInt8} : isRow (c :: b) = (isBit c && isRow b) := rfl
theorem isBit_flip (c : UInt8) : isBit (flip c) = true := by unfold flip; split <;> rfl
theorem w8_eq (x : Int) (h : 0 ≤ x ∧ x ≤ 255) : w8 x = x := IntWalk.u8_in x h
theorem drop_this {α : Type} (l : List α) (k : Nat) (q : α) (hq : l[k]? = some q) : l.drop k = q :: l.drop (k + 1) := by
  have hk : k < l.length := (List.getElem?_eq_some_iff.1 hq).1
  rw [List.drop_eq_getElem_cons hk]
  rw [List.getElem?_eq_getElem hk] at hq
  simp at hq
  rw [hq]
theorem bstr_append (a b : List Int) : bstr (a ++ b) = bstr a ++ bstr b := by simp [bstr]
theorem bstr_one (c : UInt8) : bstr [(c.toNat : Int)] = [c] := by simp [bstr]
def bcheckS (b : List UInt8) : Int := if 1000 < b.length then 2 else if isRow b then 0 else 4
theorem dropWhile_nil {α : Type} (p : α → Bool) (l : List α) : l.dropWhile p = [] ↔ l.all p = true := by
  induction l with
  | nil => simp
  | cons x l ih =>
    rw [List.dropWhile_cons]
    cases h : p x <;> simp [h, ih]
theorem trim_row (b : List UInt8) : trimS b [48, 49] = [] ↔ isRow b = true := by
  have e : ∀ l : List UInt8, l.all (fun x => ([48, 49] : List UInt8).contains x) = isRow l := by
    intro l
    unfold isRow
    congr 1
    funext x
    simp only [isBit, List.contains_cons, List.contains_nil, Bool.or_false]
  unfold trimS
  rw [dropWhile_nil, e]
  constructor
  · intro h
    -- what is left at the right end is no bit, unless nothing is left
    have h1 : ∀ l : List UInt8, isRow (l.dropWhile (fun x => ([48, 49] : List UInt8).contains x)) = true → isRow l = true := by
      intro l
      induction l with
      | nil => exact fun h => h
      | cons x l ih =>
        rw [List.dropWhile_cons]
        split
        · rename_i hx
          intro h
          rw [isRow_cons, ih h, Bool.and_true]
          simpa [isBit] using hx
        · exact fun h => h
    have h2 : ∀ l : List UInt8, isRow l.reverse = isRow l := fun l => by simp [isRow]
    rw [h2] at h
    have := h1 _ h
    rwa [h2] at this
  · intro h
    refine List.all_eq_true.2 fun c hc => ?_
    have hc := List.mem_reverse.1 hc
    have hc := (List.dropWhile_sublist _).subset hc
    exact List.all_eq_true.1 h c (List.mem_reverse.1 hc)
/-- One bit more. -/
def nx (c : Counter) (b : UInt8) : Counter := if (b.toNat : Int) = c.last then ⟨c.last, c.n + 1⟩ else ⟨b.toNat, 1⟩
def putF : Counter → List UInt8 → List UInt8
  | _, [] => []
  | c, b :: r => if (nx c b).n = 5 then b :: flip b :: putF (nx (nx c b) (flip b)) r else b :: putF (nx c b) r
def takeF : Counter → List UInt8 → Nat → Except Int (List UInt8 × List UInt8 × Counter)
  | c, r, 0 => .ok ([], r, c)
  | _, [], _ + 1 => .error 7
  | c, b :: r, n + 1 =>
    if (nx c b).n = 5 then
      match r with
      | [] => .error 7
      | y :: r' => if y = flip b then (takeF (nx (nx c b) (flip b)) r' n).map fun q => (b :: q.1, q.2) else .error 5
    else (takeF (nx c b) r n).map fun q => (b :: q.1, q.2)
theorem takeF_cons (c : Counter) (b : UInt8) (r : List UInt8) (n : Nat) : takeF c (b :: r) (n + 1) = if (nx c b).n = 5 then
      match r with
      | [] => .error 7
      | y :: r' => if y = flip b then (takeF (nx (nx c b) (flip b)) r' n).map fun q => (b :: q.1, q.2) else .error 5
    else (takeF (nx c b) r n).map fun q => (b :: q.1, q.2) := by
  cases r <;> simp [takeF]
def smapS (u : List UInt8) : List UInt8 := u.map flip
theorem w32_in (x : Int) : -2147483648 ≤ w32 x ∧ w32 x ≤ 2147483647 := by
  have e : w32 x = IntKind.i32.wrap x := rfl
  rw [e, IntKind.wrap_i32]
  omega
theorem tcl_bit (c : UInt8) (h : isBit c = true) : tcl (c.toNat : Int) = ((flip c).toNat : Int) := by
  rcases isBit_or h with rfl | rfl <;> decide
theorem flip_row (u : List UInt8) : isRow (u.map flip) = true := by
  unfold isRow
  rw [List.all_map, List.all_eq_true]
  exact fun c _ => isBit_flip c
theorem flip_eq {a b : UInt8} (ha : isBit a = true) (hb : isBit b = true) : ((flip a).toNat : Int) = ((flip b).toNat : Int) ↔ (a.toNat : Int) = (b.toNat : Int) := by
  rcases isBit_or ha with rfl | rfl <;> rcases isBit_or hb with rfl | rfl <;> decide
/-- Counters that see turned bits alike. -/
def Tw (c d : Counter) : Prop := d.n = c.n ∧ ∀ b, isBit b = true → (((flip b).toNat : Int) = d.last ↔ (b.toNat : Int) = c.last)
theorem Tw.start : Tw ⟨0, 0⟩ ⟨0, 0⟩ := ⟨rfl, fun b hb => by rcases isBit_or hb with rfl | rfl <;> decide⟩
theorem Tw.step {c d : Counter} (h : Tw c d) {b : UInt8} (hb : isBit b = true) : Tw (nx c b) (nx d (flip b)) := by
  unfold nx
  by_cases k : (b.toNat : Int) = c.last
  · rw [if_pos k, if_pos ((h.2 b hb).2 k)]
    exact ⟨by rw [h.1], h.2⟩
  · rw [if_neg k, if_neg (fun q => k ((h.2 b hb).1 q))]
    exact ⟨rfl, fun y hy => flip_eq hy hb⟩
theorem putF_flip : ∀ (u : List UInt8) (c d : Counter), isRow u = true → Tw c d → putF d (u.map flip) = (putF c u).map flip
  | [], _, _, _, _ => rfl
  | b :: r, c, d, hu, h => by
    rw [isRow_cons, Bool.and_eq_true] at hu
    have h1 := h.step hu.1
    rw [List.map_cons, putF, putF, h1.1]
    by_cases k : (nx c b).n = 5
    · rw [if_pos k, if_pos k, putF_flip r _ _ hu.2 (h1.step (isBit_flip b))]
      rfl
    · rw [if_neg k, if_neg k, putF_flip r _ _ hu.2 h1]
      rfl
end Go.Proofs.YtgddhhkpaoboiaaDoor
set_option linter.unusedVariables false
set_option linter.unusedSimpArgs false
namespace Go.Proofs.YtgddhhkpaoboiaaDoor
open Go.Sy Go.RowKit
def bcheck_vc (u0 : List UInt8) (K : Int → Prop) : Prop :=
  (((decide ((u0.length : Int) > 1000)) = true →
      (K 2)) ∧
    ((decide ((u0.length : Int) > 1000)) = false →
      ((u0.length ≤ 9223372036854775807 ∧ ([48, 49] : List UInt8).length < 4294967281 ∧ ([48, 49] : List UInt8).all (fun b => decide (b.toNat < 128)) = true) ∧
      ((((trimS u0 ([48, 49] : List UInt8)) != ([] : List UInt8)) = true →
        (K 4)) ∧
      (((trimS u0 ([48, 49] : List UInt8)) != ([] : List UInt8)) = false →
        (K 0))))))

def cnext_vc (u0 : Counter) (u1 : Int) (K : (Int × Bool × Counter) → Prop) : Prop :=
  (((u1 == u0.last) = true →
      (K (w8 (97 - u1), (w64 (u0.n + 1)) == 5, (⟨u0.last, w64 (u0.n + 1)⟩ : Counter)))) ∧
    ((u1 == u0.last) = false →
      (K (w8 (97 - u1), false, (⟨u1, 1⟩ : Counter)))))

def cnextR_vc (u0 : Reader) (u1 : Int) (K : (Int × Bool × Reader) → Prop) : Prop :=
  (((u1 == u0.c.last) = true →
      (K (w8 (97 - u1), (w64 (u0.c.n + 1)) == 5, (⟨u0.Row, u0.At, u0.Code, (⟨u0.c.last, w64 (u0.c.n + 1)⟩ : Counter)⟩ : Reader)))) ∧
    ((u1 == u0.c.last) = false →
      (K (w8 (97 - u1), false, (⟨u0.Row, u0.At, u0.Code, (⟨u1, 1⟩ : Counter)⟩ : Reader)))))

def rbit_vc (u0 : Reader) (K : (Int × Reader) → Prop) : Prop :=
  (((u0.Code != 0) = true →
      (K (48, u0))) ∧
    ((u0.Code != 0) = false →
      (((u0.At == (u0.Row.length : Int)) = true →
        (K (48, (⟨u0.Row, u0.At, 7, u0.c⟩ : Reader)))) ∧
      ((u0.At == (u0.Row.length : Int)) = false →
        ((0 ≤ w64 ((w64 (u0.At + 1)) - 1) ∧ w64 ((w64 (u0.At + 1)) - 1) < (u0.Row.length : Int)) ∧
        (∀ c122, u0.Row[(w64 ((w64 (u0.At + 1)) - 1)).toNat]? = some c122 →
        (K ((c122.toNat : Int), (⟨u0.Row, w64 (u0.At + 1), u0.Code, u0.c⟩ : Reader)))))))))

/-! Pure proofs: no program in sight. -/
theorem bcheck_ok (b : List UInt8) : bcheck_vc b (fun r => r = bcheckS b) := by
  refine ⟨fun h => ?_, fun h => ⟨⟨?_, by decide, by decide⟩, fun h1 => ?_, fun h1 => ?_⟩⟩
  · have : 1000 < b.length := by simp at h; omega
    simp [bcheckS, this]
  · simp at h; omega
  · have hn : ¬ 1000 < b.length := by simp at h; omega
    have : ¬ isRow b = true := fun hr => by
      rw [(trim_row b).2 hr] at h1
      cases h1
    simp [bcheckS, hn, this]
  · have hn : ¬ 1000 < b.length := by simp at h; omega
    have : isRow b = true := (trim_row b).1 (by simpa using h1)
    simp [bcheckS, hn, this]
theorem bcheck_zero (b : List UInt8) : bcheckS b = 0 ↔ b.length ≤ 1000 ∧ isRow b = true := by
  unfold bcheckS
  split
  · constructor
    · intro h; cases h
    · intro h; omega
  · split
    · rename_i h1 h2
      exact ⟨fun _ => ⟨by omega, h2⟩, fun _ => rfl⟩
    · rename_i h1 h2
      exact ⟨fun h => (by cases h), fun h => absurd h.2 h2⟩
/-- The counter's next, as the program has it. -/
def cnextS (c : Counter) (b : Int) : Int × Bool × Counter := if b = c.last then (97 - b, decide (c.n + 1 = 5), ⟨c.last, c.n + 1⟩) else (97 - b, false, ⟨b, 1⟩)
theorem cnext_ok (c : Counter) (b : Int) (h : -1000000 ≤ c.n ∧ c.n ≤ 1000000 ∧ 0 ≤ b ∧ b ≤ 97) : cnext_vc c b (fun r => r = cnextS c b) := by
  have e1 : w8 (97 - b) = 97 - b := w8_eq _ (by omega)
  have e2 : w64 (c.n + 1) = c.n + 1 := w64_eq _ (by omega)
  refine ⟨fun h1 => ?_, fun h1 => ?_⟩
  · have h1 : b = c.last := by simpa using h1
    rw [e1, e2]
    unfold cnextS
    rw [if_pos h1]
    rfl
  · have h1 : ¬ b = c.last := by simpa using h1
    rw [e1]
    unfold cnextS
    rw [if_neg h1]
def cnextRS (r : Reader) (b : Int) : Int × Bool × Reader := ((cnextS r.c b).1, (cnextS r.c b).2.1, ⟨r.Row, r.At, r.Code, (cnextS r.c b).2.2⟩)
theorem cnextR_ok (r : Reader) (b : Int) (h : -1000000 ≤ r.c.n ∧ r.c.n ≤ 1000000 ∧ 0 ≤ b ∧ b ≤ 97) : cnextR_vc r b (fun q => q = cnextRS r b) := by
  have e1 : w8 (97 - b) = 97 - b := w8_eq _ (by omega)
  have e2 : w64 (r.c.n + 1) = r.c.n + 1 := w64_eq _ (by omega)
  refine ⟨fun h1 => ?_, fun h1 => ?_⟩
  · have h1 : b = r.c.last := by simpa using h1
    rw [e1, e2]
    unfold cnextRS cnextS
    rw [if_pos h1]
    rfl
  · have h1 : ¬ b = r.c.last := by simpa using h1
    rw [e1]
    unfold cnextRS cnextS
    rw [if_neg h1]
def rbitS (r : Reader) : Int × Reader :=
  if r.Code ≠ 0 then (48, r) else match r.Row[r.At.toNat]? with
    | none => (48, ⟨r.Row, r.At, 7, r.c⟩)
    | some b => ((b.toNat : Int), ⟨r.Row, r.At + 1, r.Code, r.c⟩)
theorem rbit_ok (r : Reader) (h : 0 ≤ r.At ∧ r.At ≤ (r.Row.length : Int) ∧ r.Row.length ≤ 1000000) : rbit_vc r (fun q => q = rbitS r) := by
  refine ⟨fun h1 => ?_, fun h1 => ⟨fun h2 => ?_, fun h2 => ?_⟩⟩
  · have h1 : r.Code ≠ 0 := by simpa using h1
    unfold rbitS
    rw [if_pos h1]
  all_goals
    have h1 : ¬ r.Code ≠ 0 := by simpa using h1
  · have h2 : r.At = (r.Row.length : Int) := by simpa using h2
    have e : r.Row[r.At.toNat]? = none := List.getElem?_eq_none (by omega)
    unfold rbitS
    rw [if_neg h1, e]
  · have h2 : ¬ r.At = (r.Row.length : Int) := by simpa using h2
    have e1 : w64 (w64 (r.At + 1) - 1) = r.At := by
      rw [w64_eq (r.At + 1) (by omega), w64_eq _ (by omega)]
      omega
    have e2 : w64 (r.At + 1) = r.At + 1 := w64_eq _ (by omega)
    rw [e1, e2]
    refine ⟨by omega, fun b hb => ?_⟩
    unfold rbitS
    rw [if_neg h1, hb]
/-- The counter's next, of a bit. -/
theorem cnextS_bit (c : Counter) (b : UInt8) (h : isBit b = true) : cnextS c (b.toNat : Int) = (((flip b).toNat : Int), decide ((nx c b).n = 5), nx c b) := by
  have e : (97 : Int) - (b.toNat : Int) = ((flip b).toNat : Int) := by rcases isBit_or h with rfl | rfl <;> rfl
  unfold cnextS nx
  rw [e]
  split
  · rfl
  · rfl
theorem nx_last (c : Counter) (b : UInt8) : (nx c b).last = (b.toNat : Int) := by
  unfold nx
  split
  · rename_i h; exact h.symm
  · rfl
theorem nx_n (c : Counter) (b : UInt8) : (nx c b).n = if (b.toNat : Int) = c.last then c.n + 1 else 1 := by unfold nx; split <;> rfl
theorem nx_bound (c : Counter) (b : UInt8) (k : Int) (h : 0 ≤ c.n ∧ c.n ≤ k) : 1 ≤ (nx c b).n ∧ (nx c b).n ≤ k + 1 := by rw [nx_n]; split <;> omega
theorem flip_ne (b : UInt8) : (flip b).toNat ≠ b.toNat := by
  unfold flip
  split
  · rename_i h; subst h; decide
  · rename_i h
    intro e
    exact h (UInt8.toNat_inj.1 e).symm
theorem nx_flip (c : Counter) (b : UInt8) : nx (nx c b) (flip b) = ⟨((flip b).toNat : Int), 1⟩ := by
  have h : ¬ (((flip b).toNat : Int) = (nx c b).last) := by
    rw [nx_last]
    have := flip_ne b
    omega
  unfold nx at h ⊢
  rw [if_neg h]

end Go.Proofs.YtgddhhkpaoboiaaDoor
set_option linter.unusedVariables false
set_option linter.unusedSimpArgs false
namespace Go.Proofs.YtgddhhkpaoboiaaDoor
open Go.Sy Go.RowKit
def rtake_vc (u0 : Reader) (u1 : Int) (K : ((List UInt8) × Reader) → Prop) : Prop :=
  (∃ inv14 : (List Int) → Int → Reader → Prop, ∃ mu14 : (List Int) → Int → Reader → Nat, inv14 ([] : List Int) 0 u0 ∧
    (∀ (x5 : List Int) (x11 : Int) (yb1 : Reader), inv14 x5 x11 yb1 →
    (((decide (x11 < u1)) = true →
      ((0 ≤ yb1.At ∧ yb1.At ≤ (yb1.Row.length : Int) ∧ yb1.Row.length ≤ 1000000) ∧
      (∀ r42, (rbitS yb1) = r42 →
      (((r42.2.Code != 0) = true →
        (K ([], r42.2))) ∧
      ((r42.2.Code != 0) = false →
        (((x5.length + 1) * 1 ≤ 140737488355328) ∧
        ((-1000000 ≤ r42.2.c.n ∧ r42.2.c.n ≤ 1000000 ∧ 0 ≤ r42.1 ∧ r42.1 ≤ 97) ∧
        (∀ r105, (cnextRS r42.2 r42.1) = r105 →
        ((r105.2.1 = true →
          ((0 ≤ r105.2.2.At ∧ r105.2.2.At ≤ (r105.2.2.Row.length : Int) ∧ r105.2.2.Row.length ≤ 1000000) ∧
          (∀ r136, (rbitS r105.2.2) = r136 →
          ((((r136.2.Code == 0) && (r136.1 != r105.1)) = true →
            ((-1000000 ≤ (⟨r136.2.Row, r136.2.At, 5, r136.2.c⟩ : Reader).c.n ∧ (⟨r136.2.Row, r136.2.At, 5, r136.2.c⟩ : Reader).c.n ≤ 1000000 ∧ 0 ≤ r105.1 ∧ r105.1 ≤ 97) ∧
            (∀ r194, (cnextRS (⟨r136.2.Row, r136.2.At, 5, r136.2.c⟩ : Reader) r105.1) = r194 →
            (inv14 (x5 ++ [r42.1]) (w64 (x11 + 1)) r194.2.2 ∧ mu14 (x5 ++ [r42.1]) (w64 (x11 + 1)) r194.2.2 < mu14 x5 x11 yb1)))) ∧
          (((r136.2.Code == 0) && (r136.1 != r105.1)) = false →
            ((-1000000 ≤ r136.2.c.n ∧ r136.2.c.n ≤ 1000000 ∧ 0 ≤ r105.1 ∧ r105.1 ≤ 97) ∧
            (∀ r224, (cnextRS r136.2 r105.1) = r224 →
            (inv14 (x5 ++ [r42.1]) (w64 (x11 + 1)) r224.2.2 ∧ mu14 (x5 ++ [r42.1]) (w64 (x11 + 1)) r224.2.2 < mu14 x5 x11 yb1)))))))) ∧
        (r105.2.1 = false →
          (inv14 (x5 ++ [r42.1]) (w64 (x11 + 1)) r105.2.2 ∧ mu14 (x5 ++ [r42.1]) (w64 (x11 + 1)) r105.2.2 < mu14 x5 x11 yb1))))))))))) ∧
    ((decide (x11 < u1)) = false →
      (((yb1.Code != 0) = true →
        (K ([], yb1))) ∧
      ((yb1.Code != 0) = false →
        (K (bstr x5, yb1))))))))

def sput_vc (u0 : List UInt8) (K : ((List UInt8) × Int) → Prop) : Prop :=
  ((((bcheckS u0) != 0) = true →
      (K ([], (bcheckS u0)))) ∧
    (((bcheckS u0) != 0) = false →
      (∃ inv47 : (List Int) → Int → Counter → Prop, ∃ mu47 : (List Int) → Int → Counter → Nat, inv47 ([] : List Int) 0 (⟨0, 0⟩ : Counter) ∧
      (∀ (x5 : List Int) (x17 : Int) (yb34 : Counter), inv47 x5 x17 yb34 →
      (((decide (x17 < (u0.length : Int))) = true →
        ((0 ≤ x17 ∧ x17 < (u0.length : Int)) ∧
        (∀ c80, u0[x17.toNat]? = some c80 →
        (((x5.length + 1) * 1 ≤ 140737488355328) ∧
        ((0 ≤ x17 ∧ x17 < (u0.length : Int)) ∧
        (∀ c109, u0[x17.toNat]? = some c109 →
        ((-1000000 ≤ yb34.n ∧ yb34.n ≤ 1000000 ∧ 0 ≤ (c109.toNat : Int) ∧ (c109.toNat : Int) ≤ 97) ∧
        (∀ r120, (cnextS yb34 (c109.toNat : Int)) = r120 →
        ((r120.2.1 = true →
          ((((x5 ++ [(c80.toNat : Int)]).length + 1) * 1 ≤ 140737488355328) ∧
          ((-1000000 ≤ r120.2.2.n ∧ r120.2.2.n ≤ 1000000 ∧ 0 ≤ r120.1 ∧ r120.1 ≤ 97) ∧
          (∀ r173, (cnextS r120.2.2 r120.1) = r173 →
          (inv47 ((x5 ++ [(c80.toNat : Int)]) ++ [r120.1]) (w64 (x17 + 1)) r173.2.2 ∧ mu47 ((x5 ++ [(c80.toNat : Int)]) ++ [r120.1]) (w64 (x17 + 1)) r173.2.2 < mu47 x5 x17 yb34))))) ∧
        (r120.2.1 = false →
          (inv47 (x5 ++ [(c80.toNat : Int)]) (w64 (x17 + 1)) r120.2.2 ∧ mu47 (x5 ++ [(c80.toNat : Int)]) (w64 (x17 + 1)) r120.2.2 < mu47 x5 x17 yb34))))))))))) ∧
      ((decide (x17 < (u0.length : Int))) = false →
        (K (bstr x5, 0))))))))

def bturned_vc (u0 : List UInt8) (K : ((List UInt8) × Int) → Prop) : Prop :=
  ((((bcheckS u0) != 0) = true →
      (K ([], (bcheckS u0)))) ∧
    (((bcheckS u0) != 0) = false →
      ((isRow u0 = true ∧ u0.length ≤ 1000000) ∧
      (K ((smapS u0), 0)))))

/-! Pure proofs: no program in sight. -/
/-- The reader is right. -/
def Rok (r : Reader) : Prop := 0 ≤ r.At ∧ r.At ≤ (r.Row.length : Int) ∧ r.Row.length ≤ 1000000 ∧ isRow r.Row = true ∧ 0 ≤ r.c.n ∧ r.c.n ≤ 4
def rloop : Nat → List UInt8 → Reader → List UInt8 × Reader
  | 0, out, r => if r.Code ≠ 0 then ([], r) else (out, r)
  | k + 1, out, r =>
    if (rbitS r).2.Code ≠ 0 then ([], (rbitS r).2) else
    if (cnextRS (rbitS r).2 (rbitS r).1).2.1 = true then
      rloop k (out ++ bstr [(rbitS r).1]) (cnextRS (if (rbitS (cnextRS (rbitS r).2 (rbitS r).1).2.2).2.Code = 0 ∧ (rbitS (cnextRS (rbitS r).2 (rbitS r).1).2.2).1 ≠ (cnextRS (rbitS r).2 (rbitS r).1).1 then
        ⟨(rbitS (cnextRS (rbitS r).2 (rbitS r).1).2.2).2.Row, (rbitS (cnextRS (rbitS r).2 (rbitS r).1).2.2).2.At, 5, (rbitS (cnextRS (rbitS r).2 (rbitS r).1).2.2).2.c⟩ else (rbitS (cnextRS (rbitS r).2 (rbitS r).1).2.2).2) (cnextRS (rbitS r).2 (rbitS r).1).1).2.2
    else rloop k (out ++ bstr [(rbitS r).1]) (cnextRS (rbitS r).2 (rbitS r).1).2.2
def rtakeS (r : Reader) (n : Int) : List UInt8 × Reader := rloop n.toNat [] r
theorem rbitS_spec (r : Reader) (h : 0 ≤ r.At ∧ r.At ≤ (r.Row.length : Int) ∧ isRow r.Row = true) : ∃ b, isBit b = true ∧ (rbitS r).1 = (b.toNat : Int) ∧ (rbitS r).2.Row = r.Row ∧ (rbitS r).2.c = r.c ∧ 0 ≤ (rbitS r).2.At ∧ (rbitS r).2.At ≤ (r.Row.length : Int) ∧ r.At ≤ (rbitS r).2.At ∧
    ((rbitS r).2.Code = 0 → r.Code = 0 ∧ (rbitS r).2.At = r.At + 1 ∧ r.Row[r.At.toNat]? = some b) := by
  unfold rbitS
  split
  · rename_i hc
    exact ⟨48, rfl, rfl, rfl, rfl, h.1, h.2.1, Int.le_refl _, fun e => absurd e hc⟩
  · rename_i hc
    split
    · rename_i hn
      exact ⟨48, rfl, rfl, rfl, rfl, h.1, h.2.1, Int.le_refl _, fun e => by cases e⟩
    · rename_i b hb
      have hl := (List.getElem?_eq_some_iff.1 hb).1
      exact ⟨b, List.all_eq_true.1 h.2.2 b (List.mem_of_getElem? hb), rfl, rfl, rfl, by (try dsimp only); omega, by (try dsimp only); omega, by (try dsimp only); omega, fun e => ⟨e, rfl, hb⟩⟩
theorem cnextRS_bit (r : Reader) (b : UInt8) (h : isBit b = true) : cnextRS r (b.toNat : Int) = (((flip b).toNat : Int), decide ((nx r.c b).n = 5), ⟨r.Row, r.At, r.Code, nx r.c b⟩) := by
  unfold cnextRS
  rw [cnextS_bit r.c b h]
theorem bit97 (b : UInt8) (h : isBit b = true) : (0 : Int) ≤ (b.toNat : Int) ∧ (b.toNat : Int) ≤ 97 := by rcases isBit_or h with e | e <;> rw [e] <;> decide
theorem rtake_ok (r : Reader) (n : Int) (h : Rok r ∧ n ≤ 9223372036854775807) : rtake_vc r n (fun q => q = rtakeS r n) := by
  obtain ⟨hR, hn⟩ := h
  refine ⟨fun x i y => ∃ k : Nat, i = k ∧ (k : Int) ≤ max n 0 ∧ Rok y ∧ (x.length : Int) ≤ y.At ∧ rloop (n.toNat - k) (bstr x) y = rtakeS r n, fun _ i _ => n.toNat - i.toNat, ⟨0, rfl, by omega, hR, by simpa using hR.1, rfl⟩, ?_⟩
  rintro x _ y ⟨k, rfl, hk, hy, hx, hl⟩
  obtain ⟨a0, a1, a2, a3, a4, a5⟩ := hy
  have ew : (k : Int) < n → w64 ((k : Int) + 1) = ((k + 1 : Nat) : Int) := fun _ => w64_succ k (by omega)
  refine ⟨fun h1 => ⟨⟨a0, a1, a2⟩, ?_⟩, fun h1 => ⟨fun h2 => ?_, fun h2 => ?_⟩⟩
  · rintro _ rfl
    have hkn : (k : Int) < n := by simpa using h1
    rw [ew hkn]
    obtain ⟨m, hm⟩ : ∃ m, n.toNat - k = m + 1 := ⟨n.toNat - k - 1, by omega⟩
    have hm2 : n.toNat - (k + 1) = m := by omega
    rw [hm, rloop] at hl
    obtain ⟨b, hb, e1, e2, e3, e4, e5, e6, e7⟩ := rbitS_spec y ⟨a0, a1, a3⟩
    refine ⟨fun h2 => ?_, fun h2 => ?_⟩
    · rw [if_pos (by simpa using h2)] at hl
      exact hl
    · have h2 : (rbitS y).2.Code = 0 := by simpa using h2
      rw [if_neg (by simpa using h2)] at hl
      obtain ⟨c1, c2, c3⟩ := e7 h2
      rw [e1, cnextRS_bit _ b hb, e3, e2] at hl
      have hnb := nx_bound y.c b 4 ⟨a4, a5⟩
      have h97 := bit97 b hb
      refine ⟨by omega, ⟨by rw [e3]; omega, by rw [e3]; omega, by rw [e1]; exact h97.1, by rw [e1]; exact h97.2⟩, ?_⟩
      rw [e1, cnextRS_bit _ b hb, e3, e2]
      rintro _ rfl
      dsimp only at hl ⊢
      have hx2 : ((x ++ [(b.toNat : Int)]).length : Int) ≤ (rbitS y).2.At := by simp; omega
      have hbs : bstr (x ++ [(b.toNat : Int)]) = bstr x ++ bstr [(b.toNat : Int)] := bstr_append _ _
      have hf97 := bit97 (flip b) (isBit_flip b)
      refine ⟨fun h3 => ⟨⟨e4, e5, a2⟩, ?_⟩, fun h3 => ?_⟩
      · have h3' := of_decide_eq_true h3
        rw [if_pos h3] at hl
        obtain ⟨t, ht⟩ : ∃ t, t = rbitS ⟨y.Row, (rbitS y).2.At, (rbitS y).2.Code, nx y.c b⟩ := ⟨_, rfl⟩
        obtain ⟨b2, hb2, f1, f2, f3, f4, f5, f6, f7⟩ := rbitS_spec ⟨y.Row, (rbitS y).2.At, (rbitS y).2.Code, nx y.c b⟩ ⟨e4, e5, a3⟩
        rw [← ht] at f1 f2 f3 f4 f5 f6 f7 hl ⊢
        rintro _ rfl
        have hnn : t.2.c.n = 5 := by rw [f3]; exact h3'
        have hfl : nx t.2.c (flip b) = ⟨((flip b).toNat : Int), 1⟩ := by rw [f3]; exact nx_flip _ _
        refine ⟨fun h4 => ⟨⟨by (try dsimp only); omega, by (try dsimp only); omega, hf97.1, hf97.2⟩, ?_⟩, fun h4 => ⟨⟨by omega, by omega, hf97.1, hf97.2⟩, ?_⟩⟩
        · have h4' : t.2.Code = 0 ∧ t.1 ≠ ((flip b).toNat : Int) := by simpa using h4
          rw [if_pos h4'] at hl
          rintro _ rfl
          refine ⟨⟨k + 1, rfl, by omega, ?_, ?_, ?_⟩, by (try dsimp only); omega⟩
          · rw [cnextRS_bit _ _ (isBit_flip b)]
            dsimp only
            rw [hfl, f2]
            exact ⟨by (try dsimp only); omega, by (try dsimp only at *); omega, a2, a3, by show (0 : Int) ≤ 1; decide, by show (1 : Int) ≤ 4; decide⟩
          · rw [cnextRS_bit _ _ (isBit_flip b)]
            (try dsimp only at *)
            omega
          · rw [hm2, hbs]
            exact hl
        · have h4' : ¬ (t.2.Code = 0 ∧ t.1 ≠ ((flip b).toNat : Int)) := by
            intro hc
            have : ((t.2.Code == 0) && (t.1 != ((flip b).toNat : Int))) = true := by simpa using hc
            rw [this] at h4
            cases h4
          rw [if_neg h4'] at hl
          rintro _ rfl
          refine ⟨⟨k + 1, rfl, by omega, ?_, ?_, ?_⟩, by (try dsimp only); omega⟩
          · rw [cnextRS_bit _ _ (isBit_flip b)]
            dsimp only
            rw [hfl, f2]
            exact ⟨by (try dsimp only); omega, by (try dsimp only at *); omega, a2, a3, by show (0 : Int) ≤ 1; decide, by show (1 : Int) ≤ 4; decide⟩
          · rw [cnextRS_bit _ _ (isBit_flip b)]
            (try dsimp only at *)
            omega
          · rw [hm2, hbs]
            exact hl
      · have h3' := of_decide_eq_false h3
        rw [if_neg (by simpa using h3)] at hl
        refine ⟨⟨k + 1, rfl, by omega, ⟨e4, e5, a2, a3, by (try dsimp only); omega, by (try dsimp only); omega⟩, hx2, ?_⟩, by (try dsimp only); omega⟩
        rw [hm2, hbs]
        exact hl
  all_goals
    have hkn : n.toNat - k = 0 := by have : n ≤ (k : Int) := by simpa using h1
                                     omega
    rw [hkn, rloop] at hl
  · rw [if_pos (by simpa using h2)] at hl
    exact hl
  · rw [if_neg (by simpa using h2)] at hl
    exact hl
theorem rbitS_mk (row : List UInt8) (at_ code : Int) (c : Counter) : rbitS ⟨row, at_, code, c⟩ = if code ≠ 0 then (48, ⟨row, at_, code, c⟩) else match row[at_.toNat]? with
    | none => (48, ⟨row, at_, 7, c⟩)
    | some b => ((b.toNat : Int), ⟨row, at_ + 1, code, c⟩) := rfl
theorem rbitS_bad (r : Reader) (h : r.Code ≠ 0) : rbitS r = (48, r) := by unfold rbitS; rw [if_pos h]
theorem rloop_bad (n : Nat) (out : List UInt8) (r : Reader) (h : r.Code ≠ 0) : rloop n out r = ([], r) := by
  cases n with
  | zero => rw [rloop, if_pos h]
  | succ n => rw [rloop, rbitS_bad r h, if_pos h]
/-- What is taken, by the plain function. -/
theorem rloop_take : ∀ (n : Nat) (r : Reader) (out : List UInt8), Rok r → r.Code = 0 →
    match takeF r.c (r.Row.drop r.At.toNat) n with
    | .ok q => rloop n out r = (out ++ q.1, ⟨r.Row, (r.Row.length : Int) - (q.2.1.length : Int), 0, q.2.2⟩) ∧ q.2.1.length ≤ r.Row.length ∧ q.2.1 = r.Row.drop (r.Row.length - q.2.1.length) ∧ r.At.toNat + n + q.2.1.length ≤ r.Row.length ∧ 0 ≤ q.2.2.n ∧ q.2.2.n ≤ 4 ∧ q.1.length = n
    | .error e => ∃ q, rloop n out r = ([], q) ∧ q.Code = e ∧ e ≠ 0 ∧ q.Row = r.Row ∧ Rok q := by
  intro n
  induction n with
  | zero =>
    intro r out hR hc
    obtain ⟨a0, a1, a2, a3, a4, a5⟩ := hR
    rw [takeF, rloop, if_neg (by simpa using hc)]
    dsimp only
    have e : (r.Row.length : Int) - ((r.Row.drop r.At.toNat).length : Int) = r.At := by rw [List.length_drop]; omega
    rw [e, List.append_nil]
    refine ⟨by rw [← hc], by rw [List.length_drop]; omega, ?_, by rw [List.length_drop]; omega, a4, a5, rfl⟩
    rw [List.length_drop]
    congr 1
    omega
  | succ n ih =>
    intro r out hR hc
    obtain ⟨a0, a1, a2, a3, a4, a5⟩ := hR
    obtain ⟨b, hb, e1, e2, e3, e4, e5, e6, e7⟩ := rbitS_spec r ⟨a0, a1, a3⟩
    rw [rloop]
    by_cases hcode : (rbitS r).2.Code = 0
    · obtain ⟨c1, c2, c3⟩ := e7 hcode
      have hd := drop_this r.Row r.At.toNat b c3
      have hlt := (List.getElem?_eq_some_iff.1 c3).1
      rw [if_neg (by simpa using hcode), e1, cnextRS_bit _ b hb, e3, e2, hd, takeF_cons, bstr_one]
      dsimp only
      have hat : (rbitS r).2.At.toNat = r.At.toNat + 1 := by omega
      by_cases h5 : (nx r.c b).n = 5
      · rw [if_pos h5, if_pos (by simpa using h5)]
        obtain ⟨t, ht⟩ : ∃ t, t = rbitS ⟨r.Row, (rbitS r).2.At, (rbitS r).2.Code, nx r.c b⟩ := ⟨_, rfl⟩
        rw [← ht]
        have ht2 : t = match r.Row[r.At.toNat + 1]? with | none => (48, ⟨r.Row, (rbitS r).2.At, 7, nx r.c b⟩) | some b2 => ((b2.toNat : Int), ⟨r.Row, (rbitS r).2.At + 1, 0, nx r.c b⟩) := by
          rw [ht, rbitS_mk, hcode, hat, if_neg (by simp)]
        cases hr : r.Row[r.At.toNat + 1]? with
        | none =>
          rw [hr] at ht2
          dsimp only at ht2
          have hnil : r.Row.drop (r.At.toNat + 1) = [] := List.drop_eq_nil_of_le (by rw [List.getElem?_eq_none_iff] at hr; exact hr)
          rw [hnil]
          dsimp only
          rw [ht2]
          dsimp only
          rw [if_neg (by simp), cnextRS_bit _ _ (isBit_flip b)]
          dsimp only
          rw [nx_flip]
          have hRq : Rok ⟨r.Row, (rbitS r).2.At, 7, ⟨((flip b).toNat : Int), 1⟩⟩ := ⟨e4, e5, a2, a3, by show (0 : Int) ≤ 1; decide, by show (1 : Int) ≤ 4; decide⟩
          refine ⟨⟨r.Row, (rbitS r).2.At, 7, ⟨((flip b).toNat : Int), 1⟩⟩, ?_, rfl, by decide, rfl, hRq⟩
          exact rloop_bad _ _ _ (by simp)
        | some b2 =>
          rw [hr] at ht2
          dsimp only at ht2
          have hd2 := drop_this r.Row (r.At.toNat + 1) b2 hr
          have hlt2 := (List.getElem?_eq_some_iff.1 hr).1
          rw [hd2]
          dsimp only
          rw [ht2]
          dsimp only
          by_cases hy : b2 = flip b
          · rw [if_pos hy, if_neg (by subst hy; simp), cnextRS_bit _ _ (isBit_flip b)]
            dsimp only
            rw [nx_flip]
            have hRq : Rok ⟨r.Row, (rbitS r).2.At + 1, 0, ⟨((flip b).toNat : Int), 1⟩⟩ := ⟨by (try dsimp only); omega, by (try dsimp only); omega, a2, a3, by show (0 : Int) ≤ 1; decide, by show (1 : Int) ≤ 4; decide⟩
            have := ih ⟨r.Row, (rbitS r).2.At + 1, 0, ⟨((flip b).toNat : Int), 1⟩⟩ (out ++ [b]) hRq rfl
            dsimp only at this
            have hat2 : ((rbitS r).2.At + 1).toNat = r.At.toNat + 1 + 1 := by omega
            rw [hat2] at this
            cases hT : takeF ⟨((flip b).toNat : Int), 1⟩ (r.Row.drop (r.At.toNat + 1 + 1)) n with
            | ok q =>
              rw [hT] at this
              dsimp only at this
              show _ ∧ _
              dsimp only [Except.map]
              obtain ⟨g1, g2, g3, g4, g5, g6, g7⟩ := this
              refine ⟨by rw [g1]; simp, g2, g3, by omega, g5, g6, by simp [g7]⟩
            | error e =>
              rw [hT] at this
              exact this
          · have hy2 : ¬ (b2.toNat : Int) = ((flip b).toNat : Int) := fun h => hy (UInt8.toNat_inj.1 (by omega))
            rw [if_neg hy, if_pos ⟨rfl, hy2⟩, cnextRS_bit _ _ (isBit_flip b)]
            dsimp only
            rw [nx_flip]
            have hRq : Rok ⟨r.Row, (rbitS r).2.At + 1, 5, ⟨((flip b).toNat : Int), 1⟩⟩ := ⟨by (try dsimp only); omega, by (try dsimp only); omega, a2, a3, by show (0 : Int) ≤ 1; decide, by show (1 : Int) ≤ 4; decide⟩
            refine ⟨⟨r.Row, (rbitS r).2.At + 1, 5, ⟨((flip b).toNat : Int), 1⟩⟩, ?_, rfl, by decide, rfl, hRq⟩
            exact rloop_bad _ _ _ (by simp)
      · rw [if_neg h5, if_neg (by simpa using h5), hcode]
        have hnb := nx_bound r.c b 4 ⟨a4, a5⟩
        have hRq : Rok ⟨r.Row, (rbitS r).2.At, 0, nx r.c b⟩ := ⟨e4, e5, a2, a3, by (try dsimp only); omega, by (try dsimp only); omega⟩
        have := ih ⟨r.Row, (rbitS r).2.At, 0, nx r.c b⟩ (out ++ [b]) hRq rfl
        dsimp only at this
        rw [hat] at this
        cases hT : takeF (nx r.c b) (r.Row.drop (r.At.toNat + 1)) n with
        | ok q =>
          rw [hT] at this
          dsimp only at this
          show _ ∧ _
          dsimp only [Except.map]
          obtain ⟨g1, g2, g3, g4, g5, g6, g7⟩ := this
          refine ⟨by rw [g1]; simp, g2, g3, by omega, g5, g6, by simp [g7]⟩
        | error e =>
          rw [hT] at this
          exact this
    · rw [if_pos (by simpa using hcode)]
      have hn : r.Row[r.At.toNat]? = none ∧ (rbitS r).2 = ⟨r.Row, r.At, 7, r.c⟩ := by
        unfold rbitS at hcode ⊢
        rw [if_neg (by simpa using hc)] at hcode ⊢
        cases hr : r.Row[r.At.toNat]? with
        | none => exact ⟨rfl, rfl⟩
        | some b2 => rw [hr] at hcode; exact absurd hc hcode
      have hnil : r.Row.drop r.At.toNat = [] := List.drop_eq_nil_of_le (by have := hn.1; rw [List.getElem?_eq_none_iff] at this; exact this)
      rw [hnil, hn.2]
      exact ⟨_, rfl, rfl, by decide, rfl, a0, a1, a2, a3, a4, a5⟩
def sputS (b : List UInt8) : List UInt8 × Int := if bcheckS b ≠ 0 then ([], bcheckS b) else (putF ⟨0, 0⟩ b, 0)
theorem sput_ok (b : List UInt8) : sput_vc b (fun r => r = sputS b) := by
  refine ⟨fun h => ?_, fun h => ?_⟩
  · have h : bcheckS b ≠ 0 := by simpa using h
    unfold sputS
    rw [if_pos h]
  have h : ¬ bcheckS b ≠ 0 := by simpa using h
  obtain ⟨hl, hr⟩ := (bcheck_zero b).1 (by simpa using h)
  have hS : sputS b = (putF ⟨0, 0⟩ b, 0) := by unfold sputS; rw [if_neg h]
  rw [hS]
  refine ⟨fun x i c => ∃ k : Nat, i = k ∧ k ≤ b.length ∧ x.length ≤ 2 * k ∧ 0 ≤ c.n ∧ c.n ≤ 4 ∧ bstr x ++ putF c (b.drop k) = putF ⟨0, 0⟩ b, fun _ i _ => b.length - i.toNat, ⟨0, rfl, by omega, by simp, by decide, by decide, rfl⟩, ?_⟩
  rintro x _ c ⟨k, rfl, hk, hx, h0, h4, hp⟩
  refine ⟨fun h1 => ?_, fun h1 => ?_⟩
  · refine ⟨by simp at h1; omega, fun q hq => ?_⟩
    rw [Int.toNat_natCast] at hq
    have hkl : k < b.length := (List.getElem?_eq_some_iff.1 hq).1
    have hqb : isBit q = true := List.all_eq_true.1 hr q (List.mem_of_getElem? hq)
    refine ⟨by omega, by omega, fun q2 hq2 => ?_⟩
    rw [Int.toNat_natCast] at hq2
    obtain rfl : q2 = q := Option.some.inj (hq2.symm.trans hq)
    have hb := nx_bound c q2 4 ⟨h0, h4⟩
    have hq97 : (0 : Int) ≤ (q2.toNat : Int) ∧ (q2.toNat : Int) ≤ 97 := by rcases isBit_or hqb with rfl | rfl <;> decide
    have ew : w64 ((k : Int) + 1) = ((k + 1 : Nat) : Int) := w64_succ k (by omega)
    refine ⟨by omega, fun r hr1 => ?_⟩
    rw [cnextS_bit c q2 hqb] at hr1
    subst hr1
    rw [drop_this b k q2 hq, putF] at hp
    rw [ew]
    refine ⟨fun h2 => ?_, fun h2 => ?_⟩
    · have h2 : (nx c q2).n = 5 := of_decide_eq_true h2
      rw [if_pos h2] at hp
      have hf97 : (0 : Int) ≤ ((flip q2).toNat : Int) ∧ ((flip q2).toNat : Int) ≤ 97 := by rcases isBit_or (isBit_flip q2) with e | e <;> rw [e] <;> decide
      refine ⟨by simp; omega, by (try dsimp only); omega, fun r hr2 => ?_⟩
      rw [show (((flip q2).toNat : Int), decide ((nx c q2).n = 5), nx c q2).2.2 = nx c q2 from rfl, show (((flip q2).toNat : Int), decide ((nx c q2).n = 5), nx c q2).1 = ((flip q2).toNat : Int) from rfl, cnextS_bit _ _ (isBit_flip q2)] at hr2
      subst hr2
      refine ⟨⟨k + 1, rfl, by omega, by simp; omega, ?_, ?_, ?_⟩, by (try dsimp only); omega⟩
      · show 0 ≤ (nx (nx c q2) (flip q2)).n; rw [nx_flip]; show (0 : Int) ≤ 1; decide
      · show (nx (nx c q2) (flip q2)).n ≤ 4; rw [nx_flip]; show (1 : Int) ≤ 4; decide
      · rw [bstr_append, bstr_append, bstr_one, bstr_one, ← hp]
        simp
    · have h2 : ¬ (nx c q2).n = 5 := of_decide_eq_false h2
      rw [if_neg h2] at hp
      refine ⟨⟨k + 1, rfl, by omega, by simp; omega, by (try dsimp only); omega, by (try dsimp only); omega, ?_⟩, by (try dsimp only); omega⟩
      rw [bstr_append, bstr_one, ← hp]
      simp
  · have : k = b.length := by simp at h1; omega
    subst this
    rw [List.drop_length] at hp
    simp only [putF, List.append_nil] at hp
    rw [hp]
def bturnedS (b : List UInt8) : List UInt8 × Int := if bcheckS b ≠ 0 then ([], bcheckS b) else (smapS b, 0)
theorem bturned_ok (b : List UInt8) : bturned_vc b (fun r => r = bturnedS b) := by
  refine ⟨fun h => ?_, fun h => ?_⟩
  · have h : bcheckS b ≠ 0 := by simpa using h
    unfold bturnedS; rw [if_pos h]
  · have h : bcheckS b = 0 := by simpa using h
    obtain ⟨h1, h2⟩ := (bcheck_zero b).1 h
    unfold bturnedS; rw [if_neg (fun k => k h)]
    exact ⟨⟨h2, by omega⟩, rfl⟩
theorem turned_check {b : List UInt8} (h : bcheckS b = 0) : bcheckS (smapS b) = 0 :=
  (bcheck_zero _).2 ⟨by unfold smapS; rw [List.length_map]; exact ((bcheck_zero b).1 h).1, flip_row b⟩

end Go.Proofs.YtgddhhkpaoboiaaDoor
set_option linter.unusedVariables false
set_option linter.unusedSimpArgs false
namespace Go.Proofs.YtgddhhkpaoboiaaDoor
open Go.Sy Go.RowKit
def stake_vc (u0 : List UInt8) (u1 : Int) (K : ((List UInt8) × Int × Int) → Prop) : Prop :=
  ((((bcheckS u0) != 0) = true →
      (K ([], 0, (bcheckS u0)))) ∧
    (((bcheckS u0) != 0) = false →
      ((((decide (u1 < 0)) || (decide (u1 > 1000))) = true →
        (K ([], 0, 3))) ∧
      (((decide (u1 < 0)) || (decide (u1 > 1000))) = false →
        ((Rok (⟨u0, 0, 0, (⟨0, 0⟩ : Counter)⟩ : Reader) ∧ u1 ≤ 9223372036854775807) ∧
        (∀ r80, (rtakeS (⟨u0, 0, 0, (⟨0, 0⟩ : Counter)⟩ : Reader) u1) = r80 →
        (((r80.2.Code != 0) = true →
          (K ([], 0, r80.2.Code))) ∧
        ((r80.2.Code != 0) = false →
          (K (r80.1, r80.2.At, 0))))))))))

/-! Pure proofs: no program in sight. -/
def takebitsS (b : List UInt8) (n : Int) : List UInt8 × Int × Int := match takeF ⟨0, 0⟩ b n.toNat with
  | .error e => ([], 0, e)
  | .ok q => (q.1, (b.length : Int) - (q.2.1.length : Int), 0)
theorem Rok_start (b : List UInt8) (hl : b.length ≤ 1000000) (hr : isRow b = true) : Rok ⟨b, 0, 0, ⟨0, 0⟩⟩ :=
  ⟨Int.le_refl 0, by show (0 : Int) ≤ (b.length : Int); omega, hl, hr, Int.le_refl 0, by show (0 : Int) ≤ 4; decide⟩
def stakeS (b : List UInt8) (n : Int) : List UInt8 × Int × Int := if bcheckS b ≠ 0 then ([], 0, bcheckS b) else if n < 0 ∨ 1000 < n then ([], 0, 3) else takebitsS b n
theorem stake_ok (b : List UInt8) (n : Int) (hn : n ≤ 9223372036854775807) : stake_vc b n (fun r => r = stakeS b n) := by
  refine ⟨fun h => ?_, fun h => ⟨fun h1 => ?_, fun h1 => ?_⟩⟩
  · have h : bcheckS b ≠ 0 := by simpa using h
    unfold stakeS
    rw [if_pos h]
  all_goals
    have h : ¬ bcheckS b ≠ 0 := by simpa using h
  · unfold stakeS
    rw [if_neg h, if_pos (by simpa using h1)]
  · have h1 : ¬ (n < 0 ∨ 1000 < n) := by simp at h1; omega
    obtain ⟨hl, hr⟩ := (bcheck_zero b).1 (by simpa using h)
    have hR : Rok ⟨b, 0, 0, ⟨0, 0⟩⟩ := Rok_start b (by omega) hr
    have hS : stakeS b n = takebitsS b n := by unfold stakeS; rw [if_neg h, if_neg h1]
    rw [hS]
    refine ⟨⟨hR, hn⟩, ?_⟩
    have key := rloop_take n.toNat ⟨b, 0, 0, ⟨0, 0⟩⟩ [] hR rfl
    rintro _ rfl
    unfold rtakeS takebitsS
    dsimp only at key
    rw [show (0 : Int).toNat = 0 from rfl, List.drop_zero] at key
    cases hT : takeF ⟨0, 0⟩ b n.toNat with
    | error e =>
      rw [hT] at key
      obtain ⟨q, k1, k2, k3, _⟩ := key
      rw [k1]
      refine ⟨fun _ => by rw [k2], fun h2 => ?_⟩
      exfalso
      simp [k2, k3] at h2
    | ok q =>
      rw [hT] at key
      rw [key.1]
      exact ⟨fun h2 => (by simp at h2), fun _ => rfl⟩

end Go.Proofs.YtgddhhkpaoboiaaDoor
set_option linter.unusedVariables false
set_option linter.unusedSimpArgs false
namespace Go.Proofs.YtgddhhkpaoboiaaDoor
open Go.Sy Go.RowKit
def stuffed_vc  (K : Bool → Prop) : Prop :=
  ((((sputS ([49, 49, 49, 49, 49, 48, 48, 48, 48, 49, 49] : List UInt8)).1.length : Int) + (([49] : List UInt8).length : Int) ≤ 9223372036854775807) ∧
    (((11 : Int) ≤ 9223372036854775807) ∧
    (K ((((((sputS ([49, 49, 49, 49, 49, 48, 48, 48, 48, 49, 49] : List UInt8)).2 == 0) && ((stakeS ((sputS ([49, 49, 49, 49, 49, 48, 48, 48, 48, 49, 49] : List UInt8)).1 ++ ([49] : List UInt8)) 11).2.2 == 0)) && ((sputS ([49, 49, 49, 49, 49, 48, 48, 48, 48, 49, 49] : List UInt8)).1 == ([49, 49, 49, 49, 49, 48, 48, 48, 48, 48, 49, 49, 49] : List UInt8))) && ((stakeS ((sputS ([49, 49, 49, 49, 49, 48, 48, 48, 48, 49, 49] : List UInt8)).1 ++ ([49] : List UInt8)) 11).1 == ([49, 49, 49, 49, 49, 48, 48, 48, 48, 49, 49] : List UInt8))) && ((stakeS ((sputS ([49, 49, 49, 49, 49, 48, 48, 48, 48, 49, 49] : List UInt8)).1 ++ ([49] : List UInt8)) 11).2.1 == 13)))))

/-! Pure proofs: no program in sight. -/
theorem stuffed_ok : stuffed_vc (fun r => r = true) := by
  refine ⟨by decide, by omega, ?_⟩
  decide

end Go.Proofs.YtgddhhkpaoboiaaDoor
set_option linter.unusedVariables false
set_option linter.unusedSimpArgs false
namespace Go.Proofs.YtgddhhkpaoboiaaDoor
open Go.Sy Go.RowKit
def LSTurned_vc (u0 : List UInt8) (K : Bool → Prop) : Prop :=
  (((((sputS u0).2 != 0) || (decide (((sputS u0).1.length : Int) > 1000))) = true →
      (K true)) ∧
    ((((sputS u0).2 != 0) || (decide (((sputS u0).1.length : Int) > 1000))) = false →
      (K (((((bturnedS u0).2 == 0) && ((sputS (bturnedS u0).1).2 == 0)) && ((bturnedS (sputS u0).1).2 == 0)) && ((sputS (bturnedS u0).1).1 == (bturnedS (sputS u0).1).1)))))

/-! Pure proofs: no program in sight. -/
theorem put_isrow : ∀ (b : List UInt8) (c : Counter), isRow b = true → isRow (putF c b) = true
  | [], _, _ => rfl
  | x :: r, c, h => by
    rw [isRow_cons, Bool.and_eq_true] at h
    rw [putF]
    split
    · rw [isRow_cons, isRow_cons, h.1, isBit_flip, put_isrow r _ h.2]; rfl
    · rw [isRow_cons, h.1, put_isrow r _ h.2]; rfl
theorem LSTurned_ok (b : List UInt8) : LSTurned_vc b (fun r => r = true) := by
  refine ⟨fun _ => rfl, fun h => ?_⟩
  rw [Bool.or_eq_false_iff] at h
  have h1 : (sputS b).2 = 0 := by simpa using h.1
  have h2 : (sputS b).1.length ≤ 1000 := by have := of_decide_eq_false h.2; omega
  have hb : bcheckS b = 0 := by
    unfold sputS at h1
    by_cases k : bcheckS b = 0
    · exact k
    · rw [if_pos k] at h1; exact absurd h1 k
  obtain ⟨hl, hr⟩ := (bcheck_zero b).1 hb
  have e0 : sputS b = (putF ⟨0, 0⟩ b, 0) := by unfold sputS; rw [if_neg (fun k => k hb)]
  have e1 : bturnedS b = (b.map flip, 0) := by unfold bturnedS smapS; rw [if_neg (fun k => k hb)]
  have e2 : sputS (b.map flip) = ((putF ⟨0, 0⟩ b).map flip, 0) := by
    have : bcheckS (b.map flip) = 0 := turned_check hb
    unfold sputS; rw [if_neg (fun k => k this), putF_flip b _ _ hr Tw.start]
  rw [e0] at h2
  have hp : bcheckS (putF ⟨0, 0⟩ b) = 0 := (bcheck_zero _).2 ⟨h2, put_isrow b _ hr⟩
  have e3 : bturnedS (putF ⟨0, 0⟩ b) = ((putF ⟨0, 0⟩ b).map flip, 0) := by unfold bturnedS smapS; rw [if_neg (fun k => k hp)]
  rw [e0, e1]
  dsimp only
  rw [e2, e3]
  simp
theorem LSTurned_ok2 (b : List UInt8) {A : Prop} (_ : A) : LSTurned_vc b (fun r => r = true) := LSTurned_ok b

end Go.Proofs.YtgddhhkpaoboiaaDoor
