/- What must hold so that each function ends well: pure predicates, made by program. -/
import Derived.Test.YtdndfbamhnchfaaDoorPC
set_option linter.unusedVariables false
set_option linter.unusedSimpArgs false
namespace Go.Proofs.YtdndfbamhnchfaaDoor
open Go.Sy Go.RowKit
def iisnan_vc (u0 : Int) (K : Bool → Prop) : Prop :=
  (K (u0 != u0))
def iisnan (u0 : Int) : Bool :=
  u0 != u0
theorem iisnan_ok (u0 : Int) : iisnan_vc u0 (fun r => r = iisnan u0) := (by rfl)

def swrite_vc (u0 : Signal) (u1 : List Int) (u2 : Int) (u3 : Int) (K : ((List Int) × Int) → Prop) : Prop :=
  (u1.length ≤ 140737488355328 →
    ((((checkS u0 (u1.length : Int)) != 0) = true →
      (K (([] : List Int), (checkS u0 (u1.length : Int))))) ∧
    (((checkS u0 (u1.length : Int)) != 0) = false →
      (((((rawS u0 u2 u3).2) != 0) = true →
        (K (([] : List Int), (rawS u0 u2 u3).2))) ∧
      ((((rawS u0 u2 u3).2) != 0) = false →
        ((u1.length ≤ 140737488355328) ∧
        ((bcloneS u1).length ≤ 140737488355328 →
        ((inD u0 (bcloneS u1)) ∧
        ((putS u0 (bcloneS u1) ((rawS u0 u2 u3).1)).length ≤ 140737488355328 →
        (K ((putS u0 (bcloneS u1) ((rawS u0 u2 u3).1)), 0)))))))))))

def sread_vc (u0 : Signal) (u1 : List Int) (K : (Int × Reading × Int) → Prop) : Prop :=
  (u1.length ≤ 140737488355328 →
    ((((checkS u0 (u1.length : Int)) != 0) = true →
      (K (0, (⟨[], 0, 0⟩ : Reading), (checkS u0 (u1.length : Int))))) ∧
    (((checkS u0 (u1.length : Int)) != 0) = false →
      ((inD u0 u1) ∧
      ((factS u0 ∧ -1099511627776 ≤ (getS u0 u1) ∧ (getS u0 u1) ≤ 1099511627776) ∧
      (K ((getS u0 u1), (meanS u0 (getS u0 u1)), 0)))))))

/-! Pure proofs: no program in sight. -/
theorem re3m {P : Program} {n : Nat} {β : List Bool} {L : List En} {a : Act} {w : World} (hF : Fr n β L a) {fn : Func} {p t u : Tmp} {ty : TypeId} {ad : Addr} (h : fn.results = #[.tmp t, .cell p ty, .tmp u]) {v x y : Value} (hp : ev L [] a (.tmp p) = .pointer (some ad)) (hl : (loadVar ty ad).run P w = .ok v w) (hx : ev L [] a (.tmp t) = x) (hy : ev L [] a (.tmp u) = y) :
    (results fn a.tmps).run P w = .ok (.tuple #[x, v, y]) w := by
  rw [ev_eq hF (g := []) rfl] at hp hx hy; subst hx; subst hy
  simp only [Act.eval, Array.getD_eq_getD_getElem?] at hp
  simp [results, h, hp, asAddr, hl, Act.eval]
theorem inD_of {s : Signal} {d : List Int} (hd : isBytes d) (h : checkS s d.length = 0) : inD s d := by
  obtain ⟨h1, h2, h3, h4⟩ := check_zero h
  exact ⟨⟨⟨h3.1, by omega⟩, h1.2.2.1, h1.2.2.2⟩, hd, fun p hp => by have := h4 p hp; omega⟩
theorem get_bound {s : Signal} {d : List Int} (h : 1 ≤ s.Size ∧ s.Size ≤ 40) : -1099511627776 ≤ getS s d ∧ getS s d ≤ 1099511627776 := by
  have hv := vb_lt ((plS s).map (bitat d))
  rw [List.length_map, plS_len] at hv
  have hb : 2 ^ s.Size.toNat ≤ 1099511627776 := Nat.pow_le_pow_right (by omega : 0 < 2) (by omega : s.Size.toNat ≤ 40)
  have c : ((2 ^ s.Size.toNat : Nat) : Int) = (2 : Int) ^ s.Size.toNat := by norm_cast
  unfold getS sgn
  rw [← c]
  split <;> omega
theorem swrite_ok (s : Signal) (d : List Int) (num den : Int) (hd : isBytes d) : swrite_vc s d num den (fun r => r = swriteS s d num den) := by
  intro hl
  unfold swriteS
  refine ⟨fun h => ?_, fun h => ⟨fun h1 => ?_, fun h1 => ?_⟩⟩
  · rw [if_pos (by simpa using h)]
  · rw [if_neg (by simpa using h), if_pos (by simpa using h1)]
  · rw [if_neg (by simpa using h), if_neg (by simpa using h1)]
    have h0 : checkS s d.length = 0 := by simpa using h
    exact ⟨hl, fun _ => ⟨inD_of hd h0, fun _ => rfl⟩⟩
theorem sread_ok (s : Signal) (d : List Int) (hd : isBytes d) : sread_vc s d (fun r => r = sreadS s d) := by
  intro hl
  unfold sreadS
  refine ⟨fun h => ?_, fun h => ?_⟩
  · rw [if_pos (by simpa using h)]
  · have h0 : checkS s d.length = 0 := by simpa using h
    obtain ⟨h1, h2, _⟩ := check_zero h0
    have hb := get_bound (s := s) (d := d) h1.2.2
    rw [if_neg (by simpa using h)]
    exact ⟨inD_of hd h0, ⟨h2, hb.1, hb.2⟩, rfl⟩

end Go.Proofs.YtdndfbamhnchfaaDoor
