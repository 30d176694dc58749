import Derived.Test.YtmbdcehmeiiaoaaDoorCore
set_option linter.unusedVariables false
set_option linter.unusedSimpArgs false
namespace Go.Sy
open Go.RowKit

variable {P : Program} {ops : Array Oper} {Q : Exit → Act → World → Prop} {a : Act} {w : World} {rest : List Oper} {o : Oper} {n : Nat} {β : List Bool} {L : List En}

variable {B : Nat} {U : List Nat} {w0 : World} {Z0 Z Z' : Fz} {R : List Res} {w' : World}

variable {α : Type} {T : Ty α}
variable {C : World → Prop} {Qa : Act → Prop}
theorem SlR.isNone {ao : Option Addr} {cap : Nat} {xs : List α} (h : SlR T Z ao cap xs) : xs ≠ [] → ao.isNone = false := by
  intro hne
  obtain ⟨b, off, rfl, _⟩ := h.at_ hne
  rfl
theorem own_elx {e : TypeId} {g cap : Nat} {ao : Option Addr} {xs : List α} (hM : Mem B U w0 Z0 R Z w) (j : Nat) (hR : R[j]? = some (.own T e ao cap xs)) (hao : ao = some ⟨g, 0, none⟩) (i : Nat) {q : α} (hq : xs[i]? = some q) :
    ∃ cs, T.rep Z cs q ∧ ∀ k u, cs[k]? = some u → w.cell? ⟨g, i * T.n + k, none⟩ = some u := by
  subst hao
  exact own_el hM j hR i hq
/-- The same, the address told beside. -/
theorem sox (hF : Fr n β L a) (hM : Mem B U w0 Z0 R Z w) (j : Nat) {xs : List α} {g cap : Nat} {ao : Option Addr} (hao : ao = some ⟨g, 0, none⟩) (i : Nat) (x' : α) {t e : TypeId} {x y : Operand} {p : Nat} {u : Value} (hw : Region.wanted o (yielded ops a.tmps) = true) (hd : o.dst = none) (hop : o.op = .store t x y)
    (hx : ev L [] a x = .pointer (some ⟨g, p, none⟩)) (hp : p = i * T.n) (hy : ev L [] a y = u) (hR : R[j]? = some (.own T e ao cap xs)) (ht : szB P t T.n = true) (hi : i < xs.length) (hu : T.rep Z u.cells.toList x')
    (hK : ∀ w', Mem B U w0 Z0 (R.set j (.own T e ao cap (xs.set i x'))) Z w' → wpList P ops Q rest a w') : wpList P ops Q (o :: rest) a w := by
  subst hao
  exact so hF hM j i x' hw hd hop hx hp hy hR ht hi hu hK
end Go.Sy
