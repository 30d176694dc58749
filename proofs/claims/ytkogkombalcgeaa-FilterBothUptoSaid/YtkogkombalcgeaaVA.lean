/- What must hold so that each function ends well: pure predicates, made by program. -/
import Derived.Test.YtkogkombalcgeaaCore
set_option linter.unusedVariables false
set_option linter.unusedSimpArgs false
namespace Go.Proofs.Ytkogkombalcgeaa
open Go.Sy Go.RowKit
structure Filter where
  Want : Int
  Mask : Int
  Long : Bool
  deriving DecidableEq, Inhabited
def Filter.enc (x : Filter) : List Value := [.int .i64 x.Want, .int .i64 x.Mask, .bool x.Long]
def tyFilter : Ty Filter := tyFlat Filter.enc 3 (fun _ => rfl) (fun x => by simp [Filter.enc, Value.oneCell'])
def okFilter (x : Filter) : Prop := (IntKind.i64.min ≤ x.Want ∧ x.Want ≤ IntKind.i64.max) ∧ (IntKind.i64.min ≤ x.Mask ∧ x.Mask ≤ IntKind.i64.max) ∧ (True)

structure Frame where
  ID : Int
  Long : Bool
  Fast : Bool
  Remote : Bool
  Size : Int
  Data : List Int
  deriving DecidableEq, Inhabited
def Frame.rep (Z : Fz) (cs : List Value) (x : Frame) : Prop := ∃ (ao0 : Option Addr) (cap0 : Nat), cs = [.int .i64 x.ID, .bool x.Long, .bool x.Fast, .bool x.Remote, .int .i64 x.Size, .slice ao0 x.Data.length cap0] ∧ SlR (tyInt .u8) Z ao0 cap0 x.Data
def tyFrame : Ty Frame :=
  ⟨6, Frame.rep, by rintro _ _ _ ⟨_, _, rfl, _⟩; rfl, by rintro _ _ _ _ hZ ⟨_, _, rfl, h0⟩; exact ⟨_, _, rfl, h0.mono hZ⟩, by rintro _ _ _ ⟨_, _, rfl, _⟩; simp [Value.oneCell']⟩
def okFrame (x : Frame) : Prop := (IntKind.i64.min ≤ x.ID ∧ x.ID ≤ IntKind.i64.max) ∧ (True) ∧ (True) ∧ (True) ∧ (IntKind.i64.min ≤ x.Size ∧ x.Size ≤ IntKind.i64.max) ∧ ((∀ y0 ∈ x.Data, IntKind.u8.min ≤ y0 ∧ y0 ≤ IntKind.u8.max) ∧ x.Data.length * 1 ≤ lim)

def ftop_vc (u0 : Bool) (K : Int → Prop) : Prop :=
  ((u0 = true →
      (K 536870911)) ∧
    (u0 = false →
      (K 2047)))
theorem ftop_mono {u0 : Bool} {K K1 : Int → Prop} (hK : ∀ r, K r → K1 r) (h : ftop_vc u0 K) : ftop_vc u0 K1 :=
  ⟨fun c0 => hK _ (h.1 c0), fun c0 => hK _ (h.2 c0)⟩
def ftop (u0 : Bool) : Int :=
  bif u0 then 536870911
    else 2047
theorem ftop_ok (u0 : Bool) : ftop_vc u0 (fun r => r = ftop u0) := ⟨fun h0 => (by simp only [ftop, h0, cond_true, cond_false]), fun h0 => (by simp only [ftop, h0, cond_true, cond_false])⟩

def franges_vc (u0 : Int) (u1 : Int) (u2 : Bool) (K : ((List Filter) × Int) → Prop) : Prop :=
  (((((decide (u0 < 0)) || (decide (u1 > (ftop u2)))) || (decide (u0 > u1))) = true →
      (K (([] : List Filter), 3))) ∧
    ((((decide (u0 < 0)) || (decide (u1 > (ftop u2)))) || (decide (u0 > u1))) = false →
      (∃ inv52 : Int → (List Filter) → Prop, ∃ mu52 : Int → (List Filter) → Nat, inv52 u0 ([] : List Filter) ∧
      (∀ (x0 : Int) (x8 : List Filter), inv52 x0 x8 →
      (((decide (x0 ≤ u1)) = true →
        (∃ inv79 : Int → Prop, ∃ mu79 : Int → Nat, inv79 1 ∧
        (∀ (x9 : Int), inv79 x9 →
        ((((((bAnd .i64 x0 (w64 ((w64 (2 * x9)) - 1))) == 0) && (decide ((w64 ((w64 (x0 + (w64 (2 * x9)))) - 1)) ≤ u1))) && (decide ((w64 (2 * x9)) ≤ (w64 ((ftop u2) + 1))))) = true →
          (inv79 (w64 (x9 * 2)) ∧ mu79 (w64 (x9 * 2)) < mu79 x9)) ∧
        (((((bAnd .i64 x0 (w64 ((w64 (2 * x9)) - 1))) == 0) && (decide ((w64 ((w64 (x0 + (w64 (2 * x9)))) - 1)) ≤ u1))) && (decide ((w64 (2 * x9)) ≤ (w64 ((ftop u2) + 1))))) = false →
          (((x8.length + 1) * 24 ≤ 140737488355328) ∧
          (inv52 (w64 (x0 + x9)) (x8 ++ [(⟨x0, bAndNot .i64 (ftop u2) (w64 (x9 - 1)), u2⟩ : Filter)]) ∧ mu52 (w64 (x0 + x9)) (x8 ++ [(⟨x0, bAndNot .i64 (ftop u2) (w64 (x9 - 1)), u2⟩ : Filter)]) < mu52 x0 x8))))))) ∧
      ((decide (x0 ≤ u1)) = false →
        (K (x8, 0))))))))
theorem franges_mono {u0 : Int} {u1 : Int} {u2 : Bool} {K K1 : ((List Filter) × Int) → Prop} (hK : ∀ r, K r → K1 r) (h : franges_vc u0 u1 u2 K) : franges_vc u0 u1 u2 K1 :=
  ⟨fun c0 => hK _ (h.1 c0), fun c0 => (Exists.elim (h.2 c0) fun i1 e1 => Exists.elim e1 fun m1 g1 => ⟨i1, m1, g1.1, fun x0 x8 z1 => ⟨fun c2 => (Exists.elim ((g1.2 x0 x8 z1).1 c2) fun i3 e3 => Exists.elim e3 fun m3 g3 => ⟨i3, m3, g3.1, fun x9 z3 => ⟨fun c4 => ((g3.2 x9 z3).1 c4), fun c4 => ⟨((g3.2 x9 z3).2 c4).1, ((g3.2 x9 z3).2 c4).2⟩⟩⟩), fun c2 => hK _ ((g1.2 x0 x8 z1).2 c2)⟩⟩)⟩

def feq_vc (u0 : List Filter) (u1 : List Filter) (K : Bool → Prop) : Prop :=
  (u0.length ≤ 140737488355328 →
    (u1.length ≤ 140737488355328 →
    ((((u0.length : Int) != (u1.length : Int)) = true →
      (K false)) ∧
    (((u0.length : Int) != (u1.length : Int)) = false →
      (∃ inv37 : Int → Prop, ∃ mu37 : Int → Nat, inv37 0 ∧
      (∀ (x13 : Int), inv37 x13 →
      (((decide (x13 < (u0.length : Int))) = true →
        ((0 ≤ x13 ∧ x13 < (u0.length : Int)) ∧
        (∀ q74, u0[x13.toNat]? = some q74 →
        ((0 ≤ x13 ∧ x13 < (u1.length : Int)) ∧
        (∀ q96, u1[x13.toNat]? = some q96 →
        (((!((q74.Want == q96.Want) && ((q74.Mask == q96.Mask) && ((q74.Long == q96.Long) && true)))) = true →
          (K false)) ∧
        ((!((q74.Want == q96.Want) && ((q74.Mask == q96.Mask) && ((q74.Long == q96.Long) && true)))) = false →
          (inv37 (w64 (x13 + 1)) ∧ mu37 (w64 (x13 + 1)) < mu37 x13)))))))) ∧
      ((decide (x13 < (u0.length : Int))) = false →
        (K true)))))))))
theorem feq_mono {u0 : List Filter} {u1 : List Filter} {K K1 : Bool → Prop} (hK : ∀ r, K r → K1 r) (h : feq_vc u0 u1 K) : feq_vc u0 u1 K1 :=
  fun z0 => fun z1 => ⟨fun c2 => hK _ (((h z0) z1).1 c2), fun c2 => (Exists.elim (((h z0) z1).2 c2) fun i3 e3 => Exists.elim e3 fun m3 g3 => ⟨i3, m3, g3.1, fun x13 z3 => ⟨fun c4 => ⟨((g3.2 x13 z3).1 c4).1, fun q74 z6 => ⟨((((g3.2 x13 z3).1 c4).2) q74 z6).1, fun q96 z8 => ⟨fun c9 => hK _ (((((((g3.2 x13 z3).1 c4).2) q74 z6).2) q96 z8).1 c9), fun c9 => (((((((g3.2 x13 z3).1 c4).2) q74 z6).2) q96 z8).2 c9)⟩⟩⟩, fun c4 => hK _ ((g3.2 x13 z3).2 c4)⟩⟩)⟩

def fcheck_vc (u0 : List Filter) (K : Int → Prop) : Prop :=
  (u0.length ≤ 140737488355328 →
    (((decide ((u0.length : Int) > 16)) = true →
      (K 2)) ∧
    ((decide ((u0.length : Int) > 16)) = false →
      (∃ inv29 : Int → Prop, ∃ mu29 : Int → Nat, inv29 0 ∧
      (∀ (x10 : Int), inv29 x10 →
      (((decide (x10 < (u0.length : Int))) = true →
        ((0 ≤ x10 ∧ x10 < (u0.length : Int)) ∧
        (∀ q53, u0[x10.toNat]? = some q53 →
        ((((((decide (q53.Want < 0)) || (decide (q53.Want > (ftop q53.Long)))) || (decide (q53.Mask < 0))) || (decide (q53.Mask > (ftop q53.Long)))) = true →
          (K 3)) ∧
        (((((decide (q53.Want < 0)) || (decide (q53.Want > (ftop q53.Long)))) || (decide (q53.Mask < 0))) || (decide (q53.Mask > (ftop q53.Long)))) = false →
          (inv29 (w64 (x10 + 1)) ∧ mu29 (w64 (x10 + 1)) < mu29 x10)))))) ∧
      ((decide (x10 < (u0.length : Int))) = false →
        (K 0))))))))
theorem fcheck_mono {u0 : List Filter} {K K1 : Int → Prop} (hK : ∀ r, K r → K1 r) (h : fcheck_vc u0 K) : fcheck_vc u0 K1 :=
  fun z0 => ⟨fun c1 => hK _ ((h z0).1 c1), fun c1 => (Exists.elim ((h z0).2 c1) fun i2 e2 => Exists.elim e2 fun m2 g2 => ⟨i2, m2, g2.1, fun x10 z2 => ⟨fun c3 => ⟨((g2.2 x10 z2).1 c3).1, fun q53 z5 => ⟨fun c6 => hK _ (((((g2.2 x10 z2).1 c3).2) q53 z5).1 c6), fun c6 => (((((g2.2 x10 z2).1 c3).2) q53 z5).2 c6)⟩⟩, fun c3 => hK _ ((g2.2 x10 z2).2 c3)⟩⟩)⟩

def ffree_vc (u0 : Int) (K : Int → Prop) : Prop :=
  (∃ inv8 : Int → Int → Prop, ∃ mu8 : Int → Int → Nat, inv8 u0 1 ∧
    (∀ (x0 : Int) (x3 : Int), inv8 x0 x3 →
    (((x0 != 0) = true →
      (inv8 (bAnd .i64 x0 (w64 (x0 - 1))) (w64 (x3 * 2)) ∧ mu8 (bAnd .i64 x0 (w64 (x0 - 1))) (w64 (x3 * 2)) < mu8 x0 x3)) ∧
    ((x0 != 0) = false →
      (K x3)))))
theorem ffree_mono {u0 : Int} {K K1 : Int → Prop} (hK : ∀ r, K r → K1 r) (h : ffree_vc u0 K) : ffree_vc u0 K1 :=
  (Exists.elim h fun i0 e0 => Exists.elim e0 fun m0 g0 => ⟨i0, m0, g0.1, fun x0 x3 z0 => ⟨fun c1 => ((g0.2 x0 x3 z0).1 c1), fun c1 => hK _ ((g0.2 x0 x3 z0).2 c1)⟩⟩)

def rcheckf_vc (u0 : List Filter) (K : Int → Prop) : Prop :=
  (u0.length ≤ 140737488355328 →
    (((decide ((u0.length : Int) > 16)) = true →
      (K 2)) ∧
    ((decide ((u0.length : Int) > 16)) = false →
      (∃ inv29 : Int → Prop, ∃ mu29 : Int → Nat, inv29 0 ∧
      (∀ (x11 : Int), inv29 x11 →
      (((decide (x11 < (u0.length : Int))) = true →
        ((0 ≤ x11 ∧ x11 < (u0.length : Int)) ∧
        (∀ q53, u0[x11.toNat]? = some q53 →
        ((q53.Long = true →
          ((((decide ((min q53.Want q53.Mask) < 0)) || (decide ((max q53.Want q53.Mask) > 536870911))) = true →
            (K 3)) ∧
          (((decide ((min q53.Want q53.Mask) < 0)) || (decide ((max q53.Want q53.Mask) > 536870911))) = false →
            (inv29 (w64 (x11 + 1)) ∧ mu29 (w64 (x11 + 1)) < mu29 x11)))) ∧
        (q53.Long = false →
          ((((decide ((min q53.Want q53.Mask) < 0)) || (decide ((max q53.Want q53.Mask) > 2047))) = true →
            (K 3)) ∧
          (((decide ((min q53.Want q53.Mask) < 0)) || (decide ((max q53.Want q53.Mask) > 2047))) = false →
            (inv29 (w64 (x11 + 1)) ∧ mu29 (w64 (x11 + 1)) < mu29 x11)))))))) ∧
      ((decide (x11 < (u0.length : Int))) = false →
        (K 0))))))))
theorem rcheckf_mono {u0 : List Filter} {K K1 : Int → Prop} (hK : ∀ r, K r → K1 r) (h : rcheckf_vc u0 K) : rcheckf_vc u0 K1 :=
  fun z0 => ⟨fun c1 => hK _ ((h z0).1 c1), fun c1 => (Exists.elim ((h z0).2 c1) fun i2 e2 => Exists.elim e2 fun m2 g2 => ⟨i2, m2, g2.1, fun x11 z2 => ⟨fun c3 => ⟨((g2.2 x11 z2).1 c3).1, fun q53 z5 => ⟨fun c6 => ⟨fun c7 => hK _ ((((((g2.2 x11 z2).1 c3).2) q53 z5).1 c6).1 c7), fun c7 => ((((((g2.2 x11 z2).1 c3).2) q53 z5).1 c6).2 c7)⟩, fun c6 => ⟨fun c7 => hK _ ((((((g2.2 x11 z2).1 c3).2) q53 z5).2 c6).1 c7), fun c7 => ((((((g2.2 x11 z2).1 c3).2) q53 z5).2 c6).2 c7)⟩⟩⟩, fun c3 => hK _ ((g2.2 x11 z2).2 c3)⟩⟩)⟩

def letsin_vc (u0 : Filter) (u1 : Frame) (K : Bool → Prop) : Prop :=
  (u1.Data.length ≤ 140737488355328 →
    (K ((u0.Long == u1.Long) && ((bAnd .i64 u0.Want u0.Mask) == (bAnd .i64 u1.ID u0.Mask)))))
theorem letsin_mono {u0 : Filter} {u1 : Frame} {K K1 : Bool → Prop} (hK : ∀ r, K r → K1 r) (h : letsin_vc u0 u1 K) : letsin_vc u0 u1 K1 :=
  fun z0 => hK _ (h z0)
def letsin (u0 : Filter) (u1 : Frame) : Bool :=
  (u0.Long == u1.Long) && ((bAnd .i64 u0.Want u0.Mask) == (bAnd .i64 u1.ID u0.Mask))
theorem letsin_ok (u0 : Filter) (u1 : Frame) : letsin_vc u0 u1 (fun r => r = letsin u0 u1) := (fun _ => (by rfl))

def fwithin_vc (u0 : Filter) (u1 : Filter) (K : Bool → Prop) : Prop :=
  (K (((u0.Long == u1.Long) && ((bAndNot .i64 u1.Mask u0.Mask) == 0)) && ((bAnd .i64 (bXor .i64 u0.Want u1.Want) u1.Mask) == 0)))
theorem fwithin_mono {u0 : Filter} {u1 : Filter} {K K1 : Bool → Prop} (hK : ∀ r, K r → K1 r) (h : fwithin_vc u0 u1 K) : fwithin_vc u0 u1 K1 :=
  hK _ h
def fwithin (u0 : Filter) (u1 : Filter) : Bool :=
  ((u0.Long == u1.Long) && ((bAndNot .i64 u1.Mask u0.Mask) == 0)) && ((bAnd .i64 (bXor .i64 u0.Want u1.Want) u1.Mask) == 0)
theorem fwithin_ok (u0 : Filter) (u1 : Filter) : fwithin_vc u0 u1 (fun r => r = fwithin u0 u1) := (by rfl)

def inall_vc (u0 : Filter) (u1 : Filter) (K : Bool → Prop) : Prop :=
  (K (((u0.Long == u1.Long) && ((bAnd .i64 u0.Mask u1.Mask) == u1.Mask)) && ((bAnd .i64 u0.Want u1.Mask) == (bAnd .i64 u1.Want u1.Mask))))
theorem inall_mono {u0 : Filter} {u1 : Filter} {K K1 : Bool → Prop} (hK : ∀ r, K r → K1 r) (h : inall_vc u0 u1 K) : inall_vc u0 u1 K1 :=
  hK _ h
def inall (u0 : Filter) (u1 : Filter) : Bool :=
  ((u0.Long == u1.Long) && ((bAnd .i64 u0.Mask u1.Mask) == u1.Mask)) && ((bAnd .i64 u0.Want u1.Mask) == (bAnd .i64 u1.Want u1.Mask))
theorem inall_ok (u0 : Filter) (u1 : Filter) : inall_vc u0 u1 (fun r => r = inall u0 u1) := (by rfl)

def sindex_vc (u0 : List Int) (u1 : Int) (K : Int → Prop) : Prop :=
  (u0.length ≤ 140737488355328 →
    (∃ inv16 : Int → Prop, ∃ mu16 : Int → Nat, inv16 0 ∧
    (∀ (x8 : Int), inv16 x8 →
    (((decide (x8 < (u0.length : Int))) = true →
      ((0 ≤ x8 ∧ x8 < (u0.length : Int)) ∧
      (∀ q51, u0[x8.toNat]? = some q51 →
      (((u1 == q51) = true →
        (K x8)) ∧
      ((u1 == q51) = false →
        (inv16 (w64 (x8 + 1)) ∧ mu16 (w64 (x8 + 1)) < mu16 x8)))))) ∧
    ((decide (x8 < (u0.length : Int))) = false →
      (K (-1)))))))
theorem sindex_mono {u0 : List Int} {u1 : Int} {K K1 : Int → Prop} (hK : ∀ r, K r → K1 r) (h : sindex_vc u0 u1 K) : sindex_vc u0 u1 K1 :=
  fun z0 => (Exists.elim (h z0) fun i1 e1 => Exists.elim e1 fun m1 g1 => ⟨i1, m1, g1.1, fun x8 z1 => ⟨fun c2 => ⟨((g1.2 x8 z1).1 c2).1, fun q51 z4 => ⟨fun c5 => hK _ (((((g1.2 x8 z1).1 c2).2) q51 z4).1 c5), fun c5 => (((((g1.2 x8 z1).1 c2).2) q51 z4).2 c5)⟩⟩, fun c2 => hK _ ((g1.2 x8 z1).2 c2)⟩⟩)

def scontains_vc (u0 : List Int) (u1 : Int) (K : Bool → Prop) : Prop :=
  (u0.length ≤ 140737488355328 →
    (sindex_vc u0 u1 fun r13 =>
    (K (decide (r13 ≥ 0)))))
theorem scontains_mono {u0 : List Int} {u1 : Int} {K K1 : Bool → Prop} (hK : ∀ r, K r → K1 r) (h : scontains_vc u0 u1 K) : scontains_vc u0 u1 K1 :=
  fun z0 => sindex_mono (fun r13 h1 => hK _ h1) (h z0)

def fsizes_vc  (K : (List Int) → Prop) : Prop :=
  (K ([0, 1, 2, 3, 4, 5, 6, 7, 8, 12, 16, 20, 24, 32, 48, 64] : List Int))
theorem fsizes_mono  {K K1 : (List Int) → Prop} (hK : ∀ r, K r → K1 r) (h : fsizes_vc  K) : fsizes_vc  K1 :=
  hK _ h
def fsizes  : (List Int) :=
  ([0, 1, 2, 3, 4, 5, 6, 7, 8, 12, 16, 20, 24, 32, 48, 64] : List Int)
theorem fsizes_ok  : fsizes_vc  (fun r => r = fsizes ) := (by rfl)

def rsizes_vc  (K : (List Int) → Prop) : Prop :=
  (K ([0, 1, 2, 3, 4, 5, 6, 7, 8, 12, 16, 20, 24, 32, 48, 64] : List Int))
theorem rsizes_mono  {K K1 : (List Int) → Prop} (hK : ∀ r, K r → K1 r) (h : rsizes_vc  K) : rsizes_vc  K1 :=
  hK _ h
def rsizes  : (List Int) :=
  ([0, 1, 2, 3, 4, 5, 6, 7, 8, 12, 16, 20, 24, 32, 48, 64] : List Int)
theorem rsizes_ok  : rsizes_vc  (fun r => r = rsizes ) := (by rfl)

def sequal_vc (u0 : List Int) (u1 : List Int) (K : Bool → Prop) : Prop :=
  (u0.length ≤ 140737488355328 →
    (u1.length ≤ 140737488355328 →
    ((((u0.length : Int) != (u1.length : Int)) = true →
      (K false)) ∧
    (((u0.length : Int) != (u1.length : Int)) = false →
      (∃ inv37 : Int → Prop, ∃ mu37 : Int → Nat, inv37 0 ∧
      (∀ (x13 : Int), inv37 x13 →
      (((decide (x13 < (u0.length : Int))) = true →
        ((0 ≤ x13 ∧ x13 < (u0.length : Int)) ∧
        (∀ q74, u0[x13.toNat]? = some q74 →
        ((0 ≤ x13 ∧ x13 < (u1.length : Int)) ∧
        (∀ q96, u1[x13.toNat]? = some q96 →
        (((q74 != q96) = true →
          (K false)) ∧
        ((q74 != q96) = false →
          (inv37 (w64 (x13 + 1)) ∧ mu37 (w64 (x13 + 1)) < mu37 x13)))))))) ∧
      ((decide (x13 < (u0.length : Int))) = false →
        (K true)))))))))
theorem sequal_mono {u0 : List Int} {u1 : List Int} {K K1 : Bool → Prop} (hK : ∀ r, K r → K1 r) (h : sequal_vc u0 u1 K) : sequal_vc u0 u1 K1 :=
  fun z0 => fun z1 => ⟨fun c2 => hK _ (((h z0) z1).1 c2), fun c2 => (Exists.elim (((h z0) z1).2 c2) fun i3 e3 => Exists.elim e3 fun m3 g3 => ⟨i3, m3, g3.1, fun x13 z3 => ⟨fun c4 => ⟨((g3.2 x13 z3).1 c4).1, fun q74 z6 => ⟨((((g3.2 x13 z3).1 c4).2) q74 z6).1, fun q96 z8 => ⟨fun c9 => hK _ (((((((g3.2 x13 z3).1 c4).2) q74 z6).2) q96 z8).1 c9), fun c9 => (((((((g3.2 x13 z3).1 c4).2) q74 z6).2) q96 z8).2 c9)⟩⟩⟩, fun c4 => hK _ ((g3.2 x13 z3).2 c4)⟩⟩)⟩

def lets1_vc (u0 : Filter) (u1 : Frame) (K : Bool → Prop) : Prop :=
  (K ((u0.Long == u1.Long) && ((bAnd .i64 (bXor .i64 u1.ID u0.Want) u0.Mask) == 0)))
theorem lets1_mono {u0 : Filter} {u1 : Frame} {K K1 : Bool → Prop} (hK : ∀ r, K r → K1 r) (h : lets1_vc u0 u1 K) : lets1_vc u0 u1 K1 :=
  hK _ h
def lets1 (u0 : Filter) (u1 : Frame) : Bool :=
  (u0.Long == u1.Long) && ((bAnd .i64 (bXor .i64 u1.ID u0.Want) u0.Mask) == 0)
theorem lets1_ok (u0 : Filter) (u1 : Frame) : lets1_vc u0 u1 (fun r => r = lets1 u0 u1) := (by rfl)

def fc1_vc (u0 : Filter) (u1 : Int) (K : Bool → Prop) : Prop :=
  (K (letsin u0 (⟨u1, false, false, false, 0, []⟩ : Frame)))
theorem fc1_mono {u0 : Filter} {u1 : Int} {K K1 : Bool → Prop} (hK : ∀ r, K r → K1 r) (h : fc1_vc u0 u1 K) : fc1_vc u0 u1 K1 :=
  hK _ h
def fc1 (u0 : Filter) (u1 : Int) : Bool :=
  (letsin u0 (⟨u1, false, false, false, 0, []⟩ : Frame))
theorem fc1_ok (u0 : Filter) (u1 : Int) : fc1_vc u0 u1 (fun r => r = fc1 u0 u1) := (by rfl)

def findexf_vc (u0 : List Filter) (u1 : Filter → Bool) (K : Int → Prop) : Prop :=
  (u0.length ≤ 140737488355328 →
    (∃ inv20 : Int → Prop, ∃ mu20 : Int → Nat, inv20 0 ∧
    (∀ (x8 : Int), inv20 x8 →
    (((decide (x8 < (u0.length : Int))) = true →
      ((0 ≤ x8 ∧ x8 < (u0.length : Int)) ∧
      (∀ q55, u0[x8.toNat]? = some q55 →
      (((u1 q55) = true →
        (K x8)) ∧
      ((u1 q55) = false →
        (inv20 (w64 (x8 + 1)) ∧ mu20 (w64 (x8 + 1)) < mu20 x8)))))) ∧
    ((decide (x8 < (u0.length : Int))) = false →
      (K (-1)))))))
theorem findexf_mono {u0 : List Filter} {u1 : Filter → Bool} {K K1 : Int → Prop} (hK : ∀ r, K r → K1 r) (h : findexf_vc u0 u1 K) : findexf_vc u0 u1 K1 :=
  fun z0 => (Exists.elim (h z0) fun i1 e1 => Exists.elim e1 fun m1 g1 => ⟨i1, m1, g1.1, fun x8 z1 => ⟨fun c2 => ⟨((g1.2 x8 z1).1 c2).1, fun q55 z4 => ⟨fun c5 => hK _ (((((g1.2 x8 z1).1 c2).2) q55 z4).1 c5), fun c5 => (((((g1.2 x8 z1).1 c2).2) q55 z4).2 c5)⟩⟩, fun c2 => hK _ ((g1.2 x8 z1).2 c2)⟩⟩)

def fcontf_vc (u0 : List Filter) (u1 : Filter → Bool) (K : Bool → Prop) : Prop :=
  (u0.length ≤ 140737488355328 →
    (findexf_vc u0 u1 fun r17 =>
    (K (decide (r17 ≥ 0)))))
theorem fcontf_mono {u0 : List Filter} {u1 : Filter → Bool} {K K1 : Bool → Prop} (hK : ∀ r, K r → K1 r) (h : fcontf_vc u0 u1 K) : fcontf_vc u0 u1 K1 :=
  fun z0 => findexf_mono (fun r17 h1 => hK _ h1) (h z0)

def fleast_vc (u0 : List Filter) (K : ((List Filter) × Int) → Prop) : Prop :=
  (u0.length ≤ 140737488355328 →
    (fcheck_vc u0 fun r13 =>
    (((r13 != 0) = true →
      (K (([] : List Filter), r13))) ∧
    ((r13 != 0) = false →
      (∃ inv48 : (List Filter) → Int → Prop, ∃ mu48 : (List Filter) → Int → Nat, inv48 ([] : List Filter) 0 ∧
      (∀ (x5 : List Filter) (x18 : Int), inv48 x5 x18 →
      (((decide (x18 < (u0.length : Int))) = true →
        ((0 ≤ x18 ∧ x18 < (u0.length : Int)) ∧
        (∀ q75, u0[x18.toNat]? = some q75 →
        (∃ inv105 : Bool → Int → Prop, ∃ mu105 : Bool → Int → Nat, inv105 false 0 ∧
        (∀ (x8 : Bool) (x25 : Int), inv105 x8 x25 →
        (((decide (x25 < (u0.length : Int))) = true →
          ((0 ≤ x25 ∧ x25 < (u0.length : Int)) ∧
          (∀ q131, u0[x25.toNat]? = some q131 →
          (((((x25 != x18) && (fwithin q75 q131)) && ((decide (x25 < x18)) || (!(fwithin q131 q75)))) = true →
            (inv105 true (w64 (x25 + 1)) ∧ mu105 true (w64 (x25 + 1)) < mu105 x8 x25)) ∧
          ((((x25 != x18) && (fwithin q75 q131)) && ((decide (x25 < x18)) || (!(fwithin q131 q75)))) = false →
            (inv105 x8 (w64 (x25 + 1)) ∧ mu105 x8 (w64 (x25 + 1)) < mu105 x8 x25)))))) ∧
        ((decide (x25 < (u0.length : Int))) = false →
          (((!x8) = true →
            (((x5.length + 1) * 24 ≤ 140737488355328) ∧
            (inv48 (x5 ++ [(⟨bAnd .i64 q75.Want q75.Mask, q75.Mask, q75.Long⟩ : Filter)]) (w64 (x18 + 1)) ∧ mu48 (x5 ++ [(⟨bAnd .i64 q75.Want q75.Mask, q75.Mask, q75.Long⟩ : Filter)]) (w64 (x18 + 1)) < mu48 x5 x18))) ∧
          ((!x8) = false →
            (inv48 x5 (w64 (x18 + 1)) ∧ mu48 x5 (w64 (x18 + 1)) < mu48 x5 x18)))))))))) ∧
      ((decide (x18 < (u0.length : Int))) = false →
        (K (x5, 0))))))))))
theorem fleast_mono {u0 : List Filter} {K K1 : ((List Filter) × Int) → Prop} (hK : ∀ r, K r → K1 r) (h : fleast_vc u0 K) : fleast_vc u0 K1 :=
  fun z0 => fcheck_mono (fun r13 h1 => ⟨fun c2 => hK _ (h1.1 c2), fun c2 => (Exists.elim (h1.2 c2) fun i3 e3 => Exists.elim e3 fun m3 g3 => ⟨i3, m3, g3.1, fun x5 x18 z3 => ⟨fun c4 => ⟨((g3.2 x5 x18 z3).1 c4).1, fun q75 z6 => (Exists.elim ((((g3.2 x5 x18 z3).1 c4).2) q75 z6) fun i7 e7 => Exists.elim e7 fun m7 g7 => ⟨i7, m7, g7.1, fun x8 x25 z7 => ⟨fun c8 => ⟨((g7.2 x8 x25 z7).1 c8).1, fun q131 z10 => ⟨fun c11 => (((((g7.2 x8 x25 z7).1 c8).2) q131 z10).1 c11), fun c11 => (((((g7.2 x8 x25 z7).1 c8).2) q131 z10).2 c11)⟩⟩, fun c8 => ⟨fun c9 => ⟨(((g7.2 x8 x25 z7).2 c8).1 c9).1, (((g7.2 x8 x25 z7).2 c8).1 c9).2⟩, fun c9 => (((g7.2 x8 x25 z7).2 c8).2 c9)⟩⟩⟩)⟩, fun c4 => hK _ ((g3.2 x5 x18 z3).2 c4)⟩⟩)⟩) (h z0)

end Go.Proofs.Ytkogkombalcgeaa
