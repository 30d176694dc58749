/- What must hold so that each function ends well: pure predicates, made by program. -/
import Derived.Test.YtodkadlfhlagpaaCore
set_option linter.unusedVariables false
set_option linter.unusedSimpArgs false
namespace Go.Proofs.Ytodkadlfhlagpaa
open Go.Sy Go.RowKit
structure Health where
  Sent : Int
  Got : Int
  Rest : Int
  deriving DecidableEq, Inhabited
def Health.enc (x : Health) : List Value := [.int .i64 x.Sent, .int .i64 x.Got, .int .i64 x.Rest]
def tyHealth : Ty Health := tyFlat Health.enc 3 (fun _ => rfl) (fun x => by simp [Health.enc, Value.oneCell'])
def okHealth (x : Health) : Prop := (IntKind.i64.min ≤ x.Sent ∧ x.Sent ≤ IntKind.i64.max) ∧ (IntKind.i64.min ≤ x.Got ∧ x.Got ≤ IntKind.i64.max) ∧ (IntKind.i64.min ≤ x.Rest ∧ x.Rest ≤ IntKind.i64.max)

def sequal_vc (u0 : List Int) (u1 : List Int) (K : Bool → Prop) : Prop :=
  (u0.length ≤ 140737488355328 →
    (u1.length ≤ 140737488355328 →
    ((((u0.length : Int) != (u1.length : Int)) = true →
      (K false)) ∧
    (((u0.length : Int) != (u1.length : Int)) = false →
      (∃ inv37 : Int → Prop, ∃ mu37 : Int → Nat, inv37 0 ∧
      (∀ (x13 : Int), inv37 x13 →
      (((decide (x13 < (u0.length : Int))) = true →
        ((0 ≤ x13 ∧ x13 < (u0.length : Int)) ∧
        (∀ q74, u0[x13.toNat]? = some q74 →
        ((0 ≤ x13 ∧ x13 < (u1.length : Int)) ∧
        (∀ q96, u1[x13.toNat]? = some q96 →
        (((q74 != q96) = true →
          (K false)) ∧
        ((q74 != q96) = false →
          (inv37 (w64 (x13 + 1)) ∧ mu37 (w64 (x13 + 1)) < mu37 x13)))))))) ∧
      ((decide (x13 < (u0.length : Int))) = false →
        (K true)))))))))
theorem sequal_mono {u0 : List Int} {u1 : List Int} {K K1 : Bool → Prop} (hK : ∀ r, K r → K1 r) (h : sequal_vc u0 u1 K) : sequal_vc u0 u1 K1 :=
  fun z0 => fun z1 => ⟨fun c2 => hK _ (((h z0) z1).1 c2), fun c2 => (Exists.elim (((h z0) z1).2 c2) fun i3 e3 => Exists.elim e3 fun m3 g3 => ⟨i3, m3, g3.1, fun x13 z3 => ⟨fun c4 => ⟨((g3.2 x13 z3).1 c4).1, fun q74 z6 => ⟨((((g3.2 x13 z3).1 c4).2) q74 z6).1, fun q96 z8 => ⟨fun c9 => hK _ (((((((g3.2 x13 z3).1 c4).2) q74 z6).2) q96 z8).1 c9), fun c9 => (((((((g3.2 x13 z3).1 c4).2) q74 z6).2) q96 z8).2 c9)⟩⟩⟩, fun c4 => hK _ ((g3.2 x13 z3).2 c4)⟩⟩)⟩

def names_vc  (K : Bool → Prop) : Prop :=
  (∃ inv20 : Int → Prop, ∃ mu20 : Int → Nat, inv20 0 ∧
    (∀ (x9 : Int), inv20 x9 →
    (((decide (x9 < 15)) = true →
      ((0 ≤ x9 ∧ x9 < (([0, 1, 2, 3, 4, 5, 6, 7, 8, 9, 10, 11, 12, 13, 14] : List Int).length : Int)) ∧
      (∀ q52, ([0, 1, 2, 3, 4, 5, 6, 7, 8, 9, 10, 11, 12, 13, 14] : List Int)[x9.toNat]? = some q52 →
      (((q52 != x9) = true →
        (K false)) ∧
      ((q52 != x9) = false →
        (inv20 (w64 (x9 + 1)) ∧ mu20 (w64 (x9 + 1)) < mu20 x9)))))) ∧
    ((decide (x9 < 15)) = false →
      (sequal_vc ([1000, 64, 2047, 536870911, 16, 20, 4000, 16, 16, 16, 300, 60, 20, 4, 6, 1000000, 100] : List Int) ([1000, 64, 2047, 536870911, 16, 20, 4000, 16, 16, 16, 300, 60, 20, 4, 6, 1000000, 100] : List Int) fun r120 =>
      ((r120 = true →
        (sequal_vc ([0, 1, 2, 1, 2, 3, 4, 5, 6, 0, 1, 2, 3, 4, 1, 2, 3, 4, 5] : List Int) ([0, 1, 2, 1, 2, 3, 4, 5, 6, 0, 1, 2, 3, 4, 1, 2, 3, 4, 5] : List Int) fun r152 =>
        (K r152))) ∧
      (r120 = false →
        (K false))))))))
theorem names_mono  {K K1 : Bool → Prop} (hK : ∀ r, K r → K1 r) (h : names_vc  K) : names_vc  K1 :=
  (Exists.elim h fun i0 e0 => Exists.elim e0 fun m0 g0 => ⟨i0, m0, g0.1, fun x9 z0 => ⟨fun c1 => ⟨((g0.2 x9 z0).1 c1).1, fun q52 z3 => ⟨fun c4 => hK _ (((((g0.2 x9 z0).1 c1).2) q52 z3).1 c4), fun c4 => (((((g0.2 x9 z0).1 c1).2) q52 z3).2 c4)⟩⟩, fun c1 => sequal_mono (fun r120 h2 => ⟨fun c3 => sequal_mono (fun r152 h4 => hK _ h4) (h2.1 c3), fun c3 => hK _ (h2.2 c3)⟩) ((g0.2 x9 z0).2 c1)⟩⟩)

def hcheck_vc (u0 : Health) (K : Int → Prop) : Prop :=
  (((((((((decide (u0.Sent < 0)) || (decide (u0.Sent > 256))) || (decide (u0.Got < 0))) || (decide (u0.Got > 255))) || (decide (u0.Rest < 0))) || (decide (u0.Rest > 127))) || ((decide (u0.Rest > 0)) && (decide (u0.Sent < 256)))) = true →
      (K 3)) ∧
    ((((((((decide (u0.Sent < 0)) || (decide (u0.Sent > 256))) || (decide (u0.Got < 0))) || (decide (u0.Got > 255))) || (decide (u0.Rest < 0))) || (decide (u0.Rest > 127))) || ((decide (u0.Rest > 0)) && (decide (u0.Sent < 256)))) = false →
      (K 0)))
theorem hcheck_mono {u0 : Health} {K K1 : Int → Prop} (hK : ∀ r, K r → K1 r) (h : hcheck_vc u0 K) : hcheck_vc u0 K1 :=
  ⟨fun c0 => hK _ (h.1 c0), fun c0 => hK _ (h.2 c0)⟩
def hcheck (u0 : Health) : Int :=
  bif ((((((decide (u0.Sent < 0)) || (decide (u0.Sent > 256))) || (decide (u0.Got < 0))) || (decide (u0.Got > 255))) || (decide (u0.Rest < 0))) || (decide (u0.Rest > 127))) || ((decide (u0.Rest > 0)) && (decide (u0.Sent < 256))) then 3
    else 0
theorem hcheck_ok (u0 : Health) : hcheck_vc u0 (fun r => r = hcheck u0) := ⟨fun h0 => (by simp only [hcheck, h0, cond_true, cond_false]), fun h0 => (by simp only [hcheck, h0, cond_true, cond_false])⟩

def hstate_vc (u0 : Health) (K : Int → Prop) : Prop :=
  (((decide (u0.Sent > 255)) = true →
      (K 2)) ∧
    ((decide (u0.Sent > 255)) = false →
      ((((decide (u0.Sent > 127)) || (decide (u0.Got > 127))) = true →
        (K 1)) ∧
      (((decide (u0.Sent > 127)) || (decide (u0.Got > 127))) = false →
        (K 0)))))
theorem hstate_mono {u0 : Health} {K K1 : Int → Prop} (hK : ∀ r, K r → K1 r) (h : hstate_vc u0 K) : hstate_vc u0 K1 :=
  ⟨fun c0 => hK _ (h.1 c0), fun c0 => ⟨fun c1 => hK _ ((h.2 c0).1 c1), fun c1 => hK _ ((h.2 c0).2 c1)⟩⟩
def hstate (u0 : Health) : Int :=
  bif decide (u0.Sent > 255) then 2
    else bif (decide (u0.Sent > 127)) || (decide (u0.Got > 127)) then 1
    else 0
theorem hstate_ok (u0 : Health) : hstate_vc u0 (fun r => r = hstate u0) := ⟨fun h0 => (by simp only [hstate, h0, cond_true, cond_false]), fun h0 => ⟨fun h1 => (by simp only [hstate, h0, h1, cond_true, cond_false]), fun h1 => (by simp only [hstate, h0, h1, cond_true, cond_false])⟩⟩

def hState_vc (u0 : Health) (K : (Int × Int) → Prop) : Prop :=
  ((((hcheck u0) != 0) = true →
      (K (0, (hcheck u0)))) ∧
    (((hcheck u0) != 0) = false →
      (K ((hstate u0), 0))))
theorem hState_mono {u0 : Health} {K K1 : (Int × Int) → Prop} (hK : ∀ r, K r → K1 r) (h : hState_vc u0 K) : hState_vc u0 K1 :=
  ⟨fun c0 => hK _ (h.1 c0), fun c0 => hK _ (h.2 c0)⟩
def hState (u0 : Health) : Int × Int :=
  bif (hcheck u0) != 0 then (0, (hcheck u0))
    else ((hstate u0), 0)
theorem hState_ok (u0 : Health) : hState_vc u0 (fun r => r = hState u0) := ⟨fun h0 => (by simp only [hState, h0, cond_true, cond_false]), fun h0 => (by simp only [hState, h0, cond_true, cond_false])⟩

def hchange_vc (u0 : Health) (u1 : Int) (K : (Health × Int) → Prop) : Prop :=
  ((((hstate u0) == 2) = true →
      (((u1 == 6) = true →
        ((((w64 (u0.Rest + 1)) == 128) = true →
          (K ((⟨0, 0, 0⟩ : Health), 0))) ∧
        (((w64 (u0.Rest + 1)) == 128) = false →
          (K ((⟨u0.Sent, u0.Got, w64 (u0.Rest + 1)⟩ : Health), 0))))) ∧
      ((u1 == 6) = false →
        (((u1 == 1) = true →
          (K (u0, 0))) ∧
        ((u1 == 1) = false →
          (((u1 == 2) = true →
            (K (u0, 0))) ∧
          ((u1 == 2) = false →
            (((u1 == 3) = true →
              (K (u0, 0))) ∧
            ((u1 == 3) = false →
              (((u1 == 4) = true →
                (K (u0, 0))) ∧
              ((u1 == 4) = false →
                (((u1 == 5) = true →
                  (K (u0, 0))) ∧
                ((u1 == 5) = false →
                  (K ((⟨0, 0, 0⟩ : Health), 8))))))))))))))) ∧
    (((hstate u0) == 2) = false →
      ((((decide (u1 < 1)) || (decide (u1 > 6))) = true →
        (K ((⟨0, 0, 0⟩ : Health), 8))) ∧
      (((decide (u1 < 1)) || (decide (u1 > 6))) = false →
        ((0 ≤ u1 ∧ u1 < 7) ∧
        (((u1 == 2) = true →
          (K ((⟨min (max (w64 (u0.Sent + (([0, -1, 0, 8, 0, 0, 0] : List Int).getD u1.toNat 0))) 0) 256, min (max (w64 ((min u0.Got 127) + (([0, 0, -1, 0, 1, 8, 0] : List Int).getD u1.toNat 0))) 0) 255, u0.Rest⟩ : Health), 0))) ∧
        ((u1 == 2) = false →
          (K ((⟨min (max (w64 (u0.Sent + (([0, -1, 0, 8, 0, 0, 0] : List Int).getD u1.toNat 0))) 0) 256, min (max (w64 (u0.Got + (([0, 0, -1, 0, 1, 8, 0] : List Int).getD u1.toNat 0))) 0) 255, u0.Rest⟩ : Health), 0)))))))))
theorem hchange_mono {u0 : Health} {u1 : Int} {K K1 : (Health × Int) → Prop} (hK : ∀ r, K r → K1 r) (h : hchange_vc u0 u1 K) : hchange_vc u0 u1 K1 :=
  ⟨fun c0 => ⟨fun c1 => ⟨fun c2 => hK _ (((h.1 c0).1 c1).1 c2), fun c2 => hK _ (((h.1 c0).1 c1).2 c2)⟩, fun c1 => ⟨fun c2 => hK _ (((h.1 c0).2 c1).1 c2), fun c2 => ⟨fun c3 => hK _ ((((h.1 c0).2 c1).2 c2).1 c3), fun c3 => ⟨fun c4 => hK _ (((((h.1 c0).2 c1).2 c2).2 c3).1 c4), fun c4 => ⟨fun c5 => hK _ ((((((h.1 c0).2 c1).2 c2).2 c3).2 c4).1 c5), fun c5 => ⟨fun c6 => hK _ (((((((h.1 c0).2 c1).2 c2).2 c3).2 c4).2 c5).1 c6), fun c6 => hK _ (((((((h.1 c0).2 c1).2 c2).2 c3).2 c4).2 c5).2 c6)⟩⟩⟩⟩⟩⟩, fun c0 => ⟨fun c1 => hK _ ((h.2 c0).1 c1), fun c1 => ⟨((h.2 c0).2 c1).1, ⟨fun c3 => hK _ ((((h.2 c0).2 c1).2).1 c3), fun c3 => hK _ ((((h.2 c0).2 c1).2).2 c3)⟩⟩⟩⟩
def hchange (u0 : Health) (u1 : Int) : Health × Int :=
  bif (hstate u0) == 2 then (bif u1 == 6 then (bif (w64 (u0.Rest + 1)) == 128 then ((⟨0, 0, 0⟩ : Health), 0)
        else ((⟨u0.Sent, u0.Got, w64 (u0.Rest + 1)⟩ : Health), 0))
      else bif u1 == 1 then (u0, 0)
      else bif u1 == 2 then (u0, 0)
      else bif u1 == 3 then (u0, 0)
      else bif u1 == 4 then (u0, 0)
      else bif u1 == 5 then (u0, 0)
      else ((⟨0, 0, 0⟩ : Health), 8))
    else bif (decide (u1 < 1)) || (decide (u1 > 6)) then ((⟨0, 0, 0⟩ : Health), 8)
    else bif u1 == 2 then ((⟨min (max (w64 (u0.Sent + (([0, -1, 0, 8, 0, 0, 0] : List Int).getD u1.toNat 0))) 0) 256, min (max (w64 ((min u0.Got 127) + (([0, 0, -1, 0, 1, 8, 0] : List Int).getD u1.toNat 0))) 0) 255, u0.Rest⟩ : Health), 0)
    else ((⟨min (max (w64 (u0.Sent + (([0, -1, 0, 8, 0, 0, 0] : List Int).getD u1.toNat 0))) 0) 256, min (max (w64 (u0.Got + (([0, 0, -1, 0, 1, 8, 0] : List Int).getD u1.toNat 0))) 0) 255, u0.Rest⟩ : Health), 0)
theorem hchange_ok (u0 : Health) (u1 : Int) : hchange_vc u0 u1 (fun r => r = hchange u0 u1) := ⟨fun h0 => ⟨fun h1 => ⟨fun h2 => (by simp only [hchange, h0, h1, h2, cond_true, cond_false]), fun h2 => (by simp only [hchange, h0, h1, h2, cond_true, cond_false])⟩, fun h1 => ⟨fun h2 => (by simp only [hchange, h0, h1, h2, cond_true, cond_false]), fun h2 => ⟨fun h3 => (by simp only [hchange, h0, h1, h2, h3, cond_true, cond_false]), fun h3 => ⟨fun h4 => (by simp only [hchange, h0, h1, h2, h3, h4, cond_true, cond_false]), fun h4 => ⟨fun h5 => (by simp only [hchange, h0, h1, h2, h3, h4, h5, cond_true, cond_false]), fun h5 => ⟨fun h6 => (by simp only [hchange, h0, h1, h2, h3, h4, h5, h6, cond_true, cond_false]), fun h6 => (by simp only [hchange, h0, h1, h2, h3, h4, h5, h6, cond_true, cond_false])⟩⟩⟩⟩⟩⟩, fun h0 => ⟨fun h1 => (by simp only [hchange, h0, h1, cond_true, cond_false]), fun h1 => ⟨(by (try simp at h0); (try simp at h1); omega), ⟨fun h2 => (by simp only [hchange, h0, h1, h2, cond_true, cond_false]), fun h2 => (by simp only [hchange, h0, h1, h2, cond_true, cond_false])⟩⟩⟩⟩

def hTill_vc (u0 : Health) (K : (Int × Int) → Prop) : Prop :=
  ((((hcheck u0) != 0) = true →
      (K (0, (hcheck u0)))) ∧
    (((hcheck u0) != 0) = false →
      (K (w64 ((w64 ((w64 (256 - u0.Sent)) + 7)).tdiv 8), 0))))
theorem hTill_mono {u0 : Health} {K K1 : (Int × Int) → Prop} (hK : ∀ r, K r → K1 r) (h : hTill_vc u0 K) : hTill_vc u0 K1 :=
  ⟨fun c0 => hK _ (h.1 c0), fun c0 => hK _ (h.2 c0)⟩
def hTill (u0 : Health) : Int × Int :=
  bif (hcheck u0) != 0 then (0, (hcheck u0))
    else (w64 ((w64 ((w64 (256 - u0.Sent)) + 7)).tdiv 8), 0)
theorem hTill_ok (u0 : Health) : hTill_vc u0 (fun r => r = hTill u0) := ⟨fun h0 => (by simp only [hTill, h0, cond_true, cond_false]), fun h0 => (by simp only [hTill, h0, cond_true, cond_false])⟩

def chin_vc (u0 : Int) (u1 : Int) (K : Bool → Prop) : Prop :=
  (K ((decide (u0 ≥ 0)) && (decide (u0 ≤ u1))))
theorem chin_mono {u0 : Int} {u1 : Int} {K K1 : Bool → Prop} (hK : ∀ r, K r → K1 r) (h : chin_vc u0 u1 K) : chin_vc u0 u1 K1 :=
  hK _ h
def chin (u0 : Int) (u1 : Int) : Bool :=
  (decide (u0 ≥ 0)) && (decide (u0 ≤ u1))
theorem chin_ok (u0 : Int) (u1 : Int) : chin_vc u0 u1 (fun r => r = chin u0 u1) := (by rfl)

def rcheckh_vc (u0 : Health) (K : Int → Prop) : Prop :=
  ((((((!(chin u0.Sent 256)) || (!(chin u0.Got 255))) || (!(chin u0.Rest 127))) || ((u0.Sent != 256) && (u0.Rest != 0))) = true →
      (K 3)) ∧
    (((((!(chin u0.Sent 256)) || (!(chin u0.Got 255))) || (!(chin u0.Rest 127))) || ((u0.Sent != 256) && (u0.Rest != 0))) = false →
      (K 0)))
theorem rcheckh_mono {u0 : Health} {K K1 : Int → Prop} (hK : ∀ r, K r → K1 r) (h : rcheckh_vc u0 K) : rcheckh_vc u0 K1 :=
  ⟨fun c0 => hK _ (h.1 c0), fun c0 => hK _ (h.2 c0)⟩
def rcheckh (u0 : Health) : Int :=
  bif (((!(chin u0.Sent 256)) || (!(chin u0.Got 255))) || (!(chin u0.Rest 127))) || ((u0.Sent != 256) && (u0.Rest != 0)) then 3
    else 0
theorem rcheckh_ok (u0 : Health) : rcheckh_vc u0 (fun r => r = rcheckh u0) := ⟨fun h0 => (by simp only [rcheckh, h0, cond_true, cond_false]), fun h0 => (by simp only [rcheckh, h0, cond_true, cond_false])⟩

def rstate_vc (u0 : Health) (K : Int → Prop) : Prop :=
  (((u0.Sent == 256) = true →
      (K 2)) ∧
    ((u0.Sent == 256) = false →
      (((decide ((max u0.Sent u0.Got) ≥ 128)) = true →
        (K 1)) ∧
      ((decide ((max u0.Sent u0.Got) ≥ 128)) = false →
        (K 0)))))
theorem rstate_mono {u0 : Health} {K K1 : Int → Prop} (hK : ∀ r, K r → K1 r) (h : rstate_vc u0 K) : rstate_vc u0 K1 :=
  ⟨fun c0 => hK _ (h.1 c0), fun c0 => ⟨fun c1 => hK _ ((h.2 c0).1 c1), fun c1 => hK _ ((h.2 c0).2 c1)⟩⟩
def rstate (u0 : Health) : Int :=
  bif u0.Sent == 256 then 2
    else bif decide ((max u0.Sent u0.Got) ≥ 128) then 1
    else 0
theorem rstate_ok (u0 : Health) : rstate_vc u0 (fun r => r = rstate u0) := ⟨fun h0 => (by simp only [rstate, h0, cond_true, cond_false]), fun h0 => ⟨fun h1 => (by simp only [rstate, h0, h1, cond_true, cond_false]), fun h1 => (by simp only [rstate, h0, h1, cond_true, cond_false])⟩⟩

def rstep_vc (u0 : Health) (u1 : Int) (K : (Health × Bool) → Prop) : Prop :=
  ((((decide (u1 < 1)) || (decide (u1 > 6))) = true →
      (K ((⟨0, 0, 0⟩ : Health), false))) ∧
    (((decide (u1 < 1)) || (decide (u1 > 6))) = false →
      (((u0.Sent == 256) = true →
        (((u1 == 6) = true →
          ((((w64 (u0.Rest + 1)) == 128) = true →
            (K ((⟨0, 0, 0⟩ : Health), true))) ∧
          (((w64 (u0.Rest + 1)) == 128) = false →
            (K ((⟨u0.Sent, u0.Got, w64 (u0.Rest + 1)⟩ : Health), true))))) ∧
        ((u1 == 6) = false →
          (((u0.Rest == 128) = true →
            (K ((⟨0, 0, 0⟩ : Health), true))) ∧
          ((u0.Rest == 128) = false →
            (K (u0, true))))))) ∧
      ((u0.Sent == 256) = false →
        (((u1 == 1) = true →
          (((decide (u0.Sent > 0)) = true →
            (K ((⟨w64 (u0.Sent - 1), u0.Got, u0.Rest⟩ : Health), true))) ∧
          ((decide (u0.Sent > 0)) = false →
            (K (u0, true))))) ∧
        ((u1 == 1) = false →
          (((u1 == 2) = true →
            (((decide (u0.Got > 127)) = true →
              (K ((⟨u0.Sent, 126, u0.Rest⟩ : Health), true))) ∧
            ((decide (u0.Got > 127)) = false →
              (((decide (u0.Got > 0)) = true →
                (K ((⟨u0.Sent, w64 (u0.Got - 1), u0.Rest⟩ : Health), true))) ∧
              ((decide (u0.Got > 0)) = false →
                (K (u0, true))))))) ∧
          ((u1 == 2) = false →
            (((u1 == 3) = true →
              (((decide ((w64 (u0.Sent + 8)) > 256)) = true →
                (K ((⟨256, u0.Got, u0.Rest⟩ : Health), true))) ∧
              ((decide ((w64 (u0.Sent + 8)) > 256)) = false →
                (K ((⟨w64 (u0.Sent + 8), u0.Got, u0.Rest⟩ : Health), true))))) ∧
            ((u1 == 3) = false →
              (((u1 == 4) = true →
                (((decide (u0.Got < 255)) = true →
                  (K ((⟨u0.Sent, w64 (u0.Got + 1), u0.Rest⟩ : Health), true))) ∧
                ((decide (u0.Got < 255)) = false →
                  (K (u0, true))))) ∧
              ((u1 == 4) = false →
                (((u1 == 5) = true →
                  (((decide ((w64 (u0.Got + 8)) > 255)) = true →
                    (K ((⟨u0.Sent, 255, u0.Rest⟩ : Health), true))) ∧
                  ((decide ((w64 (u0.Got + 8)) > 255)) = false →
                    (K ((⟨u0.Sent, w64 (u0.Got + 8), u0.Rest⟩ : Health), true))))) ∧
                ((u1 == 5) = false →
                  (K (u0, true))))))))))))))))
theorem rstep_mono {u0 : Health} {u1 : Int} {K K1 : (Health × Bool) → Prop} (hK : ∀ r, K r → K1 r) (h : rstep_vc u0 u1 K) : rstep_vc u0 u1 K1 :=
  ⟨fun c0 => hK _ (h.1 c0), fun c0 => ⟨fun c1 => ⟨fun c2 => ⟨fun c3 => hK _ ((((h.2 c0).1 c1).1 c2).1 c3), fun c3 => hK _ ((((h.2 c0).1 c1).1 c2).2 c3)⟩, fun c2 => ⟨fun c3 => hK _ ((((h.2 c0).1 c1).2 c2).1 c3), fun c3 => hK _ ((((h.2 c0).1 c1).2 c2).2 c3)⟩⟩, fun c1 => ⟨fun c2 => ⟨fun c3 => hK _ ((((h.2 c0).2 c1).1 c2).1 c3), fun c3 => hK _ ((((h.2 c0).2 c1).1 c2).2 c3)⟩, fun c2 => ⟨fun c3 => ⟨fun c4 => hK _ (((((h.2 c0).2 c1).2 c2).1 c3).1 c4), fun c4 => ⟨fun c5 => hK _ ((((((h.2 c0).2 c1).2 c2).1 c3).2 c4).1 c5), fun c5 => hK _ ((((((h.2 c0).2 c1).2 c2).1 c3).2 c4).2 c5)⟩⟩, fun c3 => ⟨fun c4 => ⟨fun c5 => hK _ ((((((h.2 c0).2 c1).2 c2).2 c3).1 c4).1 c5), fun c5 => hK _ ((((((h.2 c0).2 c1).2 c2).2 c3).1 c4).2 c5)⟩, fun c4 => ⟨fun c5 => ⟨fun c6 => hK _ (((((((h.2 c0).2 c1).2 c2).2 c3).2 c4).1 c5).1 c6), fun c6 => hK _ (((((((h.2 c0).2 c1).2 c2).2 c3).2 c4).1 c5).2 c6)⟩, fun c5 => ⟨fun c6 => ⟨fun c7 => hK _ ((((((((h.2 c0).2 c1).2 c2).2 c3).2 c4).2 c5).1 c6).1 c7), fun c7 => hK _ ((((((((h.2 c0).2 c1).2 c2).2 c3).2 c4).2 c5).1 c6).2 c7)⟩, fun c6 => hK _ (((((((h.2 c0).2 c1).2 c2).2 c3).2 c4).2 c5).2 c6)⟩⟩⟩⟩⟩⟩⟩
def rstep (u0 : Health) (u1 : Int) : Health × Bool :=
  bif (decide (u1 < 1)) || (decide (u1 > 6)) then ((⟨0, 0, 0⟩ : Health), false)
    else bif u0.Sent == 256 then (bif u1 == 6 then (bif (w64 (u0.Rest + 1)) == 128 then ((⟨0, 0, 0⟩ : Health), true)
        else ((⟨u0.Sent, u0.Got, w64 (u0.Rest + 1)⟩ : Health), true))
      else bif u0.Rest == 128 then ((⟨0, 0, 0⟩ : Health), true)
      else (u0, true))
    else bif u1 == 1 then (bif decide (u0.Sent > 0) then ((⟨w64 (u0.Sent - 1), u0.Got, u0.Rest⟩ : Health), true)
      else (u0, true))
    else bif u1 == 2 then (bif decide (u0.Got > 127) then ((⟨u0.Sent, 126, u0.Rest⟩ : Health), true)
      else bif decide (u0.Got > 0) then ((⟨u0.Sent, w64 (u0.Got - 1), u0.Rest⟩ : Health), true)
      else (u0, true))
    else bif u1 == 3 then (bif decide ((w64 (u0.Sent + 8)) > 256) then ((⟨256, u0.Got, u0.Rest⟩ : Health), true)
      else ((⟨w64 (u0.Sent + 8), u0.Got, u0.Rest⟩ : Health), true))
    else bif u1 == 4 then (bif decide (u0.Got < 255) then ((⟨u0.Sent, w64 (u0.Got + 1), u0.Rest⟩ : Health), true)
      else (u0, true))
    else bif u1 == 5 then (bif decide ((w64 (u0.Got + 8)) > 255) then ((⟨u0.Sent, 255, u0.Rest⟩ : Health), true)
      else ((⟨u0.Sent, w64 (u0.Got + 8), u0.Rest⟩ : Health), true))
    else (u0, true)
theorem rstep_ok (u0 : Health) (u1 : Int) : rstep_vc u0 u1 (fun r => r = rstep u0 u1) := ⟨fun h0 => (by simp only [rstep, h0, cond_true, cond_false]), fun h0 => ⟨fun h1 => ⟨fun h2 => ⟨fun h3 => (by simp only [rstep, h0, h1, h2, h3, cond_true, cond_false]), fun h3 => (by simp only [rstep, h0, h1, h2, h3, cond_true, cond_false])⟩, fun h2 => ⟨fun h3 => (by simp only [rstep, h0, h1, h2, h3, cond_true, cond_false]), fun h3 => (by simp only [rstep, h0, h1, h2, h3, cond_true, cond_false])⟩⟩, fun h1 => ⟨fun h2 => ⟨fun h3 => (by simp only [rstep, h0, h1, h2, h3, cond_true, cond_false]), fun h3 => (by simp only [rstep, h0, h1, h2, h3, cond_true, cond_false])⟩, fun h2 => ⟨fun h3 => ⟨fun h4 => (by simp only [rstep, h0, h1, h2, h3, h4, cond_true, cond_false]), fun h4 => ⟨fun h5 => (by simp only [rstep, h0, h1, h2, h3, h4, h5, cond_true, cond_false]), fun h5 => (by simp only [rstep, h0, h1, h2, h3, h4, h5, cond_true, cond_false])⟩⟩, fun h3 => ⟨fun h4 => ⟨fun h5 => (by simp only [rstep, h0, h1, h2, h3, h4, h5, cond_true, cond_false]), fun h5 => (by simp only [rstep, h0, h1, h2, h3, h4, h5, cond_true, cond_false])⟩, fun h4 => ⟨fun h5 => ⟨fun h6 => (by simp only [rstep, h0, h1, h2, h3, h4, h5, h6, cond_true, cond_false]), fun h6 => (by simp only [rstep, h0, h1, h2, h3, h4, h5, h6, cond_true, cond_false])⟩, fun h5 => ⟨fun h6 => ⟨fun h7 => (by simp only [rstep, h0, h1, h2, h3, h4, h5, h6, h7, cond_true, cond_false]), fun h7 => (by simp only [rstep, h0, h1, h2, h3, h4, h5, h6, h7, cond_true, cond_false])⟩, fun h6 => (by simp only [rstep, h0, h1, h2, h3, h4, h5, h6, cond_true, cond_false])⟩⟩⟩⟩⟩⟩⟩

def hstep_vc (u0 : Health) (u1 : List Int) (K : (Health × Int × Int) → Prop) : Prop :=
  (u1.length ≤ 140737488355328 →
    ((((hcheck u0) != 0) = true →
      (K ((⟨0, 0, 0⟩ : Health), 0, (hcheck u0)))) ∧
    (((hcheck u0) != 0) = false →
      (((decide ((u1.length : Int) > 1000)) = true →
        (K ((⟨0, 0, 0⟩ : Health), 0, 2))) ∧
      ((decide ((u1.length : Int) > 1000)) = false →
        (∃ inv77 : Int → Health → Prop, ∃ mu77 : Int → Health → Nat, inv77 0 u0 ∧
        (∀ (x24 : Int) (yb6 : Health), inv77 x24 yb6 →
        (((decide (x24 < (u1.length : Int))) = true →
          ((0 ≤ x24 ∧ x24 < (u1.length : Int)) ∧
          (∀ q103, u1[x24.toNat]? = some q103 →
          (((((hchange yb6 q103).2) != 0) = true →
            (K ((⟨0, 0, 0⟩ : Health), x24, (hchange yb6 q103).2))) ∧
          ((((hchange yb6 q103).2) != 0) = false →
            (inv77 (w64 (x24 + 1)) ((hchange yb6 q103).1) ∧ mu77 (w64 (x24 + 1)) ((hchange yb6 q103).1) < mu77 x24 yb6)))))) ∧
        ((decide (x24 < (u1.length : Int))) = false →
          (K (yb6, 0, 0)))))))))))
theorem hstep_mono {u0 : Health} {u1 : List Int} {K K1 : (Health × Int × Int) → Prop} (hK : ∀ r, K r → K1 r) (h : hstep_vc u0 u1 K) : hstep_vc u0 u1 K1 :=
  fun z0 => ⟨fun c1 => hK _ ((h z0).1 c1), fun c1 => ⟨fun c2 => hK _ (((h z0).2 c1).1 c2), fun c2 => (Exists.elim (((h z0).2 c1).2 c2) fun i3 e3 => Exists.elim e3 fun m3 g3 => ⟨i3, m3, g3.1, fun x24 yb6 z3 => ⟨fun c4 => ⟨((g3.2 x24 yb6 z3).1 c4).1, fun q103 z6 => ⟨fun c7 => hK _ (((((g3.2 x24 yb6 z3).1 c4).2) q103 z6).1 c7), fun c7 => (((((g3.2 x24 yb6 z3).1 c4).2) q103 z6).2 c7)⟩⟩, fun c4 => hK _ ((g3.2 x24 yb6 z3).2 c4)⟩⟩)⟩⟩

def mul64_vc (u0 : Int) (u1 : Int) (K : (Int × Int) → Prop) : Prop :=
  (K (wu64 ((wu64 ((wu64 ((bShr .u64 u0 32) * (bShr .u64 u1 32))) + (bShr .u64 (wu64 ((wu64 ((bShr .u64 u0 32) * (bAnd .u64 u1 4294967295))) + (bShr .u64 (wu64 ((bAnd .u64 u0 4294967295) * (bAnd .u64 u1 4294967295))) 32))) 32))) + (bShr .u64 (wu64 ((bAnd .u64 (wu64 ((wu64 ((bShr .u64 u0 32) * (bAnd .u64 u1 4294967295))) + (bShr .u64 (wu64 ((bAnd .u64 u0 4294967295) * (bAnd .u64 u1 4294967295))) 32))) 4294967295) + (wu64 ((bAnd .u64 u0 4294967295) * (bShr .u64 u1 32))))) 32)), wu64 (u0 * u1)))
theorem mul64_mono {u0 : Int} {u1 : Int} {K K1 : (Int × Int) → Prop} (hK : ∀ r, K r → K1 r) (h : mul64_vc u0 u1 K) : mul64_vc u0 u1 K1 :=
  hK _ h
def mul64 (u0 : Int) (u1 : Int) : Int × Int :=
  (wu64 ((wu64 ((wu64 ((bShr .u64 u0 32) * (bShr .u64 u1 32))) + (bShr .u64 (wu64 ((wu64 ((bShr .u64 u0 32) * (bAnd .u64 u1 4294967295))) + (bShr .u64 (wu64 ((bAnd .u64 u0 4294967295) * (bAnd .u64 u1 4294967295))) 32))) 32))) + (bShr .u64 (wu64 ((bAnd .u64 (wu64 ((wu64 ((bShr .u64 u0 32) * (bAnd .u64 u1 4294967295))) + (bShr .u64 (wu64 ((bAnd .u64 u0 4294967295) * (bAnd .u64 u1 4294967295))) 32))) 4294967295) + (wu64 ((bAnd .u64 u0 4294967295) * (bShr .u64 u1 32))))) 32)), wu64 (u0 * u1))
theorem mul64_ok (u0 : Int) (u1 : Int) : mul64_vc u0 u1 (fun r => r = mul64 u0 u1) := (by rfl)

def bmul_vc (u0 : Int) (u1 : Int) (K : (Int × Int) → Prop) : Prop :=
  (K ((mul64 u0 u1).1, (mul64 u0 u1).2))
theorem bmul_mono {u0 : Int} {u1 : Int} {K K1 : (Int × Int) → Prop} (hK : ∀ r, K r → K1 r) (h : bmul_vc u0 u1 K) : bmul_vc u0 u1 K1 :=
  hK _ h
def bmul (u0 : Int) (u1 : Int) : Int × Int :=
  ((mul64 u0 u1).1, (mul64 u0 u1).2)
theorem bmul_ok (u0 : Int) (u1 : Int) : bmul_vc u0 u1 (fun r => r = bmul u0 u1) := (by rfl)

def srep_vc (u0 : List Int) (u1 : Int) (K : (List Int) → Prop) : Prop :=
  (u0.length ≤ 140737488355328 →
    (((decide (u1 < 0)) = true →
      False) ∧
    ((decide (u1 < 0)) = false →
      ((((decide (((bmul (wu64 (u0.length : Int)) (wu64 u1)).1) > 0)) || (decide (((bmul (wu64 (u0.length : Int)) (wu64 u1)).2) > 9223372036854775807))) = true →
        False) ∧
      (((decide (((bmul (wu64 (u0.length : Int)) (wu64 u1)).1) > 0)) || (decide (((bmul (wu64 (u0.length : Int)) (wu64 u1)).2) > 9223372036854775807))) = false →
        ((0 ≤ (w64 ((bmul (wu64 (u0.length : Int)) (wu64 u1)).2)) ∧ (w64 ((bmul (wu64 (u0.length : Int)) (wu64 u1)).2)) ≤ (w64 ((bmul (wu64 (u0.length : Int)) (wu64 u1)).2)) ∧ (w64 ((bmul (wu64 (u0.length : Int)) (wu64 u1)).2)) * 8 ≤ 140737488355328) ∧
        (∃ inv90 : Int → (List Int) → Prop, ∃ mu90 : Int → (List Int) → Nat, inv90 ((min u0.length ((List.replicate (w64 ((bmul (wu64 (u0.length : Int)) (wu64 u1)).2)).toNat (0 : Int)).length) : Nat) : Int) ((List.replicate (w64 ((bmul (wu64 (u0.length : Int)) (wu64 u1)).2)).toNat (0 : Int)).take 0 ++ u0.take (min u0.length ((List.replicate (w64 ((bmul (wu64 (u0.length : Int)) (wu64 u1)).2)).toNat (0 : Int)).length)) ++ (List.replicate (w64 ((bmul (wu64 (u0.length : Int)) (wu64 u1)).2)).toNat (0 : Int)).drop (0 + min u0.length ((List.replicate (w64 ((bmul (wu64 (u0.length : Int)) (wu64 u1)).2)).toNat (0 : Int)).length))) ∧
        (∀ (x8 : Int) (zg670 : List Int), inv90 x8 zg670 →
        (((decide (x8 < (zg670.length : Int))) = true →
          ((0 ≤ x8 ∧ x8 ≤ (zg670.length : Int) ∧ (zg670.length : Int) ≤ (zg670.length : Int)) ∧
          ((0 ≤ (0 : Int) ∧ (0 : Int) ≤ x8 ∧ x8 ≤ (zg670.length : Int)) ∧
          (inv90 (w64 (x8 + ((min ((zg670.take x8.toNat).drop 0).length (zg670.length - x8.toNat) : Nat) : Int))) (zg670.take x8.toNat ++ ((zg670.take x8.toNat).drop 0).take (min ((zg670.take x8.toNat).drop 0).length (zg670.length - x8.toNat)) ++ zg670.drop (x8.toNat + min ((zg670.take x8.toNat).drop 0).length (zg670.length - x8.toNat))) ∧ mu90 (w64 (x8 + ((min ((zg670.take x8.toNat).drop 0).length (zg670.length - x8.toNat) : Nat) : Int))) (zg670.take x8.toNat ++ ((zg670.take x8.toNat).drop 0).take (min ((zg670.take x8.toNat).drop 0).length (zg670.length - x8.toNat)) ++ zg670.drop (x8.toNat + min ((zg670.take x8.toNat).drop 0).length (zg670.length - x8.toNat))) < mu90 x8 zg670)))) ∧
        ((decide (x8 < (zg670.length : Int))) = false →
          (K zg670)))))))))))
theorem srep_mono {u0 : List Int} {u1 : Int} {K K1 : (List Int) → Prop} (hK : ∀ r, K r → K1 r) (h : srep_vc u0 u1 K) : srep_vc u0 u1 K1 :=
  fun z0 => ⟨fun c1 => ((h z0).1 c1), fun c1 => ⟨fun c2 => (((h z0).2 c1).1 c2), fun c2 => ⟨(((h z0).2 c1).2 c2).1, (Exists.elim ((((h z0).2 c1).2 c2).2) fun i4 e4 => Exists.elim e4 fun m4 g4 => ⟨i4, m4, g4.1, fun x8 zg670 z4 => ⟨fun c5 => ⟨((g4.2 x8 zg670 z4).1 c5).1, ⟨(((g4.2 x8 zg670 z4).1 c5).2).1, (((g4.2 x8 zg670 z4).1 c5).2).2⟩⟩, fun c5 => hK _ ((g4.2 x8 zg670 z4).2 c5)⟩⟩)⟩⟩⟩

end Go.Proofs.Ytodkadlfhlagpaa
