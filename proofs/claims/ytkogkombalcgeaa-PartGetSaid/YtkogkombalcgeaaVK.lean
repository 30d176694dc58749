/- What must hold so that each function ends well: pure predicates, made by program. -/
import Derived.Test.YtkogkombalcgeaaCore
set_option linter.unusedVariables false
set_option linter.unusedSimpArgs false
namespace Go.Proofs.Ytkogkombalcgeaa
open Go.Sy Go.RowKit
structure Sender where
  Data : List Int
  At : Int
  Next : Int
  Left : Int
  Done : Bool
  deriving DecidableEq, Inhabited
def Sender.rep (Z : Fz) (cs : List Value) (x : Sender) : Prop := ∃ (ao0 : Option Addr) (cap0 : Nat), cs = [.slice ao0 x.Data.length cap0, .int .i64 x.At, .int .i64 x.Next, .int .i64 x.Left, .bool x.Done] ∧ SlR (tyInt .u8) Z ao0 cap0 x.Data
def tySender : Ty Sender :=
  ⟨5, Sender.rep, by rintro _ _ _ ⟨_, _, rfl, _⟩; rfl, by rintro _ _ _ _ hZ ⟨_, _, rfl, h0⟩; exact ⟨_, _, rfl, h0.mono hZ⟩, by rintro _ _ _ ⟨_, _, rfl, _⟩; simp [Value.oneCell']⟩
def okSender (x : Sender) : Prop := ((∀ y0 ∈ x.Data, IntKind.u8.min ≤ y0 ∧ y0 ≤ IntKind.u8.max) ∧ x.Data.length * 1 ≤ lim) ∧ (IntKind.i64.min ≤ x.At ∧ x.At ≤ IntKind.i64.max) ∧ (IntKind.i64.min ≤ x.Next ∧ x.Next ≤ IntKind.i64.max) ∧ (IntKind.i64.min ≤ x.Left ∧ x.Left ≤ IntKind.i64.max) ∧ (True)

structure Getter where
  Want : Int
  Data : List Int
  Next : Int
  Block : Int
  Left : Int
  deriving DecidableEq, Inhabited
def Getter.rep (Z : Fz) (cs : List Value) (x : Getter) : Prop := ∃ (ao0 : Option Addr) (cap0 : Nat), cs = [.int .i64 x.Want, .slice ao0 x.Data.length cap0, .int .i64 x.Next, .int .i64 x.Block, .int .i64 x.Left] ∧ SlR (tyInt .u8) Z ao0 cap0 x.Data
def tyGetter : Ty Getter :=
  ⟨5, Getter.rep, by rintro _ _ _ ⟨_, _, rfl, _⟩; rfl, by rintro _ _ _ _ hZ ⟨_, _, rfl, h0⟩; exact ⟨_, _, rfl, h0.mono hZ⟩, by rintro _ _ _ ⟨_, _, rfl, _⟩; simp [Value.oneCell']⟩
def okGetter (x : Getter) : Prop := (IntKind.i64.min ≤ x.Want ∧ x.Want ≤ IntKind.i64.max) ∧ ((∀ y0 ∈ x.Data, IntKind.u8.min ≤ y0 ∧ y0 ≤ IntKind.u8.max) ∧ x.Data.length * 1 ≤ lim) ∧ (IntKind.i64.min ≤ x.Next ∧ x.Next ≤ IntKind.i64.max) ∧ (IntKind.i64.min ≤ x.Block ∧ x.Block ≤ IntKind.i64.max) ∧ (IntKind.i64.min ≤ x.Left ∧ x.Left ≤ IntKind.i64.max)

def beq_vc (u0 : List Int) (u1 : List Int) (K : Bool → Prop) : Prop :=
  (u0.length ≤ 140737488355328 →
    (u1.length ≤ 140737488355328 →
    ((((u0.length : Int) != (u1.length : Int)) = true →
      (K false)) ∧
    (((u0.length : Int) != (u1.length : Int)) = false →
      (∃ inv37 : Int → Prop, ∃ mu37 : Int → Nat, inv37 0 ∧
      (∀ (x13 : Int), inv37 x13 →
      (((decide (x13 < (u0.length : Int))) = true →
        ((0 ≤ x13 ∧ x13 < (u0.length : Int)) ∧
        (∀ q74, u0[x13.toNat]? = some q74 →
        ((0 ≤ x13 ∧ x13 < (u1.length : Int)) ∧
        (∀ q96, u1[x13.toNat]? = some q96 →
        (((q74 != q96) = true →
          (K false)) ∧
        ((q74 != q96) = false →
          (inv37 (w64 (x13 + 1)) ∧ mu37 (w64 (x13 + 1)) < mu37 x13)))))))) ∧
      ((decide (x13 < (u0.length : Int))) = false →
        (K true)))))))))
theorem beq_mono {u0 : List Int} {u1 : List Int} {K K1 : Bool → Prop} (hK : ∀ r, K r → K1 r) (h : beq_vc u0 u1 K) : beq_vc u0 u1 K1 :=
  fun z0 => fun z1 => ⟨fun c2 => hK _ (((h z0) z1).1 c2), fun c2 => (Exists.elim (((h z0) z1).2 c2) fun i3 e3 => Exists.elim e3 fun m3 g3 => ⟨i3, m3, g3.1, fun x13 z3 => ⟨fun c4 => ⟨((g3.2 x13 z3).1 c4).1, fun q74 z6 => ⟨((((g3.2 x13 z3).1 c4).2) q74 z6).1, fun q96 z8 => ⟨fun c9 => hK _ (((((((g3.2 x13 z3).1 c4).2) q74 z6).2) q96 z8).1 c9), fun c9 => (((((((g3.2 x13 z3).1 c4).2) q74 z6).2) q96 z8).2 c9)⟩⟩⟩, fun c4 => hK _ ((g3.2 x13 z3).2 c4)⟩⟩)⟩

def bclone_vc (u0 : List Int) (K : (List Int) → Prop) : Prop :=
  (u0.length ≤ 140737488355328 →
    (∀ nb11, (u0 ≠ [] → nb11 = false) →
    ((nb11 = true →
      (K ([] : List Int))) ∧
    (nb11 = false →
      (((([] : List Int).length + u0.length) * 1 ≤ 140737488355328) ∧
      (K (([] : List Int) ++ u0)))))))
theorem bclone_mono {u0 : List Int} {K K1 : (List Int) → Prop} (hK : ∀ r, K r → K1 r) (h : bclone_vc u0 K) : bclone_vc u0 K1 :=
  fun z0 => fun nb11 z1 => ⟨fun c2 => hK _ (((h z0) nb11 z1).1 c2), fun c2 => ⟨(((h z0) nb11 z1).2 c2).1, hK _ ((((h z0) nb11 z1).2 c2).2)⟩⟩

def prow_vc (u0 : List Int) (u1 : List Int) (K : (List Int) → Prop) : Prop :=
  (u0.length ≤ 140737488355328 →
    (u1.length ≤ 140737488355328 →
    (((u1.length + u0.length) * 1 ≤ 140737488355328) ∧
    (K (u1 ++ u0)))))
theorem prow_mono {u0 : List Int} {u1 : List Int} {K K1 : (List Int) → Prop} (hK : ∀ r, K r → K1 r) (h : prow_vc u0 u1 K) : prow_vc u0 u1 K1 :=
  fun z0 => fun z1 => ⟨((h z0) z1).1, hK _ (((h z0) z1).2)⟩

def bgrow_vc (u1 : Int) (K : (List Int) → Prop) : Prop :=
  (((decide (u1 < 0)) = true →
      False) ∧
    ((decide (u1 < 0)) = false →
      (((decide ((w64 (u1 - 0)) > 0)) = true →
        ((0 ≤ (w64 (u1 - 0)) ∧ (w64 (u1 - 0)) * 1 ≤ 140737488355328) ∧
        ((0 ≤ (0 : Int) ∧ (0 : Int) ≤ ((List.replicate (w64 (u1 - 0)).toNat (0 : Int)).length : Int)) ∧
        (K ((List.replicate (w64 (u1 - 0)).toNat (0 : Int)).take (0 : Int).toNat))))) ∧
      ((decide ((w64 (u1 - 0)) > 0)) = false →
        (K ([] : List Int))))))
theorem bgrow_mono {u1 : Int} {K K1 : (List Int) → Prop} (hK : ∀ r, K r → K1 r) (h : bgrow_vc u1 K) : bgrow_vc u1 K1 :=
  ⟨fun c0 => (h.1 c0), fun c0 => ⟨fun c1 => ⟨((h.2 c0).1 c1).1, ⟨(((h.2 c0).1 c1).2).1, hK _ ((((h.2 c0).1 c1).2).2)⟩⟩, fun c1 => hK _ ((h.2 c0).2 c1)⟩⟩

def pchecks_vc (u0 : Sender) (K : Int → Prop) : Prop :=
  (u0.Data.length ≤ 140737488355328 →
    (((decide ((u0.Data.length : Int) > 300)) = true →
      (K 2)) ∧
    ((decide ((u0.Data.length : Int) > 300)) = false →
      ((((((((((u0.Data.length : Int) == 0) || (decide (u0.At < 0))) || (decide (u0.At > (u0.Data.length : Int)))) || (decide (u0.Left < (-1)))) || (decide (u0.Left > 255))) || (decide (u0.Next < 0))) || (decide (u0.Next > 15))) = true →
        (K 3)) ∧
      (((((((((u0.Data.length : Int) == 0) || (decide (u0.At < 0))) || (decide (u0.At > (u0.Data.length : Int)))) || (decide (u0.Left < (-1)))) || (decide (u0.Left > 255))) || (decide (u0.Next < 0))) || (decide (u0.Next > 15))) = false →
        ((((u0.Done != (u0.At == (u0.Data.length : Int))) || (u0.Done && (u0.Left != 0))) = true →
          (K 4)) ∧
        (((u0.Done != (u0.At == (u0.Data.length : Int))) || (u0.Done && (u0.Left != 0))) = false →
          (((((decide ((u0.Data.length : Int) > 7)) && ((decide (u0.At < 6)) || ((!u0.Done) && (((w64 (u0.At - 6)).tmod 7) != 0)))) || ((decide ((u0.Data.length : Int) ≤ 7)) && (!u0.Done))) = true →
            (K 4)) ∧
          ((((decide ((u0.Data.length : Int) > 7)) && ((decide (u0.At < 6)) || ((!u0.Done) && (((w64 (u0.At - 6)).tmod 7) != 0)))) || ((decide ((u0.Data.length : Int) ≤ 7)) && (!u0.Done))) = false →
            (((((decide ((u0.Data.length : Int) > 7)) && (u0.Next != ((w64 ((w64 ((w64 ((w64 (u0.At - 6)) + 6)).tdiv 7)) + 1)).tmod 16))) || ((decide ((u0.Data.length : Int) ≤ 7)) && (u0.Next != 1))) = true →
              (K 4)) ∧
            ((((decide ((u0.Data.length : Int) > 7)) && (u0.Next != ((w64 ((w64 ((w64 ((w64 (u0.At - 6)) + 6)).tdiv 7)) + 1)).tmod 16))) || ((decide ((u0.Data.length : Int) ≤ 7)) && (u0.Next != 1))) = false →
              (K 0))))))))))))
theorem pchecks_mono {u0 : Sender} {K K1 : Int → Prop} (hK : ∀ r, K r → K1 r) (h : pchecks_vc u0 K) : pchecks_vc u0 K1 :=
  fun z0 => ⟨fun c1 => hK _ ((h z0).1 c1), fun c1 => ⟨fun c2 => hK _ (((h z0).2 c1).1 c2), fun c2 => ⟨fun c3 => hK _ ((((h z0).2 c1).2 c2).1 c3), fun c3 => ⟨fun c4 => hK _ (((((h z0).2 c1).2 c2).2 c3).1 c4), fun c4 => ⟨fun c5 => hK _ ((((((h z0).2 c1).2 c2).2 c3).2 c4).1 c5), fun c5 => hK _ ((((((h z0).2 c1).2 c2).2 c3).2 c4).2 c5)⟩⟩⟩⟩⟩
def pchecks (u0 : Sender) : Int :=
  bif decide ((u0.Data.length : Int) > 300) then 2
    else bif (((((((u0.Data.length : Int) == 0) || (decide (u0.At < 0))) || (decide (u0.At > (u0.Data.length : Int)))) || (decide (u0.Left < (-1)))) || (decide (u0.Left > 255))) || (decide (u0.Next < 0))) || (decide (u0.Next > 15)) then 3
    else bif (u0.Done != (u0.At == (u0.Data.length : Int))) || (u0.Done && (u0.Left != 0)) then 4
    else bif ((decide ((u0.Data.length : Int) > 7)) && ((decide (u0.At < 6)) || ((!u0.Done) && (((w64 (u0.At - 6)).tmod 7) != 0)))) || ((decide ((u0.Data.length : Int) ≤ 7)) && (!u0.Done)) then 4
    else bif ((decide ((u0.Data.length : Int) > 7)) && (u0.Next != ((w64 ((w64 ((w64 ((w64 (u0.At - 6)) + 6)).tdiv 7)) + 1)).tmod 16))) || ((decide ((u0.Data.length : Int) ≤ 7)) && (u0.Next != 1)) then 4
    else 0
theorem pchecks_ok (u0 : Sender) : pchecks_vc u0 (fun r => r = pchecks u0) := (fun _ => ⟨fun h0 => (by simp only [pchecks, h0, cond_true, cond_false]), fun h0 => ⟨fun h1 => (by simp only [pchecks, h0, h1, cond_true, cond_false]), fun h1 => ⟨fun h2 => (by simp only [pchecks, h0, h1, h2, cond_true, cond_false]), fun h2 => ⟨fun h3 => (by simp only [pchecks, h0, h1, h2, h3, cond_true, cond_false]), fun h3 => ⟨fun h4 => (by simp only [pchecks, h0, h1, h2, h3, h4, cond_true, cond_false]), fun h4 => (by simp only [pchecks, h0, h1, h2, h3, h4, cond_true, cond_false])⟩⟩⟩⟩⟩)

def pcheckg_vc (u0 : Getter) (K : Int → Prop) : Prop :=
  (u0.Data.length ≤ 140737488355328 →
    ((((((((((decide (u0.Want < 0)) || (decide (u0.Want > 300))) || (decide (u0.Block < 0))) || (decide (u0.Block > 255))) || (decide (u0.Left < 0))) || (decide (u0.Left > u0.Block))) || (decide (u0.Next < 0))) || (decide (u0.Next > 15))) = true →
      (K 3)) ∧
    (((((((((decide (u0.Want < 0)) || (decide (u0.Want > 300))) || (decide (u0.Block < 0))) || (decide (u0.Block > 255))) || (decide (u0.Left < 0))) || (decide (u0.Left > u0.Block))) || (decide (u0.Next < 0))) || (decide (u0.Next > 15))) = false →
      ((((u0.Want == 0) && (((decide ((u0.Data.length : Int) > 0)) || (u0.Next != 0)) || (u0.Left != 0))) = true →
        (K 4)) ∧
      (((u0.Want == 0) && (((decide ((u0.Data.length : Int) > 0)) || (u0.Next != 0)) || (u0.Left != 0))) = false →
        ((((decide (u0.Want > 0)) && ((((((decide (u0.Want < 8)) || (decide ((u0.Data.length : Int) < 6))) || (decide ((u0.Data.length : Int) ≥ u0.Want))) || (((w64 ((u0.Data.length : Int) - 6)).tmod 7) != 0)) || (u0.Next != ((w64 ((w64 ((w64 ((u0.Data.length : Int) - 6)).tdiv 7)) + 1)).tmod 16))) || ((decide (u0.Block > 0)) && (u0.Left == 0)))) = true →
          (K 4)) ∧
        (((decide (u0.Want > 0)) && ((((((decide (u0.Want < 8)) || (decide ((u0.Data.length : Int) < 6))) || (decide ((u0.Data.length : Int) ≥ u0.Want))) || (((w64 ((u0.Data.length : Int) - 6)).tmod 7) != 0)) || (u0.Next != ((w64 ((w64 ((w64 ((u0.Data.length : Int) - 6)).tdiv 7)) + 1)).tmod 16))) || ((decide (u0.Block > 0)) && (u0.Left == 0)))) = false →
          (K 0))))))))
theorem pcheckg_mono {u0 : Getter} {K K1 : Int → Prop} (hK : ∀ r, K r → K1 r) (h : pcheckg_vc u0 K) : pcheckg_vc u0 K1 :=
  fun z0 => ⟨fun c1 => hK _ ((h z0).1 c1), fun c1 => ⟨fun c2 => hK _ (((h z0).2 c1).1 c2), fun c2 => ⟨fun c3 => hK _ ((((h z0).2 c1).2 c2).1 c3), fun c3 => hK _ ((((h z0).2 c1).2 c2).2 c3)⟩⟩⟩
def pcheckg (u0 : Getter) : Int :=
  bif (((((((decide (u0.Want < 0)) || (decide (u0.Want > 300))) || (decide (u0.Block < 0))) || (decide (u0.Block > 255))) || (decide (u0.Left < 0))) || (decide (u0.Left > u0.Block))) || (decide (u0.Next < 0))) || (decide (u0.Next > 15)) then 3
    else bif (u0.Want == 0) && (((decide ((u0.Data.length : Int) > 0)) || (u0.Next != 0)) || (u0.Left != 0)) then 4
    else bif (decide (u0.Want > 0)) && ((((((decide (u0.Want < 8)) || (decide ((u0.Data.length : Int) < 6))) || (decide ((u0.Data.length : Int) ≥ u0.Want))) || (((w64 ((u0.Data.length : Int) - 6)).tmod 7) != 0)) || (u0.Next != ((w64 ((w64 ((w64 ((u0.Data.length : Int) - 6)).tdiv 7)) + 1)).tmod 16))) || ((decide (u0.Block > 0)) && (u0.Left == 0))) then 4
    else 0
theorem pcheckg_ok (u0 : Getter) : pcheckg_vc u0 (fun r => r = pcheckg u0) := (fun _ => ⟨fun h0 => (by simp only [pcheckg, h0, cond_true, cond_false]), fun h0 => ⟨fun h1 => (by simp only [pcheckg, h0, h1, cond_true, cond_false]), fun h1 => ⟨fun h2 => (by simp only [pcheckg, h0, h1, h2, cond_true, cond_false]), fun h2 => (by simp only [pcheckg, h0, h1, h2, cond_true, cond_false])⟩⟩⟩)

def pflow_vc (u0 : Int) (K : (List Int) → Prop) : Prop :=
  (K ([48, w8 u0, 0] : List Int))
theorem pflow_mono {u0 : Int} {K K1 : (List Int) → Prop} (hK : ∀ r, K r → K1 r) (h : pflow_vc u0 K) : pflow_vc u0 K1 :=
  hK _ h
def pflow (u0 : Int) : (List Int) :=
  ([48, w8 u0, 0] : List Int)
theorem pflow_ok (u0 : Int) : pflow_vc u0 (fun r => r = pflow u0) := (by rfl)

def pbad_vc (u0 : List Int) (K : Int → Prop) : Prop :=
  (u0.length ≤ 140737488355328 →
    ((((u0.length : Int) == 0) = true →
      (K 7)) ∧
    (((u0.length : Int) == 0) = false →
      (((decide ((u0.length : Int) > 300)) = true →
        (K 2)) ∧
      ((decide ((u0.length : Int) > 300)) = false →
        (K 0))))))
theorem pbad_mono {u0 : List Int} {K K1 : Int → Prop} (hK : ∀ r, K r → K1 r) (h : pbad_vc u0 K) : pbad_vc u0 K1 :=
  fun z0 => ⟨fun c1 => hK _ ((h z0).1 c1), fun c1 => ⟨fun c2 => hK _ (((h z0).2 c1).1 c2), fun c2 => hK _ (((h z0).2 c1).2 c2)⟩⟩
def pbad (u0 : List Int) : Int :=
  bif (u0.length : Int) == 0 then 7
    else bif decide ((u0.length : Int) > 300) then 2
    else 0
theorem pbad_ok (u0 : List Int) : pbad_vc u0 (fun r => r = pbad u0) := (fun _ => ⟨fun h0 => (by simp only [pbad, h0, cond_true, cond_false]), fun h0 => ⟨fun h1 => (by simp only [pbad, h0, h1, cond_true, cond_false]), fun h1 => (by simp only [pbad, h0, h1, cond_true, cond_false])⟩⟩)

def pin_vc (u0 : Int) (u1 : Int) (K : Bool → Prop) : Prop :=
  (K ((decide (u0 ≥ 0)) && (decide (u0 ≤ u1))))
theorem pin_mono {u0 : Int} {u1 : Int} {K K1 : Bool → Prop} (hK : ∀ r, K r → K1 r) (h : pin_vc u0 u1 K) : pin_vc u0 u1 K1 :=
  hK _ h
def pin (u0 : Int) (u1 : Int) : Bool :=
  (decide (u0 ≥ 0)) && (decide (u0 ≤ u1))
theorem pin_ok (u0 : Int) (u1 : Int) : pin_vc u0 u1 (fun r => r = pin u0 u1) := (by rfl)

def rchecks_vc (u0 : Sender) (K : Int → Prop) : Prop :=
  (u0.Data.length ≤ 140737488355328 →
    (((decide ((u0.Data.length : Int) > 300)) = true →
      (K 2)) ∧
    ((decide ((u0.Data.length : Int) > 300)) = false →
      ((((((((((u0.Data.length : Int) == 0) || (decide (u0.At < 0))) || (decide (u0.At > (u0.Data.length : Int)))) || (decide (u0.Left < (-1)))) || (decide (u0.Left > 255))) || (decide (u0.Next < 0))) || (decide (u0.Next > 15))) = true →
        (K 3)) ∧
      (((((((((u0.Data.length : Int) == 0) || (decide (u0.At < 0))) || (decide (u0.At > (u0.Data.length : Int)))) || (decide (u0.Left < (-1)))) || (decide (u0.Left > 255))) || (decide (u0.Next < 0))) || (decide (u0.Next > 15))) = false →
        ((((u0.Done != (u0.At == (u0.Data.length : Int))) || (u0.Done && (u0.Left != 0))) = true →
          (K 4)) ∧
        (((u0.Done != (u0.At == (u0.Data.length : Int))) || (u0.Done && (u0.Left != 0))) = false →
          (((decide ((u0.Data.length : Int) ≤ 7)) = true →
            ((((!u0.Done) || (u0.Next != 1)) = true →
              (K 4)) ∧
            (((!u0.Done) || (u0.Next != 1)) = false →
              (K 0)))) ∧
          ((decide ((u0.Data.length : Int) ≤ 7)) = false →
            (∃ inv198 : Int → Prop, ∃ mu198 : Int → Nat, inv198 0 ∧
            (∀ (x4 : Int), inv198 x4 →
            ((((min (w64 (6 + (w64 (7 * x4)))) (u0.Data.length : Int)) == u0.At) = true →
              (((u0.Next != ((w64 (x4 + 1)).tmod 16)) = true →
                (K 4)) ∧
              ((u0.Next != ((w64 (x4 + 1)).tmod 16)) = false →
                (K 0)))) ∧
            (((min (w64 (6 + (w64 (7 * x4)))) (u0.Data.length : Int)) == u0.At) = false →
              ((((min (w64 (6 + (w64 (7 * x4)))) (u0.Data.length : Int)) == (u0.Data.length : Int)) = true →
                (K 4)) ∧
              (((min (w64 (6 + (w64 (7 * x4)))) (u0.Data.length : Int)) == (u0.Data.length : Int)) = false →
                (inv198 (w64 (x4 + 1)) ∧ mu198 (w64 (x4 + 1)) < mu198 x4))))))))))))))))
theorem rchecks_mono {u0 : Sender} {K K1 : Int → Prop} (hK : ∀ r, K r → K1 r) (h : rchecks_vc u0 K) : rchecks_vc u0 K1 :=
  fun z0 => ⟨fun c1 => hK _ ((h z0).1 c1), fun c1 => ⟨fun c2 => hK _ (((h z0).2 c1).1 c2), fun c2 => ⟨fun c3 => hK _ ((((h z0).2 c1).2 c2).1 c3), fun c3 => ⟨fun c4 => ⟨fun c5 => hK _ ((((((h z0).2 c1).2 c2).2 c3).1 c4).1 c5), fun c5 => hK _ ((((((h z0).2 c1).2 c2).2 c3).1 c4).2 c5)⟩, fun c4 => (Exists.elim (((((h z0).2 c1).2 c2).2 c3).2 c4) fun i5 e5 => Exists.elim e5 fun m5 g5 => ⟨i5, m5, g5.1, fun x4 z5 => ⟨fun c6 => ⟨fun c7 => hK _ (((g5.2 x4 z5).1 c6).1 c7), fun c7 => hK _ (((g5.2 x4 z5).1 c6).2 c7)⟩, fun c6 => ⟨fun c7 => hK _ (((g5.2 x4 z5).2 c6).1 c7), fun c7 => (((g5.2 x4 z5).2 c6).2 c7)⟩⟩⟩)⟩⟩⟩⟩

end Go.Proofs.Ytkogkombalcgeaa
