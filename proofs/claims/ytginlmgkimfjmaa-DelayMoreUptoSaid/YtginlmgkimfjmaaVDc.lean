/- What must hold so that each function ends well: pure predicates, made by program. -/
import Derived.Test.YtginlmgkimfjmaaPDb
set_option linter.unusedVariables false
set_option linter.unusedSimpArgs false
namespace Go.Proofs.Ytginlmgkimfjmaa
open Go.Sy Go.RowKit
def fsizes_vc  (K : (List Int) → Prop) : Prop :=
  (K ([0, 1, 2, 3, 4, 5, 6, 7, 8, 12, 16, 20, 24, 32, 48, 64] : List Int))
theorem fsizes_mono  {K K1 : (List Int) → Prop} (hK : ∀ r, K r → K1 r) (h : fsizes_vc  K) : fsizes_vc  K1 :=
  hK _ h
def fsizes  : (List Int) :=
  ([0, 1, 2, 3, 4, 5, 6, 7, 8, 12, 16, 20, 24, 32, 48, 64] : List Int)
theorem fsizes_ok  : fsizes_vc  (fun r => r = fsizes ) := (by rfl)

def fbit_vc (u0 : Bool) (K : (List UInt8) → Prop) : Prop :=
  ((u0 = true →
      (K ([49] : List UInt8))) ∧
    (u0 = false →
      (K ([48] : List UInt8))))
theorem fbit_mono {u0 : Bool} {K K1 : (List UInt8) → Prop} (hK : ∀ r, K r → K1 r) (h : fbit_vc u0 K) : fbit_vc u0 K1 :=
  ⟨fun c0 => hK _ (h.1 c0), fun c0 => hK _ (h.2 c0)⟩
def fbit (u0 : Bool) : (List UInt8) :=
  bif u0 then ([49] : List UInt8)
    else ([48] : List UInt8)
theorem fbit_ok (u0 : Bool) : fbit_vc u0 (fun r => r = fbit u0) := ⟨fun h0 => (by simp only [fbit, h0, cond_true, cond_false]), fun h0 => (by simp only [fbit, h0, cond_true, cond_false])⟩

def smost_vc (u0 : Int) (K : (Int × Int) → Prop) : Prop :=
  ((((decide (u0 < 0)) || (decide (u0 > 1000))) = true →
      (K (0, 3))) ∧
    (((decide (u0 < 0)) || (decide (u0 > 1000))) = false →
      (((u0 == 0) = true →
        (K (0, 0))) ∧
      ((u0 == 0) = false →
        (K (w64 (u0 + (w64 ((w64 (u0 - 1)).tdiv 4))), 0))))))
theorem smost_mono {u0 : Int} {K K1 : (Int × Int) → Prop} (hK : ∀ r, K r → K1 r) (h : smost_vc u0 K) : smost_vc u0 K1 :=
  ⟨fun c0 => hK _ (h.1 c0), fun c0 => ⟨fun c1 => hK _ ((h.2 c0).1 c1), fun c1 => hK _ ((h.2 c0).2 c1)⟩⟩
def smost (u0 : Int) : Int × Int :=
  bif (decide (u0 < 0)) || (decide (u0 > 1000)) then (0, 3)
    else bif u0 == 0 then (0, 0)
    else (w64 (u0 + (w64 ((w64 (u0 - 1)).tdiv 4))), 0)
theorem smost_ok (u0 : Int) : smost_vc u0 (fun r => r = smost u0) := ⟨fun h0 => (by simp only [smost, h0, cond_true, cond_false]), fun h0 => ⟨fun h1 => (by simp only [smost, h0, h1, cond_true, cond_false]), fun h1 => (by simp only [smost, h0, h1, cond_true, cond_false])⟩⟩

def ckinds_vc  (K : (Kind × Kind × Kind × Kind × Kind) → Prop) : Prop :=
  (K ((⟨15, 17817, 0, 0⟩ : Kind), (⟨17, 92251, 65536, 0⟩ : Kind), (⟨21, 1058969, 1048576, 0⟩ : Kind), (⟨8, 47, 255, 255⟩ : Kind), (⟨16, 4129, 65535, 0⟩ : Kind)))
theorem ckinds_mono  {K K1 : (Kind × Kind × Kind × Kind × Kind) → Prop} (hK : ∀ r, K r → K1 r) (h : ckinds_vc  K) : ckinds_vc  K1 :=
  hK _ h
def ckinds  : (Kind × Kind × Kind × Kind × Kind) :=
  ((⟨15, 17817, 0, 0⟩ : Kind), (⟨17, 92251, 65536, 0⟩ : Kind), (⟨21, 1058969, 1048576, 0⟩ : Kind), (⟨8, 47, 255, 255⟩ : Kind), (⟨16, 4129, 65535, 0⟩ : Kind))
theorem ckinds_ok  : ckinds_vc  (fun r => r = ckinds ) := (by rfl)

def sindex_vc (u0 : List Int) (u1 : Int) (K : Int → Prop) : Prop :=
  (u0.length ≤ 140737488355328 →
    (∃ inv16 : Int → Prop, ∃ mu16 : Int → Nat, inv16 0 ∧
    (∀ (x8 : Int), inv16 x8 →
    (((decide (x8 < (u0.length : Int))) = true →
      ((0 ≤ x8 ∧ x8 < (u0.length : Int)) ∧
      (∀ q51, u0[x8.toNat]? = some q51 →
      (((u1 == q51) = true →
        (K x8)) ∧
      ((u1 == q51) = false →
        (inv16 (w64 (x8 + 1)) ∧ mu16 (w64 (x8 + 1)) < mu16 x8)))))) ∧
    ((decide (x8 < (u0.length : Int))) = false →
      (K (-1)))))))
theorem sindex_mono {u0 : List Int} {u1 : Int} {K K1 : Int → Prop} (hK : ∀ r, K r → K1 r) (h : sindex_vc u0 u1 K) : sindex_vc u0 u1 K1 :=
  fun z0 => (Exists.elim (h z0) fun i1 e1 => Exists.elim e1 fun m1 g1 => ⟨i1, m1, g1.1, fun x8 z1 => ⟨fun c2 => ⟨((g1.2 x8 z1).1 c2).1, fun q51 z4 => ⟨fun c5 => hK _ (((((g1.2 x8 z1).1 c2).2) q51 z4).1 c5), fun c5 => (((((g1.2 x8 z1).1 c2).2) q51 z4).2 c5)⟩⟩, fun c2 => hK _ ((g1.2 x8 z1).2 c2)⟩⟩)

def scontains_vc (u0 : List Int) (u1 : Int) (K : Bool → Prop) : Prop :=
  (u0.length ≤ 140737488355328 →
    (sindex_vc u0 u1 fun r13 =>
    (K (decide (r13 ≥ 0)))))
theorem scontains_mono {u0 : List Int} {u1 : Int} {K K1 : Bool → Prop} (hK : ∀ r, K r → K1 r) (h : scontains_vc u0 u1 K) : scontains_vc u0 u1 K1 :=
  fun z0 => sindex_mono (fun r13 h1 => hK _ h1) (h z0)

def fkind_vc (u0 : Frame) (K : Int → Prop) : Prop :=
  (u0.Data.length ≤ 140737488355328 →
    (((!u0.Fast) = true →
      (K 0)) ∧
    ((!u0.Fast) = false →
      (((decide ((u0.Data.length : Int) ≤ 16)) = true →
        (K 1)) ∧
      ((decide ((u0.Data.length : Int) ≤ 16)) = false →
        (K 2))))))
theorem fkind_mono {u0 : Frame} {K K1 : Int → Prop} (hK : ∀ r, K r → K1 r) (h : fkind_vc u0 K) : fkind_vc u0 K1 :=
  fun z0 => ⟨fun c1 => hK _ ((h z0).1 c1), fun c1 => ⟨fun c2 => hK _ (((h z0).2 c1).1 c2), fun c2 => hK _ (((h z0).2 c1).2 c2)⟩⟩
def fkind (u0 : Frame) : Int :=
  bif !u0.Fast then 0
    else bif decide ((u0.Data.length : Int) ≤ 16) then 1
    else 2
theorem fkind_ok (u0 : Frame) : fkind_vc u0 (fun r => r = fkind u0) := (fun _ => ⟨fun h0 => (by simp only [fkind, h0, cond_true, cond_false]), fun h0 => ⟨fun h1 => (by simp only [fkind, h0, h1, cond_true, cond_false]), fun h1 => (by simp only [fkind, h0, h1, cond_true, cond_false])⟩⟩)

def fname_vc (u0 : Frame) (K : (List UInt8) → Prop) : Prop :=
  (u0.Data.length ≤ 140737488355328 →
    (((!u0.Long) = true →
      ((0 ≤ (11 : Int) ∧ (11 : Int) ≤ 64 ∧ 0 ≤ (wu64 u0.ID) ∧ (wu64 u0.ID) < 2 ^ 62) ∧
      ((((bwriteS (wu64 u0.ID) 11).length : Int) + ((fbit u0.Remote).length : Int) ≤ 9223372036854775807) ∧
      (((((bwriteS (wu64 u0.ID) 11) ++ (fbit u0.Remote)).length : Int) + (([48] : List UInt8).length : Int) ≤ 9223372036854775807) ∧
      (K (((bwriteS (wu64 u0.ID) 11) ++ (fbit u0.Remote)) ++ ([48] : List UInt8))))))) ∧
    ((!u0.Long) = false →
      ((0 ≤ (11 : Int) ∧ (11 : Int) ≤ 64 ∧ 0 ≤ (wu64 (bShr .i64 u0.ID 18)) ∧ (wu64 (bShr .i64 u0.ID 18)) < 2 ^ 62) ∧
      ((((bwriteS (wu64 (bShr .i64 u0.ID 18)) 11).length : Int) + (([49, 49] : List UInt8).length : Int) ≤ 9223372036854775807) ∧
      ((0 ≤ (18 : Int) ∧ (18 : Int) ≤ 64 ∧ 0 ≤ (wu64 u0.ID) ∧ (wu64 u0.ID) < 2 ^ 62) ∧
      (((((bwriteS (wu64 (bShr .i64 u0.ID 18)) 11) ++ ([49, 49] : List UInt8)).length : Int) + ((bwriteS (wu64 u0.ID) 18).length : Int) ≤ 9223372036854775807) ∧
      ((((((bwriteS (wu64 (bShr .i64 u0.ID 18)) 11) ++ ([49, 49] : List UInt8)) ++ (bwriteS (wu64 u0.ID) 18)).length : Int) + ((fbit u0.Remote).length : Int) ≤ 9223372036854775807) ∧
      (K ((((bwriteS (wu64 (bShr .i64 u0.ID 18)) 11) ++ ([49, 49] : List UInt8)) ++ (bwriteS (wu64 u0.ID) 18)) ++ (fbit u0.Remote)))))))))))
theorem fname_mono {u0 : Frame} {K K1 : (List UInt8) → Prop} (hK : ∀ r, K r → K1 r) (h : fname_vc u0 K) : fname_vc u0 K1 :=
  fun z0 => ⟨fun c1 => ⟨((h z0).1 c1).1, ⟨(((h z0).1 c1).2).1, ⟨((((h z0).1 c1).2).2).1, hK _ (((((h z0).1 c1).2).2).2)⟩⟩⟩, fun c1 => ⟨((h z0).2 c1).1, ⟨(((h z0).2 c1).2).1, ⟨((((h z0).2 c1).2).2).1, ⟨(((((h z0).2 c1).2).2).2).1, ⟨((((((h z0).2 c1).2).2).2).2).1, hK _ (((((((h z0).2 c1).2).2).2).2).2)⟩⟩⟩⟩⟩⟩

def dasks_vc (u0 : Task) (u1 : Int) (u2 : Bool) (K : Int → Prop) : Prop :=
  ((u2 = true →
      ((u0.Every ≠ 0) ∧
      (K (w64 ((w64 ((w64 (u1 + u0.Jitter)).tdiv u0.Every)) + 1))))) ∧
    (u2 = false →
      ((u0.Every ≠ 0) ∧
      (K (w64 ((w64 ((w64 ((w64 (u1 + u0.Jitter)) + u0.Every)) - 1)).tdiv u0.Every))))))
theorem dasks_mono {u0 : Task} {u1 : Int} {u2 : Bool} {K K1 : Int → Prop} (hK : ∀ r, K r → K1 r) (h : dasks_vc u0 u1 u2 K) : dasks_vc u0 u1 u2 K1 :=
  ⟨fun c0 => ⟨(h.1 c0).1, hK _ ((h.1 c0).2)⟩, fun c0 => ⟨(h.2 c0).1, hK _ ((h.2 c0).2)⟩⟩

def dcheck_vc (u0 : List Task) (K : Int → Prop) : Prop :=
  (u0.length ≤ 140737488355328 →
    (((decide ((u0.length : Int) > 20)) = true →
      (K 2)) ∧
    ((decide ((u0.length : Int) > 20)) = false →
      (∃ inv32 : Int → Int → Prop, ∃ mu32 : Int → Int → Nat, inv32 (-1) 0 ∧
      (∀ (x3 : Int) (x11 : Int), inv32 x3 x11 →
      (((decide (x11 < (u0.length : Int))) = true →
        ((0 ≤ x11 ∧ x11 < (u0.length : Int)) ∧
        (∀ q56, u0[x11.toNat]? = some q56 →
        ((((((((((((decide (q56.ID < 0)) || (decide (q56.ID > 2047))) || (decide (q56.Every < 1))) || (decide (q56.Every > 1000000))) || (decide (q56.Late < 0))) || (decide (q56.Late > 1000000))) || (decide (q56.Jitter < 0))) || (decide (q56.Jitter ≥ q56.Every))) || (decide (q56.Bytes < 0))) || (decide (q56.Bytes > 8))) = true →
          (K 3)) ∧
        (((((((((((decide (q56.ID < 0)) || (decide (q56.ID > 2047))) || (decide (q56.Every < 1))) || (decide (q56.Every > 1000000))) || (decide (q56.Late < 0))) || (decide (q56.Late > 1000000))) || (decide (q56.Jitter < 0))) || (decide (q56.Jitter ≥ q56.Every))) || (decide (q56.Bytes < 0))) || (decide (q56.Bytes > 8))) = false →
          (((decide (q56.ID ≤ x3)) = true →
            (K 4)) ∧
          ((decide (q56.ID ≤ x3)) = false →
            (inv32 q56.ID (w64 (x11 + 1)) ∧ mu32 q56.ID (w64 (x11 + 1)) < mu32 x3 x11)))))))) ∧
      ((decide (x11 < (u0.length : Int))) = false →
        (K 0))))))))
theorem dcheck_mono {u0 : List Task} {K K1 : Int → Prop} (hK : ∀ r, K r → K1 r) (h : dcheck_vc u0 K) : dcheck_vc u0 K1 :=
  fun z0 => ⟨fun c1 => hK _ ((h z0).1 c1), fun c1 => (Exists.elim ((h z0).2 c1) fun i2 e2 => Exists.elim e2 fun m2 g2 => ⟨i2, m2, g2.1, fun x3 x11 z2 => ⟨fun c3 => ⟨((g2.2 x3 x11 z2).1 c3).1, fun q56 z5 => ⟨fun c6 => hK _ (((((g2.2 x3 x11 z2).1 c3).2) q56 z5).1 c6), fun c6 => ⟨fun c7 => hK _ ((((((g2.2 x3 x11 z2).1 c3).2) q56 z5).2 c6).1 c7), fun c7 => ((((((g2.2 x3 x11 z2).1 c3).2) q56 z5).2 c6).2 c7)⟩⟩⟩, fun c3 => hK _ ((g2.2 x3 x11 z2).2 c3)⟩⟩)⟩

def tclone_vc (u0 : List Task) (K : (List Task) → Prop) : Prop :=
  (u0.length ≤ 140737488355328 →
    (∀ nb11, (u0 ≠ [] → nb11 = false) →
    ((nb11 = true →
      (K ([] : List Task))) ∧
    (nb11 = false →
      (((([] : List Task).length + u0.length) * 40 ≤ 140737488355328) ∧
      (K (([] : List Task) ++ u0)))))))
theorem tclone_mono {u0 : List Task} {K K1 : (List Task) → Prop} (hK : ∀ r, K r → K1 r) (h : tclone_vc u0 K) : tclone_vc u0 K1 :=
  fun z0 => fun nb11 z1 => ⟨fun c2 => hK _ (((h z0) nb11 z1).1 c2), fun c2 => ⟨(((h z0) nb11 z1).2 c2).1, hK _ ((((h z0) nb11 z1).2 c2).2)⟩⟩

def dfix_vc (u0 : Int) (u1 : Int → Int) (K : Int → Prop) : Prop :=
  (∃ inv9 : Int → Prop, ∃ mu9 : Int → Nat, inv9 u0 ∧
    (∀ (x0 : Int), inv9 x0 →
    (((decide ((u1 x0) > 200000)) = true →
      (K (-1))) ∧
    ((decide ((u1 x0) > 200000)) = false →
      ((((u1 x0) == x0) = true →
        (K (u1 x0))) ∧
      (((u1 x0) == x0) = false →
        (inv9 (u1 x0) ∧ mu9 (u1 x0) < mu9 x0)))))))
theorem dfix_mono {u0 : Int} {u1 : Int → Int} {K K1 : Int → Prop} (hK : ∀ r, K r → K1 r) (h : dfix_vc u0 u1 K) : dfix_vc u0 u1 K1 :=
  (Exists.elim h fun i0 e0 => Exists.elim e0 fun m0 g0 => ⟨i0, m0, g0.1, fun x0 z0 => ⟨fun c1 => hK _ ((g0.2 x0 z0).1 c1), fun c1 => ⟨fun c2 => hK _ (((g0.2 x0 z0).2 c1).1 c2), fun c2 => (((g0.2 x0 z0).2 c1).2 c2)⟩⟩⟩)

end Go.Proofs.Ytginlmgkimfjmaa
