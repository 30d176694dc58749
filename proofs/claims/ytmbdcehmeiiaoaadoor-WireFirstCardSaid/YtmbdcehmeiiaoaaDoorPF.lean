/- What must hold so that each function ends well: pure predicates, made by program. -/
import Derived.Test.YtmbdcehmeiiaoaaDoorPEb
set_option linter.unusedVariables false
set_option linter.unusedSimpArgs false
namespace Go.Proofs.YtmbdcehmeiiaoaaDoor
open Go.Sy Go.RowKit
def fRead_vc (u0 : List UInt8) (K : (Frame × Int × Int) → Prop) : Prop :=
  ((((bcheckS u0) != 0) = true →
      (K ((⟨0, false, false, false, 0, []⟩ : Frame), 0, (bcheckS u0)))) ∧
    (((bcheckS u0) != 0) = false →
      ((Rok (⟨(⟨u0, 0, 0, (⟨0, 0⟩ : Counter)⟩ : Reader), (⟨0, false, false, false, 0, []⟩ : Frame)⟩ : FReader).Reader) ∧
      (∀ r63, (rnamesS (⟨(⟨u0, 0, 0, (⟨0, 0⟩ : Counter)⟩ : Reader), (⟨0, false, false, false, 0, []⟩ : Frame)⟩ : FReader)) = r63 →
      (r63.f.Data.length ≤ 140737488355328 →
      ((Rok r63.Reader ∧ 0 ≤ (4 : Int) ∧ (4 : Int) ≤ 62) ∧
      (∀ r84, (rnumberS r63 4) = r84 →
      (r84.2.f.Data.length ≤ 140737488355328 →
      (∃ inv98 : FReader → Prop,
      (((r84.2.Reader.Code != 0) = true →
        (inv98 r84.2)) ∧
      ((r84.2.Reader.Code != 0) = false →
        ((((!r84.2.f.Fast) && (decide (r84.1 > 8))) = true →
          (∀ r1180, (rfailS r84.2 4) = r1180 →
          (r1180.f.Data.length ≤ 140737488355328 →
          (inv98 r1180)))) ∧
        (((!r84.2.f.Fast) && (decide (r84.1 > 8))) = false →
          ((r84.2.f.Remote = true →
            (inv98 (⟨r84.2.Reader, (⟨r84.2.f.ID, r84.2.f.Long, r84.2.f.Fast, r84.2.f.Remote, r84.1, r84.2.f.Data⟩ : Frame)⟩ : FReader))) ∧
          (r84.2.f.Remote = false →
            (fsizes.length ≤ 140737488355328 →
            ((0 ≤ r84.1 ∧ r84.1 < (fsizes.length : Int)) ∧
            (∀ q1244, fsizes[r84.1.toNat]? = some q1244 →
            ((Rok r84.2.Reader ∧ (w64 (8 * q1244)) ≤ 9223372036854775807) ∧
            (∀ r1271, (rtakeFS r84.2 (w64 (8 * q1244))) = r1271 →
            (r1271.2.f.Data.length ≤ 140737488355328 →
            (((bbytesS r1271.1).1).length ≤ 140737488355328 →
            (inv98 (⟨r1271.2.Reader, (⟨r1271.2.f.ID, r1271.2.f.Long, r1271.2.f.Fast, r1271.2.f.Remote, r1271.2.f.Size, (bbytesS r1271.1).1⟩ : Frame)⟩ : FReader))))))))))))))) ∧
      (∀ (yb47 : FReader), inv98 yb47 →
        (∃ inv125 : FReader → Prop,
        ((yb47.f.Fast = true →
          ((fastpre yb47) ∧
          (∀ r997, (rfastS yb47) = r997 →
          (r997.f.Data.length ≤ 140737488355328 →
          (inv125 r997))))) ∧
        (yb47.f.Fast = false →
          (((yb47.Reader.Code == 0) = true →
            ((fheadpre yb47.f) ∧
            ((Rok yb47.Reader ∧ (15 : Int) ≤ 9223372036854775807) ∧
            (∀ r1067, (rtakeFS yb47 15) = r1067 →
            (r1067.2.f.Data.length ≤ 140737488355328 →
            ((((r1067.2.Reader.Code == 0) && (r1067.1 != ((csumS 0 (fheadS yb47.f)).1))) = true →
              (∀ r1114, (rfailS r1067.2 6) = r1114 →
              (r1114.f.Data.length ≤ 140737488355328 →
              (inv125 r1114)))) ∧
            (((r1067.2.Reader.Code == 0) && (r1067.1 != ((csumS 0 (fheadS yb47.f)).1))) = false →
              (inv125 r1067.2)))))))) ∧
          ((yb47.Reader.Code == 0) = false →
            (inv125 yb47))))) ∧
        (∀ (yb47v : FReader), inv125 yb47v →
          (((0 ≤ yb47v.Reader.At ∧ yb47v.Reader.At ≤ (yb47v.Reader.Row.length : Int) ∧ yb47v.Reader.Row.length ≤ 1000000) ∧ (10 : Int) ≤ 1000000) ∧
          (∀ r155, (rplainFS yb47v 10) = r155 →
          (r155.2.f.Data.length ≤ 140737488355328 →
          (((r155.2.Reader.Code == 0) = true →
            ((0 ≤ (1 : Int) ∧ (1 : Int) ≤ (r155.1.length : Int)) ∧
            ((((r155.1.take (1 : Int).toNat).length : Int) + (([49] : List UInt8).length : Int) ≤ 9223372036854775807) ∧
            ((0 ≤ (2 : Int) ∧ (2 : Int) ≤ (r155.1.length : Int)) ∧
            (((((r155.1.take (1 : Int).toNat) ++ ([49] : List UInt8)).length : Int) + ((r155.1.drop (2 : Int).toNat).length : Int) ≤ 9223372036854775807) ∧
            (∃ inv230 : FReader → Prop,
            ((((((r155.1.take (1 : Int).toNat) ++ ([49] : List UInt8)) ++ (r155.1.drop (2 : Int).toNat)) != ([49, 49, 49, 49, 49, 49, 49, 49, 49, 49] : List UInt8)) = true →
              (∀ r617, (rfailS r155.2 4) = r617 →
              (r617.f.Data.length ≤ 140737488355328 →
              (inv230 r617)))) ∧
            (((((r155.1.take (1 : Int).toNat) ++ ([49] : List UInt8)) ++ (r155.1.drop (2 : Int).toNat)) != ([49, 49, 49, 49, 49, 49, 49, 49, 49, 49] : List UInt8)) = false →
              (inv230 r155.2))) ∧
            (∀ (yb47vv : FReader), inv230 yb47vv →
              (((yb47vv.Reader.Code != 0) = true →
                (K ((⟨0, false, false, false, 0, []⟩ : Frame), 0, yb47vv.Reader.Code))) ∧
              ((yb47vv.Reader.Code != 0) = false →
                (K (yb47vv.f, yb47vv.Reader.At, 0))))))))))) ∧
          ((r155.2.Reader.Code == 0) = false →
            (((r155.2.Reader.Code != 0) = true →
              (K ((⟨0, false, false, false, 0, []⟩ : Frame), 0, r155.2.Reader.Code))) ∧
            ((r155.2.Reader.Code != 0) = false →
              (K (r155.2.f, r155.2.Reader.At, 0)))))))))))))))))))))

/-! Pure proofs: no program in sight. -/
def f0 : Frame := ⟨0, false, false, false, 0, []⟩
def rd1 (r : FReader) : FReader :=
  if (rnumberS r 4).2.Reader.Code ≠ 0 then (rnumberS r 4).2 else
  if r.f.Fast = false ∧ 8 < (rnumberS r 4).1 then rfailS (rnumberS r 4).2 4 else
  if r.f.Remote = true then ⟨(rnumberS r 4).2.Reader, ⟨r.f.ID, r.f.Long, r.f.Fast, r.f.Remote, (rnumberS r 4).1, r.f.Data⟩⟩ else
    ⟨(rtakeFS (rnumberS r 4).2 (8 * (fsizes[(rnumberS r 4).1.toNat]?.getD 0))).2.Reader, ⟨r.f.ID, r.f.Long, r.f.Fast, r.f.Remote, r.f.Size, (bbytesS (rtakeFS (rnumberS r 4).2 (8 * (fsizes[(rnumberS r 4).1.toNat]?.getD 0))).1).1⟩⟩
def rd2 (r : FReader) : FReader :=
  if r.f.Fast = true then rfastS r else if r.Reader.Code = 0 then
    (if (rtakeFS r 15).2.Reader.Code = 0 ∧ (rtakeFS r 15).1 ≠ (csumS 0 (fheadS r.f)).1 then rfailS (rtakeFS r 15).2 6 else (rtakeFS r 15).2) else r
def rd3 (r : FReader) : FReader := if (rplainFS r 10).2.Reader.Code = 0 ∧ ((rplainFS r 10).1.take 1 ++ [49]) ++ (rplainFS r 10).1.drop 2 ≠ tail10 then rfailS (rplainFS r 10).2 4 else (rplainFS r 10).2
def rstart (b : List UInt8) : FReader := ⟨⟨b, 0, 0, ⟨0, 0⟩⟩, f0⟩
def readR (b : List UInt8) : FReader := rd3 (rd2 (rd1 (rnamesS (rstart b))))
def readS (b : List UInt8) : Frame × Int × Int := if bcheckS b ≠ 0 then (f0, 0, bcheckS b) else if (readR b).Reader.Code ≠ 0 then (f0, 0, (readR b).Reader.Code) else ((readR b).f, (readR b).Reader.At, 0)
/-- How a good take looks. -/
theorem rtake_step {r : Reader} {n : Nat} (h : Rok r) (hc : (rtakeS r n).2.Code = 0) : r.Code = 0 ∧ r.At + n ≤ (rtakeS r n).2.At ∧ (rtakeS r n).1.length = n := by
  by_cases h0 : r.Code = 0
  · have := rtakeS_take (n := n) h h0
    cases hT : takeF r.c (r.Row.drop r.At.toNat) n with
    | ok q =>
      rw [hT] at this
      obtain ⟨g1, g2, g3, g4, g5, g6, g7⟩ := this
      rw [g1]
      have := h.1
      exact ⟨h0, by (try dsimp only); omega, g7⟩
    | error e =>
      rw [hT] at this
      obtain ⟨q, g1, g2, g3, g4, g5⟩ := this
      rw [g1] at hc
      exact absurd (g2.symm.trans hc) g3
  · rw [(rtakeS_Rok n h).2.2.1 h0] at hc
    exact absurd hc h0
theorem rfail_code {r : FReader} {e : Int} (he : e ≠ 0) : (rfailS r e).Reader.Code ≠ 0 := by
  unfold rfailS
  split
  · exact he
  · assumption
theorem rwant_step {r : FReader} {b : List UInt8} (h : Rok r.Reader) (hc : (rwantS r b).Reader.Code = 0) : r.Reader.Code = 0 ∧ r.Reader.At + 1 ≤ (rwantS r b).Reader.At := by
  unfold rwantS at hc ⊢
  split
  · rename_i h1
    rw [if_pos h1] at hc
    exact absurd hc (rfail_code (by decide))
  · rename_i h1
    rw [if_neg h1] at hc
    obtain ⟨k1, k2, _⟩ := rtake_step (n := 1) h hc
    exact ⟨k1, k2⟩
theorem rnumber_step {r : FReader} {n : Nat} (h : Rok r.Reader) (hc : (rnumberS r n).2.Reader.Code = 0) : r.Reader.Code = 0 ∧ r.Reader.At + n ≤ (rnumberS r n).2.Reader.At := by
  have e : (rnumberS r n).2 = (rtakeFS r n).2 := by unfold rnumberS; split <;> rfl
  rw [e] at hc ⊢
  obtain ⟨k1, k2, _⟩ := rtake_step (n := n) h hc
  exact ⟨k1, k2⟩
theorem take_step {r : FReader} {n : Nat} (h : Rok r.Reader) (hc : (rtakeFS r n).2.Reader.Code = 0) : r.Reader.Code = 0 ∧ r.Reader.At + n ≤ (rtakeFS r n).2.Reader.At := by
  obtain ⟨k1, k2, _⟩ := rtake_step (n := n) h hc
  exact ⟨k1, k2⟩
theorem rnumber_stepI {r : FReader} {n : Int} (h : Rok r.Reader) (hn : 0 ≤ n) (hc : (rnumberS r n).2.Reader.Code = 0) : r.Reader.Code = 0 ∧ r.Reader.At + n ≤ (rnumberS r n).2.Reader.At := by
  obtain ⟨m, rfl⟩ := Int.eq_ofNat_of_zero_le hn
  exact rnumber_step h hc
theorem take_stepI {r : FReader} {n : Int} (h : Rok r.Reader) (hn : 0 ≤ n) (hc : (rtakeFS r n).2.Reader.Code = 0) : r.Reader.Code = 0 ∧ r.Reader.At + n ≤ (rtakeFS r n).2.Reader.At := by
  obtain ⟨m, rfl⟩ := Int.eq_ofNat_of_zero_le hn
  exact take_step h hc
theorem take_RokI {r : FReader} {n : Int} (h : Rok r.Reader) (hn : 0 ≤ n) : Rok (rtakeFS r n).2.Reader := by
  obtain ⟨m, rfl⟩ := Int.eq_ofNat_of_zero_le hn
  exact rtakeFS_Rok h
theorem id_join (a n : Nat) (ha : a < 2048) (hn : n < 262144) : bOr .i64 (bShl .i64 (a : Int) 18) (n : Int) = ((a * 262144 + n : Nat) : Int) := by
  have e1 : bShl .i64 (a : Int) 18 = ((a * 262144 : Nat) : Int) := by
    unfold bShl
    have : (a : Int) * 2 ^ (min (18 : Int).toNat IntKind.i64.bits) = ((a * 262144 : Nat) : Int) := by
      show (a : Int) * 2 ^ 18 = _
      omega
    rw [this]
    exact w64_eq _ (by omega)
  have e2 : (BitVec.ofInt IntKind.i64.bits ((a * 262144 : Nat) : Int) ||| BitVec.ofInt IntKind.i64.bits (n : Int)).toNat = a * 262144 + n := by
    rw [BitVec.toNat_or]
    show (BitVec.ofInt 64 ((a * 262144 : Nat) : Int)).toNat ||| (BitVec.ofInt 64 (n : Int)).toNat = _
    rw [ofInt_toNat (a * 262144) (by omega), ofInt_toNat n (by omega)]
    have h := Nat.shiftLeft_add_eq_or_of_lt (i := 18) (b := n) (by omega) a
    rw [Nat.shiftLeft_eq] at h
    exact h.symm
  rw [e1]
  unfold bOr
  rw [e2]
  exact w64_eq _ (by omega)
theorem nam1_step {r : FReader} (h : Rok r.Reader) : (0 ≤ (nam1 r).f.ID ∧ (nam1 r).f.ID < 2048) ∧ (nam1 r).f.Size = r.f.Size ∧ (nam1 r).f.Data = r.f.Data ∧ ((nam1 r).Reader.Code = 0 → r.Reader.At + 12 ≤ (nam1 r).Reader.At) := by
  have hw := rwantS_Rok (b := [48]) h
  have hb : 0 ≤ (rnumberS (rwantS r [48]) 11).1 ∧ (rnumberS (rwantS r [48]) 11).1 < 2 ^ 11 := rnumberS_bound (n := 11) hw
  have hf := rnumberS_f (rwantS r [48]) 11
  have hf2 := rwantS_f r [48]
  refine ⟨hb, ?_, ?_, fun hc => ?_⟩
  · show (rnumberS (rwantS r [48]) 11).2.f.Size = _
    rw [hf, hf2]
  · show (rnumberS (rwantS r [48]) 11).2.f.Data = _
    rw [hf, hf2]
  · obtain ⟨k1, k2⟩ := rnumber_stepI (n := 11) hw (by decide) hc
    obtain ⟨k3, k4⟩ := rwant_step h k1
    show _ ≤ (rnumberS (rwantS r [48]) 11).2.Reader.At
    omega
theorem nam6_step {r : FReader} (h : Rok r.Reader) : (0 ≤ (nam6 r).f.ID ∧ (nam6 r).f.ID ≤ 536870911) ∧ (nam6 r).f.Size = r.f.Size ∧ (nam6 r).f.Data = r.f.Data ∧ ((nam6 r).Reader.Code = 0 → r.Reader.At + (if (nam6 r).f.Long = true then 33 else 14) ≤ (nam6 r).Reader.At) := by
  obtain ⟨k1, k2, k3, k4⟩ := nam1_step h
  have h1 := nam1_Rok h
  have hcR := take_RokI (n := 1) h1 (by decide)
  have hdR := take_RokI (n := 1) hcR (by decide)
  have hcs : (rtakeFS (rtakeFS (nam1 r) 1).2 1).2.Reader.Code = 0 → r.Reader.At + 14 ≤ (rtakeFS (rtakeFS (nam1 r) 1).2 1).2.Reader.At := fun hc => by
    obtain ⟨e1, e2⟩ := take_stepI (n := 1) hcR (by decide) hc
    obtain ⟨e3, e4⟩ := take_stepI (n := 1) h1 (by decide) e1
    have := k4 e3
    (try dsimp only at *)
    omega
  have hdf : (rtakeFS (rtakeFS (nam1 r) 1).2 1).2.f = (nam1 r).f := rfl
  unfold nam6
  generalize rtakeFS (rtakeFS (nam1 r) 1).2 1 = d at *
  generalize rtakeFS (nam1 r) 1 = c at *
  by_cases hl : (d.1 == [49]) = true
  · rw [if_pos hl]
    have h2 : Rok (nam2 c d).Reader := hdR
    have h3 := nam3_Rok (c := c.1 == [49]) h2
    have h3f : (nam3 (c.1 == [49]) (nam2 c d)).f = (nam2 c d).f := by unfold nam3; split; rfl; exact rfailS_f _ _
    have h3c : (nam3 (c.1 == [49]) (nam2 c d)).Reader.Code = 0 → (nam3 (c.1 == [49]) (nam2 c d)).Reader.At = d.2.Reader.At ∧ d.2.Reader.Code = 0 := by
      intro hc
      unfold nam3 at hc ⊢
      split
      · rename_i e
        rw [if_pos e] at hc
        exact ⟨rfl, hc⟩
      · rename_i e
        rw [if_neg e] at hc
        exact absurd hc (rfail_code (by decide))
    generalize nam3 (c.1 == [49]) (nam2 c d) = y at *
    have h4 := nam4_Rok h3
    have hb : 0 ≤ (rnumberS y 18).1 ∧ (rnumberS y 18).1 < 2 ^ 18 := rnumberS_bound (n := 18) h3
    have hyid : 0 ≤ y.f.ID ∧ y.f.ID < 2048 := by rw [h3f]; show 0 ≤ d.2.f.ID ∧ d.2.f.ID < 2048; rw [hdf]; exact k1
    have p18 : (2 : Int) ^ 18 = 262144 := rfl
    have hid := id_join y.f.ID.toNat (rnumberS y 18).1.toNat (by omega) (by omega)
    have e1 : ((y.f.ID.toNat : Nat) : Int) = y.f.ID := by omega
    have e2 : (((rnumberS y 18).1.toNat : Nat) : Int) = (rnumberS y 18).1 := by omega
    rw [e1, e2] at hid
    have hlong : (nam5 (rtakeFS (nam4 y) 1)).f.Long = true := by
      show y.f.Long = true
      rw [h3f]
      exact hl
    refine ⟨?_, ?_, ?_, fun hc => ?_⟩
    · show 0 ≤ bOr .i64 (bShl .i64 y.f.ID 18) (rnumberS y 18).1 ∧ _
      have : (nam5 (rtakeFS (nam4 y) 1)).f.ID = bOr .i64 (bShl .i64 y.f.ID 18) (rnumberS y 18).1 := rfl
      rw [this, hid]
      omega
    · show y.f.Size = _
      rw [h3f]
      show d.2.f.Size = _
      rw [hdf]; exact k2
    · show y.f.Data = _
      rw [h3f]
      show d.2.f.Data = _
      rw [hdf]; exact k3
    · rw [hlong]
      obtain ⟨q1, q2⟩ := take_stepI (n := 1) h4 (by decide) hc
      obtain ⟨q3, q4⟩ := rnumber_stepI (n := 18) h3 (by decide) q1
      obtain ⟨q5, q6⟩ := h3c q3
      have := hcs q6
      have q2' : (nam4 y).Reader.At + 1 ≤ (nam5 (rtakeFS (nam4 y) 1)).Reader.At := q2
      have q4' : y.Reader.At + 18 ≤ (nam4 y).Reader.At := q4
      rw [if_pos rfl]
      omega
  · rw [if_neg hl]
    have hlong : (nam2 c d).f.Long = false := by show (d.1 == [49]) = false; simpa using hl
    refine ⟨?_, ?_, ?_, fun hc => ?_⟩
    · show 0 ≤ d.2.f.ID ∧ d.2.f.ID ≤ 536870911
      rw [hdf]; omega
    · show d.2.f.Size = _
      rw [hdf]; exact k2
    · show d.2.f.Data = _
      rw [hdf]; exact k3
    · rw [hlong]
      exact hcs hc
theorem names_step {r : FReader} (h : Rok r.Reader) : (0 ≤ (rnamesS r).f.ID ∧ (rnamesS r).f.ID ≤ 536870911) ∧ (rnamesS r).f.Size = r.f.Size ∧ (rnamesS r).f.Data = r.f.Data ∧ ((rnamesS r).Reader.Code = 0 → ((rnamesS r).f.Fast = true → (rnamesS r).f.Remote = false) ∧ r.Reader.At + (1 + (if (rnamesS r).f.Long = false then 13 else 32) + (if (rnamesS r).f.Fast = true then 4 else if (rnamesS r).f.Long = true then 2 else 1)) ≤ (rnamesS r).Reader.At) := by
  obtain ⟨k1, k2, k3, k4⟩ := nam6_step h
  have h6 := nam6_Rok h
  have hq := take_RokI (n := 1) h6 (by decide)
  have hqc : (rtakeFS (nam6 r) 1).2.Reader.Code = 0 → r.Reader.At + (if (nam6 r).f.Long = true then 33 else 14) + 1 ≤ (rtakeFS (nam6 r) 1).2.Reader.At := fun hc => by
    obtain ⟨e1, e2⟩ := take_stepI (n := 1) h6 (by decide) hc
    have := k4 e1
    (try dsimp only at *)
    omega
  have hqf : (rtakeFS (nam6 r) 1).2.f = (nam6 r).f := rfl
  unfold rnamesS
  generalize rtakeFS (nam6 r) 1 = q at *
  generalize nam6 r = y at *
  have hflag : ∀ z : FReader, z.f = (nam7 q).f → z.f.ID = y.f.ID ∧ z.f.Size = y.f.Size ∧ z.f.Data = y.f.Data ∧ z.f.Long = y.f.Long ∧ z.f.Fast = (q.1 == [49]) ∧ z.f.Remote = q.2.f.Remote := fun z hz => by
    rw [hz, ← hqf]
    exact ⟨rfl, rfl, rfl, rfl, rfl, rfl⟩
  have h7 : Rok (nam7 q).Reader := hq
  unfold nam8
  by_cases h1 : (q.1 == [49]) = true
  · rw [if_pos h1]
    have h9 : Rok (if q.2.f.Remote = true then rfailS (nam7 q) 4 else nam7 q).Reader := by
      split
      · exact rfailS_Rok hq
      · exact hq
    have h9f : (if q.2.f.Remote = true then rfailS (nam7 q) 4 else nam7 q).f = (nam7 q).f := rfail_ite _ _ _
    have h9c : (if q.2.f.Remote = true then rfailS (nam7 q) 4 else nam7 q).Reader.Code = 0 → (if q.2.f.Remote = true then rfailS (nam7 q) 4 else nam7 q).Reader.At = q.2.Reader.At ∧ q.2.Reader.Code = 0 ∧ q.2.f.Remote = false := by
      intro hc
      by_cases e : q.2.f.Remote = true
      · rw [if_pos e] at hc
        exact absurd hc (rfail_code (by decide))
      · rw [if_neg e] at hc ⊢
        exact ⟨rfl, hc, by simpa using e⟩
    generalize (if q.2.f.Remote = true then rfailS (nam7 q) 4 else nam7 q) = z at *
    have a1 := rwantS_Rok (b := [48]) h9
    have a2 := rwantS_Rok (b := [49]) a1
    obtain ⟨f1, f2, f3, f4, f5, f6⟩ := hflag (rwantS (rwantS (rwantS z [48]) [49]) [48]) (by rw [rwantS_f, rwantS_f, rwantS_f, h9f])
    rw [f1, f2, f3, f4, f5, f6, h1]
    refine ⟨k1, k2, k3, fun hc => ?_⟩
    obtain ⟨b1, b2⟩ := rwant_step a2 hc
    obtain ⟨b3, b4⟩ := rwant_step a1 b1
    obtain ⟨b5, b6⟩ := rwant_step h9 b3
    obtain ⟨b7, b8, b9⟩ := h9c b5
    have := hqc b8
    refine ⟨fun _ => b9, ?_⟩
    rw [if_pos rfl]
    cases hL : y.f.Long
    · rw [hL, if_neg (by simp)] at this
      rw [if_pos rfl]
      omega
    · rw [hL, if_pos rfl] at this
      rw [if_neg (by simp)]
      omega
  · rw [if_neg h1]
    have h1 : (q.1 == [49]) = false := by simpa using h1
    have hL : q.2.f.Long = y.f.Long := by rw [hqf]
    rw [hL]
    by_cases h2 : y.f.Long = true
    · rw [if_pos h2]
      obtain ⟨f1, f2, f3, f4, f5, f6⟩ := hflag (rwantS (nam7 q) [48]) (by rw [rwantS_f])
      rw [f1, f2, f3, f4, f5, f6, h1, h2]
      refine ⟨k1, k2, k3, fun hc => ?_⟩
      obtain ⟨b1, b2⟩ := rwant_step h7 hc
      have := hqc b1
      refine ⟨fun e => by simp at e, ?_⟩
      rw [h2, if_pos rfl] at this
      rw [if_neg (by simp), if_neg (by simp), if_pos rfl]
      have : (nam7 q).Reader.At = q.2.Reader.At := rfl
      omega
    · rw [if_neg h2]
      have h2 : y.f.Long = false := by simpa using h2
      obtain ⟨f1, f2, f3, f4, f5, f6⟩ := hflag (nam7 q) rfl
      rw [f1, f2, f3, f4, f5, f6, h1, h2]
      refine ⟨k1, k2, k3, fun hc => ?_⟩
      have := hqc hc
      refine ⟨fun e => by simp at e, ?_⟩
      rw [h2, if_neg (by simp)] at this
      rw [if_pos rfl, if_neg (by simp), if_neg (by simp)]
      have : (nam7 q).Reader.At = q.2.Reader.At := rfl
      omega
theorem rplainS_Rok {r : Reader} {n : Int} (h : Rok r) : Rok (rplainS r n).2 := by
  obtain ⟨a0, a1, a2, a3, a4, a5⟩ := h
  unfold rplainS
  split
  · exact ⟨a0, a1, a2, a3, a4, a5⟩
  · split
    · exact ⟨a0, a1, a2, a3, a4, a5⟩
    · split
      · exact ⟨by (try dsimp only); omega, by (try dsimp only); omega, a2, a3, a4, a5⟩
      · exact ⟨by (try dsimp only); omega, by (try dsimp only); omega, a2, a3, a4, a5⟩
theorem rplainS_len {r : Reader} {n : Int} (h : Rok r) (hn : 0 ≤ n) (hc : (rplainS r n).2.Code = 0) : (rplainS r n).1.length = n.toNat := by
  obtain ⟨a0, a1, a2, a3, a4, a5⟩ := h
  unfold rplainS at hc ⊢
  split
  · have : n = 0 := by omega
    rw [this]; rfl
  · rename_i h1
    rw [if_neg h1] at hc
    split
    · rename_i h2
      rw [if_pos h2] at hc
      exact absurd hc h2
    · rename_i h2
      rw [if_neg h2] at hc
      split
      · rw [List.length_take, List.length_drop]; omega
      · rename_i h3
        rw [if_neg h3] at hc
        cases hc
theorem rfastS_Rok {r : FReader} (h : Rok r.Reader) : Rok (rfastS r).Reader := by
  unfold rfastS
  split
  · exact h
  · have : ∀ (e : List UInt8) (q : List UInt8 × FReader), Rok q.2.Reader → Rok ((fun t : FReader => if t.Reader.Code = 0 ∧ q.1 ≠ e then rfailS t 6 else t) (if badN (lastB (r.Reader.Row.take r.Reader.At.toNat)) q.1 q.1.length = true then rfailS q.2 5 else q.2)).Reader := by
      intro e q hq
      have h1 : Rok (if badN (lastB (r.Reader.Row.take r.Reader.At.toNat)) q.1 q.1.length = true then rfailS q.2 5 else q.2).Reader := by
        split
        · exact rfailS_Rok hq
        · exact hq
      dsimp only
      generalize (if badN (lastB (r.Reader.Row.take r.Reader.At.toNat)) q.1 q.1.length = true then rfailS q.2 5 else q.2) = t at *
      split
      · exact rfailS_Rok h1
      · exact h1
    exact this _ _ (rplainS_Rok h)
theorem byb_len : ∀ (k : Nat) (b : List UInt8), (byb k b).length = k := by
  intro k
  induction k with
  | zero => intro b; rfl
  | succ k ih => intro b; rw [byb, List.length_cons, ih]
theorem byb_range : ∀ (k : Nat) (b : List UInt8), isRow b = true → ∀ x ∈ byb k b, 0 ≤ x ∧ x ≤ 255 := by
  intro k
  induction k with
  | zero => intro b _ x hx; cases hx
  | succ k ih =>
    intro b hb x hx
    rw [byb, List.mem_cons] at hx
    rcases hx with rfl | hx
    · have hv := val_lt (isRow_take hb 8)
      have : 2 ^ (b.take 8).length ≤ 2 ^ 8 := Nat.pow_le_pow_right (by omega) (by rw [List.length_take]; omega)
      have : (2 : Nat) ^ 8 = 256 := rfl
      omega
    · exact ih _ (isRow_drop hb 8) x hx
theorem sizes_at {i : Nat} {q : Int} (h : fsizes[i]? = some q) : 0 ≤ q ∧ q ≤ 64 ∧ scontainsS fsizes q = true := by
  have hi : i < 16 := by
    rcases Nat.lt_or_ge i 16 with h1 | h1
    · exact h1
    · rw [List.getElem?_eq_none h1] at h; cases h
  have key : ∀ k : Fin 16, ∀ q, fsizes[k.val]? = some q → 0 ≤ q ∧ q ≤ 64 ∧ scontainsS fsizes q = true := by
    intro k
    have h2 : ∃ x, fsizes[k.val]? = some x ∧ (0 ≤ x ∧ x ≤ 64 ∧ scontainsS fsizes x = true) := by
      have : ∀ k : Fin 16, 0 ≤ (fsizes[k.val]?.getD 0) ∧ (fsizes[k.val]?.getD 0) ≤ 64 ∧ scontainsS fsizes (fsizes[k.val]?.getD 0) = true := by decide
      have h3 : k.val < fsizes.length := k.isLt
      refine ⟨fsizes[k.val], List.getElem?_eq_getElem h3, ?_⟩
      have := this k
      rw [List.getElem?_eq_getElem h3] at this
      exact this
    obtain ⟨x, h3, h4⟩ := h2
    intro q hq
    rw [h3] at hq
    cases hq
    exact h4
  exact key ⟨i, hi⟩ q h
def dsz (n : Int) : Int := 8 * (fsizes[n.toNat]?.getD 0)
theorem rd1_good {r : FReader} (h : Rok r.Reader) (hid : 0 ≤ r.f.ID ∧ r.f.ID ≤ 536870911) (hz : r.f.Size = 0) (hd : r.f.Data = []) (hc : r.Reader.Code = 0 → (r.f.Fast = true → r.f.Remote = false) ∧ 0 + (1 + (if r.f.Long = false then 13 else 32) + (if r.f.Fast = true then 4 else if r.f.Long = true then 2 else 1)) ≤ r.Reader.At) : fastpre (rd1 r) := by
  have hn := rnumberS_Rok (n := 4) h
  have hnf := rnumberS_f r 4
  have hb : 0 ≤ (rnumberS r 4).1 ∧ (rnumberS r 4).1 < 2 ^ 4 := rnumberS_bound (n := 4) h
  have p4 : (2 : Int) ^ 4 = 16 := rfl
  have hst : (rnumberS r 4).2.Reader.Code = 0 → r.Reader.Code = 0 ∧ r.Reader.At + 4 ≤ (rnumberS r 4).2.Reader.At := fun e => rnumber_stepI (n := 4) h (by decide) e
  unfold rd1
  generalize rnumberS r 4 = a at *
  by_cases h1 : a.2.Reader.Code ≠ 0
  · rw [if_pos h1]
    exact ⟨hn, fun e => absurd e h1⟩
  · rw [if_neg h1]
    have h1 : a.2.Reader.Code = 0 := by simpa using h1
    obtain ⟨hs1, hs2⟩ := hst h1
    obtain ⟨hc1, hc2⟩ := hc hs1
    by_cases h2 : r.f.Fast = false ∧ 8 < a.1
    · rw [if_pos h2]
      exact ⟨rfailS_Rok hn, fun e => absurd e (rfail_code (by decide))⟩
    · rw [if_neg h2]
      by_cases h3 : r.f.Remote = true
      · rw [if_pos h3]
        refine ⟨hn, fun _ => ⟨⟨hid.1, hid.2, hb.1, ?_, ?_, ?_, ?_⟩, ?_⟩⟩
        · show a.1 ≤ 8
          have : r.f.Fast = false := by
            cases hf : r.f.Fast
            · rfl
            · rw [hc1 hf] at h3; cases h3
          have : ¬ 8 < a.1 := fun e => h2 ⟨this, e⟩
          omega
        · show r.f.Data.length ≤ 64; rw [hd]; simp
        · show ∀ x ∈ r.f.Data, _; rw [hd]; intro x hx; cases hx
        · intro e
          have e : r.f.Remote = false := e
          rw [e] at h3; cases h3
        · rw [fheadS_len]
          show (((1 + (if r.f.Long = false then 13 else 32) + (if r.f.Fast = true then 4 else if r.f.Long = true then 2 else 1) + 4 + 8 * r.f.Data.length : Nat)) : Int) ≤ a.2.Reader.At
          rw [hd, List.length_nil]
          have : (((1 + (if r.f.Long = false then 13 else 32) + (if r.f.Fast = true then 4 else if r.f.Long = true then 2 else 1) + 4 + 8 * 0 : Nat)) : Int) = (1 + (if r.f.Long = false then 13 else 32) + (if r.f.Fast = true then 4 else if r.f.Long = true then 2 else 1)) + 4 := by
            split <;> split <;> (try split) <;> rfl
          omega
      · rw [if_neg h3]
        obtain ⟨v, hv⟩ : ∃ v, fsizes[a.1.toNat]? = some v := ⟨_, List.getElem?_eq_getElem (show a.1.toNat < fsizes.length by show a.1.toNat < 16; omega)⟩
        obtain ⟨v1, v2, v3⟩ := sizes_at hv
        rw [hv, Option.getD_some]
        have ht := take_RokI (n := 8 * v) hn (by omega)
        have hrow : isRow (rtakeFS a.2 (8 * v)).1 = true ∧ (rtakeFS a.2 (8 * v)).1.length ≤ (8 * v).toNat ∧ ((rtakeFS a.2 (8 * v)).2.Reader.Code = 0 → (rtakeFS a.2 (8 * v)).1.length = (8 * v).toNat) := rtakeS_row (n := 8 * v) hn
        have hst2 : (rtakeFS a.2 (8 * v)).2.Reader.Code = 0 → a.2.Reader.Code = 0 ∧ a.2.Reader.At + 8 * v ≤ (rtakeFS a.2 (8 * v)).2.Reader.At := fun e => take_stepI (n := 8 * v) hn (by omega) e
        generalize rtakeFS a.2 (8 * v) = t at *
        refine ⟨ht, fun hcode => ?_⟩
        have hcode : t.2.Reader.Code = 0 := hcode
        obtain ⟨g1, g2, g3⟩ := hrow
        have g3 := g3 hcode
        have hby : bbytesS t.1 = (byb v.toNat t.1, 0) := by
          unfold bbytesS
          rw [if_neg (by rw [(bcheck_zero t.1).2 ⟨by omega, g1⟩]; simp), if_neg (by omega)]
          have : t.1.length / 8 = v.toNat := by omega
          rw [this]
        rw [hby]
        have hbl := byb_len v.toNat t.1
        refine ⟨⟨hid.1, hid.2, ?_, ?_, ?_, ?_, ?_⟩, ?_⟩
        · show 0 ≤ r.f.Size; omega
        · show r.f.Size ≤ 8; omega
        · show (byb v.toNat t.1).length ≤ 64; omega
        · exact byb_range _ _ g1
        · intro _
          show scontainsS fsizes ((byb v.toNat t.1).length : Int) = true
          rw [hbl]
          have : ((v.toNat : Nat) : Int) = v := by omega
          rw [this]
          exact v3
        · rw [fheadS_len]
          show (((1 + (if r.f.Long = false then 13 else 32) + (if r.f.Fast = true then 4 else if r.f.Long = true then 2 else 1) + 4 + 8 * (byb v.toNat t.1).length : Nat)) : Int) ≤ t.2.Reader.At
          rw [hbl]
          have := hst2 hcode
          have : (((1 + (if r.f.Long = false then 13 else 32) + (if r.f.Fast = true then 4 else if r.f.Long = true then 2 else 1) + 4 + 8 * v.toNat : Nat)) : Int) = (1 + (if r.f.Long = false then 13 else 32) + (if r.f.Fast = true then 4 else if r.f.Long = true then 2 else 1)) + 4 + 8 * v := by
            rw [Int.natCast_add, Int.natCast_mul]
            have e : ((v.toNat : Nat) : Int) = v := by omega
            rw [e]
            have e2 : (((1 + (if r.f.Long = false then 13 else 32) + (if r.f.Fast = true then 4 else if r.f.Long = true then 2 else 1) + 4 : Nat)) : Int) = (1 + (if r.f.Long = false then 13 else 32) + (if r.f.Fast = true then 4 else if r.f.Long = true then 2 else 1)) + 4 := by split <;> split <;> (try split) <;> rfl
            rw [e2]
            rfl
          omega
theorem fRead_ok (b : List UInt8) : fRead_vc b (fun q => q = readS b) := by
  refine ⟨fun h1 => ?_, fun h1 => ?_⟩
  · unfold readS
    rw [if_pos (by simpa using h1)]
    rfl
  · have h1 : bcheckS b = 0 := by simpa using h1
    obtain ⟨hl, hr⟩ := (bcheck_zero b).1 h1
    have hS : readS b = if (readR b).Reader.Code ≠ 0 then (f0, 0, (readR b).Reader.Code) else ((readR b).f, (readR b).Reader.At, 0) := by
      unfold readS
      rw [if_neg (by rw [h1]; simp)]
    rw [hS]
    have h0 : Rok (rstart b).Reader := ⟨Int.le_refl 0, by show (0 : Int) ≤ (b.length : Int); omega, by show b.length ≤ 1000000; omega, hr, Int.le_refl 0, by show (0 : Int) ≤ 4; omega⟩
    refine ⟨h0, ?_⟩
    rintro n hn _
    have hN : rnamesS (rstart b) = n := hn
    obtain ⟨k1, k2, k3, k4⟩ := names_step h0
    have hnR := rnamesS_Rok h0
    have hb : 0 ≤ (rnumberS n 4).1 ∧ (rnumberS n 4).1 < 2 ^ 4 := by rw [← hN]; exact rnumberS_bound (n := 4) hnR
    have p4 : (2 : Int) ^ 4 = 16 := rfl
    rw [hN] at k1 k2 k3 k4 hnR
    refine ⟨⟨hnR, by decide, by decide⟩, ?_⟩
    rintro a rfl _
    have hgood := rd1_good hnR k1 k2 k3 k4
    refine ⟨fun y => y = rd1 n, ⟨fun h2 => ?_, fun h2 => ⟨fun h3 => ?_, fun h3 => ⟨fun h4 => ?_, fun h4 => ?_⟩⟩⟩, ?_⟩
    · unfold rd1
      rw [if_pos (by simpa using h2)]
    · rintro y rfl _
      have h3 : (rnumberS n 4).2.f.Fast = false ∧ 8 < (rnumberS n 4).1 := by simpa using h3
      rw [rnumberS_f] at h3
      unfold rd1
      rw [if_neg (by simpa using h2), if_pos h3]
    · have h3 : ¬ ((rnumberS n 4).2.f.Fast = false ∧ 8 < (rnumberS n 4).1) := by simpa using h3
      rw [rnumberS_f] at h3 h4
      unfold rd1
      rw [if_neg (by simpa using h2), if_neg h3, if_pos h4]
      rw [rnumberS_f]
    · have h3 : ¬ ((rnumberS n 4).2.f.Fast = false ∧ 8 < (rnumberS n 4).1) := by simpa using h3
      intro _
      refine ⟨⟨hb.1, by show _ < (16 : Int); omega⟩, fun q hq => ?_⟩
      obtain ⟨v1, v2, v3⟩ := sizes_at hq
      rw [w64_eq _ (by omega)]
      refine ⟨⟨rnumberS_Rok hnR, by omega⟩, ?_⟩
      rintro t rfl _ _
      rw [rnumberS_f] at h3 h4
      unfold rd1
      rw [if_neg (by simpa using h2), if_neg h3, if_neg (by rw [h4]; simp), hq, Option.getD_some]
      have hf : (rtakeFS (rnumberS n 4).2 (8 * q)).2.f = n.f := by rw [rtakeFS_f, rnumberS_f]
      rw [hf]
    · rintro y rfl
      have hX : readR b = rd3 (rd2 (rd1 n)) := by unfold readR; rw [hN]
      rw [hX]
      generalize rd1 n = y at *
      have h2R : Rok (rd2 y).Reader := by
        unfold rd2
        split
        · exact rfastS_Rok hgood.1
        · split
          · split
            · exact rfailS_Rok (take_RokI hgood.1 (by decide))
            · exact take_RokI hgood.1 (by decide)
          · exact hgood.1
      refine ⟨fun z => z = rd2 y, ⟨fun h2 => ⟨hgood, ?_⟩, fun h2 => ⟨fun h3 => ?_, fun h3 => ?_⟩⟩, ?_⟩
      · rintro _ rfl _
        unfold rd2
        rw [if_pos h2]
      · have h3 : y.Reader.Code = 0 := by simpa using h3
        refine ⟨(hgood.2 h3).1, ⟨hgood.1, by decide⟩, ?_⟩
        rintro t rfl _
        have hS2 : rd2 y = if (rtakeFS y 15).2.Reader.Code = 0 ∧ (rtakeFS y 15).1 ≠ (csumS 0 (fheadS y.f)).1 then rfailS (rtakeFS y 15).2 6 else (rtakeFS y 15).2 := by
          unfold rd2
          rw [if_neg (by rw [h2]; simp), if_pos h3]
        rw [hS2]
        refine ⟨fun h4 => ?_, fun h4 => ?_⟩
        · rintro _ rfl _
          rw [if_pos (by simpa using h4)]
        · rw [if_neg (by simpa using h4)]
      · unfold rd2
        rw [if_neg (by rw [h2]; simp), if_neg (by simpa using h3)]
      · rintro z rfl
        generalize rd2 y = z at *
        have h2R' := h2R
        obtain ⟨a0, a1, a2, a3, a4, a5⟩ := h2R
        refine ⟨⟨⟨a0, a1, a2⟩, by decide⟩, ?_⟩
        rintro t ht _
        have hlen : t.2.Reader.Code = 0 → t.1.length = 10 := by
          intro e
          rw [← ht] at e ⊢
          exact rplainS_len (n := 10) h2R' (by decide) e
        have hS3 : rd3 z = if t.2.Reader.Code = 0 ∧ (t.1.take 1 ++ [49]) ++ t.1.drop 2 ≠ tail10 then rfailS t.2 4 else t.2 := by
          unfold rd3
          rw [ht]
        rw [hS3]
        refine ⟨fun h2 => ?_, fun h2 => ⟨fun h3 => ?_, fun h3 => ?_⟩⟩
        · have h2 : t.2.Reader.Code = 0 := by simpa using h2
          have hl10 := hlen h2
          refine ⟨⟨by decide, by omega⟩, ?_, ⟨by decide, by omega⟩, ?_, ?_⟩
          · show (((t.1.take 1).length : Int)) + (1 : Int) ≤ _
            rw [List.length_take]; omega
          · show ((((t.1.take 1) ++ ([49] : List UInt8)).length : Int)) + (((t.1.drop 2).length : Int)) ≤ _
            rw [List.length_append, List.length_take, List.length_drop]; simp; omega
          · refine ⟨fun w => w = if t.2.Reader.Code = 0 ∧ (t.1.take 1 ++ [49]) ++ t.1.drop 2 ≠ tail10 then rfailS t.2 4 else t.2, ⟨fun h4 => ?_, fun h4 => ?_⟩, ?_⟩
            · rintro _ rfl _
              have h4 : (t.1.take 1 ++ [49]) ++ t.1.drop 2 ≠ tail10 := bne_iff_ne.1 h4
              rw [if_pos ⟨h2, h4⟩]
            · have h4 : ¬ (t.1.take 1 ++ [49]) ++ t.1.drop 2 ≠ tail10 := by
                intro e
                have := bne_iff_ne.2 e
                rw [show ((t.1.take 1 ++ [49]) ++ t.1.drop 2 != tail10) = false from h4] at this
                cases this
              rw [if_neg (fun e => h4 e.2)]
            · rintro w rfl
              refine ⟨fun h4 => ?_, fun h4 => ?_⟩
              · rw [if_pos (by simpa using h4)]
                rfl
              · rw [if_neg (by simpa using h4)]
        · have hn2 : ¬ (t.2.Reader.Code = 0 ∧ (t.1.take 1 ++ [49]) ++ t.1.drop 2 ≠ tail10) := fun e => by have := e.1; simp [this] at h2
          rw [if_neg hn2]
          rw [if_pos (by simpa using h3)]
          rfl
        · have h3 : t.2.Reader.Code = 0 := by simpa using h3
          rw [h3] at h2; cases h2

end Go.Proofs.YtmbdcehmeiiaoaaDoor
